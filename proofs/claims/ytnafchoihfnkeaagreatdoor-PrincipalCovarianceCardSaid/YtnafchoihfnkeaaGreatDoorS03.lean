/- Parts of one proof, joined by a program. -/
import Derived.Test.YtnafchoihfnkeaaGreatDoorS02
import Derived.Laws.AppendOwn
import Derived.Laws.MakeOwn
import Derived.IntWalk
import Derived.Lib.TrimByte
import Derived.Lib.ItoaNum
import Derived.Laws.IdiomStrings
set_option linter.defProp false
set_option linter.unusedVariables false
set_option linter.unusedSimpArgs false
set_option linter.unusedSectionVars false
set_option maxHeartbeats 16000000
namespace Go.Proofs.YtnafchoihfnkeaaGreatDoor
open Go.Proofs.Tryz
open Go.RowKit
def A1c:=@Int.mul_ne_zero
def Azl:=@List.flatMap_cons
def Ax3:=@List.mem_flatMap
def Ay0:=@Array.getElem?_eq_some_iff
def Atl:=@List.getElem?_append_left
def At1:=@List.getElem?_append_right
def Av1:=@List.length_nil
def A12:=@Array.toList_append
def Azm:=@Nat.le_of_succ_le
def Ava:=@List.nil_append
def Av4:=@List.toList_toArray
def A0e:=@List.drop_drop
def A0f:=@List.drop_left
def Ax4:=@List.length_drop
def Atc:=@List.getElem?_eq_some_iff
def Ax5:=@Nat.zero_mul
def A1i:=@List.drop_eq_nil_of_le
def Ayn:=@List.take_append_of_le_length
def Avx:=@List.length_set
def Awx:=@Nat.sub_zero
def Awj:=@Int.tdiv_eq_ediv_of_nonneg
def Az6:=@Int.ediv_nonneg
def A03:=@Int.ediv_le_self
def Aw0:=@Int.tmod_eq_emod_of_nonneg
def A17:=@Int.le_of_lt
def Awa:=@Nat.div_le_self
def A0p:=@Nat.gcd_zero_right
def Avp:=@Int.natAbs_neg
def A18:=@Int.sub_eq_add_neg
def A1j:=@Rat.neg_num
def A1k:=@Rat.neg_den
def Ax7:=@Nat.gcd_pos_of_pos_right
def Ayg:=@Rat.sub_eq_add_neg
def Axp:=@Rat.num_eq_zero
def Aux:=@List.length_singleton
def Ata:=@List.length_map
def A1u:=@List.getElem?_set_ne
def Ah8 {q r:Rat}(d:q.den=1)(e:r.den=1):((q.num+r.num:Int):Rat)=q+r:=by
 rw[Rat.add_def',d,e,Avm,Rat.mkRat_one];simp
def R1 (q r:Rat):Rat.divInt (q.num*(r.den:Int)+r.num*(q.den:Int)) ((q.den:Int)*(r.den:Int))=q+r:=by
 rw[Rat.add_def',<-Azx,Aws]
def Yh {y z:Int}{k:Nat}(d:nl y.natAbs<=k)(e:nl z.natAbs<=k):nl (y+z).natAbs<=k+1:=by
 have:=Al2 y.natAbs z.natAbs;have f:nl (y+z).natAbs<=nl (y.natAbs+z.natAbs):=Ct oV;omega
theorem Zd (q r:Rat):(q.den:Int)*(r.den:Int)≠0:=by
 have e1:=q.den_nz;have e2:=r.den_nz;exact A1c oV oV
section
variable {b n off:Nat}{env:Operand->Value}{o:Op}{q:Rat}{v x:Value}{w:World}
instance:A7 prog:=⟨kV,kV⟩
def Tv (u:PH)(b off:Nat)(x:Value):Prop:=∃ cs t fr,u b=some (.cells cs t fr)/\cs[off]?=some x
def Tv.mono {u d:PH}(h:Tv u b off x)(g:PH.le u d):Tv d b off x:=by
 obtain⟨cs,t,fr,e,f⟩:=h;exact⟨cs,t,fr,g _ _ e,f⟩
def Tv.cell {u:PH}{w:World}{b off:Nat}{x:Value}(h:Tv u b off x)(hp:Em u w):w.cell? ⟨b,off,none⟩=some x:=by
 obtain⟨cs,t,fr,d,e⟩:=h;simp[World.cell?,hp _ _ d,e]
def ElP (u:PH)(b off:Nat)(e:Value):Prop:=∀ (i:Nat) (x:Value),e.cells[i]?=some x->Tv u b (off+i) x
def ElP.mono {u d:PH}{b off:Nat}{e:Value}(h:ElP u b off e)(f:PH.le u d):ElP d b off e:=fun i x hi=>(h i x hi).mono f
def Zz (k:Option Nat)(e:Value):Bool :=
 match k with
 |some n=>match e with
  |.agg cs=>Nat.beq n cs.size
  |_=>false
 |none=>match e with|.agg _=>false|_=>true
def Ad7 (u:PH)(a:Option Addr)(cs:List Value):Prop:=∀ j,j<cs.length->∃ b off,a=some ⟨b,off,none⟩/\Tv u b (off+j) (cs.getD j (.bool false))
def Cu (u:PH)(v:Value)(n:Nat):Prop:=∃ a cap,v=.slice a (Aa n).length cap/\(Aa n).length<=cap/\Ad7 u a (Ay (Aa n))
def Bx (u:PH)(v:Value)(z:Int):Prop:=∃ a n c,v=.agg #[.bool (decide (z<0)),.slice a n c]/\Cu u (.slice a n c) z.natAbs
def An (u:PH)(v:Value)(q:Rat):Prop :=
 ∃ a n c a' n' c',v=.agg #[.bool (decide (q.num<0)),.slice a n c,.bool false,.slice a' n' c']/\Cu u (.slice a n c) q.num.natAbs/\Cu u (.slice a' n' c') q.den
def Cu.mono {u d:PH}{v:Value}{n:Nat}(h:Cu u v n)(C:PH.le u d):Cu d v n:=by
 obtain⟨a,cap,g,t,z⟩:=h;exact⟨a,cap,g,t,fun j A=>by obtain⟨b,off,e,f⟩:=z j A;exact⟨b,off,e,f.mono C⟩⟩
def Bx.mono {u d:PH}{v:Value}{z:Int}(h:Bx u v z)(g:PH.le u d):Bx d v z:=by
 obtain⟨a,n,c,e,f⟩:=h;exact⟨a,n,c,e,f.mono g⟩
def An.mono {u e:PH}{v:Value}{q:Rat}(h:An u v q)(d:PH.le u e):An e v q:=by
 obtain⟨a,n,c,f,z,c',g,j,t⟩:=h;exact⟨a,n,c,f,z,c',g,j.mono d,t.mono d⟩
def Cu.toW {u:PH}(h:Cu u v n)(hp:Em u w):Ci w v n:=by
 obtain⟨a,cap,f,g,t⟩:=h;exact⟨a,cap,f,g,fun j z=>by obtain⟨b,off,d,e⟩:=t j z;exact⟨b,off,d,e.cell hp⟩⟩
def Bx.toW {u:PH}{w:World}{v:Value}{z:Int}(h:Bx u v z)(hp:Em u w):Oi w v z:=by
 obtain⟨a,n,c,d,e⟩:=h;exact⟨a,n,c,d,e.toW hp⟩
def An.toW {u:PH}{w:World}{v:Value}{q:Rat}(h:An u v q)(hp:Em u w):Tj w v q:=by
 obtain⟨a,n,c,d,j,c',e,f,g⟩:=h;exact⟨a,n,c,d,j,c',e,f.toW hp,g.toW hp⟩
def Cu.ofW {u:PH}(h:Ci w v n)(D:Abu u w):Cu u v n:=by
 obtain⟨a,cap,z,A,C⟩:=h;refine⟨a,cap,z,A,fun j f=>?_⟩;obtain⟨b,off,g,d⟩:=C j f;refine⟨b,off,g,?_⟩;have e:j<(Aa n).length:=by simpa using f
 have E:(Ay (Aa n)).getD j (.bool false)=.int .u64 ((Aa n).getD j 0:Nat):=by simp[Ay,e]
 rw[E]at d⊢;unfold World.cell? at d;simp only at d;split at d
 ·rename_i cs t fr hb;simp at d;exact⟨cs,t,fr,D b cs t fr _ _ hb d,d⟩
 cases d
def Bx.ofW {u:PH}{w:World}{v:Value}{z:Int}(h:Oi w v z)(f:Abu u w):Bx u v z:=by
 obtain⟨a,n,c,d,e⟩:=h;exact⟨a,n,c,d,Cu.ofW e f⟩
def Bx.opn {u:PH}{z:Int}(h:Bx u v z):∃ b a n c,v=.agg #[.bool b,.slice a n c]:=by
 obtain⟨a,n,c,rfl,_⟩:=h;exact⟨_,a,n,c,rfl⟩
def An.opn {u:PH}(h:An u v q):∃ b a n c b' d e c',v=.agg #[.bool b,.slice a n c,.bool b',.slice d e c']:=by
 obtain⟨a,n,c,d,e,c',rfl,_⟩:=h;exact⟨_,a,n,c,_,d,e,c',rfl⟩
def An.num {u:PH}{b b':Bool}{a e:Option Addr}{n g c c':Nat}(h:An u (.agg #[.bool b,.slice a n c,.bool b',.slice e g c']) q):Bx u (.agg #[.bool b,.slice a n c]) q.num:=by
 obtain⟨_,_,_,_,_,_,d,f,j⟩:=h;simp only[Value.agg.injEq,Axh,Ave,Value.bool.injEq,Value.slice.injEq,and_true]at d;obtain⟨rfl,⟨rfl,rfl,rfl⟩,rfl,rfl,rfl,rfl⟩:=d;exact⟨_,_,_,rfl,f⟩
def An.den {u:PH}{b b':Bool}{a d:Option Addr}{n f c c':Nat}{q:Rat}(h:An u (.agg #[.bool b,.slice a n c,.bool b',.slice d f c']) q):Bx u (.agg #[.bool b',.slice d f c']) q.den:=by
 obtain⟨_,_,_,_,_,_,e,j,g⟩:=h;simp only[Value.agg.injEq,Axh,Ave,Value.bool.injEq,Value.slice.injEq,and_true]at e;obtain⟨rfl,⟨rfl,rfl,rfl⟩,rfl,rfl,rfl,rfl⟩:=e;refine⟨_,_,_,?_,by rw[Atv];exact g⟩;rw[show decide (((q.den:Nat):Int)<0)=false by simp only[decide_eq_false_iff_not];omega]
def Fn0.ofW {P:Program}{f:FuncId}{args:List Value}{u:PH}{R:Value->PH->Prop}(Q:Value->World->Prop)(h:∀ w,Em u w->Calls P f args.toArray w fun e w'=>∃ v,e=.returned v/\Q v w'/\Ext w w')
 (N:∀ v w' E,Q v w'->Em E w'->Abu E w'->PH.le u E->R v E):Fn0 P f args u R:=by
 intro w C;refine Calls.mono (h w C.pu) fun e w' K=>?_;obtain⟨v,H,I,D⟩:=K;have F:w.heap.size<=w'.heap.size:=D.size;have A:∀ g,g<w.heap.size->w'.heap[g]?=w.heap[g]?:=fun g C=>Below.block D g C;have g1:Em (fun g=>if g<w.heap.size then u g else w'.heap[g]?) w':=by
  intro g o d;simp only at d;split at d
  ·rename_i hlt;rw[A g hlt];exact C.pu g o d
  exact d
 have g2:Abu (fun g=>if g<w.heap.size then u g else w'.heap[g]?) w':=by
  intro g cs t fr j z d L;simp only;split
  ·rename_i hlt;rw[A g hlt]at d;exact C.cl g cs t fr j z d L
  exact d
 have J:PH.le u (fun g=>if g<w.heap.size then u g else w'.heap[g]?):=fun g o d=>by simp only;rw[if_pos (C.pu.lt d)];exact d
 refine⟨v,_,PH.mt,H,⟨g1,Em.mt _,fun _=>.inr rfl,g2⟩,⟨F,fun g C _=>A g C,fun g C=>by simp only;rw[if_pos C],fun _ _ h=>h,⟨D.os,D.output⟩,fun f=>f.elim⟩,rfl,N v w' _ I g1 g2 J⟩
section rules
variable [Ca] [Df] [Pu] {P:Program} [A7 P] {fn:Func} {Post:Bz} {st:List KI×S} {u m:PH}
def Wg {k:Option (Option Nat)}(h:A8 P env o=.load k x):∃ t X,o=.load t X/\env X=x/\Tm P t=k:=by
 cases o<;>simp only[A8]at h<;>try cases h
 any_goals ((repeat' split at h)<;>cases h;done)
 exact⟨_,_,rfl,rfl,rfl⟩
def Xr {sz:Option Nat}{x i:Value}(h:A8 P env o=.addr sz x i):∃ t X I,o=.indexAddr t X I/\env X=x/\env I=i/\Me P t=sz:=by
 cases o<;>simp only[A8]at h<;>try cases h
 any_goals ((repeat' split at h)<;>cases h;done)
 exact⟨_,_,_,rfl,rfl,rfl,rfl⟩
def Afn {d:UnOp}(h:A8 P env o=.un d x):∃ t X,o=.unOp d t X/\env X=x:=by
 cases o<;>simp only[A8]at h<;>try cases h
 any_goals ((repeat' split at h)<;>cases h;done)
 exact⟨_,_,rfl,rfl⟩
def Nu {t:TypeId}{k:Option Nat}{e:Value}(d:Tm P t=some k)(f:Zz k e=true)(h:ElP u b off e)(hp:Em u w):(loadVar t ⟨b,off,none⟩).run P w=.ok e w:=by
 unfold Tm at d;unfold loadVar;split at d
 ·rename_i ha;split at d
  ·rename_i n hn;simp at d;subst d;unfold Zz at f;simp only at f;split at f
   ·rename_i cs;have A:=Aug f;have:=run_loadCells_list (P:=P) w ⟨b,off,none⟩ cs.toList (fun j v z=>by rw[Dt];exact (h j v (by simpa[Value.cells] using z)).cell hp);simp only[Sem.run_bind,D3 ha,Result.andThen_ok,if_true,Be hn,A];simp at this;rw[this];simp
   cases f
  cases d
 ·rename_i ha;simp at d;subst d;unfold Zz at f;have g:e.cells = #[e]:=by cases e<;>simp_all [Value.cells]
  have:=(h 0 e (by simp[g])).cell hp;simp[D3 ha];simp at this;simp[this]
 cases d
def G.loadU (z:Option Nat)(b off:Nat)(e:Value)(h:Al P (adv P st)=.load (some z) (.pointer (some ⟨b,off,none⟩)))(H:Zz z e=true)(F:ElP u b off e)(k:G P fn Post (nx (adv P st) e) u m):G P fn Post st u m:=by
 refine G.ask h mV (fun env o d w hp=>?_) k;obtain⟨t,X,j,D,E⟩:=Wg d;obtain⟨C,I,A,pos,f,g⟩:=o;simp only at j;subst j;simp[execOp,Instr.loadAt,Instr.sureAddr,D,Nu E H F (hp rfl).1]
def G.loadM (A:Option Nat)(b off:Nat)(e:Value)(h:Al P (adv P st)=.load (some A) (.pointer (some ⟨b,off,none⟩)))(I:Zz A e=true)(H:ElP m b off e)(k:G P fn Post (nx (adv P st) e) u m)(j:Pu.b=false:=by rfl):G P fn Post st u m:=by
 refine G.ask h mV (fun env o d w hp=>?_) k;obtain⟨t,X,z,E,F⟩:=Wg d;obtain⟨D,J,C,pos,f,g⟩:=o;simp only at z;subst z;simp[execOp,Instr.loadAt,Instr.sureAddr,E,Nu F I H ((hp rfl).2 j)]
def G.addr (b off n c j sz:Nat)(h:Al P (adv P st)=.addr (some sz) (.slice (some ⟨b,off,none⟩) n c) (.int .i64 j))(K:j<n)
 (k:G P fn Post (nx (adv P st) (.pointer (some ⟨b,off+j*sz,none⟩))) u m):G P fn Post st u m:=by
 refine G.ask h mV (fun env o f w hp=>?_) k;obtain⟨t,X,I,A,E,F,d⟩:=Xr f;obtain⟨D,J,C,pos,g,z⟩:=o;simp only at A;subst A;unfold Me at d;split at d
 ·rename_i e hu;have H:(0:Int)<=j/\(j:Int)<n:=oV;simp[execOp,Instr.indexAt,asIntOf,E,F,run_underlying hu,H,Be d,Dt];omega
 cases d
def G.neg (x z:Int)(h:Al P (adv P st)=.un .neg (.int .i64 x))(H:-x=z)(D:-9223372036854775808<=z)(E:z<=9223372036854775807)
 (k:G P fn Post (nx (adv P st) (.int .i64 z)) u m):G P fn Post st u m:=by
 refine G.ask h mV (fun env o d w hp=>?_) k;obtain⟨t,X,g,C⟩:=Afn d;obtain⟨A,F,j,pos,e,f⟩:=o;simp only at g;subst g;have:(0:Int)-x=z:=oV
 simp[execOp,Op.unary,C,Op.intArith,this,Dm D E]
end rules
end
section
variable [Ca] [Pu] [Df]
variable {P:Program} [A7 P] {fn:Func} {Post:Bz} {st:List KI×S} {u m:PH}
def G.a (b off n c j sz:Nat)(hj:j<n)(k:G P fn Post (nx (adv P st) (.pointer (some ⟨b,off+j*sz,none⟩))) u m)(h:Al P (adv P st)=.addr (some sz) (.slice (some ⟨b,off,none⟩) n c) (.int .i64 (j:Int)):=by kernel_rfl):G P fn Post st u m:=G.addr b off n c j sz h hj k
def G.lU (kd:Option Nat)(b off:Nat)(e:Value)(he:ElP u b off e)(k:G P fn Post (nx (adv P st) e) u m)(h:Al P (adv P st)=.load (some kd) (.pointer (some ⟨b,off,none⟩)):=by kernel_rfl)(hs:Zz kd e=true:=by kernel_rfl):G P fn Post st u m:=G.loadU kd b off e h hs he k
theorem G.lM (kd:Option Nat)(b off:Nat)(e:Value)(he:ElP m b off e)(k:G P fn Post (nx (adv P st) e) u m)(h:Al P (adv P st)=.load (some kd) (.pointer (some ⟨b,off,none⟩)):=by kernel_rfl)(hs:Zz kd e=true:=by kernel_rfl)(h00:Pu.b=false:=by rfl):G P fn Post st u m:=G.loadM kd b off e h hs he k h00
end
section
variable {cs z:Array Value}{env:Operand->Value}{es xs:List Value}{g sz:Nat}{o:Oper}{t:TypeId}{v:Value}
variable [Ca] [Df] [Pu]
def PH.upd (m:PH)(g:Nat)(o:Obj):PH:=fun h=>if h=g then some o else m h
def Ab (m:PH)(g:Nat)(o:Obj):m.upd g o g=some o:=by simp[PH.upd]
def Ac (m:PH){g h:Nat}(o:Obj)(d:h≠g):m.upd g o h=m h:=by simp[PH.upd,d]
def Dz (m:PH)(g:Nat)(o o':Obj):(m.upd g o).upd g o'=m.upd g o':=by
 funext h;by_cases e:h=g
 ·subst e;simp[PH.upd]
 simp[PH.upd,e]
def K5 {m:PH}(o:Obj)(h:m g=none):PH.le m (m.upd g o):=fun k x d=>by
 by_cases e:k=g
 ·subst e;rw[h]at d;cases d
 rw[Ac _ _ e];exact d
def Av (es:List Value):List Value:=es.flatMap fun e=>e.cells.toList
def Vv (p:Value->Bool)(sz:Nat)(es:List Value):Prop:=∀ e∈es,e.cells.size=sz/\∀ x∈e.cells.toList,p x=true
abbrev Ax (sz:Nat)(es:List Value):Prop:=Vv Bh sz es
def A4 {p:Value->Bool}{sz:Nat}:∀ {es:List Value},Vv p sz es->(Av es).length=es.length*sz
 |[],_=>by simp[Av]
 |e::es,h=>by
  have f:=(h e mV).1;have d:=A4 (sz:=sz) (es:=es) (fun x j=>h x (Auv _ j));unfold Av at d⊢;simp only[Azl,Atg,d,Auh,Awc,f,At2,Avm];omega
def C1 (a b:List Value):Av (a++b)=Av a++Av b:=by simp[Av]
def E7 (h:Ax sz es):∀ x∈Av es,Bh x=true:=by
 intro x hx;obtain⟨e,he,hx⟩:=Ax3.1 hx;exact (h e he).2 x hx
def Ax.append {a b:List Value}(h:Ax sz a)(k:Ax sz b):Ax sz (a++b):=fun e d=>(Ati.1 d).elim (h e) (k e)
def H9 {p:Value->Bool}{sz:Nat}:∀ {es:List Value},Vv p sz es->∀ {j i:Nat} {e x:Value},es[j]?=some e->e.cells[i]?=some x->(Av es)[j*sz+i]?=some x
 |[],_,j,i,e,x,hj,_=>by simp at hj
 |d::es,h,j,i,e,x,hj,hi=>by
  have f:=(h d mV).1;have A:Vv p sz es:=fun x C=>h x (Auv _ C);have n:Av (d::es)=d.cells.toList++Av es:=by simp[Av]
  rw[n];cases j with
  |zero =>
   simp at hj;subst hj;have:i<d.cells.size:=(Ay0.1 hi).1;rw[Atl gV];simpa using hi
  |succ j =>
   simp at hj;rw[At1 (by simp[f,At2];omega)];have:=H9 A hj hi;rw[<-this];congr 1;simp[f,At2];omega
def Ae (m0 m:PH)(v:Value)(t:TypeId)(sz:Nat)(es:List Value):Prop :=
 Ax sz es/\((v=.slice none 0 0/\es = []/\m=m0) \/
  ∃ g cap rest,m0 g=none/\m=m0.upd g (.cells (Av es++rest).toArray t (0,0))/\v=.slice (some ⟨g,0,none⟩) es.length cap/\es.length<=cap/\(Av es++rest).length=cap*sz/\∀ x∈rest,Bh x=true)
def Ae.nil (m:PH)(t:TypeId)(sz:Nat):Ae m m (.slice none 0 0) t sz []:=⟨fun _ h=>absurd h mV,.inl ⟨rfl,rfl,rfl⟩⟩
theorem Ae.shape {m0 m:PH}(h:Ae m0 m v t sz es):∃ a cap,v=.slice a es.length cap:=by
 rcases h.2 with ⟨rfl,rfl,_⟩|⟨g,cap,rest,_,_,rfl,_⟩
 ·grind
 grind
theorem Dx {P:Program}{t e:TypeId}{sz d:Nat}{z:Value}(h:K4 P t=some (e,sz,d,z)):P.underlying t=some (.slice e)/\∃ i,P.info? e=some i/\i.zero=some z/\i.size=sz/\i.bytes=d:=by
 unfold K4 at h;split at h
 ·grind
 cases h
theorem Hs (h:z.toList.all Bh=true)(n:Nat):∀ x∈(Builtin.zeroCells z n).toList,Bh x=true:=by
 intro x e;simp[Builtin.zeroCells]at e;obtain⟨i,hi,rfl⟩:=e;rw[Atx]at h;by_cases f:z.size=0
 ·grind
 have d:i%z.size<z.size:=Au3 _ oV;refine h _ ?_;rw[getElem!_pos z _ d];simp
def Yj (h:z.toList.all Bh=true)(n:Nat)(f:z.size≠0):∀ x∈(madeCells z n).toList,Bh x=true:=by
 intro x e;simp[madeCells]at e;obtain⟨i,hi,rfl⟩:=e;rw[Atx]at h;have d:i%z.size<z.size:=Au3 _ oV;refine h _ ?_;rw[getElem!_pos z _ d];simp
section worlds
variable {u m:PH} {w:World}
theorem B1.newM (h:B1 u m w)(C:∀ x∈cs.toList,Bh x=true):B1 u (m.upd w.heap.size (.cells cs t (0,0))) (w.alloc (.cells cs t))/\B8 u m w u (m.upd w.heap.size (.cells cs t (0,0))) (w.alloc (.cells cs t))/\m w.heap.size=none/\u w.heap.size=none:=by
 have f:m w.heap.size=none:=h.pm.none (Atb _);have A:u w.heap.size=none:=h.pu.none (Atb _);have g1:=h.alloc (cs:=cs) (t:=t) (fr:=(0,0)) (fun j z e=>Iu (C _ (by obtain⟨D,n⟩:=Ay0.1 e;rw[<-n];simp)) z rfl);refine⟨⟨g1.pu,fun g o d=>?_,fun g=>?_,g1.cl⟩,⟨by rw[Bu];omega,fun g d _=>A9 _ _ d,fun _ _=>rfl,fun g d f=>by rw[Ac _ _ oV];exact f,⟨rfl,rfl⟩,fun _=>⟨rfl,Atb _⟩⟩,f,A⟩
 ·by_cases e:g=w.heap.size
  ·subst e;rw[Ab]at d;rw[Cf];exact d
  rw[Ac _ _ e]at d;exact g1.pm g o d
 by_cases e:g=w.heap.size
 ·grind
 rw[Ac _ _ e];exact h.ap g
def B1.drew' (h:B1 u m w):B1 u m w.drew:=⟨h.pu,h.pm,h.ap,h.cl⟩
def B1.less (h:B1 u m w){f:PH}(j:PH.le f m):B1 u f w:=by
 refine⟨h.pu,fun g o d=>h.pm g o (j g o d),fun g=>(h.ap g).imp id fun e=>?_,h.cl⟩;cases d:f g with
 |none=>rfl
 |some o=>rw[j g o d]at e;cases e
theorem B1.setM (h : B1 u m w)  {cs cs' : Array Value}  (hg : m g = some (.cells cs t (0, 0))) (hw : ∀ x ∈ cs'.toList, Bh x = true) : B1 u (m.upd g (.cells cs' t (0, 0))) (w.setRow g cs') ∧ B8 u m w u (m.upd g (.cells cs' t (0, 0))) (w.setRow g cs') := by
  have hb := h.pm g _ hg
  have hug : u g = none := by rcases h.ap g with e | e
                              · exact e
                              · grind
  have hsame := setRow_heap w g cs cs' t (0, 0) hb
  have hother : ∀ k, k ≠ g → (w.setRow g cs').heap[k]? = w.heap[k]? := fun k hk => setRow_other w g k cs' hk
  refine ⟨⟨fun k o hk => ?_, fun k o hk => ?_, fun k => ?_, fun k cs1 t1 fr1 j z hk hj => ?_⟩, ⟨by rw [setRow_size]; exact Atb _, fun k hk hm => hother k (fun e => by rw [e, hg] at hm; cases hm), fun _ _ => rfl, fun k hk hm => by rw [Ac _ _ (fun e => by rw [e, hg] at hm; cases hm)]; exact hm, ⟨rfl, rfl⟩, fun _ => ⟨rfl, Atb _⟩⟩⟩
  · rw [hother k (fun e => by rw [e, hug] at hk; cases hk)]; exact h.pu k o hk
  · by_cases e : k = g
    · subst e; rw [Ab] at hk; rw [hsame]; exact hk
    · rw [Ac _ _ e] at hk; rw [hother k e]; exact h.pm k o hk
  · by_cases e : k = g
    · grind
    · rw [Ac _ _ e]; exact h.ap k
  · by_cases e : k = g
    · subst e
      rw [hsame] at hk
      obtain ⟨rfl, _, _⟩ := hk
      obtain ⟨hlt, he⟩ := Ay0.1 hj
      exact absurd he (Iu (hw _ mV) z)
    · rw [hother k e] at hk; exact h.cl k cs1 t1 fr1 j z hk hj
theorem B1.newU (h:B1 u m w)(o:Obj):B1 (u.upd w.heap.size o) m (w.alloc o)/\B8 u m w (u.upd w.heap.size o) m (w.alloc o)/\m w.heap.size=none/\u w.heap.size=none:=by
 have n:m w.heap.size=none:=h.pm.none (Atb _);have C:u w.heap.size=none:=h.pu.none (Atb _);refine⟨⟨fun g o' d=>?_,fun g o' d=>?_,fun g=>?_,fun g cs t fr j z d A=>?_⟩,⟨by rw[Bu];omega,fun g d _=>A9 _ _ d,fun g d=>Ac _ _ oV,fun g d n=>n,⟨rfl,rfl⟩,fun _=>⟨rfl,Atb _⟩⟩,n,C⟩
 ·by_cases e:g=w.heap.size
  ·subst e;rw[Ab]at d;rw[Cf];exact d
  rw[Ac _ _ e]at d;rw[A9 _ _ (h.pu.lt d)];exact h.pu g o' d
 ·rw[A9 _ _ (h.pm.lt d)];exact h.pm g o' d
 ·by_cases e:g=w.heap.size
  ·grind
  rw[Ac _ _ e];exact h.ap g
 by_cases e:g=w.heap.size
 ·subst e;rw[Cf]at d;rw[Ab];exact d
 rw[Ac _ _ e];have f:=B0 d;rw[Bu]at f;rw[A9 _ _ oV]at d;exact h.cl g cs t fr j z d A
end worlds
def Ex (u:PH)(b off sz:Nat)(xs:List Value):Prop:=∀ j e,xs[j]?=some e->ElP u b (off+j*sz) e
def Ex.mono {u d:PH}{b off sz:Nat}{xs:List Value}(h:Ex u b off sz xs)(n:PH.le u d):Ex d b off sz xs:=fun j e f=>(h j e f).mono n
def Tr {sz:Nat}(E:0<sz):∀ {xs:List Value},Ax sz xs->∀ {k:Nat} {x:Value},(Av xs)[k]?=some x->∃ j i e,k=j*sz+i/\xs[j]?=some e/\e.cells[i]?=some x
 |[],_,k,x,h=>by simp[Av]at h
 |d::xs,ho,k,x,h=>by
  have D:=(ho d mV).1;have f:Av (d::xs)=d.cells.toList++Av xs:=by simp[Av]
  rw[f,Axx]at h;split at h
  ·exact⟨0,k,d,mV,mV,by simpa using h⟩
  rename_i hk;obtain⟨j,i,e,n,A,C⟩:=Tr E (fun x F=>ho x (Auv _ F)) h;refine⟨j+1,i,e,?_,by simpa using A,C⟩;simp[D]at n hk;rw[At2];omega
def Ex.cells {u:PH}{w:World}{b off sz:Nat}(C:0<sz)(h:Ex u b off sz xs)(A:Ax sz xs)(hp:Em u w):∀ j v,(Av xs)[j]?=some v->w.cell? ((⟨b,off,none⟩:Addr).add j)=some v:=by
 intro k x n;obtain⟨j,i,e,rfl,d,f⟩:=Tr C A n;rw[Dt];have:=(h j e d i x f).cell hp;rw[show off+(j*sz+i)=off+j*sz+i by omega];exact this
section rules
variable {P:Program} [A7 P] {fn:Func} {Post:Bz} {st:List KI×S} {u m:PH}
def Bs {w w':World}{K:Value->World->Prop}(h:(execOp env o).run P w=.ok (.value v) w')(d:K v w'):E2 P env o w K:=by
 unfold E2;rw[h];exact d
theorem D5 {d:Option (TypeId×Nat×Nat×Value)}(h:A8 P env o.op=.app d true xs):Lj o.op=true/\Ek o.op=false/\∃ t,K4 P t=d/\∀ w,(execOp env o).run P w=((Builtin.append_ #[t,t] o.type xs.toArray).run P w).andThen fun v w'=>.ok (.value v) w':=by
 obtain⟨E,n,C,pos,e,f⟩:=o;cases n<;>simp only[A8]at h<;>try cases h
 ·grind
 rename_i c;obtain⟨D,args,A⟩:=c;simp only at h;split at h
 ·grind
 ·split at h
  ·split at h
   ·rename_i t t' htt;simp only[Vk.app.injEq]at h;obtain⟨rfl,F,rfl⟩:=h;have:=Aug F;have j:A = #[t,t]:=by grind
    refine⟨rfl,rfl,t,rfl,fun w=>?_⟩;have:(args.map env)=(args.toList.map env).toArray:=by grind
    simp[execOp,resolve,invoke,builtin,j,this]
   cases h
  cases h
 cases h
theorem Ou {t e:TypeId}{sz bt:Nat}{z:Value}(m0:PH)(es xs:List Value)(v:Value)(b off n c:Nat)(ty:TypeId)(hi:K4 P t=some (e,sz,bt,z))(hz:z.cells.toList.all Bh=true)(a1:z.cells.size=sz)(a9:0<sz)
 (U:Ae m0 m v e sz es) (R:Ax sz xs) (F:xs.length=n) (a6:0<n) (hb:(es.length+n)*bt<=140737488355328) (a2:es.length+n<=9223372036854775807) {w:World} (I:B1 u m w)
 (H:∀ j v,(Av xs)[j]?=some v->w.cell? ((⟨b,off,none⟩:Addr).add j)=some v) :
 ∃ v' w' m',(Builtin.append_ #[t,t] ty #[v,.slice (some ⟨b,off,none⟩) n c]).run P w=.ok v' w'/\B1 u m' w'/\B8 u m w u m' w'/\Ae m0 m' v' e sz (es++xs):=by
 obtain⟨hu,i,L,X,rfl,rfl⟩:=Dx hi;have C:=A4 R;have O:=U.1.append R;rcases U.2 with ⟨rfl,rfl,rfl⟩|⟨g,cap,rest,W,rfl,rfl,a8,J,Q⟩
 ·simp only[Av1,Aud]at hb a2;have T:=run_append_nil (P:=P) w t ty e i z hu L X ⟨b,off,none⟩ n c (Av xs) (by rw[C,F]) H a6 oV oV;have A:∀ x∈((Av xs).toArray++Builtin.zeroCells z.cells (grownCap w n 0 e-n)).toList,Bh x=true:=fun x d=>by
   simp only[A12,Ati]at d;rcases d with d|d
   ·exact E7 R x d
   exact Hs hz _ x d
  obtain⟨g1,g2,g3,_⟩:=I.drew'.newM (t:=e) A;refine⟨_,_,_,T,g1,⟨g2.sz,g2.old,g2.us,g2.ms,g2.io,fun f=>⟨(g2.dr f).tape,Azm (g2.dr f).dr⟩⟩,O,.inr ⟨w.heap.size,grownCap w n 0 e,(Builtin.zeroCells z.cells (grownCap w n 0 e-n)).toList,g3,?_,?_,?_,?_,Hs hz _⟩⟩
  ·congr 2;apply Ayr;simp
  ·simp[F]
  ·simp only[Ava,F];exact grownCap_ge w n 0 e
  have:=grownCap_ge w n 0 e;simp only[Ava,Atg,C,F,Awc,size_zeroCells,a1];rw[<-At2];congr 1;omega
 have K:=I.pm g _ (Ab _ _ _);have E:=A4 U.1;by_cases D:es.length+n<=cap
 ·have a4:(es.length+n)*i.size<=cap*i.size:=Ats _ D;rw[At2]at a4;have T:=run_append_room (P:=P) w t ty e i hu L g es.length cap (Av es++rest).toArray K ⟨b,off,none⟩ n c (Av xs) (by rw[C,F]) H (fun x d=>Ic (E7 R x d)) D (by simp only[Azi];rw[J,C,F];omega);have e1:(Av es++rest).toArray.toList.take (es.length*i.size)=Av es:=by
   simp only[Av4];rw[<-E,List.take_left]
  rw[e1]at T;have hd:∀ x∈(Av es++rest).toArray.toList.drop (es.length*i.size+(Av xs).length),Bh x=true:=by
   intro x d;simp only[Av4]at d;rw[<-E,<-A0e,A0f]at d;exact Q x (Avz d)
  have A:∀ x∈(Av es++Av xs++(Av es++rest).toArray.toList.drop (es.length*i.size+(Av xs).length)).toArray.toList,Bh x=true:=by
   intro x d;simp only[Av4]at d;rcases Ati.1 d with d|d
   ·rcases Ati.1 d with d|d
    ·exact E7 U.1 x d
    exact E7 R x d
   exact hd x (by simpa using d)
  obtain⟨g1,g2⟩:=I.setM (Ab _ _ _) A;rw[Dz]at g1 g2;refine⟨_,_,_,T,g1,g2,O,.inr ⟨g,cap,_,W,by rw[C1],by simp[F],by simp[F];exact D,?_,hd⟩⟩;rw[C1];simp only[Atg,E,C,F,Av4,Ax4];simp only[Atg,E]at J;omega
 have a0:∀ j v,(Av es)[j]?=some v->w.cell? ((⟨g,0,none⟩:Addr).add j)=some v:=by
  intro j x hj;rw[Dt];simp[World.cell?,K];rw[Atl (by obtain⟨h,_⟩:=Atc.1 hj;exact h)];exact hj
 have T:=run_append_grow (P:=P) w t ty e i z hu L X ⟨g,0,none⟩ es.length cap (Av es) E a0 ⟨b,off,none⟩ n c (Av xs) (by rw[C,F]) H oV oV (growslice_fits oV hb);have A:∀ x∈((Av es).toArray++(Av xs).toArray++Builtin.zeroCells z.cells (grownCap w (es.length+n) cap e-(es.length+n))).toList,Bh x=true:=fun x d=>by
  simp only[A12,Ati]at d;rcases d with (d|d)|d
  ·exact E7 U.1 x d
  ·exact E7 R x d
  exact Hs hz _ x d
 obtain⟨g1,g2,g3,_⟩:=I.drew'.newM (t:=e) A;have V:w.drew.heap.size=w.heap.size:=rfl;rw[V]at g1 g2 g3;have a7:w.heap.size≠g:=fun h=>by have:=B0 K;omega
 have a5:m0 w.heap.size=none:=by
  have:=g3;rw[Ac _ _ a7]at this;exact this
 refine⟨_,_,m0.upd w.heap.size (.cells ((Av es).toArray++(Av xs).toArray++Builtin.zeroCells z.cells (grownCap w (es.length+n) cap e-(es.length+n))) e (0,0)),T,g1.less (fun k o N=>?_),⟨g2.sz,g2.old,g2.us,fun k N Z=>?_,g2.io,fun f=>⟨(g2.dr f).tape,Azm (g2.dr f).dr⟩⟩,O,.inr ⟨w.heap.size,grownCap w (es.length+n) cap e,(Builtin.zeroCells z.cells (grownCap w (es.length+n) cap e-(es.length+n))).toList,a5,?_,?_,?_,?_,Hs hz _⟩⟩
 ·by_cases Y:k=w.heap.size
  ·subst Y;rw[Ab]at N⊢;exact N
  rw[Ac _ _ Y]at N⊢;rw[Ac _ _ (fun h=>by rw[h,W]at N;cases N)];exact N
 ·rw[Ac _ _ oV];by_cases a3:k=g
  ·grind
  rw[Ac _ _ a3]at Z;exact Z
 ·congr 2;apply Ayr;simp[C1]
 ·grind
 ·simp only[Atg,F];exact grownCap_ge w _ cap e
 have:=grownCap_ge w (es.length+n) cap e;rw[C1];simp only[Atg,C,E,Awc,size_zeroCells,a1];rw[<-At2,<-At2];congr 1;omega
theorem G.append (e:TypeId)(sz L:Nat)(z:Value)(m0:PH)(es xs:List Value)(v:Value)(b off n c:Nat)(h:Al P (adv P st)=.app (some (e,sz,L,z)) true [v,.slice (some ⟨b,off,none⟩) n c])(Z:z.cells.toList.all Bh=true)(I:z.cells.size=sz)(C:0<sz)
 (V:Ae m0 m v e sz es) (Y:Ex u b off sz xs) (N:Ax sz xs) (X:xs.length=n) (F:0<n) (W:(es.length+n)*L<=140737488355328) (D:es.length+n<=9223372036854775807)
 (k:∀ j f,Ae m0 f j e sz (es++xs)->G P fn Post (nx (adv P st) j) u f):G P fn Post st u m:=by
 refine G.big (K:=fun j O f=>O=u/\Ae m0 f j e sz (es++xs)) h mV (fun env J H=>(D5 (P:=P) (o:=⟨none,J,0, "",#[],none⟩) H).2.1) (.inr fun env J H=>(D5 (P:=P) (o:=⟨none,J,0, "",#[],none⟩) H).1) (fun env o d w A=>?_) (fun j O f _ hk=>?_)
 ·obtain⟨_,_,t,hi,E⟩:=D5 (P:=P) d;obtain⟨j,w',f,Q,R,T,U⟩:=Ou (P:=P) m0 es xs v b off n c o.type hi Z I C V N X F W D A (Y.cells C N A.pu);exact Bs (by rw[E,Q];rfl) ⟨u,f,R,T,rfl,U⟩
 grind
end rules
end
section
variable [Ca] [Pu] [Df]
variable {P:Program} [A7 P] {fn:Func} {Post:Bz} {st:List KI×S} {u m:PH}
def G.k (e:TypeId)(sz bt:Nat)(z:Value)(m0:PH)(es xs:List Value)(v:Value)(b off n c:Nat)(ha:Ae m0 m v e sz es)(hx:Ex u b off sz xs)(ho:Ax sz xs)(k:∀ v' m',Ae m0 m' v' e sz (es++xs)->G P fn Post (nx (adv P st) v') u m')(h:Al P (adv P st)=.app (some (e,sz,bt,z)) true [v,.slice (some ⟨b,off,none⟩) n c]:=by kernel_rfl)(hz:z.cells.toList.all Bh=true:=by rfl)(hzs:z.cells.size=sz:=by rfl)(hsz:0<sz:=by omega)(hn:xs.length=n:=by rfl)(hn0:0<n:=by omega)(hb:(es.length+n)*bt<=140737488355328:=by simp;omega)(hb2:es.length+n<=9223372036854775807:=by simp;omega):G P fn Post st u m:=G.append e sz bt z m0 es xs v b off n c h hz hzs hsz ha hx ho hn hn0 hb hb2 k
end
section
variable {c j n sz:Nat}{e x y:Value}{env:Operand->Value}{es:List Value}{inf:Option (TypeId×Nat×Nat×Value)}{m0:PH}{o:Op}{t:TypeId}
variable [Ca] [Df] [Pu]
section fill
def Se {p:Value->Bool}{sz:Nat}:∀ (es:List Value) (k:Nat) (cells:Array Value),Vv p sz es->(k+es.length)*sz<=cells.size ->
 Instr.fill (fun i=>some (i*sz,sz)) cells (es.zipIdx k |>.map fun p=>(p.2,p.1))=some (cells.toList.take (k*sz)++Av es++cells.toList.drop ((k+es.length)*sz)).toArray
 |[],k,cells,_,h=>by simp[Instr.fill,Av]
 |e::es,k,cells,ho,h=>by
  have d:=(ho e mV).1;have f:Vv p sz es:=fun x C=>ho x (Auv _ C);have v:(k+(es.length+1))*sz=k*sz+sz+es.length*sz:=by rw[At2,At2];omega
  simp only[Auh]at h;rw[v]at h;simp only[List.zipIdx_cons,Auk];rw[Wb _ _ _ (k*sz) sz _ _ rfl d oV];rw[Se es (k+1) _ f (by simp[d];rw[At2,At2];omega)]
  congr 2
  have g:(cells.toList.take (k*sz)++e.cells.toList).length=(k+1)*sz:=by simp[d,At2];omega
  have z:(cells.toList.take (k*sz)++e.cells.toList++cells.toList.drop (k*sz+sz)).toArray.toList.take ((k+1)*sz)=cells.toList.take (k*sz)++e.cells.toList:=by
   simp only[Av4];rw[<-g,List.take_left]
  have A:(cells.toList.take (k*sz)++e.cells.toList++cells.toList.drop (k*sz+sz)).toArray.toList.drop ((k+1+es.length)*sz)=cells.toList.drop ((k+(es.length+1))*sz):=by
   simp only[Av4];rw[show (k+1+es.length)*sz=(k+1)*sz+es.length*sz by rw[At2],<-g,<-A0e,A0f,A0e]
   congr 1;rw[v]
  rw[z,A];simp[Av]
end fill
section rules
variable {P:Program} [A7 P] {fn:Func} {Post:Bz} {st:List KI×S} {u m:PH}
theorem Fm {d:List (Nat×Value)}(h:A8 P env o=.buildS inf n d):∃ t f,o=.buildSlice t n f/\(f.map fun (i,x)=>(i,env x))=d.toArray/\K4 P t=inf:=by
 cases o<;>simp only[A8]at h<;>try cases h
 any_goals ((repeat' split at h)<;>cases h;done)
 grind
theorem V2 (h:A8 P env o=.make inf x y):∃ t X Y,o=.makeSlice t X Y/\env X=x/\env Y=y/\K4 P t=inf:=by
 cases o<;>simp only[A8]at h<;>try cases h
 any_goals ((repeat' split at h)<;>cases h;done)
 grind
theorem Gk {sz:Option Nat}(h:A8 P env o=.store sz x y):∃ t X Y,o=.store t X Y/\env X=x/\env Y=y/\szB P t=sz:=by
 cases o<;>simp only[A8]at h<;>try cases h
 any_goals ((repeat' split at h)<;>cases h;done)
 grind
theorem G.buildW {p:Value->Bool}(e:TypeId)(sz V:Nat)(z:Value)(es:List Value)(h:Al P (adv P st)=.buildS (some (e,sz,V,z)) es.length (es.zipIdx.map fun p=>(p.2,p.1)))(L:Vv p sz es)(a1:z.cells.size=sz)(N:0<sz)(I:0<es.length)(hb:es.length*sz<=16777216)
 (k:∀ g A,PH.le u A->Ex A g 0 sz es->G P fn Post (nx (adv P st) (.slice (some ⟨g,0,none⟩) es.length es.length)) A m):G P fn Post st u m:=by
 refine G.big (K:=fun U A O=>O=m/\∃ g,U=.slice (some ⟨g,0,none⟩) es.length es.length/\Ex A g 0 sz es) h mV (fun env op hv=>?_) (.inl fun v A O R=>by rw[R.1];exact PH.le_refl _) (fun env o f w E=>?_) (fun U A O a0 R=>?_)
 ·obtain⟨t,qs,rfl,_⟩:=Fm hv;rfl
 ·obtain⟨t,qs,Q,Y,hi⟩:=Fm f;obtain⟨W,a2,T,pos,C,D⟩:=o;simp only at Q;subst Q;obtain⟨hu,i,F,H,rfl,rfl⟩:=Dx hi;obtain⟨g1,g2,g3,g4⟩:=E.newU (.cells (Av es).toArray e (0,0));have Z:=A4 L;have J:es.length*i.size≠0:=by have:=Axa I N;omega
  have d:=Se es 0 ((Array.range (es.length*i.size)).map (z.cells[· % z.cells.size]!)) L mV;have X:((Array.range (es.length*i.size)).map (z.cells[· % z.cells.size]!)).toList.drop (es.length*i.size) = []:=by grind
  simp only[Aud,X]at d;refine Bs (w':=w.alloc (.cells (Av es).toArray e (0,0))) (v:=.slice (some ⟨w.heap.size,0,none⟩) es.length es.length) ?_ ⟨_,m,g1,g2,rfl,_,rfl,?_⟩
  ·simp only[execOp,Y];simp[Instr.buildSlice,run_underlying hu,sizeOf,typeInfo,zeroValue,F,H,J,d,newRow,show ¬ 16777216<es.length*i.size by omega]
  intro j x hj ii y hy;refine⟨_,_,_,Ab _ _ _,?_⟩;rw[Avh,Aud];exact H9 L hj hy
 grind
def G.buildU (e:TypeId)(sz C:Nat)(z:Value)(es:List Value)(h:Al P (adv P st)=.buildS (some (e,sz,C,z)) es.length (es.zipIdx.map fun p=>(p.2,p.1)))(E:Ax sz es)(v:z.cells.size=sz)(f:0<sz)(d:0<es.length)(D:es.length*sz<=16777216)
 (k:∀ g A,PH.le u A->Ex A g 0 sz es->G P fn Post (nx (adv P st) (.slice (some ⟨g,0,none⟩) es.length es.length)) A m):G P fn Post st u m:=G.buildW e sz C z es h E v f d D k
theorem G.make (e : TypeId) (sz bt : Nat) (z : Value) (n : Nat) (h : Al P (adv P st) = .make (some (e, sz, bt, z)) (.int .i64 (n : Int)) (.int .i64 (n : Int))) (hz : z.cells.toList.all Bh = true) (hzs : z.cells.size = sz) (hsz : 0 < sz)
    (hb : bt * n ≤ 281474976710656) (hb2 : n ≤ 9223372036854775807) (k : ∀ v' m', Ae m m' v' e sz (List.replicate n z) → (∃ a, v' = .slice (some a) n n) → G P fn Post (nx (adv P st) v') u m') : G P fn Post st u m := by
  refine G.big (K := fun v' u' m' => u' = u ∧ PH.le m m' ∧ Ae m m' v' e sz (List.replicate n z) ∧ ∃ a, v' = .slice (some a) n n) h mV (fun env op hv => by obtain ⟨t, X, Y, rfl, _⟩ := V2 hv; rfl) (.inl fun v u' m' hk => hk.2.1) (fun env o hview w hgd => ?_) (fun v' u' m' hle hk => ?_)
  · obtain ⟨t, X, Y, e1, e2, e3, hi⟩ := V2 hview
    obtain ⟨dst, opp, type, pos, after, guard⟩ := o
    simp only at e1; subst e1
    obtain ⟨hu, i, hi1, hi2, rfl, rfl⟩ := Dx hi
    have hb' : (i.bytes : Int) * (n : Int) ≤ 281474976710656 := by have : ((i.bytes * n : Nat) : Int) ≤ 281474976710656 := by omega
                                                                   rwa [Aws] at this
    have hr := run_make (P := P) w t e i z hu hi1 hi2 .i64 .i64 n n oV (Int.le_refl _) hb' oV
    obtain ⟨g1, g2, g3, g4⟩ := hgd.newM (t := e) (Yj hz (n * i.size) oV)
    have hok : Ax i.size (List.replicate n z) := fun x hx => by
      rw [Av2 hx]
      exact ⟨hzs, fun y hy => by rw [Atx] at hz; exact hz y hy⟩
    have hflat : (Av (List.replicate n z)).toArray = madeCells z.cells (n * i.size) := by
      apply Array.ext
      · rw [size_madeCells, Azi, A4 hok, Aur]
      · intro j h1 h2
        rw [size_madeCells] at h2
        have hlt : j % i.size < i.size := Au3 _ hsz
        have hq : j / i.size < n := (Au4 hsz).2 h2
        have hget := H9 hok (j := j / i.size) (i := j % i.size) (e := z) (x := z.cells[j % i.size]'oV) (by simp [hq]) mV
        rw [show j / i.size * i.size + j % i.size = j by rw [At7]; exact Avf _ _] at hget
        have : (Av (List.replicate n z)).toArray[j]? = some z.cells[j % i.size] := by grind
        rw [Aup h1] at this
        have h3 := Auq this
        rw [h3]
        simp only [madeCells, Array.getElem_map, Array.getElem_range, hzs]
        rw [getElem!_pos z.cells _ oV]
    refine Bs (w' := w.alloc (.cells (madeCells z.cells (n * i.size)) e (0, 0))) (v := .slice (some ⟨w.heap.size, 0, none⟩) n n) ?_ ⟨u, _, g1, g2, rfl, K5 _ g3, ⟨hok, .inr ⟨w.heap.size, n, [], g3, ?_, by simp, by simp, ?_, by simp⟩⟩, _, rfl⟩
    · simp only [execOp, e2, e3]
      simp [hr]
    · grind
    · rw [Auu, A4 hok, Aur]
  · grind
def On {sz:Nat}:∀ {es:List Value} {j:Nat} {e:Value},Ax sz es->e.cells.size=sz->j<es.length->Av (es.set j e)=(Av es).take (j*sz)++e.cells.toList++(Av es).drop (j*sz+sz)
 |[],j,e,_,_,h=>by simp at h
 |d::es,j,e,ho,he,h=>by
  have v:=(ho d mV).1;have f:∀ d (l:List Value),Av (d::l)=d.cells.toList++Av l:=fun d l=>by simp[Av]
  cases j with
  |zero =>
   rw[Avj,f,f];have:d.cells.toList.length=sz:=by simpa using v
   simp only[Ax5,Ayo,Ava,Aud];rw[<-this,A0f]
  |succ j =>
   rw[Avi,f,f,On (sz:=sz) (fun x E=>ho x (Auv _ E)) he (by simpa using h)];have g:d.cells.toList.length=sz:=by simpa using v
   rw[List.take_append,List.drop_append,g];have z:(j+1)*sz-sz=j*sz:=by rw[At2];omega
   have A:(j+1)*sz+sz-sz=j*sz+sz:=by rw[At2];omega
   have C:d.cells.toList.take ((j+1)*sz)=d.cells.toList:=Atp (by rw[g,At2];omega);have D:d.cells.toList.drop ((j+1)*sz+sz) = []:=A1i (by rw[g,At2];omega);rw[z,A,C,D];simp
def Ax.set (h:Ax sz es)(f:e.cells.size=sz/\∀ x∈e.cells.toList,Bh x=true):Ax sz (es.set j e):=by
 intro x d;rcases Axy d with d|rfl
 ·exact h x d
 exact f
theorem G.storeA {t:TypeId}(sz:Nat)(m0:PH)(es:List Value)(b n c j:Nat)(e:Value)(h:Al P (adv P st)=.store (some sz) (.pointer (some ⟨b,0+j*sz,none⟩)) e)(Q:Ae m0 m (.slice (some ⟨b,0,none⟩) n c) t sz es)(hj:j<es.length)(J:e.cells.size=sz)(U:e.cells.toList.all Bh=true)
 (k:∀ N,Ae m0 N (.slice (some ⟨b,0,none⟩) n c) t sz (es.set j e)->G P fn Post (nx (adv P st) undef) u N):G P fn Post st u m:=by
 refine G.big (K:=fun v' u' N=>u'=u/\v'=undef/\Ae m0 N (.slice (some ⟨b,0,none⟩) n c) t sz (es.set j e)) h mV (fun env op H=>?_) (.inr fun env op H=>?_) (fun env o F w L=>?_) (fun v' u' N _ hk=>?_)
 ·obtain⟨t',X,Y,rfl,_⟩:=Gk H;rfl
 ·obtain⟨t',X,Y,rfl,_⟩:=Gk H;rfl
 ·obtain⟨t',X,Y,e1,e2,e3,ht⟩:=Gk F;obtain⟨T,a2,O,pos,z,A⟩:=o;simp only at e1;subst e1;rw[Atx]at U;rcases Q.2 with ⟨H,_⟩|⟨g,cap,rest,Z,rfl,H,I,v,d⟩
  ·grind
  obtain⟨rfl,rfl,rfl⟩:=H;have a0:=L.pm b _ (Ab _ _ _);have W:=A4 Q.1;have a1:j*sz+sz<=es.length*sz:=by
   have:=Ats sz (show j+1<=es.length by omega);rw[At2]at this;omega
  have E:=run_storeCells_at P b (j*sz) t e.cells.toList 0 (Av es++rest).toArray w a0 (by simp[J];omega) (fun x R=>Ic (U x R));simp only[Avb,Awc,J]at E;have f:(Av es++rest).take (j*sz)++e.cells.toList++(Av es++rest).drop (j*sz+sz)=Av (es.set j e)++rest:=by
   rw[On Q.1 J hj,Ayn oV,List.drop_append_of_le_length oV];simp
  rw[f]at E;have D:=Q.1.set (j:=j) (e:=e) ⟨J,U⟩;have C:∀ x∈(Av (es.set j e)++rest).toArray.toList,Bh x=true:=by
   intro x R;simp only[Ati]at R;exact R.elim (E7 D x) (d x)
  obtain⟨g1,g2⟩:=L.setM (Ab _ _ _) C;rw[Dz]at g1 g2;unfold E2;have V:(execOp env ⟨T,.store t' X Y,O,pos,z,A⟩).run P w=.ok .skip (w.setRow b (Av (es.set j e)++rest).toArray):=by
   simp only[execOp,e2,e3];simp[Instr.storeAt,Instr.sureAddr,storeVar,Be ht,J,E]
  rw[V];refine⟨u,_,g1,g2,rfl,rfl,D,.inr ⟨b,c,rest,Z,rfl,mV,by simpa using I,?_,d⟩⟩;simp only[Atg,A4 D,Avx,W]at v⊢;exact v
 grind
theorem Ae.el {b n c j:Nat}(f:Ae m0 m (.slice (some ⟨b,0,none⟩) n c) t sz es)(D:es[j]?=some e):ElP m b (0+j*sz) e:=by
 rcases f.2 with ⟨A,_⟩|⟨g,cap,rest,C,rfl,A,v,z,d⟩
 ·grind
 obtain⟨rfl,rfl,rfl⟩:=A;intro i x E;refine⟨_,_,_,Ab _ _ _,?_⟩;rw[Avh,Aud];have:=H9 f.1 D E;rw[Atl (by obtain⟨h,_⟩:=Atc.1 this;exact h)];exact this
theorem Ae.len {a:Option Addr}(d:Ae m0 m (.slice a n c) t sz es):n=es.length:=by
 rcases d.2 with ⟨h,rfl,_⟩|⟨g,cap,rest,f,rfl,h,_⟩
 ·grind
 grind
theorem Ae.ptr {v:Value}(d:Ae m0 m v t sz es)(h:es≠[]):∃ b c,v=.slice (some ⟨b,0,none⟩) es.length c:=by
 rcases d.2 with ⟨_,rfl,_⟩|⟨g,cap,rest,f,rfl,z,_⟩
 ·grind
 grind
def Ad (u:PH)(v:Value)(sz:Nat)(es:List Value):Prop:=∃ a c,v=.slice a es.length c/\es.length<=c/\∀ j e,es[j]?=some e->∃ b off,a=some ⟨b,off,none⟩/\ElP u b (off+j*sz) e
def Ad.mono {u d:PH}{v:Value}{sz:Nat}{es:List Value}(h:Ad u v sz es)(E:PH.le u d):Ad d v sz es:=by
 obtain⟨a,c,z,A,C⟩:=h;exact⟨a,c,z,A,fun j e D=>by obtain⟨b,off,f,g⟩:=C j e D;exact⟨b,off,f,g.mono E⟩⟩
def Ad.nil (u:PH)(a:Option Addr)(c sz:Nat):Ad u (.slice a 0 c) sz []:=⟨a,c,rfl,Atu _,fun j e h=>by simp at h⟩
theorem G.give (m0:PH)(es:List Value)(v:Value)(h:Gf (ctl P 100 st).1=true)(W:Ae m0 m v t sz es)(h0:∀ g,Post.m0 g=none\/m0 g≠none)(k:∀ V,PH.le u V->Ad V v sz es->G P fn Post (ctl P 100 st) V m0):G P fn Post st u m:=by
 refine⟨Jq 100 st ?_⟩;rcases W.2 with ⟨rfl,rfl,rfl⟩|⟨g,cap,rest,F,rfl,rfl,E,X,R⟩
 ·exact (k u (PH.le_refl _) (Ad.nil _ _ _ _)).out
 have N:∀ o,u g=none->PH.le u (u.upd g o):=fun o T=>K5 o T;rw[Sym.ofNo h];intro c ρ a w I d;have H:=d.gd.pm g _ (Ab _ _ _);have U:u g=none:=by
  rcases d.gd.ap g with e|e
  ·exact e
  rw[Ab]at e;cases e
 have Y:c.w0.heap.size<=g:=by
  rcases At8 g c.w0.heap.size with O|a0
  ·have Q:c.m0 g=none:=by
    rw[I];rcases h0 g with e|e
    ·exact e
    exact absurd F e
   have:=d.gr.ms g O Q;rw[Ab]at this;cases this
  grind
 have K:=k (u.upd g (.cells (Av es++rest).toArray t (0,0))) (N _ U) ⟨_,_,rfl,E,fun j e L=>⟨g,0,rfl,fun i x hx=>⟨_,_,_,Ab _ _ _,by
  rw[Avh,Aud];have:=H9 W.1 L hx;rw[Atl (by obtain⟨h,_⟩:=Atc.1 this;exact h)];exact this⟩⟩⟩
 have K:=K.out;rw[Sym.ofNo h]at K;refine K c ρ a w I ⟨d.sz,d.tm,d.df.of fun r e _ T D=>(by
  have C:r≠g:=fun e'=>(by rw[e',Ab]at D;cases D);rw[Ac _ _ C]at D;exact⟨e,by rw[Ac _ _ C];exact T,D⟩),fun Z b hb=>?_,d.inj,d.lv,⟨fun A o f=>?_,fun A o f=>?_,fun A=>?_,fun A cs t' fr j z f L=>?_⟩,⟨d.gr.sz,d.gr.old,fun A f=>?_,fun A f D=>?_,d.gr.io,d.gr.dr⟩⟩
 ·obtain⟨e1,e2,e3,J⟩:=d.box Z b hb;have C:ρ Z≠g:=fun e=>by rw[e,Ab]at J;cases J
  refine⟨e1,e2,by rw[Ac _ _ C];exact e3,?_⟩;rw[Ac _ _ C]at J;exact J
 ·by_cases e:A=g
  ·subst e;rw[Ab]at f;rw[H];exact f
  rw[Ac _ _ e]at f;exact d.gd.pu A o f
 ·refine d.gd.pm A o ?_;rw[Ac _ _ (fun e=>by rw[e,F]at f;cases f)];exact f
 ·by_cases e:A=g
  ·grind
  rw[Ac _ _ e];have:=d.gd.ap A;rw[Ac _ _ e]at this;exact this
 ·by_cases e:A=g
  ·subst e;rw[Ab,<-H];exact f
  rw[Ac _ _ e];exact d.gd.cl A cs t' fr j z f L
 ·rw[Ac _ _ oV];exact d.gr.us A f
 have:=d.gr.ms A f D;rw[Ac _ _ oV]at this;exact this
end rules
end
section
variable [Ca] [Pu] [Df]
variable {P:Program} [A7 P] {fn:Func} {Post:Bz} {st:List KI×S} {u m:PH}
def G.B (e:TypeId)(sz bt:Nat)(z:Value)(es:List Value)(ho:Ax sz es)(k:∀ g u',PH.le u u'->Ex u' g 0 sz es->G P fn Post (nx (adv P st) (.slice (some ⟨g,0,none⟩) es.length es.length)) u' m)(h:Al P (adv P st)=.buildS (some (e,sz,bt,z)) es.length (es.zipIdx.map fun p=>(p.2,p.1)):=by kernel_rfl)(hzs:z.cells.size=sz:=by rfl)(hsz:0<sz:=by omega)(hn0:0<es.length:=by simp)(hb:es.length*sz<=16777216:=by simp):G P fn Post st u m:=G.buildU e sz bt z es h ho hzs hsz hn0 hb k
end
section
variable {a:Option Addr}{c n:Nat}{env:Operand->Value}{l:List Nat}{o:Op}
variable [Ca] [Df] [Pu]
section rules
variable {P:Program} [A7 P] {fn:Func} {Post:Bz} {st:List KI×S} {u m:PH}
def Ik {sz:Option Nat}{x:Value}{lo hi d:Option Value}(h:A8 P env o=.slice sz x lo hi d):∃ t X L H M,o=.slice t X L H M/\env X=x/\L.map env=lo/\H.map env=hi/\M.map env=d/\Me P t=sz:=by
 cases o<;>simp only[A8]at h<;>try cases h
 any_goals ((repeat' split at h)<;>cases h;done)
 exact⟨_,_,_,_,_,rfl,rfl,rfl,rfl,rfl,rfl⟩
def Vm (a:Option Addr):a.map (·.add 0)=a:=by cases a<;>rfl
def G.sliceTo (sz:Nat)(a:Option Addr)(n c k:Nat)(h:Al P (adv P st)=.slice (some sz) (.slice a n c) none (some (.int .i64 k)) none)(N:k<=c)
 (g:G P fn Post (nx (adv P st) (.slice a k c)) u m):G P fn Post st u m:=by
 refine G.ask h mV (fun env o f w hp=>?_) g;obtain⟨t,X,L,H,M,z,D,E,F,I,d⟩:=Ik f;obtain⟨C,K,A,pos,j,v⟩:=o;simp only at z;subst z;unfold Me at d;split at d
 ·rename_i e hu;have J:(0:Int)<=k/\(k:Int)<=c:=oV;simp only[execOp,D,E,F,I];simp only[Instr.sliceAt,Sem.run_bind,run_underlying hu,Result.andThen_ok,Instr.slice,Instr.sliceBounds,Instr.sliceBound,asIntOf,Sem.run_pure,if_true,Option.isSome,Sem.run_ite,Be d,J,and_self,Avo,Ax5,Vm,Awx];simp
 cases d
def G.sliceFrom (b off n c k sz:Nat)(h:Al P (adv P st)=.slice (some sz) (.slice (some ⟨b,off,none⟩) n c) (some (.int .i64 k)) none none)(Q:k<=n)(O:k<c)
 (g:G P fn Post (nx (adv P st) (.slice (some ⟨b,off+k*sz,none⟩) (n-k) (c-k))) u m):G P fn Post st u m:=by
 refine G.ask h mV (fun env o f w hp=>?_) g;obtain⟨t,X,L,H,M,z,D,E,F,I,d⟩:=Ik f;obtain⟨C,N,A,pos,j,v⟩:=o;simp only at z;subst z;unfold Me at d;split at d
 ·rename_i e hu;have J:(0:Int)<=k/\(k:Int)<=n:=oV;have K:¬ (c=k):=oV;simp only[execOp,D,E,F,I];simp only[Instr.sliceAt,Sem.run_bind,run_underlying hu,Result.andThen_ok,Instr.slice,Instr.sliceBounds,Instr.sliceBound,asIntOf,Sem.run_pure,if_true,Option.isSome,Sem.run_ite,Be d,J,and_self,Avo,K,if_false,Awh,Dt]
 cases d
def G.quo (x y z:Int)(h:Al P (adv P st)=.bin .quo (.int .i64 x) (.int .i64 y))(d:0<=x)(j:x<=9223372036854775807)(C:0<y)(e:x/y=z)
 (k:G P fn Post (nx (adv P st) (.int .i64 z)) u m):G P fn Post st u m:=by
 refine G.bin _ h Db (fun t w=>?_) k;have f:x.tdiv y=z:=by rw[Awj d];exact e
 have v:0<=z:=by rw[<-e];exact Az6 d oV
 have A:z<=x:=by rw[<-e];exact A03 _ d
 have g:¬ y=0:=oV
 simp[binOp,Op.intDiv,g,f,Dm (z:=z) oV oV]
def G.rem (x y z:Int)(h:Al P (adv P st)=.bin .rem (.int .i64 x) (.int .i64 y))(g:0<=x)(e:x<=9223372036854775807)(j:0<y)(d:x%y=z)
 (k:G P fn Post (nx (adv P st) (.int .i64 z)) u m):G P fn Post st u m:=by
 refine G.bin _ h Db (fun t w=>?_) k;have v:x.tmod y=z:=by rw[Aw0 g];exact d
 have f:¬ y=0:=oV
 have A:0<=z:=by rw[<-d];exact Int.emod_nonneg _ f
 have C:z<=x:=by rw[<-d];have:=A1m x y;have D:=Int.mul_nonneg (A17 j) (Az6 g (A17 j));omega
 simp[binOp,Op.intDiv,f,v,Dm (z:=z) oV oV]
def Uh {d:BinOp}{x y:Bool}(t:TypeId)(X Y:Operand)(w:World):(eqGuard d t X Y (.bool x) (.bool y)).run P w=.ok () w:=by
 unfold eqGuard;split<;>simp
def Af4 {t:TypeId}(d:P.underlying t=some .bool)(x y:Bool)(w:World):(Op.equal t (.bool x) (.bool y)).run P w=.ok (x==y) w:=by
 unfold Op.equal;rw[show Op.maxDepth=9999+1 from rfl,Op.equalIn];simp[run_underlying d]
def G.eqB (x y:Bool)(h:Al P (adv P st)=.binT .eql (some .bool) (.bool x) (.bool y))(k:G P fn Post (nx (adv P st) (.bool (x==y))) u m):G P fn Post st u m:=by
 refine G.ask h mV (fun env o d w _=>?_) k;obtain⟨t,X,Y,E,e,z,A,C⟩:=Mr d;obtain⟨v,D,j,pos,f,g⟩:=o;simp only at e;subst e;simp[execOp,z,A,Uh,binOp,Af4 C]
def G.neB (x y:Bool)(h:Al P (adv P st)=.binT .neq (some .bool) (.bool x) (.bool y))(k:G P fn Post (nx (adv P st) (.bool (!(x==y)))) u m):G P fn Post st u m:=by
 refine G.ask h mV (fun env o d w _=>?_) k;obtain⟨t,X,Y,E,e,z,A,C⟩:=Mr d;obtain⟨v,D,j,pos,f,g⟩:=o;simp only at e;subst e;simp[execOp,z,A,Uh,binOp,Af4 C]
def Ah (l:List Nat):List Value:=l.map fun (n:Nat)=>Value.int .i64 n
def Cb (u:PH)(v:Value)(l:List Nat):Prop:=Ad u v 1 (Ah l)
def Ag (l:List Nat):(Ah l).length=l.length:=by simp[Ah]
def Cb.mono {u d:PH}{v:Value}{l:List Nat}(h:Cb u v l)(e:PH.le u d):Cb d v l:=Ad.mono h e
def Cb.opn {u:PH}{v:Value}(h:Cb u v l):∃ a c,v=.slice a l.length c/\l.length<=c:=by
 obtain⟨a,c,d,e,_⟩:=h;rw[Ag]at d e;exact⟨a,c,d,e⟩
def Cb.len {u:PH}(h:Cb u (.slice a n c) l):n=l.length/\l.length<=c:=by
 obtain⟨f,c',d,e⟩:=h.opn;simp at d;obtain⟨_,rfl,rfl⟩:=d;exact⟨rfl,e⟩
def Cb.at {u:PH}{a:Option Addr}{n c:Nat}{l:List Nat}(h:Cb u (.slice a n c) l){j:Nat}(f:j<l.length):∃ b off,a=some ⟨b,off,none⟩/\ElP u b (off+j*1) (.int .i64 (l.getD j 0:Nat)):=by
 obtain⟨g,c',d,t,e⟩:=h;simp at d;obtain⟨rfl,_,rfl⟩:=d;exact e j _ (by simp[Ah,f])
def Cb.take {u:PH}(h:Cb u (.slice a n c) l)(k:Nat)(z:k<=l.length):Cb u (.slice a k c) (l.take k):=by
 obtain⟨v,c',f,g,t⟩:=h;simp at f;obtain⟨rfl,_,rfl⟩:=f;rw[Ag]at g;refine⟨a,c,by simp[Ah];omega,by simp[Ah];omega,fun j e d=>?_⟩;refine t j e ?_;simp only[Ah,Ayy,Avu]at d⊢;split at d
 ·exact d
 cases d
def Pb {b:Builtin}{ts:List TypeId}{xs:List Value}(h:A8 P env o=.blt b ts xs):∃ c,o=.call c/\c.callee=.builtin b/\c.argTypes=ts.toArray/\(c.args.map env)=xs.toArray:=by
 cases o<;>simp only[A8]at h<;>try cases h
 ·split at h<;>cases h
 split at h
 ·split at h<;>cases h
 ·rename_i c b' hc;split at h
  ·split at h<;>cases h
  simp only[Vk.blt.injEq]at h;obtain⟨rfl,rfl,rfl⟩:=h;exact⟨_,rfl,hc,mV,by apply Ayr;simp⟩
 cases h
def G.minI (ts:List TypeId)(x y z:Int)(h:Al P (adv P st)=.blt .min ts [.int .i64 x,.int .i64 y])(D:min x y=z)(k:G P fn Post (nx (adv P st) (.int .i64 z)) u m):G P fn Post st u m:=by
 refine G.ask h mV (fun env o d w _=>?_) k;obtain⟨c,g,v,F,A⟩:=Pb d;obtain⟨t,E,j,pos,e,f⟩:=o;simp only at g;subst g;subst D;have C:(if y<x then y else x)=min x y:=by split<;>omega
 simp[execOp,resolve,v,invoke,builtin,A,Builtin.min_,Builtin.min2,C]
def G.maxI (ts:List TypeId)(x y z:Int)(h:Al P (adv P st)=.blt .max ts [.int .i64 x,.int .i64 y])(D:max x y=z)(k:G P fn Post (nx (adv P st) (.int .i64 z)) u m):G P fn Post st u m:=by
 refine G.ask h mV (fun env o d w _=>?_) k;obtain⟨c,g,v,F,A⟩:=Pb d;obtain⟨t,E,j,pos,e,f⟩:=o;simp only at g;subst g;subst D;have C:(if x<y then y else x)=max x y:=by split<;>omega
 simp[execOp,resolve,v,invoke,builtin,A,Builtin.max_,Builtin.max2,C]
def G.appendNil (e:TypeId)(sz F:Nat)(z:Value)(a:Option Addr)(c:Nat)(h:Al P (adv P st)=.app (some (e,sz,F,z)) true [.slice none 0 0,.slice a 0 c])
 (k:G P fn Post (nx (adv P st) (.slice none 0 0)) u m):G P fn Post st u m:=by
 refine G.big (K:=fun E D C=>D=u/\C=m/\E=.slice none 0 0) h mV (fun env Q O=>(D5 (P:=P) (o:=⟨none,Q,0, "",#[],none⟩) O).2.1) (.inl fun v D C A=>by rw[A.2.1];exact PH.le_refl _) (fun env o d w g=>?_) (fun E D C _ A=>?_)
 ·obtain⟨_,_,t,hi,f⟩:=D5 (P:=P) d;obtain⟨N,i,j,H,I,J⟩:=Dx hi;have L:(Builtin.append_ #[t,t] o.type #[.slice none 0 0,.slice a 0 c]).run P w=.ok (.slice none 0 0) w:=by
   cases a<;>simp[Builtin.append_,run_underlying N,sizeOf,typeInfo,j,Builtin.lenOf,Builtin.firstCells,loadCells,loadCellsFrom]
  exact Bs (by rw[f,L];rfl) ⟨u,m,g,B8.refl _ _ _,rfl,rfl,rfl⟩
 obtain⟨rfl,rfl,rfl⟩:=A;exact k
def Ei (l:List Int):List Value:=l.map fun (n:Int)=>Value.int .i64 n
def B4 (l:List Int):(Ei l).length=l.length:=by simp[Ei]
def L4 (l:List Int):Ax 1 (Ei l):=by
 intro e d;simp only[Ei,Ate]at d;obtain⟨n,_,rfl⟩:=d;simp[Value.cells,Bh]
def Jc (l:List Int)(j:Nat)(d:Int):(Ei l).set j (.int .i64 d)=Ei (l.set j d):=by simp[Ei,Axb]
def Qa (l:List Nat):Ei (l.map fun (n:Nat)=>(n:Int))=Ah l:=by simp[Ei,Ah]
def Az (l:List Nat):Ax 1 (Ah l):=by rw[<-Qa];exact L4 _
def Cb.els {u:PH}{b off n c:Nat}(h:Cb u (.slice (some ⟨b,off,none⟩) n c) l):Ex u b off 1 (Ah l):=by
 obtain⟨A,c',f,C,v⟩:=h;simp at f;obtain⟨rfl,_,rfl⟩:=f;intro j e z;obtain⟨b',g,d,t⟩:=v j e z;simp at d;obtain⟨rfl,rfl⟩:=d;exact t
end rules
end
section
variable [Ca] [Df] [Pu]
section rules
variable {P:Program} [A7 P] {fn:Func} {Post:Bz} {st:List KI×S} {u m:PH}
def Ad.els {sz:Nat}{es:List Value}{b off n c:Nat}(h:Ad u (.slice (some ⟨b,off,none⟩) n c) sz es):Ex u b off sz es:=by
 obtain⟨A,c',f,C,v⟩:=h;simp at f;obtain⟨rfl,_,rfl⟩:=f;intro j e z;obtain⟨b',g,d,t⟩:=v j e z;simp at d;obtain⟨rfl,rfl⟩:=d;exact t
def G.append0 (e:TypeId)(sz I:Nat)(z:Value)(a f:Option Addr)(n c c':Nat)(h:Al P (adv P st)=.app (some (e,sz,I,z)) true [.slice a n c,.slice f 0 c'])(J:n<=c)
 (k:G P fn Post (nx (adv P st) (.slice a n c)) u m):G P fn Post st u m:=by
 refine G.big (K:=fun H F E=>F=u/\E=m/\H=.slice a n c) h mV (fun g U T=>(D5 (P:=P) (o:=⟨none,U,0, "",#[],none⟩) T).2.1) (.inl fun v F E D=>by rw[D.2.1];exact PH.le_refl _) (fun g o d w A=>?_) (fun H F E _ D=>?_)
 ·obtain⟨_,_,t,hi,j⟩:=D5 (P:=P) d;obtain⟨R,i,C,L,N,O⟩:=Dx hi;have Q:(Builtin.append_ #[t,t] o.type #[.slice a n c,.slice f 0 c']).run P w=.ok (.slice a n c) w:=by
   cases a<;>cases f<;>simp[Builtin.append_,run_underlying R,sizeOf,typeInfo,C,Builtin.lenOf,Builtin.firstCells,loadCells,loadCellsFrom,J,storeCells]
  exact Bs (by rw[j,Q];rfl) ⟨u,m,A,B8.refl _ _ _,rfl,rfl,rfl⟩
 obtain⟨rfl,rfl,rfl⟩:=D;exact k
def G.appendU (e:TypeId)(sz bt:Nat)(z:Value)(es xs:List Value)(a:Option Addr)(U b off n c:Nat)(h:Al P (adv P st)=.app (some (e,sz,bt,z)) true [.slice a U U,.slice (some ⟨b,off,none⟩) n c])(T:0<sz)
 (ha:Ad u (.slice a U U) sz es) (F:Ax sz es) (hx:Ex u b off sz xs) (ho:Ax sz xs) (Q:xs.length=n) (a0:0<n) (hb:(es.length+n)*bt<=140737488355328) (X:es.length+n<=9223372036854775807)
 (k:∀ J A,PH.le u A->Ad A J sz (es++xs)->G P fn Post (nx (adv P st) J) A m):G P fn Post st u m:=by
 refine G.big (K:=fun J A m'=>m'=m/\Ad A J sz (es++xs)) h mV (fun W op hv=>(D5 (P:=P) (o:=⟨none,op,0, "",#[],none⟩) hv).2.1) (.inl fun v A m' O=>by rw[O.1];exact PH.le_refl _) (fun W o H w g=>?_) (fun J A m' Z O=>?_)
 ·obtain⟨_,_,t,hi,N⟩:=D5 (P:=P) H;obtain⟨hu,i,D,E,rfl,rfl⟩:=Dx hi;have d:=hx.cells T ho g.pu;have C:=A4 ho;have Y:=A4 F;obtain⟨a1,c1,e1,e2,e3⟩:=id ha;simp only[Value.slice.injEq]at e1;obtain⟨rfl,rfl,rfl⟩:=e1;have key:∀ (cap:Nat) (rest:List Value),es.length+n<=cap->Ad (u.upd w.heap.size (.cells (Av (es++xs)++rest).toArray e (0,0))) (.slice (some ⟨w.heap.size,0,none⟩) (es.length+n) cap) i.size (es++xs):=by
   intro cap rest L;refine⟨_,cap,by simp[Q],by simp[Q];exact L,fun j x hj=>⟨_,0,rfl,fun ii y hy=>⟨_,_,_,Ab _ _ _,?_⟩⟩⟩;rw[Avh,Aud];have:=H9 (F.append ho) hj hy;rw[Atl (by obtain⟨h,_⟩:=Atc.1 this;exact h)];exact this
  rcases At5 es.length with h0|h0
  ·have:es = []:=Auo h0;subst this;simp only[Av1,Aud]at hb X;have I:∃ v w',(Builtin.append_ #[t,t] o.type #[.slice a 0 0,.slice (some ⟨b,off,none⟩) n c]).run P w=.ok v w'/\v=.slice (some ⟨w.heap.size,0,none⟩) n (grownCap w n 0 e)/\w'=w.drew.alloc (.cells (Av xs++(Builtin.zeroCells z.cells (grownCap w n 0 e-n)).toList).toArray e):=by
    cases a with
    |none =>
     refine⟨_,_,run_append_nil (P:=P) w t o.type e i z hu D E ⟨b,off,none⟩ n c (Av xs) (by rw[C,Q]) d a0 oV oV,rfl,?_⟩
     congr 2;apply Ayr;simp
    |some a =>
     have:=run_append_grow (P:=P) w t o.type e i z hu D E a 0 0 [] mV mV ⟨b,off,none⟩ n c (Av xs) (by rw[C,Q]) d oV oV (growslice_fits oV (by rw[Aud];omega));simp only[Aud]at this;refine⟨_,_,this,rfl,?_⟩
     congr 2;apply Ayr;simp
   obtain⟨v,w',I,rfl,rfl⟩:=I;obtain⟨g1,g2,g3,g4⟩:=g.drew'.newU (.cells (Av xs++(Builtin.zeroCells z.cells (grownCap w n 0 e-n)).toList).toArray e (0,0));have:=key (grownCap w n 0 e) (Builtin.zeroCells z.cells (grownCap w n 0 e-n)).toList (by simpa using grownCap_ge w n 0 e);simp only[Ava,Av1,Aud]at this;exact Bs (by rw[N];simp only[Av1];rw[I];rfl) ⟨_,m,g1,⟨g2.sz,g2.old,g2.us,g2.ms,g2.io,fun f=>⟨(g2.dr f).tape,Azm (g2.dr f).dr⟩⟩,rfl,this⟩
  obtain⟨V,oe,rfl,_⟩:=e3 0 es[0] mV;have R:=Ex.cells T ha.els F g.pu;have I:=run_append_grow (P:=P) w t o.type e i z hu D E ⟨V,oe,none⟩ es.length es.length (Av es) Y R ⟨b,off,none⟩ n c (Av xs) (by rw[C,Q]) d oV oV (growslice_fits oV hb);have ew:(Av es).toArray++(Av xs).toArray++Builtin.zeroCells z.cells (grownCap w (es.length+n) es.length e-(es.length+n))=(Av (es++xs)++(Builtin.zeroCells z.cells (grownCap w (es.length+n) es.length e-(es.length+n))).toList).toArray:=by
   apply Ayr;simp[C1]
  rw[ew]at I;obtain⟨g1,g2,g3,g4⟩:=g.drew'.newU (.cells (Av (es++xs)++(Builtin.zeroCells z.cells (grownCap w (es.length+n) es.length e-(es.length+n))).toList).toArray e (0,0));exact Bs (by rw[N,show ([Value.slice (some ⟨V,oe,none⟩) es.length es.length,Value.slice (some ⟨b,off,none⟩) n c]).toArray = #[.slice (some ⟨V,oe,none⟩) es.length es.length,.slice (some ⟨b,off,none⟩) n c] from rfl,I];rfl) ⟨_,m,g1,⟨g2.sz,g2.old,g2.us,g2.ms,g2.io,fun f=>⟨(g2.dr f).tape,Azm (g2.dr f).dr⟩⟩,rfl,key _ _ (grownCap_ge w _ _ e)⟩
 obtain⟨rfl,O⟩:=O;exact k J A Z O
def G.appendV (e:TypeId)(sz f:Nat)(z:Value)(es xs:List Value)(a:Option Addr)(d:Nat)(g:Option Addr)(n c:Nat)(h:Al P (adv P st)=.app (some (e,sz,f,z)) true [.slice a d d,.slice g n c])(v:0<sz)
 (D:Ad u (.slice a d d) sz es) (t:Ax sz es) (E:Ad u (.slice g n c) sz xs) (L:Ax sz xs) (K:(es.length+xs.length)*f<=140737488355328) (j:es.length+xs.length<=9223372036854775807)
 (k:∀ F A,PH.le u A->Ad A F sz (es++xs)->G P fn Post (nx (adv P st) F) A m):G P fn Post st u m:=by
 obtain⟨H,c',C,O,J⟩:=id E;simp only[Value.slice.injEq]at C;obtain⟨rfl,rfl,rfl⟩:=C;rcases At5 xs.length with h0|h0
 ·have:xs = []:=Auo h0;subst this;exact G.append0 e sz f z a g d d c h (Atb _) (k _ u (PH.le_refl _) (by rw[Auu];exact D))
 obtain⟨I,N,rfl,_⟩:=J 0 xs[0] mV;exact G.appendU e sz f z es xs a d I N xs.length c h v D t E.els L rfl h0 K j k
end rules
end
section
variable {env:Operand->Value}{o:Op}{x:Value}
variable [Ca] [Df] [Pu]
abbrev mkS (l:List UInt8):ByteArray:=⟨l.toArray⟩
def Zg {a b:List UInt8}:mkS a=mkS b↔a=b:=by
 constructor
 ·intro h;injection h with h;simpa using h
 rintro rfl;rfl
def Kz (l:List UInt8):(mkS l).toList=l:=by
 rw[Go.Lib.toList_data]
def Ji (a b:List UInt8):((mkS a).toList==(mkS b).toList)=decide (a=b):=by
 rw[Kz,Kz,Bool.eq_iff_iff];simp
section rules
variable {P:Program} [A7 P] {fn:Func} {Post:Bz} {st:List KI×S} {u m:PH}
def V6 (Q:Op->Bool)(st:List KI×S):Bool :=
 match st.1 with
 |.reg _ ops _ (i::_)::_=>match ops[i]? with
  |some o=>Q o.op
  |none=>false
 |_=>false
def G.askQ (Q:Op->Bool){V:Vk}{v:Value}(h:Al P (adv P st)=V)(n:V6 Q (adv P st)=true)(g:V≠.other)(D:∀ env (o:Oper),A8 P env o.op=V->Q o.op=true->∀ w,(Gq o.op=true->Em u w/\(Pu.b=false->Em m w))->(execOp env o).run P w=.ok (.value v) w)
 (k:G P fn Post (nx (adv P st) v) u m):G P fn Post st u m:=by
 refine G.stp ?_;obtain⟨J,H,I,i,l,K,s,o,e,j,C,A,F,E,d,f⟩:=Kk h g;have k:=k.out;rw[f]at k;have t:Q o.op=true:=by
  rw[e]at n;simpa[V6,j] using n
 rw[e];exact⟨Ob.ask j C A F E (Agj d g) (fun w hp=>D _ o d t w fun h=>⟨(hp (.inl h)).1,fun z=>(hp (.inl h)).2 (.inl z)⟩) k⟩
def K6 (P:Program):Op->Bool
 |.slice t ..=>match P.underlying t with|some .string=>true|_=>false
 |_=>false
def Gn {d:BinOp}{x y:ByteArray}(t:TypeId)(X Y:Operand)(w:World):(eqGuard d t X Y (.string x) (.string y)).run P w=.ok () w:=by
 unfold eqGuard;split<;>simp
def G.eqST (a b:List UInt8)(h:Al P (adv P st)=.bin .eql (.string (mkS a)) (.string (mkS b)))(d:a=b)(k:G P fn Post (nx (adv P st) (.bool true)) u m):G P fn Post st u m :=
 G.bin _ h Gn (fun t w=>by simp[binOp,Op.stringOp,Ji,d]) k
def G.eqSF (a b:List UInt8)(h:Al P (adv P st)=.bin .eql (.string (mkS a)) (.string (mkS b)))(d:a≠b)(k:G P fn Post (nx (adv P st) (.bool false)) u m):G P fn Post st u m :=
 G.bin _ h Gn (fun t w=>by simp only[binOp,Op.stringOp,Ji,decide_eq_false d];rfl) k
def G.neST (a b:List UInt8)(h:Al P (adv P st)=.bin .neq (.string (mkS a)) (.string (mkS b)))(d:a≠b)(k:G P fn Post (nx (adv P st) (.bool true)) u m):G P fn Post st u m :=
 G.bin _ h Gn (fun t w=>by simp only[binOp,Op.stringOp,Ji,decide_eq_false d];rfl) k
def G.neSF (a b:List UInt8)(h:Al P (adv P st)=.bin .neq (.string (mkS a)) (.string (mkS b)))(d:a=b)(k:G P fn Post (nx (adv P st) (.bool false)) u m):G P fn Post st u m :=
 G.bin _ h Gn (fun t w=>by simp only[binOp,Op.stringOp,Ji,decide_eq_true d];rfl) k
def Ac4 (a b:List UInt8):mkS a++mkS b=mkS (a++b):=by
 rw[mkS,mkS,ByteArray.mk_append_mk]
def G.addS (a b:List UInt8)(h:Al P (adv P st)=.bin .add (.string (mkS a)) (.string (mkS b)))(e:a.length+b.length<=9223372036854775807)(k:G P fn Post (nx (adv P st) (.string (mkS (a++b)))) u m):G P fn Post st u m :=
 G.bin _ h Gn (fun t w=>by
  have d:¬ (((mkS a).size+(mkS b).size:Nat):Int)>IntKind.i64.max:=by
   rw[Go.Lib.size_mk,Go.Lib.size_mk];simp[IntKind.max,IntKind.signed,IntKind.bits];omega
  simp only[binOp,Op.stringOp];rw[if_neg d,Ac4];rfl) k
def Adb {t:Option TypeDesc}{x i:Value}(h:A8 P env o=.index t x i):∃ d X I,o=.index d X I/\env X=x/\env I=i/\P.underlying d=t:=by
 cases o<;>simp only[A8]at h<;>try cases h
 any_goals ((repeat' split at h)<;>cases h;done)
 exact⟨_,_,_,rfl,rfl,rfl,rfl⟩
def Jv {s d:Option TypeDesc}(h:A8 P env o=.conv s d x):∃ f e X,o=.convert f e X/\env X=x/\P.underlying f=s/\P.underlying e=d:=by
 cases o<;>simp only[A8]at h<;>try cases h
 any_goals ((repeat' split at h)<;>cases h;done)
 exact⟨_,_,_,rfl,rfl,rfl,rfl⟩
def G.idxS (l:List UInt8)(i:Nat)(b:UInt8)(h:Al P (adv P st)=.index (some .string) (.string (mkS l)) (.int .i64 i))(j:l[i]?=some b)
 (k:G P fn Post (nx (adv P st) (.int .u8 (b.toNat:Int))) u m):G P fn Post st u m:=by
 refine G.ask h mV (fun env o d w _=>?_) k;obtain⟨t,X,I,g,z,A,C⟩:=Adb d;obtain⟨v,F,n,pos,e,f⟩:=o;simp only at g;subst g;obtain⟨hi,j⟩:=Atc.1 j;have D:(mkS l)[i]?=some b:=by
  have E:i<(mkS l).size:=by rw[Go.Lib.size_mk];exact hi
  rw[getElem?_pos (mkS l) i E]
  congr 1
 have h0:(0:Int)<=(i:Int):=oV
 simp[execOp,z,A,Instr.index,run_underlying C,asIntOf,D,h0]
def G.sliceSTo (l:List UInt8)(n:Nat)(h:Al P (adv P st)=.slice none (.string (mkS l)) none (some (.int .i64 n)) none)(I:V6 (K6 P) (adv P st)=true)(N:n<=l.length)
 (k:G P fn Post (nx (adv P st) (.string (mkS (l.take n)))) u m):G P fn Post st u m:=by
 refine G.askQ _ h I mV (fun env o d g w hp=>?_) k;obtain⟨t,X,L,H,M,j,A,C,D,E,J⟩:=Ik d;obtain⟨z,K,v,pos,e,f⟩:=o;simp only at j;subst j;simp only[K6]at g;split at g
 ·rename_i hu;have F:(0:Int)<=n/\(n:Int)<=(mkS l).size:=by rw[Go.Lib.size_mk];omega
  simp only[execOp,A,C,D,E];simp only[Instr.sliceAt,Sem.run_bind,run_underlying hu,Result.andThen_ok,Instr.slice,Instr.sliceBounds,Instr.sliceBound,asIntOf,Sem.run_pure,if_true,Option.isSome,Sem.run_ite,F,and_self,Avo,Awx];simp[Go.Lib.extract_mk]
 cases g
def G.sliceSFrom (l:List UInt8)(n:Nat)(h:Al P (adv P st)=.slice none (.string (mkS l)) (some (.int .i64 n)) none none)(J:V6 (K6 P) (adv P st)=true)(O:n<=l.length)
 (k:G P fn Post (nx (adv P st) (.string (mkS (l.drop n)))) u m):G P fn Post st u m:=by
 refine G.askQ _ h J mV (fun env o d g w hp=>?_) k;obtain⟨t,X,L,H,M,j,A,C,D,E,K⟩:=Ik d;obtain⟨z,N,v,pos,e,f⟩:=o;simp only at j;subst j;simp only[K6]at g;split at g
 ·rename_i hu;have F:(0:Int)<=n/\(n:Int)<=(mkS l).size:=by rw[Go.Lib.size_mk];omega
  simp only[execOp,A,C,D,E];simp only[Instr.sliceAt,Sem.run_bind,run_underlying hu,Result.andThen_ok,Instr.slice,Instr.sliceBounds,Instr.sliceBound,asIntOf,Sem.run_pure,if_true,Option.isSome,Sem.run_ite,F,and_self,Avo,Awx];have I:(mkS l).extract n (mkS l).size=mkS (l.drop n):=by
   rw[Go.Lib.extract_mk,Go.Lib.size_mk,Atp mV]
  simp[I]
 cases g
def G.convI (F j H:IntKind)(x z:Int)(h:Al P (adv P st)=.conv (some (.int F)) (some (.int j)) (.int H x))(E:j.wrap x=z)
 (k:G P fn Post (nx (adv P st) (.int j z)) u m):G P fn Post st u m:=by
 refine G.ask h mV (fun env o e w _=>?_) k;obtain⟨s,d,X,n,A,C,D⟩:=Jv e;obtain⟨v,I,t,pos,f,g⟩:=o;simp only at n;subst n;simp[execOp,convert,A,run_underlying C,run_underlying D,Conv.intToInt,E]
def Aey {z:Int}(d:0<=z)(e:z<256):IntKind.u8.wrap z=z:=by
 simp only[IntKind.wrap,IntKind.signed,IntKind.bits];simp;omega
def G.sub8 (x y z:Int)(h:Al P (adv P st)=.bin .sub (.int .u8 x) (.int .u8 y))(f:x-y=z)(d:0<=z)(e:z<256)
 (k:G P fn Post (nx (adv P st) (.int .u8 z)) u m):G P fn Post st u m :=
 G.bin _ h Db (fun t w=>by simp[binOp,Op.intArith,f,Aey d e]) k
def Bb (l:List UInt8):List Value:=l.map fun b=>Value.int .u8 (b.toNat:Int)
def As (l:List UInt8):(Bb l).length=l.length:=by simp[Bb]
def Nf (l d:List UInt8):Bb (l++d)=Bb l++Bb d:=by simp[Bb]
def Kg (l:List UInt8):Ax 1 (Bb l):=by
 intro e d;simp only[Bb,Ate]at d;obtain⟨b,_,rfl⟩:=d;exact⟨rfl,fun x f=>by simp[Value.cells]at f;subst f;rfl⟩
def Ae.take {m0:PH}{t:TypeId}{sz:Nat}{es:List Value}{a:Option Addr}{n c k:Nat}(v:Ae m0 m (.slice a n c) t sz es)(D:k<=es.length):Ae m0 m (.slice a k c) t sz (es.take k):=by
 refine⟨fun e F=>v.1 e (Avd F),?_⟩;rcases v.2 with ⟨j,rfl,H⟩|⟨g,cap,rest,A,rfl,j,C,h,f⟩
 ·left;simp at j D;obtain⟨rfl,rfl,rfl⟩:=j;subst D;exact⟨rfl,rfl,H⟩
 right;simp only[Value.slice.injEq]at j;obtain⟨rfl,rfl,rfl⟩:=j;have e:Av es=Av (es.take k)++Av (es.drop k):=by rw[<-C1,Awg]
 refine⟨g,c,Av (es.drop k)++rest,A,by rw[<-Au1,<-e],gV,gV,by rw[<-Au1,<-e];exact h,fun x d=>?_⟩;rcases Ati.1 d with d|d
 ·simp only[Av,Ax3]at d;obtain⟨E,z,d⟩:=d;exact (v.1 E (Avz z)).2 x d
 exact f x d
def Ae.cap {m0:PH}{t:TypeId}{sz:Nat}{es:List Value}{a:Option Addr}{n c:Nat}(j:Ae m0 m (.slice a n c) t sz es):n<=c:=by
 rcases j.2 with ⟨e,rfl,z⟩|⟨g,cap,rest,v,rfl,e,f,h,d⟩
 ·simp at e;omega
 simp at e;omega
def G.convB (m0:PH)(t e:TypeId)(l:List UInt8)(b n c:Nat)(h:Al P (adv P st)=.conv (some (.slice e)) (some .string) (.slice (some ⟨b,0,none⟩) n c))(N:P.underlying e=some (.int .u8))
 (D:Ae m0 m (.slice (some ⟨b,0,none⟩) n c) t 1 (Bb l)) (k:G P fn Post (nx (adv P st) (.string (mkS l))) u m) (z:Pu.b=false:=by rfl):G P fn Post st u m:=by
 refine G.ask h mV (fun env o f w hp=>?_) k;obtain⟨s,d,X,A,I,J,C⟩:=Jv f;obtain⟨H,R,F,pos,g,v⟩:=o;simp only at A;subst A;have Q:=(hp (by simp[Gq,Y4 C mV])).2 z;have E:=D.len;rw[As]at E;subst E;have:=run_convert_bytes_back (P:=P) w s d e ⟨b,0,none⟩ c l J N C (fun j O=>by
  have K:=D.el (j:=j) (e:=.int .u8 (l[j].toNat:Int)) (by simp[Bb,O]);have L:=(K 0 (.int .u8 (l[j].toNat:Int)) (by simp[Value.cells])).cell Q;rw[Dt];simpa using L)
 simp[execOp,I,this]
end rules
end
section
variable [Ca] [Pu] [Df]
variable {P:Program} [A7 P] {fn:Func} {Post:Bz} {st:List KI×S} {u m:PH}
def G.q (a b:List UInt8)(hab:a=b)(k:G P fn Post (nx (adv P st) (.bool true)) u m)(h:Al P (adv P st)=.bin .eql (.string (mkS a)) (.string (mkS b)):=by kernel_rfl):G P fn Post st u m:=G.eqST a b h hab k
def G.w (a b:List UInt8)(hab:a≠b)(k:G P fn Post (nx (adv P st) (.bool false)) u m)(h:Al P (adv P st)=.bin .eql (.string (mkS a)) (.string (mkS b)):=by kernel_rfl):G P fn Post st u m:=G.eqSF a b h hab k
def G.x (a b:List UInt8)(hab:a≠b)(k:G P fn Post (nx (adv P st) (.bool true)) u m)(h:Al P (adv P st)=.bin .neq (.string (mkS a)) (.string (mkS b)):=by kernel_rfl):G P fn Post st u m:=G.neST a b h hab k
def G.y (a b:List UInt8)(hab:a=b)(k:G P fn Post (nx (adv P st) (.bool false)) u m)(h:Al P (adv P st)=.bin .neq (.string (mkS a)) (.string (mkS b)):=by kernel_rfl):G P fn Post st u m:=G.neSF a b h hab k
def tV (l:List UInt8):SV:=.v (.string (mkS l))
end
section
variable {a:Option Addr}{b neg:Bool}{c n:Nat}{l:List Nat}{q:Rat}{y z:Int}
section
variable [Ca] {P:Program} [A7 P] {fn:Func} {Post:Bz} {st:List KI×S} {u m:PH}
def Arc (d:0<=z)(e:z<18446744073709551616):IntKind.u64.wrap z=z:=by
 simp only[IntKind.wrap,IntKind.signed,IntKind.bits];simp;omega
theorem G.quoW (x y z:Nat)(h:Al P (adv P st)=.bin .quo (.int .u64 (x:Int)) (.int .u64 (y:Int)))(f:x/y=z)(j:x<18446744073709551616)(v:0<y)(k:G P fn Post (nx (adv P st) (.int .u64 (z:Int))) u m):G P fn Post st u m:=by
 refine G.bin _ h Db (fun t w=>?_) k;have g:z<=x:=by rw[<-f];exact Awa _ _
 have d:(x:Int).tdiv y=z:=by grind
 have e:¬ y=0:=oV
 simp[binOp,Op.intDiv,e,d,Arc (z:=(z:Int)) oV oV]
theorem G.remW (x y z:Nat)(h:Al P (adv P st)=.bin .rem (.int .u64 (x:Int)) (.int .u64 (y:Int)))(j:x%y=z)(f:x<18446744073709551616)(g:0<y)(k:G P fn Post (nx (adv P st) (.int .u64 (z:Int))) u m):G P fn Post st u m:=by
 refine G.bin _ h Db (fun t w=>?_) k;have d:(x:Int).tmod y=z:=by grind
 have e:¬ y=0:=oV
 simp[binOp,Op.intDiv,e,d]
def G.negW (x z:Int)(h:Al P (adv P st)=.un .neg (.int .u64 x))(D:IntKind.u64.wrap (-x)=z)(k:G P fn Post (nx (adv P st) (.int .u64 z)) u m):G P fn Post st u m:=by
 refine G.ask h mV (fun C o d w hp=>?_) k;obtain⟨t,X,g,A⟩:=Afn d;obtain⟨v,E,j,pos,e,f⟩:=o;simp only at g;subst g;simp[execOp,Op.unary,A,Op.intArith,D]
end
section
variable {u:PH} {x x':Value}
def Agh {m n:Nat}(h:Cu u x m)(d:Cu u x' n)(e:nl m<=10000000000000)(sb:nl n<=10000000000000):Fn0 prog 183 [x,x'] u fun v f=>Cu f v (m+n) :=
 Fn0.ofW (fun v w=>Ci w v (m+n)) (fun w hp=>Adf x x' m n w (h.toW hp) (d.toW hp) e sb) (fun _ _ _ h _ c _=>Cu.ofW h c)
def Ya {m n:Nat}(h:Cu u x m)(e:Cu u x' n)(f:nl m<=10000000000000)(d:n<=m):Fn0 prog 185 [x,x'] u fun v g=>Cu g v (m-n) :=
 Fn0.ofW (fun v w=>Ci w v (m-n)) (fun w hp=>Ac9 x x' m n w (h.toW hp) (e.toW hp) f d) (fun _ _ _ h _ c _=>Cu.ofW h c)
def Anq {m n:Nat}(h:Cu u x m)(d:Cu u x' n)(e:nl m<=10000000000000)(sb:nl n<=10000000000000):Fn0 prog 164 [x,x'] u fun v f=>Cu f v (m*n) :=
 Fn0.ofW (fun v w=>Ci w v (m*n)) (fun w hp=>Aer x x' m n w (h.toW hp) (d.toW hp) e sb) (fun _ _ _ h _ c _=>Cu.ofW h c)
def Acf {m n:Nat}(h:Cu u x m)(d:Cu u x' n)(e:nl m<=10000000000000)(sb:nl n<=10000000000000):Fn0 prog 184 [x,x'] u fun v _=>v=.int .i64 (sgn ((m:Int)-n)) :=
 Fn0.ofW (fun v _=>v=.int .i64 (sgn ((m:Int)-n))) (fun w hp=>(Fw x x' m n w (h.toW hp) (d.toW hp) e sb).mono fun _ _ h=>⟨_,h.ext.1,rfl,h.ext.2⟩) (fun _ _ _ h _ _ _=>h)
def Np {m n:Nat}(h:Cu u x m)(j:Cu u x' n)(C:nl m<=5000000000000)(sb:nl n<=5000000000000)(t:0<n):Fn0 prog 209 [x,x'] u fun v g=>∃ a b,v=.tuple #[a,b]/\Cu g a (m/n)/\Cu g b (m%n) :=
 Fn0.ofW (fun v w=>∃ a b,v=.tuple #[a,b]/\Ci w a (m/n)/\Ci w b (m%n)) (fun w hp=>(Vl x x' m n w (h.toW hp) (j.toW hp) C sb t).mono fun _ _ ⟨a,b,e,d,f,A⟩=>⟨_,e,⟨a,b,rfl,d,f⟩,A⟩)
  (fun _ _ _ ⟨a,b,e,d,f⟩ _ c _=>⟨a,b,e,Cu.ofW d c,Cu.ofW f c⟩)
def W1 (h:Cu u x n)(d:nl n<=2):Fn0 prog 219 [x] u fun v _=>v=.int .u64 (n:Int) :=
 Fn0.ofW (fun v _=>v=.int .u64 (n:Int)) (fun w hp=>(Yi x n w (h.toW hp) d).mono fun _ _ ⟨e,k⟩=>⟨_,e,rfl,k▸Ext.refl _⟩) (fun _ _ _ h _ _ _=>h)
def Ad7.els {g:Nat}(h:Ex u g 0 1 (Ay l)):Ad7 u (some ⟨g,0,none⟩) (Ay l):=fun j e=>by
 refine⟨g,0,rfl,?_⟩;have d:j<l.length:=by simpa[Ay] using e
 have:=h j (.int .u64 (l[j]:Nat)) (by simp[Ay,d]) 0 (.int .u64 (l[j]:Nat)) rfl;simpa[Ay,d] using this
def Apv (D:Low l)(F:Ad7 u a (Ay l))(E:val l=n)(g:l.length<=c)(A:l.length<=9223372036854775807):Fn0 prog 172 [.slice a l.length c] u fun v H=>Cu H v n :=
 Fn0.ofW (fun v w=>Ci w v n) (fun w hp=>by
  have t:Row w a (Ay l):=fun j C=>by obtain⟨b,off,d,f⟩:=F j C;exact⟨b,off,d,f.cell hp⟩
  exact (F7 a c l.length l w rfl A g t).mono fun e w' ⟨d,f⟩=>by subst f;exact⟨_,d,Dd D t E g,Ext.refl _⟩) (fun _ _ _ h _ c _=>Cu.ofW h c)
def Cu.len {k c n:Nat}(h:Cu u (.slice a k c) n):k=nl n:=by
 obtain⟨_,_,e,_⟩:=h;cases e;rfl
def Cu.opn (h:Cu u x n):∃ a c,x=.slice a (nl n) c:=by
 obtain⟨a,c,e,_⟩:=h;exact⟨a,c,e⟩
theorem An2 {m n : Nat} (h : Cu u x m) (h' : Cu u x' n) (sa : nl m ≤ 5000000000000) (sb : nl n ≤ 5000000000000) : Fn0 prog 173 [x, x'] u fun v u' => Cu u' v (Nat.gcd m n) := by
  obtain ⟨a, c, rfl⟩ := h.opn
  obtain ⟨b, d, rfl⟩ := h'.opn
  refine Fn0.o func173 ?_
  refine G.l (ι := (Option Addr × Nat × Nat) × (Option Addr × Nat × Nat)) (fun i => [(0, sV i.1.1 (nl i.1.2.1) i.1.2.2), (1, sV i.2.1 (nl i.2.2.1) i.2.2.2)]) (fun _ => [])
    (fun i u' m' => m' = PH.mt ∧ Cu u' (.slice i.1.1 (nl i.1.2.1) i.1.2.2) i.1.2.1 ∧ Cu u' (.slice i.2.1 (nl i.2.2.1) i.2.2.2) i.2.2.1 ∧ Nat.gcd i.1.2.1 i.2.2.1 = Nat.gcd m n ∧ nl i.1.2.1 ≤ 5000000000000 ∧ nl i.2.2.1 ≤ 5000000000000)
    (fun i => i.2.2.1) ((a, m, c), (b, n, d)) ⟨rfl, h, h', rfl, sa, sb⟩ ?_
  rintro J ⟨⟨a1, m1, c1⟩, b1, n1, d1⟩ hJ u1 _ l1 ⟨rfl, h1, h1', hg, s1, s1'⟩
  simp only at h1 h1' hg s1 s1' hJ
  by_cases h2 : 2 < nl n1
  · refine G.gT (nl n1 : Int) 2 ?_
    have hp : 0 < n1 := Cl.1 (show 0 < nl n1 by omega)
    refine G.c call209 (Np h1 h1' s1 s1' hp) ?_
    rintro _ u2 l2 ⟨q, r, rfl, hq, hr⟩
    obtain ⟨aq, cq, rfl⟩ := hq.opn
    obtain ⟨ar, cr, rfl⟩ := hr.opn
    have hlt := Au3 m1 hp
    exact G.b (hJ ((b1, n1, d1), (ar, m1 % n1, cr)) _ _ _ cV (l1.trans l2) ⟨rfl, h1'.mono l2, hr, by rw [← hg]; exact Sl m1 n1, s1', As9 (Ct (Az4 hlt)) s1'⟩ hlt)
  refine G.gF (nl n1 : Int) 2 ?_
  by_cases h0 : nl n1 = 0
  · refine G.eT (nl n1 : Int) 0 ?_
    have e0 : n1 = 0 := by rcases At5 n1 with e | e; · exact e
                           · have := Cl.2 e; unfold nl at h0; omega
    rw [← hg, e0, A0p]
    exact G.r _ ⟨rfl, h1⟩
  have hp : 0 < n1 := Cl.1 (show 0 < nl n1 by omega)
  refine G.eF (nl n1 : Int) 0 ?_
  refine dite (2 < nl m1) (fun h3 => ?y) (fun h3 => ?n)
  case' y =>
    refine G.gT (nl m1 : Int) 2 ?_
    refine G.c call209 (Np h1 h1' s1 s1' hp) ?_
    rintro _ u2 l2 ⟨q, r, rfl, hq, hr⟩
    have ha := h1'.mono l2
    have hg2 : Nat.gcd n1 (m1 % n1) = Nat.gcd m n := by rw [← hg]; exact Sl m1 n1
    have hm2 : nl n1 ≤ 2 := by omega
    have hn2 : nl (m1 % n1) ≤ 2 := As9 (Ct (Az4 (Au3 m1 hp))) hm2
  case' n =>
    refine G.gF (nl m1 : Int) 2 ?_
    have ha := h1
    have hr := h1'
    have hg2 := hg
    have hm2 : nl m1 ≤ 2 := by omega
    have hn2 : nl n1 ≤ 2 := by omega
  case y | n =>
    refine G.c call219 (W1 ha hm2) ?_
    rintro _ u3 l3 rfl
    refine G.c call219 (W1 (hr.mono l3) hn2) ?_
    rintro _ u4 l4 rfl
    refine G.l (ι := Nat × Nat) (fun i => [(9, .v (.int .u64 (i.1 : Int))), (10, .v (.int .u64 (i.2 : Int)))]) (fun _ => [])
      (fun i u' m' => m' = PH.mt ∧ Nat.gcd i.1 i.2 = Nat.gcd m n ∧ i.1 < 1000000000000000000 ∧ i.2 < 1000000000000000000) (fun i => i.2) (_, _) ⟨rfl, hg2, Wn hm2, Wn hn2⟩ ?_
    rintro J ⟨p, q⟩ hJ u5 _ l5 ⟨rfl, hpq, b1, b2⟩
    by_cases hq : q = 0
    · refine G.cmpG .neq .u64 (q : Int) 0 false kV rfl (by simp [Cj, hq]) ?_
      refine G.remW p 1000000000 _ kV rfl oV oV ?_
      refine G.quoW p 1000000000 _ kV rfl oV oV ?_
      refine G.buildW (p := fun _ => true) 236 1 8 (.int .u64 0) (Ay [p % 1000000000, p / 1000000000]) kV (by simp [Vv, Ay, Value.cells]) rfl oV (by simp [Ay]) (by simp [Ay]) ?_
      intro g u6 l6 e6
      refine G.c call172 (Apv (l := [p % 1000000000, p / 1000000000]) (n := p) (Low.cons (Au3 _ oV) (Low.cons oV Low.nil)) (Ad7.els e6) (by simp [val]; omega) (c := 2) mV mV) ?_
      intro v7 u7 l7 k7
      obtain ⟨a7, c7, rfl⟩ := k7.opn
      rw [hq, A0p] at hpq
      exact G.r (.slice a7 (nl p) c7) ⟨rfl, by rw [← hpq]; exact k7⟩
    · refine G.cmpG .neq .u64 (q : Int) 0 true kV rfl (by simp [Cj, hq]) ?_
      refine G.remW p q _ kV rfl oV oV ?_
      have hlt := Au3 p (show 0 < q by omega)
      exact G.b (hJ (q, p % q) _ _ _ cV l5 ⟨rfl, by rw [← hpq]; exact Sl p q, b2, by dsimp only; omega⟩ hlt)
def Zb {s:Value}(e:b=(neg&&decide (0<n)))(d:Cu u s n):Bx u (.agg #[.bool b,s]) (Bt neg n):=by
 obtain⟨a,c,rfl,f⟩:=id d;exact⟨a,_,c,by rw[Sh,e],by rw[I2];exact d⟩
def Hn (h:Cu u x n):Fn0 prog 163 [.bool neg,x] u fun v e=>Bx e v (Bt neg n):=by
 obtain⟨a,c,rfl⟩:=h.opn;have d:0<nl n↔0<n:=Cl;refine Fn0.o func163 ?_;cases neg
 ·exact G.r (.agg #[.bool false,.slice a (nl n) c]) ⟨rfl,Zb rfl h⟩
 by_cases h0:0<nl n
 ·exact G.gT (nl n:Int) 0<|G.r (.agg #[.bool true,.slice a (nl n) c]) ⟨rfl,Zb (by simp[d.1 h0]) h⟩
 exact G.gF (nl n:Int) 0<|G.r (.agg #[.bool false,.slice a (nl n) c]) ⟨rfl,Zb (by simp[mt d.2 h0]) h⟩
def Bx.opn' (h:Bx u x z):∃ a c,x=.agg #[.bool (decide (z<0)),.slice a (nl z.natAbs) c]/\Cu u (.slice a (nl z.natAbs) c) z.natAbs:=by
 obtain⟨a,n,c,rfl,h⟩:=h;have:=h.len;subst this;exact⟨a,c,rfl,h⟩
def Sn (h:Bx u x z)(f:nl z.natAbs<=100000000000000):Fn0 prog 161 [x] u fun v _=>v=.int .i64 (sgn z):=by
 obtain⟨a,c,rfl,k⟩:=h.opn';have e:0<nl z.natAbs↔0<z.natAbs:=Cl;refine Fn0.o func161 ?_;by_cases h0:z<0
 ·rw[decide_eq_true h0,Dc h0];exact G.r (.int .i64 (-1)) ⟨rfl,rfl⟩
 rw[decide_eq_false h0];by_cases d:0<nl z.natAbs
 ·refine G.gT (nl z.natAbs:Int) 0 ?_;rw[Cg oV];exact G.r (.int .i64 1) ⟨rfl,rfl⟩
 refine G.gF (nl z.natAbs:Int) 0 ?_;rw[show z=0 by omega,Ol];exact G.r (.int .i64 0) ⟨rfl,rfl⟩
def Alc (z:Int):Bt (!decide (z<0)) z.natAbs = -z:=by unfold Bt;by_cases h:z<0<;>simp[h]<;>omega
def Ry (h:Bx u x z)(t:nl z.natAbs<=100000000000000):Fn0 prog 139 [x] u fun v e=>Bx e v (-z):=by
 obtain⟨a,c,rfl,k⟩:=h.opn';refine Fn0.o func139<|G.c call163 (Hn (neg:=!decide (z<0)) k) ?_;intro E D A d;rw[Alc]at d;obtain⟨g,f,C,j,rfl⟩:=d.opn;exact G.r _ ⟨rfl,d⟩
def E6 (h:Bx u x y)(e:Bx u x' z)(H:nl y.natAbs<=5000000000000)(sz:nl z.natAbs<=5000000000000):Fn0 prog 100 [x,x'] u fun v j=>Bx j v (y*z):=by
 obtain⟨a,c,rfl,k⟩:=h.opn';obtain⟨t,c',rfl,f⟩:=e.opn';refine Fn0.o func100<|G.neB (decide (y<0)) (decide (z<0)) kV<|G.c call164 (Anq k f oV oV) ?_;intro K I E g;refine G.c call163 (Hn (neg:=!(decide (y<0)==decide (z<0))) g) ?_;intro L J l2 d;rw[Aba]at d;obtain⟨C,A,F,D,rfl⟩:=d.opn;exact G.r _ ⟨rfl,d⟩
def Yo (h:Bx u x y)(H:Bx u x' z)(Y:nl y.natAbs<=5000000000000)(sz:nl z.natAbs<=5000000000000):Fn0 prog 125 [x,x'] u fun v L=>Bx L v (y+z):=by
 obtain⟨a,c,rfl,k⟩:=h.opn';obtain⟨T,c',rfl,j⟩:=H.opn';refine Fn0.o func125<|G.eqB (decide (y<0)) (decide (z<0)) kV ?_;by_cases f:decide (y<0)=decide (z<0)
 ·rw[show (decide (y<0)==decide (z<0))=true by simp[f]];refine G.c call183 (Agh k j oV oV) ?_;intro Q N g I;refine G.c call163 (Hn (neg:=decide (y<0)) I) ?_;intro C A l2 d;rw[Z9 f]at d;obtain⟨V,U,X,W,rfl⟩:=d.opn;exact G.r _ ⟨rfl,d⟩
 rw[show (decide (y<0)==decide (z<0))=false by simpa using f];refine G.c call184 (Acf k j oV oV) ?_;rintro Q N g rfl;by_cases t:z.natAbs<=y.natAbs
 ·refine G.hT' (sgn ((y.natAbs:Int)-z.natAbs)) 0 (Acr t)<|G.c call185 (Ya (k.mono g) (j.mono g) oV t) ?_;intro C A l2 d;refine G.c call163 (Hn (neg:=decide (y<0)) d) ?_;intro R O J e;rw[V3 f t]at e;obtain⟨E,D,K,F,rfl⟩:=e.opn;exact G.r _ ⟨rfl,e⟩
 refine G.hF' (sgn ((y.natAbs:Int)-z.natAbs)) 0 (by rw[Dc oV];omega)<|G.c call185 (Ya (j.mono g) (k.mono g) oV oV) ?_;intro C A l2 d;refine G.c call163 (Hn (neg:=decide (z<0)) d) ?_;intro R O J e;rw[Wp f oV]at e;obtain⟨E,D,K,F,rfl⟩:=e.opn;exact G.r _ ⟨rfl,e⟩
def An8 (h:Bx u x y)(d:Bx u x' z)(j:nl y.natAbs<=5000000000000)(sz:nl z.natAbs<=5000000000000):Fn0 prog 174 [x,x'] u fun v t=>Bx t v (y-z):=by
 obtain⟨b,a,n,c,rfl⟩:=h.opn;obtain⟨b',A,F,c',rfl⟩:=d.opn;refine Fn0.o func174<|G.c call139 (Ry d oV) ?_;intro K I g f;refine G.c call125 (Yo (h.mono g) f j (by rw[Avp];exact sz)) ?_;intro L J l2 e;obtain⟨D,C,H,E,rfl⟩:=e.opn;exact G.r _ ⟨rfl,e⟩
def G8 (h:Bx u x y)(d:Bx u x' z)(e:nl y.natAbs<=5000000000000)(sz:nl z.natAbs<=5000000000000):Fn0 prog 112 [x,x'] u fun v _=>v=.int .i64 (sgn (y-z)):=by
 obtain⟨b,a,n,c,rfl⟩:=h.opn;obtain⟨b',g,t,c',rfl⟩:=d.opn;refine Fn0.o func112<|G.c call174 (An8 h d e sz) ?_;intro D A j f;have:=Yh (y:=y) (z:=-z) e (by rw[Avp];exact sz);refine G.c call161 (Sn f (by rw[A18];omega)) ?_;rintro E C l2 rfl;exact G.r (.int .i64 (sgn (y-z))) ⟨rfl,rfl⟩
def Xu (h:Bx u x y)(e:Bx u x' z)(j:nl y.natAbs<=5000000000000)(sz:nl z.natAbs<=5000000000000):Fn0 prog 111 [x,x'] u fun v t=>Bx t v (Nat.gcd y.natAbs z.natAbs):=by
 obtain⟨a,c,rfl,k⟩:=h.opn';obtain⟨A,c',rfl,f⟩:=e.opn';refine Fn0.o func111<|G.c call173 (An2 k f j sz) ?_;intro K I F g;refine G.c call163 (Hn (neg:=false) g) ?_;intro L J l2 d;obtain⟨D,C,H,E,rfl⟩:=d.opn;exact G.r _ ⟨rfl,d⟩
def Rt (h:Bx u x y)(U:Bx u x' z)(sy:nl y.natAbs<=4000000000000)(sz:nl z.natAbs<=4000000000000)(H:z≠0):Fn0 prog 162 [x,x'] u fun v R=>∃ a b,v=.tuple #[a,b]/\Bx R a (y/z)/\Bx R b (y%z):=by
 obtain⟨a,c,rfl,k⟩:=h.opn';obtain⟨a',c',rfl,K⟩:=U.opn';have I:0<nl (y.natAbs%z.natAbs)↔0<y.natAbs%z.natAbs:=Cl;have W:=Au3 y.natAbs (show 0<z.natAbs by omega);refine Fn0.o func162<|G.c call209 (Np k K oV oV oV) ?_;rintro _ u1 Y ⟨q,r,rfl,J,F⟩;obtain⟨ar,cr,rfl⟩:=F.opn;refine dite (y<0) (fun f=>?A) (fun f=>?D)
 case' A =>
  rw[decide_eq_true f];refine dite (0<y.natAbs%z.natAbs) (fun h0=>?B) (fun h0=>?C)
 case' B =>
  refine G.gT' (nl (y.natAbs%z.natAbs):Int) 0 (by have:=I.2 h0;omega)<|G.buildW (p:=fun _=>true) 236 1 8 (.int .u64 0) (Ay [1]) kV (by simp[Vv,Ay,Value.cells]) rfl oV (by simp[Ay]) (by simp[Ay]) ?_;intro g u2 l2 T;have X:Cu u2 (.slice (some ⟨g,0,none⟩) 1 1) 1:=by
   have:=D9 (d:=1) oV oV;exact⟨_,1,by rw[this];rfl,by rw[this];simp,by rw[this];exact Ad7.els T⟩
  refine G.c call183 (Agh (J.mono l2) X (by have:=Ct (Awa y.natAbs z.natAbs);omega) (by have:=Qi;omega)) ?_;intro v3 u3 Q t;refine G.c call185 (Ya ((K.mono Y).mono (l2.trans Q)) (F.mono (l2.trans Q)) oV oV) ?_;intro v4 u4 Z L;obtain⟨e,j⟩:=Yw f H h0;rw[decide_eq_true f]at e;have t:=t.mono Z
 case' C =>
  refine G.gF' (nl (y.natAbs%z.natAbs):Int) 0 (by have:=mt I.1 h0;omega) ?_;obtain⟨e,j⟩:=Vn f H oV;rw[decide_eq_true f]at e
 case' D =>
  obtain⟨e,j⟩:=Vu f H;rw[decide_eq_false f]at e⊢
 case' C|D =>
  have t:=J;have L:=F
 case' B|C=>generalize V:true=E at e⊢
 case' D=>generalize V:false=E at e⊢
 case B|C|D =>
  refine G.neB E (decide (z<0)) kV<|G.c call163 (Hn (neg:=!(E==decide (z<0))) t) ?_;intro v5 u5 l5 N;obtain⟨b5,a5,n5,c5,rfl⟩:=N.opn;refine G.c call163 (Hn (neg:=false) (L.mono l5)) ?_;intro v6 u6 l6 O;obtain⟨b6,a6,n6,c6,rfl⟩:=O.opn;exact G.r (.tuple #[_,_]) ⟨rfl,_,_,rfl,e▸N.mono l6,j▸O⟩
def Qn (t:-9223372036854775808<=z)(C:z<=9223372036854775807):Fn0 prog 113 [.int .i64 z] u fun v F=>Bx F v z:=by
 refine Fn0.o func113<|G.convI .i64 .u64 .i64 z _ kV rfl ?_;have e:=Qz z;refine dite (z<0) (fun d=>?A) (fun d=>?B)
 case' A =>
  rw[decide_eq_true d]at e;generalize f:true=E at e;refine G.lT' z 0 d<|G.negW _ _ kV (Aes d t)<|G.lT' z 0 d ?_
 case' B =>
  rw[decide_eq_false d]at e;generalize f:false=E at e;rw[Adk oV C];refine G.lF' z 0 d<|G.lF' z 0 d ?_
 case A|B =>
  refine G.remW z.natAbs 1000000000 _ kV rfl oV oV<|G.quoW z.natAbs 1000000000 _ kV rfl oV oV<|G.remW (z.natAbs/1000000000) 1000000000 _ kV rfl oV oV<|G.quoW z.natAbs 1000000000 _ kV rfl oV oV<|G.quoW (z.natAbs/1000000000) 1000000000 _ kV rfl oV oV<|G.buildW (p:=fun _=>true) 236 1 8 (.int .u64 0) (Ay [z.natAbs%1000000000,z.natAbs/1000000000%1000000000,z.natAbs/1000000000/1000000000]) kV (by simp[Vv,Ay,Value.cells]) rfl oV (by simp[Ay]) (by simp[Ay]) ?_;intro g Q K j;refine G.c call172 (Apv (l:=[_,_,_]) (n:=z.natAbs) (Low.cons (Au3 _ oV) (Low.cons (Au3 _ oV) (Low.cons oV Low.nil))) (Ad7.els j) (by simp[val];omega) (c:=3) mV mV) ?_;intro U R L D;refine G.c call163 (Hn (neg:=E) (by cases f;exact D)) ?_;intro V T N h;obtain⟨I,H,O,J,rfl⟩:=h.opn;exact G.r _ ⟨rfl,e▸h⟩
def Wv (h:An u x q)(d:nl q.num.natAbs<=100000000000000):Fn0 prog 96 [x] u fun v _=>v=.int .i64 (sgn q.num):=by
 obtain⟨b,a,n,c,b',e,g,c',rfl⟩:=h.opn;refine Fn0.o func96<|G.c call161 (Sn h.num d) ?_;rintro t j f rfl;exact G.r (.int .i64 (sgn q.num)) ⟨rfl,rfl⟩
def H6 (h:An u x q)(A:nl q.den<=4000000000000):Fn0 prog 101 [x] u fun v _=>v=.bool (decide (q.den=1)):=by
 obtain⟨b,a,n,c,b',t,C,c',rfl⟩:=h.opn;refine Fn0.o func101<|G.c call113 (Qn (z:=1) oV oV) ?_;intro F D j g;refine G.c call112 (G8 (h.den.mono j) g (by rw[Atv];omega) (by have:=Qi;show nl 1<=_;omega)) ?_;rintro H E l2 rfl;have f:=Rf (d:=q.den);by_cases e:q.den=1
 ·exact G.eT' (sgn ((q.den:Int)-1)) 0 (by simpa[e] using f)<|G.r (.bool true) ⟨rfl,by rw[decide_eq_true e]⟩
 exact G.eF' (sgn ((q.den:Int)-1)) 0 (by simpa[e] using f)<|G.r (.bool false) ⟨rfl,by rw[decide_eq_false e]⟩
def An.mk4 {d:Nat}{b b':Bool}{a f:Option Addr}{n g c c':Nat}(h:Bx u (.agg #[.bool b,.slice a n c]) y)(t:Bx u (.agg #[.bool b',.slice f g c']) (d:Int))(e:q.num=y)(j:q.den=d) :
 An u (.agg #[.bool b,.slice a n c,.bool b',.slice f g c']) q:=by
 obtain⟨_,_,_,v,A⟩:=h;obtain⟨_,_,_,C,D⟩:=t;obtain⟨rfl,rfl,rfl,rfl⟩:=v;obtain⟨rfl,rfl,rfl,rfl⟩:=C;exact⟨_,_,_,_,_,_,by rw[e,decide_eq_false (show ¬ ((d:Int)<0) by omega)],by rw[e];exact A,by rw[j];exact D⟩
theorem Bx.cast (h:Bx u x z)(d:0<z):Bx u x ((z.natAbs:Nat):Int):=by grind
def Oa (h:Bx u x z):Fn0 prog 102 [x] u fun v f=>An f v (z:Rat):=by
 obtain⟨b,a,n,c,rfl⟩:=h.opn;refine Fn0.o func102<|G.c call113 (Qn (z:=1) oV oV) ?_;intro D C e d;obtain⟨j,g,A,t,rfl⟩:=d.opn;exact G.r (.agg #[_,_,_,_]) ⟨rfl,An.mk4 (h.mono e) d mV mV⟩
def Dk (h:-9223372036854775808<=z)(j:z<=9223372036854775807):Fn0 prog 56 [.int .i64 z] u fun v C=>An C v (z:Rat):=by
 refine Fn0.o func56<|G.c call113 (Qn h j) ?_;intro L J H t;refine G.c call102 (Oa t) ?_;intro N K l2 d;obtain⟨E,D,I,F,f,e,A,g,rfl⟩:=d.opn;exact G.r _ ⟨rfl,d⟩
def Uu (h:An u x q)(C:nl q.num.natAbs<=4000000000000):Fn0 prog 70 [x] u fun v f=>An f v (-q):=by
 obtain⟨b,a,n,c,b',g,D,c',rfl⟩:=h.opn;refine Fn0.o func70<|G.c call139 (Ry h.num oV) ?_;intro H F e d;obtain⟨t,j,E,A,rfl⟩:=d.opn;exact G.r (.agg #[_,_,_,_]) ⟨rfl,An.mk4 d (h.den.mono e) (A1j q) (A1k q)⟩
theorem Um (h:Bx u x y)(E:Bx u x' z)(sy:nl y.natAbs<=4000000000000)(sz:nl z.natAbs<=4000000000000)(hz:z≠0):Fn0 prog 99 [x,x'] u fun v u'=>An u' v (Rat.divInt y z):=by
 obtain⟨b,a,n,c,rfl⟩:=h.opn;obtain⟨b',a',n',c',rfl⟩:=E.opn;refine Fn0.o func99<|G.c call161 (Sn E oV) ?_;rintro v1 u1 H rfl;refine dite (z<0) (fun h0=>?A) (fun h0=>?B)
 case' A =>
  refine G.lT' (sgn z) 0 (by rw[Dc h0];omega)<|G.c call139 (Ry (h.mono H) oV) ?_;intro v2 u2 l2 f;obtain⟨b2,a2,n2,c2,rfl⟩:=f.opn;refine G.c call139 (Ry (E.mono (H.trans l2)) oV) ?_;intro v3 u3 Z j;obtain⟨b3,a3,n3,c3,rfl⟩:=j.opn;have f:=f.mono Z;have e:=Lz y z;have J:nl (-y).natAbs<=4000000000000:=by grind
  have D:nl (-z).natAbs<=4000000000000:=by grind
  have hp:0 < -z:=oV;generalize -y=y2 at f e J;generalize -z=z2 at j e D hp
 case' B =>
  refine G.lF' (sgn z) 0 (by rw[Cg oV];omega) ?_;have f:=h.mono H;have j:=E.mono H;have e:Rat.divInt y z=Rat.divInt y z:=rfl;have J:=sy;have D:=sz;have hp:0<z:=oV;generalize y=y2 at f e J;generalize z=z2 at j e D hp
 case A|B =>
  have V:0<Nat.gcd y2.natAbs z2.natAbs:=Ax7 _ oV;have K:Nat.gcd y2.natAbs z2.natAbs<=z2.natAbs:=Nat.gcd_le_right _ oV;have C:nl (Nat.gcd y2.natAbs z2.natAbs)<=4000000000000:=As9 (Ct K) D;refine G.c call111 (Xu f j oV oV) ?_;intro v4 u4 l4 F;obtain⟨b4,a4,n4,c4,rfl⟩:=F.opn;refine G.c call113 (Qn (z:=1) oV oV) ?_;intro v5 u5 I W;refine G.c call112 (G8 (F.mono I) W (by rw[Atv];omega) (by have:=Qi;show nl 1<=_;omega)) ?_;rintro v6 u6 O rfl;have Q:=Rf (d:=Nat.gcd y2.natAbs z2.natAbs);have g:=(l4.trans I).trans O;by_cases L:Nat.gcd y2.natAbs z2.natAbs=1
  ·refine G.nF' (sgn ((Nat.gcd y2.natAbs z2.natAbs:Int)-1)) 0 (by simpa[L] using Q) ?_;have t:=S1 hp L;exact G.r (.agg #[_,_,_,_]) ⟨rfl,An.mk4 (f.mono g) ((j.mono g).cast hp) (by rw[<-e];exact t.1) (by rw[<-e];exact t.2)⟩
  refine G.nT' (sgn ((Nat.gcd y2.natAbs z2.natAbs:Int)-1)) 0 (by simpa[L] using Q) ?_;have t:=U2 hp (y:=y2) rfl;refine G.c call162 (Rt (f.mono g) (F.mono (I.trans O)) J (by rw[Atv];exact C) oV) ?_;rintro _ u7 T ⟨q,r,rfl,R,X⟩;obtain⟨b7,a7,n7,c7,rfl⟩:=R.opn;refine G.c call162 (Rt (j.mono (g.trans T)) (F.mono ((I.trans O).trans T)) D (by rw[Atv];exact C) oV) ?_;rintro _ u8 l8 ⟨q8,r8,rfl,N,Y⟩;obtain⟨b8,a8,n8,c8,rfl⟩:=N.opn;have U:(((z2.natAbs/Nat.gcd y2.natAbs z2.natAbs:Nat)):Int)=z2/(Nat.gcd y2.natAbs z2.natAbs:Nat):=by grind
  rw[<-U]at N;exact G.r (.agg #[_,_,_,_]) ⟨rfl,An.mk4 (R.mono l8) N (by rw[<-e];exact t.1) (by rw[<-e];exact t.2)⟩
end
end
section
variable {q r:Rat}{y:Int}
section
variable {u:PH} {x x':Value}
def Alh (h:An u x q):Fn0 prog 177 [x] u fun v d=>Bx d v q.num :=
 Fn0.ofW (fun v w=>Oi w v q.num) (fun w hp=>Ab5 x q w (h.toW hp)) (fun _ _ _ h _ c _=>Bx.ofW h c)
def Acb (h:An u x q):Fn0 prog 176 [x] u fun v d=>Bx d v q.den :=
 Fn0.ofW (fun v w=>Oi w v q.den) (fun w hp=>Aaw x q w (h.toW hp)) (fun _ _ _ h _ c _=>Bx.ofW h c)
def L5 (h:An u x q)(j:An u x' r)(V:Sz q 1000000000000)(W:Sz r 1000000000000):Fn0 prog 42 [x,x'] u fun v u'=>An u' v (q*r):=by
 obtain⟨s1,s2⟩:=V;obtain⟨s3,s4⟩:=W;obtain⟨b,a,n,c,b',a',n',c',rfl⟩:=h.opn;obtain⟨d,e,k,f,d',e',k',f',rfl⟩:=j.opn;refine Fn0.o func42<|G.c call101 (H6 h oV) ?_;rintro v1 u1 t rfl;refine dite (q.den=1) (fun A=>?y) (fun A=>?n1)
 case' y =>
  rw[decide_eq_true A];refine G.c call101 (H6 (j.mono t) oV) ?_;rintro v2 u2 l2 rfl;refine dite (r.den=1) (fun C=>?yy) (fun C=>?n2)
 case yy =>
  rw[decide_eq_true C];refine G.c call100 (E6 (h.num.mono (t.trans l2)) (j.num.mono (t.trans l2)) oV oV) ?_;intro v3 u3 E m;obtain⟨L,H,X,Q,rfl⟩:=m.opn;refine G.c call102 (Oa m) ?_;intro v4 u4 F g;rw[Ah9 A C]at g;obtain⟨N,I,Y,R,O,J,Z,T,rfl⟩:=g.opn;exact G.r _ ⟨rfl,g⟩
 case' n1 =>
  rw[decide_eq_false A];have l2:=t
 case' n2 =>
  rw[decide_eq_false C];have l2:=t.trans l2
 case n1|n2 =>
  refine G.c call100 (E6 (h.num.mono l2) (j.num.mono l2) oV oV) ?_;intro v3 u3 E m;obtain⟨L,H,X,Q,rfl⟩:=m.opn;refine G.c call100 (E6 (h.den.mono (l2.trans E)) (j.den.mono (l2.trans E)) (by rw[Atv];omega) (by rw[Atv];omega)) ?_;intro v4 u4 F g;obtain⟨N,I,Y,R,rfl⟩:=g.opn;refine G.c call99 (Um (m.mono F) g (by have:=Dl s1 s3;omega) (by have:=Dl (y:=(q.den:Int)) (z:=(r.den:Int)) (k:=1000000000000) (by rw[Atv];omega) (by rw[Atv];omega);omega) (Zd q r)) ?_;intro v5 u5 l5 D;rw[Yq]at D;obtain⟨b5,a5,n5,c5,P,K,a0,U,rfl⟩:=D.opn;exact G.r _ ⟨rfl,D⟩
def D4 (h:An u x q)(g:An u x' r)(Z:Sz q 1000000000000)(h2:Sz r 1000000000000):Fn0 prog 57 [x,x'] u fun v u'=>An u' v (q+r):=by
 obtain⟨s1,s2⟩:=Z;obtain⟨s3,s4⟩:=h2;obtain⟨b,a,n,c,b',a',n',c',rfl⟩:=h.opn;obtain⟨d,e,k,f,d',e',k',f',rfl⟩:=g.opn;have J:nl ((q.den:Int)).natAbs<=1000000000000:=by rw[Atv];exact s2
 have K:nl ((r.den:Int)).natAbs<=1000000000000:=by rw[Atv];exact s4
 have m1:=Dl s1 K;have m2:=Dl s3 J;have m3:=Dl J K;have m4:=Yh m1 m2;refine Fn0.o func57<|G.c call101 (H6 h oV) ?_;rintro v1 u1 t rfl;refine dite (q.den=1) (fun A=>?y) (fun A=>?n1)
 case' y =>
  rw[decide_eq_true A];refine G.c call101 (H6 (g.mono t) oV) ?_;rintro v2 u2 l2 rfl;refine dite (r.den=1) (fun C=>?yy) (fun C=>?n2)
 case yy =>
  rw[decide_eq_true C];refine G.c call125 (Yo (h.num.mono (t.trans l2)) (g.num.mono (t.trans l2)) oV oV) ?_;intro v3 u3 D m;obtain⟨Q,L,n3,V,rfl⟩:=m.opn;refine G.c call102 (Oa m) ?_;intro v4 u4 F j;rw[Ah8 A C]at j;obtain⟨R,N,n4,W,T,O,a0,X,rfl⟩:=j.opn;exact G.r _ ⟨rfl,j⟩
 case' n1 =>
  rw[decide_eq_false A];have l2:=t
 case' n2 =>
  rw[decide_eq_false C];have l2:=t.trans l2
 case n1|n2 =>
  refine G.c call100 (E6 (h.num.mono l2) (g.den.mono l2) oV oV) ?_;intro v3 u3 D m;obtain⟨Q,L,n3,V,rfl⟩:=m.opn;refine G.c call100 (E6 (g.num.mono (l2.trans D)) (h.den.mono (l2.trans D)) oV oV) ?_;intro v4 u4 F j;obtain⟨R,N,n4,W,rfl⟩:=j.opn;refine G.c call125 (Yo (m.mono F) j oV oV) ?_;intro v5 u5 l5 H;obtain⟨b5,a5,n5,c5,rfl⟩:=H.opn;have z:=((l2.trans D).trans F).trans l5;refine G.c call100 (E6 (h.den.mono z) (g.den.mono z) oV oV) ?_;intro v6 u6 l6 I;obtain⟨b6,a6,n6,c6,rfl⟩:=I.opn;refine G.c call99 (Um (H.mono l6) I oV oV (Zd q r)) ?_;intro v7 u7 l7 E;rw[R1]at E;obtain⟨b7,a7,n7,c7,U,P,a1,Y,rfl⟩:=E.opn;exact G.r _ ⟨rfl,E⟩
def Abc (h:An u x q)(m:An u x' r)(H:Sz q 1000000000000)(g:Sz r 1000000000000):Fn0 prog 40 [x,x'] u fun v L=>An L v (q-r):=by
 obtain⟨b,a,n,c,b',N,Y,c',rfl⟩:=h.opn;obtain⟨d,e,k,f,V,W,X,f',rfl⟩:=m.opn;refine Fn0.o func40<|G.c call70 (Uu m (As9 g.1 oV)) ?_;intro v1 u1 I t;obtain⟨Q,O,Z,T,C,z,J,E,rfl⟩:=t.opn;refine G.c call57 (D4 (h.mono I) t H ⟨by rw[A1j,Avp];exact g.1,by rw[A1k];exact g.2⟩) ?_;intro v2 u2 l2 j;rw[<-Ayg]at j;obtain⟨R,P,n2,U,D,A,K,F,rfl⟩:=j.opn;exact G.r _ ⟨rfl,j⟩
def Ih (h:An u x q)(g:An u x' r)(E:Sz q 1000000000000)(F:Sz r 1000000000000)(H:r≠0):Fn0 prog 39 [x,x'] u fun v R=>An R v (q/r):=by
 obtain⟨K,L⟩:=E;obtain⟨N,O⟩:=F;obtain⟨b,a,n,c,b',T,n',c',rfl⟩:=h.opn;obtain⟨d,e,k,f,d',e',k',f',rfl⟩:=g.opn;have P:nl ((q.den:Int)).natAbs<=1000000000000:=by rw[Atv];exact L
 have Q:nl ((r.den:Int)).natAbs<=1000000000000:=by rw[Atv];exact O
 have m1:=Dl K Q;have m2:=Dl P N;refine Fn0.o func39<|G.c call100 (E6 h.num g.den oV oV) ?_;intro v3 u3 z m;obtain⟨X,U,n3,c3,rfl⟩:=m.opn;refine G.c call100 (E6 (h.den.mono z) (g.num.mono z) oV oV) ?_;intro v4 u4 I t;obtain⟨Y,V,n4,c4,rfl⟩:=t.opn;refine G.c call99 (Um (m.mono I) t oV oV (A1c (by have:=q.den_nz;omega) (fun e=>H (Axp.1 e)))) ?_;intro v5 u5 l5 j;rw[Afu]at j;obtain⟨Z,W,n5,c5,C,A,J,D,rfl⟩:=j.opn;exact G.r _ ⟨rfl,j⟩
def Pq (h:An u x q)(g:An u x' r)(z:Sz q 1000000000000)(A:Sz r 1000000000000):Fn0 prog 138 [x,x'] u fun v _=>v=.int .i64 (sgn (q.num*(r.den:Int)-r.num*(q.den:Int))):=by
 obtain⟨D,E⟩:=z;obtain⟨F,H⟩:=A;obtain⟨b,a,n,c,b',K,Z,c',rfl⟩:=h.opn;obtain⟨d,e,k,f,T,U,V,f',rfl⟩:=g.opn;have I:nl ((q.den:Int)).natAbs<=1000000000000:=by rw[Atv];exact E
 have J:nl ((r.den:Int)).natAbs<=1000000000000:=by rw[Atv];exact H
 have X:=Dl D J;have Y:=Dl F I;refine Fn0.o func138<|G.c call100 (E6 h.num g.den oV oV) ?_;intro v3 u3 t j;obtain⟨O,L,n3,Q,rfl⟩:=j.opn;refine G.c call100 (E6 (g.num.mono t) (h.den.mono t) oV oV) ?_;intro v4 u4 C m;obtain⟨P,N,n4,R,rfl⟩:=m.opn;refine G.c call112 (G8 (j.mono C) m oV oV) ?_;rintro v5 u5 W rfl;exact G.r (.int .i64 (sgn (q.num*(r.den:Int)-r.num*(q.den:Int)))) ⟨rfl,rfl⟩
end
def We (y z:Nat):nl (y/z)<=nl y:=Ct (Awa y z)
def Aoj (d:0<y)(g:Nat):(y/(g:Int)).natAbs=y.natAbs/g:=by
 obtain⟨k,rfl⟩:=Ax9 (A17 d);rfl
def Aos {u:PH}{x x':Value}{y z:Int}(h:Bx u x y)(d:Bx u x' z)(A:nl y.natAbs<=4000000000000)(sz:nl z.natAbs<=4000000000000)(E:0<y):Fn0 prog 175 [x,x'] u fun v F=>Bx F v (y/(Nat.gcd y.natAbs z.natAbs:Nat)*z):=by
 obtain⟨b,a,n,c,rfl⟩:=h.opn;obtain⟨b',H,X,c',rfl⟩:=d.opn;refine Fn0.o func175 ?_;have D:0<Nat.gcd y.natAbs z.natAbs:=Nat.gcd_pos_of_pos_left _ oV;have e:Nat.gcd y.natAbs z.natAbs<=y.natAbs:=Nat.gcd_le_left _ oV;have f:nl (Nat.gcd y.natAbs z.natAbs)<=4000000000000:=As9 (Ct e) A;refine G.c call111 (Xu h d oV oV) ?_;intro v1 u1 t g;obtain⟨N,I,Y,R,rfl⟩:=g.opn;refine G.c call162 (Rt (h.mono t) g A (by rw[Atv];exact f) oV) ?_;rintro v2 u2 l2 ⟨v3,v4,rfl,j,C⟩;obtain⟨O,J,Z,T,rfl⟩:=j.opn;obtain⟨P,K,n4,U,rfl⟩:=C.opn;refine G.c call100 (E6 j (d.mono (t.trans l2)) (by rw[Aoj E];exact As9 (We _ _) oV) oV) ?_;intro v5 u5 W m;obtain⟨Q,L,n5,V,rfl⟩:=m.opn;exact G.r _ ⟨rfl,m⟩
end
def Ako {u:PH}{b:Bool}{a:Option Addr}{n c:Nat}{l:List Nat}(h:Cb u (.slice a n c) l)(C:l.length<=1000000000000000000) :
 Fn0 prog 130 [.agg #[.bool b,.slice a n c]] u fun v _=>v=.agg #[.bool (b&&decide (0<Bl l l.length)),.slice a (Bl l l.length) c]:=by
 obtain⟨rfl,z⟩:=h.len;refine Fn0.o func130<|G.l (ι:=Nat) (fun _=>[(1,.p 0 0),(2,.p 1 0)]) (fun k=>[(0,⟨55,[bV b,sV a k c]⟩),(1,⟨55,[bV false,sV none 0 0]⟩)])
  (fun k _ m=>k<=l.length/\Bl l l.length=Bl l k/\m=PH.mt) id l.length ⟨Atb _,rfl,rfl⟩ ?_
 rintro J k g E D d ⟨A,f,rfl⟩;rw[f];rcases k with _|k
 ·exact G.gF (0:Nat) 0<|G.eT' (0:Nat) 0 rfl<|G.r (.agg #[.bool false,.slice a 0 c]) ⟨rfl,by simp[Bl]⟩
 refine G.gT (k+1:Nat) 0<|G.s (k+1:Nat) 1 k ?_;obtain⟨e,off,rfl,t⟩:=(h.mono d).at (j:=k) oV;refine G.a e off (k+1) c k 1 oV<|G.lU none e (off+k*1) (.int .i64 (l.getD k 0:Nat)) t ?_;by_cases h0:l.getD k 0=0
 ·exact G.eT (l.getD k 0:Nat) 0<|G.s (k+1:Nat) 1 k<|G.sliceTo 1 (some ⟨e,off,none⟩) (k+1) c k kV oV<|G.b (g k _ _ _ cV d ⟨oV,by rw[f];simp only[Bl,if_pos h0],rfl⟩ mV)
 exact G.eF (l.getD k 0:Nat) 0<|G.eF (k+1:Nat) 0<|G.r (.agg #[.bool b,.slice (some ⟨e,off,none⟩) (k+1) c]) ⟨rfl,by simp only[Bl,if_neg h0];simp⟩
section
variable {k:Nat}{u:PH}{va vb:Value}
def Cr (l:List Nat)(n:Nat):Ah l++[.int .i64 n]=Ah (l++[n]):=by simp[Ah]
def Jj {m n:Nat}(L:Cb u va (Aa m))(N:Cb u vb (Aa n))(U:nl m<=1000000000000000000)(sb:nl n<=1000000000000000000) :
 Fn0 prog 132 [va,vb] u fun v _=>v=.int .i64 (sgn ((m:Int)-n)):=by
 obtain⟨a,E,rfl,Q⟩:=L.opn;obtain⟨b,cb,rfl,R⟩:=N.opn;have V:(Aa m).length<=1000000000000000000:=U;refine Fn0.o func132 ?_;by_cases D:(Aa m).length=(Aa n).length
 ·refine G.nF ((Aa m).length:Int) ((Aa n).length:Int)<|G.sub ((Aa m).length:Int) 1 (((Aa m).length:Int)-1) kV rfl oV oV<|G.l (ι:=Int) (fun z=>[(0,sV a (Aa m).length E),(1,sV b (Aa n).length cb),(5,iV z)]) (fun _=>[])
   (fun z _ O=>-1<=z/\z<(Aa m).length/\(Aa m).drop (z+1).toNat=(Aa n).drop (z+1).toNat/\O=PH.mt) (fun z=>(z+1).toNat) (((Aa m).length:Int)-1)
   ⟨oV,oV,by rw[Aue oV,Aue oV],rfl⟩ ?_
  rintro J z P Y O e ⟨W,X,d,rfl⟩;by_cases T:0<=z
  ·obtain⟨k,rfl⟩:=Ax9 T;have t:k<(Aa m).length:=oV;rw[show ((k:Int)+1).toNat=k+1 by omega]at d;obtain⟨g,A,rfl,F⟩:=(L.mono e).at (j:=k) t;obtain⟨h,C,rfl,H⟩:=(N.mono e).at (j:=k) oV;refine G.hT k 0<|G.a g A (Aa m).length E k 1 t<|G.lU none g (A+k*1) (.int .i64 ((Aa m).getD k 0:Nat)) F<|G.a h C (Aa n).length cb k 1 oV<|G.lU none h (C+k*1) (.int .i64 ((Aa n).getD k 0:Nat)) H ?_;rcases Axu ((Aa m).getD k 0) ((Aa n).getD k 0) with f|I|K
   ·refine G.lT ((Aa m).getD k 0:Nat) ((Aa n).getD k 0:Nat) ?_;have:=Ga D t (Am _) d f;rw[Ai,Ai]at this;exact G.r (.int .i64 (-1)) ⟨rfl,by rw[Dc oV]⟩
   ·refine G.lF ((Aa m).getD k 0:Nat) ((Aa n).getD k 0:Nat)<|G.a g A (Aa m).length E k 1 t<|G.lU none g (A+k*1) (.int .i64 ((Aa m).getD k 0:Nat)) F<|G.a h C (Aa n).length cb k 1 oV<|G.lU none h (C+k*1) (.int .i64 ((Aa n).getD k 0:Nat)) H<|G.gF ((Aa m).getD k 0:Nat) ((Aa n).getD k 0:Nat)<|G.sub (k:Int) 1 ((k:Int)-1) kV rfl oV oV<|G.b (P ((k:Int)-1) _ _ _ cV e ⟨oV,oV,?_,rfl⟩ mV);rw[show ((k:Int)-1+1).toNat=k by omega,B6 (Aa m) k t,B6 (Aa n) k oV,d,I]
   refine G.lF ((Aa m).getD k 0:Nat) ((Aa n).getD k 0:Nat)<|G.a g A (Aa m).length E k 1 t<|G.lU none g (A+k*1) (.int .i64 ((Aa m).getD k 0:Nat)) F<|G.a h C (Aa n).length cb k 1 oV<|G.lU none h (C+k*1) (.int .i64 ((Aa n).getD k 0:Nat)) H<|G.gT ((Aa m).getD k 0:Nat) ((Aa n).getD k 0:Nat) ?_;have:=Ga D.symm oV (Am _) d.symm K;rw[Ai,Ai]at this;exact G.r (.int .i64 1) ⟨rfl,by rw[Cg oV]⟩
  obtain rfl:z = -1:=oV;refine G.hF (-1) 0 ?_;have:m=n:=by
   have d:(Aa m).drop 0=(Aa n).drop 0:=d;rw[Aw4,Aw4]at d;rw[<-Ai m,<-Ai n,d]
  exact G.r (.int .i64 0) ⟨rfl,by rw[this,Int.sub_self];rfl⟩
 refine G.nT ((Aa m).length:Int) ((Aa n).length:Int) ?_;by_cases f:(Aa m).length<(Aa n).length
 ·refine G.lT ((Aa m).length:Int) ((Aa n).length:Int) ?_;have:=I3 (m:=m) (n:=n) f;exact G.r (.int .i64 (-1)) ⟨rfl,by rw[Dc oV]⟩
 refine G.lF ((Aa m).length:Int) ((Aa n).length:Int) ?_;have:=I3 (m:=n) (n:=m) (show nl n<nl m by unfold nl;omega);exact G.r (.int .i64 1) ⟨rfl,by rw[Cg oV]⟩
theorem Hx {l:List Nat}(h:¬ k<l.length):l.getD k 0=0:=by grind
def Jp.over {a b ys:List Nat}{k c:Nat}(h:Jp a b k ys c)(g:Low a)(j:Low b)(e:¬ k<a.length)(f:¬ k<b.length)(d:c=0):val ys=val a+val b:=by
 have:=h.sum;rw[Atp oV,Atp oV,d]at this;simpa using this
def Amp {la d:List Nat}(V:Cb u va la)(P:Cb u vb d)(n:Low la)(t:Low d)(sa:la.length<=1000000000000)(sb:d.length<=1000000000000) :
 Fn0 prog 131 [va,vb] u fun v Y=>∃ l,Cb Y v l/\Low l/\val l=val la+val d/\l.length<=max la.length d.length+1:=by
 obtain⟨a,U,rfl,a3⟩:=V.opn;obtain⟨b,cb,rfl,a4⟩:=P.opn;refine Fn0.o func131<|G.l (ι:=Nat×List Nat×Nat×Value) (fun i=>[(0,sV a la.length U),(1,sV b d.length cb),(5,.v i.2.2.2),(6,iV i.2.2.1),(7,iV i.1)]) (fun _=>[])
  (fun i _ W=>(i.1<=max la.length d.length+1/\(max la.length d.length+1<=i.1->i.2.2.1=0))/\Ae PH.mt W i.2.2.2 3 1 (Ah i.2.1)/\Jp la d i.1 i.2.1 i.2.2.1) (fun i=>max la.length d.length+2-i.1) (0,[],0,.slice none 0 0)
  ⟨⟨mV,fun _=>rfl⟩,Ae.nil _ _ _,Jp.start _ _⟩ ?_
 rintro J ⟨k,ys,c,A⟩ I Y W m ⟨hk,C,e⟩;simp only at hk C e I;have a2:=e.carry;have O:=n.getD k;have a0:=t.getD k;obtain⟨Z,co,rfl⟩:=C.shape;obtain⟨A,Q⟩:∃ A,A=Value.slice Z (Ah ys).length co:=⟨_,rfl⟩;rw[<-Q]at C⊢;have fin:max la.length d.length+1<=1000000000001:=oV;by_cases z:k<la.length
 ·refine G.lT k la.length<|G.lT k la.length ?_;have a5:la.getD k 0<1000000000:=O;obtain⟨T,X,rfl,ea⟩:=(V.mono m).at (j:=k) z;refine G.a T X la.length U k 1 z<|G.lU none T (X+k*1) (.int .i64 (la.getD k 0:Nat)) ea<|G.p c (la.getD k 0:Nat) (c+la.getD k 0:Nat) ?_;by_cases h:k<d.length
  ·refine G.lT k d.length ?_;obtain⟨H,K,rfl,N⟩:=(P.mono m).at (j:=k) h;refine G.a H K d.length cb k 1 h<|G.lU none H (K+k*1) (.int .i64 (d.getD k 0:Nat)) N<|G.p (c+la.getD k 0:Nat) (d.getD k 0:Nat) (c+la.getD k 0+d.getD k 0:Nat)<|G.rem ((c+la.getD k 0+d.getD k 0:Nat):Int) 1000000000 (((c+la.getD k 0+d.getD k 0)%1000000000:Nat):Int) kV oV oV oV oV<|G.B 3 1 8 (.int .i64 0) [.int .i64 (((c+la.getD k 0+d.getD k 0)%1000000000:Nat):Int)] (Az [(c+la.getD k 0+d.getD k 0)%1000000000]) ?_;intro g L D E;refine G.append 3 1 8 (.int .i64 0) PH.mt (Ah ys) [.int .i64 (((c+la.getD k 0+d.getD k 0)%1000000000:Nat):Int)] A g 0 1 1 kV rfl rfl oV C E (Az [(c+la.getD k 0+d.getD k 0)%1000000000]) rfl oV (by rw[Ag,e.len];omega) (by rw[Ag,e.len];omega) ?_;intro F R f;rw[Cr]at f;refine G.quo ((c+la.getD k 0+d.getD k 0:Nat):Int) 1000000000 (((c+la.getD k 0+d.getD k 0)/1000000000:Nat):Int) kV oV oV oV oV<|G.i k<|G.b (I (k+1,ys++[(c+la.getD k 0+d.getD k 0)%1000000000],(c+la.getD k 0+d.getD k 0)/1000000000,F) _ _ _ cV (m.trans D) ⟨⟨oV,dV⟩,f,?_⟩ (by show max la.length d.length+2-(k+1)<max la.length d.length+2-k;omega));have:=e.step n t (x:=la.getD k 0) (y:=d.getD k 0) rfl rfl;rw[show la.getD k 0+d.getD k 0+c=c+la.getD k 0+d.getD k 0 by omega]at this;exact this
  have hz:=Hx h;refine G.lF k d.length<|G.rem ((c+la.getD k 0:Nat):Int) 1000000000 (((c+la.getD k 0)%1000000000:Nat):Int) kV oV oV oV oV<|G.B 3 1 8 (.int .i64 0) [.int .i64 (((c+la.getD k 0)%1000000000:Nat):Int)] (Az [(c+la.getD k 0)%1000000000]) ?_;intro g L D E;refine G.append 3 1 8 (.int .i64 0) PH.mt (Ah ys) [.int .i64 (((c+la.getD k 0)%1000000000:Nat):Int)] A g 0 1 1 kV rfl rfl oV C E (Az [(c+la.getD k 0)%1000000000]) rfl oV (by rw[Ag,e.len];omega) (by rw[Ag,e.len];omega) ?_;intro F R f;rw[Cr]at f;refine G.quo ((c+la.getD k 0:Nat):Int) 1000000000 (((c+la.getD k 0)/1000000000:Nat):Int) kV oV oV oV oV<|G.i k<|G.b (I (k+1,ys++[(c+la.getD k 0)%1000000000],(c+la.getD k 0)/1000000000,F) _ _ _ cV (m.trans D) ⟨⟨oV,dV⟩,f,?_⟩ (by show max la.length d.length+2-(k+1)<max la.length d.length+2-k;omega));have:=e.step n t (x:=la.getD k 0) (y:=d.getD k 0) rfl rfl;rw[show la.getD k 0+d.getD k 0+c=c+la.getD k 0 by omega]at this;exact this
 have a6:=Hx z;by_cases h:k<d.length
 ·refine G.lF k la.length<|G.lT k d.length<|G.lF k la.length<|G.lT k d.length ?_;obtain⟨H,K,rfl,N⟩:=(P.mono m).at (j:=k) h;refine G.a H K d.length cb k 1 h<|G.lU none H (K+k*1) (.int .i64 (d.getD k 0:Nat)) N<|G.p (c:Nat) (d.getD k 0:Nat) (c+d.getD k 0:Nat)<|G.rem ((c+d.getD k 0:Nat):Int) 1000000000 (((c+d.getD k 0)%1000000000:Nat):Int) kV oV oV oV oV<|G.B 3 1 8 (.int .i64 0) [.int .i64 (((c+d.getD k 0)%1000000000:Nat):Int)] (Az [(c+d.getD k 0)%1000000000]) ?_;intro g L D E;refine G.append 3 1 8 (.int .i64 0) PH.mt (Ah ys) [.int .i64 (((c+d.getD k 0)%1000000000:Nat):Int)] A g 0 1 1 kV rfl rfl oV C E (Az [(c+d.getD k 0)%1000000000]) rfl oV (by rw[Ag,e.len];omega) (by rw[Ag,e.len];omega) ?_;intro F R f;rw[Cr]at f;refine G.quo ((c+d.getD k 0:Nat):Int) 1000000000 (((c+d.getD k 0)/1000000000:Nat):Int) kV oV oV oV oV<|G.i k<|G.b (I (k+1,ys++[(c+d.getD k 0)%1000000000],(c+d.getD k 0)/1000000000,F) _ _ _ cV (m.trans D) ⟨⟨oV,dV⟩,f,?_⟩ (by show max la.length d.length+2-(k+1)<max la.length d.length+2-k;omega));have:=e.step n t (x:=la.getD k 0) (y:=d.getD k 0) rfl rfl;rw[show la.getD k 0+d.getD k 0+c=c+d.getD k 0 by omega]at this;exact this
 have a7:=Hx h;by_cases a1:0<c
 ·refine G.lF k la.length<|G.lF k d.length<|G.gT c 0<|G.lF k la.length<|G.lF k d.length<|G.rem ((c:Nat):Int) 1000000000 (((c)%1000000000:Nat):Int) kV oV oV oV oV<|G.B 3 1 8 (.int .i64 0) [.int .i64 (((c)%1000000000:Nat):Int)] (Az [(c)%1000000000]) ?_;intro g L D E;refine G.append 3 1 8 (.int .i64 0) PH.mt (Ah ys) [.int .i64 (((c)%1000000000:Nat):Int)] A g 0 1 1 kV rfl rfl oV C E (Az [(c)%1000000000]) rfl oV (by rw[Ag,e.len];omega) (by rw[Ag,e.len];omega) ?_;intro F R f;rw[Cr]at f;refine G.quo ((c:Nat):Int) 1000000000 (((c)/1000000000:Nat):Int) kV oV oV oV oV<|G.i k<|G.b (I (k+1,ys++[(c)%1000000000],(c)/1000000000,F) _ _ _ cV (m.trans D) ⟨⟨oV,dV⟩,f,?_⟩ (by show max la.length d.length+2-(k+1)<max la.length d.length+2-k;omega));have:=e.step n t (x:=la.getD k 0) (y:=d.getD k 0) rfl rfl;rw[show la.getD k 0+d.getD k 0+c=c by omega]at this;exact this
 refine G.lF k la.length<|G.lF k d.length<|G.gF c 0<|G.give PH.mt (Ah ys) A kV C (fun _=>.inl rfl) ?_;intro L D hL;refine G.r A ⟨rfl,ys,hL,e.low,e.over n t z h oV,?_⟩;rw[e.len];omega
end
section
variable {la ys:List Nat}
def Ha (l:List Nat):List Int:=l.map fun (n:Nat)=>(n:Int)
def Zl (la ys:List Nat)(c:Nat):List Int:=Ha ys++(match la.drop ys.length with|[]=>[]|x::r=>((x:Int)-c)::Ha r)
def Ai5 (la:List Nat):Zl la [] 0=Ha la:=by
 unfold Zl;cases la<;>simp[Ha]
def Sa (c:Nat)(h:ys.length<la.length):Zl la ys c=Ha ys++((la.getD ys.length 0:Nat)-(c:Int))::Ha (la.drop (ys.length+1)):=by
 unfold Zl;rw[B6 la ys.length h]
def Ly (c:Nat)(h:ys.length<=la.length):(Zl la ys c).length=la.length:=by
 rcases At8 ys.length la.length with d|d
 ·rw[Sa c d];simp[Ha];omega
 unfold Zl;rw[Aue d];simp[Ha];omega
def Apw (c:Nat)(h:ys.length<la.length):(Zl la ys c)[ys.length]?=some ((la.getD ys.length 0:Nat)-(c:Int)):=by
 rw[Sa c h,At1 (by simp[Ha])];simp[Ha]
def Ama (c:Nat)(d:Int)(h:ys.length<la.length):(Zl la ys c).set ys.length d=Ha ys++d::Ha (la.drop (ys.length+1)):=by
 rw[Sa c h,Awm _ _ (by simp[Ha])];simp[Ha]
def R8 (c n:Nat)(h:ys.length<la.length):(Zl la ys c).set ys.length (n:Int)=Zl la (ys++[n]) 0:=by
 rw[Ama c _ h];unfold Zl;simp only[Atg,Aux];cases la.drop (ys.length+1)<;>simp[Ha]
def Z4 (c n:Nat)(h:ys.length+1<la.length):((Zl la ys c).set ys.length (n:Int)).set (ys.length+1) ((la.getD (ys.length+1) 0:Nat)-1)=Zl la (ys++[n]) 1:=by
 rw[R8 c n oV];have d:(ys++[n]).length<la.length:=by simpa using h
 have:=Ama (la:=la) (ys:=ys++[n]) 0 ((la.getD (ys.length+1) 0:Nat)-1) d;rw[Atg,Aux]at this;rw[this,Sa 1 d];simp
def Agq (c n:Nat)(h:ys.length+1<la.length):((Zl la ys c).set ys.length (n:Int))[ys.length+1]?=some ((la.getD (ys.length+1) 0:Nat):Int):=by
 rw[R8 c n oV];have:=Apw (la:=la) (ys:=ys++[n]) 0 (by simpa using h);rw[Atg,Aux]at this;simpa using this
def Aoh (c:Nat)(h:ys.length=la.length):Zl la ys c=Ha ys:=by
 unfold Zl;rw[Aue oV];simp
def Jn.last {a b ys:List Nat}{c:Nat}(h:Jn a b a.length ys c)(e:b.length<=a.length)(f:val b<=val a):c=0:=by
 have g:=h.sum;rw[Atp (Atb _),Atp e]at g;have d:=I9 h.low;rw[h.len]at d;rcases At5 c with h0|h0
 ·exact h0
 have:1000000000^a.length*1<=1000000000^a.length*c:=Aul _ h0;omega
def elZ {l:List Int}{j:Nat}{d:Int}(h:l[j]?=some d):(Ei l)[j]?=some (.int .i64 d):=by simp[Ei,h]
def Kd {u:PH}{va vb:Value}{la t:List Nat}(ha:Cb u va la)(hb:Cb u vb t)(K:Low la)(V:Low t)(sa:la.length<=1000000000000)(L:t.length<=la.length)(N:val t<=val la) :
 Fn0 prog 133 [va,vb] u fun v u'=>∃ l,Cb u' v l/\Low l/\val l=val la-val t/\l.length=la.length:=by
 obtain⟨a,ca,rfl,a7⟩:=ha.opn;obtain⟨b,cb,rfl,a8⟩:=hb.opn;refine Fn0.o func133 ?_;rcases At5 la.length with h0|h0
 ·have e1:la = []:=Auo h0;have e2:t = []:=Auo oV;subst e1 e2;refine G.appendNil 3 1 8 (.int .i64 0) a ca kV<|G.l (ι:=Unit) (fun _=>[(5,sV none 0 0),(6,iV 0)]) (fun _=>[]) (fun _ _ m'=>m'=PH.mt) (fun _=>0) () rfl ?_;rintro J _ hJ u' m' O rfl;exact G.lF 0 (0:Nat)<|G.r (.slice none 0 0) ⟨rfl,[],Ad.nil _ _ _ _,Low.nil,by simp[val],rfl⟩
 obtain⟨ba,oa,rfl,_⟩:=ha.at (j:=0) h0;refine G.append 3 1 8 (.int .i64 0) PH.mt [] (Ah la) (.slice none 0 0) ba oa la.length ca kV rfl rfl oV (Ae.nil _ _ _) ha.els (Az la) (Ag la) h0 gV gV ?_;intro vo m1 Q;rw[Ava,<-Qa]at Q;obtain⟨g,A,rfl⟩:=Q.ptr (by intro e;have:=congrArg List.length e;rw[B4,Ata,Av1]at this;omega);have a0:Ae PH.mt m1 (.slice (some ⟨g,0,none⟩) la.length A) 3 1 (Ei (Zl la [] 0)):=by
  have:=Q;rw[B4,Ata]at this;rw[Ai5];exact this
 rw[B4,Ata];refine G.l (ι:=Nat×List Nat×Nat) (fun i=>[(1,sV b t.length cb),(5,sV (some ⟨g,0,none⟩) la.length A),(6,iV i.1)]) (fun _=>[])
  (fun i _ m'=>i.1<=la.length/\Jn la t i.1 i.2.1 i.2.2/\Ae PH.mt m' (.slice (some ⟨g,0,none⟩) la.length A) 3 1 (Ei (Zl la i.2.1 i.2.2))) (fun i=>la.length-i.1) (0,[],0)
  ⟨mV,Jn.start _ _,a0⟩ ?_
 clear Q a0 m1;rintro J ⟨k,ys,c⟩ hJ u' m' O ⟨hk,C,Q⟩;simp only at hk C Q hJ;have a6:=C.carry;have D:=C.len;have a3:=K.getD k;have a4:=V.getD k;by_cases m:k<la.length
 ·refine G.lT k la.length ?_;have a2:ys.length<la.length:=oV;have W:=Apw (la:=la) (ys:=ys) c a2;rw[D]at W;by_cases Y:k<t.length
  ·obtain⟨bb,ob,rfl,eb⟩:=(hb.mono O).at (j:=k) Y;refine G.lT k t.length<|G.a g 0 la.length A k 1 m<|G.lM none g (0+k*1) (.int .i64 ((la.getD k 0:Nat)-(c:Int))) (Q.el (elZ W))<|G.a bb ob t.length cb k 1 Y<|G.lU none bb (ob+k*1) (.int .i64 (t.getD k 0:Nat)) eb ?_;obtain⟨d,hd⟩:∃ d:Int,d=(la.getD k 0:Nat)-(c:Int)-(t.getD k 0:Nat):=⟨_,rfl⟩;refine G.s ((la.getD k 0:Nat)-(c:Int)) (t.getD k 0:Nat) d<|G.a g 0 la.length A k 1 m<|G.storeA 1 PH.mt _ g la.length A k (.int .i64 d) kV Q (by rw[B4,Ly c oV];exact m) rfl rfl ?_;intro m2 z;rw[Jc]at z;have T:((Zl la ys c).set k d)[k]?=some d:=by rw[Awv (by rw[Ly c oV];exact m)]
   refine G.a g 0 la.length A k 1 m<|G.lM none g (0+k*1) (.int .i64 d) (z.el (elZ T)) ?_;by_cases E:d<0
   ·refine G.lT' d 0 E ?_;have f:=C.step K V (x:=la.getD k 0) (y:=t.getD k 0) rfl rfl;obtain⟨n,Z⟩:∃ n:Nat,n=(la.getD k 0+1000000000-t.getD k 0-c)%1000000000:=⟨_,rfl⟩;have H:1-(la.getD k 0+1000000000-t.getD k 0-c)/1000000000=1:=oV;rw[<-Z,H]at f;have I:k+1<la.length:=by
     rcases At8 (k+1) la.length with h|h
     ·exact h
     have:k+1=la.length:=oV;rw[this]at f;have:=f.last L N;omega
    refine G.a g 0 la.length A k 1 m<|G.lM none g (0+k*1) (.int .i64 d) (z.el (elZ T))<|G.p d 1000000000 n<|G.a g 0 la.length A k 1 m<|G.storeA 1 PH.mt _ g la.length A k (.int .i64 n) kV z (by rw[B4,Avx,Ly c oV];exact m) rfl rfl ?_;intro m3 F;rw[Jc,A00]at F;refine G.i k ?_;have U:=Agq (la:=la) (ys:=ys) c n oV;rw[D]at U;have a1:=K.getD (k+1);refine G.a g 0 la.length A (k+1) 1 I<|G.lM none g (0+(k+1)*1) (.int .i64 ((la.getD (k+1) 0:Nat):Int)) (F.el (elZ U))<|G.sub ((la.getD (k+1) 0:Nat):Int) 1 ((la.getD (k+1) 0:Nat)-1) kV rfl oV oV<|G.a g 0 la.length A (k+1) 1 I<|G.storeA 1 PH.mt _ g la.length A (k+1) (.int .i64 ((la.getD (k+1) 0:Nat)-1)) kV F (by rw[B4,Avx,Ly c oV];exact I) rfl rfl ?_;intro m4 R;have P:=Z4 (la:=la) (ys:=ys) c n oV;rw[D]at P;rw[Jc,P]at R;exact G.i k<|G.b (hJ (k+1,ys++[n],1) _ _ _ cV O ⟨oV,f,R⟩ dV)
   refine G.lF' d 0 E ?_;have f:=C.step K V (x:=la.getD k 0) (y:=t.getD k 0) rfl rfl;obtain⟨n,Z⟩:∃ n:Nat,n=(la.getD k 0+1000000000-t.getD k 0-c)%1000000000:=⟨_,rfl⟩;have H:1-(la.getD k 0+1000000000-t.getD k 0-c)/1000000000=0:=oV;rw[<-Z,H]at f;have X:d=(n:Int):=oV;have P:=R8 (la:=la) (ys:=ys) c n oV;rw[D]at P;rw[X,P]at z;exact G.i k<|G.b (hJ (k+1,ys++[n],0) _ _ _ cV O ⟨oV,f,z⟩ dV)
  have hz:=Hx Y;refine G.lF k t.length ?_;obtain⟨d,hd⟩:∃ d:Int,d=(la.getD k 0:Nat)-(c:Int)-(t.getD k 0:Nat):=⟨_,rfl⟩;have z:Ae PH.mt m' (.slice (some ⟨g,0,none⟩) la.length A) 3 1 (Ei ((Zl la ys c).set k d)):=by
   have e:(Zl la ys c).set k d=Zl la ys c:=by
    have:(la.getD k 0:Nat)-(c:Int)=d:=oV;rw[this]at W;refine Awe fun j=>?_;by_cases hj:k=j
    ·subst hj;rw[Awv (by rw[Ly c oV];exact m),W]
    rw[A1u hj]
   rw[e];exact Q
  have T:((Zl la ys c).set k d)[k]?=some d:=by rw[Awv (by rw[Ly c oV];exact m)]
  refine G.a g 0 la.length A k 1 m<|G.lM none g (0+k*1) (.int .i64 d) (z.el (elZ T)) ?_;by_cases E:d<0
  ·refine G.lT' d 0 E ?_;have f:=C.step K V (x:=la.getD k 0) (y:=t.getD k 0) rfl rfl;obtain⟨n,Z⟩:∃ n:Nat,n=(la.getD k 0+1000000000-t.getD k 0-c)%1000000000:=⟨_,rfl⟩;have H:1-(la.getD k 0+1000000000-t.getD k 0-c)/1000000000=1:=oV;rw[<-Z,H]at f;have I:k+1<la.length:=by
    rcases At8 (k+1) la.length with h|h
    ·exact h
    have:k+1=la.length:=oV;rw[this]at f;have:=f.last L N;omega
   refine G.a g 0 la.length A k 1 m<|G.lM none g (0+k*1) (.int .i64 d) (z.el (elZ T))<|G.p d 1000000000 n<|G.a g 0 la.length A k 1 m<|G.storeA 1 PH.mt _ g la.length A k (.int .i64 n) kV z (by rw[B4,Avx,Ly c oV];exact m) rfl rfl ?_;intro m3 F;rw[Jc,A00]at F;refine G.i k ?_;have U:=Agq (la:=la) (ys:=ys) c n oV;rw[D]at U;have a1:=K.getD (k+1);refine G.a g 0 la.length A (k+1) 1 I<|G.lM none g (0+(k+1)*1) (.int .i64 ((la.getD (k+1) 0:Nat):Int)) (F.el (elZ U))<|G.sub ((la.getD (k+1) 0:Nat):Int) 1 ((la.getD (k+1) 0:Nat)-1) kV rfl oV oV<|G.a g 0 la.length A (k+1) 1 I<|G.storeA 1 PH.mt _ g la.length A (k+1) (.int .i64 ((la.getD (k+1) 0:Nat)-1)) kV F (by rw[B4,Avx,Ly c oV];exact I) rfl rfl ?_;intro m4 R;have P:=Z4 (la:=la) (ys:=ys) c n oV;rw[D]at P;rw[Jc,P]at R;exact G.i k<|G.b (hJ (k+1,ys++[n],1) _ _ _ cV O ⟨oV,f,R⟩ dV)
  refine G.lF' d 0 E ?_;have f:=C.step K V (x:=la.getD k 0) (y:=t.getD k 0) rfl rfl;obtain⟨n,Z⟩:∃ n:Nat,n=(la.getD k 0+1000000000-t.getD k 0-c)%1000000000:=⟨_,rfl⟩;have H:1-(la.getD k 0+1000000000-t.getD k 0-c)/1000000000=0:=oV;rw[<-Z,H]at f;have X:d=(n:Int):=oV;have P:=R8 (la:=la) (ys:=ys) c n oV;rw[D]at P;rw[X,P]at z;exact G.i k<|G.b (hJ (k+1,ys++[n],0) _ _ _ cV O ⟨oV,f,z⟩ dV)
 obtain rfl:k=la.length:=oV;refine G.lF la.length la.length ?_;have a5:=C.last L N;rw[Aoh c D,show Ei (Ha ys)=Ah ys from Qa ys]at Q;refine G.give PH.mt (Ah ys) _ kV Q (fun _=>.inl rfl) ?_;intro u1 l1 hL;exact G.r (.slice (some ⟨g,0,none⟩) la.length A) ⟨rfl,ys,hL,C.low,C.done L N,D⟩
end
end Go.Proofs.YtnafchoihfnkeaaGreatDoor
