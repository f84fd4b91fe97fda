/- Parts of one proof, joined by a program. -/
import Derived.Test.YtemmheaocgmebaaGreatDoorR11
set_option linter.defProp false
set_option linter.unusedVariables false
set_option linter.unusedSimpArgs false
set_option linter.unusedSectionVars false
set_option maxHeartbeats 16000000
namespace Go.Proofs.YtemmheaocgmebaaGreatDoor
open Go.Proofs.Tryz
open Go.RowKit Go.MapKept
def A9x:=@List.mem_of_mem_erase
def A3a:=@List.erase_cons_head
def A5e:=@List.erase_cons_tail
def A9h:=@List.map_map
section
variable {a:Act}{d0:Deferred}{dl:List Deferred}{t:Array Value}
section
variable [Fl:Cl] {P:Program} {c:Cx} {s:S} {u m u' m':PH} {ρ:Nat->Nat} {w w':World}
def Rel.grow [Co](h:Rel c s u m ρ a w)(g1:Bv u' m' w')(g2:B0 u m w u' m' w'):Rel c s u' m' ρ a w':=by
 refine⟨h.sz,h.tm,h.df.of fun r e _ H z=>⟨by rw[g2.old _ (Aw e) z];exact e,by rw[g2.us _ (Aw e)];exact H,g2.ms _ (Aw e) z⟩,fun k b F=>?_,h.inj,h.lv,g1,h.gr.trans g2⟩;obtain⟨j,C,E,n⟩:=h.box k b F;have g:ρ k<w.heap.size:=by obtain⟨cs,e,_⟩:=j;exact Aw e
 refine⟨?_,C,?_,?_⟩
 ·rw[g2.old _ g n];exact j
 ·rw[g2.us _ g];exact E
 exact g2.ms _ g n
def Rel.grow0 (e:Rel c s u m ρ a w)(g1:Bv u' m' w')(g2:B0 u m w u' m' w'):Rel c s u' m' ρ a w':=e.grow g1 g2
def Rel.unbase [Bs:Co](e:Rel c s u m ρ { tmps:=t,defers:=d0::dl } w)(E:Bs.dl = [d0])(j:U3 d0=false):@Rel Fl Co.no c s u m ρ { tmps:=t,defers:=dl } w:=by
 refine @Rel.mk Fl Co.no c s u m ρ { tmps:=t,defers:=dl } w e.sz e.tm ?_ e.box e.inj e.lv e.gd e.gr;obtain⟨n,z,h,g,C⟩:=e.df;rw[A6x,if_neg (by simp[j])]at h;rw[A6x,if_pos (by simp[j]),E]at g;exact⟨n,z,h,(List.cons.inj g).2,C⟩
theorem Rel.rebase (e:Rel c s u m ρ { tmps:=t,defers:=dl } w)(z:U3 d0=false):@Rel Fl ⟨[d0]⟩ c s u m ρ { tmps:=t,defers:=d0::dl } w:=by
 refine @Rel.mk Fl ⟨[d0]⟩ c s u m ρ { tmps:=t,defers:=d0::dl } w e.sz e.tm ?_ e.box e.inj e.lv e.gd e.gr;obtain⟨h,j,C,g,n⟩:=e.df;refine⟨h,j,?_,?_,n⟩
 ·grind
 rw[A6x,if_pos (by simp[z]),g];rfl
def Rel.leavesV {fn:Func}{R:Ending->World->Prop}{t:Array Value}:∀ {dl:List Deferred} {w':World},Rel c s u m ρ { tmps:=t,defers:=dl } w' ->
 (∀ e,Rel c s u m ρ { tmps:=t,defers:=[] } e->∃ v,(results fn t).run P e=.ok v e/\R (.returned v) e)->LeavesInM Fence.wide 1 P fn t R dl .returning w'
 |[],w',hr,hv=>by
  obtain⟨v,g,h⟩:=hv w' hr;exact⟨v,g,h⟩
 |d::dl,w',hr,hv=>by
  obtain⟨r,n,g,h,j⟩:=hr.shut (P:=P) hr.marks;exact⟨mV,.inl ⟨r,n,g,h,Rel.leavesV j hv⟩⟩
def Rel.fin0 [A6 P]{fn:Func}{Post:Ce}{l:List Value}{e:PH}(h:Rel c s u m ρ a w)(j:T6 P s m fn.results.toList l)(g:PH.le e m)(n:Post.post (Pc l) u e):∃ v,(results fn a.tmps).run P w=.ok v w/\Ady c Post.post (.returned v) w :=
 ⟨_,Qo h j,_,_,_,rfl,(h.less g).gd,(h.less g).gr,n⟩
def Aix (P:Program)(f:FuncId)(args:List Value)(u m:PH)(K:PH->PH->Prop):Prop:=∀ w,Bv u m w->CallsDIn Fence.wide 0 P f args.toArray .returning w fun e md w'=>md=.returning/\∃ v u' m',e=.returned v/\Bv u' m' w'/\B0 u m w u' m' w'/\K u' m'
def Rel.leavesD [Bs:Co]{fn:Func}{R:Ending->World->Prop}{t:Array Value}{d0:Deferred}(g:Bs.dl = [d0]){fv:Fn}{cap:Array Value}{f:FuncId}{args:List Value}{K:PH->PH->Prop}(F:d0.target=.fn fv cap)
 (hi:∀ w,(invoke d0.target d0.args).run P w=.ok (.enter f args.toArray) w) (C:Aix P f args u m K)
 (E:∀ u' m' w',PH.le u u'->K u' m'->@Rel Fl Co.no c s u' m' ρ { tmps:=t,defers:=[] } w'->∃ v,(results fn t).run P w'=.ok v w'/\R (.returned v) w') :
 ∀ {dl:List Deferred} {w:World},Rel c s u m ρ { tmps:=t,defers:=dl } w->LeavesInM Fence.wide 1 P fn t R dl .returning w
 |[],w,hr=>by
  obtain⟨_,_,_,h,_⟩:=hr.df;rw[g]at h;cases h
 |d::dl,w,hr=>by
  cases hm:U3 d with
  |true =>
   obtain⟨r,w',I,J,L⟩:=hr.shut (P:=P) hm;exact⟨mV,.inl ⟨r,w',I,J,Rel.leavesD g F hi C E L⟩⟩
  |false =>
   have N:d=d0:=by
    obtain⟨_,_,_,h,_⟩:=hr.df;rw[A6x,if_pos (by simp[hm]),g]at h;exact (List.cons.inj h).1
   subst N;refine⟨mV,.inr ⟨(fun h=>by cases h),fv,cap,f,args.toArray,F,hi w,fun _ _=>trivial,?_⟩⟩;refine (C w hr.gd).mono ?_;rintro e O w' ⟨rfl,v,u',m',rfl,g1,g2,H⟩;have n:=Rel.grow0 (hr.unbase g hm) g1 g2;exact Rel.leavesV n fun z j=>E u' m' z (g2.le hr.gd.pu) H j
end
section
variable [Fl:Cl] {P:Program} [A6 P] {fn:Func} {Post:Ce} {st:List KI×S} {u m:PH}
def G.retD [Bs:Co]{d0:Deferred}(I:Bs.dl = [d0]){fv:Fn}{cap:Array Value}{f:FuncId}{args:List Value}{K:PH->PH->Prop}(N:d0.target=.fn fv cap)
 (hi:∀ w,(invoke d0.target d0.args).run P w=.ok (.enter f args.toArray) w) (h:Akf (adv P st)=true) (J:Aix P f args u m K)
 (n:∀ u' m',PH.le u u'->K u' m'->∃ l g,T6 P (adv P st).2 m' fn.results.toList l/\PH.le g m'/\Post.post (Pc l) u' g):G P fn Post st u m:=by
 refine G.stp ?_;generalize adv P st=st' at h n;obtain⟨O,s⟩:=st';have key:∀ c ρ a w,Rel c s u m ρ a w->Am4 P fn (Ady c Post.post) .ret a w/\Am4 P fn (Ady c Post.post) .normal a w:=by
  intro c ρ a w e;have:=Rel.leavesD (fn:=fn) (R:=Ady c Post.post) (t:=a.tmps) I N hi J (fun u' m' w' L H F=>by
   obtain⟨l,g,z,C,E⟩:=n u' m' L H;exact Rel.fin0 (a:=⟨a.tmps,[]⟩) F z C E) (dl:=a.defers) e
  exact⟨this,this⟩
 unfold Akf at h;simp only at h;split at h
 ·refine⟨?_⟩;intro c ρ a w j e;exact wp_ret (J6 (key c ρ a w e).1 _)
 ·refine⟨?_⟩;intro c ρ a w j e;exact (key c ρ a w e).2
 cases h
end
def Azk (s:S)(l:List KI):Option (Nat×Fn×List Value):=match l with
 |.code (.region _ ops false)::_=>match ops.toList with
  |[⟨some d,.makeFunc fn first caps,_,_,_,none⟩,⟨none,.defer c,_,_,_,none⟩]=>match c.callee with
   |.value (.tmp e)=>cond (Nat.beq d e&&Nat.beq first.size 0&&Nat.beq c.args.size 0&&Nat.blt d s.n&&caps.toList.all fun x=>isV (s.ev x)) (some (d,fn,caps.toList.map (C2 s))) none
   |_=>none
  |_=>none
 |_=>none
def Ax3 (l:List KI):List KI:=match l with|_::k=>k|[]=>[]
def Zs (fn:Fn)(vs:List Value):Deferred:={ target:=.fn fn vs.toArray,args:=#[] }
section
variable [Fl:Cl] {P:Program} [A6 P] {fnc:Func} {Post:Ce} {st:List KI×S} {u m:PH}
def Axj:List KI->Bool
 |[]=>true
 |.lp _::_=>false
 |_::k=>Axj k
def O6 (e g:Co)(c:Cx):∀ j:List KI,Axj j=true->@It Fl e P fnc Post c j=@It Fl g P fnc Post c j
 |[],_=>rfl
 |.code x::k,h=>by simp only[It];rw[O6 e g c k h]
 |.blk id::k,h=>by simp only[It];rw[O6 e g c k h]
 |.reg _ _ _ _::k,h=>by simp only[It];rw[O6 e g c k h]
 |.lp _::_,h=>by cases h
def G.outC [Bs:Co]{e:List KI}{s:S}(h:G P fnc Post (e,s) u m)(g:F2 e=true):Hm P fnc Post e s u m:=by
 have:=h.out;rwa[Sym.ofNo g]at this
def G.go (n:Nat)(k:G P fnc Post (run P n st) u m):G P fnc Post st u m:=⟨Tp A6.mx n st k.out⟩
theorem G.off {d:Nat}{fn:Fn}{vs:List Value}(h:Azk st.2 st.1=some (d,fn,vs))(W:F2 (Ax3 st.1)=true)(F:Axj (Ax3 st.1)=true)(k:@G Fl Pu.no ⟨[Zs fn vs]⟩ P fnc Post (Ax3 st.1,st.2.put (some d) (.v (.func fn #[] vs.toArray))) u m):G P fnc Post st u m:=by
 obtain⟨Z,s⟩:=st;unfold Azk at h;simp only at h;split at h
 ·rename_i id ops kk;split at h
  ·rename_i d' fn' first caps ty pos af c ty2 pos2 af2 hops
   split at h
   ·rename_i e hc;cases hb:(Nat.beq d' e&&Nat.beq first.size 0&&Nat.beq c.args.size 0&&Nat.blt d' s.n&&caps.toList.all fun x=>isV (s.ev x)) with
    |false=>grind
    |true =>
     rw[hb]at h;simp only[cond_true,A1f,A2i]at h;obtain⟨rfl,rfl,rfl⟩:=h;simp only[A1m]at hb;obtain⟨⟨⟨⟨z,L⟩,C⟩,N⟩,O⟩:=hb;have z:=A1y z;subst z;have L:first = #[]:=A4s (A1y L)
     have C:c.args = #[]:=A4s (A1y C);have N:d' < s.n:=by simp_all
     rw[A1o]at O;have V:=G.outC (Bs:=⟨[Zs fn' (caps.toList.map (C2 s))]⟩) k W;refine⟨?_⟩;intro K ρ a w H Q;refine wp_region ?_;have X:ops = #[⟨some d',.makeFunc fn' #[] caps,ty,pos,af,none⟩,⟨none,.defer c,ty2,pos2,af2,none⟩]:=by grind
     subst X;have E:caps.map a.eval=(caps.toList.map (C2 s)).toArray:=by
      apply A6j;simp only[Array.toList_map];refine A41 fun x Y=>?_;have j:=O x Y;unfold C2;cases e:s.ev x with
      |v y=>rw[Q.eval x (by rw[e];simp),e];rfl
      |junk=>rw[e]at j;cases j
      |p i o=>rw[e]at j;cases j
     have g:=Rel.put (x:=.v (.func fn' #[] (caps.toList.map (C2 s)).toArray)) (d:=some d') (y:=.func fn' #[] (caps.toList.map (C2 s)).toArray) Q (fun _=>rfl) mV (fun e U=>by cases U;exact N);have R:(execOp a.eval ⟨some d',.makeFunc fn' #[] caps,ty,pos,af,none⟩).run P w=.ok (.value (.func fn' #[] (caps.toList.map (C2 s)).toArray)) w:=by
      have:(execOp a.eval ⟨some d',.makeFunc fn' #[] caps,ty,pos,af,none⟩).run P w=.ok (.value (.func fn' #[] (caps.map a.eval))) w:=by
       have I:∀ (fn:Fn) (first cap:Array Value) (w:World),(Instr.makeFunc fn first cap).run P w=.ok (.func fn first cap) w:=fun _ _ _ _=>rfl
       simp[execOp,I]
      rw[this,E]
     have T:(execOp (a.put (some d') (.func fn' #[] (caps.toList.map (C2 s)).toArray)).eval ⟨none,.defer c,ty2,pos2,af2,none⟩).run P w=.ok (.defer (Zs fn' (caps.toList.map (C2 s)))) w:=by
      have j:=g.eval (.tmp d') (by show (s.put (some d') _).tm d'≠_;rw[Az];simp);rw[show (s.put (some d') (.v (.func fn' #[] (caps.toList.map (C2 s)).toArray))).ev (.tmp d')=.v (.func fn' #[] (caps.toList.map (C2 s)).toArray) from Az _ _ _]at j;simp[execOp,resolve,hc,j,C,SV.den,Deferred.ofValue,Zs]
     have J:=Rel.rebase (t:=(a.put (some d') (.func fn' #[] (caps.toList.map (C2 s)).toArray)).tmps) (dl:=(a.put (some d') (.func fn' #[] (caps.toList.map (C2 s)).toArray)).defers) g (d0:=Zs fn' (caps.toList.map (C2 s))) rfl;refine .inl ?_;show Oper.upon P ⟨some d',.makeFunc fn' #[] caps,ty,pos,af,none⟩ a _ _ ((execOp a.eval ⟨some d',.makeFunc fn' #[] caps,ty,pos,af,none⟩).run P w);rw[R,Oper.upon_value];refine .inl ?_;show Oper.upon P ⟨none,.defer c,ty2,pos2,af2,none⟩ (a.put (some d') (.func fn' #[] (caps.toList.map (C2 s)).toArray)) _ _ ((execOp (a.put (some d') (.func fn' #[] (caps.toList.map (C2 s)).toArray)).eval ⟨none,.defer c,ty2,pos2,af2,none⟩).run P w);rw[T,Oper.upon_defer];have:=V K ρ _ w H J;rw[O6 _ Co.no K _ F]at this;exact this
   cases h
  cases h
 cases h
end
end
section
variable {E c c' i k n n' w:Nat}{R Y q:List Int}{X:List (List Int)}{a a':Option Addr}{cs es:List Value}{o p s:Arr}{r:Value×List Value}{rows:List (Value×List Value)}{u:PH}{v:Value}
def C3 (r:Value×List Value):Arr:=⟨r.1,141,2,r.2⟩
def oN (v:Value)(rows:List (Value×List Value)):Arr:=⟨v,190,1,rows.map (·.1)⟩
def Ack {m0 m:PH}:(C3 r).At m0 m=Af m0 m r.1 141 2 r.2:=rfl
def Akm {m0 m:PH}:(oN v rows).At m0 m=Af m0 m v 190 1 (rows.map (·.1)):=rfl
def Aq8 {x:Value}{es es':List Value}(h:rows[i]?=some (x,es)):oN v (rows.set i (x,es'))=oN v rows:=by
 unfold oN;rw[Un (r':=(x,es')) h rfl]
def F8 (h:rows[i]?=some r):(s::p::o::rows.map C3)[i+3]?=some (C3 r):=by simp[h]
def Afy :(s::p::o::rows.map C3).set (i+3) (C3 r)=s::p::o::(rows.set i r).map C3:=by
 rw[A2j,A2j,A2j,A2g]
structure N3 where
 b:Bool
 a:Option Addr
 n:Nat
 c:Nat
def nv (f:N3):Value:=.agg #[.bool f.b,.slice f.a f.n f.c]
def Age (f:N3):List SV:=[.v (.bool f.b),.v (.slice f.a f.n f.c)]
def Bi.opN {z:Int}(h:Bi u v z):∃ f,v=nv f:=by
 obtain⟨b,a,n,c,rfl⟩:=h.opn;exact⟨⟨b,a,n,c⟩,rfl⟩
def NAt (u:PH)(rows:List (Value×List Value))(X:List (List Int)):Prop:=rows.length=X.length/\∀ (i:Nat) (r:Value×List Value),rows[i]?=some r->AtP Bi u r.2 (gMZ X i)
def NAt.mono {u e:PH}{rows:List (Value×List Value)}{X:List (List Int)}(h:NAt u rows X)(j:PH.le u e):NAt e rows X:=⟨h.1,fun i r t=>(h.2 i r t).mono (fun _ _ k=>k.mono j)⟩
def NAt.set (h:NAt u rows X)(hi:i<rows.length)(z:AtP Bi u r.2 q):NAt u (rows.set i r) (X.set i q):=by
 refine⟨by simp[h.1],fun j r' t=>?_⟩;rw[Kv (by rw[<-h.1];exact hi)];rw[A1z]at t;by_cases e:i=j
 ·subst e;rw[if_pos rfl,if_pos hi]at t;simp only[A1f]at t;rw[if_pos rfl,<-t];exact z
 rw[if_neg e]at t⊢;exact h.2 j r' t
theorem Ara (i:Nat):gMZ (X++[q]) i=if i<X.length then gMZ X i else if i=X.length then q else []:=by
 unfold gMZ;rw[A02,A02];by_cases h:i<X.length
 ·rw[A1r h,if_pos h]
 ·rw[if_neg h];by_cases e:i=X.length
  ·subst e;rw[if_pos rfl];simp
  ·rw[if_neg e,A1v gV];rfl
def NAt.snoc (h:NAt u rows X)(j:AtP Bi u r.2 q):NAt u (rows++[r]) (X++[q]):=by
 refine⟨by simp[h.1],fun i r' hi=>?_⟩;rw[Ara];by_cases e:i<rows.length
 ·rw[A1r e]at hi;rw[if_pos (by rw[<-h.1];exact e)];exact h.2 i r' hi
 rw[A18 oV]at hi;have t:i-rows.length=0:=by
  rcases A2a (i-rows.length) with h0|h0
  ·exact h0
  rw[A1v gV]at hi;cases hi
 rw[t]at hi;simp at hi;subst hi;rw[if_neg (by rw[<-h.1];omega),if_pos (by rw[<-h.1];omega)];exact j
def E9 (rv pv:Value)(f:N3)(odd:Bool):List Value:=[rv,pv,.bool f.b,.slice f.a f.n f.c,.bool odd]
def Jv (g:Nat)(cs:List Value):Arr:=⟨.slice (some ⟨g,0,none⟩) 5 5,192,1,cs⟩
def V3 {g:Nat}{m0 m:PH}:(Jv g cs).At m0 m=Af m0 m (.slice (some ⟨g,0,none⟩) 5 5) 192 1 cs:=rfl
def Ap1 (h:∀ x∈es,Ax x=true/\x.cells = #[x]):A9 1 es:=fun x z=>by
 obtain⟨j,t⟩:=h x z;rw[t];exact⟨rfl,fun y e=>by simp at e;subst e;exact j⟩
def Akd {f:N3}{odd:Bool}:A9 1 (E9 (.slice a n c) (.slice a' n' c') f odd):=Ap1 (by
 intro x e;simp only[E9,A1g,A11,or_false]at e;rcases e with rfl|rfl|rfl|rfl|rfl<;>exact⟨rfl,rfl⟩)
def Lz (h:∀ x∈es,x.cells = #[x]):A2 es=es:=by
 induction es with
 |nil=>rfl
 |cons e es ih =>
  unfold A2 at ih⊢;rw[A6o,ih (fun x j=>h x (A2f _ j)),h e mV];rfl
def Sa {f:N3}{odd:Bool}:∀ x∈E9 (.slice a n c) (.slice a' n' c') f odd,x.cells = #[x]:=by
 intro x e;simp only[E9,A1g,A11,or_false]at e;rcases e with rfl|rfl|rfl|rfl|rfl<;>rfl
def Ae9 {m:PH}{g:Nat}{f:N3}{odd:Bool}(e:m g=none):(Jv g (E9 (.slice a n c) (.slice a' n' c') f odd)).At m (m.upd g (.cells (E9 (.slice a n c) (.slice a' n' c') f odd).toArray 192 (0,0))):=by
 rw[V3];refine⟨Akd,.inr ⟨g,5,[],e,?_,rfl,by simp[E9],by rw[Lz Sa];simp[E9],mV⟩⟩;rw[Lz Sa,A1x]
def Aqq {m0 m:PH}{g:Nat}(h:(Jv g cs).At m0 m)(C:∀ x∈cs,x.cells = #[x])(I:cs.length=5):m0 g=none/\m=m0.upd g (.cells cs.toArray 192 (0,0)):=by
 rw[V3]at h;rcases h.2 with ⟨h,_,_⟩|⟨H,cap,rest,z,e,j,F,t,_⟩
 ·cases h
 simp only[Value.slice.injEq,A1f,Addr.mk.injEq]at j;obtain⟨⟨rfl,_,_⟩,_,rfl⟩:=j;rw[Lz C]at e t;have:rest = []:=by
  refine A2l ?_;rw[A1d]at t;omega
 subst this;rw[A1x]at e;exact⟨z,e⟩
section
variable {m:PH} {g:Nat} {l:List Arr} {rv pv:Value} {f:N3} {odd:Bool}
def Ev (h:Bag m (Jv g (E9 rv pv f odd)::l)):ElP m g (0+0) rv:=h.el (j:=0) 0 (x:=Jv g (E9 rv pv f odd)) rfl rfl rfl
def Ab4 (h:Bag m (Jv g (E9 rv pv f odd)::l)):ElP m g (0+1) pv:=h.el (j:=1) 0 (x:=Jv g (E9 rv pv f odd)) rfl rfl rfl
def Ak7 (h:Bag m (Jv g (E9 rv pv f odd)::l)):ElP m g (0+4) (.bool odd):=h.el (j:=4) 0 (x:=Jv g (E9 rv pv f odd)) rfl rfl rfl
def Al1 (h:Bag m (Jv g (E9 rv pv f odd)::l)):ElP m g (0+2) (nv f):=by
 have e:ElP m g (0+2*1) (.bool f.b):=h.el (j:=2) 0 (x:=Jv g (E9 rv pv f odd)) rfl rfl rfl;have t:ElP m g (0+3*1) (.slice f.a f.n f.c):=h.el (j:=3) 0 (x:=Jv g (E9 rv pv f odd)) rfl rfl rfl;intro i x hi
 match i,hi with
 |0,hi=>exact e 0 x hi
 |1,hi=>exact t 0 x hi
end
def Ur {u m:PH}{g n c w i:Nat}(z:Bag m (s::p::oN (.slice (some ⟨g,0,none⟩) n c) rows::rows.map C3))(O:NAt u rows X)(L:E8 n w X)(hi:i<n)(U:0<w) :
 ∃ H J F,rows[i]?=some (.slice (some ⟨H,0,none⟩) w J,F)/\F.length=w/\AtP Bi u F (gMZ X i)/\ElP m g (0+i*1) (.slice (some ⟨H,0,none⟩) w J)/\∀ j,j<w->∃ f,F[j]?=some (nv f)/\Bi u (nv f) (enZ X i j)/\ElP m H (0+j*2) (nv f):=by
 have T:rows.length=n:=by rw[O.1,L.1]
 have h:rows[i]?=some rows[i]:=A01 oV;have t:=O.2 i _ h;obtain⟨⟨V,F⟩,P⟩:∃ x,rows[i]=x:=⟨_,rfl⟩;rw[P]at h t;simp only at t;have C:F.length=w:=by rw[t.1,L.2 i hi]
 obtain⟨H,J,e⟩:=z.ptr (i+3) (F8 h) (by intro e;simp only[C3]at e;rw[e]at C;simp at C;omega);simp only[C3]at e;rw[C]at e;subst e;refine⟨H,J,F,h,C,t,z.el 2 (x:=oN _ rows) rfl rfl (by show (rows.map (·.1))[i]?=_;rw[A1a,h];rfl),fun j Q=>?_⟩;have I:j<(gMZ X i).length:=by rw[L.2 i hi];exact Q
 obtain⟨e,N,K⟩:=t.at I;obtain⟨f,rfl⟩:=K.opN;rw[<-Ol I]at K;exact⟨f,N,K,z.el (i+3) (x:=C3 _) (F8 h) rfl N⟩
def Vp (Y R:List Int)(k:Nat):List Int:=Y.take k++R.drop k
def Amf (Y R:List Int):Vp Y R 0=R:=by simp[Vp]
def Asz (h:Y.length=k)(e:R.length=k):Vp Y R k=Y:=by
 unfold Vp;rw[A1j oV,A2b oV,A1x]
def Ape (h:Y.length=R.length)(e:k<=R.length):(Vp Y R k).length=R.length:=by simp[Vp];omega
def Aov (h:Y.length=R.length)(e:k<R.length):(Vp Y R k).set k (gZ Y k)=Vp Y R (k+1):=by
 unfold Vp;rw[A4t _ _ gV];simp only[A1e];rw[show k-min k Y.length=0 by omega,A5z e,A2p,M2 oV,A2k,Ol oV];rfl
def Atr (h:Y.length=R.length)(e:k<R.length):gZ (Vp Y R k) k=gZ R k:=by
 unfold Vp gZ;rw[A02,A18 gV,A02];simp only[A1e];rw[show k-min k Y.length=0 by omega,A39];rfl
def SzZ (X:List (List Int))(E:Nat):Prop:=∀ i j,nl (enZ X i j).natAbs<=E
def SzZ.mono {E e:Nat}(h:SzZ X E)(t:E<=e):SzZ X e:=fun i j=>A04 (h i j) t
def Vw {v a g x y:Int}(t:nl a.natAbs<=E)(z:nl g.natAbs<=E)(C:nl x.natAbs<=E)(F:nl y.natAbs<=E):nl (x*a).natAbs<=2*E/\nl (g*y).natAbs<=2*E/\nl (x*a-g*y).natAbs<=2*E+1/\nl ((x*a-g*y)/v).natAbs<=2*E+1:=by
 have e:=Bx C t;have h:=Bx z F;have j:=Ab3 e h;exact⟨e,h,j,A04 (C4 (Int.natAbs_ediv_le_natAbs _ _)) j⟩
def SzZ.swap {n w p r E:Nat}(h:SzZ X E)(e:E8 n w X)(hp:p<n)(t:r<n):SzZ (Kw X p r) E:=fun i j=>by
 unfold enZ;rw[Wz e hp t];split
 ·exact h p j
 split
 ·exact h r j
 exact h i j
def SzZ.row {n w r c i E:Nat}{v:Int}(h:SzZ X E)(e:E8 n w X)(t:r<n)(hi:i<n)(j:Nat):nl (gZ (Qx v (enZ X r c) (enZ X i c) (gMZ X r) (gMZ X i)) j).natAbs<=2*E+1:=by
 rw[Acv _ _ _ _ _ (by rw[e.2 r t,e.2 i hi])];exact (Vw (h r c) (h i c) (h i j) (h r j)).2.2.2
def SzZ.clr {n w r c E:Nat}{v:Int}(h:SzZ X E)(e:E8 n w X)(t:r<n):SzZ (Ov r c v n 0 X) (2*E+1):=fun i j=>by
 unfold enZ;rw[Ry t n 0 X oV e];split
 ·rename_i h1;exact h.row e t oV j
 exact A04 (h i j) oV
def Al2 {s:BZ}(h:SzZ s.X E)(H:nl s.v.natAbs<=E)(t:E8 n w s.X)(F:s.P.length<=n):SzZ (I0 n c s).X (2*E+1)/\nl (I0 n c s).v.natAbs<=2*E+1/\E8 n w (I0 n c s).X/\(I0 n c s).P.length<=n/\(s.v≠0->(I0 n c s).v≠0):=by
 obtain⟨J,K⟩:=Ac3 s.X c (n-s.P.length) s.P.length;have I:=Ade s.X c (n-s.P.length) s.P.length;unfold I0;generalize Iy s.X c (n-s.P.length) s.P.length=p at *
 split
 ·exact⟨h.mono oV,A04 H oV,t,F,id⟩
 rename_i e;have hp:p<n:=oV;have z:s.P.length<n:=oV;have j:E8 n w (if p=s.P.length then s.X else Kw s.X p s.P.length):=by
  split
  ·exact t
  exact Uh t hp z
 have C:SzZ (if p=s.P.length then s.X else Kw s.X p s.P.length) E:=by
  split
  ·exact h
  exact h.swap t hp z
 exact⟨C.clr j z,A04 (h p c) oV,Wu z n 0 _ oV j,gV,fun _=>I oV⟩
end
structure E3 where
 rows:List (Value×List Value)
 X:List (List Int)
 odd:Bool
def Awx {z:Int}:sgn z=0↔z=0:=by unfold sgn;split<;>(try split)<;>omega
def Ax8 {u m:PH}{g go H n w c E:Nat}{z:List (Value×List Value)}{K:List (List Int)}{P:List Nat}{pa:Option Addr}{pc:Nat}{f0:N3}{t:Bool}{v:Int}
 (T:E8 n w K) (hn:n<=100) (hw:w<=100) (hc:c<w) (hP:P.length<=n) (h0:0<n) (a2:SzZ K E) (hv:Bi u (nv f0) v) (d5:nl v.natAbs<=E) (d3:v≠0) (hE:E<=1000000000) (az:NAt u z K)
 (h:Bag m (Jv g (E9 (.slice (some ⟨go,0,none⟩) n H) (.slice pa P.length pc) f0 t)::Np (.slice pa P.length pc) P::oN (.slice (some ⟨go,0,none⟩) n H) z::z.map C3)) :
 Ag prog 194 [.pointer (some ⟨g,0,none⟩),.int .i64 c] u m fun r u' m'=>r=.tuple #[]/\∃ cg ch f' a1,NAt u' a1 (I0 n c ⟨K,P,v,t⟩).X/\Bi u' (nv f') (I0 n c ⟨K,P,v,t⟩).v /\
  Bag m' (Jv g (E9 (.slice (some ⟨go,0,none⟩) n H) (.slice cg (I0 n c ⟨K,P,v,t⟩).P.length ch) f' (I0 n c ⟨K,P,v,t⟩).odd)::Np (.slice cg (I0 n c ⟨K,P,v,t⟩).P.length ch) (I0 n c ⟨K,P,v,t⟩).P::oN (.slice (some ⟨go,0,none⟩) n H) a1::a1.map C3):=by
 have af:0<w:=oV;refine Ag.o func194<|G.f 192 g 0 1 1<|G.lM none g (0+1) (.slice pa P.length pc) (Ab4 h)<|G.l (ι:=Nat) (fun p=>[(0,.v (.pointer (some ⟨g,0,none⟩))),(1,iV c),(4,iV P.length),(5,iV p)]) (fun _=>[])
  (fun p u' m'=>P.length<=p/\p<=n/\Iy K c (n-p) p=Iy K c (n-P.length) P.length/\m'=m) (fun p=>n-p) P.length ⟨A08 _,hP,rfl,rfl⟩ ?_
 rintro J2 p bi u3 m3 l3 ⟨dq,dr,a6,rfl⟩;have J:=az.mono l3;refine G.f 192 g 0 0 0<|G.lM none g (0+0) (.slice (some ⟨go,0,none⟩) n H) (Ev h) ?_;by_cases V:n<=p
 ·obtain rfl:p=n:=oV;refine G.lF p p<|G.f 192 g 0 0 0<|G.lM none g (0+0) (.slice (some ⟨go,0,none⟩) p H) (Ev h)<|G.hT p p ?_;have e:I0 p c ⟨K,P,v,t⟩=⟨K,P,v,t⟩:=by
   unfold I0;rw[if_pos];show Iy K c (p-P.length) P.length=p;rw[<-a6,A4i];rfl
  refine G.r (.tuple #[]) ?_;rw[e];exact⟨rfl,pa,pc,f0,z,J,hv.mono l3,h⟩
 have V:p<n:=oV;refine G.lT p n ?_;obtain⟨K2,bk⟩:∃ K2,n-p=K2+1:=⟨n-p-1,oV⟩;obtain⟨gp,cp,ep,bz,d1,bh,aa,bt⟩:=Ur h J T V af;obtain⟨fp,d0,bu,bw⟩:=bt c hc;refine G.f 192 g 0 0 0<|G.lM none g (0+0) (.slice (some ⟨go,0,none⟩) n H) (Ev h)<|G.a go 0 n H p 1 V<|G.lM none go (0+p*1) _ aa<|G.a gp 0 w cp c 2 hc<|G.lM (some 2) gp (0+c*2) (nv fp) bw<|G.c call195 (N1 bu (A04 (a2 p c) oV)) ?_;rintro v4 u4 l4 rfl;by_cases hz:enZ K p c=0
 ·refine G.eT' (sgn (enZ K p c)) 0 (Awx.2 hz)<|G.i p<|G.b (bi (p+1) _ _ _ cV (l3.trans l4) ⟨oV,oV,?_,rfl⟩ oV);rw[<-a6,bk,Iy,if_pos hz,show n-(p+1)=K2 by omega]
 refine G.eF' (sgn (enZ K p c)) 0 (fun e=>hz (Awx.1 e)) ?_;rw[bk,Iy,if_neg hz]at a6;clear bi;have N:P.length<n:=oV;refine G.f 192 g 0 0 0<|G.lM none g (0+0) (.slice (some ⟨go,0,none⟩) n H) (Ev h)<|G.hF p n<|G.join (ι:=E3) (.bool false) (fun i=>[(0,.v (.pointer (some ⟨g,0,none⟩))),(1,iV c),(4,iV P.length)]) (fun i=>[])
  (fun i u' m'=>i.X=(if p=P.length then K else Kw K p P.length)/\i.odd=(if p=P.length then t else !t)/\NAt u' i.rows i.X/\Bag m' (Jv g (E9 (.slice (some ⟨go,0,none⟩) n H) (.slice pa P.length pc) f0 i.odd)::Np (.slice pa P.length pc) P::oN (.slice (some ⟨go,0,none⟩) n H) i.rows::i.rows.map C3)) (fun _=>kV) kV ?tail ?way
 case way =>
  intro a9;by_cases an:p=P.length
  ·refine G.nF p P.length ?_;exact a9 ⟨z,K,t⟩ _ _ _ kV cV (PH.le_refl _) ⟨by rw[if_pos an],by rw[if_pos an],J.mono l4,h⟩
  refine G.nT p P.length ?_;obtain⟨gr,cr,er,bb,au,aw,am,b2⟩:=Ur h J T N af;refine G.f 192 g 0 0 0<|G.lM none g (0+0) (.slice (some ⟨go,0,none⟩) n H) (Ev h)<|G.f 192 g 0 0 0<|G.lM none g (0+0) (.slice (some ⟨go,0,none⟩) n H) (Ev h)<|G.f 192 g 0 0 0<|G.lM none g (0+0) (.slice (some ⟨go,0,none⟩) n H) (Ev h)<|G.a go 0 n H P.length 1 N<|G.lM none go (0+P.length*1) _ am<|G.f 192 g 0 0 0<|G.lM none g (0+0) (.slice (some ⟨go,0,none⟩) n H) (Ev h)<|G.a go 0 n H p 1 V<|G.lM none go (0+p*1) _ aa ?_;obtain⟨m0,ag,ab⟩:=h.focus 2 rfl;rw[Akm]at ag;have dd:z.length=n:=by rw[az.1,T.1]
  refine G.a go 0 n H p 1 V<|G.storeA 1 m0 _ go n H p (.slice (some ⟨gr,0,none⟩) w cr) kV ag gV rfl rfl ?_;intro m5 d7;refine G.a go 0 n H P.length 1 N<|G.storeA 1 m0 _ go n H P.length (.slice (some ⟨gp,0,none⟩) w cp) kV d7 gV rfl rfl ?_;intro m6 c6;have ba:((z.map (·.1)).set p (Value.slice (some ⟨gr,0,none⟩) w cr)).set P.length (Value.slice (some ⟨gp,0,none⟩) w cp)=((z.set p (Value.slice (some ⟨gr,0,none⟩) w cr,er)).set P.length (Value.slice (some ⟨gp,0,none⟩) w cp,ep)).map (·.1):=by rw[A2g,A2g]
  rw[ba]at c6;have cn:=ab (oN (.slice (some ⟨go,0,none⟩) n H) ((z.set p (Value.slice (some ⟨gr,0,none⟩) w cr,er)).set P.length (Value.slice (some ⟨gp,0,none⟩) w cp,ep))) m6 c6;have b5:((z.set p (Value.slice (some ⟨gr,0,none⟩) w cr,er)).set P.length (Value.slice (some ⟨gp,0,none⟩) w cp,ep)).Perm z:=by
   obtain⟨q1,q2⟩:=A05.1 bz;obtain⟨q3,q4⟩:=A05.1 bb;rw[<-q2,<-q4];exact List.set_set_perm q1 q3
  have br:=Bag.perm (List.Perm.cons _ (List.Perm.cons _ (List.Perm.cons _ (b5.symm.map C3)))) cn;have Z:=(J.set (i:=p) (r:=(Value.slice (some ⟨gr,0,none⟩) w cr,er)) oV aw).set (i:=P.length) (r:=(Value.slice (some ⟨gp,0,none⟩) w cp,ep)) gV bh;refine G.f 192 g 0 3 4<|G.lM none g (0+4) (.bool t) (Ak7 br)<|G.f 192 g 0 3 4 ?_;obtain⟨m7,c7,b9⟩:=br.focus 0 rfl;rw[V3]at c7;refine G.storeA 1 m7 _ g 5 5 4 (.bool !t) kV c7 (by simp[E9]) rfl rfl ?_;intro m8 d8;have cq:=b9 (Jv g (E9 (.slice (some ⟨go,0,none⟩) n H) (.slice pa P.length pc) f0 (!t))) m8 d8;exact a9 ⟨(z.set p (Value.slice (some ⟨gr,0,none⟩) w cr,er)).set P.length (Value.slice (some ⟨gp,0,none⟩) w cp,ep),Kw K p P.length,!t⟩ _ _ _ kV cV (PH.le_refl _) ⟨by rw[if_neg an],by rw[if_neg an],Z.mono l4,cq⟩
 rintro⟨rows1,X1,odd1⟩ u5 m5 l5 ⟨hX1e,hod,Z,hbag1⟩;simp only at hX1e hod Z hbag1;have ak:E8 n w X1:=by
  rw[hX1e];split
  ·exact T
  exact Uh T V N
 have ae:SzZ X1 E:=by
  rw[hX1e];split
  ·exact a2
  exact a2.swap T V N
 have bn:enZ X1 P.length c=enZ K p c:=by
  rw[hX1e];split
  ·rename_i e;rw[e]
  unfold enZ;rw[Wz T V N,if_pos rfl]
 have ad:I0 n c ⟨K,P,v,t⟩=⟨Ov P.length c v n 0 X1,P++[c],enZ X1 P.length c,odd1⟩:=by
  unfold I0;rw[if_neg (by show ¬ Iy K c (n-P.length) P.length=n;rw[<-a6];omega),bn,hod,hX1e];show BZ.mk _ _ _ _=_;simp only[<-a6]
 rw[ad];clear ad hX1e h az J bz d1 bh aa bt d0 bu bw a6 a2 T;have d4:=hv.mono ((l3.trans l4).trans l5);have ds:rows1.length=n:=by rw[Z.1,ak.1]
 obtain⟨gr,cr,er,bb,au,aw,am,b2⟩:=Ur hbag1 Z ak N af;obtain⟨fr,h5,h6,h7⟩:=b2 c hc;obtain⟨R,hR⟩:∃ R,R=gMZ X1 P.length:=⟨_,rfl⟩;have dk:R.length=w:=by rw[hR];exact ak.2 _ N
 obtain⟨F,hF⟩:∃ F,F=enZ X1 P.length c:=⟨_,rfl⟩;have ax:nl F.natAbs<=E:=by rw[hF];exact ae _ _
 have b0:∀ j,nl (gZ R j).natAbs<=E:=fun j=>by rw[hR];exact ae _ j
 rw[<-hF]at h6⊢;have cl:gZ R c=F:=by rw[hR,hF];rfl
 refine G.f 192 g 0 0 0<|G.lM none g (0+0) (.slice (some ⟨go,0,none⟩) n H) (Ev hbag1)<|G.a go 0 n H P.length 1 N<|G.lM none go (0+P.length*1) _ am<|G.a gr 0 w cr c 2 hc<|G.lM (some 2) gr (0+c*2) (nv fr) h7<|G.f 192 g 0 0 0<|G.lM none g (0+0) (.slice (some ⟨go,0,none⟩) n H) (Ev hbag1)<|G.l (ι:=Nat×List (Value×List Value)×List (List Int)) (fun i=>[(0,.v (.pointer (some ⟨g,0,none⟩))),(1,iV c),(4,iV P.length),(6,.p 8010 0),(97,sV (some ⟨go,0,none⟩) n H),(98,iV n),(99,iV i.1)]) (fun i=>[(8010,⟨141,Age fr⟩)])
  (fun i u' m'=>i.1<=n/\Ov P.length c v (n-i.1) i.1 i.2.2=Ov P.length c v n 0 X1/\E8 n w i.2.2/\gMZ i.2.2 P.length=R/\(∀ x j,i.1<=x->nl (enZ i.2.2 x j).natAbs<=E)/\NAt u' i.2.1 i.2.2 /\
   Bag m' (Jv g (E9 (.slice (some ⟨go,0,none⟩) n H) (.slice pa P.length pc) f0 odd1)::Np (.slice pa P.length pc) P::oN (.slice (some ⟨go,0,none⟩) n H) i.2.1::i.2.1.map C3))
  (fun i=>n-i.1) (0,rows1,X1) ⟨A1t _,rfl,ak,hR.symm,fun x j _=>ae x j,Z,hbag1⟩ ?_
 clear Z hbag1 bb au aw am b2 h5 h7;rintro J4 ⟨i,C,X3⟩ ay u8 m8 l8 ⟨hi,a8,U,O,W,J,I⟩;simp only at hi a8 U O W J I ay;have d2:C.length=n:=by rw[J.1,U.1]
 by_cases a5:i<n
 ·refine G.lT i n ?_;obtain⟨K3,bl⟩:∃ K3,n-i=K3+1:=⟨n-i-1,oV⟩;obtain⟨Y,ci,ei,bx,cw,bg,cz,ct⟩:=Ur I J U a5 af;refine G.a go 0 n H i 1 a5<|G.lM none go (0+i*1) _ cz ?_;by_cases al:i=P.length
  ·refine G.eT i P.length<|G.i i<|G.b (ay (i+1,C,X3) _ _ _ cV l8 ⟨dV,?_,U,O,fun x j h1=>W x j (by dsimp only at h1;omega),J,I⟩ dV);dsimp only;rw[<-a8,bl,Ov,if_pos al,show n-(i+1)=K3 by omega]
  refine G.eF i P.length ?_;obtain⟨fg,g5,g6,g7⟩:=ct c hc;have b4:=W i c (A08 _);refine G.a Y 0 w ci c 2 hc<|G.lM (some 2) Y (0+c*2) (nv fg) g7 ?_;obtain⟨S,hS⟩:∃ S,S=gMZ X3 i:=⟨_,rfl⟩;have bm:S.length=w:=by rw[hS];exact U.2 i a5
  have b1:∀ j,nl (gZ S j).natAbs<=E:=fun j=>by rw[hS];exact W i j (A08 _)
  have ck:enZ X3 P.length c=F:=by unfold enZ;rw[O];exact cl
  have bs:Ov P.length c v (n-(i+1)) (i+1) (X3.set i (Qx v F (enZ X3 i c) R S))=Ov P.length c v n 0 X1:=by
   rw[<-a8,bl,Ov,if_neg al,show n-(i+1)=K3 by omega,hS,O,ck]
  generalize hg:enZ X3 i c=gg at *
  rw[<-hS]at bg;have bd:=S2 v F gg R S;have dl:∀ j,nl (gZ (Qx v F gg R S) j).natAbs<=2*E+1:=fun j=>by
   rw[Acv _ _ _ _ _ oV];exact (Vw ax b4 (b1 j) (b0 j)).2.2.2
  obtain⟨gs,cs,bf,c0,df,dj,dp,cu⟩:=Ur I J U N af;refine G.l (ι:=Nat×List Value) (fun y=>[(0,.v (.pointer (some ⟨g,0,none⟩))),(1,iV c),(4,iV P.length),(6,.p 8010 0),(97,sV (some ⟨go,0,none⟩) n H),(98,iV n),(99,iV i),(8,sV (some ⟨Y,0,none⟩) w ci),(9,.p 13004 0),(112,iV w),(113,iV y.1)]) (fun y=>[(8010,⟨141,Age fr⟩),(13004,⟨141,Age fg⟩)])
   (fun y u' m'=>y.1<=w/\AtP Bi u' y.2 (Vp (Qx v F gg R S) S y.1)/\Bag m' (Jv g (E9 (.slice (some ⟨go,0,none⟩) n H) (.slice pa P.length pc) f0 odd1)::Np (.slice pa P.length pc) P::oN (.slice (some ⟨go,0,none⟩) n H) C::(C.set i ((Value.slice (some ⟨Y,0,none⟩) w ci),y.2)).map C3)) (fun y=>w-y.1) (0,ei)
   ⟨A1t _,by rw[Amf];exact bg,by rw[Ny bx];exact I⟩ ?_
  rintro J5 ⟨y,L⟩ bj du a7 a0 ⟨hy,a4,Q⟩;simp only at hy a4 Q bj;have cy:=Ape (k:=y) bd oV;have dm:L.length=w:=by rw[a4.1,cy,bm]
  have ar:(C.set i ((Value.slice (some ⟨Y,0,none⟩) w ci),L))[i]?=some ((Value.slice (some ⟨Y,0,none⟩) w ci),L):=by rw[A1z];simp[d2,a5]
  have b3:(C.set i ((Value.slice (some ⟨Y,0,none⟩) w ci),L))[P.length]?=some (Value.slice (some ⟨gs,0,none⟩) w cs,bf):=by rw[A1z,if_neg al];exact c0
  by_cases ao:y<w
  ·refine G.lT y w ?_;obtain⟨e,e1,e2⟩:=a4.at (j:=y) oV;obtain⟨fe,rfl⟩:=e2.opN;rw[<-Ol oV,Atr bd oV]at e2;have aa:ElP a7 go (0+P.length*1) (Value.slice (some ⟨gs,0,none⟩) w cs):=Q.el 2 (x:=oN (.slice (some ⟨go,0,none⟩) n H) C) rfl rfl (by show (C.map (·.1))[P.length]?=_;rw[A1a,c0];rfl);have he:ElP a7 Y (0+y*2) (nv fe):=Q.el (i+3) (x:=C3 ((Value.slice (some ⟨Y,0,none⟩) w ci),L)) (F8 ar) rfl e1;obtain⟨fs,s5,s6,_⟩:=cu y ao;have db:Bi u8 (nv fs) (gZ R y):=by rw[<-O];exact s6
   have cv:ElP a7 gs (0+y*2) (nv fs):=Q.el (P.length+3) (x:=C3 (Value.slice (some ⟨gs,0,none⟩) w cs,bf)) (F8 b3) rfl s5;have c1:=(d4.mono l8).mono a0;obtain⟨z1,z2,z3,z4⟩:=Vw (v:=v) ax b4 (b1 y) (b0 y);refine G.a Y 0 w ci y 2 ao<|G.lM (some 2) Y (0+y*2) (nv fe) he<|G.f 192 g 0 0 0<|G.lM none g (0+0) (.slice (some ⟨go,0,none⟩) n H) (Ev Q)<|G.a go 0 n H P.length 1 N<|G.lM none go (0+P.length*1) _ aa<|G.a gs 0 w cs y 2 ao<|G.lM (some 2) gs (0+y*2) (nv fs) cv<|G.f 192 g 0 2 2<|G.lM (some 2) g (0+2) (nv f0) (Al1 Q)<|G.c call126 (Ea e2 ((h6.mono l8).mono a0) (A04 (b1 y) oV) (A04 ax oV)) ?_;intro e0 dv ah c8;obtain⟨dg,rfl⟩:=c8.opN;refine G.c call126 (Ea ((g6.mono a0).mono ah) ((db.mono a0).mono ah) (A04 b4 oV) (A04 (b0 y) oV)) ?_;intro e3 dw ap ca;obtain⟨dh,rfl⟩:=ca.opN;refine G.c call241 (Ac7 (c8.mono ap) ca (A04 z1 oV) (A04 z2 oV)) ?_;intro e4 dx be cb;obtain⟨di,rfl⟩:=cb.opN;refine G.c call190 (M1 cb (c1.mono ((ah.trans ap).trans be)) (A04 z3 oV) (A04 d5 oV) d3) ?_;rintro e5 dy ce ⟨e6,e7,rfl,cc,cd⟩;obtain⟨av,rfl⟩:=cc.opN;obtain⟨dc,rfl⟩:=cd.opN;obtain⟨m0,ag,ab⟩:=Q.focus (i+3) (F8 ar);rw[Ack]at ag;refine G.a Y 0 w ci y 2 ao<|G.storeA 2 m0 L Y w ci y (nv av) kV ag oV rfl rfl ?_;intro da c4;have aq:=ab (C3 ((Value.slice (some ⟨Y,0,none⟩) w ci),L.set y (nv av))) da c4;rw[Afy,A6r]at aq;refine G.i y<|G.b (bj (y+1,L.set y (nv av)) _ _ _ cV ((((a0.trans ah).trans ap).trans be).trans ce) ⟨dV,?_,aq⟩ dV);dsimp only;rw[<-Aov bd oV,Acv _ _ _ _ _ oV];exact (a4.mono (fun _ _ k=>k.mono (((ah.trans ap).trans be).trans ce))).set y cc
  obtain rfl:y=w:=oV;refine G.lF y y ?_;rw[Asz oV bm]at a4;rw[<-Aq8 (es':=L) bx]at Q;refine G.i i ?_;have cm:E8 n y (X3.set i (Qx v F gg R S)):=Lt U a5 oV;have ac:∀ x,gMZ (X3.set i (Qx v F gg R S)) x=if i=x then Qx v F gg R S else gMZ X3 x:=fun x=>Kv (by rw[U.1];exact a5)
  refine G.b (ay (i+1,C.set i ((Value.slice (some ⟨Y,0,none⟩) y ci),L),X3.set i (Qx v F gg R S)) _ _ _ cV (l8.trans a0) ⟨dV,bs,cm,?_,?_,?_,Q⟩ dV)
  ·dsimp only;rw[ac,if_neg al];exact O
  ·intro x j h1;dsimp only at h1⊢;unfold enZ;rw[ac,if_neg oV];exact W x j oV
  exact (J.mono a0).set (i:=i) (r:=((Value.slice (some ⟨Y,0,none⟩) y ci),L)) oV a4
 obtain rfl:i=n:=oV;refine G.lF i i ?_;rw[A4i,Ov]at a8;rw[<-a8];refine G.f 192 g 0 1 1<|G.lM none g (0+1) (.slice pa P.length pc) (Ab4 I)<|G.B 3 1 8 (.int .i64 0) [.int .i64 c] (Av [c]) ?_;intro g9 u9 l9 e9;obtain⟨m1,c2,b6⟩:=I.focus 1 rfl;rw[Aka]at c2;have cw:(Ai P).length=P.length:=by simp[Ai]
 refine G.append 3 1 8 (.int .i64 0) m1 (Ai P) [.int .i64 c] (.slice pa P.length pc) g9 0 1 1 kV rfl rfl oV c2 e9 (Av [c]) rfl oV oV oV ?_;intro dz a7 a3;rw[show Ai P++[Value.int .i64 c]=Ai (P++[c]) by simp[Ai]]at a3;obtain⟨ai,aj,rfl⟩:=a3.shape;have el:(Ai (P++[c])).length=(P++[c]).length:=by simp[Ai]
 rw[el]at a3⊢;have bo:=b6 (Np (.slice ai (P++[c]).length aj) (P++[c])) a7 a3;obtain⟨m2,d6,b7⟩:=bo.focus 0 rfl;obtain⟨cx,em⟩:=Aqq d6 Sa rfl;refine G.f 192 g 0 2 2<|G.storeM 2 g (0+2) 192 (E9 (.slice (some ⟨go,0,none⟩) i H) (.slice pa P.length pc) f0 odd1) (nv fr) kV (by rw[em,Ab]) (fun x hx=>by
  have:=(Akd x hx).2 x (by rw[Sa x hx];simp);exact this) (by simp[E9]) rfl rfl ?_
 have cj:a7.upd g (.cells ((E9 (.slice (some ⟨go,0,none⟩) i H) (.slice pa P.length pc) f0 odd1).take (0+2)++(nv fr).cells.toList++(E9 (.slice (some ⟨go,0,none⟩) i H) (.slice pa P.length pc) f0 odd1).drop (0+2+2)).toArray 192 (0,0)) =
  m2.upd g (.cells (E9 (.slice (some ⟨go,0,none⟩) i H) (.slice pa P.length pc) fr odd1).toArray 192 (0,0)):=by
  rw[em,Dp];rfl
 rw[cj];have bp:=b7 (Jv g (E9 (.slice (some ⟨go,0,none⟩) i H) (.slice pa P.length pc) fr odd1)) _ (Ae9 cx);refine G.f 192 g 0 1 1 ?_;obtain⟨m3,c5,b8⟩:=bp.focus 0 rfl;rw[V3]at c5;refine G.storeA 1 m3 _ g 5 5 1 (.slice ai (P++[c]).length aj) kV c5 (by simp[E9]) rfl rfl ?_;intro d9 c3;have bq:=b8 (Jv g (E9 (.slice (some ⟨go,0,none⟩) i H) (.slice ai (P++[c]).length aj) fr odd1)) d9 c3;exact G.r (.tuple #[]) ⟨rfl,ai,aj,fr,C,J.mono l9,h6.mono (l8.trans l9),bq⟩
section
variable {X:List (List Int)}{a:Option Addr}{c n:Nat}
section
variable [Cl] {P:Program} [A6 P] {fn:Func} {Post:Ce} {st:List KI×S} {u m:PH}
def G.appendZ (e:TypeId)(sz t:Nat)(z:Value)(xs:List Value)(a:Option Addr)(n c:Nat)(h:Aj P (adv P st)=.app (some (e,sz,t,z)) true [.slice none 0 0,.slice a n c])(Q:z.cells.toList.all Ax=true)(K:z.cells.size=sz)(J:0<sz)
 (L:Ac u (.slice a n c) sz xs) (O:A9 sz xs) (I:xs.length=n) (N:n*t<=140737488355328) (H:n<=9223372036854775807)
 (k:∀ g C F,Af m F (.slice g n C) e sz xs->G P fn Post (nx (adv P st) (.slice g n C)) u F):G P fn Post st u m:=by
 by_cases h0:n=0
 ·subst h0;obtain rfl:=A2l I;exact G.appendNil e sz t z a c h (k none 0 m (Af.nil _ _ _))
 obtain⟨b,o,rfl,_⟩:=L.at' (j:=0) (A01 oV);refine G.append e sz t z m [] xs (.slice none 0 0) b o n c h Q K J (Af.nil _ _ _) L.els O I oV (by simpa using N) (by simpa using H) ?_;intro R F E;rw[A3q]at E;obtain⟨g,C,rfl⟩:=E.shape;rw[I]at E⊢;exact k g C F E
end
def AtP.ok2 {u:PH}{es:List Value}{zs:List Int}(h:AtP Bi u es zs):A9 2 es:=fun e E=>by
 obtain⟨j,z,rfl⟩:=A3d.1 E;have g:j<zs.length:=by rw[<-h.1];exact z
 obtain⟨F,t,C⟩:=h.2 j zs[j] (A01 g);rw[A01 z]at t;cases t;exact C.ok _ mV
def Agf {m u:PH}{s p:Arr}{g:List (Value×List Value)}(h:Bag m (s::p::oN (.slice a n c) g::g.map C3))(z:NAt u g X)(F:PH.le m u):Nl u (.slice a n c) X:=by
 have H:=h.list F 2 (x:=oN (.slice a n c) g) rfl;refine⟨g.map (fun r:Value×List Value=>r.1),H,by rw[A03,z.1],fun j r E=>?_⟩;have C:j<g.length:=by rw[z.1];exact (A05.1 E).1
 have t:g[j]?=some g[j]:=A01 C;refine⟨g[j].1,by rw[A1a,t];rfl,?_⟩;refine⟨g[j].2,h.list F (j+3) (x:=C3 g[j]) (F8 t),?_⟩;have:=z.2 j _ t;have e:gMZ X j=r:=by unfold gMZ;rw[A02,E];rfl
 rwa[e]at this
def Ata {m:PH}{g:Nat}{l:List Arr}{j pv:Value}{f:N3}{e:Bool}(h:Bag m (Jv g (E9 j pv f e)::l))(z:j.cells = #[j])(C:pv.cells = #[pv]):ElP m g 0 (.agg #[j,pv,.bool f.b,.slice f.a f.n f.c,.bool e]):=by
 have E:=Ev h;have F:=Ab4 h;have t:=Al1 h;have H:=Ak7 h;intro i x hi
 match i,hi with
 |0,hi=>exact E 0 x (by rw[z];exact hi)
 |1,hi=>exact F 0 x (by rw[C];exact hi)
 |2,hi=>exact t 0 x hi
 |3,hi=>exact t 1 x hi
 |4,hi=>exact H 0 x hi
def Aqf (K : Nat) {k l : Nat} (h : k ≤ l) : zs K k ≤ zs K l := by
  induction l with
  | zero => have : k = 0 := by omega
            subst this; exact A08 _
  | succ l ih =>
    rcases A2e k (l + 1) with e | e
    · have := ih oV
      show zs K k ≤ 2 * zs K l + 2
      omega
    have : k = l + 1 := by omega
    subst this; exact A08 _
def Avp {u:PH}{n w c j E:Nat}(hM:Nl u (.slice a n c) X)(hX:E8 n w X)(hn:n<=100)(hw:w<=100)(h0:0<n)(am:j<=w)(ag:SzZ X E)(a9:1<=E)(hE:zs E j<=1000000000) :
 Fn0 prog 122 [.slice a n c,.int .i64 j] u fun r u'=>∃ a' c' pa pc f,r=.agg #[.slice a' n c',.slice pa (Fm n j 0 ⟨X,[],1,false⟩).P.length pc,.bool f.b,.slice f.a f.n f.c,.bool (Fm n j 0 ⟨X,[],1,false⟩).odd] /\
  Nl u' (.slice a' n c') (Fm n j 0 ⟨X,[],1,false⟩).X/\Bi u' (nv f) (Fm n j 0 ⟨X,[],1,false⟩).v:=by
 have al:=hX.1;refine Fn0.o func122<|G.c call121 (Kf (z:=1) oV oV) ?_;intro v1 u1 l1 k1;obtain⟨f1,rfl⟩:=k1.opN;refine G.l (ι:=Nat×List (Value×List Value)×(Option Addr×Nat)) (fun i=>[(1,iV j),(4,.p 0 0),(5,.p 1002 0),(11,sV a n c),(12,iV n),(13,iV i.1)])
  (fun i=>[(0,⟨192,[sV none 0 0,sV none 0 0,bV false,sV none 0 0,bV false]⟩),(1002,⟨192,[sV i.2.2.1 i.1 i.2.2.2,sV none 0 0,bV f1.b,sV f1.a f1.n f1.c,bV false]⟩)])
  (fun i u' m'=>i.1<=n/\NAt u' i.2.1 (X.take i.1)/\Bag m' (oN (.slice i.2.2.1 i.1 i.2.2.2) i.2.1::i.2.1.map C3)) (fun i=>n-i.1) (0,[],(none,0))
  ⟨A1t _,⟨rfl,fun i r h=>by simp at h⟩,PH.mt,Af.nil _ _ _,trivial⟩ ?_
 rintro J ⟨i,t,⟨ra,rc⟩⟩ hJ u2 m2 l2 ⟨hi,L,C⟩;simp only at hi L C hJ;have I:t.length=i:=by rw[L.1,A1e];omega
 by_cases V:i<n
 ·refine G.lT i n ?_;have a6:X[i]?=some X[i]:=A01 oV;have ai:X[i].length=w:=by have:=hX.2 i V;rwa[Xj oV]at this
  obtain⟨b,o,e,rfl,h3,f3⟩:=LP.at (hM.mono (l1.trans l2)) a6;obtain⟨es,U,R⟩:=f3;obtain⟨a4,c4,rfl⟩:=U.opn;have a1:es.length=w:=by rw[R.1,ai]
  rw[a1]at U h3;refine G.a b o n c i 1 V<|G.lU none b (o+i*1) (.slice a4 w c4) h3<|G.appendZ 141 2 32 (.agg #[.bool false,.slice none 0 0]) es a4 w c4 kV rfl rfl oV U R.ok2 a1 oV oV ?_;intro F H m5 a8;refine G.B 190 1 24 (.slice none 0 0) [.slice F w H] (B5 _ _ _) ?_;intro g6 u6 l6 e6;have ab:Bag m5 (C3 (.slice F w H,es)::oN (.slice ra i rc) t::t.map C3):=⟨m2,a8,C⟩;obtain⟨m0,a3,a2⟩:=ab.focus 1 rfl;rw[Akm]at a3;refine G.k 190 1 24 (.slice none 0 0) m0 (t.map (·.1)) [.slice F w H] (.slice ra i rc) g6 0 1 1 a3 e6 (B5 _ _ _) ?_;intro v7 m7 N;obtain⟨a7,c7,rfl⟩:=N.shape;have e7:t.map (·.1)++[Value.slice F w H]=(t++[(Value.slice F w H,es)]).map (·.1):=mV
  rw[e7]at N⊢;have el:((t++[(Value.slice F w H,es)]).map (·.1)).length=i+1:=by simp[I]
  rw[el]at N⊢;have ac:=a2 (oN (.slice a7 (i+1) c7) (t++[(Value.slice F w H,es)])) m7 N;have ad:Bag m7 (oN (.slice a7 (i+1) c7) (t++[(Value.slice F w H,es)])::(t++[(Value.slice F w H,es)]).map C3):=by
   refine Bag.perm ?_ ac;rw[A1i];exact (List.Perm.swap _ _ _).trans (List.Perm.cons _ (A5r (l₁:=[C3 (Value.slice F w H,es)])))
  refine G.i i<|G.b (hJ (i+1,t++[(Value.slice F w H,es)],(a7,c7)) _ _ _ cV (l2.trans l6) ⟨dV,?_,ad⟩ dV);dsimp only;rw[A1n,a6];exact (L.mono l6).snoc (q:=X[i]) (R.mono fun _ _ k=>k.mono l6)
 obtain rfl:i=n:=oV
 rw[A1j oV]at L;refine G.lF i i ?_;obtain⟨go,co,eo⟩:=C.ptr 0 rfl (by intro e;simp only[oN,A6c]at e;rw[e]at I;simp at I;omega);simp only[oN,A03,I,Value.slice.injEq,true_and]at eo;obtain⟨rfl,rfl⟩:=eo;clear hJ;refine G.pub 1002 192 (E9 (.slice (some ⟨go,0,none⟩) i rc) (.slice none 0 0) f1 false) kV kV ?_;intro g an ae;have a0:Bag (m2.upd g (.cells (E9 (.slice (some ⟨go,0,none⟩) i rc) (.slice none 0 0) f1 false).toArray 192 (0,0))) (Jv g (E9 (.slice (some ⟨go,0,none⟩) i rc) (.slice none 0 0) f1 false)::Np (.slice none 0 0) []::oN (.slice (some ⟨go,0,none⟩) i rc) t::t.map C3) :=
  ⟨m2,Ae9 ae,m2,Af.nil _ _ _,C⟩
 refine G.l (ι:=Nat×List (Value×List Value)×(Option Addr×Nat)×N3×BZ) (fun i=>[(1,iV j),(4,.p 0 0),(5,.v (.pointer (some ⟨g,0,none⟩))),(8,iV i.1)])
  (fun i=>[(0,⟨192,[sV none 0 0,sV none 0 0,bV false,sV none 0 0,bV false]⟩)])
  (fun k u' m'=>k.1<=j/\Fm i (j-k.1) k.1 k.2.2.2.2=Fm i j 0 ⟨X,[],1,false⟩/\E8 i w k.2.2.2.2.X/\SzZ k.2.2.2.2.X (zs E k.1)/\nl k.2.2.2.2.v.natAbs<=zs E k.1/\k.2.2.2.2.v≠0/\k.2.2.2.2.P.length<=i/\NAt u' k.2.1 k.2.2.2.2.X/\Bi u' (nv k.2.2.2.1) k.2.2.2.2.v /\
   Bag m' (Jv g (E9 (.slice (some ⟨go,0,none⟩) i rc) (.slice k.2.2.1.1 k.2.2.2.2.P.length k.2.2.1.2) k.2.2.2.1 k.2.2.2.2.odd)::Np (.slice k.2.2.1.1 k.2.2.2.2.P.length k.2.2.1.2) k.2.2.2.2.P::oN (.slice (some ⟨go,0,none⟩) i rc) k.2.1::k.2.1.map C3)) (fun k=>j-k.1)
  (0,t,(none,0),f1,⟨X,[],1,false⟩) ⟨A1t _,rfl,hX,ag,A04 (nl1 (n:=1) oV) a9,Int.one_ne_zero,A1t _,L,k1.mono l2,a0⟩ ?_
 clear a0 C L I;rintro J ⟨k,t,⟨pa,pc⟩,f,s⟩ hJ u3 m3 l3 ⟨hk,O,hR,hS,Y,W,Q,L,hv,C⟩;simp only at hk O hR hS Y W Q L hv C hJ;by_cases V:k<j
 ·refine G.lT k j ?_;have hz:zs E (k+1)<=1000000000:=A04 (Aqf E (show k+1<=j by omega)) hE;have ao:zs E (k+1)=2*zs E k+2:=rfl;obtain⟨q1,q2,q3,q4,q5⟩:=Al2 (c:=k) hS Y hR Q;refine G.A call194 (Ax8 (c:=k) (E:=zs E k) hR hn hw oV Q h0 hS hv Y W oV L C) ?_;rintro v4 u4 m4 l4 ⟨rfl,aj,ak,f',Z,aa,ah,T⟩ _;rw[By];refine G.i k<|G.b (hJ (k+1,Z,(aj,ak),f',I0 i k s) _ _ _ cV (l3.trans l4) ⟨dV,?_,q3,q1.mono dV,A04 q2 dV,q5 W,q4,aa,ah,T⟩ dV);dsimp only;obtain⟨K,hK⟩:∃ K,j-k=K+1:=⟨j-k-1,oV⟩;rw[<-O,hK,Fm,show j-(k+1)=K by omega]
 obtain rfl:k=j:=oV
 refine G.lF k k ?_;rw[A4i,Fm]at O;rw[<-O];refine G.lM (some 5) g 0 (.agg #[.slice (some ⟨go,0,none⟩) i rc,.slice pa s.P.length pc,.bool f.b,.slice f.a f.n f.c,.bool s.odd]) (Ata C rfl rfl)<|G.giveP (ma:=m3) (sm:=PH.mt) kV (by funext g;unfold PH.or;cases m3 g<;>rfl) (fun g=>.inr rfl) (fun g=>.inl rfl) ?_
 intro u6 l6 af;exact G.r (.agg #[.slice (some ⟨go,0,none⟩) i rc,.slice pa s.P.length pc,.bool f.b,.slice f.a f.n f.c,.bool s.odd]) ⟨rfl,_,rc,pa,pc,f,rfl,Agf C (L.mono l6) af,hv.mono l6⟩
end
def Akc {u:PH}{v:Value}{A:List (List Rat)}{L:Nat}(h:C7 u v (Cv A))(hT:∀ r∈A,∀ q∈r,Tx q)(hl:A.length<=1000000)(ah:∀ r∈A,r.length<=1000000)(hL:∀ r∈A,∀ q∈r,q.den ∣ L)(be:0<L)(bf:nl L<=1000000000) :
 Ag prog 120 [v] u PH.mt fun v' T m'=>∃ D f a5 c5 R,0<D/\D ∣ L/\(∀ r∈A,∀ q∈r,q.den ∣ D)/\v'=.agg #[.bool f.b,.slice f.a f.n f.c,.slice a5 A.length c5]/\Bi T (nv f) (D:Int)/\NAt T R (A.map (Bp D))/\Bag m' (oN (.slice a5 A.length c5) R::R.map C3):=by
 obtain⟨a,c,rfl⟩:=h.opn;rw[A3]at h⊢;have ae:∀ D:Nat,D ∣ L->nl (D:Int).natAbs<=1000000000:=fun D U=>A04 (C4 (A48 be U)) bf;refine Ag.o func120<|G.c call121 (Kf (z:=1) oV oV) ?_;intro v1 u1 l1 k1;obtain⟨b1,a1,n1,c1,rfl⟩:=k1.opn;refine G.l (ι:=Nat×List Value×(Option Addr×Nat×Nat)×DI)
  (fun i=>[(2,.p 0 0),(3,.p 1002 0),(4,sV i.2.2.1.1 i.2.2.1.2.1 i.2.2.1.2.2),(19,sV a A.length c),(20,iV A.length),(21,iV i.1)])
  (fun i=>[(0,⟨187,[bV false,sV none 0 0,sV none 0 0]⟩),(1002,⟨187,[bV i.2.2.2.b,sV i.2.2.2.a i.2.2.2.n i.2.2.2.c,sV none 0 0]⟩)])
  (fun i T m'=>i.1<=A.length/\AtP F6 T i.2.1 (A.take i.1)/\Af PH.mt m' (.slice i.2.2.1.1 i.2.2.1.2.1 i.2.2.1.2.2) 135 1 i.2.1/\Yd T i.2.2.2 L/\∀ r∈A.take i.1,∀ q∈r,q.den ∣ i.2.2.2.D)
  (fun i=>A.length-i.1) (0,[],(none,0,0),⟨b1,a1,n1,c1,1⟩)
  ⟨A1t _,AtP.nil,Af.nil _ _ _,⟨k1,Nat.one_pos,Ba6 _⟩,fun r K=>by simp at K⟩ ?_
 rintro J ⟨k,Kp,⟨a2,n2,c2⟩,⟨db,da,dn,dc,D⟩⟩ hJ u2 m2 l2 ⟨hk,hF,hA,U,X⟩;simp only at hk hF hA U X hJ;have bl:=hF.1;rw[A1e]at bl;by_cases P:k<A.length
 ·refine G.lT k A.length ?_;have F:A[k]?=some A[k]:=A01 P;have g:=A09 P;obtain⟨ba,oa,a3,c3,rfl,e3,s3⟩:=(h.mono (l1.trans l2)).row (Dw F);rw[A03]at e3 s3;refine G.a ba oa A.length c k 1 oV<|G.lU none ba (oa+k*1) _ e3<|G.c call141 (T0 s3 (hT _ g) (ah _ g)) ?_;intro v4 u4 l4 k4;obtain⟨a4,c4,rfl⟩:=k4.lp.opn;refine G.l (ι:=Nat×DI)
   (fun i=>[(2,.p 0 0),(3,.p 1002 0),(4,sV a2 n2 c2),(19,sV (some ⟨ba,oa,none⟩) A.length c),(20,iV A.length),(21,iV k),(7,sV a4 A[k].length c4),(27,sV a4 A[k].length c4),(28,iV (A[k].length)),(29,iV i.1)])
   (fun i=>[(0,⟨187,[bV false,sV none 0 0,sV none 0 0]⟩),(1002,⟨187,[bV i.2.b,sV i.2.a i.2.n i.2.c,sV none 0 0]⟩)])
   (fun i T m'=>i.1<=A[k].length/\m'=m2/\Yd T i.2 L/\(∀ r∈A.take k,∀ q∈r,q.den ∣ i.2.D)/\∀ q∈A[k].take i.1,q.den ∣ i.2.D)
   (fun i=>A[k].length-i.1) (0,⟨db,da,dn,dc,D⟩)
   ⟨A1t _,rfl,U.mono l4,X,fun q I=>by simp at I⟩ ?_
  rintro J2 ⟨j,⟨eb,ea,en,ec,E⟩⟩ N u5 m5 V ⟨hj,rfl,hE,ag,Z⟩;simp only at hj hE ag Z N;by_cases e:j<A[k].length
  ·refine G.lT j (A[k].length:Int) ?_;have Q:A[k][j]?=some A[k][j]:=A01 e;have Y:=A09 e;have a0:=hT _ g _ Y;obtain⟨b6,o6,e6,rfl,h6,f6⟩:=(k4.mono V).lp.at Q;obtain⟨x1,x2,x3,x4,x5,x6,x7,x8,rfl⟩:=f6.opn;refine G.a b6 o6 A[k].length c4 j 4 e<|G.lU (some 4) b6 (o6+j*4) _ h6<|G.c call189 (Sk f6) ?_;intro v7 u7 l7 k7;obtain⟨b7,a7,n7,c7,rfl⟩:=k7.opn;refine G.c call188 (Alk ((hE.mono l7).1) k7 (A04 (ae _ hE.2.2) oV) (A04 (Bd a0.den) oV) (by have:=hE.2.1;dsimp only at this⊢;omega)) ?_;intro v8 u8 l8 k8;rw[Apj]at k8;obtain⟨b8,a8,n8,c8,rfl⟩:=k8.opn;refine G.add (j:Int) 1 ((j+1:Nat):Int) kV oV oV (by have:=ah _ g;omega)<|G.b (N (j+1,⟨b8,a8,n8,c8,Nat.lcm E A[k][j].den⟩) _ _ _ cV ((V.trans l7).trans l8) ⟨dV,rfl,⟨k8,?_,?_⟩,?_,?_⟩ dV)
   ·have:=hE.2.1;simp only at this⊢;exact Nat.lcm_pos this (A[k][j]).den_pos
   ·exact Ba7 hE.2.2 (hL _ g _ Y)
   ·exact fun r K q I=>A74 (ag r K q I) (A78 _ _)
   intro q I;dsimp only at I⊢;rw[A1n,Q]at I;rcases A1h.1 I with I|I
   ·exact A74 (Z q I) (A78 _ _)
   simp at I;subst I;exact Nat.dvd_lcm_right _ _
  have:j=A[k].length:=oV;subst this;rw[A15]at Z;refine G.lF (A[k].length:Int) (A[k].length:Int)<|G.B 135 1 24 (.slice none 0 0) [.slice a4 A[k].length c4] (B5 _ _ _) ?_;intro g6 u6 l6 e6;refine G.append 135 1 24 (.slice none 0 0) PH.mt Kp [.slice a4 A[k].length c4] (.slice a2 n2 c2) g6 0 1 1 kV rfl rfl oV hA e6 (B5 _ _ _) rfl oV oV oV ?_;intro v7 m7 ap;obtain⟨a7,c7,rfl⟩:=ap.shape;refine G.i k<|G.b (hJ (k+1,Kp++[Value.slice a4 A[k].length c4],(a7,(Kp++[Value.slice a4 A[k].length c4]).length,c7),⟨eb,ea,en,ec,E⟩) _ _ _ cV (((l2.trans l4).trans V).trans l6) ⟨dV,?_,ap,hE.mono l6,?_⟩ dV)
  ·dsimp only;rw[A1n,F];exact (hF.mono (fun _ _ h=>h.mono ((l4.trans V).trans l6))).snoc (k4.mono (V.trans l6))
  intro r K;dsimp only at K⊢;rw[A1n,F]at K;rcases A1h.1 K with K|K
  ·exact ag r K
  simp at K;subst K;exact Z
 have:k=A.length:=oV;subst this;rw[A15]at hF X;refine G.lF A.length A.length<|G.give PH.mt Kp _ kV hA (fun _=>.inl rfl) ?_;intro u3 l3 af;have bo:Kp.length=A.length:=by rw[hF.1]
 obtain⟨_,_,e0⟩:=af.opn;simp only[Value.slice.injEq]at e0;obtain⟨rfl,rfl,rfl⟩:=e0;rw[bo]at af⊢;have bd:Aeq u3 (.slice a2 A.length c2) A:=⟨Kp,af,hF.mono (fun _ _ h=>h.mono l3)⟩;refine G.l (ι:=Nat×List (Value×List Value)×(Option Addr×Nat))
  (fun i=>[(2,.p 0 0),(3,.p 1002 0),(45,sV a2 A.length c2),(46,iV A.length),(47,iV i.1)])
  (fun i=>[(0,⟨187,[bV false,sV none 0 0,sV none 0 0]⟩),(1002,⟨187,[bV db,sV da dn dc,sV i.2.2.1 i.1 i.2.2.2]⟩)])
  (fun i T m'=>i.1<=A.length/\NAt T i.2.1 ((A.take i.1).map (Bp D))/\Bag m' (oN (.slice i.2.2.1 i.1 i.2.2.2) i.2.1::i.2.1.map C3))
  (fun i=>A.length-i.1) (0,[],(none,0))
  ⟨A1t _,⟨rfl,fun i r h=>by simp at h⟩,PH.mt,Af.nil _ _ _,trivial⟩ ?_
 rintro J2 ⟨k,H,⟨a5,c5⟩⟩ N u5 m5 V ⟨bn,hN,ad⟩;simp only at bn hN ad N;have a9:=hN.1;rw[A03,A1e]at a9;by_cases P:k<A.length
 ·refine G.lT k A.length ?_;have F:A[k]?=some A[k]:=A01 P;have g:=A09 P;have cj:=ah _ g;obtain⟨b6,o6,e6,rfl,h6,f6⟩:=LP.at (bd.mono V) F;obtain⟨a7,c7,rfl⟩:=f6.lp.opn;refine G.a b6 o6 A.length c2 k 1 oV<|G.lU none b6 (o6+k*1) _ h6<|G.make 141 2 32 (.agg #[.bool false,.slice none 0 0]) A[k].length kV rfl rfl oV oV oV ?_;rintro v8 m8 aq ⟨a8,rfl⟩;obtain⟨t,rfl,ch⟩:=aq.some';refine G.l (ι:=Nat×List Value)
   (fun i=>[(2,.p 0 0),(3,.p 1002 0),(45,sV (some ⟨b6,o6,none⟩) A.length c2),(46,iV A.length),(47,iV k),(12,sV (some ⟨t,0,none⟩) A[k].length A[k].length),(54,sV a7 A[k].length c7),(55,iV (A[k].length)),(56,iV i.1)])
   (fun i=>[(0,⟨187,[bV false,sV none 0 0,sV none 0 0]⟩),(1002,⟨187,[bV db,sV da dn dc,sV a5 k c5]⟩)])
   (fun i T m'=>i.1<=A[k].length/\AtP Bi T i.2 (Bp D (A[k].take i.1))/\Af m5 m' (.slice (some ⟨t,0,none⟩) A[k].length A[k].length) 141 2 (i.2++List.replicate (A[k].length-i.1) (.agg #[.bool false,.slice none 0 0])))
   (fun i=>A[k].length-i.1) (0,[])
   ⟨A1t _,AtP.nil,by simpa using aq⟩ ?_
  rintro J3 ⟨j,done⟩ ar u9 m9 l9 ⟨bm,O,W⟩;simp only at bm O W ar;have au:=O.1;rw[Bp,A03,A1e]at au;by_cases e:j<A[k].length
  ·refine G.lT j (A[k].length:Int) ?_;have Q:A[k][j]?=some A[k][j]:=A01 e;have Y:=A09 e;have a0:=hT _ g _ Y;have ci:=(A[k][j]).den_pos;obtain⟨am,b4,ce,rfl,bb,ac⟩:=(f6.mono l9).lp.at Q;obtain⟨x1,x2,x3,x4,x5,x6,x7,x8,rfl⟩:=ac.opn;refine G.a am b4 A[k].length c7 j 4 e<|G.lU (some 4) am (b4+j*4) _ bb<|G.c call189 (Sk ac) ?_;intro cs bq m ax;obtain⟨bx,bs,cl,ca,rfl⟩:=ax.opn;refine G.c call190 (M1 ((U.mono (((l3.trans V).trans l9).trans m)).1) ax (A04 (ae _ U.2.2) oV) (A04 (Bd a0.den) oV) oV) ?_;rintro br cp aj ⟨ct,cu,rfl,ai,bp⟩;obtain⟨bz,bt,cm,cb,rfl⟩:=ai.opn;obtain⟨c0,bu,cn,cc,rfl⟩:=bp.opn;refine G.c call191 (Ael (ac.mono (m.trans aj))) ?_;intro cw cq ak ay;obtain⟨c6,bw,co,cd,rfl⟩:=ay.opn;have bk:((D:Int)/(A[k][j].den:Int))=((D/A[k][j].den:Nat):Int):=by push_cast;rfl
   rw[bk]at ai;refine G.c call126 (Ea ay (ai.mono ak) (A04 (Bd a0.1) oV) (by rw[A1s];exact A04 (Tk _ _) (A04 (ae _ U.2.2) oV))) ?_;intro cx cr b0 az;obtain⟨an,al,b3,ao,rfl⟩:=az.opn;refine G.a t 0 A[k].length A[k].length j 2 e<|G.storeA 2 m5 _ t A[k].length A[k].length j (.agg #[.bool an,.slice al b3 ao]) kV W gV rfl rfl ?_;intro ck a6;rw[Afh oV e]at a6;refine G.i j<|G.b (ar (j+1,done++[.agg #[.bool an,.slice al b3 ao]]) _ _ _ cV ((((l9.trans m).trans aj).trans ak).trans b0) ⟨dV,?_,a6⟩ dV);dsimp only;rw[A1n,Q,Bp,A1i];exact (O.mono (fun _ _ h=>h.mono (((m.trans aj).trans ak).trans b0))).snoc az
  have:j=A[k].length:=oV;subst this;rw[A15]at O;rw[A4i,A42,A1x]at W;refine G.lF (A[k].length:Int) (A[k].length:Int) ?_;have cg:done.length=A[k].length:=oV;refine G.B 190 1 24 (.slice none 0 0) [.slice (some ⟨t,0,none⟩) A[k].length A[k].length] (B5 _ _ _) ?_;intro b9 bq m b5;have bi:Bag m9 (C3 (.slice (some ⟨t,0,none⟩) A[k].length A[k].length,done)::oN (.slice a5 k c5) H::H.map C3):=⟨m5,W,ad⟩;obtain⟨m0,aw,av⟩:=bi.focus 1 rfl;rw[Akm]at aw;have bj:(H.map (·.1)).length=k:=by rw[A03,a9];omega
  refine G.append 190 1 24 (.slice none 0 0) m0 (H.map (·.1)) [.slice (some ⟨t,0,none⟩) A[k].length A[k].length] (.slice a5 k c5) b9 0 1 1 kV rfl rfl oV aw b5 (B5 _ _ _) rfl oV oV oV ?_;intro br b2 C;obtain⟨aa,ab,rfl⟩:=C.shape;have e7:H.map (·.1)++[Value.slice (some ⟨t,0,none⟩) A[k].length A[k].length]=(H++[(Value.slice (some ⟨t,0,none⟩) A[k].length A[k].length,done)]).map (·.1):=mV;rw[e7]at C⊢;have el:((H++[(Value.slice (some ⟨t,0,none⟩) A[k].length A[k].length,done)]).map (·.1)).length=k+1:=by rw[<-e7,A1d,bj];rfl
  rw[el]at C⊢;have bg:=av (oN (.slice aa (k+1) ab) (H++[(Value.slice (some ⟨t,0,none⟩) A[k].length A[k].length,done)])) b2 C;have bh:Bag b2 (oN (.slice aa (k+1) ab) (H++[(Value.slice (some ⟨t,0,none⟩) A[k].length A[k].length,done)])::(H++[(Value.slice (some ⟨t,0,none⟩) A[k].length A[k].length,done)]).map C3):=by
   refine Bag.perm ?_ bg;rw[A1i];exact (List.Perm.swap _ _ _).trans (List.Perm.cons _ (A5r (l₁:=[C3 (Value.slice (some ⟨t,0,none⟩) A[k].length A[k].length,done)])))
  refine G.i k<|G.b (N (k+1,H++[(Value.slice (some ⟨t,0,none⟩) A[k].length A[k].length,done)],(aa,ab)) _ _ _ cV ((V.trans l9).trans m) ⟨dV,?_,bh⟩ dV);dsimp only;rw[A1n,F,A1i];exact (hN.mono (l9.trans m)).snoc (q:=Bp D A[k]) (O.mono (fun _ _ h=>h.mono m))
 have:k=A.length:=oV;subst this;rw[A15]at hN;exact G.lF A.length A.length<|G.r (.agg #[.bool db,.slice da dn dc,.slice a5 A.length c5]) ⟨D,⟨db,da,dn,dc⟩,a5,c5,H,U.2.1,U.2.2,X,rfl,(U.mono (l3.trans V)).1,hN,ad⟩
section
theorem Aem {q:Rat}{D:Nat}(h:q.den ∣ D):((q.num*((D/q.den:Nat):Int):Int):Rat)=q*(D:Rat):=by
 obtain⟨k,rfl⟩:=h;rw[Nat.mul_div_cancel_left _ q.den_pos,A3c,A7e,A2r];have e:q*(q.den:Rat)=(q.num:Rat):=by
  have e:q=(q.num:Rat)/(((q.den:Int)):Rat):=by rw[<-A37,A7h]
  have hi:=Bap _ (T4 q.den_pos);rw[A2r,A8v]at e;exact A0j e hi
 rw[<-e];grind
def Wf {D:Nat}{r:List Rat}{j:Nat}(e:j<r.length):gZ (Bp D r) j=(gR r j).num*((D/(gR r j).den:Nat):Int):=by
 unfold Bp;rw[Ol (by simpa using e),A3v,Cu e]
def Abw {A:List (List Rat)}{i:Nat}(h:i<A.length):gM A i∈A:=by rw[Ch h];exact A09 h
section
variable {A:List (List Rat)} {b:List Rat} {D D':Nat}
def Oy (f:Nat->Int):∀ n:Nat,((Ca n f:Int):Rat)=Bb n (fun j=>(f j:Rat))
 |0=>by rw[Uk];rfl
 |n+1=>by rw[Ca,A7d,Oy f n,Ds]
end
end
section
variable {A:List (List Rat)}{m u:PH}{n:Nat}
def Awb {v:Value}(h:C7 u v (Cv A))(e:Sq A):Fn0 prog 118 [v] u fun g _=>g=.int .i64 0:=by
 obtain⟨a,c,rfl⟩:=h.opn;refine Fn0.o func118<|G.c call186 (Adf h e) ?_;rintro z t j rfl;exact G.eT' 0 0 rfl<|G.nF A.length A.length<|G.r (.int .i64 0) ⟨rfl,rfl⟩
structure Th (q:Rat):Prop where
 tx:Tx q
 den:q.den ∣ 21600
 num:q.num.natAbs<=3000000000000
def Awy (h:n<100000000000000000):Lib.nDigits n<=17:=Cz (k:=17) oV oV
def Asd (hT:∀ r∈A,∀ q∈r,Th q):Y5 A 21600 17 where
 den:=fun r h q g=>(hT r h q g).den
 pos:=oV
 nl:=A04 (nlM oV) oV
 dig:=fun D z h0=>by
  have e:D<=21600:=A48 oV z;refine⟨Awy oV,fun r h q g C=>Awy ?_⟩;rw[A26,A1s];have j:=(hT r h q g).num;have t:D/q.den<=21600:=A04 (A3u _ _) e;have:=A25 j t;omega
def Aow {n w E:Nat}:∀ (f c:Nat) (s:BZ),SzZ s.X (zs E c)->nl s.v.natAbs<=zs E c->E8 n w s.X->s.P.length<=n->SzZ (Fm n f c s).X (zs E (c+f))/\nl (Fm n f c s).v.natAbs<=zs E (c+f)
 |0,c,s,h1,h2,_,_=>⟨h1,h2⟩
 |f+1,c,s,h1,h2,h3,h4=>by
  obtain⟨e,g,h,j,_⟩:=Al2 (c:=c) h1 h2 h3 h4;have t:zs E (c+1)=2*zs E c+2:=rfl;have:=Aow (E:=E) f (c+1) (I0 n c s) (e.mono oV) (A04 g oV) h j;unfold Fm;rw[show c+(f+1)=c+1+f by omega];exact this
def Az1 (h:n<=12):zs 2 n<=1000000000:=A04 (Aqf 2 h) fV
def Aus {l:List Arr}(h:Bag m l):Bag m (Np (.slice none 0 0) []::Np (.slice none 0 0) []::l):=⟨m,Af.nil _ _ _,m,Af.nil _ _ _,h⟩
def Am1 {n c:Nat}{a:Option Addr}{e:List (Value×List Value)}{X:List (List Int)}(g:Bag m (oN (.slice a n c) e::e.map C3))(h:NAt u e X)(j:PH.le m u):Nl u (.slice a n c) X:=Agf (Aus g) h j
end
section
variable [Cl] [Co]
section
variable {P:Program} {id:Nat} {ops:Array Oper} {dr:Bool} {Fin:S->PH->PH->Prop} {c:Cx} {Q:Exit->Act->World->Prop}
def Qh (P:Program)(id:Nat)(ops:Array Oper)(post:List Nat)(Fin:S->PH->PH->Prop):Nat->List Nat->S->PH->PH->Prop
 |0,_,s,u,m=>Ob P id ops true Fin post s u m
 |n+1,A,s,u,m=>∀ a∈A,(∀ b∈A,b≠a->bef ops ops.size a b=false)->Ob P id ops true (Qh P id ops post Fin n (A.erase a)) [a] s u m
theorem Ob.wpAnyT {s0:S}(N:On s0)(hE:(List.range ops.size).all (Kd ops)=true)(hF:∀ s u m ρ a w,Fin s u m->Rel c s u m ρ a w->Q .normal a w){j A0:List Nat}(Y:∀ y∈j,∀ a∈A0,bef ops ops.size y a=true)(a4:∀ a∈A0,∀ y∈j,dir ops a y=false) :
 ∀ (n k:Nat) (A pre:List Nat) (C:Array Bool) {s:S} {u m:PH} {ρ:Nat->Nat} {a:Act} {w:World},A.length=k->(∀ x∈A,x∈A0)->A.Pairwise (fun x y=>dir ops x y=false)->pre.length+(k+j.length)=n->Km ops C (pre++(A++j)) ->
  (pre++j).Pairwise (fun x y=>Ge ops s0 x y=true)->(∀ x∈pre,∀ y∈A,Ge ops s0 x y=true)->Gb ops s0 s->Ob P id ops true (Qh P id ops j Fin k A) pre s u m->Rel c s u m ρ a w->Go.wpAny P .any ops Q n C a w:=by
 intro n;induction n with
 |zero =>
  intro k A pre C s u m ρ a w X L U O g hP J H hO Z;obtain rfl:k=0:=oV;obtain rfl:=A2l X;exact g.any N hE hF (by simp only[A1d,A30];omega) hP H (Ob.append hO) Z
 |succ n ih =>
  intro k A pre C s u m ρ a w X L U O g hP J H hO Z;cases A with
  |nil =>
   simp at X;subst X;exact g.any N hE hF gV hP H (Ob.append hO) Z
  |cons b A' =>
   obtain⟨k,rfl⟩:∃ k',k=k'+1:=⟨k-1,by simp at X;omega⟩;refine⟨fun R=>?_,fun i hi=>?_⟩
   ·cases pre with
    |nil =>
     have:=Km.first (t:=b) (T:=A'++j) g hE fun x E=>by
      rcases A1h.1 E with E|E
      ·simp_all
      grind
     rw[R]at this;cases this
    |cons t T' =>
     have:=Km.first (t:=t) (T:=T'++(b::A'++j)) g hE fun x E=>by
      rcases A1h.1 E with E|E
      ·exact Gq (A34 hP (by simp[E]))
      rcases A1h.1 E with E|E
      ·exact Gq (J t mV x E)
      exact Gq (A34 hP (by simp[E]))
     rw[R]at this;cases this
   obtain⟨h1,h2,o,ho,F⟩:=Tz.1 hi;have I:=(g.mem i h1).1 h2;rcases A1h.1 I with I|I
   ·obtain⟨A1,B1,rfl⟩:=A6k I;have z:Km ops C (A1++i::(B1++(b::A'++j))):=by grind
    have a1:(A1++i::(B1++j)).Pairwise (fun x y=>Ge ops s0 x y=true):=by grind
    have a0:=z.swaps (A:=A1) (s0:=s0) (fun x E=>by simp[E]) ho F fun x E=>(A35.1 a1).2.2 x E i mV;have V:=Ob.bubble N A1 a0 Z.lv H hO;refine wpOp_mono (fun a' w' ⟨s',u',m',ρ',r1,ra,r2⟩=>?_) (V.step (Q:=Q) Z);refine ih (k+1) (b::A') (A1++B1) _ X L U (by simp at O⊢;omega) (by rw[A2k];exact z.next ho F) ?_ (fun x E y hy=>J x (by simp at E⊢;rcases E with h|h<;>simp[h]) y hy) (H.trans ra) r2 r1
    rw[A2k];exact a1.sublist (List.Sublist.append_left (List.sublist_cons_self i _) A1)
   rcases A1h.1 I with I|I
   ·have a3:(pre++(b::A'++j)).Perm (pre++i::((b::A').erase i++j)):=by
     refine List.Perm.append_left pre ?_;rw[<-A4x];exact (List.perm_cons_erase I).append_right j
    have z:=g.perm a3;have a0:=z.swaps (A:=pre) (s0:=s0) (fun x E=>by simp[E]) ho F fun x E=>J x E i I;have W:∀ b'∈b::A',b'≠i->bef ops ops.size i b'=false:=fun b' a2 a5=>by
     cases e:bef ops ops.size i b' with
     |false=>rfl
     |true=>exact (g.no (x:=b') (by simp at a2⊢;rcases a2 with h|h<;>simp[h]) (Ib g.cl ops.size i (fun o' K=>by rw[ho]at K;obtain rfl:=A28 K;exact F) e)).elim
    have V:=Ob.bubble (B:=[]) N pre a0 Z.lv H (Ob.append (l2:=[i]) (hO.fin fun s u m h=>h i I W));refine wpOp_mono (fun a' w' ⟨s',u',m',ρ',r1,ra,r2⟩=>?_) (V.step (Q:=Q) Z);rw[A1x]at r2;exact ih k ((b::A').erase i) pre _ (by rw[List.length_erase_of_mem I];simp at X⊢;omega) (fun x E=>L x (A9x E)) (U.sublist List.erase_sublist) oV (z.next ho F) hP (fun x E y hy=>J x E y (A9x hy)) (H.trans ra) r2 r1
   exfalso;exact g.no (x:=b) mV (Ib g.cl ops.size i (fun o' K=>by rw[ho]at K;obtain rfl:=A28 K;exact F) (Y i I b (L b mV)))
def Akn (ops:Array Oper):List Nat->Bool
 |[]=>true
 |x::l=>l.all (fun y=>!dir ops x y)&&Akn ops l
def W6:∀ {l:List Nat},Akn ops l=true->l.Pairwise (fun x y=>dir ops x y=false)
 |[],_=>.nil
 |x::l,h=>by
  unfold Akn at h;rw[A1m,A1o]at h;exact .cons (fun y e=>by simpa using h.1 y e) (W6 h.2)
def Alo (ops:Array Oper)(s:S)(pre A post:List Nat):Bool :=
 Nat.beq (pre.length+(A.length+post.length)) ops.size&&(List.range ops.size).all (fun i=>(pre++(A++post)).contains i)&&(pre++(A++post)).all (fun i=>Nat.blt i ops.size)&&decide ((pre++(A++post)).Nodup)&&Qp ops s (pre++post) &&
  pre.all (fun x=>A.all fun y=>Ge ops s x y)&&Akn ops A&&(List.range ops.size).all (Kd ops)&&post.all (fun y=>A.all fun a=>bef ops ops.size y a)&&A.all (fun a=>post.all fun y=>!dir ops a y)
end
section
variable {P:Program} {fn:Func} {Post:Ce}
theorem Sym.reg_tree (U:P.follows .mixedOrders=true){id:Nat}{ops:Array Oper}{pre A e:List Nat}{s:S}(C:Alo ops s pre A e=true){k:List KI}{u m:PH}
 (h:Ob P id ops true (Qh P id ops e (Hm P fn Post k) A.length A) pre s u m):Hm P fn Post (.code (.region id ops true)::k) s u m:=by
 intro c ρ a w F n;unfold Alo at C;simp only[A1m]at C;obtain⟨⟨⟨⟨⟨⟨⟨⟨⟨t,K⟩,H⟩,z⟩,L⟩,I⟩,N⟩,O⟩,J⟩,g⟩:=C;have t:=A1y t;rw[A1o]at K H I J g;have z:=of_decide_eq_true z;refine wp_region_any U ?_;refine Ob.wpAnyT (c:=c) (A0:=A) n.lv O (fun s u m ρ a w R n=>R c ρ a w F n) (fun y j a E=>by have:=J y j;rw[A1o]at this;exact this a E) (fun a E y j=>by have:=g a E;rw[A1o]at this;simpa using this y j) _ A.length A pre _ rfl (fun _ h=>h) (W6 N) t
  ⟨mV,fun i hi=>?_,fun i hi=>A8f▸H i hi,z,fun i hi=>?_⟩ (G0 L) (fun x V y j=>by have:=I x V;rw[A1o]at this;exact this y j) (Gb.refl _ _) h n.drew
 ·simp_all
 simp only[A2t]at hi;by_cases T:i<ops.size
 ·grind
 grind
def S.put4 (s:S)(d1 d2 d3 d4:Nat)(x1 x2 x3 x4:SV):S:=(((s.put (some d1) x1).put (some d2) x2).put (some d3) x3).put (some d4) x4
def I6 (s:S)(d1 d2 d3 d4:Nat)(x1 x2 x3 x4:SV)(t:Nat):(s.put4 d1 d2 d3 d4 x1 x2 x3 x4).tm t=if t=d4 then x4 else if t=d3 then x3 else if t=d2 then x2 else if t=d1 then x1 else s.tm t:=by
 unfold S.put4;have key:∀ (s:S) (d:Nat) (x:SV),(s.put (some d) x).tm t=if t=d then x else s.tm t:=fun s d x=>by
  by_cases e:t=d
  ·subst e;rw[Az,if_pos rfl]
  rw[Ct _ _ _ e,if_neg e]
 rw[key,key,key,key]
theorem Aos (s:S)(d1 d2 d3 d4:Nat):s=s.put4 d1 d2 d3 d4 (s.tm d1) (s.tm d2) (s.tm d3) (s.tm d4):=by
 refine S.ext' rfl (funext fun t=>?_) rfl;rw[I6];split
 ·grind
 grind
section
variable {s:S} {d1 d2 d3 d4:Nat} {x1 x2 x3 x4 y:SV} (h:d1≠d2/\d1≠d3/\d1≠d4/\d2≠d3/\d2≠d4/\d3≠d4)
include h
def Axl:(s.put4 d1 d2 d3 d4 x1 x2 x3 x4).put (some d1) y=s.put4 d1 d2 d3 d4 y x2 x3 x4:=by
 refine S.ext' rfl (funext fun t=>?_) rfl;rw[I6];by_cases e:t=d1
 ·subst e;rw[Az,if_neg h.2.2.1,if_neg h.2.1,if_neg h.1,if_pos rfl]
 rw[Ct _ _ _ e,I6,if_neg e,if_neg e]
def Ax4:(s.put4 d1 d2 d3 d4 x1 x2 x3 x4).put (some d2) y=s.put4 d1 d2 d3 d4 x1 y x3 x4:=by
 refine S.ext' rfl (funext fun t=>?_) rfl;rw[I6];by_cases e:t=d2
 ·subst e;rw[Az,if_neg h.2.2.2.2.1,if_neg h.2.2.2.1,if_pos rfl]
 rw[Ct _ _ _ e,I6,if_neg e,if_neg e]
def Axd:(s.put4 d1 d2 d3 d4 x1 x2 x3 x4).put (some d3) y=s.put4 d1 d2 d3 d4 x1 x2 y x4:=by
 refine S.ext' rfl (funext fun t=>?_) rfl;rw[I6];by_cases e:t=d3
 ·subst e;rw[Az,if_neg h.2.2.2.2.2,if_pos rfl]
 rw[Ct _ _ _ e,I6,if_neg e,if_neg e]
def Axt:(s.put4 d1 d2 d3 d4 x1 x2 x3 x4).put (some d4) y=s.put4 d1 d2 d3 d4 x1 x2 x3 y:=by
 refine S.ext' rfl (funext fun t=>?_) rfl;rw[I6];by_cases e:t=d4
 ·subst e;rw[Az,if_pos rfl]
 rw[Ct _ _ _ e,I6,if_neg e,if_neg e]
end
theorem Ob.layM {P:Program}[A6 P]{id:Nat}{ops:Array Oper}{Fin:S->PH->PH->Prop}{a d:Nat}{kk:List KI}{s:S}{u m:PH}(e:TypeId)(sz bt:Nat)(z:Value)(es:List Value)
 (h:Aj P (.reg id ops true [a]::kk,s)=.buildS (some (e,sz,bt,z)) es.length (es.zipIdx.map fun p=>(p.2,p.1))) (hd:(ops[a]?).bind (·.dst)=some d) (H:A9 sz es) (a6:z.cells.size=sz) (Y:0<sz) (V:0<es.length) (hb:es.length*sz<=16777216)
 (k:∀ g C,Af m C (.slice (some ⟨g,0,none⟩) es.length es.length) e sz es->Fin (s.put (some d) (.v (.slice (some ⟨g,0,none⟩) es.length es.length))) u C):Ob P id ops true Fin [a] s u m:=by
 obtain⟨a7,a0,a2,i',l',a8,aa,o,F,X,hg,N,hv,hs,n,a5⟩:=Eq h mV;obtain⟨⟨⟨rfl,rfl,rfl,rfl,rfl⟩,rfl⟩,rfl⟩:=F;have E:o.dst=some d:=by grind
 refine Ob.big (K:=fun v' Z C=>Z=u/\PH.le m C/\∃ g,v'=.slice (some ⟨g,0,none⟩) es.length es.length/\Af m C (.slice (some ⟨g,0,none⟩) es.length es.length) e sz es) X hg N hv hs (by
  obtain⟨t,qs,I,_⟩:=En n;rw[I];rfl) (fun v Z C L=>.inl L.2.1) (fun w R=>?_) (fun v Z C a4 L=>?_)
 ·obtain⟨t,qs,F,I,hi⟩:=En n;obtain⟨a3,a9,a1,pos,after,J⟩:=o;simp only at F;subst F;obtain⟨hu,i,T,U,rfl,rfl⟩:=D4 hi;obtain⟨g1,g2,g3,g4⟩:=R.newM (cs:=(A2 es).toArray) (t:=e) (by simpa using Fu H);have O:=Ba H;have W:es.length*i.size≠0:=by have:=A51 V Y;omega
  have j:=Sn es 0 ((Array.range (es.length*i.size)).map (z.cells[· % z.cells.size]!)) H mV;have e0:((Array.range (es.length*i.size)).map (z.cells[· % z.cells.size]!)).toList.drop (es.length*i.size) = []:=mV;simp only[A2w,e0]at j;refine B8 (w':=w.alloc (.cells (A2 es).toArray e (0,0))) (v:=.slice (some ⟨w.heap.size,0,none⟩) es.length es.length) ?_ ⟨u,_,g1,g2,rfl,Jw _ g3,_,rfl,H,.inr ⟨w.heap.size,es.length,[],g3,by rw[A1x],rfl,A08 _,by rw[A1x,O],mV⟩⟩;simp only[execOp,I];simp[Instr.buildSlice,run_underlying hu,sizeOf,typeInfo,zeroValue,T,U,W,j,newRow,show ¬ 16777216<es.length*i.size by omega]
 obtain⟨rfl,_,g,rfl,hA⟩:=L;rw[E];exact .nil (k g C hA)
theorem Ob.callV {P:Program}[A6 P]{id:Nat}{ops:Array Oper}{Fin:S->PH->PH->Prop}{a d:Nat}{kk:List KI}{s:S}{u m:PH}(f:Nat)(args:List Value){R:Value->PH->Prop}
 (h:Aj P (.reg id ops true [a]::kk,s)=.call f args) (hd:(ops[a]?).bind (·.dst)=some d) (V:∀ args w,(callFunc f args).run P w=.ok (.enter f args) w) (c:Fn0 P f args u R)
 (k:∀ v j,PH.le u j->R v j->Fin (s.put (some d) (.v v)) j m):Ob P id ops true Fin [a] s u m:=by
 obtain⟨a0,J,L,i',l',a1,a2,o,C,I,X,F,hv,Z,g,Y⟩:=Eq h mV;obtain⟨⟨⟨rfl,rfl,rfl,rfl,rfl⟩,rfl⟩,rfl⟩:=C;have n:o.dst=some d:=by grind
 refine Ob.big (K:=fun v' j z=>z=m/\R v' j) I X F hv Z (Dv _ _ g) (fun v j z E=>.inl (by rw[E.1];exact PH.le_refl _)) (fun w t=>?_) (fun v j z H E=>?_)
 ·refine Hq g V w _ ?_;refine (c w t.noM).mono fun e w' W=>?_;obtain⟨v,j,z,C,N,O,rfl,T⟩:=W;obtain⟨g1,g2⟩:=t.frame N O;exact⟨v,C,j,m,g1,g2,rfl,T⟩
 obtain⟨rfl,U⟩:=E;rw[n];exact .nil (k v j H U)
end
def Ahj (P:Program)(pre l:List Nat)(d1 d2 d3 d4:Nat)(x1 x2 x3 x4:SV)(st:List KI×S):List KI×S:=match st with
 |(.code (.region id ops true)::k,s)=>match Ru P id ops pre s with
  |some s'=>(.reg id ops true l::k,s'.put4 d1 d2 d3 d4 x1 x2 x3 x4)
  |none=>st
 |_=>st
def Azj (P:Program)(pre:List Nat)(q1 q2 r1 r2:Nat)(post:List Nat)(d1 d2 d3 d4:Nat)(st:List KI×S):Bool:=match st with
 |(.code (.region _ ops true)::_,s)=>Alo ops s pre [q1,q2,r1,r2] post&&(match st.1 with|.code (.region id ops _)::_=>(Ru P id ops pre s).isSome|_=>false)&&bef ops ops.size q2 q1&&bef ops ops.size r2 r1 &&
  decide ((ops[q1]?).bind (·.dst)=some d1/\(ops[q2]?).bind (·.dst)=some d2/\(ops[r1]?).bind (·.dst)=some d3/\(ops[r2]?).bind (·.dst)=some d4)&&decide (d1≠d2/\d1≠d3/\d1≠d4/\d2≠d3/\d2≠d4/\d3≠d4)&&decide ([q1,q2,r1,r2].Nodup)
 |_=>false
structure Lay where
 e:TypeId
 sz:Nat
 bt:Nat
 z:Value
 es:List Value
structure Asm (L:Lay):Prop where
 ho:A9 L.sz L.es
 hzs:L.z.cells.size=L.sz
 hsz:0<L.sz
 hn0:0<L.es.length
 hb:L.es.length*L.sz<=16777216
def Lay.stop (L:Lay):Vm:=.buildS (some (L.e,L.sz,L.bt,L.z)) L.es.length (L.es.zipIdx.map fun p=>(p.2,p.1))
def Lay.v (L:Lay)(g:Nat):Value:=.slice (some ⟨g,0,none⟩) L.es.length L.es.length
def Lay.arr (L:Lay)(g:Nat):Arr:=⟨L.v g,L.e,L.sz,L.es⟩
section rules
variable {P:Program} [A6 P] {fn:Func} {Post:Ce} {st:List KI×S} {u m:PH}
theorem G.fan (pre:List Nat)(q1 q2 r1 r2:Nat)(t:List Nat)(d1 d2 d3 d4:Nat)(C:Lay)(L:Nat->Lay)(K:Lay)(T:Value)(f:Nat)(args:List Value)(h:Azj P pre q1 q2 r1 r2 t d1 d2 d3 d4 (adv P st)=true)
 (H1:∀ x1 x2 x3 x4,Aj P (Ahj P pre [q1] d1 d2 d3 d4 x1 x2 x3 x4 (adv P st))=C.stop) (o1:Asm C)
 (H2:∀ g x2 x3 x4,Aj P (Ahj P pre [q2] d1 d2 d3 d4 (.v (C.v g)) x2 x3 x4 (adv P st))=(L g).stop) (o2:∀ g,Asm (L g))
 (H3:∀ x1 x2 x3 x4,Aj P (Ahj P pre [r1] d1 d2 d3 d4 x1 x2 x3 x4 (adv P st))=.call f args) (hc:∀ args w,(callFunc f args).run P w=.ok (.enter f args) w) (c:∀ n,PH.le u n->Fn0 P f args n fun v _=>v=T)
 (H4:∀ x1 x2 x4,Aj P (Ahj P pre [r2] d1 d2 d3 d4 x1 x2 (.v T) x4 (adv P st))=K.stop) (o4:Asm K)
 (k:∀ g1 g2 N n j,PH.le u n->Bag j [K.arr N,(L g1).arr g2,C.arr g1]->G P fn Post (Ahj P pre t d1 d2 d3 d4 (.v (C.v g1)) (.v ((L g1).v g2)) (.v T) (.v (K.v N)) (adv P st)) n j):G P fn Post st u m:=by
 refine G.stp ⟨?_⟩;generalize adv P st=st' at h H1 H2 H3 H4 k;unfold Azj at h;split at h
 ·rename_i id ops kk s;simp only[A1m]at h;obtain⟨⟨⟨⟨⟨⟨h1,h2⟩,hq⟩,hr⟩,hd⟩,R⟩,a0⟩:=h;obtain⟨I,a5⟩:=A6a.1 h2;obtain⟨e1,e2,e3,e4⟩:=of_decide_eq_true hd;have R:=of_decide_eq_true R;have a0:=of_decide_eq_true a0;simp only[A4j,A1g,A11,or_false,not_or,not_false_eq_true,List.nodup_nil,and_true]at a0;obtain⟨⟨ag,ad,ae⟩,⟨a6,a7⟩,af⟩:=a0;have e0:∀ l x1 x2 x3 x4,Ahj P pre l d1 d2 d3 d4 x1 x2 x3 x4 (.code (.region id ops true)::kk,s)=(.reg id ops true l::kk,I.put4 d1 d2 d3 d4 x1 x2 x3 x4):=fun l x1 x2 x3 x4=>by unfold Ahj;simp only[a5]
  simp only[e0]at H1 H2 H3 H4 k;refine Sym.reg_tree A6.mx h1 (Ob.autos a5 ?_);rw[Aos I d1 d2 d3 d4];generalize I.tm d1=x1;generalize I.tm d2=x2;generalize I.tm d3=x3;generalize I.tm d4=x4;have W:∀ {Fin x1 x2 x3 x4 u m},(∀ g j,(C.arr g).At m j->Fin (I.put4 d1 d2 d3 d4 (.v (C.v g)) x2 x3 x4) u j)->Ob P id ops true Fin [q1] (I.put4 d1 d2 d3 d4 x1 x2 x3 x4) u m:=fun {Fin x1 x2 x3 x4 u m} hk =>
   Ob.layM C.e C.sz C.bt C.z C.es (H1 x1 x2 x3 x4) e1 o1.ho o1.hzs o1.hsz o1.hn0 o1.hb fun g j E=>by rw[Axl R];exact hk g j E
  have X:∀ {Fin g1 x2 x3 x4 u m},(∀ g j,((L g1).arr g).At m j->Fin (I.put4 d1 d2 d3 d4 (.v (C.v g1)) (.v ((L g1).v g)) x3 x4) u j)->Ob P id ops true Fin [q2] (I.put4 d1 d2 d3 d4 (.v (C.v g1)) x2 x3 x4) u m:=fun {Fin g1 x2 x3 x4 u m} hk =>
   Ob.layM (L g1).e (L g1).sz (L g1).bt (L g1).z (L g1).es (H2 g1 x2 x3 x4) e2 (o2 g1).ho (o2 g1).hzs (o2 g1).hsz (o2 g1).hn0 (o2 g1).hb fun g j E=>by rw[Ax4 R];exact hk g j E
  have a2:∀ {Fin x1 x2 x3 x4 m} (u1:PH),PH.le u u1->(∀ n,PH.le u1 n->Fin (I.put4 d1 d2 d3 d4 x1 x2 (.v T) x4) n m)->Ob P id ops true Fin [r1] (I.put4 d1 d2 d3 d4 x1 x2 x3 x4) u1 m:=fun {Fin x1 x2 x3 x4 m} u1 hle hk =>
   Ob.callV f args (H3 x1 x2 x3 x4) e3 hc (c u1 hle) fun v n H hv=>by rw[Axd R,hv];exact hk n H
  have Y:∀ {Fin x1 x2 x4 u m},(∀ g j,(K.arr g).At m j->Fin (I.put4 d1 d2 d3 d4 x1 x2 (.v T) (.v (K.v g))) u j)->Ob P id ops true Fin [r2] (I.put4 d1 d2 d3 d4 x1 x2 (.v T) x4) u m:=fun {Fin x1 x2 x4 u m} hk =>
   Ob.layM K.e K.sz K.bt K.z K.es (H4 x1 x2 x4) e4 o4.ho o4.hzs o4.hsz o4.hn0 o4.hb fun g j E=>by rw[Axt R];exact hk g j E
  have a1:∀ {g1 g2 N n j},PH.le u n->Bag j [K.arr N,(L g1).arr g2,C.arr g1]->Qh P id ops t (Hm P fn Post kk) 0 [] (I.put4 d1 d2 d3 d4 (.v (C.v g1)) (.v ((L g1).v g2)) (.v T) (.v (K.v N))) n j:=fun H O=>(k _ _ _ _ _ H O).out;have ab:∀ {g1 g2 x4 n j},PH.le u n->Bag j [(L g1).arr g2,C.arr g1]->Qh P id ops t (Hm P fn Post kk) 1 [r2] (I.put4 d1 d2 d3 d4 (.v (C.v g1)) (.v ((L g1).v g2)) (.v T) x4) n j:=fun {g1 g2 x4 n j} H O a F _=>by
   simp only[A1g,A11,or_false]at F;subst F;rw[A3a];exact Y fun g J E=>a1 H ⟨j,E,O⟩
  have a8:∀ {g1 N x2 n j},PH.le u n->Bag j [K.arr N,C.arr g1]->Qh P id ops t (Hm P fn Post kk) 1 [q2] (I.put4 d1 d2 d3 d4 (.v (C.v g1)) x2 (.v T) (.v (K.v N))) n j:=fun {g1 N x2 n j} H O a F _=>by
   simp only[A1g,A11,or_false]at F;subst F;rw[A3a];exact X fun g J E=>a1 H (Bag.perm (List.Perm.swap _ _ _) (show Bag J [(L g1).arr g,K.arr N,C.arr g1] from⟨j,E,O⟩))
  have Z:∀ {g1 x2 x4 n j},PH.le u n->Bag j [C.arr g1]->Qh P id ops t (Hm P fn Post kk) 2 [q2,r2] (I.put4 d1 d2 d3 d4 (.v (C.v g1)) x2 (.v T) x4) n j:=fun {g1 x2 x4 n j} H O a F _=>by
   simp only[A1g,A11,or_false]at F;rcases F with rfl|rfl
   ·rw[A3a];exact X fun g J E=>ab H ⟨j,E,O⟩
   rw[A5e (by simpa using a7),A3a];exact Y fun g J E=>a8 H ⟨j,E,O⟩
  have a4:∀ {g1 g2 x3 x4 n j},PH.le u n->Bag j [(L g1).arr g2,C.arr g1]->Qh P id ops t (Hm P fn Post kk) 2 [r1,r2] (I.put4 d1 d2 d3 d4 (.v (C.v g1)) (.v ((L g1).v g2)) x3 x4) n j:=fun {g1 g2 x3 x4 n j} H O a F U=>by
   simp only[A1g,A11,or_false]at F;rcases F with rfl|rfl
   ·rw[A3a];exact a2 _ H fun ac V=>ab (H.trans V) O
   have:=U r1 mV af;rw[hr]at this;cases this
  have a3:∀ {N x1 x2 n j},PH.le u n->Bag j [K.arr N]->Qh P id ops t (Hm P fn Post kk) 2 [q1,q2] (I.put4 d1 d2 d3 d4 x1 x2 (.v T) (.v (K.v N))) n j:=fun {N x1 x2 n j} H O a F U=>by
   simp only[A1g,A11,or_false]at F;rcases F with rfl|rfl
   ·rw[A3a];exact W fun g J E=>a8 H (Bag.perm (List.Perm.swap _ _ _) (show Bag J [C.arr g,K.arr N] from⟨j,E,O⟩))
   grind
  have a9:∀ {g1 x2 x3 x4 n j},PH.le u n->Bag j [C.arr g1]->Qh P id ops t (Hm P fn Post kk) 3 [q2,r1,r2] (I.put4 d1 d2 d3 d4 (.v (C.v g1)) x2 x3 x4) n j:=fun {g1 x2 x3 x4 n j} H O a F U=>by
   simp only[A1g,A11,or_false]at F;rcases F with rfl|rfl|rfl
   ·rw[A3a];exact X fun g J E=>a4 H ⟨j,E,O⟩
   ·rw[A5e (by simpa using a6),A3a];exact a2 _ H fun ac V=>Z (H.trans V) O
   grind
  have aa:∀ {x1 x2 x4 n j},PH.le u n->Qh P id ops t (Hm P fn Post kk) 3 [q1,q2,r2] (I.put4 d1 d2 d3 d4 x1 x2 (.v T) x4) n j:=fun {x1 x2 x4 n j} H a F U=>by
   simp only[A1g,A11,or_false]at F;rcases F with rfl|rfl|rfl
   ·rw[A3a];exact W fun g J E=>Z H ⟨j,E,trivial⟩
   ·grind
   rw[A5e (by simpa using ae),A5e (by simpa using a7),A3a];exact Y fun g J E=>a3 H ⟨j,E,trivial⟩
  intro a F U;simp only[A1g,A11,or_false]at F;rcases F with rfl|rfl|rfl|rfl
  ·rw[A3a];exact W fun g J E=>a9 (PH.le_refl _) ⟨m,E,trivial⟩
  ·grind
  ·rw[A5e (by simpa using ad),A5e (by simpa using a6),A3a];exact a2 _ (PH.le_refl _) fun ac V=>aa V
  grind
 cases h
end rules
end
section
structure Aam (u:PH)(v cv:Value)(T:List (List UInt8×Nat))(R:List Br)(F:List Al)(lab:Int)(C:CF)(K k:Nat):Prop where
 sch:H5 u v T R F lab
 ok:Bl u T R F lab
 cof:No u cv C K
 sC:CFS C
 vC:CFV C
 K:K<=10000
 bel:∀ p,C.s p≠0->Adm F lab p
 mom:Ai6 C k
 p24:∀ P,Nn F C P->P.length<=24
 lab0:0<=lab
section
variable {u:PH} {v cv:Value} {T:List (List UInt8×Nat)} {R:List Br} {F:List Al} {lab:Int} {C:CF} {K k:Nat} {P:List Par}
def Yo (C:CF)(P:List Par)(i:Nat):List (List Rat):=((An P).take (i+1)).map (As C none)::(P.take i).map fun p=>(An P).map (As C (some p))
def An3:Yo C P P.length=Lh C P:=by
 unfold Yo Lh;rw[show (An P).take (P.length+1)=An P by rw[A1j (by rw[Cp];omega)],A15]
 conv=>rhs;rw[show An P=none::P.map some from rfl]
 rw[A2u,A9h];rfl
def Ajb (h:Aam u v cv T R F lab C K k) :
 Ag prog 184 [v,cv] u PH.mt fun r u' m'=>∃ (P:List Par) (pa:Option Addr) (pc:Nat) (xa:Option Addr) (xc:Nat) (ra:Option Addr) (rc:Nat) (n:List (Value×List Value)),Nn F C P /\
  r=.tuple #[.agg #[.slice pa P.length pc,.slice xa (P.length+1) xc,.slice ra (P.length+1) rc],.int .i64 0]/\Ac u' (.slice pa P.length pc) 2 (P.map Ap)/\n.map (·.2)=(Lh C P).map txV /\
  Bag m' (Bu (.slice ra (P.length+1) rc,txV ((An P).map (Bh C)))::oT (.slice xa (P.length+1) xc) n::n.map Bu):=by
 have b3:=Ahd h.sch h.ok h.cof h.sC h.vC (A04 h.K oV) h.bel;have am:=h.p24;have hK:=h.K;have ce:=h.lab0;have hS:=fun (u':PH) (l:PH.le u u') (p:Par)=>A0d p (h.cof.mono l) oV;have hQ:=fun (u':PH) (l:PH.le u u') (p q:Par)=>Afd p q (h.cof.mono l) oV;obtain⟨xa,xc,xb,xd,xe,xf,rfl,_⟩:=id h.sch;obtain⟨a1,n1,c1,a2,n2,c2,rfl⟩:=id h.cof.opn;refine Ag.o func184<|G.c call232 b3 ?_;intro v1 u1 l1 hp;obtain⟨ps,P,rfl,hL,_,a0⟩:=hp.resolve_left fun⟨_,L,h1,a0⟩=>by have:=am L a0;omega
 have cd:=am P a0;have cg:=Cp P;obtain⟨pa,pc,rfl⟩:=hL.opn;rw[A03]at hL⊢;refine G.nF 0 0<|G.lF lab 0<|G.fan [0,1,2,5,6,10] 3 4 7 8 [9,11] 33 34 37 38 ⟨34,1,16,.string (mkS []),[.string (mkS (Ae C.c))]⟩ (fun g=>⟨46,1,24,.slice none 0 0,[.slice (some ⟨g,0,none⟩) 1 1]⟩) ⟨34,1,16,.string (mkS []),[.string (mkS (Ae (C.s B7)))]⟩ (.string (mkS (Ae (C.s B7)))) _ _ kV
  (fun _ _ _ _=>kV) ⟨E7 _,rfl,Nat.one_pos,Nat.one_pos,mV⟩ (fun _ _ _ _=>kV) (fun _=>⟨B5 _ _ _,rfl,Nat.one_pos,Nat.one_pos,mV⟩) (fun _ _ _ _=>kV) call233 (fun u' l=>hS u' (l1.trans l) B7) (fun _ _ _=>kV) ⟨E7 _,rfl,Nat.one_pos,Nat.one_pos,mV⟩ ?_
 intro g3 g4 g5 u2 m5 l2 av;refine G.l (ι:=Nat×(Option Addr×Nat)×(Option Addr×Nat)×List (Value×List Value)) (fun i=>[(3,.p 1 0),(4,.p 2 0),(6,sV pa P.length pc),(8,.p 6001 0),(9,.p 7010 0),(40,sV pa P.length pc),(41,iV P.length),(42,iV i.1)])
  (fun i=>[(1,⟨38,[tV (Ae C.c),sV a1 n1 c1,sV a2 n2 c2]⟩),(2,⟨57,[sV none 0 0,sV none 0 0,sV none 0 0]⟩),(6001,⟨118,[iV (-1),tV []]⟩),
   (7010,⟨57,[.v (.slice pa P.length pc),.v (.slice i.2.1.1 (i.1+1) i.2.1.2),.v (.slice i.2.2.1.1 (i.1+1) i.2.2.1.2)]⟩)])
  (fun i u' m'=>i.1<=P.length/\i.2.2.2.map (·.2)=(Yo C P i.1).map txV/\Bag m' (Bu (.slice i.2.2.1.1 (i.1+1) i.2.2.1.2,txV (((An P).take (i.1+1)).map (Bh C)))::oT (.slice i.2.1.1 (i.1+1) i.2.1.2) i.2.2.2::i.2.2.2.map Bu)) (fun i=>P.length-i.1)
  (0,(some ⟨g4,0,none⟩,1),(some ⟨g5,0,none⟩,1),[(.slice (some ⟨g3,0,none⟩) 1 1,txV [C.c])])
  ⟨oV,by unfold Yo An;rfl,av⟩ ?_
 clear av;rintro J ⟨i,⟨ya,O⟩,⟨ra,rc⟩,n⟩ hJ u5 m5 l5 ⟨hi,z,E⟩;simp only at hi z E hJ;have bd:=(l1.trans l2).trans l5;have b5:n.length=i+1:=by have:=congrArg List.length z;rw[A03,A03]at this;rw[this];simp[Yo];omega
 by_cases b1:i<P.length
 ·refine G.lT i P.length ?_;obtain⟨p,ae⟩:∃ p,P[i]?=some p:=⟨_,A01 b1⟩;have b7:(An P).take (i+1+1)=(An P).take (i+1)++[some p]:=by rw[Ex,Ex,A1n,ae];simp
  obtain⟨bp,op,e0,ep⟩:=Ac.at' (hL.mono (l2.trans l5)) (j:=i) (e:=Ap p) (by simp[ae]);subst e0;refine G.a bp op P.length pc i 2 b1<|G.lU (some 2) bp (op+i*2) (.agg #[.int .i64 p.1,.string (mkS p.2)]) ep ?_;obtain⟨go,co,eo⟩:=E.ptr 1 rfl (fun e=>by
   have:(n.map (·.1)).length=0:=by rw[show n.map (·.1) = [] from e];rfl
   rw[A03]at this;omega)
  have bl:(Value.slice ya (i+1) O)=.slice (some ⟨go,0,none⟩) (i+1) co:=by
   have e1:(oT (.slice ya (i+1) O) n).v=Value.slice ya (i+1) O:=rfl;rw[e1]at eo;rw[eo];have:(oT (.slice ya (i+1) O) n).es.length=i+1:=by show (n.map (·.1)).length=_;rw[A03,b5]
   rw[this]
  cases bl;obtain⟨⟨v0,e0⟩,X⟩:∃ x,n[0]?=some x:=⟨_,A01 oV⟩;have bt:e0=txV (((An P).take (i+1)).map (As C none)):=by
   have h1:=congrArg (fun l=>l[0]?) z;simp only[A1a,X]at h1;simpa[Yo] using h1
  subst bt;have ad:(txV (((An P).take (i+1)).map (As C none))).length=i+1:=by rw[Cw,A03,A1e];omega
  obtain⟨z0,a5,ez⟩:=E.shape 2 (x:=Bu (v0,txV (((An P).take (i+1)).map (As C none)))) (by simp[X]);simp only[Bu]at ez;rw[ad]at ez;subst ez;have b2:ElP m5 go (0+0*1) (.slice z0 (i+1) a5):=E.el 1 (x:=oT (.slice (some ⟨go,0,none⟩) (i+1) O) n) rfl rfl (by show (n.map (·.1))[0]?=_;rw[A1a,X];rfl);refine G.a go 0 (i+1) O 0 1 oV<|G.lM none go (0+0*1) (.slice z0 (i+1) a5) b2<|G.c call233 (hS u5 bd p) ?_;rintro v6 u6 l6 rfl;refine G.B 34 1 16 (.string (mkS [])) [.string (mkS (Ae (C.s p)))] (E7 _) ?_;intro g7 u7 l7 e7;obtain⟨m0,N,H⟩:=E.focus 2 (x:=Bu (.slice z0 (i+1) a5,txV (((An P).take (i+1)).map (As C none)))) (by simp[X]);rw[D6]at N;refine G.append 34 1 16 (.string (mkS [])) m0 (txV (((An P).take (i+1)).map (As C none))) [.string (mkS (Ae (C.s p)))] (.slice z0 (i+1) a5) g7 0 1 1 kV rfl rfl oV N e7 (E7 _) rfl oV (by rw[ad];omega) (by rw[ad];omega) ?_;intro v8 m8 Z;have e8:txV (((An P).take (i+1)).map (As C none))++[.string (mkS (Ae (C.s p)))]=txV (((An P).take (i+1+1)).map (As C none)):=by rw[b7,A1i,Md];rfl
  rw[e8]at Z;have bu:(txV (((An P).take (i+1+1)).map (As C none))).length=i+1+1:=by rw[Cw,A03,A1e];omega
  obtain⟨a8,c8,rfl⟩:=Z.shape;rw[bu]at Z⊢;have aw:=H (Bu (.slice a8 (i+1+1) c8,txV (((An P).take (i+1+1)).map (As C none)))) m8 Z;obtain⟨m1,ag,W⟩:=aw.focus 1 rfl;rw[Aaa]at ag;refine G.a go 0 (i+1) O 0 1 oV<|G.storeA 1 m1 _ go (i+1) O 0 (.slice a8 (i+1+1) c8) kV ag gV rfl rfl ?_;intro m9 bs;have ax:=W (oT (.slice (some ⟨go,0,none⟩) (i+1) O) (n.set 0 (.slice a8 (i+1+1) c8,txV (((An P).take (i+1+1)).map (As C none))))) m9 (by rw[Aaa,A2g];exact bs);obtain⟨m,I⟩:∃ r,r=n.set 0 (.slice a8 (i+1+1) c8,txV (((An P).take (i+1+1)).map (As C none))):=⟨_,rfl⟩;have a7:Bag m9 (Bu (.slice ra (i+1) rc,txV (((An P).take (i+1)).map (Bh C)))::oT (.slice (some ⟨go,0,none⟩) (i+1) O) m::m.map Bu):=by
   rw[I,A2g];simpa using ax
  have bz:m.map (·.2)=(((An P).take (i+1+1)).map (As C none)::(P.take i).map fun p=>(An P).map (As C (some p))).map txV:=by
   rw[I,A2g,z];rfl
  have b6:m.length=i+1:=by rw[I,A21];exact b5
  clear ax aw H W N ag E z X b2;have be:=(bd.trans l6).trans l7;refine G.c call233 (hS u7 be p) ?_;rintro cp cj ah rfl;refine G.buildM 34 1 16 (.string (mkS [])) [.string (mkS (Ae (C.s p)))] kV (E7 _) rfl oV mV mV ?_;intro bm ch a6;have ba:=be.trans ah;have an:=hL.mono ((((l2.trans l5).trans l6).trans l7).trans ah);refine G.l (ι:=Nat×(Option Addr×Nat)) (fun j=>[(3,.p 1 0),(4,.p 2 0),(6,sV (some ⟨bp,op,none⟩) P.length pc),(8,.p 6001 0),(9,.p 7010 0),(11,.p 10002 0),(12,sV j.2.1 (j.1+1) j.2.2),(40,sV (some ⟨bp,op,none⟩) P.length pc),(41,iV P.length),(42,iV i),(62,sV (some ⟨bp,op,none⟩) P.length pc),(63,iV P.length),(64,iV j.1)])
   (fun j=>[(1,⟨38,[tV (Ae C.c),sV a1 n1 c1,sV a2 n2 c2]⟩),(2,⟨57,[sV none 0 0,sV none 0 0,sV none 0 0]⟩),(6001,⟨118,[iV (-1),tV []]⟩),
    (7010,⟨57,[.v (.slice (some ⟨bp,op,none⟩) P.length pc),.v (.slice (some ⟨go,0,none⟩) (i+1) O),.v (.slice ra (i+1) rc)]⟩),(10002,⟨118,[.v (.int .i64 p.1),.v (.string (mkS p.2))]⟩)])
   (fun j u' m'=>j.1<=P.length/\Bag m' (Bu (.slice j.2.1 (j.1+1) j.2.2,txV (((An P).take (j.1+1)).map (As C (some p))))::Bu (.slice ra (i+1) rc,txV (((An P).take (i+1)).map (Bh C)))::oT (.slice (some ⟨go,0,none⟩) (i+1) O) m::m.map Bu)) (fun j=>P.length-j.1)
   (0,some ⟨bm,0,none⟩,1) ⟨oV,m9,a6,a7⟩ ?_
  clear a7 a6;rintro J2 ⟨j,la,Y⟩ ac cb ci a4 ⟨hj,a3⟩;simp only at hj a3 ac;have a9:=ba.trans a4;by_cases ay:j<P.length
  ·refine G.lT j P.length ?_;obtain⟨q,b4⟩:∃ q,P[j]?=some q:=⟨_,A01 ay⟩;have c0:(An P).take (j+1+1)=(An P).take (j+1)++[some q]:=by rw[Ex,Ex,A1n,b4];simp
   obtain⟨bq,oq,e0,eq⟩:=Ac.at' (an.mono a4) (j:=j) (e:=Ap q) (by simp[b4]);cases e0;refine G.a bp op P.length pc j 2 ay<|G.lU (some 2) bp (op+j*2) (.agg #[.int .i64 q.1,.string (mkS q.2)]) eq<|G.c call54 (hQ cb a9 p q) ?_;rintro cq ck c3 rfl;refine G.B 34 1 16 (.string (mkS [])) [.string (mkS (Ae (C.t (Ay p q))))] (E7 _) ?_;intro bn cl c4 bg;obtain⟨m0,N,H⟩:=a3.focus 0 rfl;rw[D6]at N;have az:(txV (((An P).take (j+1)).map (As C (some p)))).length=j+1:=by rw[Cw,A03,A1e];omega
   refine G.append 34 1 16 (.string (mkS [])) m0 (txV (((An P).take (j+1)).map (As C (some p)))) [.string (mkS (Ae (C.t (Ay p q))))] (.slice la (j+1) Y) bn 0 1 1 kV rfl rfl oV N bg (E7 _) rfl oV (by rw[az];omega) (by rw[az];omega) ?_;intro cr c7 Q;have bh:txV (((An P).take (j+1)).map (As C (some p)))++[.string (mkS (Ae (C.t (Ay p q))))]=txV (((An P).take (j+1+1)).map (As C (some p))):=by rw[c0,A1i,Md];rfl
   rw[bh]at Q;have bw:(txV (((An P).take (j+1+1)).map (As C (some p)))).length=j+1+1:=by rw[Cw,A03,A1e];omega
   obtain⟨ai,ak,rfl⟩:=Q.shape;rw[bw]at Q⊢;have ao:=H (Bu (.slice ai (j+1+1) ak,txV (((An P).take (j+1+1)).map (As C (some p))))) c7 Q;exact G.i j<|G.b (ac (j+1,ai,ak) _ _ _ cV ((a4.trans c3).trans c4) ⟨dV,ao⟩ dV)
  obtain rfl:j=P.length:=oV
  refine G.lF P.length P.length ?_;clear ac;rw[show (An P).take (P.length+1)=An P by rw[A1j oV]]at a3;refine G.B 46 1 24 (.slice none 0 0) [.slice la (P.length+1) Y] (B5 _ _ _) ?_;intro bo cc b9 bi;obtain⟨m0,N,H⟩:=a3.focus 2 rfl;rw[Aaa]at N;refine G.k 46 1 24 (.slice none 0 0) m0 (m.map (·.1)) [.slice la (P.length+1) Y] (.slice (some ⟨go,0,none⟩) (i+1) O) bo 0 1 1 N bi (B5 _ _ _) ?_;intro cs bf U;have em:m.map (·.1)++[Value.slice la (P.length+1) Y]=(m++[(Value.slice la (P.length+1) Y,txV ((An P).map (As C (some p))))]).map (·.1):=mV
  rw[em]at U;obtain⟨aa,ab,rfl⟩:=U.shape;have el:((m++[(Value.slice la (P.length+1) Y,txV ((An P).map (As C (some p))))]).map (·.1)).length=i+1+1:=by simp[b6]
  rw[el]at U⊢;have ap:=H (oT (.slice aa (i+1+1) ab) (m++[(Value.slice la (P.length+1) Y,txV ((An P).map (As C (some p))))])) bf U;have aq:=Bag.perm S8 ap;have bb:=a9.trans b9;refine G.c call54 (hQ cc bb B7 p) ?_;rintro ct cm c5 rfl;refine G.B 34 1 16 (.string (mkS [])) [.string (mkS (Ae (C.t (Ay B7 p))))] (E7 _) ?_;intro br cn c6 bj;have ar:Bag bf (Bu (.slice ra (i+1) rc,txV (((An P).take (i+1)).map (Bh C)))::oT (.slice aa (i+1+1) ab) (m++[(Value.slice la (P.length+1) Y,txV ((An P).map (As C (some p))))])::(m++[(Value.slice la (P.length+1) Y,txV ((An P).map (As C (some p))))]).map Bu):=by simpa using aq
  obtain⟨m2,b8,af⟩:=ar.focus 0 rfl;rw[D6]at b8;have b0:(txV (((An P).take (i+1)).map (Bh C))).length=i+1:=by rw[Cw,A03,A1e];omega
  refine G.append 34 1 16 (.string (mkS [])) m2 (txV (((An P).take (i+1)).map (Bh C))) [.string (mkS (Ae (C.t (Ay B7 p))))] (.slice ra (i+1) rc) br 0 1 1 kV rfl rfl oV b8 bj (E7 _) rfl oV (by rw[b0];omega) (by rw[b0];omega) ?_;intro cu ca V;have bk:txV (((An P).take (i+1)).map (Bh C))++[.string (mkS (Ae (C.t (Ay B7 p))))]=txV (((An P).take (i+1+1)).map (Bh C)):=by rw[b7,A1i,Md];rfl
  rw[bk]at V;have bx:(txV (((An P).take (i+1+1)).map (Bh C))).length=i+1+1:=by rw[Cw,A03,A1e];omega
  obtain⟨aj,al,rfl⟩:=V.shape;rw[bx]at V⊢;have au:=af (Bu (.slice aj (i+1+1) al,txV (((An P).take (i+1+1)).map (Bh C)))) ca V;refine G.i i<|G.b (hJ (i+1,(aa,ab),(aj,al),m++[(Value.slice la (P.length+1) Y,txV ((An P).map (As C (some p))))]) _ _ _ cV (((((((l5.trans l6).trans l7).trans ah).trans a4).trans b9).trans c5).trans c6) ⟨dV,?_,au⟩ dV);dsimp only;rw[A1i,bz];unfold Yo;rw[show P.take (i+1)=P.take i++[p] by rw[A1n,ae];rfl];simp
 obtain rfl:i=P.length:=oV
 refine G.lF P.length P.length ?_;rw[An3]at z;rw[show (An P).take (P.length+1)=An P by rw[A1j oV]]at E;exact G.r (.tuple #[.agg #[.slice pa P.length pc,.slice ya (P.length+1) O,.slice ra (P.length+1) rc],.int .i64 0]) ⟨P,pa,pc,ya,O,ra,rc,n,a0,rfl,hL.mono (l2.trans l5),z,E⟩
end
end
def Iz {u:PH}{T:List (List UInt8×Nat)}{R:List Br}{F:List Al}{lab:Int}(ok:Bl u T R F lab):∀ l:Nat,lab=(l:Int)->l<T.length:=fun l e=>by
 obtain⟨n,g⟩:=ok.l2 l e;exact (A05.1 g).1
def Au1:SmW 2:=⟨jV,jV⟩
section
def R4 {q:Rat}(h:0<q):0<q.num:=by
 have g:0<=q.num:=Rat.num_nonneg.2 (Bat h);have j:q.num≠0:=fun e=>by
  rw[A4r]at e;rw[e]at h;exact absurd h jV
 omega
def Atv {u:PH}{p q:Rat}(ht:Hx u)(hp:Tx p)(m:Tx q)(hs:Tx (p+q)):Fn0 prog 117 [.string (mkS (Ae p)),.string (mkS (Ae q))] u fun v _=>v=.tuple #[.string (mkS (Ae (p+q))),.int .i64 0]:=by
 have h:Fn0 prog 185 [.string (mkS (Ae p)),.string (mkS (Ae q)),.func (.func 129) #[] #[]] u fun v _=>v=.tuple #[.string (mkS (Ae (p+q))),.int .i64 0]:=by
  refine Fn0.o func185<|G.B 34 1 16 (.string (mkS [])) [.string (mkS (Ae p)),.string (mkS (Ae q))] (Gc [Ae p,Ae q]) ?_;intro g J H Y;have Z:Cj J (.slice (some ⟨g,0,none⟩) 2 2) ([p,q].map Ae):=⟨_,2,rfl,A08 _,fun j e hj=>⟨g,0,rfl,Y j e hj⟩⟩;refine G.c call234 (Ajw Z (by intro x n;simp at n;rcases n with rfl|rfl;exact hp;exact m) mV) ?_;rintro v2 u2 l2 rfl;refine G.c call133 (Gs hp) ?_;intro v3 u3 l3 t;obtain⟨b3,a3,n3,c3,P,L,a0,V,rfl⟩:=t.opn;refine G.c call133 (Gs m) ?_;intro v4 u4 I z;obtain⟨b4,a4,n4,c4,Q,N,a1,W,rfl⟩:=z.opn;refine G.c call129 (Lq (t.mono I) z (hp.sz.mono oV) (m.sz.mono oV)) ?_;intro v5 u5 l5 E;obtain⟨b5,a5,n5,c5,U,O,a2,X,rfl⟩:=E.opn;refine G.c call71 (Uf (ht.mono ((((H.trans l2).trans l3).trans I).trans l5)) E hs) ?_;rintro v6 u6 l6 rfl;exact G.r _ ⟨rfl,rfl⟩
 refine Fn0.o func117<|G.c call185 h ?_;rintro v1 J H rfl;exact G.r _ ⟨rfl,rfl⟩
structure Ay8 (q:Rat):Prop where
 tx:Tx q
 pos:0<q
 de:De 3 2 q
def Fd.w {q:Rat}(h:Fd q):Ay8 q:=⟨h.tx,h.pos,h.de.mono oV oV⟩
section
variable {u:PH} {v cv:Value} {T:List (List UInt8×Nat)} {R:List Br} {F:List Al} {lab:Int} {C:CF} {K k:Nat} {q:Rat}
theorem An9 (h:Aam u v cv T R F lab C K k)(hq:Ay8 q) :
 Ag prog 116 [v,cv,.string (mkS (Ae q))] u PH.mt fun r u' m'=>∃ (P:List Par) (pa:Option Addr) (pc:Nat) (xa:Option Addr) (xc:Nat) (ra:Option Addr) (rc:Nat) (rows:List (Value×List Value)),Nn F C P /\
  r=.tuple #[.agg #[.slice pa P.length pc,.slice xa (P.length+1) xc,.slice ra (P.length+1) rc],.int .i64 (if k=0 then 12 else 0)]/\Ac u' (.slice pa P.length pc) 2 (P.map Ap)/\rows.map (·.2)=(Lh C P).map txV /\
  Bag m' (Bu (.slice ra (P.length+1) rc,txV ((An P).map (Bh C)))::oT (.slice xa (P.length+1) xc) rows::rows.map Bu):=by
 have hmx:=Ajb h;have hS:=h.mom;obtain⟨xa,xc,xb,xd,xe,xf,rfl,_⟩:=id h.sch;obtain⟨a1,n1,c1,a2,n2,c2,rfl⟩:=id h.cof.opn;refine Ag.o func116 ?_;refine G.callO _ _ kV call184 hmx ?_;rintro v1 u1 m1 l1 ⟨P,pa,pc,ya,yc,ra,rc,rows,hPL,rfl,hP,hrows,hbag⟩ _;rw[By];refine G.nF 0 0 ?_;refine G.c call169 (Gu hq.tx) ?_;rintro v2 u2 l2 rfl;refine G.c call103 (S7 hq.tx) ?_;rintro v3 u3 l3 rfl;have hqn:sgn q.num=1:=C5 (R4 hq.pos);refine G.kF (sgn q.num) 0 ?_;refine G.c call103 (S7 hS.tx) ?_;rintro v4 u4 l4 rfl;by_cases h0:k=0
 ·rw[if_pos h0];have hz:sgn C.c.num=0:=A0g.2 (by rw[hS.c,h0];rfl);refine G.kT (sgn C.c.num) 0 ?_;exact G.r (.tuple #[.agg #[.slice pa P.length pc,.slice ya (P.length+1) yc,.slice ra (P.length+1) rc],.int .i64 12]) ⟨P,pa,pc,ya,yc,ra,rc,rows,hPL,rfl,hP.mono ((l2.trans l3).trans l4),hrows,hbag⟩
 ·rw[if_neg h0];have hz:sgn C.c.num=1:=C5 (R4 (hS.cpos h0));refine G.kF (sgn C.c.num) 0 ?_;exact G.r (.tuple #[.agg #[.slice pa P.length pc,.slice ya (P.length+1) yc,.slice ra (P.length+1) rc],.int .i64 0]) ⟨P,pa,pc,ya,yc,ra,rc,rows,hPL,rfl,hP.mono ((l2.trans l3).trans l4),hrows,hbag⟩
end
end
def K9 (m:PH)(gn:Nat)(e:Int):PH:=if e=0 then m else m.upd gn (.cells #[.slice none 0 0,.slice none 0 0,.slice none 0 0] 57 (0,0))
def Apo {P:Program}{T:TypeId}{z:Value}{u m:PH}{w:World}{t:Nat}{s1 s2 s3 t1 t2 t3:Value}(C:Bv u m w)(X:m t=some (.cells #[s1,s2,s3] T (0,0)))(h1:Ax t1=true)(h2:Ax t2=true)(h3:Ax t3=true)(hz:∀ K,pv P K (.build T #[])=some (.agg #[t1,t2,t3]))(hs:szB P T=some 3)
 {Q:Exit->Act->World->Prop} {F H:Oper} (Z:F.op=.build T #[]) (d0:F.dst=some 4) (W:F.guard=none) (p1:H.op=.store T (.tmp 1) (.tmp 4)) (U:H.dst=none) (g1:H.guard=none) {id:Nat} {a:Act} (ha:a.eval (.tmp 1)=.pointer (some ⟨t,0,none⟩)) (hl:4<a.tmps.size)
 (hk:∀ R w',R.defers=a.defers->Bv u (m.upd t (.cells #[t1,t2,t3] T (0,0))) w'->B0 u m w u (m.upd t (.cells #[t1,t2,t3] T (0,0))) w'->Q .normal R w'):(Code.region id #[F,H] false).wp P Q a w:=by
 obtain⟨a0,a1,n,pos,after,L⟩:=F;obtain⟨V,Y,g,j,e,I⟩:=H;simp only at Z d0 W p1 U g1;subst Z d0 W p1 U g1;have e0:(execOp a.eval ⟨some 4,.build T #[],n,pos,after,none⟩).run P w=.ok (.value (.agg #[t1,t2,t3])) w:=Agc (hz _) w;have N:(a.put (some 4) (.agg #[t1,t2,t3])).eval (.tmp 1)=.pointer (some ⟨t,0,none⟩):=by
  rw[<-ha];simp[Act.eval,Act.put]
 have O:(a.put (some 4) (.agg #[t1,t2,t3])).eval (.tmp 4)=.agg #[t1,t2,t3]:=by
  simp[Act.eval,Act.put,hl]
 have h:∀ x∈(#[t1,t2,t3]:Array Value).toList,Ax x=true:=fun x J=>by
  simp at J;rcases J with rfl|rfl|rfl<;>assumption
 obtain⟨k1,k2⟩:=C.setM X h;have e1:(execOp (a.put (some 4) (.agg #[t1,t2,t3])).eval ⟨none,.store T (.tmp 1) (.tmp 4),g,j,e,none⟩).run P w=.ok .skip (w.setRow t #[t1,t2,t3]):=by
  have E:=run_storeCells_at P t 0 T [t1,t2,t3] 0 #[s1,s2,s3] w (C.pm t _ X) mV (fun x J=>Gl (h x (by simpa using J)));simp only[execOp,N,O];simp[Instr.storeAt,Instr.sureAddr,storeVar,Bf hs,Value.cells]at E⊢;rw[E];rfl
 refine wp_region ?_;refine .inl ?_;show Oper.upon P ⟨some 4,.build T #[],n,pos,after,none⟩ a _ _ ((execOp a.eval ⟨some 4,.build T #[],n,pos,after,none⟩).run P w);rw[e0,Oper.upon_value];show wpOps P _ _ [1] (a.put (some 4) (.agg #[t1,t2,t3])) w;refine .inl ?_;show Oper.upon P ⟨none,.store T (.tmp 1) (.tmp 4),g,j,e,none⟩ (a.put (some 4) (.agg #[t1,t2,t3])) _ _ ((execOp (a.put (some 4) (.agg #[t1,t2,t3])).eval ⟨none,.store T (.tmp 1) (.tmp 4),g,j,e,none⟩).run P w);rw[e1,Oper.upon_skip];exact hk _ _ rfl k1 k2
theorem Aja {u m:PH}{ge gn:Nat}{e:Int}{s1 s2 s3:Value}(he:m ge=some (.cells #[.int .i64 e] 39 (0,0)))(hn:m gn=some (.cells #[s1,s2,s3] 57 (0,0)))(h1:Ax s1=true)(h2:Ax s2=true)(h3:Ax s3=true) :
 Aix prog 115 [.pointer (some ⟨ge,0,none⟩),.pointer (some ⟨gn,0,none⟩)] u m (fun u' m'=>u'=u/\m'=K9 m gn e):=by
 intro w hgd;refine (callsDIn_of_wp (R:=fun e' w'=>∃ v u' m',e'=.returned v/\Bv u' m' w'/\B0 u m w u' m' w'/\u'=u/\m'=K9 m gn e) func115 rfl trivial (wpIn_wide.2 ?_) rfl).mono (fun e' md w' h=>h);have hl:∀ ev:Operand->Value,∀ o:Oper,o.op=.load 39 (.tmp 0)->ev (.tmp 0)=.pointer (some ⟨ge,0,none⟩)->(execOp ev o).run prog w=.ok (.value (.int .i64 e)) w:=fun ev o ho hv=>by
  obtain⟨dst,opp,type,pos,after,guard⟩:=o;simp only at ho;subst ho;have hel:ElP m ge 0 (.int .i64 e):=fun i x hi=>by
   match i,hi with
   |0,hi=>exact⟨_,_,_,he,by simpa[Value.cells] using hi⟩
  have hr:=Kj (P:=prog) (t:=39) (k:=none) kV rfl hel hgd.pm;simp[execOp,Instr.loadAt,Instr.sureAddr,hv];rw[hr];rfl
 have hb:∀ ev:Operand->Value,∀ o:Oper,o.op=.binOp .neq 39 (.tmp 2) (.const (.int .i64 0)) 39->ev (.tmp 2)=.int .i64 e->ev (.const (.int .i64 0))=.int .i64 0->(execOp ev o).run prog w=.ok (.value (.bool (decide (e≠0)))) w:=fun ev o ho hv hv2=>by
  obtain⟨dst,opp,type,pos,after,guard⟩:=o;simp only at ho;subst ho;have hg:∀ t X Y,(eqGuard .neq t X Y (.int .i64 e) (.int .i64 0)).run prog w=.ok () w:=fun t X Y=>C0 t X Y w;have hr:∀ t,(binOp .neq t (.int .i64 e) (.int .i64 0)).run prog w=.ok (.bool (decide (e≠0))) w:=fun t=>by
   simp[binOp,Op.intCmp]
   try (rw[A9j];simp)
  simp[execOp,hv,hv2,hg,hr]
 refine wp_seq (wp_region ?_);refine .inl ?_;show Oper.upon _ _ _ _ _ ((execOp _ _).run _ _);rw[hl _ _ rfl rfl,Oper.upon_value];refine .inl ?_;show Oper.upon _ _ _ _ _ ((execOp _ _).run _ _);rw[hb _ _ rfl rfl rfl,Oper.upon_value];by_cases h0:e=0
 ·rw[show decide (e≠0)=false by simp[h0]];refine wp_cond_false rfl (wp_skip ?_);refine bodyPost_end (results_none rfl _ _ _) rfl ?_;exact⟨_,_,_,rfl,hgd,B0.refl _ _ _,rfl,by unfold K9;rw[if_pos h0]⟩
 ·rw[show decide (e≠0)=true by simp[h0]];refine wp_cond_true rfl ?_;refine Apo (z:=undef) hgd hn (t1:=.slice none 0 0) (t2:=.slice none 0 0) (t3:=.slice none 0 0) rfl rfl rfl (fun env=>kV) kV rfl rfl rfl rfl rfl rfl rfl (Nat.lt_of_lt_of_eq (by decide:4<5) rfl) ?_;intro a' w' hd k1 k2;refine bodyPost_end (results_none rfl _ _ _) hd ?_;exact⟨_,_,_,rfl,k1,k2,rfl,by unfold K9;rw[if_neg h0]⟩
section
variable [Cl] [Co]
section
variable {P:Program} [A6 P] {id:Nat} {ops:Array Oper} {Fin:S->PH->PH->Prop} {a d:Nat} {kk:List KI} {s:S} {u m:PH}
def Ob.loadO (I:Option Nat)(b off:Nat)(e:Value)(h:Aj P (.reg id ops true [a]::kk,s)=.load (some I) (.pointer (some ⟨b,off,none⟩)))(H:(ops[a]?).bind (·.dst)=some d)(V:Wg I e=true)(R:ElP m b off e)(k:Fin (s.put (some d) (.v e)) u m):Ob P id ops true Fin [a] s u m:=by
 obtain⟨Y,J,L,i',l',Z,a1,o,j,z,T,E,W,F,g,U⟩:=Eq h mV;simp only[A2i,A3g,KI.reg.injEq]at j;obtain⟨⟨⟨rfl,rfl,rfl,rfl,rfl⟩,rfl⟩,rfl⟩:=j;have n:o.dst=some d:=by rw[z]at H;simpa using H
 refine Ob.ask (v:=e) z T E W F (Aby g mV) (fun w hp=>?_) ?_
 ·obtain⟨t,X,j,O,Q⟩:=Ui g;obtain⟨N,a0,K,pos,after,C⟩:=o;simp only at j;subst j;simp[execOp,Instr.loadAt,Instr.sureAddr,O,Kj Q V R ((hp (.inl rfl)).2 (.inl rfl))]
 rw[n];exact .nil k
def Ob.storeO (sz b off:Nat)(t:TypeId)(cs:List Value)(e:Value)(h:Aj P (.reg id ops true [a]::kk,s)=.store (some sz) (.pointer (some ⟨b,off,none⟩)) e)(hd:(ops[a]?).bind (·.dst)=none)(hw:L6 ops a ((ops[a]?.getD default).op)=true)(hb:m b=some (.cells cs.toArray t (0,0)))(ho:∀ x∈cs,Ax x=true)(hl:off+sz<=cs.length)(R:e.cells.size=sz)(O:e.cells.toList.all Ax=true)
 (k:Fin s u (m.upd b (.cells (cs.take off++e.cells.toList++cs.drop (off+sz)).toArray t (0,0)))):Ob P id ops true Fin [a] s u m:=by
 obtain⟨a4,a0,a1,i',l',a5,a7,o,F,C,hg,Q,hv,V,g,a3⟩:=Eq h mV;simp only[A2i,A3g,KI.reg.injEq]at F;obtain⟨⟨⟨rfl,rfl,rfl,rfl,rfl⟩,rfl⟩,rfl⟩:=F;have H:o.dst=none:=by rw[C]at hd;simpa using hd
 have W:(ops[a]?.getD default).op=o.op:=by rw[C];rfl
 rw[W]at hw;refine Ob.big (K:=fun v' u' Z=>u'=u/\Z=m.upd b (.cells (cs.take off++e.cells.toList++cs.drop (off+sz)).toArray t (0,0))) C hg Q hv V (by
  obtain⟨t',X,Y,N,_⟩:=Fq g;rw[N];rfl) (fun v u' Z hK=>.inr (.inr (.inl hw))) (fun w I=>?_) (fun v u' Z a2 hK=>?_)
 ·obtain⟨t',X,Y,F,N,e3,ht⟩:=Fq g;obtain⟨L,a6,J,pos,after,n⟩:=o;simp only at F;subst F;rw[A1o]at O;have U:=I.pm b _ hb;have E:=run_storeCells_at P b off t e.cells.toList 0 cs.toArray w U (by simp[R];omega) (fun x j=>Gl (O x j));simp only[A3s,A3o,R,A3t]at E;have z:∀ x∈(cs.take off++e.cells.toList++cs.drop (off+sz)).toArray.toList,Ax x=true:=by
   intro x j;simp only[A3t,A1h]at j;rcases j with (j|j)|j
   ·exact ho x (A27 j)
   ·exact O x j
   exact ho x (A3x j)
  obtain⟨g1,g2⟩:=I.setM hb z;unfold Eg;have T:(execOp (C2 s) ⟨L,.store t' X Y,J,pos,after,n⟩).run P w=.ok .skip (w.setRow b (cs.take off++e.cells.toList++cs.drop (off+sz)).toArray):=by
   simp only[execOp,N,e3];simp only[A2k]at E⊢;simp[Instr.storeAt,Instr.sureAddr,storeVar,Bf ht,R,E]
  rw[T];exact⟨u,_,g1,g2,rfl,rfl⟩
 obtain⟨rfl,rfl⟩:=hK;rw[H];exact .nil k
end
def Axk {m:PH}{g:Nat}{o:Obj}(h:m g=some o):m.upd g o=m:=by
 funext k
 by_cases e:k=g
 ·subst e;rw[Ab,h]
 rw[Ad _ _ e]
def Ap9 (st:List KI×S)(d0 d1:Nat):Bool:=match st with
 |(.code (.region _ ops true)::_,s)=>Alo ops s [] [0,1,2,3] []&&bef ops ops.size 2 0&&bef ops ops.size 3 0&&bef ops ops.size 3 1&&bef ops ops.size 3 2&&decide ((ops[0]?).bind (·.dst)=some d0/\(ops[1]?).bind (·.dst)=some d1/\(ops[2]?).bind (·.dst)=none/\(ops[3]?).bind (·.dst)=none)&&decide (d0≠d1) &&
  L6 ops 2 ((ops[2]?.getD default).op)&&L6 ops 3 ((ops[3]?.getD default).op)
 |_=>false
def atS (l:List Nat)(st:List KI×S)(f:S->S):List KI×S:=match st with
 |(.code (.region id ops true)::k,s)=>(.reg id ops true l::k,f s)
 |_=>st
section rules
variable {P:Program} [A6 P] {fn:Func} {Post:Ce} {st:List KI×S} {u m:PH}
def G.back2 (d0 E:Nat)(k0 k1:Option Nat)(K H:Nat)(t0 t1:TypeId)(g C:Value)(n0 n1:Nat)(h:Ap9 (adv P st) d0 E=true)
 (H0:∀ x,Aj P (atS [0] (adv P st) (fun s=>s.put (some E) x))=.load (some k0) (.pointer (some ⟨K,0,none⟩))) (W:∀ x,Aj P (atS [1] (adv P st) (fun s=>s.put (some d0) x))=.load (some k1) (.pointer (some ⟨H,0,none⟩)))
 (H2:∀ x,Aj P (atS [2] (adv P st) (fun s=>(s.put (some d0) (.v g)).put (some E) x))=.store (some n0) (.pointer (some ⟨K,0,none⟩)) g) (H3:Aj P (atS [3] (adv P st) (fun s=>(s.put (some d0) (.v g)).put (some E) (.v C)))=.store (some n1) (.pointer (some ⟨H,0,none⟩)) C)
 (a4:Wg k0 g=true) (V:Wg k1 C=true) (N:m K=some (.cells g.cells t0 (0,0))) (J:m H=some (.cells C.cells t1 (0,0))) (a1:g.cells.size=n0) (a2:C.cells.size=n1) (Z:g.cells.toList.all Ax=true) (a0:C.cells.toList.all Ax=true)
 (k:G P fn Post (atS [] (adv P st) (fun s=>(s.put (some d0) (.v g)).put (some E) (.v C))) u m):G P fn Post st u m:=by
 refine G.stp ⟨?_⟩;generalize adv P st=st' at h H0 W H2 H3 k;unfold Ap9 at h;split at h
 ·rename_i id ops kk s;simp only[A1m]at h;obtain⟨⟨⟨⟨⟨⟨⟨⟨h1,X⟩,aa⟩,a6⟩,L⟩,hd⟩,U⟩,w2⟩,w3⟩:=h;obtain⟨Y,T,a7,a8⟩:=of_decide_eq_true hd;have U:=of_decide_eq_true U;simp only[atS]at H0 W H2 H3 k;have I:∀ (b:Nat) (t:TypeId) (e:Value),m b=some (.cells e.cells t (0,0))->ElP m b 0 e:=fun b t e hb i x hi=>⟨_,_,_,hb,by simpa using hi⟩;have Q:∀ e:Value,e.cells.toList.all Ax=true->∀ x∈e.cells.toList,Ax x=true:=fun e h=>by rwa[A1o]at h
  have R:∀ (b:Nat) (t:TypeId) (e:Value) (n:Nat),e.cells.size=n->m b=some (.cells e.cells t (0,0))->m.upd b (.cells (e.cells.toList.take 0++e.cells.toList++e.cells.toList.drop (0+n)).toArray t (0,0))=m:=fun b t e n hn hb=>by
   rw[A2b (by rw[A3o,hn];omega)];simp only[A53,A3q,A1x,A5x];exact Axk hb
  have O:∀ s:S,s=s.put (some E) (s.tm E):=fun s=>S.ext' rfl (funext fun t=>by
   by_cases e:t=E
   ·subst e;rw[Az]
   rw[Ct _ _ _ e]) rfl
  have a5:∀ s:S,s=s.put (some d0) (s.tm d0):=fun s=>S.ext' rfl (funext fun t=>by
   by_cases e:t=d0
   ·subst e;rw[Az]
   rw[Ct _ _ _ e]) rfl
  have pc:∀ (s:S) (x y:SV),(s.put (some E) y).put (some d0) x=(s.put (some d0) x).put (some E) y:=fun s x y=>Afo s y x (fun j hj=>by cases hj;intro e;cases e;exact U rfl);have pp:∀ (s:S) (x y:SV),(s.put (some E) x).put (some E) y=s.put (some E) y:=fun s x y=>S.ext' rfl (funext fun t=>by
   by_cases e:t=E
   ·subst e;rw[Az,Az]
   rw[Ct _ _ _ e,Ct _ _ _ e,Ct _ _ _ e]) rfl
  have ab:∀ (s:S) (x y:SV),(s.put (some d0) x).put (some d0) y=s.put (some d0) y:=fun s x y=>S.ext' rfl (funext fun t=>by
   by_cases e:t=d0
   ·subst e;rw[Az,Az]
   rw[Ct _ _ _ e,Ct _ _ _ e,Ct _ _ _ e]) rfl
  have s2:∀ {Fin:S->PH->PH->Prop} (x:SV),Fin ((s.put (some d0) (.v g)).put (some E) x) u m->Ob P id ops true Fin [2] ((s.put (some d0) (.v g)).put (some E) x) u m:=fun {Fin} x hk =>
   Ob.storeO n0 K 0 t0 g.cells.toList g (H2 x) a7 w2 (by simpa using N) (Q g Z) (by rw[A3o];omega) a1 Z (by rw[R K t0 g n0 a1 N];exact hk)
  have n3:Qh P id ops [] (Hm P fn Post kk) 1 [3] ((s.put (some d0) (.v g)).put (some E) (.v C)) u m:=fun a F _=>by
   simp only[A1g,A11,or_false]at F;subst F;rw[A3a];refine Ob.storeO n1 H 0 t1 C.cells.toList C H3 a8 w3 (by simpa using J) (Q C a0) (by rw[A3o];omega) a2 a0 ?_;rw[R H t1 C n1 a2 J];exact k.out
  have a3:Qh P id ops [] (Hm P fn Post kk) 2 [2,3] ((s.put (some d0) (.v g)).put (some E) (.v C)) u m:=fun a F z=>by
   simp only[A1g,A11,or_false]at F;rcases F with rfl|rfl
   ·rw[A3a];exact s2 _ n3
   have:=z 2 mV fV;rw[L]at this;cases this
  have a9:Qh P id ops [] (Hm P fn Post kk) 2 [1,3] (s.put (some d0) (.v g)) u m:=fun a F z=>by
   simp only[A1g,A11,or_false]at F;rcases F with rfl|rfl
   ·rw[A3a];exact Ob.loadO k1 H 0 C (W _) T V (I H t1 C J) n3
   have:=z 1 mV fV;rw[a6]at this;cases this
  refine Sym.reg_tree A6.mx h1 (.nil ?_);show Qh P id ops [] (Hm P fn Post kk) 4 [0,1,2,3] s u m;intro a F z;simp only[A1g,A11,or_false]at F;rcases F with rfl|rfl|rfl|rfl
  ·rw[show [0,1,2,3].erase 0 = [1,2,3] from rfl,O s];refine Ob.loadO k0 K 0 g (H0 _) Y a4 (I K t0 g N) ?_;rw[<-O s];intro a F z;simp only[A1g,A11,or_false]at F;rcases F with rfl|rfl|rfl
   ·rw[show [1,2,3].erase 1 = [2,3] from rfl];exact Ob.loadO k1 H 0 C (W _) T V (I H t1 C J) a3
   ·rw[show [1,2,3].erase 2 = [1,3] from rfl,O (s.put (some d0) (.v g))];refine s2 _ ?_;rw[<-O (s.put (some d0) (.v g))];exact a9
   have:=z 2 mV fV;rw[L]at this;cases this
  ·rw[show [0,1,2,3].erase 1 = [0,2,3] from rfl,a5 s];refine Ob.loadO k1 H 0 C (W _) T V (I H t1 C J) ?_;rw[<-a5 s];intro a F z;simp only[A1g,A11,or_false]at F;rcases F with rfl|rfl|rfl
   ·rw[show [0,2,3].erase 0 = [2,3] from rfl];refine Ob.loadO k0 K 0 g (H0 _) Y a4 (I K t0 g N) ?_;rw[pc];exact a3
   ·have:=z 0 mV fV;rw[X]at this;cases this
   have:=z 2 mV fV;rw[L]at this;cases this
  ·have:=z 0 mV fV;rw[X]at this;cases this
  have:=z 2 mV fV;rw[L]at this;cases this
 cases h
end rules
end
end Go.Proofs.YtemmheaocgmebaaGreatDoor
