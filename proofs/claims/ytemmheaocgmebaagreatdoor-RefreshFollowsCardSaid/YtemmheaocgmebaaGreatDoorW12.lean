/- Parts of one proof, joined by a program. -/
import Derived.Test.YtemmheaocgmebaaGreatDoorW11
set_option linter.defProp false
set_option linter.unusedVariables false
set_option linter.unusedSimpArgs false
set_option linter.unusedSectionVars false
set_option maxHeartbeats 16000000
namespace Go.Proofs.YtemmheaocgmebaaGreatDoor
open Go.Proofs.Tryz
open Go.RowKit Go.MapKept
def A9h:=@List.map_map
section
variable {a:Act}{d0:Deferred}{dl:List Deferred}{t:Array Value}
section
variable [Fl:Cl] {P:Program} {c:Cx} {s:S} {u m u' m':PH} {ρ:Nat->Nat} {w w':World}
def Rel.grow [Co](j:Rel c s u m ρ a w)(g1:Bv u' m' w')(g2:B0 u m w u' m' w'):Rel c s u' m' ρ a w':=by
 refine⟨j.sz,j.tm,j.df.of fun r e _ J E=>⟨by rw[g2.old _ (Aw e) E];exact e,by rw[g2.us _ (Aw e)];exact J,g2.ms _ (Aw e) E⟩,fun k b I=>?_,j.inj,j.lv,g1,j.gr.trans g2⟩;obtain⟨z,F,H,C⟩:=j.box k b I;have h:ρ k<w.heap.size:=by obtain⟨cs,e,_⟩:=z;exact Aw e
 refine⟨?_,F,?_,?_⟩
 ·rw[g2.old _ h C];exact z
 ·rw[g2.us _ h];exact H
 exact g2.ms _ h C
def Rel.grow0 (e:Rel c s u m ρ a w)(g1:Bv u' m' w')(g2:B0 u m w u' m' w'):Rel c s u' m' ρ a w':=e.grow g1 g2
def Rel.unbase [Bs:Co](e:Rel c s u m ρ { tmps:=t,defers:=d0::dl } w)(H:Bs.dl = [d0])(z:U3 d0=false):@Rel Fl Co.no c s u m ρ { tmps:=t,defers:=dl } w:=by
 refine @Rel.mk Fl Co.no c s u m ρ { tmps:=t,defers:=dl } w e.sz e.tm ?_ e.box e.inj e.lv e.gd e.gr;obtain⟨C,E,j,h,F⟩:=e.df;rw[A6x,if_neg (by simp[z])]at j;rw[A6x,if_pos (by simp[z]),H]at h;exact⟨C,E,j,(List.cons.inj h).2,F⟩
theorem Rel.rebase (e:Rel c s u m ρ { tmps:=t,defers:=dl } w)(E:U3 d0=false):@Rel Fl ⟨[d0]⟩ c s u m ρ { tmps:=t,defers:=d0::dl } w:=by
 refine @Rel.mk Fl ⟨[d0]⟩ c s u m ρ { tmps:=t,defers:=d0::dl } w e.sz e.tm ?_ e.box e.inj e.lv e.gd e.gr;obtain⟨j,z,F,h,C⟩:=e.df;refine⟨j,z,?_,?_,C⟩
 ·grind
 rw[A6x,if_pos (by simp[E]),h];rfl
def Rel.leavesV {fn:Func}{R:Ending->World->Prop}{t:Array Value}:∀ {dl:List Deferred} {w':World},Rel c s u m ρ { tmps:=t,defers:=dl } w' ->
 (∀ e,Rel c s u m ρ { tmps:=t,defers:=[] } e->∃ v,(results fn t).run P e=.ok v e/\R (.returned v) e)->LeavesInM Fence.wide 1 P fn t R dl .returning w'
 |[],w',hr,hv=>by
  obtain⟨v,h,j⟩:=hv w' hr;exact⟨v,h,j⟩
 |d::dl,w',hr,hv=>by
  obtain⟨r,C,h,j,z⟩:=hr.shut (P:=P) hr.marks;exact⟨mV,.inl ⟨r,C,h,j,Rel.leavesV z hv⟩⟩
def Rel.fin0 [A6 P]{fn:Func}{Post:Ce}{l:zV}{e:PH}(h:Rel c s u m ρ a w)(z:T6 P s m fn.results.toList l)(j:PH.le e m)(C:Post.post (Pc l) u e):∃ v,(results fn a.tmps).run P w=.ok v w/\Ady c Post.post (.returned v) w :=
 ⟨_,Qo h z,_,_,_,rfl,(h.less j).gd,(h.less j).gr,C⟩
def Aix (P:Program)(f:FuncId)(args:zV)(u m:PH)(K:PH->PH->Prop):Prop:=∀ w,Bv u m w->CallsDIn Fence.wide 0 P f args.toArray .returning w fun e md w'=>md=.returning/\∃ v u' m',e=.returned v/\Bv u' m' w'/\B0 u m w u' m' w'/\K u' m'
def Rel.leavesD [Bs:Co]{fn:Func}{R:Ending->World->Prop}{t:Array Value}{d0:Deferred}(j:Bs.dl = [d0]){fv:Fn}{cap:Array Value}{f:FuncId}{args:zV}{K:PH->PH->Prop}(I:d0.target=.fn fv cap)
 (hi:∀ w,(invoke d0.target d0.args).run P w=.ok (.enter f args.toArray) w) (F:Aix P f args u m K)
 (H:∀ u' m' w',PH.le u u'->K u' m'->@Rel Fl Co.no c s u' m' ρ { tmps:=t,defers:=[] } w'->∃ v,(results fn t).run P w'=.ok v w'/\R (.returned v) w') :
 ∀ {dl:List Deferred} {w:World},Rel c s u m ρ { tmps:=t,defers:=dl } w->LeavesInM Fence.wide 1 P fn t R dl .returning w
 |[],w,hr=>by
  obtain⟨_,_,_,h,_⟩:=hr.df;rw[j]at h;cases h
 |d::dl,w,hr=>by
  cases hm:U3 d with
  |true =>
   obtain⟨r,w',L,Q,T⟩:=hr.shut (P:=P) hm;exact⟨mV,.inl ⟨r,w',L,Q,Rel.leavesD j I hi F H T⟩⟩
  |false =>
   have U:d=d0:=by
    obtain⟨_,_,_,h,_⟩:=hr.df;rw[A6x,if_pos (by simp[hm]),j]at h;exact (List.cons.inj h).1
   subst U;refine⟨mV,.inr ⟨(fun h=>by cases h),fv,cap,f,args.toArray,I,hi w,fun _ _=>trivial,?_⟩⟩;refine (F w hr.gd).mono ?_;rintro e V w' ⟨rfl,v,u',m',rfl,g1,g2,J⟩;have C:=Rel.grow0 (hr.unbase j hm) g1 g2;exact Rel.leavesV C fun E z=>H u' m' E (g2.le hr.gd.pu) J z
end
section
variable [Fl:Cl] {P:Program} [A6 P] {fn:Func} {Post:Ce} {st:List KI×S} {u m:PH}
def G.retD [Bs:Co]{d0:Deferred}(L:Bs.dl = [d0]){fv:Fn}{cap:Array Value}{f:FuncId}{args:zV}{K:PH->PH->Prop}(U:d0.target=.fn fv cap)
 (hi:∀ w,(invoke d0.target d0.args).run P w=.ok (.enter f args.toArray) w) (h:Akf (adv P st)=true) (Q:Aix P f args u m K)
 (C:∀ u' m',PH.le u u'->K u' m'->∃ l j,T6 P (adv P st).2 m' fn.results.toList l/\PH.le j m'/\Post.post (Pc l) u' j):G P fn Post st u m:=by
 refine G.stp ?_;generalize adv P st=st' at h C;obtain⟨V,s⟩:=st';have key:∀ c ρ a w,Rel c s u m ρ a w->Am4 P fn (Ady c Post.post) .ret a w/\Am4 P fn (Ady c Post.post) .normal a w:=by
  intro c ρ a w e;have:=Rel.leavesD (fn:=fn) (R:=Ady c Post.post) (t:=a.tmps) L U hi Q (fun u' m' w' T J I=>by
   obtain⟨l,j,E,F,H⟩:=C u' m' T J;exact Rel.fin0 (a:=⟨a.tmps,[]⟩) I E F H) (dl:=a.defers) e
  exact⟨this,this⟩
 unfold Akf at h;simp only at h;split at h
 ·refine⟨?_⟩;intro c ρ a w z e;exact wp_ret (J6 (key c ρ a w e).1 _)
 ·refine⟨?_⟩;intro c ρ a w z e;exact (key c ρ a w e).2
 cases h
end
def Azk (s:S)(l:List KI):Option (Nat×Fn×zV):=match l with
 |.code (.region _ ops false)::_=>match ops.toList with
  |[⟨some d,.makeFunc fn first caps,_,_,_,none⟩,⟨none,.defer c,_,_,_,none⟩]=>match c.callee with
   |.value (.tmp e)=>cond (Nat.beq d e&&Nat.beq first.size 0&&Nat.beq c.args.size 0&&Nat.blt d s.n&&caps.toList.all fun x=>isV (s.ev x)) (some (d,fn,caps.toList.map (C2 s))) none
   |_=>none
  |_=>none
 |_=>none
def Ax3 (l:List KI):List KI:=match l with|_::k=>k|[]=>[]
def Zs (fn:Fn)(vs:zV):Deferred:={ target:=.fn fn vs.toArray,args:=#[] }
section
variable [Fl:Cl] {P:Program} [A6 P] {fnc:Func} {Post:Ce} {st:List KI×S} {u m:PH}
def Axj:List KI->Bool
 |[]=>true
 |.lp _::_=>false
 |_::k=>Axj k
def O6 (e j:Co)(c:Cx):∀ z:List KI,Axj z=true->@It Fl e P fnc Post c z=@It Fl j P fnc Post c z
 |[],_=>rfl
 |.code x::k,h=>by simp only[It];rw[O6 e j c k h]
 |.blk id::k,h=>by simp only[It];rw[O6 e j c k h]
 |.reg _ _ _ _::k,h=>by simp only[It];rw[O6 e j c k h]
 |.lp _::_,h=>by cases h
def G.outC [Bs:Co]{e:List KI}{s:S}(h:G P fnc Post (e,s) u m)(j:F2 e=true):Hm P fnc Post e s u m:=by
 have:=h.out;rwa[Sym.ofNo j]at this
def G.go (n:Nat)(k:G P fnc Post (run P n st) u m):G P fnc Post st u m:=⟨Tp A6.mx n st k.out⟩
theorem G.off {d:Nat}{fn:Fn}{vs:zV}(h:Azk st.2 st.1=some (d,fn,vs))(Z:F2 (Ax3 st.1)=true)(H:Axj (Ax3 st.1)=true)(k:@G Fl Pu.no ⟨[Zs fn vs]⟩ P fnc Post (Ax3 st.1,st.2.put (some d) (.v (.func fn #[] vs.toArray))) u m):G P fnc Post st u m:=by
 obtain⟨ks,s⟩:=st;unfold Azk at h;simp only at h;split at h
 ·rename_i id ops kk;split at h
  ·rename_i d' fn' first caps ty pos af c ty2 pos2 af2 hops
   split at h
   ·rename_i e hc;cases hb:(Nat.beq d' e&&Nat.beq first.size 0&&Nat.beq c.args.size 0&&Nat.blt d' s.n&&caps.toList.all fun x=>isV (s.ev x)) with
    |false=>grind
    |true =>
     rw[hb]at h;simp only[cond_true,A1f,A2i]at h;obtain⟨rfl,rfl,rfl⟩:=h;simp only[A1m]at hb;obtain⟨⟨⟨⟨C,Q⟩,E⟩,R⟩,T⟩:=hb;have C:=A1y C;subst C;have Q:first = #[]:=A4s (A1y Q)
     have E:c.args = #[]:=A4s (A1y E);have R:d' < s.n:=by simp_all
     rw[A1o]at T;have Y:=G.outC (Bs:=⟨[Zs fn' (caps.toList.map (C2 s))]⟩) k Z;refine⟨?_⟩;intro L ρ a w I U;refine wp_region ?_;have ho:ops = #[⟨some d',.makeFunc fn' #[] caps,ty,pos,af,none⟩,⟨none,.defer c,ty2,pos2,af2,none⟩]:=by grind
     subst ho;have F:caps.map a.eval=(caps.toList.map (C2 s)).toArray:=by
      apply A6j;simp only[Array.toList_map];refine A41 fun x hx=>?_;have z:=T x hx;unfold C2;cases e:s.ev x with
      |v y=>rw[U.eval x (by rw[e];simp),e];rfl
      |junk=>rw[e]at z;cases z
      |p i o=>rw[e]at z;cases z
     have j:=Rel.put (x:=.v (.func fn' #[] (caps.toList.map (C2 s)).toArray)) (d:=some d') (y:=.func fn' #[] (caps.toList.map (C2 s)).toArray) U (fun _=>rfl) mV (fun e X=>by cases X;exact R);have V:(execOp a.eval ⟨some d',.makeFunc fn' #[] caps,ty,pos,af,none⟩).run P w=.ok (.value (.func fn' #[] (caps.toList.map (C2 s)).toArray)) w:=by
      have:(execOp a.eval ⟨some d',.makeFunc fn' #[] caps,ty,pos,af,none⟩).run P w=.ok (.value (.func fn' #[] (caps.map a.eval))) w:=by
       have J:∀ (fn:Fn) (first cap:Array Value) (w:World),(Instr.makeFunc fn first cap).run P w=.ok (.func fn first cap) w:=fun _ _ _ _=>rfl
       simp[execOp,J]
      rw[this,F]
     have W:(execOp (a.put (some d') (.func fn' #[] (caps.toList.map (C2 s)).toArray)).eval ⟨none,.defer c,ty2,pos2,af2,none⟩).run P w=.ok (.defer (Zs fn' (caps.toList.map (C2 s)))) w:=by
      have z:=j.eval (.tmp d') (by show (s.put (some d') _).tm d'≠_;rw[Az];simp);rw[show (s.put (some d') (.v (.func fn' #[] (caps.toList.map (C2 s)).toArray))).ev (.tmp d')=.v (.func fn' #[] (caps.toList.map (C2 s)).toArray) from Az _ _ _]at z;simp[execOp,resolve,hc,z,E,SV.den,Deferred.ofValue,Zs]
     have K:=Rel.rebase (t:=(a.put (some d') (.func fn' #[] (caps.toList.map (C2 s)).toArray)).tmps) (dl:=(a.put (some d') (.func fn' #[] (caps.toList.map (C2 s)).toArray)).defers) j (d0:=Zs fn' (caps.toList.map (C2 s))) rfl;refine .inl ?_;show Oper.upon P ⟨some d',.makeFunc fn' #[] caps,ty,pos,af,none⟩ a _ _ ((execOp a.eval ⟨some d',.makeFunc fn' #[] caps,ty,pos,af,none⟩).run P w);rw[V,Oper.upon_value];refine .inl ?_;show Oper.upon P ⟨none,.defer c,ty2,pos2,af2,none⟩ (a.put (some d') (.func fn' #[] (caps.toList.map (C2 s)).toArray)) _ _ ((execOp (a.put (some d') (.func fn' #[] (caps.toList.map (C2 s)).toArray)).eval ⟨none,.defer c,ty2,pos2,af2,none⟩).run P w);rw[W,Oper.upon_defer];have:=Y L ρ _ w I K;rw[O6 _ Co.no L _ H]at this;exact this
   cases h
  cases h
 cases h
end
end
section
variable {E c c' i k n n' w:Nat}{R Y q:List Int}{X:List (List Int)}{a a':zP}{cs es:zV}{o p s:Arr}{r:Value×zV}{rows:List (Value×zV)}{u:PH}{v:Value}
def C3 (r:Value×zV):Arr:=⟨r.1,141,2,r.2⟩
def oN (v:Value)(rows:List (Value×zV)):Arr:=⟨v,190,1,rows.map (·.1)⟩
def Ack {m0 m:PH}:(C3 r).At m0 m=Af m0 m r.1 141 2 r.2:=rfl
def Akm {m0 m:PH}:(oN v rows).At m0 m=Af m0 m v 190 1 (rows.map (·.1)):=rfl
def Aq8 {x:Value}{es es':zV}(h:rows[i]?=some (x,es)):oN v (rows.set i (x,es'))=oN v rows:=by
 unfold oN;rw[Un (r':=(x,es')) h rfl]
def F8 (h:rows[i]?=some r):(s::p::o::rows.map C3)[i+3]?=some (C3 r):=by simp[h]
def Afy :(s::p::o::rows.map C3).set (i+3) (C3 r)=s::p::o::(rows.set i r).map C3:=by
 rw[A2j,A2j,A2j,A2g]
structure N3 where
 b:Bool
 a:zP
 n:Nat
 c:Nat
def nv (f:N3):Value:=.agg #[.bool f.b,.slice f.a f.n f.c]
def Age (f:N3):List SV:=[.v (.bool f.b),.v (.slice f.a f.n f.c)]
def Bi.opN {z:Int}(h:Bi u v z):∃ f,v=nv f:=by
 obtain⟨b,a,n,c,rfl⟩:=h.opn;exact⟨⟨b,a,n,c⟩,rfl⟩
def NAt (u:PH)(rows:List (Value×zV))(X:List (List Int)):Prop:=rows.length=X.length/\∀ (i:Nat) (r:Value×zV),rows[i]?=some r->AtP Bi u r.2 (gMZ X i)
def NAt.mono {u e:PH}{rows:List (Value×zV)}{X:List (List Int)}(h:NAt u rows X)(j:PH.le u e):NAt e rows X:=⟨h.1,fun i r t=>(h.2 i r t).mono (fun _ _ k=>k.mono j)⟩
def NAt.set (h:NAt u rows X)(hi:i<rows.length)(z:AtP Bi u r.2 q):NAt u (rows.set i r) (X.set i q):=by
 refine⟨by simp[h.1],fun j r' t=>?_⟩;rw[Kv (by rw[<-h.1];exact hi)];rw[A1z]at t;by_cases e:i=j
 ·subst e;rw[if_pos rfl,if_pos hi]at t;simp only[A1f]at t;rw[if_pos rfl,<-t];exact z
 rw[if_neg e]at t⊢;exact h.2 j r' t
theorem Ara (i:Nat):gMZ (X++[q]) i=if i<X.length then gMZ X i else if i=X.length then q else []:=by
 unfold gMZ;rw[A02,A02];by_cases h:i<X.length
 ·rw[A1r h,if_pos h]
 ·rw[if_neg h];by_cases e:i=X.length
  ·subst e;rw[if_pos rfl];simp
  ·rw[if_neg e,A1v gV];rfl
def NAt.snoc (h:NAt u rows X)(j:AtP Bi u r.2 q):NAt u (rows++[r]) (X++[q]):=by
 refine⟨by simp[h.1],fun i r' hi=>?_⟩;rw[Ara];by_cases e:i<rows.length
 ·rw[A1r e]at hi;rw[if_pos (by rw[<-h.1];exact e)];exact h.2 i r' hi
 rw[A18 oV]at hi;have t:i-rows.length=0:=by
  rcases A2a (i-rows.length) with h0|h0
  ·exact h0
  rw[A1v gV]at hi;cases hi
 rw[t]at hi;simp at hi;subst hi;rw[if_neg (by rw[<-h.1];omega),if_pos (by rw[<-h.1];omega)];exact j
def E9 (rv pv:Value)(f:N3)(odd:Bool):zV:=[rv,pv,.bool f.b,.slice f.a f.n f.c,.bool odd]
def Jv (g:Nat)(cs:zV):Arr:=⟨.slice (zA g) 5 5,192,1,cs⟩
def V3 {g:Nat}{m0 m:PH}:(Jv g cs).At m0 m=Af m0 m (.slice (zA g) 5 5) 192 1 cs:=rfl
def Ap1 (h:∀ x∈es,Ax x=true/\x.cells = #[x]):A9 1 es:=fun x z=>by
 obtain⟨j,t⟩:=h x z;rw[t];exact⟨rfl,fun y e=>by simp at e;subst e;exact j⟩
def Akd {f:N3}{odd:Bool}:A9 1 (E9 (.slice a n c) (.slice a' n' c') f odd):=Ap1 (by
 intro x e;simp only[E9,A1g,A11,or_false]at e;rcases e with rfl|rfl|rfl|rfl|rfl<;>exact⟨rfl,rfl⟩)
def Lz (h:∀ x∈es,x.cells = #[x]):A2 es=es:=by
 induction es with
 |nil=>rfl
 |cons e es ih =>
  unfold A2 at ih⊢;rw[A6o,ih (fun x j=>h x (A2f _ j)),h e mV];rfl
def Sa {f:N3}{odd:Bool}:∀ x∈E9 (.slice a n c) (.slice a' n' c') f odd,x.cells = #[x]:=by
 intro x e;simp only[E9,A1g,A11,or_false]at e;rcases e with rfl|rfl|rfl|rfl|rfl<;>rfl
def Ae9 {m:PH}{g:Nat}{f:N3}{odd:Bool}(e:m g=none):(Jv g (E9 (.slice a n c) (.slice a' n' c') f odd)).At m (m.upd g (.cells (E9 (.slice a n c) (.slice a' n' c') f odd).toArray 192 (0,0))):=by
 rw[V3];refine⟨Akd,.inr ⟨g,5,[],e,?_,rfl,by simp[E9],by rw[Lz Sa];simp[E9],mV⟩⟩;rw[Lz Sa,A1x]
def Aqq {m0 m:PH}{g:Nat}(h:(Jv g cs).At m0 m)(C:∀ x∈cs,x.cells = #[x])(I:cs.length=5):m0 g=none/\m=m0.upd g (.cells cs.toArray 192 (0,0)):=by
 rw[V3]at h;rcases h.2 with ⟨h,_,_⟩|⟨H,cap,rest,z,e,j,F,t,_⟩
 ·cases h
 simp only[Value.slice.injEq,A1f,Addr.mk.injEq]at j;obtain⟨⟨rfl,_,_⟩,_,rfl⟩:=j;rw[Lz C]at e t;have:rest = []:=by
  refine A2l ?_;rw[A1d]at t;omega
 subst this;rw[A1x]at e;exact⟨z,e⟩
section
variable {m:PH} {g:Nat} {l:List Arr} {rv pv:Value} {f:N3} {odd:Bool}
def Ev (h:Bag m (Jv g (E9 rv pv f odd)::l)):ElP m g (0+0) rv:=h.el (j:=0) 0 (x:=Jv g (E9 rv pv f odd)) rfl rfl rfl
def Ab4 (h:Bag m (Jv g (E9 rv pv f odd)::l)):ElP m g (0+1) pv:=h.el (j:=1) 0 (x:=Jv g (E9 rv pv f odd)) rfl rfl rfl
def Ak7 (h:Bag m (Jv g (E9 rv pv f odd)::l)):ElP m g (0+4) (.bool odd):=h.el (j:=4) 0 (x:=Jv g (E9 rv pv f odd)) rfl rfl rfl
def Al1 (h:Bag m (Jv g (E9 rv pv f odd)::l)):ElP m g (0+2) (nv f):=by
 have e:ElP m g (0+2*1) (.bool f.b):=h.el (j:=2) 0 (x:=Jv g (E9 rv pv f odd)) rfl rfl rfl;have t:ElP m g (0+3*1) (.slice f.a f.n f.c):=h.el (j:=3) 0 (x:=Jv g (E9 rv pv f odd)) rfl rfl rfl;intro i x hi
 match i,hi with
 |0,hi=>exact e 0 x hi
 |1,hi=>exact t 0 x hi
end
def Ur {u m:PH}{g n c w i:Nat}(z:Bag m (s::p::oN (.slice (zA g) n c) rows::rows.map C3))(Q:NAt u rows X)(L:E8 n w X)(hi:i<n)(W:0<w) :
 ∃ H J F,rows[i]?=some (.slice (zA H) w J,F)/\F.length=w/\AtP Bi u F (gMZ X i)/\ElP m g (0+i*1) (.slice (zA H) w J)/\∀ j,j<w->∃ f,F[j]?=some (nv f)/\Bi u (nv f) (enZ X i j)/\ElP m H (0+j*2) (nv f):=by
 have V:rows.length=n:=by rw[Q.1,L.1]
 have h:rows[i]?=some rows[i]:=A01 oV;have t:=Q.2 i _ h;obtain⟨⟨Z,F⟩,T⟩:∃ x,rows[i]=x:=⟨_,rfl⟩;rw[T]at h t;simp only at t;have C:F.length=w:=by rw[t.1,L.2 i hi]
 obtain⟨H,J,e⟩:=z.ptr (i+3) (F8 h) (by intro e;simp only[C3]at e;rw[e]at C;simp at C;omega);simp only[C3]at e;rw[C]at e;subst e;refine⟨H,J,F,h,C,t,z.el 2 (x:=oN _ rows) rfl rfl (by show (rows.map (·.1))[i]?=_;rw[A1a,h];rfl),fun j U=>?_⟩;have I:j<(gMZ X i).length:=by rw[L.2 i hi];exact U
 obtain⟨e,P,K⟩:=t.at I;obtain⟨f,rfl⟩:=K.opN;rw[<-Ol I]at K;exact⟨f,P,K,z.el (i+3) (x:=C3 _) (F8 h) rfl P⟩
def Vp (Y R:List Int)(k:Nat):List Int:=Y.take k++R.drop k
def Amf (Y R:List Int):Vp Y R 0=R:=by simp[Vp]
def Asz (h:Y.length=k)(e:R.length=k):Vp Y R k=Y:=by
 unfold Vp;rw[A1j oV,A2b oV,A1x]
def Ape (h:Y.length=R.length)(e:k<=R.length):(Vp Y R k).length=R.length:=by simp[Vp];omega
def Aov (h:Y.length=R.length)(e:k<R.length):(Vp Y R k).set k (gZ Y k)=Vp Y R (k+1):=by
 unfold Vp;rw[A4t _ _ gV];simp only[A1e];rw[show k-min k Y.length=0 by omega,A5z e,A2p,M2 oV,A2k,Ol oV];rfl
def Atr (h:Y.length=R.length)(e:k<R.length):gZ (Vp Y R k) k=gZ R k:=by
 unfold Vp gZ;rw[A02,A18 gV,A02];simp only[A1e];rw[show k-min k Y.length=0 by omega,A39];rfl
def SzZ (X:List (List Int))(E:Nat):Prop:=∀ i j,nl (enZ X i j).natAbs<=E
def SzZ.mono {E e:Nat}(h:SzZ X E)(t:E<=e):SzZ X e:=fun i j=>A04 (h i j) t
def Vw {v a g x y:Int}(t:nl a.natAbs<=E)(z:nl g.natAbs<=E)(C:nl x.natAbs<=E)(F:nl y.natAbs<=E):nl (x*a).natAbs<=2*E/\nl (g*y).natAbs<=2*E/\nl (x*a-g*y).natAbs<=2*E+1/\nl ((x*a-g*y)/v).natAbs<=2*E+1:=by
 have e:=Bx C t;have h:=Bx z F;have j:=Ab3 e h;exact⟨e,h,j,A04 (C4 (Int.natAbs_ediv_le_natAbs _ _)) j⟩
def SzZ.swap {n w p r E:Nat}(h:SzZ X E)(e:E8 n w X)(hp:p<n)(t:r<n):SzZ (Kw X p r) E:=fun i j=>by
 unfold enZ;rw[Wz e hp t];split
 ·exact h p j
 split
 ·exact h r j
 exact h i j
def SzZ.row {n w r c i E:Nat}{v:Int}(h:SzZ X E)(e:E8 n w X)(t:r<n)(hi:i<n)(j:Nat):nl (gZ (Qx v (enZ X r c) (enZ X i c) (gMZ X r) (gMZ X i)) j).natAbs<=2*E+1:=by
 rw[Acv _ _ _ _ _ (by rw[e.2 r t,e.2 i hi])];exact (Vw (h r c) (h i c) (h i j) (h r j)).2.2.2
def SzZ.clr {n w r c E:Nat}{v:Int}(h:SzZ X E)(e:E8 n w X)(t:r<n):SzZ (Ov r c v n 0 X) (2*E+1):=fun i j=>by
 unfold enZ;rw[Ry t n 0 X oV e];split
 ·rename_i h1;exact h.row e t oV j
 exact A04 (h i j) oV
def Al2 {s:BZ}(h:SzZ s.X E)(H:nl s.v.natAbs<=E)(t:E8 n w s.X)(F:s.P.length<=n):SzZ (I0 n c s).X (2*E+1)/\nl (I0 n c s).v.natAbs<=2*E+1/\E8 n w (I0 n c s).X/\(I0 n c s).P.length<=n/\(s.v≠0->(I0 n c s).v≠0):=by
 obtain⟨J,K⟩:=Ac3 s.X c (n-s.P.length) s.P.length;have I:=Ade s.X c (n-s.P.length) s.P.length;unfold I0;generalize Iy s.X c (n-s.P.length) s.P.length=p at *
 split
 ·exact⟨h.mono oV,A04 H oV,t,F,id⟩
 rename_i e;have hp:p<n:=oV;have z:s.P.length<n:=oV;have j:E8 n w (if p=s.P.length then s.X else Kw s.X p s.P.length):=by
  split
  ·exact t
  exact Uh t hp z
 have C:SzZ (if p=s.P.length then s.X else Kw s.X p s.P.length) E:=by
  split
  ·exact h
  exact h.swap t hp z
 exact⟨C.clr j z,A04 (h p c) oV,Wu z n 0 _ oV j,gV,fun _=>I oV⟩
end
structure E3 where
 rows:List (Value×zV)
 X:List (List Int)
 odd:Bool
def Awx {z:Int}:sgn z=0↔z=0:=by unfold sgn;split<;>(try split)<;>omega
def Ax8 {u m:PH}{g go H n w c E:Nat}{t:List (Value×zV)}{K:List (List Int)}{P:zK}{pa:zP}{pc:Nat}{f0:N3}{z:Bool}{v:Int}
 (V:E8 n w K) (hn:n<=100) (hw:w<=100) (hc:c<w) (hP:P.length<=n) (h0:0<n) (a3:SzZ K E) (hv:Bi u (nv f0) v) (d6:nl v.natAbs<=E) (d4:v≠0) (hE:E<=1000000000) (b0:NAt u t K)
 (h:Bag m (Jv g (E9 (.slice (zA go) n H) (.slice pa P.length pc) f0 z)::Np (.slice pa P.length pc) P::oN (.slice (zA go) n H) t::t.map C3)) :
 Ag prog 194 [.pointer (zA g),zI c] u m fun r u' m'=>r=.tuple #[]/\∃ ch cj f' a2,NAt u' a2 (I0 n c ⟨K,P,v,z⟩).X/\Bi u' (nv f') (I0 n c ⟨K,P,v,z⟩).v /\
  Bag m' (Jv g (E9 (.slice (zA go) n H) (.slice ch (I0 n c ⟨K,P,v,z⟩).P.length cj) f' (I0 n c ⟨K,P,v,z⟩).odd)::Np (.slice ch (I0 n c ⟨K,P,v,z⟩).P.length cj) (I0 n c ⟨K,P,v,z⟩).P::oN (.slice (zA go) n H) a2::a2.map C3):=by
 have ag:0<w:=oV;refine Ag.o func194<|G.f 192 g 0 1 1<|G.v none (Ab4 h)<|G.l (ι:=Nat) (fun p=>[(0,.v (.pointer (zA g))),(1,iV c),(4,iV P.length),(5,iV p)]) (fun _=>[])
  (fun p u' m'=>P.length<=p/\p<=n/\Iy K c (n-p) p=Iy K c (n-P.length) P.length/\m'=m) (fun p=>n-p) P.length ⟨A08 _,hP,rfl,rfl⟩ ?_
 rintro J2 p bj u3 m3 l3 ⟨dr,ds,a7,rfl⟩;have J:=b0.mono l3;refine G.f 192 g 0 0 0<|G.v none (Ev h) ?_;by_cases Y:n<=p
 ·obtain rfl:p=n:=oV;refine G.lF p p<|G.f 192 g 0 0 0<|G.v none (Ev h)<|G.hT p p ?_;have e:I0 p c ⟨K,P,v,z⟩=⟨K,P,v,z⟩:=by
   unfold I0;rw[if_pos];show Iy K c (p-P.length) P.length=p;rw[<-a7,A4i];rfl
  refine G.r (.tuple #[]) ?_;rw[e];exact⟨rfl,pa,pc,f0,t,J,hv.mono l3,h⟩
 have Y:p<n:=oV;refine G.lT p n ?_;obtain⟨K2,bl⟩:∃ K2,n-p=K2+1:=⟨n-p-1,oV⟩;obtain⟨gp,cp,ep,c0,d2,bi,ab,bu⟩:=Ur h J V Y ag;obtain⟨fp,d1,bw,bx⟩:=bu c hc;refine G.f 192 g 0 0 0<|G.v none (Ev h)<|G.O n H Y ab<|G.O w cp hc bx<|G.c call195 (N1 bw (A04 (a3 p c) oV)) ?_;rintro v4 u4 l4 rfl;by_cases hz:enZ K p c=0
 ·refine G.eT' (sgn (enZ K p c)) 0 (Awx.2 hz)<|G.i p<|G.b (bj (p+1) _ _ _ cV (l3.trans l4) ⟨oV,oV,?_,rfl⟩ oV);rw[<-a7,bl,Iy,if_pos hz,show n-(p+1)=K2 by omega]
 refine G.eF' (sgn (enZ K p c)) 0 (fun e=>hz (Awx.1 e)) ?_;rw[bl,Iy,if_neg hz]at a7;clear bj;have Q:P.length<n:=oV;refine G.f 192 g 0 0 0<|G.v none (Ev h)<|G.hF p n<|G.join (ι:=E3) zL (fun i=>[(0,.v (.pointer (zA g))),(1,iV c),(4,iV P.length)]) (fun i=>[])
  (fun i u' m'=>i.X=(if p=P.length then K else Kw K p P.length)/\i.odd=(if p=P.length then z else !z)/\NAt u' i.rows i.X/\Bag m' (Jv g (E9 (.slice (zA go) n H) (.slice pa P.length pc) f0 i.odd)::Np (.slice pa P.length pc) P::oN (.slice (zA go) n H) i.rows::i.rows.map C3)) (fun _=>kV) kV ?tail ?way
 case way =>
  intro aa;by_cases ao:p=P.length
  ·refine G.nF p P.length ?_;exact aa ⟨t,K,z⟩ _ _ _ kV cV (PH.le_refl _) ⟨by rw[if_pos ao],by rw[if_pos ao],J.mono l4,h⟩
  refine G.nT p P.length ?_;obtain⟨gr,cr,er,bd,av,ax,an,b3⟩:=Ur h J V Q ag;refine G.f 192 g 0 0 0<|G.v none (Ev h)<|G.f 192 g 0 0 0<|G.v none (Ev h)<|G.f 192 g 0 0 0<|G.v none (Ev h)<|G.O n H Q an<|G.f 192 g 0 0 0<|G.v none (Ev h)<|G.O n H Y ab ?_;obtain⟨m0,ah,ac⟩:=h.focus 2 rfl;rw[Akm]at ah;have df:t.length=n:=by rw[b0.1,V.1]
  refine G.a go 0 n H p 1 Y<|G.storeA 1 m0 _ go n H p (.slice (zA gr) w cr) kV ah gV rfl rfl ?_;intro m5 d8;refine G.a go 0 n H P.length 1 Q<|G.storeA 1 m0 _ go n H P.length (.slice (zA gp) w cp) kV d8 gV rfl rfl ?_;intro m6 c7;have bb:((t.map (·.1)).set p (Value.slice (zA gr) w cr)).set P.length (Value.slice (zA gp) w cp)=((t.set p (Value.slice (zA gr) w cr,er)).set P.length (Value.slice (zA gp) w cp,ep)).map (·.1):=by rw[A2g,A2g]
  rw[bb]at c7;have cq:=ac (oN (.slice (zA go) n H) ((t.set p (Value.slice (zA gr) w cr,er)).set P.length (Value.slice (zA gp) w cp,ep))) m6 c7;have b6:((t.set p (Value.slice (zA gr) w cr,er)).set P.length (Value.slice (zA gp) w cp,ep)).Perm t:=by
   obtain⟨q1,q2⟩:=A05.1 c0;obtain⟨q3,q4⟩:=A05.1 bd;rw[<-q2,<-q4];exact List.set_set_perm q1 q3
  have bs:=Bag.perm (List.Perm.cons _ (List.Perm.cons _ (List.Perm.cons _ (b6.symm.map C3)))) cq;have a0:=(J.set (i:=p) (r:=(Value.slice (zA gr) w cr,er)) oV ax).set (i:=P.length) (r:=(Value.slice (zA gp) w cp,ep)) gV bi;refine G.f 192 g 0 3 4<|G.v none (Ak7 bs)<|G.f 192 g 0 3 4 ?_;obtain⟨m7,c8,ba⟩:=bs.focus 0 rfl;rw[V3]at c8;refine G.storeA 1 m7 _ g 5 5 4 (.bool !z) kV c8 (by simp[E9]) rfl rfl ?_;intro m8 d9;have ct:=ba (Jv g (E9 (.slice (zA go) n H) (.slice pa P.length pc) f0 (!z))) m8 d9;exact aa ⟨(t.set p (Value.slice (zA gr) w cr,er)).set P.length (Value.slice (zA gp) w cp,ep),Kw K p P.length,!z⟩ _ _ _ kV cV (PH.le_refl _) ⟨by rw[if_neg ao],by rw[if_neg ao],a0.mono l4,ct⟩
 rintro⟨rows1,X1,odd1⟩ u5 m5 l5 ⟨hX1e,hod,a0,hbag1⟩;simp only at hX1e hod a0 hbag1;have al:E8 n w X1:=by
  rw[hX1e];split
  ·exact V
  exact Uh V Y Q
 have af:SzZ X1 E:=by
  rw[hX1e];split
  ·exact a3
  exact a3.swap V Y Q
 have bo:enZ X1 P.length c=enZ K p c:=by
  rw[hX1e];split
  ·rename_i e;rw[e]
  unfold enZ;rw[Wz V Y Q,if_pos rfl]
 have ae:I0 n c ⟨K,P,v,z⟩=⟨Ov P.length c v n 0 X1,P++[c],enZ X1 P.length c,odd1⟩:=by
  unfold I0;rw[if_neg (by show ¬ Iy K c (n-P.length) P.length=n;rw[<-a7];omega),bo,hod,hX1e];show BZ.mk _ _ _ _=_;simp only[<-a7]
 rw[ae];clear ae hX1e h b0 J c0 d2 bi ab bu d1 bw bx a7 a3 V;have d5:=hv.mono ((l3.trans l4).trans l5);have du:rows1.length=n:=by rw[a0.1,al.1]
 obtain⟨gr,cr,er,bd,av,ax,an,b3⟩:=Ur hbag1 a0 al Q ag;obtain⟨fr,h5,h6,h7⟩:=b3 c hc;obtain⟨R,hR⟩:∃ R,R=gMZ X1 P.length:=⟨_,rfl⟩;have dl:R.length=w:=by rw[hR];exact al.2 _ Q
 obtain⟨F,hF⟩:∃ F,F=enZ X1 P.length c:=⟨_,rfl⟩;have ay:nl F.natAbs<=E:=by rw[hF];exact af _ _
 have b1:∀ j,nl (gZ R j).natAbs<=E:=fun j=>by rw[hR];exact af _ j
 rw[<-hF]at h6⊢;have cm:gZ R c=F:=by rw[hR,hF];rfl
 refine G.f 192 g 0 0 0<|G.v none (Ev hbag1)<|G.O n H Q an<|G.O w cr hc h7<|G.f 192 g 0 0 0<|G.v none (Ev hbag1)<|G.l (ι:=Nat×List (Value×zV)×List (List Int)) (fun i=>[(0,.v (.pointer (zA g))),(1,iV c),(4,iV P.length),(6,.p 8010 0),(97,sV (zA go) n H),(98,iV n),(99,iV i.1)]) (fun i=>[(8010,⟨141,Age fr⟩)])
  (fun i u' m'=>i.1<=n/\Ov P.length c v (n-i.1) i.1 i.2.2=Ov P.length c v n 0 X1/\E8 n w i.2.2/\gMZ i.2.2 P.length=R/\(∀ x j,i.1<=x->nl (enZ i.2.2 x j).natAbs<=E)/\NAt u' i.2.1 i.2.2 /\
   Bag m' (Jv g (E9 (.slice (zA go) n H) (.slice pa P.length pc) f0 odd1)::Np (.slice pa P.length pc) P::oN (.slice (zA go) n H) i.2.1::i.2.1.map C3))
  (fun i=>n-i.1) (0,rows1,X1) ⟨A1t _,rfl,al,hR.symm,fun x j _=>af x j,a0,hbag1⟩ ?_
 clear a0 hbag1 bd av ax an b3 h5 h7;rintro J4 ⟨i,C,X3⟩ az u8 m8 l8 ⟨hi,a9,W,T,Z,J,I⟩;simp only at hi a9 W T Z J I az;have d3:C.length=n:=by rw[J.1,W.1]
 by_cases a6:i<n
 ·refine G.lT i n ?_;obtain⟨K3,bm⟩:∃ K3,n-i=K3+1:=⟨n-i-1,oV⟩;obtain⟨gi,ci,ei,bz,cx,bh,d0,cu⟩:=Ur I J W a6 ag;refine G.O n H a6 d0 ?_;by_cases am:i=P.length
  ·refine G.eT i P.length<|G.i i<|G.b (az (i+1,C,X3) _ _ _ cV l8 ⟨dV,?_,W,T,fun x j h1=>Z x j (by dsimp only at h1;omega),J,I⟩ dV);dsimp only;rw[<-a9,bm,Ov,if_pos am,show n-(i+1)=K3 by omega]
  refine G.eF i P.length ?_;obtain⟨fg,g5,g6,g7⟩:=cu c hc;have b5:=Z i c (A08 _);refine G.O w ci hc g7 ?_;obtain⟨S,hS⟩:∃ S,S=gMZ X3 i:=⟨_,rfl⟩;have bn:S.length=w:=by rw[hS];exact W.2 i a6
  have b2:∀ j,nl (gZ S j).natAbs<=E:=fun j=>by rw[hS];exact Z i j (A08 _)
  have cl:enZ X3 P.length c=F:=by unfold enZ;rw[T];exact cm
  have bt:Ov P.length c v (n-(i+1)) (i+1) (X3.set i (Qx v F (enZ X3 i c) R S))=Ov P.length c v n 0 X1:=by
   rw[<-a9,bm,Ov,if_neg am,show n-(i+1)=K3 by omega,hS,T,cl]
  generalize hg:enZ X3 i c=gg at *
  rw[<-hS]at bh;have be:=S2 v F gg R S;have dm:∀ j,nl (gZ (Qx v F gg R S) j).natAbs<=2*E+1:=fun j=>by
   rw[Acv _ _ _ _ _ oV];exact (Vw ay b5 (b2 j) (b1 j)).2.2.2
  obtain⟨gs,cs,bg,c1,dg,dk,dq,cv⟩:=Ur I J W Q ag;refine G.l (ι:=Nat×zV) (fun y=>[(0,.v (.pointer (zA g))),(1,iV c),(4,iV P.length),(6,.p 8010 0),(97,sV (zA go) n H),(98,iV n),(99,iV i),(8,sV (zA gi) w ci),(9,.p 13004 0),(112,iV w),(113,iV y.1)]) (fun y=>[(8010,⟨141,Age fr⟩),(13004,⟨141,Age fg⟩)])
   (fun y u' m'=>y.1<=w/\AtP Bi u' y.2 (Vp (Qx v F gg R S) S y.1)/\Bag m' (Jv g (E9 (.slice (zA go) n H) (.slice pa P.length pc) f0 odd1)::Np (.slice pa P.length pc) P::oN (.slice (zA go) n H) C::(C.set i ((Value.slice (zA gi) w ci),y.2)).map C3)) (fun y=>w-y.1) (0,ei)
   ⟨A1t _,by rw[Amf];exact bh,by rw[Ny bz];exact I⟩ ?_
  rintro J5 ⟨y,L⟩ bk dv a8 a1 ⟨hy,a5,U⟩;simp only at hy a5 U bk;have cz:=Ape (k:=y) be oV;have dp:L.length=w:=by rw[a5.1,cz,bn]
  have au:(C.set i ((Value.slice (zA gi) w ci),L))[i]?=some ((Value.slice (zA gi) w ci),L):=by rw[A1z];simp[d3,a6]
  have b4:(C.set i ((Value.slice (zA gi) w ci),L))[P.length]?=some (Value.slice (zA gs) w cs,bg):=by rw[A1z,if_neg am];exact c1
  by_cases ap:y<w
  ·refine G.lT y w ?_;obtain⟨e,e1,e2⟩:=a5.at (j:=y) oV;obtain⟨fe,rfl⟩:=e2.opN;rw[<-Ol oV,Atr be oV]at e2;have ab:ElP a8 go (0+P.length*1) (Value.slice (zA gs) w cs):=U.el 2 (x:=oN (.slice (zA go) n H) C) rfl rfl (by show (C.map (·.1))[P.length]?=_;rw[A1a,c1];rfl);have he:ElP a8 gi (0+y*2) (nv fe):=U.el (i+3) (x:=C3 ((Value.slice (zA gi) w ci),L)) (F8 au) rfl e1;obtain⟨fs,s5,s6,_⟩:=cv y ap;have dc:Bi u8 (nv fs) (gZ R y):=by rw[<-T];exact s6
   have cw:ElP a8 gs (0+y*2) (nv fs):=U.el (P.length+3) (x:=C3 (Value.slice (zA gs) w cs,bg)) (F8 b4) rfl s5;have c2:=(d5.mono l8).mono a1;obtain⟨z1,z2,z3,z4⟩:=Vw (v:=v) ay b5 (b2 y) (b1 y);refine G.O w ci ap he<|G.f 192 g 0 0 0<|G.v none (Ev U)<|G.O n H Q ab<|G.O w cs ap cw<|G.f 192 g 0 2 2<|G.v (some 2) (Al1 U)<|G.c call126 (Ea e2 ((h6.mono l8).mono a1) (A04 (b2 y) oV) (A04 ay oV)) ?_;intro e3 dw ai ca;obtain⟨dh,rfl⟩:=ca.opN;refine G.c call126 (Ea ((g6.mono a1).mono ai) ((dc.mono a1).mono ai) (A04 b5 oV) (A04 (b1 y) oV)) ?_;intro e4 dx aq cb;obtain⟨di,rfl⟩:=cb.opN;refine G.c call241 (Ac7 (ca.mono aq) cb (A04 z1 oV) (A04 z2 oV)) ?_;intro e5 dy bf cc;obtain⟨dj,rfl⟩:=cc.opN;refine G.c call190 (M1 cc (c2.mono ((ai.trans aq).trans bf)) (A04 z3 oV) (A04 d6 oV) d4) ?_;rintro e6 dz cg ⟨e7,e8,rfl,cd,ce⟩;obtain⟨aw,rfl⟩:=cd.opN;obtain⟨dd,rfl⟩:=ce.opN;obtain⟨m0,ah,ac⟩:=U.focus (i+3) (F8 au);rw[Ack]at ah;refine G.a gi 0 w ci y 2 ap<|G.storeA 2 m0 L gi w ci y (nv aw) kV ah oV rfl rfl ?_;intro db c5;have ar:=ac (C3 ((Value.slice (zA gi) w ci),L.set y (nv aw))) db c5;rw[Afy,A6r]at ar;refine G.i y<|G.b (bk (y+1,L.set y (nv aw)) _ _ _ cV ((((a1.trans ai).trans aq).trans bf).trans cg) ⟨dV,?_,ar⟩ dV);dsimp only;rw[<-Aov be oV,Acv _ _ _ _ _ oV];exact (a5.mono (fun _ _ k=>k.mono (((ai.trans aq).trans bf).trans cg))).set y cd
  obtain rfl:y=w:=oV;refine G.lF y y ?_;rw[Asz oV bn]at a5;rw[<-Aq8 (es':=L) bz]at U;refine G.i i ?_;have cn:E8 n y (X3.set i (Qx v F gg R S)):=Lt W a6 oV;have ad:∀ x,gMZ (X3.set i (Qx v F gg R S)) x=if i=x then Qx v F gg R S else gMZ X3 x:=fun x=>Kv (by rw[W.1];exact a6)
  refine G.b (az (i+1,C.set i ((Value.slice (zA gi) y ci),L),X3.set i (Qx v F gg R S)) _ _ _ cV (l8.trans a1) ⟨dV,bt,cn,?_,?_,?_,U⟩ dV)
  ·dsimp only;rw[ad,if_neg am];exact T
  ·intro x j h1;dsimp only at h1⊢;unfold enZ;rw[ad,if_neg oV];exact Z x j oV
  exact (J.mono a1).set (i:=i) (r:=((Value.slice (zA gi) y ci),L)) oV a5
 obtain rfl:i=n:=oV;refine G.lF i i ?_;rw[A4i,Ov]at a9;rw[<-a9];refine G.f 192 g 0 1 1<|G.v none (Ab4 I)<|G.B 3 1 8 zO [zI c] (Av [c]) ?_;intro g9 u9 l9 e9;obtain⟨m1,c3,b7⟩:=I.focus 1 rfl;rw[Aka]at c3;have cx:(Ai P).length=P.length:=by simp[Ai]
 refine G.append 3 1 8 zO m1 (Ai P) [zI c] (.slice pa P.length pc) g9 0 1 1 kV rfl rfl oV c3 e9 (Av [c]) rfl oV oV oV ?_;intro e0 a8 a4;rw[show Ai P++[Value.int .i64 c]=Ai (P++[c]) by simp[Ai]]at a4;obtain⟨aj,ak,rfl⟩:=a4.shape;have el:(Ai (P++[c])).length=(P++[c]).length:=by simp[Ai]
 rw[el]at a4⊢;have bp:=b7 (Np (.slice aj (P++[c]).length ak) (P++[c])) a8 a4;obtain⟨m2,d7,b8⟩:=bp.focus 0 rfl;obtain⟨cy,em⟩:=Aqq d7 Sa rfl;refine G.f 192 g 0 2 2<|G.storeM 2 g (0+2) 192 (E9 (.slice (zA go) i H) (.slice pa P.length pc) f0 odd1) (nv fr) kV (by rw[em,Ab]) (fun x hx=>by
  have:=(Akd x hx).2 x (by rw[Sa x hx];simp);exact this) (by simp[E9]) rfl rfl ?_
 have ck:a8.upd g (.cells ((E9 (.slice (zA go) i H) (.slice pa P.length pc) f0 odd1).take (0+2)++(nv fr).cells.toList++(E9 (.slice (zA go) i H) (.slice pa P.length pc) f0 odd1).drop (0+2+2)).toArray 192 (0,0)) =
  m2.upd g (.cells (E9 (.slice (zA go) i H) (.slice pa P.length pc) fr odd1).toArray 192 (0,0)):=by
  rw[em,Dp];rfl
 rw[ck];have bq:=b8 (Jv g (E9 (.slice (zA go) i H) (.slice pa P.length pc) fr odd1)) _ (Ae9 cy);refine G.f 192 g 0 1 1 ?_;obtain⟨m3,c6,b9⟩:=bq.focus 0 rfl;rw[V3]at c6;refine G.storeA 1 m3 _ g 5 5 1 (.slice aj (P++[c]).length ak) kV c6 (by simp[E9]) rfl rfl ?_;intro da c4;have br:=b9 (Jv g (E9 (.slice (zA go) i H) (.slice aj (P++[c]).length ak) fr odd1)) da c4;exact G.r (.tuple #[]) ⟨rfl,aj,ak,fr,C,J.mono l9,h6.mono (l8.trans l9),br⟩
section
variable {X:List (List Int)}{a:zP}{c n:Nat}
section
variable [Cl] {P:Program} [A6 P] {fn:Func} {Post:Ce} {st:List KI×S} {u m:PH}
def G.appendZ (e:TypeId)(sz C:Nat)(z:Value)(xs:zV)(a:zP)(n c:Nat)(h:Aj P (adv P st)=.app (some (e,sz,C,z)) true [zN,.slice a n c])(U:z.cells.toList.all Ax=true)(L:z.cells.size=sz)(K:0<sz)
 (Q:Ac u (.slice a n c) sz xs) (T:A9 sz xs) (J:xs.length=n) (R:n*C<=140737488355328) (I:n<=9223372036854775807)
 (k:∀ t E H,Af m H (.slice t n E) e sz xs->G P fn Post (nx (adv P st) (.slice t n E)) u H):G P fn Post st u m:=by
 by_cases h0:n=0
 ·subst h0;obtain rfl:=A2l J;exact G.appendNil e sz C z a c h (k none 0 m (Af.nil _ _ _))
 obtain⟨b,o,rfl,_⟩:=Q.at' (j:=0) (A01 oV);refine G.append e sz C z m [] xs zN b o n c h U L K (Af.nil _ _ _) Q.els T J oV (by simpa using R) (by simpa using I) ?_;intro V H F;rw[A3q]at F;obtain⟨t,E,rfl⟩:=F.shape;rw[J]at F⊢;exact k t E H F
end
def AtP.ok2 {u:PH}{es:zV}{zs:List Int}(h:AtP Bi u es zs):A9 2 es:=fun e F=>by
 obtain⟨j,C,rfl⟩:=A3d.1 F;have t:j<zs.length:=by rw[<-h.1];exact C
 obtain⟨H,z,E⟩:=h.2 j zs[j] (A01 t);rw[A01 C]at z;cases z;exact E.ok _ mV
def Agf {m u:PH}{s p:Arr}{h:List (Value×zV)}(t:Bag m (s::p::oN (.slice a n c) h::h.map C3))(C:NAt u h X)(H:PH.le m u):Nl u (.slice a n c) X:=by
 have I:=t.list H 2 (x:=oN (.slice a n c) h) rfl;refine⟨h.map (fun r:Value×zV=>r.1),I,by rw[A03,C.1],fun j r F=>?_⟩;have E:j<h.length:=by rw[C.1];exact (A05.1 F).1
 have z:h[j]?=some h[j]:=A01 E;refine⟨h[j].1,by rw[A1a,z];rfl,?_⟩;refine⟨h[j].2,t.list H (j+3) (x:=C3 h[j]) (F8 z),?_⟩;have:=C.2 j _ z;have e:gMZ X j=r:=by unfold gMZ;rw[A02,F];rfl
 rwa[e]at this
def Ata {m:PH}{g:Nat}{l:List Arr}{j pv:Value}{f:N3}{e:Bool}(h:Bag m (Jv g (E9 j pv f e)::l))(z:j.cells = #[j])(C:pv.cells = #[pv]):ElP m g 0 (.agg #[j,pv,.bool f.b,.slice f.a f.n f.c,.bool e]):=by
 have E:=Ev h;have F:=Ab4 h;have t:=Al1 h;have H:=Ak7 h;intro i x hi
 match i,hi with
 |0,hi=>exact E 0 x (by rw[z];exact hi)
 |1,hi=>exact F 0 x (by rw[C];exact hi)
 |2,hi=>exact t 0 x hi
 |3,hi=>exact t 1 x hi
 |4,hi=>exact H 0 x hi
def Aqf (K : Nat) {k l : Nat} (h : k ≤ l) : zs K k ≤ zs K l := by
  induction l with
  | zero => have : k = 0 := by omega
            subst this; exact A08 _
  | succ l ih =>
    rcases A2e k (l + 1) with e | e
    · have := ih oV
      show zs K k ≤ 2 * zs K l + 2
      omega
    have : k = l + 1 := by omega
    subst this; exact A08 _
def Avp {u:PH}{n w c j E:Nat}(hM:Nl u (.slice a n c) X)(hX:E8 n w X)(hn:n<=100)(hw:w<=100)(h0:0<n)(ao:j<=w)(ai:SzZ X E)(ab:1<=E)(hE:zs E j<=1000000000) :
 Fn0 prog 122 [.slice a n c,zI j] u fun r u'=>∃ a' c' pa pc f,r=.agg #[.slice a' n c',.slice pa (Fm n j 0 ⟨X,[],1,false⟩).P.length pc,.bool f.b,.slice f.a f.n f.c,.bool (Fm n j 0 ⟨X,[],1,false⟩).odd] /\
  Nl u' (.slice a' n c') (Fm n j 0 ⟨X,[],1,false⟩).X/\Bi u' (nv f) (Fm n j 0 ⟨X,[],1,false⟩).v:=by
 have an:=hX.1;refine Fn0.o func122<|G.c call121 (Kf (z:=1) oV oV) ?_;intro v1 u1 l1 k1;obtain⟨f1,rfl⟩:=k1.opN;refine G.l (ι:=Nat×List (Value×zV)×(zP×Nat)) (fun i=>[(1,iV j),(4,.p 0 0),(5,.p 1002 0),(11,sV a n c),(12,iV n),(13,iV i.1)])
  (fun i=>[(0,⟨192,[sV none 0 0,sV none 0 0,bV false,sV none 0 0,bV false]⟩),(1002,⟨192,[sV i.2.2.1 i.1 i.2.2.2,sV none 0 0,bV f1.b,sV f1.a f1.n f1.c,bV false]⟩)])
  (fun i u' m'=>i.1<=n/\NAt u' i.2.1 (X.take i.1)/\Bag m' (oN (.slice i.2.2.1 i.1 i.2.2.2) i.2.1::i.2.1.map C3)) (fun i=>n-i.1) (0,[],(none,0))
  ⟨A1t _,⟨rfl,fun i r h=>by simp at h⟩,PH.mt,Af.nil _ _ _,trivial⟩ ?_
 rintro J ⟨i,t,⟨ra,rc⟩⟩ hJ u2 m2 l2 ⟨hi,L,C⟩;simp only at hi L C hJ;have I:t.length=i:=by rw[L.1,A1e];omega
 by_cases Y:i<n
 ·refine G.lT i n ?_;have a9:X[i]?=some X[i]:=A01 oV;have ak:X[i].length=w:=by have:=hX.2 i Y;rwa[Xj oV]at this
  obtain⟨b,o,e,rfl,h3,f3⟩:=LP.at (hM.mono (l1.trans l2)) a9;obtain⟨es,W,U⟩:=f3;obtain⟨a4,c4,rfl⟩:=W.opn;have a3:es.length=w:=by rw[U.1,ak]
  rw[a3]at W h3;refine G.N n c Y h3<|G.appendZ 141 2 32 (.agg #[zL,zN]) es a4 w c4 kV rfl rfl oV W U.ok2 a3 oV oV ?_;intro F H m5 aa;refine G.B 190 1 24 zN [.slice F w H] (B5 _ _ _) ?_;intro g6 u6 l6 e6;have ad:Bag m5 (C3 (.slice F w H,es)::oN (.slice ra i rc) t::t.map C3):=⟨m2,aa,C⟩;obtain⟨m0,a8,a6⟩:=ad.focus 1 rfl;rw[Akm]at a8;refine G.k 190 1 24 zN m0 (t.map (·.1)) [.slice F w H] (.slice ra i rc) g6 0 1 1 a8 e6 (B5 _ _ _) ?_;intro v7 m7 Q;obtain⟨a7,c7,rfl⟩:=Q.shape;have e7:t.map (·.1)++[Value.slice F w H]=(t++[(Value.slice F w H,es)]).map (·.1):=mV
  rw[e7]at Q⊢;have el:((t++[(Value.slice F w H,es)]).map (·.1)).length=i+1:=by simp[I]
  rw[el]at Q⊢;have ae:=a6 (oN (.slice a7 (i+1) c7) (t++[(Value.slice F w H,es)])) m7 Q;have af:Bag m7 (oN (.slice a7 (i+1) c7) (t++[(Value.slice F w H,es)])::(t++[(Value.slice F w H,es)]).map C3):=by
   refine Bag.perm ?_ ae;rw[A1i];exact (List.Perm.swap _ _ _).trans (List.Perm.cons _ (A5r (l₁:=[C3 (Value.slice F w H,es)])))
  refine G.i i<|G.b (hJ (i+1,t++[(Value.slice F w H,es)],(a7,c7)) _ _ _ cV (l2.trans l6) ⟨dV,?_,af⟩ dV);dsimp only;rw[A1n,a9];exact (L.mono l6).snoc (q:=X[i]) (U.mono fun _ _ k=>k.mono l6)
 obtain rfl:i=n:=oV
 rw[A1j oV]at L;refine G.lF i i ?_;obtain⟨go,co,eo⟩:=C.ptr 0 rfl (by intro e;simp only[oN,A6c]at e;rw[e]at I;simp at I;omega);simp only[oN,A03,I,Value.slice.injEq,true_and]at eo;obtain⟨rfl,rfl⟩:=eo;clear hJ;refine G.pub 1002 192 (E9 (.slice (zA go) i rc) zN f1 false) kV kV ?_;intro g ap ag;have a2:Bag (m2.upd g (.cells (E9 (.slice (zA go) i rc) zN f1 false).toArray 192 (0,0))) (Jv g (E9 (.slice (zA go) i rc) zN f1 false)::Np zN []::oN (.slice (zA go) i rc) t::t.map C3) :=
  ⟨m2,Ae9 ag,m2,Af.nil _ _ _,C⟩
 refine G.l (ι:=Nat×List (Value×zV)×(zP×Nat)×N3×BZ) (fun i=>[(1,iV j),(4,.p 0 0),(5,.v (.pointer (zA g))),(8,iV i.1)])
  (fun i=>[(0,⟨192,[sV none 0 0,sV none 0 0,bV false,sV none 0 0,bV false]⟩)])
  (fun k u' m'=>k.1<=j/\Fm i (j-k.1) k.1 k.2.2.2.2=Fm i j 0 ⟨X,[],1,false⟩/\E8 i w k.2.2.2.2.X/\SzZ k.2.2.2.2.X (zs E k.1)/\nl k.2.2.2.2.v.natAbs<=zs E k.1/\k.2.2.2.2.v≠0/\k.2.2.2.2.P.length<=i/\NAt u' k.2.1 k.2.2.2.2.X/\Bi u' (nv k.2.2.2.1) k.2.2.2.2.v /\
   Bag m' (Jv g (E9 (.slice (zA go) i rc) (.slice k.2.2.1.1 k.2.2.2.2.P.length k.2.2.1.2) k.2.2.2.1 k.2.2.2.2.odd)::Np (.slice k.2.2.1.1 k.2.2.2.2.P.length k.2.2.1.2) k.2.2.2.2.P::oN (.slice (zA go) i rc) k.2.1::k.2.1.map C3)) (fun k=>j-k.1)
  (0,t,(none,0),f1,⟨X,[],1,false⟩) ⟨A1t _,rfl,hX,ai,A04 (nl1 (n:=1) oV) ab,Int.one_ne_zero,A1t _,L,k1.mono l2,a2⟩ ?_
 clear a2 C L I;rintro J ⟨k,t,⟨pa,pc⟩,f,s⟩ hJ u3 m3 l3 ⟨hk,R,hR,hS,a0,Z,T,L,hv,C⟩;simp only at hk R hR hS a0 Z T L hv C hJ;by_cases Y:k<j
 ·refine G.lT k j ?_;have hz:zs E (k+1)<=1000000000:=A04 (Aqf E (show k+1<=j by omega)) hE;have aq:zs E (k+1)=2*zs E k+2:=rfl;obtain⟨q1,q2,q3,q4,q5⟩:=Al2 (c:=k) hS a0 hR T;refine G.A call194 (Ax8 (c:=k) (E:=zs E k) hR hn hw oV T h0 hS hv a0 Z oV L C) ?_;rintro v4 u4 m4 l4 ⟨rfl,al,am,f',a1,ac,aj,V⟩ _;rw[By];refine G.i k<|G.b (hJ (k+1,a1,(al,am),f',I0 i k s) _ _ _ cV (l3.trans l4) ⟨dV,?_,q3,q1.mono dV,A04 q2 dV,q5 Z,q4,ac,aj,V⟩ dV);dsimp only;obtain⟨K,hK⟩:∃ K,j-k=K+1:=⟨j-k-1,oV⟩;rw[<-R,hK,Fm,show j-(k+1)=K by omega]
 obtain rfl:k=j:=oV
 refine G.lF k k ?_;rw[A4i,Fm]at R;rw[<-R];refine G.v (some 5) (Ata C rfl rfl)<|G.giveP (ma:=m3) (sm:=PH.mt) kV (by funext g;unfold PH.or;cases m3 g<;>rfl) (fun g=>.inr rfl) (fun g=>.inl rfl) ?_
 intro u6 l6 ah;exact G.r (.agg #[.slice (zA go) i rc,.slice pa s.P.length pc,.bool f.b,.slice f.a f.n f.c,.bool s.odd]) ⟨rfl,_,rc,pa,pc,f,rfl,Agf C (L.mono l6) ah,hv.mono l6⟩
end
def Akc {u:PH}{v:Value}{A:zM}{L:Nat}(h:C7 u v (Cv A))(hT:∀ r∈A,∀ q∈r,Tx q)(hl:A.length<=1000000)(ak:∀ r∈A,r.length<=1000000)(hL:∀ r∈A,∀ q∈r,q.den ∣ L)(bf:0<L)(bg:nl L<=1000000000) :
 Ag prog 120 [v] u PH.mt fun v' W m'=>∃ D f a5 c5 V,0<D/\D ∣ L/\(∀ r∈A,∀ q∈r,q.den ∣ D)/\v'=.agg #[.bool f.b,.slice f.a f.n f.c,.slice a5 A.length c5]/\Bi W (nv f) (D:Int)/\NAt W V (A.map (Bp D))/\Bag m' (oN (.slice a5 A.length c5) V::V.map C3):=by
 obtain⟨a,c,rfl⟩:=h.opn;rw[A3]at h⊢;have ah:∀ D:Nat,D ∣ L->nl (D:Int).natAbs<=1000000000:=fun D X=>A04 (C4 (A48 bf X)) bg;refine Ag.o func120<|G.c call121 (Kf (z:=1) oV oV) ?_;intro v1 u1 l1 k1;obtain⟨b1,a1,n1,c1,rfl⟩:=k1.opn;refine G.l (ι:=Nat×zV×(zP×Nat×Nat)×DI)
  (fun i=>[(2,.p 0 0),(3,.p 1002 0),(4,sV i.2.2.1.1 i.2.2.1.2.1 i.2.2.1.2.2),(19,sV a A.length c),(20,iV A.length),(21,iV i.1)])
  (fun i=>[(0,⟨187,[bV false,sV none 0 0,sV none 0 0]⟩),(1002,⟨187,[bV i.2.2.2.b,sV i.2.2.2.a i.2.2.2.n i.2.2.2.c,sV none 0 0]⟩)])
  (fun i W m'=>i.1<=A.length/\AtP F6 W i.2.1 (A.take i.1)/\Af PH.mt m' (.slice i.2.2.1.1 i.2.2.1.2.1 i.2.2.1.2.2) 135 1 i.2.1/\Yd W i.2.2.2 L/\∀ r∈A.take i.1,∀ q∈r,q.den ∣ i.2.2.2.D)
  (fun i=>A.length-i.1) (0,[],(none,0,0),⟨b1,a1,n1,c1,1⟩)
  ⟨A1t _,AtP.nil,Af.nil _ _ _,⟨k1,Nat.one_pos,Ba6 _⟩,fun r P=>by simp at P⟩ ?_
 rintro J ⟨k,Kp,⟨a2,n2,c2⟩,⟨db,da,dn,dc,D⟩⟩ hJ u2 m2 l2 ⟨hk,hF,hA,X,a0⟩;simp only at hk hF hA X a0 hJ;have bm:=hF.1;rw[A1e]at bm;by_cases T:k<A.length
 ·refine G.lT k A.length ?_;have H:A[k]?=some A[k]:=A01 T;have m:=A09 T;obtain⟨ba,oa,a3,c3,rfl,e3,s3⟩:=(h.mono (l1.trans l2)).row (Dw H);rw[A03]at e3 s3;refine G.n A.length c e3<|G.c call141 (T0 s3 (hT _ m) (ak _ m)) ?_;intro v4 u4 l4 k4;obtain⟨a4,c4,rfl⟩:=k4.lp.opn;refine G.l (ι:=Nat×DI)
   (fun i=>[(2,.p 0 0),(3,.p 1002 0),(4,sV a2 n2 c2),(19,sV (some ⟨ba,oa,none⟩) A.length c),(20,iV A.length),(21,iV k),(7,sV a4 A[k].length c4),(27,sV a4 A[k].length c4),(28,iV (A[k].length)),(29,iV i.1)])
   (fun i=>[(0,⟨187,[bV false,sV none 0 0,sV none 0 0]⟩),(1002,⟨187,[bV i.2.b,sV i.2.a i.2.n i.2.c,sV none 0 0]⟩)])
   (fun i W m'=>i.1<=A[k].length/\m'=m2/\Yd W i.2 L/\(∀ r∈A.take k,∀ q∈r,q.den ∣ i.2.D)/\∀ q∈A[k].take i.1,q.den ∣ i.2.D)
   (fun i=>A[k].length-i.1) (0,⟨db,da,dn,dc,D⟩)
   ⟨A1t _,rfl,X.mono l4,a0,fun q K=>by simp at K⟩ ?_
  rintro J2 ⟨j,⟨eb,ea,en,ec,E⟩⟩ Q u5 m5 Y ⟨hj,rfl,hE,aj,a9⟩;simp only at hj hE aj a9 Q;by_cases e:j<A[k].length
  ·refine G.lT j (A[k].length:Int) ?_;have U:A[k][j]?=some A[k][j]:=A01 e;have a6:=A09 e;have aa:=hT _ m _ a6;obtain⟨b6,o6,e6,rfl,h6,f6⟩:=(k4.mono Y).lp.at U;obtain⟨x1,x2,x3,x4,x5,x6,x7,x8,rfl⟩:=f6.opn;refine G.N A[k].length c4 e h6<|G.c call189 (Sk f6) ?_;intro v7 u7 l7 k7;obtain⟨b7,a7,n7,c7,rfl⟩:=k7.opn;refine G.c call188 (Alk ((hE.mono l7).1) k7 (A04 (ah _ hE.2.2) oV) (A04 (Bd aa.den) oV) (by have:=hE.2.1;dsimp only at this⊢;omega)) ?_;intro v8 u8 l8 k8;rw[Apj]at k8;obtain⟨b8,a8,n8,c8,rfl⟩:=k8.opn;refine G.add (j:Int) 1 ((j+1:Nat):Int) kV oV oV (by have:=ak _ m;omega)<|G.b (Q (j+1,⟨b8,a8,n8,c8,Nat.lcm E A[k][j].den⟩) _ _ _ cV ((Y.trans l7).trans l8) ⟨dV,rfl,⟨k8,?_,?_⟩,?_,?_⟩ dV)
   ·have:=hE.2.1;simp only at this⊢;exact Nat.lcm_pos this (A[k][j]).den_pos
   ·exact Ba7 hE.2.2 (hL _ m _ a6)
   ·exact fun r P q K=>A74 (aj r P q K) (A78 _ _)
   intro q K;dsimp only at K⊢;rw[A1n,U]at K;rcases A1h.1 K with K|K
   ·exact A74 (a9 q K) (A78 _ _)
   simp at K;subst K;exact Nat.dvd_lcm_right _ _
  have:j=A[k].length:=oV;subst this;rw[A15]at a9;refine G.lF (A[k].length:Int) (A[k].length:Int)<|G.B 135 1 24 zN [.slice a4 A[k].length c4] (B5 _ _ _) ?_;intro g6 u6 l6 e6;refine G.append 135 1 24 zN PH.mt Kp [.slice a4 A[k].length c4] (.slice a2 n2 c2) g6 0 1 1 kV rfl rfl oV hA e6 (B5 _ _ _) rfl oV oV oV ?_;intro v7 m7 ar;obtain⟨a7,c7,rfl⟩:=ar.shape;refine G.i k<|G.b (hJ (k+1,Kp++[Value.slice a4 A[k].length c4],(a7,(Kp++[Value.slice a4 A[k].length c4]).length,c7),⟨eb,ea,en,ec,E⟩) _ _ _ cV (((l2.trans l4).trans Y).trans l6) ⟨dV,?_,ar,hE.mono l6,?_⟩ dV)
  ·dsimp only;rw[A1n,H];exact (hF.mono (fun _ _ h=>h.mono ((l4.trans Y).trans l6))).snoc (k4.mono (Y.trans l6))
  intro r P;dsimp only at P⊢;rw[A1n,H]at P;rcases A1h.1 P with P|P
  ·exact aj r P
  simp at P;subst P;exact a9
 have:k=A.length:=oV;subst this;rw[A15]at hF a0;refine G.lF A.length A.length<|G.give PH.mt Kp _ kV hA (fun _=>.inl rfl) ?_;intro u3 l3 ai;have bp:Kp.length=A.length:=by rw[hF.1]
 obtain⟨_,_,e0⟩:=ai.opn;simp only[Value.slice.injEq]at e0;obtain⟨rfl,rfl,rfl⟩:=e0;rw[bp]at ai⊢;have be:Aeq u3 (.slice a2 A.length c2) A:=⟨Kp,ai,hF.mono (fun _ _ h=>h.mono l3)⟩;refine G.l (ι:=Nat×List (Value×zV)×(zP×Nat))
  (fun i=>[(2,.p 0 0),(3,.p 1002 0),(45,sV a2 A.length c2),(46,iV A.length),(47,iV i.1)])
  (fun i=>[(0,⟨187,[bV false,sV none 0 0,sV none 0 0]⟩),(1002,⟨187,[bV db,sV da dn dc,sV i.2.2.1 i.1 i.2.2.2]⟩)])
  (fun i W m'=>i.1<=A.length/\NAt W i.2.1 ((A.take i.1).map (Bp D))/\Bag m' (oN (.slice i.2.2.1 i.1 i.2.2.2) i.2.1::i.2.1.map C3))
  (fun i=>A.length-i.1) (0,[],(none,0))
  ⟨A1t _,⟨rfl,fun i r h=>by simp at h⟩,PH.mt,Af.nil _ _ _,trivial⟩ ?_
 rintro J2 ⟨k,I,⟨a5,c5⟩⟩ Q u5 m5 Y ⟨bo,hN,ag⟩;simp only at bo hN ag Q;have ac:=hN.1;rw[A03,A1e]at ac;by_cases T:k<A.length
 ·refine G.lT k A.length ?_;have H:A[k]?=some A[k]:=A01 T;have m:=A09 T;have cl:=ak _ m;obtain⟨b6,o6,e6,rfl,h6,f6⟩:=LP.at (be.mono Y) H;obtain⟨a7,c7,rfl⟩:=f6.lp.opn;refine G.n A.length c2 h6<|G.make 141 2 32 (.agg #[zL,zN]) A[k].length kV rfl rfl oV oV oV ?_;rintro v8 m8 au ⟨a8,rfl⟩;obtain⟨C,rfl,cj⟩:=au.some';refine G.l (ι:=Nat×zV)
   (fun i=>[(2,.p 0 0),(3,.p 1002 0),(45,sV (some ⟨b6,o6,none⟩) A.length c2),(46,iV A.length),(47,iV k),(12,sV (zA C) A[k].length A[k].length),(54,sV a7 A[k].length c7),(55,iV (A[k].length)),(56,iV i.1)])
   (fun i=>[(0,⟨187,[bV false,sV none 0 0,sV none 0 0]⟩),(1002,⟨187,[bV db,sV da dn dc,sV a5 k c5]⟩)])
   (fun i W m'=>i.1<=A[k].length/\AtP Bi W i.2 (Bp D (A[k].take i.1))/\Af m5 m' (.slice (zA C) A[k].length A[k].length) 141 2 (i.2++List.replicate (A[k].length-i.1) (.agg #[zL,zN])))
   (fun i=>A[k].length-i.1) (0,[])
   ⟨A1t _,AtP.nil,by simpa using au⟩ ?_
  rintro J3 ⟨j,done⟩ av u9 m9 l9 ⟨bn,R,Z⟩;simp only at bn R Z av;have aw:=R.1;rw[Bp,A03,A1e]at aw;by_cases e:j<A[k].length
  ·refine G.lT j (A[k].length:Int) ?_;have U:A[k][j]?=some A[k][j]:=A01 e;have a6:=A09 e;have aa:=hT _ m _ a6;have ck:=(A[k][j]).den_pos;obtain⟨bz,cr,ch,rfl,bd,af⟩:=(f6.mono l9).lp.at U;obtain⟨x1,x2,x3,x4,x5,x6,x7,x8,rfl⟩:=af.opn;refine G.N A[k].length c7 e bd<|G.c call189 (Sk af) ?_;intro cw br t az;obtain⟨c0,bt,cn,cc,rfl⟩:=az.opn;refine G.c call190 (M1 ((X.mono (((l3.trans Y).trans l9).trans t)).1) az (A04 (ah _ X.2.2) oV) (A04 (Bd aa.den) oV) oV) ?_;rintro bs cs am ⟨cx,cy,rfl,al,bq⟩;obtain⟨c6,bu,co,cd,rfl⟩:=al.opn;obtain⟨ca,bw,cp,ce,rfl⟩:=bq.opn;refine G.c call191 (Ael (af.mono (t.trans am))) ?_;intro cz ct an b0;obtain⟨cb,bx,cq,cg,rfl⟩:=b0.opn;have bl:((D:Int)/(A[k][j].den:Int))=((D/A[k][j].den:Nat):Int):=by push_cast;rfl
   rw[bl]at al;refine G.c call126 (Ea b0 (al.mono an) (A04 (Bd aa.1) oV) (by rw[A1s];exact A04 (Tk _ _) (A04 (ah _ X.2.2) oV))) ?_;intro d0 cu b3 b2;obtain⟨ap,ao,b5,aq,rfl⟩:=b2.opn;refine G.a C 0 A[k].length A[k].length j 2 e<|G.storeA 2 m5 _ C A[k].length A[k].length j (.agg #[.bool ap,.slice ao b5 aq]) kV Z gV rfl rfl ?_;intro cm ab;rw[Afh oV e]at ab;refine G.i j<|G.b (av (j+1,done++[.agg #[.bool ap,.slice ao b5 aq]]) _ _ _ cV ((((l9.trans t).trans am).trans an).trans b3) ⟨dV,?_,ab⟩ dV);dsimp only;rw[A1n,U,Bp,A1i];exact (R.mono (fun _ _ h=>h.mono (((t.trans am).trans an).trans b3))).snoc b2
  have:j=A[k].length:=oV;subst this;rw[A15]at R;rw[A4i,A42,A1x]at Z;refine G.lF (A[k].length:Int) (A[k].length:Int) ?_;have ci:done.length=A[k].length:=oV;refine G.B 190 1 24 zN [.slice (zA C) A[k].length A[k].length] (B5 _ _ _) ?_;intro bb br t b9;have bj:Bag m9 (C3 (.slice (zA C) A[k].length A[k].length,done)::oN (.slice a5 k c5) I::I.map C3):=⟨m5,Z,ag⟩;obtain⟨m0,ay,ax⟩:=bj.focus 1 rfl;rw[Akm]at ay;have bk:(I.map (·.1)).length=k:=by rw[A03,ac];omega
  refine G.append 190 1 24 zN m0 (I.map (·.1)) [.slice (zA C) A[k].length A[k].length] (.slice a5 k c5) bb 0 1 1 kV rfl rfl oV ay b9 (B5 _ _ _) rfl oV oV oV ?_;intro bs b4 F;obtain⟨ad,ae,rfl⟩:=F.shape;have e7:I.map (·.1)++[Value.slice (zA C) A[k].length A[k].length]=(I++[(Value.slice (zA C) A[k].length A[k].length,done)]).map (·.1):=mV;rw[e7]at F⊢;have el:((I++[(Value.slice (zA C) A[k].length A[k].length,done)]).map (·.1)).length=k+1:=by rw[<-e7,A1d,bk];rfl
  rw[el]at F⊢;have bh:=ax (oN (.slice ad (k+1) ae) (I++[(Value.slice (zA C) A[k].length A[k].length,done)])) b4 F;have bi:Bag b4 (oN (.slice ad (k+1) ae) (I++[(Value.slice (zA C) A[k].length A[k].length,done)])::(I++[(Value.slice (zA C) A[k].length A[k].length,done)]).map C3):=by
   refine Bag.perm ?_ bh;rw[A1i];exact (List.Perm.swap _ _ _).trans (List.Perm.cons _ (A5r (l₁:=[C3 (Value.slice (zA C) A[k].length A[k].length,done)])))
  refine G.i k<|G.b (Q (k+1,I++[(Value.slice (zA C) A[k].length A[k].length,done)],(ad,ae)) _ _ _ cV ((Y.trans l9).trans t) ⟨dV,?_,bi⟩ dV);dsimp only;rw[A1n,H,A1i];exact (hN.mono (l9.trans t)).snoc (q:=Bp D A[k]) (R.mono (fun _ _ h=>h.mono t))
 have:k=A.length:=oV;subst this;rw[A15]at hN;exact G.lF A.length A.length<|G.r (.agg #[.bool db,.slice da dn dc,.slice a5 A.length c5]) ⟨D,⟨db,da,dn,dc⟩,a5,c5,I,X.2.1,X.2.2,a0,rfl,(X.mono (l3.trans Y)).1,hN,ag⟩
section
theorem Aem {q:Rat}{D:Nat}(h:q.den ∣ D):((q.num*((D/q.den:Nat):Int):Int):Rat)=q*(D:Rat):=by
 obtain⟨k,rfl⟩:=h;rw[Nat.mul_div_cancel_left _ q.den_pos,A3c,A7e,A2r];have e:q*(q.den:Rat)=(q.num:Rat):=by
  have e:q=(q.num:Rat)/(((q.den:Int)):Rat):=by rw[<-A37,A7h]
  have hi:=Bap _ (T4 q.den_pos);rw[A2r,A8v]at e;exact A0j e hi
 rw[<-e];grind
def Wf {D:Nat}{r:zR}{j:Nat}(e:j<r.length):gZ (Bp D r) j=(gR r j).num*((D/(gR r j).den:Nat):Int):=by
 unfold Bp;rw[Ol (by simpa using e),A3v,Cu e]
def Abw {A:zM}{i:Nat}(h:i<A.length):gM A i∈A:=by rw[Ch h];exact A09 h
section
variable {A:zM} {b:zR} {D D':Nat}
def Oy (f:Nat->Int):∀ n:Nat,((Ca n f:Int):Rat)=Bb n (fun j=>(f j:Rat))
 |0=>by rw[Uk];rfl
 |n+1=>by rw[Ca,A7d,Oy f n,Ds]
end
end
section
variable {A:zM}{m u:PH}{n:Nat}
def Awb {v:Value}(h:C7 u v (Cv A))(e:Sq A):Fn0 prog 118 [v] u fun j _=>j=zO:=by
 obtain⟨a,c,rfl⟩:=h.opn;refine Fn0.o func118<|G.c call186 (Adf h e) ?_;rintro C z t rfl;exact G.eT' 0 0 rfl<|G.nF A.length A.length<|G.r zO ⟨rfl,rfl⟩
structure Th (q:Rat):Prop where
 tx:Tx q
 den:q.den ∣ 21600
 num:q.num.natAbs<=3000000000000
def Awy (h:n<100000000000000000):Lib.nDigits n<=17:=Cz (k:=17) oV oV
def Asd (hT:∀ r∈A,∀ q∈r,Th q):Y5 A 21600 17 where
 den:=fun r j q h=>(hT r j q h).den
 pos:=oV
 nl:=A04 (nlM oV) oV
 dig:=fun D C h0=>by
  have e:D<=21600:=A48 oV C;refine⟨Awy oV,fun r j q h E=>Awy ?_⟩;rw[A26,A1s];have t:=(hT r j q h).num;have z:D/q.den<=21600:=A04 (A3u _ _) e;have:=A25 t z;omega
def Aow {n w E:Nat}:∀ (f c:Nat) (s:BZ),SzZ s.X (zs E c)->nl s.v.natAbs<=zs E c->E8 n w s.X->s.P.length<=n->SzZ (Fm n f c s).X (zs E (c+f))/\nl (Fm n f c s).v.natAbs<=zs E (c+f)
 |0,c,s,h1,h2,_,_=>⟨h1,h2⟩
 |f+1,c,s,h1,h2,h3,h4=>by
  obtain⟨e,h,j,t,_⟩:=Al2 (c:=c) h1 h2 h3 h4;have z:zs E (c+1)=2*zs E c+2:=rfl;have:=Aow (E:=E) f (c+1) (I0 n c s) (e.mono oV) (A04 h oV) j t;unfold Fm;rw[show c+(f+1)=c+1+f by omega];exact this
def Az1 (h:n<=12):zs 2 n<=1000000000:=A04 (Aqf 2 h) fV
def Aus {l:List Arr}(h:Bag m l):Bag m (Np zN []::Np zN []::l):=⟨m,Af.nil _ _ _,m,Af.nil _ _ _,h⟩
def Am1 {n c:Nat}{a:zP}{e:List (Value×zV)}{X:List (List Int)}(h:Bag m (oN (.slice a n c) e::e.map C3))(j:NAt u e X)(t:PH.le m u):Nl u (.slice a n c) X:=Agf (Aus h) j t
end
section
variable [Cl] [Co]
section
variable {P:Program} {fn:Func} {Post:Ce}
def S.put4 (s:S)(d1 d2 d3 d4:Nat)(x1 x2 x3 x4:SV):S:=(((s.put (some d1) x1).put (some d2) x2).put (some d3) x3).put (some d4) x4
def I6 (s:S)(d1 d2 d3 d4:Nat)(x1 x2 x3 x4:SV)(t:Nat):(s.put4 d1 d2 d3 d4 x1 x2 x3 x4).tm t=if t=d4 then x4 else if t=d3 then x3 else if t=d2 then x2 else if t=d1 then x1 else s.tm t:=by
 unfold S.put4;have key:∀ (s:S) (d:Nat) (x:SV),(s.put (some d) x).tm t=if t=d then x else s.tm t:=fun s d x=>by
  by_cases e:t=d
  ·subst e;rw[Az,if_pos rfl]
  rw[Ct _ _ _ e,if_neg e]
 rw[key,key,key,key]
theorem Aos (s:S)(d1 d2 d3 d4:Nat):s=s.put4 d1 d2 d3 d4 (s.tm d1) (s.tm d2) (s.tm d3) (s.tm d4):=by
 refine S.ext' rfl (funext fun t=>?_) rfl;rw[I6];split
 ·grind
 grind
section
variable {s:S} {d1 d2 d3 d4:Nat} {x1 x2 x3 x4 y:SV} (h:d1≠d2/\d1≠d3/\d1≠d4/\d2≠d3/\d2≠d4/\d3≠d4)
include h
def Axl:(s.put4 d1 d2 d3 d4 x1 x2 x3 x4).put (some d1) y=s.put4 d1 d2 d3 d4 y x2 x3 x4:=by
 refine S.ext' rfl (funext fun t=>?_) rfl;rw[I6];by_cases e:t=d1
 ·subst e;rw[Az,if_neg h.2.2.1,if_neg h.2.1,if_neg h.1,if_pos rfl]
 rw[Ct _ _ _ e,I6,if_neg e,if_neg e]
def Ax4:(s.put4 d1 d2 d3 d4 x1 x2 x3 x4).put (some d2) y=s.put4 d1 d2 d3 d4 x1 y x3 x4:=by
 refine S.ext' rfl (funext fun t=>?_) rfl;rw[I6];by_cases e:t=d2
 ·subst e;rw[Az,if_neg h.2.2.2.2.1,if_neg h.2.2.2.1,if_pos rfl]
 rw[Ct _ _ _ e,I6,if_neg e,if_neg e]
def Axd:(s.put4 d1 d2 d3 d4 x1 x2 x3 x4).put (some d3) y=s.put4 d1 d2 d3 d4 x1 x2 y x4:=by
 refine S.ext' rfl (funext fun t=>?_) rfl;rw[I6];by_cases e:t=d3
 ·subst e;rw[Az,if_neg h.2.2.2.2.2,if_pos rfl]
 rw[Ct _ _ _ e,I6,if_neg e,if_neg e]
def Axt:(s.put4 d1 d2 d3 d4 x1 x2 x3 x4).put (some d4) y=s.put4 d1 d2 d3 d4 x1 x2 x3 y:=by
 refine S.ext' rfl (funext fun t=>?_) rfl;rw[I6];by_cases e:t=d4
 ·subst e;rw[Az,if_pos rfl]
 rw[Ct _ _ _ e,I6,if_neg e,if_neg e]
end
theorem Ob.layM {P:Program}[A6 P]{id:Nat}{F:Array Oper}{H:S->PH->PH->Prop}{a d:Nat}{kk:List KI}{s:S}{u m:PH}(e:TypeId)(sz bt:Nat)(z:Value)(es:zV)
 (h:Aj P (.reg id F true [a]::kk,s)=.buildS (some (e,sz,bt,z)) es.length (es.zipIdx.map fun p=>(p.2,p.1))) (hd:(F[a]?).bind (·.dst)=some d) (L:A9 sz es) (a9:z.cells.size=sz) (a2:0<sz) (Z:0<es.length) (hb:es.length*sz<=16777216)
 (k:∀ g E,Af m E (.slice (zA g) es.length es.length) e sz es->H (s.put (some d) (.v (.slice (zA g) es.length es.length))) u E):Ob P id F true H [a] s u m:=by
 obtain⟨aa,a3,a5,i',l',ab,ad,o,J,a1,hg,U,hv,hs,C,a8⟩:=Eq h mV;obtain⟨⟨⟨rfl,rfl,rfl,rfl,rfl⟩,rfl⟩,rfl⟩:=J;have I:o.dst=some d:=by grind
 refine Ob.big (K:=fun v' u' E=>u'=u/\PH.le m E/\∃ g,v'=.slice (zA g) es.length es.length/\Af m E (.slice (zA g) es.length es.length) e sz es) a1 hg U hv hs (by
  obtain⟨t,qs,Q,_⟩:=En C;rw[Q];rfl) (fun v u' E T=>.inl T.2.1) (fun w W=>?_) (fun v u' E a7 T=>?_)
 ·obtain⟨t,qs,J,Q,hi⟩:=En C;obtain⟨a6,ac,a4,pos,after,R⟩:=o;simp only at J;subst J;obtain⟨hu,i,X,Y,rfl,rfl⟩:=D4 hi;obtain⟨g1,g2,g3,g4⟩:=W.newM (cs:=(A2 es).toArray) (t:=e) (by simpa using Fu L);have V:=Ba L;have a0:es.length*i.size≠0:=by have:=A51 Z a2;omega
  have j:=Sn es 0 ((Array.range (es.length*i.size)).map (z.cells[· % z.cells.size]!)) L mV;have e0:((Array.range (es.length*i.size)).map (z.cells[· % z.cells.size]!)).toList.drop (es.length*i.size) = []:=mV;simp only[A2w,e0]at j;refine B8 (w':=w.alloc (.cells (A2 es).toArray e (0,0))) (v:=.slice (some ⟨w.heap.size,0,none⟩) es.length es.length) ?_ ⟨u,_,g1,g2,rfl,Jw _ g3,_,rfl,L,.inr ⟨w.heap.size,es.length,[],g3,by rw[A1x],rfl,A08 _,by rw[A1x,V],mV⟩⟩;simp only[execOp,Q];simp[Instr.buildSlice,run_underlying hu,sizeOf,typeInfo,zeroValue,X,Y,a0,j,newRow,show ¬ 16777216<es.length*i.size by omega]
 obtain⟨rfl,_,g,rfl,hA⟩:=T;rw[I];exact .nil (k g E hA)
theorem Ob.callV {P:Program}[A6 P]{U:Nat}{z:Array Oper}{C:S->PH->PH->Prop}{a d:Nat}{kk:List KI}{s:S}{u m:PH}(f:Nat)(args:zV){R:Value->PH->Prop}
 (h:Aj P (.reg U z true [a]::kk,s)=.call f args) (hd:(z[a]?).bind (·.dst)=some d) (hc:∀ args w,(callFunc f args).run P w=.ok (.enter f args) w) (c:Fn0 P f args u R)
 (k:∀ v t,PH.le u t->R v t->C (s.put (some d) (.v v)) t m):Ob P U z true C [a] s u m:=by
 obtain⟨a1,V,W,i',l',a2,a3,o,I,T,hg,L,hv,hs,j,a0⟩:=Eq h mV;obtain⟨⟨⟨rfl,rfl,rfl,rfl,rfl⟩,rfl⟩,rfl⟩:=I;have E:o.dst=some d:=by grind
 refine Ob.big (K:=fun v' t H=>H=m/\R v' t) T hg L hv hs (Dv _ _ j) (fun v t H J=>.inl (by rw[J.1];exact PH.le_refl _)) (fun w F=>?_) (fun v t H Q J=>?_)
 ·refine Hq j hc w _ ?_;refine (c w F.noM).mono fun e w' he=>?_;obtain⟨v,t,H,I,X,Y,rfl,Z⟩:=he;obtain⟨g1,g2⟩:=F.frame X Y;exact⟨v,I,t,m,g1,g2,rfl,Z⟩
 obtain⟨rfl,hR⟩:=J;rw[E];exact .nil (k v t Q hR)
end
def Ahj (P:Program)(pre l:zK)(d1 d2 d3 d4:Nat)(x1 x2 x3 x4:SV)(st:List KI×S):List KI×S:=match st with
 |(.code (.region id ops true)::k,s)=>match Ru P id ops pre s with
  |some s'=>(.reg id ops true l::k,s'.put4 d1 d2 d3 d4 x1 x2 x3 x4)
  |none=>st
 |_=>st
def Azj (P:Program)(pre:zK)(q1 q2 r1 r2:Nat)(post:zK)(d1 d2 d3 d4:Nat)(st:List KI×S):Bool:=match st with
 |(.code (.region _ ops true)::_,s)=>Alo ops s pre [q1,q2,r1,r2] post&&(match st.1 with|.code (.region id ops _)::_=>(Ru P id ops pre s).isSome|_=>false)&&bef ops ops.size q2 q1&&bef ops ops.size r2 r1 &&
  decide ((ops[q1]?).bind (·.dst)=some d1/\(ops[q2]?).bind (·.dst)=some d2/\(ops[r1]?).bind (·.dst)=some d3/\(ops[r2]?).bind (·.dst)=some d4)&&decide (d1≠d2/\d1≠d3/\d1≠d4/\d2≠d3/\d2≠d4/\d3≠d4)&&decide ([q1,q2,r1,r2].Nodup)
 |_=>false
structure Lay where
 e:TypeId
 sz:Nat
 bt:Nat
 z:Value
 es:zV
structure Asm (L:Lay):Prop where
 ho:A9 L.sz L.es
 hzs:L.z.cells.size=L.sz
 hsz:0<L.sz
 hn0:0<L.es.length
 hb:L.es.length*L.sz<=16777216
def Lay.stop (L:Lay):Vm:=.buildS (some (L.e,L.sz,L.bt,L.z)) L.es.length (L.es.zipIdx.map fun p=>(p.2,p.1))
def Lay.v (L:Lay)(g:Nat):Value:=.slice (zA g) L.es.length L.es.length
def Lay.arr (L:Lay)(g:Nat):Arr:=⟨L.v g,L.e,L.sz,L.es⟩
section rules
variable {P:Program} [A6 P] {fn:Func} {Post:Ce} {st:List KI×S} {u m:PH}
theorem G.fan (pre:zK)(q1 q2 r1 r2:Nat)(C:zK)(d1 d2 d3 d4:Nat)(E:Lay)(Q:Nat->Lay)(L:Lay)(V:Value)(f:Nat)(args:zV)(h:Azj P pre q1 q2 r1 r2 C d1 d2 d3 d4 (adv P st)=true)
 (H1:∀ x1 x2 x3 x4,Aj P (Ahj P pre [q1] d1 d2 d3 d4 x1 x2 x3 x4 (adv P st))=E.stop) (o1:Asm E)
 (H2:∀ g x2 x3 x4,Aj P (Ahj P pre [q2] d1 d2 d3 d4 (.v (E.v g)) x2 x3 x4 (adv P st))=(Q g).stop) (o2:∀ g,Asm (Q g))
 (H3:∀ x1 x2 x3 x4,Aj P (Ahj P pre [r1] d1 d2 d3 d4 x1 x2 x3 x4 (adv P st))=.call f args) (hc:∀ args w,(callFunc f args).run P w=.ok (.enter f args) w) (c:∀ t,PH.le u t->Fn0 P f args t fun v _=>v=V)
 (H4:∀ x1 x2 x4,Aj P (Ahj P pre [r2] d1 d2 d3 d4 x1 x2 (.v V) x4 (adv P st))=L.stop) (o4:Asm L)
 (k:∀ g1 g2 R t j,PH.le u t->Bag j [L.arr R,(Q g1).arr g2,E.arr g1]->G P fn Post (Ahj P pre C d1 d2 d3 d4 (.v (E.v g1)) (.v ((Q g1).v g2)) (.v V) (.v (L.v R)) (adv P st)) t j):G P fn Post st u m:=by
 refine G.stp ⟨?_⟩;generalize adv P st=st' at h H1 H2 H3 H4 k;unfold Azj at h;split at h
 ·rename_i id ops kk s;simp only[A1m]at h;obtain⟨⟨⟨⟨⟨⟨h1,h2⟩,hq⟩,hr⟩,hd⟩,U⟩,a2⟩:=h;obtain⟨J,a7⟩:=A6a.1 h2;obtain⟨e1,e2,e3,e4⟩:=of_decide_eq_true hd;have U:=of_decide_eq_true U;have a2:=of_decide_eq_true a2;simp only[A4j,A1g,A11,or_false,not_or,not_false_eq_true,List.nodup_nil,and_true]at a2;obtain⟨⟨ai,af,ag⟩,⟨a8,a9⟩,ah⟩:=a2;have e0:∀ l x1 x2 x3 x4,Ahj P pre l d1 d2 d3 d4 x1 x2 x3 x4 (.code (.region id ops true)::kk,s)=(.reg id ops true l::kk,J.put4 d1 d2 d3 d4 x1 x2 x3 x4):=fun l x1 x2 x3 x4=>by unfold Ahj;simp only[a7]
  simp only[e0]at H1 H2 H3 H4 k;refine Sym.reg_tree A6.mx h1 (Ob.autos a7 ?_);rw[Aos J d1 d2 d3 d4];generalize J.tm d1=x1;generalize J.tm d2=x2;generalize J.tm d3=x3;generalize J.tm d4=x4;have Y:∀ {Fin x1 x2 x3 x4 u m},(∀ g j,(E.arr g).At m j->Fin (J.put4 d1 d2 d3 d4 (.v (E.v g)) x2 x3 x4) u j)->Ob P id ops true Fin [q1] (J.put4 d1 d2 d3 d4 x1 x2 x3 x4) u m:=fun {Fin x1 x2 x3 x4 u m} hk =>
   Ob.layM E.e E.sz E.bt E.z E.es (H1 x1 x2 x3 x4) e1 o1.ho o1.hzs o1.hsz o1.hn0 o1.hb fun g j F=>by rw[Axl U];exact hk g j F
  have Z:∀ {Fin g1 x2 x3 x4 u m},(∀ g j,((Q g1).arr g).At m j->Fin (J.put4 d1 d2 d3 d4 (.v (E.v g1)) (.v ((Q g1).v g)) x3 x4) u j)->Ob P id ops true Fin [q2] (J.put4 d1 d2 d3 d4 (.v (E.v g1)) x2 x3 x4) u m:=fun {Fin g1 x2 x3 x4 u m} hk =>
   Ob.layM (Q g1).e (Q g1).sz (Q g1).bt (Q g1).z (Q g1).es (H2 g1 x2 x3 x4) e2 (o2 g1).ho (o2 g1).hzs (o2 g1).hsz (o2 g1).hn0 (o2 g1).hb fun g j F=>by rw[Ax4 U];exact hk g j F
  have a4:∀ {Fin x1 x2 x3 x4 m} (u1:PH),PH.le u u1->(∀ t,PH.le u1 t->Fin (J.put4 d1 d2 d3 d4 x1 x2 (.v V) x4) t m)->Ob P id ops true Fin [r1] (J.put4 d1 d2 d3 d4 x1 x2 x3 x4) u1 m:=fun {Fin x1 x2 x3 x4 m} u1 hle hk =>
   Ob.callV f args (H3 x1 x2 x3 x4) e3 hc (c u1 hle) fun v t I hv=>by rw[Axd U,hv];exact hk t I
  have a0:∀ {Fin x1 x2 x4 u m},(∀ g j,(L.arr g).At m j->Fin (J.put4 d1 d2 d3 d4 x1 x2 (.v V) (.v (L.v g))) u j)->Ob P id ops true Fin [r2] (J.put4 d1 d2 d3 d4 x1 x2 (.v V) x4) u m:=fun {Fin x1 x2 x4 u m} hk =>
   Ob.layM L.e L.sz L.bt L.z L.es (H4 x1 x2 x4) e4 o4.ho o4.hzs o4.hsz o4.hn0 o4.hb fun g j F=>by rw[Axt U];exact hk g j F
  have a3:∀ {g1 g2 R t j},PH.le u t->Bag j [L.arr R,(Q g1).arr g2,E.arr g1]->Qh P id ops C (Hm P fn Post kk) 0 [] (J.put4 d1 d2 d3 d4 (.v (E.v g1)) (.v ((Q g1).v g2)) (.v V) (.v (L.v R))) t j:=fun I T=>(k _ _ _ _ _ I T).out;have ad:∀ {g1 g2 x4 t j},PH.le u t->Bag j [(Q g1).arr g2,E.arr g1]->Qh P id ops C (Hm P fn Post kk) 1 [r2] (J.put4 d1 d2 d3 d4 (.v (E.v g1)) (.v ((Q g1).v g2)) (.v V) x4) t j:=fun {g1 g2 x4 t j} I T a H _=>by
   simp only[A1g,A11,or_false]at H;subst H;rw[A3a];exact a0 fun g K F=>a3 I ⟨j,F,T⟩
  have aa:∀ {g1 R x2 t j},PH.le u t->Bag j [L.arr R,E.arr g1]->Qh P id ops C (Hm P fn Post kk) 1 [q2] (J.put4 d1 d2 d3 d4 (.v (E.v g1)) x2 (.v V) (.v (L.v R))) t j:=fun {g1 R x2 t j} I T a H _=>by
   simp only[A1g,A11,or_false]at H;subst H;rw[A3a];exact Z fun g K F=>a3 I (Bag.perm (List.Perm.swap _ _ _) (show Bag K [(Q g1).arr g,L.arr R,E.arr g1] from⟨j,F,T⟩))
  have a1:∀ {g1 x2 x4 t j},PH.le u t->Bag j [E.arr g1]->Qh P id ops C (Hm P fn Post kk) 2 [q2,r2] (J.put4 d1 d2 d3 d4 (.v (E.v g1)) x2 (.v V) x4) t j:=fun {g1 x2 x4 t j} I T a H _=>by
   simp only[A1g,A11,or_false]at H;rcases H with rfl|rfl
   ·rw[A3a];exact Z fun g K F=>ad I ⟨j,F,T⟩
   rw[A5e (by simpa using a9),A3a];exact a0 fun g K F=>aa I ⟨j,F,T⟩
  have a6:∀ {g1 g2 x3 x4 t j},PH.le u t->Bag j [(Q g1).arr g2,E.arr g1]->Qh P id ops C (Hm P fn Post kk) 2 [r1,r2] (J.put4 d1 d2 d3 d4 (.v (E.v g1)) (.v ((Q g1).v g2)) x3 x4) t j:=fun {g1 g2 x3 x4 t j} I T a H W=>by
   simp only[A1g,A11,or_false]at H;rcases H with rfl|rfl
   ·rw[A3a];exact a4 _ I fun ae X=>ad (I.trans X) T
   have:=W r1 mV ah;rw[hr]at this;cases this
  have a5:∀ {R x1 x2 t j},PH.le u t->Bag j [L.arr R]->Qh P id ops C (Hm P fn Post kk) 2 [q1,q2] (J.put4 d1 d2 d3 d4 x1 x2 (.v V) (.v (L.v R))) t j:=fun {R x1 x2 t j} I T a H W=>by
   simp only[A1g,A11,or_false]at H;rcases H with rfl|rfl
   ·rw[A3a];exact Y fun g K F=>aa I (Bag.perm (List.Perm.swap _ _ _) (show Bag K [E.arr g,L.arr R] from⟨j,F,T⟩))
   grind
  have ab:∀ {g1 x2 x3 x4 t j},PH.le u t->Bag j [E.arr g1]->Qh P id ops C (Hm P fn Post kk) 3 [q2,r1,r2] (J.put4 d1 d2 d3 d4 (.v (E.v g1)) x2 x3 x4) t j:=fun {g1 x2 x3 x4 t j} I T a H W=>by
   simp only[A1g,A11,or_false]at H;rcases H with rfl|rfl|rfl
   ·rw[A3a];exact Z fun g K F=>a6 I ⟨j,F,T⟩
   ·rw[A5e (by simpa using a8),A3a];exact a4 _ I fun ae X=>a1 (I.trans X) T
   grind
  have ac:∀ {x1 x2 x4 t j},PH.le u t->Qh P id ops C (Hm P fn Post kk) 3 [q1,q2,r2] (J.put4 d1 d2 d3 d4 x1 x2 (.v V) x4) t j:=fun {x1 x2 x4 t j} I a H W=>by
   simp only[A1g,A11,or_false]at H;rcases H with rfl|rfl|rfl
   ·rw[A3a];exact Y fun g K F=>a1 I ⟨j,F,trivial⟩
   ·grind
   rw[A5e (by simpa using ag),A5e (by simpa using a9),A3a];exact a0 fun g K F=>a5 I ⟨j,F,trivial⟩
  intro a H W;simp only[A1g,A11,or_false]at H;rcases H with rfl|rfl|rfl|rfl
  ·rw[A3a];exact Y fun g K F=>ab (PH.le_refl _) ⟨m,F,trivial⟩
  ·grind
  ·rw[A5e (by simpa using af),A5e (by simpa using a8),A3a];exact a4 _ (PH.le_refl _) fun ae X=>ac X
  grind
 cases h
end rules
end
section
structure Aam (u:PH)(v cv:Value)(T:zC)(R:List Br)(F:List Al)(lab:Int)(C:CF)(K k:Nat):Prop where
 sch:H5 u v T R F lab
 ok:Bl u T R F lab
 cof:No u cv C K
 sC:CFS C
 vC:CFV C
 K:K<=10000
 bel:∀ p,C.s p≠0->Adm F lab p
 mom:Ai6 C k
 p24:∀ P,Nn F C P->P.length<=24
 lab0:0<=lab
section
variable {u:PH} {v cv:Value} {T:zC} {R:List Br} {F:List Al} {lab:Int} {C:CF} {K k:Nat} {P:List Par}
def Yo (C:CF)(P:List Par)(i:Nat):zM:=((An P).take (i+1)).map (As C none)::(P.take i).map fun p=>(An P).map (As C (some p))
def An3:Yo C P P.length=Lh C P:=by
 unfold Yo Lh;rw[show (An P).take (P.length+1)=An P by rw[A1j (by rw[Cp];omega)],A15]
 conv=>rhs;rw[show An P=none::P.map some from rfl]
 rw[A2u,A9h];rfl
def Ajb (h:Aam u v cv T R F lab C K k) :
 Ag prog 184 [v,cv] u PH.mt fun r u' m'=>∃ (P:List Par) (pa:zP) (pc:Nat) (xa:zP) (xc:Nat) (ra:zP) (rc:Nat) (z:List (Value×zV)),Nn F C P /\
  r=.tuple #[.agg #[.slice pa P.length pc,.slice xa (P.length+1) xc,.slice ra (P.length+1) rc],zO]/\Ac u' (.slice pa P.length pc) 2 (P.map Ap)/\z.map (·.2)=(Lh C P).map txV /\
  Bag m' (Bu (.slice ra (P.length+1) rc,txV ((An P).map (Bh C)))::oT (.slice xa (P.length+1) xc) z::z.map Bu):=by
 have b5:=Ahd h.sch h.ok h.cof h.sC h.vC (A04 h.K oV) h.bel;have ao:=h.p24;have hK:=h.K;have ch:=h.lab0;have hS:=fun (u':PH) (l:PH.le u u') (p:Par)=>A0d p (h.cof.mono l) oV;have hQ:=fun (u':PH) (l:PH.le u u') (p q:Par)=>Afd p q (h.cof.mono l) oV;obtain⟨xa,xc,xb,xd,xe,xf,rfl,_⟩:=id h.sch;obtain⟨a1,n1,c1,a2,n2,c2,rfl⟩:=id h.cof.opn;refine Ag.o func184<|G.c call232 b5 ?_;intro v1 u1 l1 hp;obtain⟨ps,P,rfl,hL,_,a4⟩:=hp.resolve_left fun⟨_,L,h1,a4⟩=>by have:=ao L a4;omega
 have cg:=ao P a4;have ci:=Cp P;obtain⟨pa,pc,rfl⟩:=hL.opn;rw[A03]at hL⊢;refine G.nF 0 0<|G.lF lab 0<|G.fan [0,1,2,5,6,10] 3 4 7 8 [9,11] 33 34 37 38 ⟨34,1,16,zE,[zS (Ae C.c)]⟩ (fun g=>⟨46,1,24,zN,[.slice (zA g) 1 1]⟩) ⟨34,1,16,zE,[zS (Ae (C.s B7))]⟩ (zS (Ae (C.s B7))) _ _ kV
  (fun _ _ _ _=>kV) ⟨E7 _,rfl,Nat.one_pos,Nat.one_pos,mV⟩ (fun _ _ _ _=>kV) (fun _=>⟨B5 _ _ _,rfl,Nat.one_pos,Nat.one_pos,mV⟩) (fun _ _ _ _=>kV) call233 (fun u' l=>hS u' (l1.trans l) B7) (fun _ _ _=>kV) ⟨E7 _,rfl,Nat.one_pos,Nat.one_pos,mV⟩ ?_
 intro g3 g4 g5 u2 m5 l2 ax;refine G.l (ι:=Nat×(zP×Nat)×(zP×Nat)×List (Value×zV)) (fun i=>[(3,.p 1 0),(4,.p 2 0),(6,sV pa P.length pc),(8,.p 6001 0),(9,.p 7010 0),(40,sV pa P.length pc),(41,iV P.length),(42,iV i.1)])
  (fun i=>[(1,⟨38,[tV (Ae C.c),sV a1 n1 c1,sV a2 n2 c2]⟩),(2,⟨57,[sV none 0 0,sV none 0 0,sV none 0 0]⟩),(6001,⟨118,[iV (-1),tV []]⟩),
   (7010,⟨57,[.v (.slice pa P.length pc),.v (.slice i.2.1.1 (i.1+1) i.2.1.2),.v (.slice i.2.2.1.1 (i.1+1) i.2.2.1.2)]⟩)])
  (fun i u' m'=>i.1<=P.length/\i.2.2.2.map (·.2)=(Yo C P i.1).map txV/\Bag m' (Bu (.slice i.2.2.1.1 (i.1+1) i.2.2.1.2,txV (((An P).take (i.1+1)).map (Bh C)))::oT (.slice i.2.1.1 (i.1+1) i.2.1.2) i.2.2.2::i.2.2.2.map Bu)) (fun i=>P.length-i.1)
  (0,(some ⟨g4,0,none⟩,1),(some ⟨g5,0,none⟩,1),[(.slice (zA g3) 1 1,txV [C.c])])
  ⟨oV,by unfold Yo An;rfl,ax⟩ ?_
 clear ax;rintro J ⟨i,⟨ya,V⟩,⟨ra,rc⟩,z⟩ hJ u5 m5 l5 ⟨hi,E,H⟩;simp only at hi E H hJ;have bf:=(l1.trans l2).trans l5;have b7:z.length=i+1:=by have:=congrArg List.length E;rw[A03,A03]at this;rw[this];simp[Yo];omega
 by_cases b3:i<P.length
 ·refine G.lT i P.length ?_;obtain⟨p,af⟩:∃ p,P[i]?=some p:=⟨_,A01 b3⟩;have b9:(An P).take (i+1+1)=(An P).take (i+1)++[some p]:=by rw[Ex,Ex,A1n,af];simp
  obtain⟨bp,op,e0,ep⟩:=Ac.at' (hL.mono (l2.trans l5)) (j:=i) (e:=Ap p) (by simp[af]);subst e0;refine G.N P.length pc b3 ep ?_;obtain⟨go,co,eo⟩:=H.ptr 1 rfl (fun e=>by
   have:(z.map (·.1)).length=0:=by rw[show z.map (·.1) = [] from e];rfl
   rw[A03]at this;omega)
  have bn:(Value.slice ya (i+1) V)=.slice (zA go) (i+1) co:=by
   have e1:(oT (.slice ya (i+1) V) z).v=Value.slice ya (i+1) V:=rfl;rw[e1]at eo;rw[eo];have:(oT (.slice ya (i+1) V) z).es.length=i+1:=by show (z.map (·.1)).length=_;rw[A03,b7]
   rw[this]
  cases bn;obtain⟨⟨v0,e0⟩,a0⟩:∃ x,z[0]?=some x:=⟨_,A01 oV⟩;have bw:e0=txV (((An P).take (i+1)).map (As C none)):=by
   have h1:=congrArg (fun l=>l[0]?) E;simp only[A1a,a0]at h1;simpa[Yo] using h1
  subst bw;have ae:(txV (((An P).take (i+1)).map (As C none))).length=i+1:=by rw[Bgm,A03,A1e];omega
  obtain⟨z0,aj,ez⟩:=H.shape 2 (x:=Bu (v0,txV (((An P).take (i+1)).map (As C none)))) (by simp[a0]);simp only[Bu]at ez;rw[ae]at ez;subst ez;have b4:ElP m5 go (0+0*1) (.slice z0 (i+1) aj):=H.el 1 (x:=oT (.slice (zA go) (i+1) V) z) rfl rfl (by show (z.map (·.1))[0]?=_;rw[A1a,a0];rfl);refine G.o (i+1) V b4<|G.c call233 (hS u5 bf p) ?_;rintro v6 u6 l6 rfl;refine G.B 34 1 16 zE [zS (Ae (C.s p))] (E7 _) ?_;intro g7 u7 l7 e7;obtain⟨m0,U,I⟩:=H.focus 2 (x:=Bu (.slice z0 (i+1) aj,txV (((An P).take (i+1)).map (As C none)))) (by simp[a0]);rw[D6]at U;refine G.append 34 1 16 zE m0 (txV (((An P).take (i+1)).map (As C none))) [zS (Ae (C.s p))] (.slice z0 (i+1) aj) g7 0 1 1 kV rfl rfl oV U e7 (E7 _) rfl oV (by rw[ae];omega) (by rw[ae];omega) ?_;intro v8 m8 a3;have e8:txV (((An P).take (i+1)).map (As C none))++[zS (Ae (C.s p))]=txV (((An P).take (i+1+1)).map (As C none)):=by rw[b9,A1i,Md];rfl
  rw[e8]at a3;have bx:(txV (((An P).take (i+1+1)).map (As C none))).length=i+1+1:=by rw[Bgm,A03,A1e];omega
  obtain⟨a8,c8,rfl⟩:=a3.shape;rw[bx]at a3⊢;have ay:=I (Bu (.slice a8 (i+1+1) c8,txV (((An P).take (i+1+1)).map (As C none)))) m8 a3;obtain⟨m1,ah,Z⟩:=ay.focus 1 rfl;rw[Aaa]at ah;refine G.a go 0 (i+1) V 0 1 oV<|G.storeA 1 m1 _ go (i+1) V 0 (.slice a8 (i+1+1) c8) kV ah gV rfl rfl ?_;intro m9 bu;have az:=Z (oT (.slice (zA go) (i+1) V) (z.set 0 (.slice a8 (i+1+1) c8,txV (((An P).take (i+1+1)).map (As C none))))) m9 (by rw[Aaa,A2g];exact bu);obtain⟨m,Q⟩:∃ r,r=z.set 0 (.slice a8 (i+1+1) c8,txV (((An P).take (i+1+1)).map (As C none))):=⟨_,rfl⟩;have a9:Bag m9 (Bu (.slice ra (i+1) rc,txV (((An P).take (i+1)).map (Bh C)))::oT (.slice (zA go) (i+1) V) m::m.map Bu):=by
   rw[Q,A2g];simpa using az
  have c3:m.map (·.2)=(((An P).take (i+1+1)).map (As C none)::(P.take i).map fun p=>(An P).map (As C (some p))).map txV:=by
   rw[Q,A2g,E];rfl
  have b8:m.length=i+1:=by rw[Q,A21];exact b7
  clear az ay I Z U ah H E a0 b4;have bg:=(bf.trans l6).trans l7;refine G.c call233 (hS u7 bg p) ?_;rintro cr cl ai rfl;refine G.buildM 34 1 16 zE [zS (Ae (C.s p))] kV (E7 _) rfl oV mV mV ?_;intro bo cj a7;have bd:=bg.trans ai;have ap:=hL.mono ((((l2.trans l5).trans l6).trans l7).trans ai);refine G.l (ι:=Nat×(zP×Nat)) (fun j=>[(3,.p 1 0),(4,.p 2 0),(6,sV (some ⟨bp,op,none⟩) P.length pc),(8,.p 6001 0),(9,.p 7010 0),(11,.p 10002 0),(12,sV j.2.1 (j.1+1) j.2.2),(40,sV (some ⟨bp,op,none⟩) P.length pc),(41,iV P.length),(42,iV i),(62,sV (some ⟨bp,op,none⟩) P.length pc),(63,iV P.length),(64,iV j.1)])
   (fun j=>[(1,⟨38,[tV (Ae C.c),sV a1 n1 c1,sV a2 n2 c2]⟩),(2,⟨57,[sV none 0 0,sV none 0 0,sV none 0 0]⟩),(6001,⟨118,[iV (-1),tV []]⟩),
    (7010,⟨57,[.v (.slice (some ⟨bp,op,none⟩) P.length pc),.v (.slice (zA go) (i+1) V),.v (.slice ra (i+1) rc)]⟩),(10002,⟨118,[.v (zI p.1),.v (zS p.2)]⟩)])
   (fun j u' m'=>j.1<=P.length/\Bag m' (Bu (.slice j.2.1 (j.1+1) j.2.2,txV (((An P).take (j.1+1)).map (As C (some p))))::Bu (.slice ra (i+1) rc,txV (((An P).take (i+1)).map (Bh C)))::oT (.slice (zA go) (i+1) V) m::m.map Bu)) (fun j=>P.length-j.1)
   (0,some ⟨bo,0,none⟩,1) ⟨oV,m9,a7,a9⟩ ?_
  clear a9 a7;rintro J2 ⟨j,la,lc⟩ ad cd ck a6 ⟨hj,a5⟩;simp only at hj a5 ad;have aa:=bd.trans a6;by_cases b0:j<P.length
  ·refine G.lT j P.length ?_;obtain⟨q,b6⟩:∃ q,P[j]?=some q:=⟨_,A01 b0⟩;have c4:(An P).take (j+1+1)=(An P).take (j+1)++[some q]:=by rw[Ex,Ex,A1n,b6];simp
   obtain⟨bq,oq,e0,eq⟩:=Ac.at' (ap.mono a6) (j:=j) (e:=Ap q) (by simp[b6]);cases e0;refine G.N P.length pc b0 eq<|G.c call54 (hQ cd aa p q) ?_;rintro cs cm c5 rfl;refine G.B 34 1 16 zE [zS (Ae (C.t (Ay p q)))] (E7 _) ?_;intro br cn c6 bi;obtain⟨m0,U,I⟩:=a5.focus 0 rfl;rw[D6]at U;have b1:(txV (((An P).take (j+1)).map (As C (some p)))).length=j+1:=by rw[Bgm,A03,A1e];omega
   refine G.append 34 1 16 zE m0 (txV (((An P).take (j+1)).map (As C (some p)))) [zS (Ae (C.t (Ay p q)))] (.slice la (j+1) lc) br 0 1 1 kV rfl rfl oV U bi (E7 _) rfl oV (by rw[b1];omega) (by rw[b1];omega) ?_;intro ct cb W;have bj:txV (((An P).take (j+1)).map (As C (some p)))++[zS (Ae (C.t (Ay p q)))]=txV (((An P).take (j+1+1)).map (As C (some p))):=by rw[c4,A1i,Md];rfl
   rw[bj]at W;have bz:(txV (((An P).take (j+1+1)).map (As C (some p)))).length=j+1+1:=by rw[Bgm,A03,A1e];omega
   obtain⟨ak,am,rfl⟩:=W.shape;rw[bz]at W⊢;have aq:=I (Bu (.slice ak (j+1+1) am,txV (((An P).take (j+1+1)).map (As C (some p))))) cb W;exact G.i j<|G.b (ad (j+1,ak,am) _ _ _ cV ((a6.trans c5).trans c6) ⟨dV,aq⟩ dV)
  obtain rfl:j=P.length:=oV
  refine G.lF P.length P.length ?_;clear ad;rw[show (An P).take (P.length+1)=An P by rw[A1j oV]]at a5;refine G.B 46 1 24 zN [.slice la (P.length+1) lc] (B5 _ _ _) ?_;intro bs ce bb bk;obtain⟨m0,U,I⟩:=a5.focus 2 rfl;rw[Aaa]at U;refine G.k 46 1 24 zN m0 (m.map (·.1)) [.slice la (P.length+1) lc] (.slice (zA go) (i+1) V) bs 0 1 1 U bk (B5 _ _ _) ?_;intro cu bh X;have em:m.map (·.1)++[Value.slice la (P.length+1) lc]=(m++[(Value.slice la (P.length+1) lc,txV ((An P).map (As C (some p))))]).map (·.1):=mV
  rw[em]at X;obtain⟨ab,ac,rfl⟩:=X.shape;have el:((m++[(Value.slice la (P.length+1) lc,txV ((An P).map (As C (some p))))]).map (·.1)).length=i+1+1:=by simp[b8]
  rw[el]at X⊢;have ar:=I (oT (.slice ab (i+1+1) ac) (m++[(Value.slice la (P.length+1) lc,txV ((An P).map (As C (some p))))])) bh X;have au:=Bag.perm S8 ar;have be:=aa.trans bb;refine G.c call54 (hQ ce be B7 p) ?_;rintro cw cp c7 rfl;refine G.B 34 1 16 zE [zS (Ae (C.t (Ay B7 p)))] (E7 _) ?_;intro bt cq ca bl;have av:Bag bh (Bu (.slice ra (i+1) rc,txV (((An P).take (i+1)).map (Bh C)))::oT (.slice ab (i+1+1) ac) (m++[(Value.slice la (P.length+1) lc,txV ((An P).map (As C (some p))))])::(m++[(Value.slice la (P.length+1) lc,txV ((An P).map (As C (some p))))]).map Bu):=by simpa using au
  obtain⟨m2,ba,ag⟩:=av.focus 0 rfl;rw[D6]at ba;have b2:(txV (((An P).take (i+1)).map (Bh C))).length=i+1:=by rw[Bgm,A03,A1e];omega
  refine G.append 34 1 16 zE m2 (txV (((An P).take (i+1)).map (Bh C))) [zS (Ae (C.t (Ay B7 p)))] (.slice ra (i+1) rc) bt 0 1 1 kV rfl rfl oV ba bl (E7 _) rfl oV (by rw[b2];omega) (by rw[b2];omega) ?_;intro cx cc Y;have bm:txV (((An P).take (i+1)).map (Bh C))++[zS (Ae (C.t (Ay B7 p)))]=txV (((An P).take (i+1+1)).map (Bh C)):=by rw[b9,A1i,Md];rfl
  rw[bm]at Y;have c0:(txV (((An P).take (i+1+1)).map (Bh C))).length=i+1+1:=by rw[Bgm,A03,A1e];omega
  obtain⟨al,an,rfl⟩:=Y.shape;rw[c0]at Y⊢;have aw:=ag (Bu (.slice al (i+1+1) an,txV (((An P).take (i+1+1)).map (Bh C)))) cc Y;refine G.i i<|G.b (hJ (i+1,(ab,ac),(al,an),m++[(Value.slice la (P.length+1) lc,txV ((An P).map (As C (some p))))]) _ _ _ cV (((((((l5.trans l6).trans l7).trans ai).trans a6).trans bb).trans c7).trans ca) ⟨dV,?_,aw⟩ dV);dsimp only;rw[A1i,c3];unfold Yo;rw[show P.take (i+1)=P.take i++[p] by rw[A1n,af];rfl];simp
 obtain rfl:i=P.length:=oV
 refine G.lF P.length P.length ?_;rw[An3]at E;rw[show (An P).take (P.length+1)=An P by rw[A1j oV]]at H;exact G.r (.tuple #[.agg #[.slice pa P.length pc,.slice ya (P.length+1) V,.slice ra (P.length+1) rc],zO]) ⟨P,pa,pc,ya,V,ra,rc,z,a4,rfl,hL.mono (l2.trans l5),E,H⟩
end
end
def Iz {u:PH}{T:zC}{R:List Br}{F:List Al}{lab:Int}(ok:Bl u T R F lab):∀ l:Nat,lab=(l:Int)->l<T.length:=fun l e=>by
 obtain⟨n,h⟩:=ok.l2 l e;exact (A05.1 h).1
def Au1:SmW 2:=⟨jV,jV⟩
section
def R4 {q:Rat}(h:0<q):0<q.num:=by
 have j:0<=q.num:=Rat.num_nonneg.2 (Bat h);have m:q.num≠0:=fun e=>by
  rw[A4r]at e;rw[e]at h;exact absurd h jV
 omega
def Atv {u:PH}{p q:Rat}(ht:Hx u)(hp:Tx p)(m:Tx q)(hs:Tx (p+q)):Fn0 prog 117 [zS (Ae p),zS (Ae q)] u fun v _=>v=.tuple #[zS (Ae (p+q)),zO]:=by
 have h:Fn0 prog 185 [zS (Ae p),zS (Ae q),.func (.func 129) #[] #[]] u fun v _=>v=.tuple #[zS (Ae (p+q)),zO]:=by
  refine Fn0.o func185<|G.B 34 1 16 zE [zS (Ae p),zS (Ae q)] (Gc [Ae p,Ae q]) ?_;intro g L I e1;have hS:Cj L (.slice (zA g) 2 2) ([p,q].map Ae):=⟨_,2,rfl,A08 _,fun j e hj=>⟨g,0,rfl,e1 j e hj⟩⟩;refine G.c call234 (Ajw hS (by intro x t;simp at t;rcases t with rfl|rfl;exact hp;exact m) mV) ?_;rintro v2 u2 l2 rfl;refine G.c call133 (Gs hp) ?_;intro v3 u3 l3 z;obtain⟨b3,a3,n3,c3,V,P,a1,Y,rfl⟩:=z.opn;refine G.c call133 (Gs m) ?_;intro v4 u4 J E;obtain⟨b4,a4,n4,c4,W,Q,a2,Z,rfl⟩:=E.opn;refine G.c call129 (Lq (z.mono J) E (hp.sz.mono oV) (m.sz.mono oV)) ?_;intro v5 u5 l5 H;obtain⟨b5,a5,n5,c5,X,U,a6,a0,rfl⟩:=H.opn;refine G.c call71 (Uf (ht.mono ((((I.trans l2).trans l3).trans J).trans l5)) H hs) ?_;rintro v6 u6 l6 rfl;exact G.r _ ⟨rfl,rfl⟩
 refine Fn0.o func117<|G.c call185 h ?_;rintro v1 L I rfl;exact G.r _ ⟨rfl,rfl⟩
structure Ay8 (q:Rat):Prop where
 tx:Tx q
 pos:0<q
 de:De 3 2 q
def Fd.w {q:Rat}(h:Fd q):Ay8 q:=⟨h.tx,h.pos,h.de.mono oV oV⟩
section
variable {u:PH} {v cv:Value} {T:zC} {R:List Br} {F:List Al} {lab:Int} {C:CF} {K k:Nat} {q:Rat}
theorem An9 (h:Aam u v cv T R F lab C K k)(hq:Ay8 q) :
 Ag prog 116 [v,cv,zS (Ae q)] u PH.mt fun r u' m'=>∃ (P:List Par) (pa:zP) (pc:Nat) (xa:zP) (xc:Nat) (ra:zP) (rc:Nat) (rows:List (Value×zV)),Nn F C P /\
  r=.tuple #[.agg #[.slice pa P.length pc,.slice xa (P.length+1) xc,.slice ra (P.length+1) rc],zI (if k=0 then 12 else 0)]/\Ac u' (.slice pa P.length pc) 2 (P.map Ap)/\rows.map (·.2)=(Lh C P).map txV /\
  Bag m' (Bu (.slice ra (P.length+1) rc,txV ((An P).map (Bh C)))::oT (.slice xa (P.length+1) xc) rows::rows.map Bu):=by
 have hmx:=Ajb h;have hS:=h.mom;obtain⟨xa,xc,xb,xd,xe,xf,rfl,_⟩:=id h.sch;obtain⟨a1,n1,c1,a2,n2,c2,rfl⟩:=id h.cof.opn;refine Ag.o func116 ?_;refine G.callO _ _ kV call184 hmx ?_;rintro v1 u1 m1 l1 ⟨P,pa,pc,ya,yc,ra,rc,rows,hPL,rfl,hP,hrows,hbag⟩ _;rw[By];refine G.nF 0 0 ?_;refine G.c call169 (Gu hq.tx) ?_;rintro v2 u2 l2 rfl;refine G.c call103 (S7 hq.tx) ?_;rintro v3 u3 l3 rfl;have hqn:sgn q.num=1:=C5 (R4 hq.pos);refine G.kF (sgn q.num) 0 ?_;refine G.c call103 (S7 hS.tx) ?_;rintro v4 u4 l4 rfl;by_cases h0:k=0
 ·rw[if_pos h0];have hz:sgn C.c.num=0:=A0g.2 (by rw[hS.c,h0];rfl);refine G.kT (sgn C.c.num) 0 ?_;exact G.r (.tuple #[.agg #[.slice pa P.length pc,.slice ya (P.length+1) yc,.slice ra (P.length+1) rc],zI 12]) ⟨P,pa,pc,ya,yc,ra,rc,rows,hPL,rfl,hP.mono ((l2.trans l3).trans l4),hrows,hbag⟩
 ·rw[if_neg h0];have hz:sgn C.c.num=1:=C5 (R4 (hS.cpos h0));refine G.kF (sgn C.c.num) 0 ?_;exact G.r (.tuple #[.agg #[.slice pa P.length pc,.slice ya (P.length+1) yc,.slice ra (P.length+1) rc],zO]) ⟨P,pa,pc,ya,yc,ra,rc,rows,hPL,rfl,hP.mono ((l2.trans l3).trans l4),hrows,hbag⟩
end
end
def K9 (m:PH)(gn:Nat)(e:Int):PH:=if e=0 then m else m.upd gn (.cells #[zN,zN,zN] 57 (0,0))
def Apo {P:Program}{T:TypeId}{z:Value}{u m:PH}{w:World}{E:Nat}{s1 s2 s3 t1 t2 t3:Value}(F:Bv u m w)(hn:m E=some (.cells #[s1,s2,s3] T (0,0)))(h1:Ax t1=true)(h2:Ax t2=true)(h3:Ax t3=true)(hz:∀ R,pv P R (.build T #[])=some (.agg #[t1,t2,t3]))(hs:szB P T=some 3)
 {Q:Exit->Act->World->Prop} {I J:Oper} (p0:I.op=.build T #[]) (d0:I.dst=some 4) (g0:I.guard=none) (p1:J.op=.store T (.tmp 1) (.tmp 4)) (Y:J.dst=none) (g1:J.guard=none) {id:Nat} {a:Act} (ha:a.eval (.tmp 1)=.pointer (zA E)) (hl:4<a.tmps.size)
 (hk:∀ X w',X.defers=a.defers->Bv u (m.upd E (.cells #[t1,t2,t3] T (0,0))) w'->B0 u m w u (m.upd E (.cells #[t1,t2,t3] T (0,0))) w'->Q .normal X w'):(Code.region id #[I,J] false).wp P Q a w:=by
 obtain⟨a1,a2,C,pos,after,U⟩:=I;obtain⟨Z,a0,h,t,e,K⟩:=J;simp only at p0 d0 g0 p1 Y g1;subst p0 d0 g0 p1 Y g1;have e0:(execOp a.eval ⟨some 4,.build T #[],C,pos,after,none⟩).run P w=.ok (.value (.agg #[t1,t2,t3])) w:=Agc (hz _) w;have V:(a.put (some 4) (.agg #[t1,t2,t3])).eval (.tmp 1)=.pointer (zA E):=by
  rw[<-ha];simp[Act.eval,Act.put]
 have W:(a.put (some 4) (.agg #[t1,t2,t3])).eval (.tmp 4)=.agg #[t1,t2,t3]:=by
  simp[Act.eval,Act.put,hl]
 have j:∀ x∈(#[t1,t2,t3]:Array Value).toList,Ax x=true:=fun x L=>by
  simp at L;rcases L with rfl|rfl|rfl<;>assumption
 obtain⟨k1,k2⟩:=F.setM hn j;have e1:(execOp (a.put (some 4) (.agg #[t1,t2,t3])).eval ⟨none,.store T (.tmp 1) (.tmp 4),h,t,e,none⟩).run P w=.ok .skip (w.setRow E #[t1,t2,t3]):=by
  have H:=run_storeCells_at P E 0 T [t1,t2,t3] 0 #[s1,s2,s3] w (F.pm E _ hn) mV (fun x L=>Gl (j x (by simpa using L)));simp only[execOp,V,W];simp[Instr.storeAt,Instr.sureAddr,storeVar,Bf hs,Value.cells]at H⊢;rw[H];rfl
 refine wp_region ?_;refine .inl ?_;show Oper.upon P ⟨some 4,.build T #[],C,pos,after,none⟩ a _ _ ((execOp a.eval ⟨some 4,.build T #[],C,pos,after,none⟩).run P w);rw[e0,Oper.upon_value];show wpOps P _ _ [1] (a.put (some 4) (.agg #[t1,t2,t3])) w;refine .inl ?_;show Oper.upon P ⟨none,.store T (.tmp 1) (.tmp 4),h,t,e,none⟩ (a.put (some 4) (.agg #[t1,t2,t3])) _ _ ((execOp (a.put (some 4) (.agg #[t1,t2,t3])).eval ⟨none,.store T (.tmp 1) (.tmp 4),h,t,e,none⟩).run P w);rw[e1,Oper.upon_skip];exact hk _ _ rfl k1 k2
theorem Aja {u m:PH}{ge gn:Nat}{e:Int}{s1 s2 s3:Value}(he:m ge=some (.cells #[zI e] 39 (0,0)))(hn:m gn=some (.cells #[s1,s2,s3] 57 (0,0)))(h1:Ax s1=true)(h2:Ax s2=true)(h3:Ax s3=true) :
 Aix prog 115 [.pointer (zA ge),.pointer (zA gn)] u m (fun u' m'=>u'=u/\m'=K9 m gn e):=by
 intro w hgd;refine (callsDIn_of_wp (R:=fun e' w'=>∃ v u' m',e'=.returned v/\Bv u' m' w'/\B0 u m w u' m' w'/\u'=u/\m'=K9 m gn e) func115 rfl trivial (wpIn_wide.2 ?_) rfl).mono (fun e' md w' h=>h);have hl:∀ ev:Operand->Value,∀ o:Oper,o.op=.load 39 (.tmp 0)->ev (.tmp 0)=.pointer (zA ge)->(execOp ev o).run prog w=.ok (.value (zI e)) w:=fun ev o ho hv=>by
  obtain⟨dst,opp,type,pos,after,guard⟩:=o;simp only at ho;subst ho;have hel:ElP m ge 0 (zI e):=fun i x hi=>by
   match i,hi with
   |0,hi=>exact⟨_,_,_,he,by simpa[Value.cells] using hi⟩
  have hr:=Kj (P:=prog) (t:=39) (k:=none) kV rfl hel hgd.pm;simp[execOp,Instr.loadAt,Instr.sureAddr,hv];rw[hr];rfl
 have hb:∀ ev:Operand->Value,∀ o:Oper,o.op=.binOp .neq 39 (.tmp 2) (.const zO) 39->ev (.tmp 2)=zI e->ev (.const zO)=zO->(execOp ev o).run prog w=.ok (.value (.bool (decide (e≠0)))) w:=fun ev o ho hv hv2=>by
  obtain⟨dst,opp,type,pos,after,guard⟩:=o;simp only at ho;subst ho;have hg:∀ t X Y,(eqGuard .neq t X Y (zI e) zO).run prog w=.ok () w:=fun t X Y=>C0 t X Y w;have hr:∀ t,(binOp .neq t (zI e) zO).run prog w=.ok (.bool (decide (e≠0))) w:=fun t=>by
   simp[binOp,Op.intCmp]
   try (rw[A9j];simp)
  simp[execOp,hv,hv2,hg,hr]
 refine wp_seq (wp_region ?_);refine .inl ?_;show Oper.upon _ _ _ _ _ ((execOp _ _).run _ _);rw[hl _ _ rfl rfl,Oper.upon_value];refine .inl ?_;show Oper.upon _ _ _ _ _ ((execOp _ _).run _ _);rw[hb _ _ rfl rfl rfl,Oper.upon_value];by_cases h0:e=0
 ·rw[show decide (e≠0)=false by simp[h0]];refine wp_cond_false rfl (wp_skip ?_);refine bodyPost_end (results_none rfl _ _ _) rfl ?_;exact⟨_,_,_,rfl,hgd,B0.refl _ _ _,rfl,by unfold K9;rw[if_pos h0]⟩
 ·rw[show decide (e≠0)=true by simp[h0]];refine wp_cond_true rfl ?_;refine Apo (z:=undef) hgd hn (t1:=zN) (t2:=zN) (t3:=zN) rfl rfl rfl (fun env=>kV) kV rfl rfl rfl rfl rfl rfl rfl (Nat.lt_of_lt_of_eq (by decide:4<5) rfl) ?_;intro a' w' hd k1 k2;refine bodyPost_end (results_none rfl _ _ _) hd ?_;exact⟨_,_,_,rfl,k1,k2,rfl,by unfold K9;rw[if_neg h0]⟩
section
variable [Cl] [Co]
section
variable {P:Program} [A6 P] {id:Nat} {ops:Array Oper} {Fin:S->PH->PH->Prop} {a d:Nat} {kk:List KI} {s:S} {u m:PH}
def Ob.loadO (K:Option Nat)(b off:Nat)(e:Value)(h:Aj P (.reg id ops true [a]::kk,s)=.load (some K) (.pointer (some ⟨b,off,none⟩)))(J:(ops[a]?).bind (·.dst)=some d)(hs:Wg K e=true)(W:ElP m b off e)(k:Fin (s.put (some d) (.v e)) u m):Ob P id ops true Fin [a] s u m:=by
 obtain⟨a0,L,R,i',l',a1,a3,o,z,E,Y,H,hv,I,j,Z⟩:=Eq h mV;simp only[A2i,A3g,KI.reg.injEq]at z;obtain⟨⟨⟨rfl,rfl,rfl,rfl,rfl⟩,rfl⟩,rfl⟩:=z;have C:o.dst=some d:=by rw[E]at J;simpa using J
 refine Ob.ask (v:=e) E Y H hv I (Aby j mV) (fun w hp=>?_) ?_
 ·obtain⟨t,X,z,U,V⟩:=Ui j;obtain⟨T,a2,Q,pos,after,F⟩:=o;simp only at z;subst z;simp[execOp,Instr.loadAt,Instr.sureAddr,U,Kj V hs W ((hp (.inl rfl)).2 (.inl rfl))]
 rw[C];exact .nil k
def Ob.storeO (sz b off:Nat)(t:TypeId)(cs:zV)(e:Value)(h:Aj P (.reg id ops true [a]::kk,s)=.store (some sz) (.pointer (some ⟨b,off,none⟩)) e)(hd:(ops[a]?).bind (·.dst)=none)(hw:L6 ops a ((ops[a]?.getD default).op)=true)(hb:m b=some (.cells cs.toArray t (0,0)))(ho:∀ x∈cs,Ax x=true)(hl:off+sz<=cs.length)(W:e.cells.size=sz)(U:e.cells.toList.all Ax=true)
 (k:Fin s u (m.upd b (.cells (cs.take off++e.cells.toList++cs.drop (off+sz)).toArray t (0,0)))):Ob P id ops true Fin [a] s u m:=by
 obtain⟨a7,a3,a4,i',l',a8,aa,o,I,F,hg,V,hv,a1,j,a6⟩:=Eq h mV;simp only[A2i,A3g,KI.reg.injEq]at I;obtain⟨⟨⟨rfl,rfl,rfl,rfl,rfl⟩,rfl⟩,rfl⟩:=I;have J:o.dst=none:=by rw[F]at hd;simpa using hd
 have a2:(ops[a]?.getD default).op=o.op:=by rw[F];rfl
 rw[a2]at hw;refine Ob.big (K:=fun v' u' m'=>u'=u/\m'=m.upd b (.cells (cs.take off++e.cells.toList++cs.drop (off+sz)).toArray t (0,0))) F hg V hv a1 (by
  obtain⟨t',X,Y,T,_⟩:=Fq j;rw[T];rfl) (fun v u' m' hK=>.inr (.inr (.inl hw))) (fun w L=>?_) (fun v u' m' a5 hK=>?_)
 ·obtain⟨t',X,Y,I,T,e3,ht⟩:=Fq j;obtain⟨R,a9,Q,pos,after,C⟩:=o;simp only at I;subst I;rw[A1o]at U;have a0:=L.pm b _ hb;have H:=run_storeCells_at P b off t e.cells.toList 0 cs.toArray w a0 (by simp[W];omega) (fun x z=>Gl (U x z));simp only[A3s,A3o,W,A3t]at H;have E:∀ x∈(cs.take off++e.cells.toList++cs.drop (off+sz)).toArray.toList,Ax x=true:=by
   intro x z;simp only[A3t,A1h]at z;rcases z with (z|z)|z
   ·exact ho x (A27 z)
   ·exact U x z
   exact ho x (A3x z)
  obtain⟨g1,g2⟩:=L.setM hb E;unfold Eg;have Z:(execOp (C2 s) ⟨R,.store t' X Y,Q,pos,after,C⟩).run P w=.ok .skip (w.setRow b (cs.take off++e.cells.toList++cs.drop (off+sz)).toArray):=by
   simp only[execOp,T,e3];simp only[A2k]at H⊢;simp[Instr.storeAt,Instr.sureAddr,storeVar,Bf ht,W,H]
  rw[Z];exact⟨u,_,g1,g2,rfl,rfl⟩
 obtain⟨rfl,rfl⟩:=hK;rw[J];exact .nil k
end
def Axk {m:PH}{g:Nat}{o:Obj}(h:m g=some o):m.upd g o=m:=by
 funext k
 by_cases e:k=g
 ·subst e;rw[Ab,h]
 rw[Ad _ _ e]
def Ap9 (st:List KI×S)(d0 d1:Nat):Bool:=match st with
 |(.code (.region _ ops true)::_,s)=>Alo ops s [] [0,1,2,3] []&&bef ops ops.size 2 0&&bef ops ops.size 3 0&&bef ops ops.size 3 1&&bef ops ops.size 3 2&&decide ((ops[0]?).bind (·.dst)=some d0/\(ops[1]?).bind (·.dst)=some d1/\(ops[2]?).bind (·.dst)=none/\(ops[3]?).bind (·.dst)=none)&&decide (d0≠d1) &&
  L6 ops 2 ((ops[2]?.getD default).op)&&L6 ops 3 ((ops[3]?.getD default).op)
 |_=>false
def atS (l:zK)(st:List KI×S)(f:S->S):List KI×S:=match st with
 |(.code (.region id ops true)::k,s)=>(.reg id ops true l::k,f s)
 |_=>st
section rules
variable {P:Program} [A6 P] {fn:Func} {Post:Ce} {st:List KI×S} {u m:PH}
def G.back2 (d0 F:Nat)(k0 k1:Option Nat)(L I:Nat)(t0 t1:TypeId)(z E:Value)(n0 n1:Nat)(h:Ap9 (adv P st) d0 F=true)
 (H0:∀ x,Aj P (atS [0] (adv P st) (fun s=>s.put (some F) x))=.load (some k0) (.pointer (zA L))) (Z:∀ x,Aj P (atS [1] (adv P st) (fun s=>s.put (some d0) x))=.load (some k1) (.pointer (zA I)))
 (H2:∀ x,Aj P (atS [2] (adv P st) (fun s=>(s.put (some d0) (.v z)).put (some F) x))=.store (some n0) (.pointer (zA L)) z) (H3:Aj P (atS [3] (adv P st) (fun s=>(s.put (some d0) (.v z)).put (some F) (.v E)))=.store (some n1) (.pointer (zA I)) E)
 (a7:Wg k0 z=true) (Y:Wg k1 E=true) (R:m L=some (.cells z.cells t0 (0,0))) (K:m I=some (.cells E.cells t1 (0,0))) (a4:z.cells.size=n0) (a5:E.cells.size=n1) (a2:z.cells.toList.all Ax=true) (a3:E.cells.toList.all Ax=true)
 (k:G P fn Post (atS [] (adv P st) (fun s=>(s.put (some d0) (.v z)).put (some F) (.v E))) u m):G P fn Post st u m:=by
 refine G.stp ⟨?_⟩;generalize adv P st=st' at h H0 Z H2 H3 k;unfold Ap9 at h;split at h
 ·rename_i id ops kk s;simp only[A1m]at h;obtain⟨⟨⟨⟨⟨⟨⟨⟨h1,a0⟩,ad⟩,a9⟩,Q⟩,hd⟩,X⟩,w2⟩,w3⟩:=h;obtain⟨a1,W,aa,ab⟩:=of_decide_eq_true hd;have X:=of_decide_eq_true X;simp only[atS]at H0 Z H2 H3 k;have J:∀ (b:Nat) (t:TypeId) (e:Value),m b=some (.cells e.cells t (0,0))->ElP m b 0 e:=fun b t e hb i x hi=>⟨_,_,_,hb,by simpa using hi⟩;have U:∀ e:Value,e.cells.toList.all Ax=true->∀ x∈e.cells.toList,Ax x=true:=fun e h=>by rwa[A1o]at h
  have V:∀ (b:Nat) (t:TypeId) (e:Value) (n:Nat),e.cells.size=n->m b=some (.cells e.cells t (0,0))->m.upd b (.cells (e.cells.toList.take 0++e.cells.toList++e.cells.toList.drop (0+n)).toArray t (0,0))=m:=fun b t e n hn hb=>by
   rw[A2b (by rw[A3o,hn];omega)];simp only[A53,A3q,A1x,A5x];exact Axk hb
  have T:∀ s:S,s=s.put (some F) (s.tm F):=fun s=>S.ext' rfl (funext fun t=>by
   by_cases e:t=F
   ·subst e;rw[Az]
   rw[Ct _ _ _ e]) rfl
  have a8:∀ s:S,s=s.put (some d0) (s.tm d0):=fun s=>S.ext' rfl (funext fun t=>by
   by_cases e:t=d0
   ·subst e;rw[Az]
   rw[Ct _ _ _ e]) rfl
  have pc:∀ (s:S) (x y:SV),(s.put (some F) y).put (some d0) x=(s.put (some d0) x).put (some F) y:=fun s x y=>Afo s y x (fun j hj=>by cases hj;intro e;cases e;exact X rfl);have pp:∀ (s:S) (x y:SV),(s.put (some F) x).put (some F) y=s.put (some F) y:=fun s x y=>S.ext' rfl (funext fun t=>by
   by_cases e:t=F
   ·subst e;rw[Az,Az]
   rw[Ct _ _ _ e,Ct _ _ _ e,Ct _ _ _ e]) rfl
  have ae:∀ (s:S) (x y:SV),(s.put (some d0) x).put (some d0) y=s.put (some d0) y:=fun s x y=>S.ext' rfl (funext fun t=>by
   by_cases e:t=d0
   ·subst e;rw[Az,Az]
   rw[Ct _ _ _ e,Ct _ _ _ e,Ct _ _ _ e]) rfl
  have s2:∀ {Fin:S->PH->PH->Prop} (x:SV),Fin ((s.put (some d0) (.v z)).put (some F) x) u m->Ob P id ops true Fin [2] ((s.put (some d0) (.v z)).put (some F) x) u m:=fun {Fin} x hk =>
   Ob.storeO n0 L 0 t0 z.cells.toList z (H2 x) aa w2 (by simpa using R) (U z a2) (by rw[A3o];omega) a4 a2 (by rw[V L t0 z n0 a4 R];exact hk)
  have n3:Qh P id ops [] (Hm P fn Post kk) 1 [3] ((s.put (some d0) (.v z)).put (some F) (.v E)) u m:=fun a H _=>by
   simp only[A1g,A11,or_false]at H;subst H;rw[A3a];refine Ob.storeO n1 I 0 t1 E.cells.toList E H3 ab w3 (by simpa using K) (U E a3) (by rw[A3o];omega) a5 a3 ?_;rw[V I t1 E n1 a5 K];exact k.out
  have a6:Qh P id ops [] (Hm P fn Post kk) 2 [2,3] ((s.put (some d0) (.v z)).put (some F) (.v E)) u m:=fun a H C=>by
   simp only[A1g,A11,or_false]at H;rcases H with rfl|rfl
   ·rw[A3a];exact s2 _ n3
   have:=C 2 mV fV;rw[Q]at this;cases this
  have ac:Qh P id ops [] (Hm P fn Post kk) 2 [1,3] (s.put (some d0) (.v z)) u m:=fun a H C=>by
   simp only[A1g,A11,or_false]at H;rcases H with rfl|rfl
   ·rw[A3a];exact Ob.loadO k1 I 0 E (Z _) W Y (J I t1 E K) n3
   have:=C 1 mV fV;rw[a9]at this;cases this
  refine Sym.reg_tree A6.mx h1 (.nil ?_);show Qh P id ops [] (Hm P fn Post kk) 4 [0,1,2,3] s u m;intro a H C;simp only[A1g,A11,or_false]at H;rcases H with rfl|rfl|rfl|rfl
  ·rw[show [0,1,2,3].erase 0 = [1,2,3] from rfl,T s];refine Ob.loadO k0 L 0 z (H0 _) a1 a7 (J L t0 z R) ?_;rw[<-T s];intro a H C;simp only[A1g,A11,or_false]at H;rcases H with rfl|rfl|rfl
   ·rw[show [1,2,3].erase 1 = [2,3] from rfl];exact Ob.loadO k1 I 0 E (Z _) W Y (J I t1 E K) a6
   ·rw[show [1,2,3].erase 2 = [1,3] from rfl,T (s.put (some d0) (.v z))];refine s2 _ ?_;rw[<-T (s.put (some d0) (.v z))];exact ac
   have:=C 2 mV fV;rw[Q]at this;cases this
  ·rw[show [0,1,2,3].erase 1 = [0,2,3] from rfl,a8 s];refine Ob.loadO k1 I 0 E (Z _) W Y (J I t1 E K) ?_;rw[<-a8 s];intro a H C;simp only[A1g,A11,or_false]at H;rcases H with rfl|rfl|rfl
   ·rw[show [0,2,3].erase 0 = [2,3] from rfl];refine Ob.loadO k0 L 0 z (H0 _) a1 a7 (J L t0 z R) ?_;rw[pc];exact a6
   ·have:=C 0 mV fV;rw[a0]at this;cases this
   have:=C 2 mV fV;rw[Q]at this;cases this
  ·have:=C 0 mV fV;rw[a0]at this;cases this
  have:=C 2 mV fV;rw[Q]at this;cases this
 cases h
end rules
end
end Go.Proofs.YtemmheaocgmebaaGreatDoor
