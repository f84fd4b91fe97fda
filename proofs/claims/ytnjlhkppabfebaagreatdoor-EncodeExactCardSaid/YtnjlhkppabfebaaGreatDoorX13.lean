/- Parts of one proof, joined by a program. -/
import Derived.Test.YtnjlhkppabfebaaGreatDoorX12
import Derived.Deep.Slices
import Derived.Carry
set_option linter.defProp false
set_option linter.unusedVariables false
set_option linter.unusedSimpArgs false
set_option linter.unusedSectionVars false
set_option maxHeartbeats 16000000
namespace Go.Proofs.YtnjlhkppabfebaaGreatDoor
open Go.Proofs.Tryz
open Go.RowKit Go.MapKept
section
variable {A:List Hv}{FF:List C9}{Q:List H3}{RR:List H2}{S:List K3}{c:List UInt8}{lab:Int}{r v:Value}{u:PH}
def Bsd (a:List UInt8×Nat):Hv:=(a.1,(a.2:Int))
def Bq6 (r:Br):H2:=(r.1,r.2.1.map Int.ofNat,r.2.2)
def Bru (f:Al):C9:=((f.1:Int),(f.2.1:Int),(f.2.2:Int))
def Bqj {T:List (List UInt8×Nat)}{R:List Br}{F:List Al}(h:H5 u v T R F lab)(ok:Bl u T R F lab):R0 u v (T.map Bsd) (R.map Bq6) (F.map Bru) lab/\Tq u (T.map Bsd) (R.map Bq6):=by
 obtain⟨a,c,b,d,e,f,rfl,hT,m,hF⟩:=h;refine⟨⟨a,c,b,d,e,f,by rw[A03,A03,A03],?_,?_,?_⟩,fun x t=>?_,fun r n=>?_⟩
 ·rw[A03,A9h];exact hT
 ·rw[A03,A9h];have:R.map (Bif∘Bq6)=R.map Hs:=A41 fun r _=>by
   show Value.agg #[_,.slice r.2.2.1 (r.2.1.map Int.ofNat).length r.2.2.2]=_;rw[A03];rfl
  rw[this];exact m
 ·rw[A03,A9h];exact hF
 ·obtain⟨y,g,rfl⟩:=A1b.1 t;have:=(Aa2 (ok.att.names.word y.1 (List.mem_map_of_mem g))).2;show y.1.length<=_;omega
 obtain⟨y,g,rfl⟩:=A1b.1 n;have z:=(Aa2 (ok.rel.names.word y.1 (List.mem_map_of_mem g))).2;have j:=ok.rel.len y g;refine⟨by show y.1.length<=_;omega,by show (y.2.1.map Int.ofNat).length<=_;rw[A03];exact j,?_⟩;show Ac u (.slice y.2.2.1 (y.2.1.map Int.ofNat).length y.2.2.2) 1 (Bgt (y.2.1.map Int.ofNat));have e:Bgt (y.2.1.map Int.ofNat)=Ai y.2.1:=by unfold Bgt Ai;rw[A9h];rfl
 rw[e,A03];exact ok.rel.at' y g
def Bnn {C:CF}{K:Nat}(h:No u v C K)(E:CFS C)(F:CFV C)(W:K<=10000):∃ c S Q,Bim u v c S Q/\Bka c S Q:=by
 obtain⟨T,Q,H,J,I,L,rfl,hT,P,O,N,kT,X⟩:=h;have d:∀ p:Par,PV p->p.2.length<=9223372036854775807:=fun p hp=>by
  rcases hp.cat with e|e
  ·rw[e];exact A1t _
  have:=(Aa2 e).2;omega
 have m:∀ q:Rat,Og q=true->(Ae q).length<=9223372036854775807:=fun q R=>by
  have:=Ao1 (SB.tx R);omega
 refine⟨Ae C.c,T.map fun x=>(x.1,Ae x.2),Q.map fun x=>(x.1,Ae x.2),⟨H,J,I,L,by rw[A03,A03],by rw[A03,A9h];exact hT,by rw[A03,A9h];exact P⟩,m _ E.c,fun t n=>?_,fun t n=>?_,by rw[A03];omega,by rw[A03];omega⟩
 ·obtain⟨x,z,rfl⟩:=A1b.1 n;obtain⟨g,j⟩:=O.val x z;rw[g]at j;exact⟨d _ (F.s _ j),by show (Ae x.2).length<=_;rw[g];exact m _ (E.s _)⟩
 obtain⟨x,z,rfl⟩:=A1b.1 n;obtain⟨g,j⟩:=N.val x z;rw[g]at j;obtain⟨U,V,_⟩:=F.t _ j;exact⟨d _ U,d _ V,by show (Ae x.2).length<=_;rw[g];exact m _ (E.t _)⟩
def Bnf {u J:PH}{r I:Value}(h:Bpq u r A RR FF lab c S Q)(m:Bpq J I A RR FF lab c S Q) :
 ∃ (e:Int) (p H:Value) (L:List Par),r=.tuple #[p,.int .i64 e]/\I=.tuple #[H,.int .i64 e]/\Ac u p 2 (L.map Ap)/\Ac J H 2 (L.map Ap)/\L.length<=24:=by
 rcases h with ⟨n,rfl⟩|⟨z,⟨n,rfl⟩|⟨d,⟨b,h⟩|⟨n,rfl⟩⟩⟩
 ·rcases m with ⟨_,rfl⟩|⟨z,_⟩
  ·exact⟨_,_,_,[],rfl,rfl,Ac.nil _ _ _ _,Ac.nil _ _ _ _,mV⟩
  exact absurd z n
 ·rcases m with ⟨j,_⟩|⟨_,⟨_,rfl⟩|⟨d,_⟩⟩
  ·exact absurd z j
  ·exact⟨_,_,_,[],rfl,rfl,Ac.nil _ _ _ _,Ac.nil _ _ _ _,mV⟩
  exact absurd d n
 ·rcases m with ⟨j,_⟩|⟨_,⟨j,_⟩|⟨_,⟨_,m⟩|⟨j,_⟩⟩⟩
  ·exact absurd z j
  ·exact absurd d j
  ·rcases h with ⟨rfl,L,R,t⟩|⟨T,L,rfl,K,N,t⟩
   ·rcases m with ⟨rfl,_⟩|⟨E,F,_,_,O,g⟩
    ·exact⟨_,_,_,[],rfl,rfl,Ac.nil _ _ _ _,Ac.nil _ _ _ _,mV⟩
    have e:=t.eq g;subst e;omega
   rcases m with ⟨_,F,P,g⟩|⟨E,F,rfl,C,_,g⟩
   ·have e:=t.eq g;subst e;omega
   have e:=t.eq g;subst e;exact⟨_,_,_,_,rfl,rfl,K,C,N⟩
  exact absurd b j
 rcases m with ⟨j,_⟩|⟨_,⟨j,_⟩|⟨_,⟨b,_⟩|⟨_,rfl⟩⟩⟩
 ·exact absurd z j
 ·exact absurd d j
 ·exact absurd b n
 exact⟨_,_,_,[],rfl,rfl,Ac.nil _ _ _ _,Ac.nil _ _ _ _,mV⟩
def Blx :Bim u (.agg #[.string (mkS []),.slice none 0 0,.slice none 0 0]) [] [] []/\Bka [] [] [] :=
 ⟨⟨none,0,none,0,rfl,Ac.nil _ _ _ _,Ac.nil _ _ _ _⟩,mV,mV,mV,mV,mV⟩
def Bqv {v E r:Value}{R:List H2}{F:List C9}{ss:List (List UInt8)}(n:R0 u v A R F lab)(ok:Tq u A R)(m:Ac u E 1 (ss.map nmV))(d:∀ s∈ss,s.length<=9223372036854775807){g:PH}(h:Bk9 g r A R F lab ss) :
 ∃ f e c S Q,r=.tuple #[f,.int .i64 e]/\Bim g f c S Q/\Bka c S Q:=by
 rcases h with ⟨h0,f,rfl,k⟩|⟨_,rfl⟩
 ·have j:=Bg9 n ok m d h0;obtain⟨C,H⟩:=Bq5 (F:=F.map Bg2) (lab:=lab) j.ok j.fit;obtain⟨c,S,Q,t,z⟩:=Bnn k C H oV;exact⟨f,0,c,S,Q,rfl,t,z⟩
 exact⟨_,_,[],[],[],rfl,Blx.1,(Blx (u:=g)).2⟩
def Blj (h:Bpq u r A RR FF lab c S Q):∃ (e:Int) (a:Option Addr) (n k:Nat),r=.tuple #[.slice a n k,.int .i64 e]:=by
 obtain⟨e,p,_,L,d,_,g,_⟩:=Bnf h h;obtain⟨a,k,rfl⟩:=g.opn;exact⟨e,a,_,k,d⟩
def Bp3 (A:List Hv)(R:List H2)(F:List C9)(lab:Int)(ss:List (List UInt8))(Q:List Par):(Bk8 A R F lab ss Q).length<=Q.length+1:=by
 unfold Bk8;split
 ·rw[Bh8];exact A08 _
 simp
end
section
section
variable {P:Program}
def Bmr {t tp ti ts tr:TypeId}{k:IntKind}(u:(P.fieldsOf t).toList.map Abc = [(true,tp,0),(true,tr,2)])(N:P.underlying t=some (.struct (P.fieldsOf t)))(hp:P.stoodInHeld t=false)
 (C:(P.fieldsOf tp).toList.map Abc = [(true,ti,0),(true,ts,1)]) (j:P.underlying tp=some (.struct (P.fieldsOf tp))) (F:P.stoodInHeld tp=false) (h:szB P tp=some 2) (hi:P.underlying ti=some (.int k)) (L:P.underlying ts=some .string) (H:P.underlying tr=some .string) (d:Nat) (x:Par×List UInt8) (w:World) :
 (Op.equalIn (d+3) t (E3 x) (E3 x)).run P w=.ok true w:=by
 have e:Qj P tp=some true:=by unfold Qj;rw[j]
 unfold E3;rw[run_equalIn_struct w (d+2) t _ _ N hp];generalize (P.fieldsOf t).toList=fs at u;obtain⟨f,g,E⟩:=Akl u;subst E;simp only[A2u,A7m,A3g,Abc,A2i,bne_iff_ne,ne_eq,and_true]at u;obtain⟨⟨O,J,R⟩,Q,K,T⟩:=u;obtain⟨⟨m,n⟩,z⟩:=x;simp only[Op.eqFields,ne_eq,O,Q,not_false_eq_true,if_true,Sem.run_bind,J,K,R,T];rw[Jq e h,Result.andThen_ok,Jq e h,Result.andThen_ok];have I:=Qn C j F hi L d (m,n) (m,n) w;unfold Ap at I;have U:(#[Value.int .i64 m,.string (mkS n),.string (mkS z)].extract 0 (0+2)) = #[.int .i64 m,.string (mkS n)]:=rfl;simp only[U,I,Result.andThen_ok,decide_true,A72,A4z,if_false,Sem.run_bind];rw[Jh (Qc H) (v:=.string (mkS z)) rfl,Result.andThen_ok,Jh (Qc H) (v:=.string (mkS z)) rfl,Result.andThen_ok,Bfg H];simp
end
def Brf (x:Par×List UInt8)(w:World):(Op.equal 79 (E3 x) (E3 x)).run prog w=.ok true w :=
 Bmr (P:=prog) (t:=79) (tp:=77) (ti:=3) (ts:=9) (tr:=29) (k:=.i64) kV kV kV kV kV kV kV kV kV kV 9997 x w
def Bop {u:PH}{v H:Value}{T:List (Par×List UInt8)}(h:Ac u v 3 (T.map E3))(g:Ac u H 3 (T.map E3))(Q:T.length<=1000000) :
 Fn0 prog 28 [v,H] u fun r _=>r=.bool true:=by
 obtain⟨a,c,rfl⟩:=h.opn;obtain⟨I,C,rfl⟩:=g.opn;rw[A03]at h g⊢;refine Fn0.o func28<|G.nF T.length T.length<|G.l (ι:=Nat) (fun i=>[(0,sV a T.length c),(1,sV I T.length C),(12,iV T.length),(13,iV i)]) (fun _=>[])
  (fun i U O=>i<=T.length/\O=PH.mt) (fun i=>T.length-i) 0 ⟨oV,rfl⟩ ?_
 rintro J i N V R n ⟨hi,rfl⟩;by_cases m:i<T.length
 ·refine G.lT i T.length ?_;have d:T[i]?=some T[i]:=A01 m;obtain⟨t,E,rfl,K⟩:=Ac.at' (h.mono n) (j:=i) (e:=E3 T[i]) (by simp[d]);obtain⟨z,F,rfl,L⟩:=Ac.at' (g.mono n) (j:=i) (e:=E3 T[i]) (by simp[d]);exact G.a t E T.length c i 3 oV<|G.lU (some 3) t (E+i*3) (E3 T[i]) K<|G.a z F T.length C i 3 oV<|G.lU (some 3) z (F+i*3) (E3 T[i]) L<|G.neAgg 79 #[.int .i64 T[i].1.1,.string (mkS T[i].1.2),.string (mkS T[i].2)] #[.int .i64 T[i].1.1,.string (mkS T[i].1.2),.string (mkS T[i].2)] true kV kV kV (Brf T[i])<|G.i i<|G.b (N (i+1) _ _ _ cV n ⟨oV,rfl⟩ oV)
 obtain rfl:i=T.length:=oV;exact G.lF T.length T.length<|G.r (.bool true) ⟨rfl,rfl⟩
end
def Asx {u:PH}{s:Src}{ts:List Int}{k:Nat}{v:Value}{L:List (List UInt8)}(h:J0 u s ts)(F:k<=s.n)(g:Ac u v 1 (L.map nmV))(z:0<L.length)(C:L.length<=1000000) :
 Ag prog 34 [s.ptr,v] u (s.M k) fun v _ I=>∃ t∈L,∃ d:Nat,v=.string (mkS t)/\d<=s.n/\I=s.M d:=by
 obtain⟨a,c,rfl⟩:=g.opn;rw[A03]at g⊢;refine Ag.o func34<|G.A call10 (I4 h F z C) ?_;rintro N K J H ⟨r,d,rfl,E,m,rfl⟩ _;rw[By];obtain⟨b,off,rfl,e⟩:=Ac.at' (g.mono H) (j:=r) (e:=.string (mkS L[r])) (by simp[nmV,A01 E]);exact G.a b off L.length c r 1 E<|G.lU none b (off+r*1) (.string (mkS L[r])) e<|G.r _ ⟨L[r],A09 E,d,rfl,m,rfl⟩
def Bss:List (List UInt8):=[[],[49],[120],[88],[49,47,49,51],[49,47,49,50],[49,48,48,48,48,48,48,48,48,48],[49,48,48,48,48,48,48,48,48,49],[45,48],[114,101,100],[51,47,54],[97,98,99,100,101,102,103,104,105,106,107,108,109]]
def Brl:∀ t∈Bss,t.length<=13:=fV
def Bq0 {u:PH}{s:Src}{ts:List Int}{k:Nat}(h:J0 u s ts)(m:k<=s.n) :
 Ag prog 9 [s.ptr] u (s.M k) fun v _ E=>∃ (t:List UInt8) (d:Nat),v=.string (mkS t)/\t.length<=13/\d<=s.n/\E=s.M d:=by
 refine Ag.o func9<|G.B 9 1 16 (.string (mkS [])) ([[],[49],[120],[88],[49,47,49,51],[49,47,49,50],[49,48,48,48,48,48,48,48,48,48],[49,48,48,48,48,48,48,48,48,49],[45,48],[114,101,100],[51,47,54],[97,98,99,100,101,102,103,104,105,106,107,108,109]].map nmV) (G6 _) ?_;intro g H C j;refine G.A call34 (Asx (L:=[[],[49],[120],[88],[49,47,49,51],[49,47,49,50],[49,48,48,48,48,48,48,48,48,48],[49,48,48,48,48,48,48,48,48,49],[45,48],[114,101,100],[51,47,54],[97,98,99,100,101,102,103,104,105,106,107,108,109]]) (h.mono C) m j.listP mV mV) ?_;rintro J I F l2 ⟨t,z,d,rfl,e,rfl⟩ _;rw[By];exact G.r (.string (mkS t)) ⟨t,d,rfl,Brl t z,e,rfl⟩
section
variable {cs:List Value}{n:Nat}{t:TypeId}
def Bh4 (W:World):PH:=fun g=>W.heap[g]?
def Blg {W:World}{a:Addr}{v:Value}(h:W.cell? a=some v):∃ b off,a=⟨b,off,none⟩/\Xn (Bh4 W) b off v:=by
 obtain⟨b,off,e⟩:=a;have d:e=none:=by simpa using World.cell?_spot h
 subst d;refine⟨b,off,rfl,?_⟩;unfold World.cell? at h;simp only at h;split at h
 ·rename_i cs t fr hb;exact⟨cs,t,fr,hb,by simpa using h⟩
 cases h
section
variable {H:Type} {enc:TypeId×Value->H} {P:Program} {W:World} {base:Nat} {spare:Nat->Bool} {held:Bool}
def Bgs {α:Type}[Inhabited α]{t e:TypeId}{sz:Nat}(ht:P.underlying t=some (.slice e))(hc:P.cellsOf e=sz)(h0:0<sz)(val:α->Value)(Q:α->Prop)
 (hr:∀ (n:Nat) (cs:List Value) (y:DataW H×List MemPlace),DataW.trod enc P W base spare held n e cs=some y->∃ a,cs=(val a).cells.toList/\Q a) {n:Nat} {cs:List Value} {x:DataW H×List MemPlace} (h:DataW.trod enc P W base spare held n t cs=some x) :
 ∃ (xs:List α) (a:Option Addr) (c:Nat),cs = [.slice a xs.length c]/\Ac (Bh4 W) (.slice a xs.length c) sz (xs.map val)/\(∀ x∈xs,Q x)/\xs.length<=maxLen:=by
 rcases Go.Deep.open_slice ht h with ⟨rfl,_⟩|⟨a,len,cap,m,n',D,Pl,rfl,hb,hl,hm,V,_,K⟩
 ·exact⟨[],none,0,rfl,Ac.nil _ _ _ _,(fun x K=>by cases K),A1t _⟩
 have a2:len<=m:=by rw[V];split<;>omega
 have E:∀ i,i<len->∃ y:α,W.cells? base (a.add (i*sz)) sz=some (val y).cells.toList/\Q y:=fun i hi=>by
  obtain⟨a0,Y,h2⟩:=K i oV;obtain⟨y,rfl,hy⟩:=hr _ _ _ h2;rw[hc]at Y;exact⟨y,Y,hy⟩
 obtain⟨f,R⟩:=Go.Deep.choose_lt E;have v:((List.range len).map f).length=len:=mV;refine⟨(List.range len).map f,some a,cap,by rw[v],?_,fun x K=>?_,by rw[v];omega⟩
 ·refine⟨some a,cap,mV,by simp;exact hl,fun j e' L=>?_⟩;have J:j<len:=by
   rcases A2e j len with X|X
   ·exact X
   rw[A1v gV]at L;cases L
  have he:e'=val (f j):=by
   simp[A1a,List.getElem?_range J]at L;exact L.symm
  subst he;obtain⟨_,U,d⟩:=World.cells?_some (R j J).1;have F:=d 0 oV;rw[A01 oV]at F;obtain⟨b0,o0,e0,_⟩:=Blg F;obtain⟨b,off,g⟩:=a;have C:g=none:=by
   have O:W.cell? (((⟨b,off,g⟩:Addr).add (0*sz)).add 0)≠none:=by
    obtain⟨_,a1,u⟩:=World.cells?_some (R 0 oV).1;rw[u 0 oV,A01 oV];simp
   cases hq:W.cell? (((⟨b,off,g⟩:Addr).add (0*sz)).add 0) with
   |none=>exact absurd hq O
   |some z=>simpa[Addr.add] using World.cell?_spot hq
  subst C;refine⟨b,off,rfl,fun i x hi=>?_⟩;have T:i<sz:=by
   rw[<-U];have:=(A61.1 hi).1;simpa using this
  have I:=d i T;rw[A6u,hi]at I;obtain⟨b1,o1,N,Z⟩:=Blg I;rw[Go.Deep.add_add]at N;have e2:(⟨b,off,none⟩:Addr).add (j*sz+i)=⟨b,off+(j*sz+i),none⟩:=by
   unfold Addr.add;split<;>simp_all
  rw[e2]at N;cases N;rw[<-A3p]at Z;exact Z
 obtain⟨i,hi,rfl⟩:=A1b.1 K;exact (R i (A6q.1 hi)).2
def W9 {fs:Array Field}(v:P.underlying t=some (.struct fs))(L:List (TypeId×Nat×Nat))(g:fs.toList.map (fun f=>(f.type,f.offset,P.cellsOf f.type))=L){x:DataW H×List MemPlace}(h:DataW.trod enc P W base spare held n t cs=some x) :
 cs.length=P.cellsOf t/\∀ q∈L,∃ m y,DataW.trod enc P W base spare held m q.1 ((cs.drop q.2.1).take q.2.2)=some y:=by
 obtain⟨xs,m,_,_,u,C,z⟩:=DataW.trod_struct v h;refine⟨u,fun q e=>?_⟩;rw[<-g]at e;obtain⟨f,j,rfl⟩:=A1b.1 e;obtain⟨i,hi,rfl⟩:=A2y j;have d:i<fs.size:=by simpa using hi
 have:=z i fs[i] (by rw[A2v d]);rw[A01 oV]at this;exact⟨m,_,by simpa using this⟩
def Bhi (g:P.underlying t=some (.int .i64)){x:DataW H×List MemPlace}(h:DataW.trod enc P W base spare held n t cs=some x) :
 ∃ z:Int,cs = [.int .i64 z]/\-9223372036854775808<=z/\z<=9223372036854775807:=by
 obtain⟨z,d,_,e⟩:=DataW.trod_int g h;simp[Lit.wf,IntKind.min,IntKind.max,IntKind.signed,IntKind.bits]at e;exact⟨z,d,oV,oV⟩
def Bhk (j:P.underlying t=some .string){x:DataW H×List MemPlace}(h:DataW.trod enc P W base spare held n t cs=some x) :
 ∃ s:List UInt8,cs = [.string (mkS s)]/\s.length<=9223372036854775807:=by
 obtain⟨s,d,_,g⟩:=DataW.trod_string j h;refine⟨s.data.toList,d,?_⟩;have e:s.data.toList.length=s.size:=A3o;rw[e];exact A04 g jV
end
def Bqs {W W':World}(d:∀ g,g<W.heap.size->W'.heap[g]?=W.heap[g]?){p:MemPlace}(hp:p.block<W.heap.size):W.sameAt W' p:=by
 cases p with
 |cell b o=>exact World.cell?_of_block (w:=W) (d b hp)
 |map b=>exact d b hp
def Bor {H:Type}{enc:TypeId×Value->H}{P:Program}(v:laidOutB P=true){W W':World}(u:∀ g,g<W.heap.size->W'.heap[g]?=W.heap[g]?):∀ {ts:List TypeId} {z:List Value} {m:List (DataW H)} {j:List MemPlace},
 (ts.all fun t=>P.readableRec t&&decide (t<P.types.size))=true->DataW.TrodAll enc P W 0 (fun _=>true) true ts z m j->(∀ x∈j,x.block<W.heap.size)->DataW.TrodAll enc P W' 0 (fun b=>decide (b<W.heap.size)) true ts z m j
 |[],[],[],_,_,h,_=>h
 |t::ts,_::_,_::_,_,hr,⟨p,q,h1,h2,e⟩,hlt=>by
  rw[List.all_cons,A1m,A1m,decide_eq_true_eq]at hr;have hp:∀ x∈p,x.block<W.heap.size:=fun x d=>hlt x (by rw[e];exact A24 _ d);exact⟨p,q,WideElems.Trod_stays v hr.1.1 hr.1.2 h1 (fun x d=>Bqs u (hp x d)) (fun x d=>by simpa using hp x d),Bor v u hr.2 h2 (fun x d=>hlt x (by rw[e];exact A6v _ d)),e⟩
def Bsr (W:World):Bv (Bh4 W) PH.mt W:=⟨fun _ _ h=>h,Fj.mt W,fun _=>.inr rfl,fun _ _ _ _ _ _ h _=>h⟩
def Bso {W W':World}(h:W'.os=W.os)(hp:W'.output=W.output)(e:∀ g,g<W.heap.size->W'.heap[g]?=W.heap[g]?)(d:MemPlace->Prop):W.keptBut W' d:=by
 refine⟨h,hp,fun i hi=>?_⟩;rw[e i hi];split<;>simp_all
end
section
def Bsv {v:Value}{l:List Value}(h:v.cells.toList=l)(d:2<=l.length):v=.agg l.toArray:=by
 cases v with
 |agg cs =>
  have:cs.toList=l:=h;rw[<-this]
 |_=>exfalso;subst h;simp[Value.cells]at d
structure Bsc (u:PH)(A:List Hv)(R:List H2):Prop where
 att:∀ a∈A,a.1.length<=9223372036854775807
 rel:∀ r∈R,r.1.length<=9223372036854775807/\Ac u (.slice r.2.2.1 r.2.1.length r.2.2.2) 1 (Bgt r.2.1)
structure Bse (c:List UInt8)(S:List K3)(Q:List H3):Prop where
 c:c.length<=9223372036854775807
 s:∀ t∈S,t.1.2.length<=9223372036854775807/\t.2.length<=9223372036854775807
 q:∀ t∈Q,t.1.1.2.length<=9223372036854775807/\t.1.2.2.length<=9223372036854775807/\t.2.length<=9223372036854775807
section
variable {H:Type} {enc:TypeId×Value->H} {W:World} {base:Nat} {spare:Nat->Bool} {held:Bool} {n:Nat} {cs:List Value} {x:DataW H×List MemPlace}
def Bjo:prog.underlying 3=some (.int .i64):=kV
def Bnr:prog.underlying 9=some .string:=kV
def Brb (h:DataW.trod enc prog W base spare held n 22 cs=some x):∃ (xs:List Int) (a:Option Addr) (c:Nat),cs = [.slice a xs.length c]/\Ac (Bh4 W) (.slice a xs.length c) 1 (Bgt xs)/\(∀ z∈xs,-9223372036854775808<=z/\z<=9223372036854775807)/\xs.length<=maxLen :=
 Bgs (e:=3) (sz:=1) kV kV oV (fun z:Int=>Value.int .i64 z) (fun z=>-9223372036854775808<=z/\z<=9223372036854775807) (fun n cs y h=>by obtain⟨z,rfl,d,g⟩:=Bhi Bjo h;exact⟨z,rfl,d,g⟩) h
def Bsp (h:DataW.trod enc prog W base spare held n 28 cs=some x):∃ (xs:List (List UInt8)) (a:Option Addr) (c:Nat),cs = [.slice a xs.length c]/\Ac (Bh4 W) (.slice a xs.length c) 1 (xs.map nmV)/\(∀ z∈xs,z.length<=9223372036854775807)/\xs.length<=maxLen :=
 Bgs (e:=9) (sz:=1) kV kV oV nmV (fun z=>z.length<=9223372036854775807) (fun n cs y h=>by obtain⟨z,rfl,d⟩:=Bhk Bnr h;exact⟨z,rfl,d⟩) h
def Bk3 (h:DataW.trod enc prog W base spare held n 77 cs=some x):∃ p:Par,cs = [.int .i64 p.1,.string (mkS p.2)]/\p.2.length<=9223372036854775807:=by
 obtain⟨d,e⟩:=W9 (fs:=prog.fieldsOf 77) kV [(3,0,1),(9,1,1)] kV h;rw[show prog.cellsOf 77=2 by kernel_rfl]at d
 match cs,d with
 |[c0,c1],_ =>
  obtain⟨m0,C,h0⟩:∃ m y,DataW.trod enc prog W base spare held m 3 [c0]=some y:=e (3,0,1) mV;obtain⟨v,y1,t⟩:∃ m y,DataW.trod enc prog W base spare held m 9 [c1]=some y:=e (9,1,1) mV;obtain⟨z,g,_⟩:=Bhi Bjo h0;obtain⟨s,j,u⟩:=Bhk Bnr t;cases g;cases j;exact⟨(z,s),rfl,u⟩
def Bsq (h:DataW.trod enc prog W base spare held n 34 cs=some x):∃ (xs:List Par) (a:Option Addr) (c:Nat),cs = [.slice a xs.length c]/\Ac (Bh4 W) (.slice a xs.length c) 2 (xs.map Ap)/\(∀ z∈xs,z.2.length<=9223372036854775807)/\xs.length<=maxLen :=
 Bgs (e:=77) (sz:=2) kV kV oV Ap (fun z=>z.2.length<=9223372036854775807) (fun n cs y h=>by obtain⟨z,rfl,d⟩:=Bk3 h;exact⟨z,rfl,d⟩) h
def Bqk (h:DataW.trod enc prog W base spare held n 79 cs=some x):∃ t:K3,cs=(E3 t).cells.toList/\t.1.2.length<=9223372036854775807/\t.2.length<=9223372036854775807:=by
 obtain⟨d,e⟩:=W9 (fs:=prog.fieldsOf 79) kV [(77,0,2),(29,2,1)] kV h;rw[show prog.cellsOf 79=3 by kernel_rfl]at d
 match cs,d with
 |[c0,c1,c2],_ =>
  obtain⟨m0,C,h0⟩:∃ m y,DataW.trod enc prog W base spare held m 77 [c0,c1]=some y:=e (77,0,2) mV;obtain⟨z,y1,u⟩:∃ m y,DataW.trod enc prog W base spare held m 29 [c2]=some y:=e (29,2,1) mV;obtain⟨p,g,hp⟩:=Bk3 h0;obtain⟨s,j,v⟩:=Bhk (t:=29) kV u;cases g;cases j;exact⟨(p,s),rfl,hp,v⟩
def Bq9 (h:DataW.trod enc prog W base spare held n 99 cs=some x):∃ t:H3,cs=(Bgw t).cells.toList/\t.1.1.2.length<=9223372036854775807/\t.1.2.2.length<=9223372036854775807/\t.2.length<=9223372036854775807:=by
 obtain⟨g,d⟩:=W9 (fs:=prog.fieldsOf 99) kV [(77,0,2),(77,2,2),(29,4,1)] kV h;rw[show prog.cellsOf 99=5 by kernel_rfl]at g
 match cs,g with
 |[c0,c1,c2,c3,c4],_ =>
  obtain⟨m0,J,h0⟩:∃ m y,DataW.trod enc prog W base spare held m 77 [c0,c1]=some y:=d (77,0,2) mV;obtain⟨I,y2,C⟩:∃ m y,DataW.trod enc prog W base spare held m 77 [c2,c3]=some y:=d (77,2,2) mV;obtain⟨F,y1,z⟩:∃ m y,DataW.trod enc prog W base spare held m 29 [c4]=some y:=d (29,4,1) mV;obtain⟨p,j,hp⟩:=Bk3 h0;obtain⟨q,v,e⟩:=Bk3 C;obtain⟨s,u,E⟩:=Bhk (t:=29) kV z;cases j;cases u;cases v;exact⟨((p,q),s),rfl,hp,e,E⟩
def Bst (h:DataW.trod enc prog W base spare held n 33 cs=some x):∃ (c:List UInt8) (S:List K3) (Q:List H3),2<=cs.length/\Bim (Bh4 W) (.agg cs.toArray) c S Q/\Bse c S Q:=by
 obtain⟨u,j⟩:=W9 (fs:=prog.fieldsOf 33) kV [(29,0,1),(30,1,1),(31,2,1)] kV h;rw[show prog.cellsOf 33=3 by kernel_rfl]at u
 match cs,u with
 |[c0,c1,c2],_ =>
  obtain⟨m0,U,h0⟩:∃ m y,DataW.trod enc prog W base spare held m 29 [c0]=some y:=j (29,0,1) mV;obtain⟨R,y1,I⟩:∃ m y,DataW.trod enc prog W base spare held m 30 [c1]=some y:=j (30,1,1) mV;obtain⟨T,y2,J⟩:∃ m y,DataW.trod enc prog W base spare held m 31 [c2]=some y:=j (31,2,1) mV;obtain⟨s,C,N⟩:=Bhk (t:=29) kV h0;obtain⟨S,v,O,E,L,g,_⟩:=Bgs (e:=79) (sz:=3) kV kV oV E3 (fun t=>t.1.2.length<=9223372036854775807/\t.2.length<=9223372036854775807) (fun n cs y h=>Bqk h) I;obtain⟨Q,z,P,F,K,d,_⟩:=Bgs (e:=99) (sz:=5) kV kV oV Bgw (fun t=>t.1.1.2.length<=9223372036854775807/\t.1.2.2.length<=9223372036854775807/\t.2.length<=9223372036854775807) (fun n cs y h=>Bq9 h) J;cases C;cases E;cases F;exact⟨s,S,Q,mV,⟨v,O,z,P,rfl,L,K⟩,⟨N,g,d⟩⟩
def Br3 (h:DataW.trod enc prog W base spare held n 73 cs=some x):∃ a:Hv,cs=(Bgy a).cells.toList/\a.1.length<=9223372036854775807:=by
 obtain⟨d,e⟩:=W9 (fs:=prog.fieldsOf 73) kV [(9,0,1),(3,1,1)] kV h;rw[show prog.cellsOf 73=2 by kernel_rfl]at d
 match cs,d with
 |[c0,c1],_ =>
  obtain⟨m0,C,h0⟩:∃ m y,DataW.trod enc prog W base spare held m 9 [c0]=some y:=e (9,0,1) mV;obtain⟨v,y1,t⟩:∃ m y,DataW.trod enc prog W base spare held m 3 [c1]=some y:=e (3,1,1) mV;obtain⟨s,g,u⟩:=Bhk Bnr h0;obtain⟨z,j,_⟩:=Bhi Bjo t;cases g;cases j;exact⟨(s,z),rfl,u⟩
def Br6 (h:DataW.trod enc prog W base spare held n 70 cs=some x):∃ r:H2,cs=(Bif r).cells.toList/\r.1.length<=9223372036854775807/\Ac (Bh4 W) (.slice r.2.2.1 r.2.1.length r.2.2.2) 1 (Bgt r.2.1):=by
 obtain⟨d,e⟩:=W9 (fs:=prog.fieldsOf 70) kV [(9,0,1),(22,1,1)] kV h;rw[show prog.cellsOf 70=2 by kernel_rfl]at d
 match cs,d with
 |[c0,c1],_ =>
  obtain⟨m0,E,h0⟩:∃ m y,DataW.trod enc prog W base spare held m 9 [c0]=some y:=e (9,0,1) mV;obtain⟨C,y1,t⟩:∃ m y,DataW.trod enc prog W base spare held m 22 [c1]=some y:=e (22,1,1) mV;obtain⟨s,g,u⟩:=Bhk Bnr h0;obtain⟨z,a,c,j,v,_⟩:=Brb t;cases g;cases j;exact⟨(s,z,a,c),rfl,u,v⟩
def Brg (h:DataW.trod enc prog W base spare held n 75 cs=some x):∃ f:C9,cs=(Sq f).cells.toList/\True:=by
 obtain⟨e,d⟩:=W9 (fs:=prog.fieldsOf 75) kV [(3,0,1),(3,1,1),(3,2,1)] kV h;rw[show prog.cellsOf 75=3 by kernel_rfl]at e
 match cs,e with
 |[c0,c1,c2],_ =>
  obtain⟨m0,J,h0⟩:∃ m y,DataW.trod enc prog W base spare held m 3 [c0]=some y:=d (3,0,1) mV;obtain⟨F,y1,u⟩:∃ m y,DataW.trod enc prog W base spare held m 3 [c1]=some y:=d (3,1,1) mV;obtain⟨I,y2,v⟩:∃ m y,DataW.trod enc prog W base spare held m 3 [c2]=some y:=d (3,2,1) mV;obtain⟨z,g,_⟩:=Bhi Bjo h0;obtain⟨C,j,_⟩:=Bhi Bjo u;obtain⟨E,t,_⟩:=Bhi Bjo v;cases g;cases j;cases t;exact⟨(z,C,E),rfl,trivial⟩
def Bsu (h:DataW.trod enc prog W base spare held n 27 cs=some x):∃ (A:List Hv) (R:List H2) (F:List C9) (lab:Int),2<=cs.length/\R0 (Bh4 W) (.agg cs.toArray) A R F lab/\Bsc (Bh4 W) A R:=by
 obtain⟨t,d⟩:=W9 (fs:=prog.fieldsOf 27) kV [(23,0,1),(24,1,1),(25,2,1),(3,3,1)] kV h;rw[show prog.cellsOf 27=4 by kernel_rfl]at t
 match cs,t with
 |[c0,c1,c2,c3],_ =>
  obtain⟨m0,Y,h0⟩:∃ m y,DataW.trod enc prog W base spare held m 23 [c0]=some y:=d (23,0,1) mV;obtain⟨U,y1,J⟩:∃ m y,DataW.trod enc prog W base spare held m 24 [c1]=some y:=d (24,1,1) mV;obtain⟨V,y2,K⟩:∃ m y,DataW.trod enc prog W base spare held m 25 [c2]=some y:=d (25,2,1) mV;obtain⟨X,y3,L⟩:∃ m y,DataW.trod enc prog W base spare held m 3 [c3]=some y:=d (3,3,1) mV;obtain⟨A,a0,P,z,N,g,_⟩:=Bgs (e:=73) (sz:=2) kV kV oV Bgy (fun a=>a.1.length<=9223372036854775807) (fun n cs y h=>Br3 h) h0;obtain⟨R,u,Q,C,O,j,_⟩:=Bgs (e:=70) (sz:=2) kV kV oV Bif (fun r=>r.1.length<=9223372036854775807/\Ac (Bh4 W) (.slice r.2.2.1 r.2.1.length r.2.2.2) 1 (Bgt r.2.1)) (fun n cs y h=>Br6 h) J;obtain⟨F,v,T,E,hF,_,_⟩:=Bgs (e:=75) (sz:=3) kV kV oV Sq (fun _=>True) (fun n cs y h=>Brg h) K;obtain⟨lab,I,_⟩:=Bhi Bjo L;cases z;cases C;cases E;cases I;exact⟨A,R,F,lab,mV,⟨a0,P,u,Q,v,T,rfl,N,O,hF⟩,⟨g,j⟩⟩
end
end
section
variable {A:List Hv}{F:List C9}{R:List H2}{u:PH}
def Bju (A:List Hv)(R:List H2)(F:List C9):Bool:=decide (A.length<=7)&&decide (R.length<=5)&&decide (F.length<=9)&&R.all fun r=>decide (r.2.1.length<=8)
def Brk (h:Bsc u A R)(e:Bju A R F=true):Tq u A R:=by
 unfold Bju at e;rw[A1m,A1o]at e;exact⟨h.att,fun r d=>⟨(h.rel r d).1,A04 (of_decide_eq_true (e.2 r d)) oV,(h.rel r d).2⟩⟩
def Brw (d:Bju A R F=true):F.length<=9:=by
 unfold Bju at d;rw[A1m,A1m]at d;exact of_decide_eq_true d.1.2
def Bj9 {α:Type}{l:List α}{p:α->Bool}{i:Nat}{x:α}(h:l[i]?=some x):(l.take (i+1)).all p=((l.take i).all p&&p x):=by
 rw[A1n,h,List.all_append];simp
def Bpy {v:Value}{lab:Int}(Z:R0 u v A R F lab):Fn0 prog 4 [v,.slice none 0 0] u fun r _=>r=.bool (Bju A R F):=by
 obtain⟨xa,xc,xb,U,xe,xf,rfl,X,C,Y⟩:=Z;refine Fn0.o func4 ?_;by_cases N:A.length<=7
 rotate_left
 ·exact G.gT A.length 7<|G.r (.bool false) ⟨rfl,by unfold Bju;rw[decide_eq_false N];rfl⟩
 refine G.gF A.length 7 ?_;by_cases L:R.length<=5
 rotate_left
 ·exact G.gT R.length 5<|G.r (.bool false) ⟨rfl,by unfold Bju;rw[decide_eq_false L,Bool.and_false];rfl⟩
 refine G.gF R.length 5 ?_;by_cases O:F.length<=9
 rotate_left
 ·exact G.gT F.length 9<|G.r (.bool false) ⟨rfl,by unfold Bju;rw[decide_eq_false O,Bool.and_false];rfl⟩
 refine G.gF F.length 9<|G.gF 0 6 ?_;have E:Bju A R F=R.all fun r=>decide (r.2.1.length<=8):=by unfold Bju;rw[decide_eq_true N,decide_eq_true L,decide_eq_true O];rfl
 rw[E];refine G.l (ι:=Nat) (fun i=>[(1,sV none 0 0),(31,sV xb R.length U),(32,iV R.length),(33,iV i)]) (fun _=>[])
  (fun i u' H=>i<=R.length/\((R.take i).all fun r=>decide (r.2.1.length<=8))=true/\H=PH.mt) (fun i=>R.length-i) 0 ⟨oV,mV,rfl⟩ ?_
 rintro J i z u2 m2 l2 ⟨hi,t,rfl⟩;by_cases g:i<R.length
 ·refine G.lT i R.length ?_;have d:R[i]?=some R[i]:=A01 g;obtain⟨I,T,rfl,K⟩:=Ac.at' (C.mono l2) (j:=i) (e:=Bif R[i]) (by simp[d]);have P:=A09 g;have n:((R.take (i+1)).all fun r=>decide (r.2.1.length<=8))=(((R.take i).all fun r=>decide (r.2.1.length<=8))&&decide (R[i].2.1.length<=8)):=Bj9 d;generalize R[i]=r at d K P n;obtain⟨Q,m,V,W⟩:=r;refine G.a I T R.length U i 2 g<|G.lU (some 2) I (T+i*2) (.agg #[.string (mkS Q),.slice V m.length W]) K ?_;by_cases h:m.length<=8
  ·exact G.gF m.length 8<|G.i i<|G.b (z (i+1) _ _ _ cV l2 ⟨oV,by rw[n,t];exact decide_eq_true h,rfl⟩ oV)
  refine G.gT m.length 8<|G.r (.bool false) ⟨rfl,?_⟩
  congr 1
  exact (Baz.2 fun e=>h (of_decide_eq_true (p:=m.length<=8) (A1o.1 e (Q,m,V,W) P))).symm
 obtain rfl:i=R.length:=oV;rw[A15]at t;rw[t];clear z;refine G.lF R.length R.length<|G.l (ι:=Nat) (fun i=>[(42,sV none 0 0),(43,iV 0),(44,iV i)]) (fun _=>[])
  (fun i u' H=>i=0/\H=PH.mt) (fun i=>0) 0 ⟨rfl,rfl⟩ ?_
 rintro J j z u3 m3 l3 ⟨rfl,rfl⟩;exact G.lF (0:Nat) 0<|G.r (.bool true) ⟨rfl,rfl⟩
end
section
section
variable [Cl] {P:Program} [A6 P] {fn:Func} {Post:Ce} {st:List KI×S} {u m:PH}
def G.buildAr (t e:TypeId)(n sz:Nat)(L:List (Nat×Value))(z r:Array Value)(h:Aj P (adv P st)=.build t L)(N:L≠[])(H:P.underlying t=some (.array n e))(F:szB P e=some sz)(I:Z0 P t=some (.agg z))(E:Instr.fill (fun i=>some (i*sz,sz)) z L=some r)
 (k:G P fn Post (nx (adv P st) (.agg r)) u m):G P fn Post st u m:=by
 refine G.ask h mV (fun g o d w hp=>?_) k;obtain⟨K,j,v⟩:=Ai1 d;obtain⟨dst,J,type,pos,after,guard⟩:=o;simp only at j;subst j;have C:(K.map fun x=>(x.1,g x.2)).toList=L:=by rw[Array.toList_map];exact v
 simp only[execOp,Instr.build,Sem.run_bind,Abk I,Result.andThen_ok,run_underlying H,Bf F,C,Value.cells,E];rfl
def G.idxB (e:TypeId)(n sz i:Nat)(cs:Array Value)(v:Value)(h:Aj P (adv P st)=.index (some (.array n e)) (.agg cs) (.int .i64 i))(hi:i<n)(H:Qj P e=some true)(j:szB P e=some sz)(J:.agg (cs.extract (i*sz) (i*sz+sz))=v)
 (k:G P fn Post (nx (adv P st) v) u m):G P fn Post st u m:=by
 refine G.ask h mV (fun F o d w _=>?_) k;obtain⟨t,X,I,g,z,C,E⟩:=Aia d;obtain⟨dst,K,type,pos,after,guard⟩:=o;simp only at g;subst g;have h0:(0:Int)<=(i:Int):=oV
 have L:(i:Int)<(n:Int):=oV
 subst J;simp[execOp,z,C,Instr.index,run_underlying E,asIntOf,h0,hi,Bf j,Jq H j]
def G.idxC (e:TypeId)(n i:Nat)(cs:Array Value)(v:Value)(h:Aj P (adv P st)=.index (some (.array n e)) (.agg cs) (.int .i64 i))(hi:i<n)(F:Qj P e=some false)(H:szB P e=some 1)(J:cs[i]?=some v)
 (k:G P fn Post (nx (adv P st) v) u m):G P fn Post st u m:=by
 refine G.ask h mV (fun E o d w _=>?_) k;obtain⟨t,X,I,g,j,z,C⟩:=Aia d;obtain⟨dst,K,type,pos,after,guard⟩:=o;simp only at g;subst g;have h0:(0:Int)<=(i:Int):=oV
 have L:(i:Int)<(n:Int):=oV
 simp[execOp,j,z,Instr.index,run_underlying C,asIntOf,h0,hi,Bf H,Jh F J]
end
end
def Ad9 {u:PH}{v O:Value}{L d:List Par}(h:Ac u v 2 (L.map Ap))(C:Ac u O 2 (d.map Ap))(Y:L.length<=1000000)(U:d.length<=1000000) :
 Fn0 prog 15 [v,O] u fun r _=>r=.bool (decide (L=d)):=by
 obtain⟨a,c,rfl⟩:=h.opn;obtain⟨P,H,rfl⟩:=C.opn;rw[A03]at h C⊢;rw[A03];refine Fn0.o func15 ?_;by_cases V:L.length=d.length
 ·refine G.nF L.length d.length<|G.l (ι:=Nat) (fun i=>[(0,sV a L.length c),(1,sV P d.length H),(12,iV L.length),(13,iV i)]) (fun _=>[])
   (fun i W I=>(i<=L.length/\L.take i=d.take i)/\I=PH.mt) (fun i=>L.length-i) 0 ⟨⟨oV,mV⟩,rfl⟩ ?_
  rintro J k T W I m ⟨⟨X,g⟩,rfl⟩;by_cases n:k<L.length
  ·refine G.lT k L.length ?_;obtain⟨p,hp⟩:∃ p,L[k]?=some p:=⟨_,A01 n⟩;obtain⟨q,z⟩:∃ q,d[k]?=some q:=⟨_,A01 oV⟩;obtain⟨E,K,rfl,Q⟩:=Ac.at' (h.mono m) (j:=k) (e:=Ap p) (by simp[hp]);obtain⟨F,N,rfl,R⟩:=Ac.at' (C.mono m) (j:=k) (e:=Ap q) (by simp[z]);refine G.a E K L.length c k 2 n<|G.lU (some 2) E (K+k*2) (.agg #[.int .i64 p.1,.string (mkS p.2)]) Q<|G.a F N d.length H k 2 oV<|G.lU (some 2) F (N+k*2) (.agg #[.int .i64 q.1,.string (mkS q.2)]) R ?_;by_cases t:p=q
   ·exact G.neAgg 77 #[.int .i64 p.1,.string (mkS p.2)] #[.int .i64 q.1,.string (mkS q.2)] true kV kV kV (fun w=>by rw[<-decide_eq_true t];exact Bq.eq p q w)<|G.i k<|G.b (T (k+1) _ _ _ cV m ⟨⟨oV,by rw[A1n,A1n,g,hp,z,t]⟩,rfl⟩ oV)
   exact G.neAgg 77 #[.int .i64 p.1,.string (mkS p.2)] #[.int .i64 q.1,.string (mkS q.2)] false kV kV kV (fun w=>by rw[<-decide_eq_false t];exact Bq.eq p q w)<|G.r (.bool false) ⟨rfl,by rw[decide_eq_false];rintro rfl;rw[hp]at z;cases z;exact t rfl⟩
  refine G.lF k L.length ?_;have:L=d:=by rw[A1j oV,A1j oV]at g;exact g
  exact G.r (.bool true) ⟨rfl,by simp[this]⟩
 exact G.nT L.length d.length<|G.r (.bool false) ⟨rfl,by rw[decide_eq_false];rintro rfl;exact V rfl⟩
def Bos {k:Nat}{s:List UInt8}(h:Rj k s):s.length<=9223372036854775807:=by
 rcases h with rfl|⟨_,h⟩|⟨_,z,e,rfl⟩|⟨_,q,d,rfl⟩
 ·exact A1t _
 ·have:=(Aa2 h).2;omega
 ·have:=Hh (z:=z) (A04 (Cz (k:=10) oV oV) oV);omega
 have:=Ao1 d.tx;omega
def Bqw {u:PH}{v xv ov cv pv:Value}{ts:List Int}{A:List Hv}{R:List H2}{F:List C9}{lab:Int}{m:List (List UInt8)}{c0:List UInt8}{S:List K3}{Q:List H3}{ps:List Par}(ht:Hx u)(hv:Ac u v 1 (Fc ts))(e6:∀ t∈ts,-9223372036854775808<=t)(dy:∀ t∈ts,t<=9223372036854775807)
 (hX:R0 u xv A R F lab) (cp:Bsc u A R) (hO:Ac u ov 1 (m.map nmV)) (hC:Bim u cv c0 S Q) (bi:Bse c0 S Q) (hP:Ac u pv 2 (ps.map Ap)) :
 Fn0 prog 3 [v,xv,ov,cv,pv] u fun v' _=>v'=.bool true:=by
 obtain⟨a,c,rfl⟩:=hv.opn;rw[Cq]at hv⊢;obtain⟨xa,xc,xb,xd,xe,xf,rfl,d9,dm,cc⟩:=id hX;obtain⟨oa,oc,rfl⟩:=hO.opn;obtain⟨a1,c1,a2,c2,rfl,fi,bl⟩:=id hC;obtain⟨pa,pc,rfl⟩:=hP.opn;simp only[A03]at hO hP⊢;refine Fn0.o func3 ?_;by_cases ex:400<ts.length
 ·refine G.gT ts.length 400<|G.c call5 Bh2 ?_;rintro vz uz lz rfl;exact G.r (.bool true) ⟨rfl,rfl⟩
 refine G.gF ts.length 400<|G.c call4 (Bpy hX) ?_;rintro v1 u1 l1 rfl;cases hsm:Bju A R F with
 |false =>
  refine G.c call5 Bh2 ?_;rintro vz uz lz rfl;exact G.r (.bool true) ⟨rfl,rfl⟩
 |true =>
 by_cases ff:12<m.length
 ·refine G.gT m.length 12<|G.c call5 Bh2 ?_;rintro vz uz lz rfl;exact G.r (.bool true) ⟨rfl,rfl⟩
 refine G.gF m.length 12 ?_;by_cases f3:12<S.length
 ·refine G.gT S.length 12<|G.c call5 Bh2 ?_;rintro vz uz lz rfl;exact G.r (.bool true) ⟨rfl,rfl⟩
 refine G.gF S.length 12 ?_;by_cases f1:12<Q.length
 ·refine G.gT Q.length 12<|G.c call5 Bh2 ?_;rintro vz uz lz rfl;exact G.r (.bool true) ⟨rfl,rfl⟩
 refine G.gF Q.length 12 ?_;by_cases ez:30<ps.length
 ·refine G.gT ps.length 30<|G.c call5 Bh2 ?_;rintro vz uz lz rfl;exact G.r (.bool true) ⟨rfl,rfl⟩
 refine G.gF ps.length 30 ?_;have d3:=Brk cp hsm;have dg:=Brw hsm;have dd:Bka c0 S Q:=⟨bi.c,bi.s,bi.q,oV,oV⟩;refine G.l (ι:=Nat) (fun i=>[(0,sV a ts.length c),(2,sV oa m.length oc),(4,sV pa ps.length pc),(6,.p 0 0),(8,.p 1 0),(80,sV oa m.length oc),(81,iV m.length),(82,iV i)])
  (fun _=>[(0,⟨27,[sV xa A.length xc,sV xb R.length xd,sV xe F.length xf,iV lab]⟩),(1,⟨33,[tV c0,sV a1 S.length c1,sV a2 Q.length c2]⟩)])
  (fun i u' m'=>i<=m.length/\(∀ t∈m.take i,t.length<=60)/\m'=PH.mt) (fun i=>m.length-i) 0 ⟨oV,mV,rfl⟩ ?_
 rintro J i hJ u2 m2 l2 ⟨hi,bh,rfl⟩;have c3:=l1.trans l2;by_cases b3:i<m.length
 ·refine G.lT i m.length ?_;obtain⟨bb,off,rfl,e⟩:=M5 (hO.mono c3) b3;have dw:m.getD i []=m[i]:=by simp[A02,A01 b3]
  refine G.a bb off m.length oc i 1 b3<|G.lU none bb (off+i*1) (.string (mkS (m.getD i []))) e ?_;have e9:(mkS (m.getD i [])).size=(m.getD i []).length:=Go.Lib.size_mk _;by_cases h6:60<(m.getD i []).length
  ·refine G.gT ((m.getD i []).length:Int) 60<|G.c call5 Bh2 ?_;rintro vz uz lz rfl;exact G.r (.bool true) ⟨rfl,rfl⟩
  refine G.gF ((m.getD i []).length:Int) 60<|G.i i ?_;exact G.b (hJ (i+1) _ _ _ cV l2 ⟨oV,fun t ht=>by
   rw[A1n,A01 b3]at ht;rcases A1h.1 ht with ht|ht
   ·exact bh t ht
   rw[A12.1 ht,<-dw];omega,rfl⟩ oV)
 obtain rfl:i=m.length:=oV;rw[A15]at bh;clear hJ;refine G.lF m.length m.length<|G.callO _ _ kV call6 (As9 (hv.mono c3) oV e6 dy) ?_;rintro v3 u3 m3 l3 ⟨s,rfl,rfl,hs⟩ _;rw[By];refine G.A call7 (Bmb 6 oV oV hs (A1t _)) ?_;rintro v4 u4 m4 l4 ⟨T,R2,F2,z,k4,bo,ok,fj,e0,rfl⟩ _;rw[By];obtain⟨ya,yc,yb,yd,ye,yf,rfl,co,cm,cd⟩:=id bo;refine G.A call8 (Ami (w:=.slice yb R2.length yd) (x:=.slice ye F2.length yf) (y:=.int .i64 z) (hs.mono l4) e0 co oV ok.att.kind ⟨_,_,_,rfl⟩ ⟨_,_,_,rfl⟩ ⟨_,rfl⟩) ?_;rintro v5 u5 m5 l5 ⟨ss,k5,hS,cn,dq,e3,rfl⟩ _;rw[By];obtain⟨va,vc,rfl⟩:=hS.opn;rw[A03]at hS⊢;have fl:=ok.t1;have dr:Bw T ss:=⟨cn,fun i x t h1 h2=>(dq i x t h1 h2).ok⟩;have b5:∀ t∈ss,t.length<=9223372036854775807:=fun t ht=>by
  obtain⟨i,hi,rfl⟩:=A2y ht;exact Bos (dr.val i _ _ (A01 oV) (A01 hi))
 have am:Bag (s.M k5) [s.arr k5,Ajq none 0 []]:=s.bag0 k5 ⟨PH.mt,Af.nil _ _ _,trivial⟩;obtain⟨mm,bu,bf⟩:=am.focus 1 rfl;rw[Ak3]at bu;refine G.appendL 9 1 16 (.string (mkS [])) mm [] (ss.map nmV) (.slice none 0 0) va ss.length vc kV rfl rfl oV bu hS (G6 ss) gV gV ?_;intro v6 m6 hW;rw[A3q]at hW;obtain⟨V,Y,rfl⟩:=hW.ptr (by intro h;have:=congrArg List.length h;simp at this;subst this;simp at cn;omega);rw[A03]at hW⊢;obtain⟨m0,d4,hL⟩:=bf (Ajq (some ⟨V,0,none⟩) Y ss) m6 hW;obtain⟨rfl,br⟩:=Src.split d4;have b4:=hs.mono (l4.trans l5);refine G.D call10 (Src.apart br) (I4 (n:=ss.length) b4 e3 oV oV) ?_;rintro v7 u7 m7 l7 ⟨r,k7,rfl,hr,e4,rfl⟩ _;refine G.D call9 (Src.apart br) (Bq0 (b4.mono l7) e4) ?_;rintro v8 u8 m8 l8 ⟨t,k8,rfl,f4,e5,rfl⟩ _;refine G.a V 0 ss.length Y r 1 hr ?_;have an:Bag (m0.or (s.M k8)) [s.arr k8,Ajq (some ⟨V,0,none⟩) Y ss]:=⟨m0,Src.at br,hL⟩;obtain⟨ef,bv,ao⟩:=an.focus 1 rfl;rw[Ak3]at bv;refine G.storeA 1 ef (ss.map nmV) V ss.length Y r (.string (mkS t)) kV bv (by rw[A03];exact hr) rfl rfl ?_;intro m9 d5;have c9:(ss.map nmV).set r (.string (mkS t))=(ss.set r t).map nmV:=by rw[A2g];rfl
 have al:(ss.set r t).length=ss.length:=A21;rw[c9]at d5;have bq:=ao (Ajq (some ⟨V,0,none⟩) Y (ss.set r t)) m9 (by rw[Ak3,al];exact d5);obtain⟨ee,b6,bc⟩:=bq;obtain⟨rfl,cw⟩:=Src.split b6;refine G.giveP (ma:=ee) (sm:=s.M k8) kV rfl (Src.apart cw) (fun _=>.inl rfl) ?_;intro eg eb be;have hB:Ac eg (.slice (some ⟨V,0,none⟩) ss.length Y) 1 ((ss.set r t).map nmV):=by
  have:=Bag.list bc be 0 rfl;rw[show (Ajq (some ⟨V,0,none⟩) Y (ss.set r t)).v=.slice (some ⟨V,0,none⟩) (ss.set r t).length Y from rfl,al]at this;exact this
 have du:∀ x∈ss.set r t,x.length<=9223372036854775807:=fun x hx=>by
  rcases A7c hx with h|rfl
  ·exact b5 x h
  omega
 have a6:=(l7.trans l8).trans eb;have ed:=(((c3.trans l3).trans l4).trans l5).trans a6;obtain⟨az,b0⟩:=Bqj (bo.mono (l5.trans a6)) (ok.mono (l5.trans a6));have ax:=hS.mono a6;have ap:ss.length<=9223372036854775807:=oV;refine G.c call11 (Bnk az b0 ax b5 ap) ?_;intro g3 c6 ai d6;obtain⟨fv,fe,f0,FS,FQ,rfl,cb,cc⟩:=Bqv az b0 ax b5 d6;obtain⟨b1,d1,b2,d2,rfl,_,_⟩:=id cb;have aj:=ed.trans ai;have a8:=az.mono ai;have bp:=b0.mono ai;have ds:=hX.mono aj;have dt:=d3.mono aj;have df:=hC.mono aj;have dp:=ax.mono ai;have db:=hB.mono ai;have dk:=hO.mono aj;have dl:=hP.mono aj;have ea:=ht.mono aj;have e8:=b4.mono (a6.trans ai);have e7:∀ x∈m,x.length<=9223372036854775807:=fun x hx=>by have:=bh x hx;omega
 have ca:(F2.map Bru).length<=9:=by rw[A03];have:=ok.f2;omega
 clear hX cp d3 hC ax hB hO hP ht az b0 bo co cm cd ok hS hv d6 hs b4 am bu bf an bv ao bc be d9 dm;generalize T.length=nT at a8⊢;generalize R2.length=nR at a8⊢;generalize F2.length=nF at a8⊢;generalize T.map Bsd=A2 at a8 bp;generalize R2.map Bq6=RR2 at a8 bp;generalize F2.map Bru=FF2 at a8 ca;refine G.buildAr 46 27 2 4 [(0,.agg #[.slice ya nT yc,.slice yb nR yd,.slice ye nF yf,.int .i64 z]),(1,.agg #[.slice xa A.length xc,.slice xb R.length xd,.slice xe F.length xf,.int .i64 lab])] #[.slice none 0 0,.slice none 0 0,.slice none 0 0,.int .i64 0,.slice none 0 0,.slice none 0 0,.slice none 0 0,.int .i64 0] #[.slice ya nT yc,.slice yb nR yd,.slice ye nF yf,.int .i64 z,.slice xa A.length xc,.slice xb R.length xd,.slice xe F.length xf,.int .i64 lab] kV mV kV kV kV kV ?_;have hY:∀ n,n<2->∃ (A3:List Hv) (R3:List H2) (F3:List C9) (d:Int) (sa:Option Addr) (na sc:Nat) (sb:Option Addr) (nb sd:Nat) (se:Option Addr) (nf sf:Nat),Value.agg ((#[.slice ya nT yc,.slice yb nR yd,.slice ye nF yf,.int .i64 z,.slice xa A.length xc,.slice xb R.length xd,.slice xe F.length xf,.int .i64 lab]:Array Value).extract (n*4) (n*4+4))=.agg #[.slice sa na sc,.slice sb nb sd,.slice se nf sf,.int .i64 d]/\R0 c6 (.agg #[.slice sa na sc,.slice sb nb sd,.slice se nf sf,.int .i64 d]) A3 R3 F3 d/\Tq c6 A3 R3/\F3.length<=9:=fun n hn=>by
  rcases (by omega:n=0\/n=1) with rfl|rfl
  ·exact⟨A2,RR2,FF2,z,_,_,_,_,_,_,_,_,_,rfl,a8,bp,ca⟩
  exact⟨A,R,F,lab,_,_,_,_,_,_,_,_,_,rfl,ds,dt,dg⟩
 have hU:∀ n,n<3->∃ (us:List (List UInt8)) (ta:Option Addr) (tn tc:Nat),(#[.slice va ss.length vc,.slice (some ⟨V,0,none⟩) ss.length Y,.slice oa m.length oc]:Array Value)[n]?=some (.slice ta tn tc)/\Ac c6 (.slice ta tn tc) 1 (us.map nmV)/\(∀ x∈us,x.length<=9223372036854775807)/\us.length<=9223372036854775807:=fun n hn=>by
  rcases (by omega:n=0\/n=1\/n=2) with rfl|rfl|rfl
  ·exact⟨ss,_,_,_,rfl,dp,b5,ap⟩
  ·exact⟨ss.set r t,_,_,_,rfl,db,du,by rw[al];exact ap⟩
  exact⟨m,_,_,_,rfl,dk,e7,oV⟩
 refine G.l (ι:=Nat×Nat) (fun i=>[(2,sV oa m.length oc),(4,sV pa ps.length pc),(8,.p 1 0),(13,.v s.ptr),(15,sV va ss.length vc),(16,sV (some ⟨V,0,none⟩) ss.length Y),(17,.p 14006 0),(116,.v (.agg #[.slice ya nT yc,.slice yb nR yd,.slice ye nF yf,.int .i64 z,.slice xa A.length xc,.slice xb R.length xd,.slice xe F.length xf,.int .i64 lab])),(117,iV i.1)])
  (fun _=>[(1,⟨33,[tV c0,sV a1 S.length c1,sV a2 Q.length c2]⟩),(14006,⟨33,[tV f0,sV b1 FS.length d1,sV b2 FQ.length d2]⟩)])
  (fun i u' m'=>i.1<=2/\i.2<=s.n/\m'=s.M i.2) (fun i=>2-i.1) (0,k8) ⟨oV,e5,rfl⟩ ?_
 rintro J ⟨n,fn⟩ hJ fw fo b7 ⟨hn,bd,rfl⟩;simp only at hn bd hJ;by_cases d0:n<2
 rotate_left
 ·obtain rfl:n=2:=oV;refine G.lF (2:Nat) 2<|G.drop PH.mt kV (PH.mt_le _)<|G.c call5 Bh2 ?_;rintro vz uz lz rfl;exact G.r (.bool true) ⟨rfl,rfl⟩
 refine G.lT n 2 ?_;obtain⟨A3,R3,F3,d,sa,na,sc,sb,nb,sd,se,nf,sf,g,hG,ci,fg⟩:=hY n d0;refine G.idxB 27 2 4 n _ _ kV d0 kV kV g ?_;clear g;have ce:=hG.mono b7;have bj:=ci.mono b7;clear hG ci;refine G.A call12 (Bqr (e8.mono b7) bd) ?_;rintro g4 eh fp bz ⟨CC,aq,kC,sC,vC,cz,rfl⟩ _;rw[By];obtain⟨g0,GS,GQ,cg,ch⟩:=Bnn kC (sC.cfs oV jV) vC oV;obtain⟨e1,h1,e2,h2,rfl,_,_⟩:=id cg;refine G.buildAr 48 33 3 3 [(0,.agg #[.string (mkS f0),.slice b1 FS.length d1,.slice b2 FQ.length d2]),(1,.agg #[.string (mkS g0),.slice e1 GS.length h1,.slice e2 GQ.length h2]),(2,.agg #[.string (mkS c0),.slice a1 S.length c1,.slice a2 Q.length c2])] #[.string (mkS []),.slice none 0 0,.slice none 0 0,.string (mkS []),.slice none 0 0,.slice none 0 0,.string (mkS []),.slice none 0 0,.slice none 0 0] #[.string (mkS f0),.slice b1 FS.length d1,.slice b2 FQ.length d2,.string (mkS g0),.slice e1 GS.length h1,.slice e2 GQ.length h2,.string (mkS c0),.slice a1 S.length c1,.slice a2 Q.length c2] kV mV kV kV kV kV ?_;have I:=b7.trans bz;have a0:=ce.mono bz;have N:=bj.mono bz;have hZ:∀ j,j<3->∃ (z0:List UInt8) (ZS:List K3) (ZQ:List H3) (za:Option Addr) (zn zc:Nat) (zb:Option Addr) (zm zd:Nat),Value.agg ((#[.string (mkS f0),.slice b1 FS.length d1,.slice b2 FQ.length d2,.string (mkS g0),.slice e1 GS.length h1,.slice e2 GQ.length h2,.string (mkS c0),.slice a1 S.length c1,.slice a2 Q.length c2]:Array Value).extract (j*3) (j*3+3))=.agg #[.string (mkS z0),.slice za zn zc,.slice zb zm zd]/\Bim eh (.agg #[.string (mkS z0),.slice za zn zc,.slice zb zm zd]) z0 ZS ZQ/\Bka z0 ZS ZQ:=fun j hj=>by
  rcases (by omega:j=0\/j=1\/j=2) with rfl|rfl|rfl
  ·exact⟨f0,FS,FQ,_,_,_,_,_,_,rfl,cb.mono I,cc⟩
  ·exact⟨g0,GS,GQ,_,_,_,_,_,_,rfl,cg,ch⟩
  exact⟨c0,S,Q,_,_,_,_,_,_,rfl,df.mono I,dd⟩
 refine G.l (ι:=Nat) (fun j=>[(2,sV oa m.length oc),(4,sV pa ps.length pc),(8,.p 1 0),(13,.v s.ptr),(15,sV va ss.length vc),(16,sV (some ⟨V,0,none⟩) ss.length Y),(17,.p 14006 0),(20,.p 17001 0),(116,.v (.agg #[.slice ya nT yc,.slice yb nR yd,.slice ye nF yf,.int .i64 z,.slice xa A.length xc,.slice xb R.length xd,.slice xe F.length xf,.int .i64 lab])),(117,iV n),(124,.v (.agg #[.string (mkS f0),.slice b1 FS.length d1,.slice b2 FQ.length d2,.string (mkS g0),.slice e1 GS.length h1,.slice e2 GQ.length h2,.string (mkS c0),.slice a1 S.length c1,.slice a2 Q.length c2])),(125,iV j)])
  (fun _=>[(1,⟨33,[tV c0,sV a1 S.length c1,sV a2 Q.length c2]⟩),(14006,⟨33,[tV f0,sV b1 FS.length d1,sV b2 FQ.length d2]⟩),(17001,⟨27,[sV sa na sc,sV sb nb sd,sV se nf sf,iV d]⟩)])
  (fun j u' m'=>j<=3/\m'=s.M aq) (fun j=>3-j) 0 ⟨oV,rfl⟩ ?_
 rintro J4 j ck fx fq a4 ⟨hj,rfl⟩;by_cases cy:j<3
 ·refine G.lT j 3 ?_;obtain⟨z0,ZS,ZQ,za,zn,zc,zb,zm,zd,g,cq,cr⟩:=hZ j cy;refine G.idxB 33 3 3 j _ _ kV cy kV kV g ?_;clear g;refine G.c call13 (Bmw (a0.mono a4) (N.mono a4) (cq.mono a4) cr) ?_;intro g5 b9 a9 c4;obtain⟨c8,f6,fu,f8,rfl⟩:=Blj c4;refine G.c call14 (Bnc (a0.mono (a4.trans a9)) (N.mono (a4.trans a9)) (cq.mono (a4.trans a9)) cr) ?_;intro er ei aa c5;obtain⟨fc,ag,ak,ah,rfl⟩:=Blj c5;obtain⟨fd,q1,q2,L,r1,r2,cl,bk,ey⟩:=Bnf c4 c5;cases r1;cases r2;clear c4 c5;have ba:=cl.mono aa;refine G.c call15 (Ad9 ba bk oV oV) ?_;rintro es ej ar rfl;rw[decide_eq_true rfl];refine G.nF c8 c8 ?_;have dj:=bk.mono ar;clear cl bk ba;refine G.buildAr 52 28 3 1 [(0,.slice va ss.length vc),(1,.slice (some ⟨V,0,none⟩) ss.length Y),(2,.slice oa m.length oc)] #[.slice none 0 0,.slice none 0 0,.slice none 0 0] #[.slice va ss.length vc,.slice (some ⟨V,0,none⟩) ss.length Y,.slice oa m.length oc] kV mV kV kV kV kV ?_;have O:=((a4.trans a9).trans aa).trans ar;refine G.l (ι:=Nat) (fun i=>[(2,sV oa m.length oc),(4,sV pa ps.length pc),(8,.p 1 0),(13,.v s.ptr),(15,sV va ss.length vc),(16,sV (some ⟨V,0,none⟩) ss.length Y),(17,.p 14006 0),(20,.p 17001 0),(25,sV ag ak ah),(116,.v (.agg #[.slice ya nT yc,.slice yb nR yd,.slice ye nF yf,.int .i64 z,.slice xa A.length xc,.slice xb R.length xd,.slice xe F.length xf,.int .i64 lab])),(117,iV n),(124,.v (.agg #[.string (mkS f0),.slice b1 FS.length d1,.slice b2 FQ.length d2,.string (mkS g0),.slice e1 GS.length h1,.slice e2 GQ.length h2,.string (mkS c0),.slice a1 S.length c1,.slice a2 Q.length c2])),(125,iV j),(152,.v (.agg #[.slice va ss.length vc,.slice (some ⟨V,0,none⟩) ss.length Y,.slice oa m.length oc])),(153,iV i)])
   (fun _=>[(1,⟨33,[tV c0,sV a1 S.length c1,sV a2 Q.length c2]⟩),(14006,⟨33,[tV f0,sV b1 FS.length d1,sV b2 FQ.length d2]⟩),(17001,⟨27,[sV sa na sc,sV sb nb sd,sV se nf sf,iV d]⟩)])
   (fun i u' m'=>i<=3/\m'=s.M aq) (fun i=>3-i) 0 ⟨oV,rfl⟩ ?_
  rintro J6 i dh d8 fs a5 ⟨dz,rfl⟩;by_cases a3:i<3
  ·refine G.lT i 3 ?_;obtain⟨us,ta,tn,tc,g,ay,E,H⟩:=hU i a3;refine G.idxC 28 3 i _ _ kV a3 kV kV g ?_;clear g;have P:=O.trans a5;refine G.buildAr 53 34 2 1 [(0,.slice ag ak ah),(1,.slice pa ps.length pc)] #[.slice none 0 0,.slice none 0 0] #[.slice ag ak ah,.slice pa ps.length pc] kV mV kV kV kV kV ?_;have hV:∀ q,q<2->∃ (qs:List Par) (qa:Option Addr) (qn qc:Nat),(#[.slice ag ak ah,.slice pa ps.length pc]:Array Value)[q]?=some (.slice qa qn qc)/\Ac d8 (.slice qa qn qc) 2 (qs.map Ap)/\qs.length<=30:=fun q hq=>by
    rcases (by omega:q=0\/q=1) with rfl|rfl
    ·exact⟨L,_,_,_,rfl,dj.mono a5,oV⟩
    exact⟨ps,_,_,_,rfl,dl.mono (I.trans P),oV⟩
   refine G.l (ι:=Nat) (fun q=>[(2,sV oa m.length oc),(4,sV pa ps.length pc),(8,.p 1 0),(13,.v s.ptr),(15,sV va ss.length vc),(16,sV (some ⟨V,0,none⟩) ss.length Y),(17,.p 14006 0),(20,.p 17001 0),(25,sV ag ak ah),(28,sV ta tn tc),(116,.v (.agg #[.slice ya nT yc,.slice yb nR yd,.slice ye nF yf,.int .i64 z,.slice xa A.length xc,.slice xb R.length xd,.slice xe F.length xf,.int .i64 lab])),(117,iV n),(124,.v (.agg #[.string (mkS f0),.slice b1 FS.length d1,.slice b2 FQ.length d2,.string (mkS g0),.slice e1 GS.length h1,.slice e2 GQ.length h2,.string (mkS c0),.slice a1 S.length c1,.slice a2 Q.length c2])),(125,iV j),(152,.v (.agg #[.slice va ss.length vc,.slice (some ⟨V,0,none⟩) ss.length Y,.slice oa m.length oc])),(153,iV i),(158,.v (.agg #[.slice ag ak ah,.slice pa ps.length pc])),(159,iV q)])
    (fun _=>[(1,⟨33,[tV c0,sV a1 S.length c1,sV a2 Q.length c2]⟩),(14006,⟨33,[tV f0,sV b1 FS.length d1,sV b2 FQ.length d2]⟩),(17001,⟨27,[sV sa na sc,sV sb nb sd,sV se nf sf,iV d]⟩)])
    (fun q u' m'=>q<=2/\m'=s.M aq) (fun q=>2-q) 0 ⟨oV,rfl⟩ ?_
   rintro J8 q di ek ft Z ⟨fk,rfl⟩;by_cases bg:q<2
   ·refine G.lT q 2 ?_;obtain⟨qs,qa,qn,qc,g,bl,fh⟩:=hV q bg;refine G.idxC 34 2 q _ _ kV bg kV kV g ?_;clear g;have C:=P.trans Z;refine G.c call16 (Bo7 (a0.mono C) (N.mono C) (ay.mono (I.trans C)) E H (bl.mono Z) oV) ?_;rintro et em ab ⟨lv,rfl,hD⟩;obtain⟨da,dc,rfl⟩:=hD.opn;have K:=C.trans ab;refine G.c call17 (Bol (a0.mono K) (N.mono K) (ay.mono (I.trans K)) E H (bl.mono (Z.trans ab)) oV) ?_;rintro eu en ac ⟨lv,rfl,aw⟩;obtain⟨fa,fb,rfl⟩:=aw.opn;have dv:=Bp3 A3 R3 F3 d us qs;rw[A03]at hD aw⊢;generalize Bk8 A3 R3 F3 d us qs=dx at hD aw dv⊢;generalize Blm A3 R3 F3 d us qs=de;refine G.c call18 (Ag2 (ts:=dx) (ts':=dx) (hD.mono ac) aw oV oV) ?_;rintro ew eo ad rfl;rw[decide_eq_true rfl];exact G.nF de de<|G.i q<|G.b (di (q+1) _ _ _ cV (((Z.trans ab).trans ac).trans ad) ⟨oV,rfl⟩ oV)
   obtain rfl:q=2:=oV;exact G.lF (2:Nat) 2<|G.i i<|G.b (dh (i+1) _ _ _ cV (a5.trans Z) ⟨oV,rfl⟩ oV)
  obtain rfl:i=3:=oV;exact G.lF (3:Nat) 3<|G.i j<|G.b (ck (j+1) _ _ _ cV (O.trans a5) ⟨oV,rfl⟩ oV)
 obtain rfl:j=3:=oV;refine G.lF (3:Nat) 3 ?_;clear ck;refine G.buildAr 52 28 3 1 [(0,.slice va ss.length vc),(1,.slice (some ⟨V,0,none⟩) ss.length Y),(2,.slice oa m.length oc)] #[.slice none 0 0,.slice none 0 0,.slice none 0 0] #[.slice va ss.length vc,.slice (some ⟨V,0,none⟩) ss.length Y,.slice oa m.length oc] kV mV kV kV kV kV<|G.l (ι:=Nat) (fun i=>[(2,sV oa m.length oc),(4,sV pa ps.length pc),(8,.p 1 0),(13,.v s.ptr),(15,sV va ss.length vc),(16,sV (some ⟨V,0,none⟩) ss.length Y),(17,.p 14006 0),(20,.p 17001 0),(116,.v (.agg #[.slice ya nT yc,.slice yb nR yd,.slice ye nF yf,.int .i64 z,.slice xa A.length xc,.slice xb R.length xd,.slice xe F.length xf,.int .i64 lab])),(117,iV n),(191,.v (.agg #[.slice va ss.length vc,.slice (some ⟨V,0,none⟩) ss.length Y,.slice oa m.length oc])),(192,iV i)])
  (fun _=>[(1,⟨33,[tV c0,sV a1 S.length c1,sV a2 Q.length c2]⟩),(14006,⟨33,[tV f0,sV b1 FS.length d1,sV b2 FQ.length d2]⟩),(17001,⟨27,[sV sa na sc,sV sb nb sd,sV se nf sf,iV d]⟩)])
  (fun i u' m'=>i<=3/\m'=s.M aq) (fun i=>3-i) 0 ⟨oV,rfl⟩ ?_
 rintro f5 i cj b9 fr a9 ⟨dz,rfl⟩;have a7:=a4.trans a9;by_cases a3:i<3
 rotate_left
 ·obtain rfl:i=3:=oV;exact G.lF (3:Nat) 3<|G.i n<|G.b (hJ (n+1,aq) _ _ _ cV (I.trans a7) ⟨dV,cz,rfl⟩ dV)
 refine G.lT i 3 ?_;obtain⟨us,ta,tn,tc,g,ay,E,H⟩:=hU i a3;refine G.idxC 28 3 i _ _ kV a3 kV kV g ?_;clear g;have hg:=fun (u':PH) (l:PH.le b9 u')=>a0.mono (a7.trans l);have W:=fun (u':PH) (l:PH.le b9 u')=>N.mono (a7.trans l);have X:=fun (u':PH) (l:PH.le b9 u')=>ay.mono ((I.trans a7).trans l);refine G.c call19 (Bna (hg _ (PH.le_refl _)) (W _ (PH.le_refl _)) (X _ (PH.le_refl _)) E H) ?_;rintro er ei aa ⟨lv,rfl,bm⟩;obtain⟨w1,x1,rfl⟩:=bm.opn;refine G.c call20 (Bm8 (hg _ aa) (W _ aa) (X _ aa) E H) ?_;rintro es ej ar ⟨lv,rfl,bn⟩;obtain⟨w2,x2,rfl⟩:=bn.opn;have O:=aa.trans ar;have fm:=Bpo (A:=A3) (R:=R3) (F:=F3) (lab:=d) (ss:=us);rw[A03]at bm bn⊢;refine G.c call21 (Bn0 (hg _ O) (W _ O) (X _ O) E H) ?_;rintro g7 d8 a5 rfl;have P:=O.trans a5;refine G.c call22 (Boh (hg _ P) (W _ P) (X _ P) E H) ?_;rintro g8 ek Z rfl;have C:=P.trans Z;refine G.c call23 (Bql (ea.mono ((I.trans a7).trans C)) (hg _ C) (W _ C) (X _ C) E H) ?_;intro et em ab bw;obtain⟨o1,o2,o3,o4,o5,o6,o7,rfl⟩:=Bks bw;have K:=C.trans ab;refine G.c call11 (Bnk (hg _ K) (W _ K) (X _ K) E H) ?_;intro eu en ac bx;obtain⟨y1,y2,y3,y4,y5,y6,y7,rfl⟩:=Bks bx;have ae:=K.trans ac;refine G.c call24 (Bgz (hg _ ae) (W _ ae) (X _ ae) E H) ?_;rintro ew eo ad rfl;have af:=ae.trans ad;refine G.c call25 (Bg4 (hg _ af) (W _ af) (X _ af) E H) ?_;rintro g9 c7 au rfl;have U:=af.trans au;have bs:=fun (u':PH) (l:PH.le c7 u')=>Bp5 (bw.mono (((ac.trans ad).trans au).trans l)) (bx.mono ((ad.trans au).trans l));have ct:=fun (u':PH) (l:PH.le c7 u')=>Bmk (hg _ (U.trans l)) (W _ (U.trans l)) (X _ (U.trans l)) E H;have cu:=fun (u':PH) (l:PH.le c7 u')=>Bmx (hg _ (U.trans l)) (W _ (U.trans l)) (X _ (U.trans l)) E H;clear bw bx;generalize H1 A3 R3 F3 d us=te at *
 generalize Biz A3 R3 F3 d us=vx at *
 generalize Bk2 A3 R3 F3 d us=lx at *
 generalize Bjt A3 R3 F3 d us=cx at *
 obtain⟨lt,lb⟩:=lx;refine G.nF te te<|G.c call26 (ct _ (PH.le_refl _)) ?_;rintro ga fy av rfl;refine G.c call27 (cu _ av) ?_;rintro gb g1 b8 rfl;have cs:∀ b:Bool,(!(b==b))=false:=fun b=>by cases b<;>rfl
 refine G.neB cx cx kV ?_;rw[cs];refine G.c call28 (Bop (bm.mono (((((((((ar.trans a5).trans Z).trans ab).trans ac).trans ad).trans au).trans av).trans b8))) (bn.mono ((((((((a5.trans Z).trans ab).trans ac).trans ad).trans au).trans av).trans b8))) oV) ?_;rintro gc ep d7 rfl;refine G.nF te te<|G.y lt lt rfl<|G.neB lb lb kV ?_;rw[cs];obtain⟨f7,f9,q1,q2,bt⟩:=bs ep ((av.trans b8).trans d7);cases q1;cases q2;refine G.c call29 bt ?_;rintro gd g2 ec rfl;exact G.nF te te<|G.i i<|G.b (cj (i+1) _ _ _ cV (a9.trans ((((U.trans av).trans b8).trans d7).trans ec)) ⟨oV,rfl⟩ oV)
end Go.Proofs.YtnjlhkppabfebaaGreatDoor
