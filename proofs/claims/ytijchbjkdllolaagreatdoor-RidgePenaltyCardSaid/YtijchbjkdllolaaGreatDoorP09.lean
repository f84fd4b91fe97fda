/- Parts of one proof, joined by a program. -/
import Derived.Test.YtijchbjkdllolaaGreatDoorP08
import Derived.ChangeKeysEq
set_option linter.defProp false
set_option linter.unusedVariables false
set_option linter.unusedSimpArgs false
set_option linter.unusedSectionVars false
set_option maxHeartbeats 16000000
namespace Go.Proofs.YtijchbjkdllolaaGreatDoor
open Go.Proofs.Tryz
open Go.RowKit Go.MapKept
def A6m:=@List.perm_append_comm
def A8s:=@List.map_eq_nil_iff
def A41:=@List.foldl_append
def A8l:=@List.getElem?_mapIdx
def A54:=@List.any_eq_false
def A86:=@Classical.em
section
variable {E c c' i k n n' w:Nat}{R Y q:List Int}{X:List (List Int)}{a a':Option Addr}{cs es:List Value}{o p s:Arr}{r:Value×List Value}{rows:List (Value×List Value)}{u:PH}{v:Value}
def Dv (r:Value×List Value):Arr:=⟨r.1,116,2,r.2⟩
def oN (v:Value)(rows:List (Value×List Value)):Arr:=⟨v,211,1,rows.map (·.1)⟩
def Ajc {m0 m:PH}:(Dv r).At m0 m=Af m0 m r.1 116 2 r.2:=rfl
def Ael {m0 m:PH}:(oN v rows).At m0 m=Af m0 m v 211 1 (rows.map (·.1)):=rfl
def Awx {x:Value}{es es':List Value}(h:rows[i]?=some (x,es)):oN v (rows.set i (x,es'))=oN v rows:=by
 unfold oN;rw[Aei (r':=(x,es')) h rfl]
def La (h:rows[i]?=some r):(s::p::o::rows.map Dv)[i+3]?=some (Dv r):=by simp[h]
def Aov :(s::p::o::rows.map Dv).set (i+3) (Dv r)=s::p::o::(rows.set i r).map Dv:=by
 rw[A0i,A0i,A0i,A1d]
structure N3 where
 b:Bool
 a:Option Addr
 n:Nat
 c:Nat
def nv (f:N3):Value:=.agg #[.bool f.b,.slice f.a f.n f.c]
def Aut (f:N3):List SV:=[.v (.bool f.b),.v (.slice f.a f.n f.c)]
def Bq.opN {z:Int}(h:Bq u v z):∃ f,v=nv f:=by
 obtain⟨b,a,n,c,rfl⟩:=h.opn;exact⟨⟨b,a,n,c⟩,rfl⟩
def NAt (u:PH)(rows:List (Value×List Value))(X:List (List Int)):Prop:=rows.length=X.length/\∀ (i:Nat) (r:Value×List Value),rows[i]?=some r->AtP Bq u r.2 (gMZ X i)
def NAt.mono {u u':PH}{rows:List (Value×List Value)}{X:List (List Int)}(h:NAt u rows X)(hl:PH.le u u'):NAt u' rows X:=⟨h.1,fun i r hr=>(h.2 i r hr).mono (fun _ _ k=>k.mono hl)⟩
def NAt.set (h:NAt u rows X)(hi:i<rows.length)(C:AtP Bq u r.2 q):NAt u (rows.set i r) (X.set i q):=by
 refine⟨by simp[h.1],fun j r' t=>?_⟩;rw[Mf (by rw[<-h.1];exact hi)];rw[A1g]at t;by_cases e:i=j
 ·subst e;rw[if_pos rfl,if_pos hi]at t;simp only[Ayz]at t;rw[if_pos rfl,<-t];exact C
 rw[if_neg e]at t⊢;exact h.2 j r' t
def Aod (i:Nat):gMZ (X++[q]) i=if i<X.length then gMZ X i else if i=X.length then q else []:=by
 unfold gMZ;rw[Ays,Ays];by_cases h:i<X.length
 ·rw[Azi h,if_pos h]
 rw[if_neg h];by_cases e:i=X.length
 ·subst e;rw[if_pos rfl];simp
 rw[if_neg e,Azo gV];rfl
def NAt.snoc (h:NAt u rows X)(j:AtP Bq u r.2 q):NAt u (rows++[r]) (X++[q]):=by
 refine⟨by simp[h.1],fun i r' hi=>?_⟩;rw[Aod];by_cases e:i<rows.length
 ·rw[Azi e]at hi;rw[if_pos (by rw[<-h.1];exact e)];exact h.2 i r' hi
 rw[Azy oV]at hi;have t:i-rows.length=0:=by
  rcases Azx (i-rows.length) with h0|h0
  ·exact h0
  rw[Azo gV]at hi;cases hi
 rw[t]at hi;simp at hi;subst hi;rw[if_neg (by rw[<-h.1];omega),if_pos (by rw[<-h.1];omega)];exact j
def Ex (rv pv:Value)(f:N3)(odd:Bool):List Value:=[rv,pv,.bool f.b,.slice f.a f.n f.c,.bool odd]
def Jn (g:Nat)(cs:List Value):Arr:=⟨.slice (some ⟨g,0,none⟩) 5 5,213,1,cs⟩
def Uv {g:Nat}{m0 m:PH}:(Jn g cs).At m0 m=Af m0 m (.slice (some ⟨g,0,none⟩) 5 5) 213 1 cs:=rfl
def An6 (h:∀ x∈es,Az x=true/\x.cells = #[x]):Ba 1 es:=fun x C=>by
 obtain⟨j,t⟩:=h x C;rw[t];exact⟨rfl,fun y e=>by simp at e;subst e;exact j⟩
def Ai2 {f:N3}{odd:Bool}:Ba 1 (Ex (.slice a n c) (.slice a' n' c') f odd):=An6 (by
 intro x e;simp only[Ex,Ay7,A0b,or_false]at e;rcases e with rfl|rfl|rfl|rfl|rfl<;>exact⟨rfl,rfl⟩)
def Lq (h:∀ x∈es,x.cells = #[x]):A6 es=es:=by
 induction es with
 |nil=>rfl
 |cons e es ih =>
  unfold A6 at ih⊢;rw[A40,ih (fun x j=>h x (Azq _ j)),h e mV];rfl
def Qz {f:N3}{odd:Bool}:∀ x∈Ex (.slice a n c) (.slice a' n' c') f odd,x.cells = #[x]:=by
 intro x e;simp only[Ex,Ay7,A0b,or_false]at e;rcases e with rfl|rfl|rfl|rfl|rfl<;>rfl
def Aeg {m:PH}{g:Nat}{f:N3}{odd:Bool}(e:m g=none):(Jn g (Ex (.slice a n c) (.slice a' n' c') f odd)).At m (m.upd g (.cells (Ex (.slice a n c) (.slice a' n' c') f odd).toArray 213 (0,0))):=by
 rw[Uv];refine⟨Ai2,.inr ⟨g,5,[],e,?_,rfl,by simp[Ex],by rw[Lq Qz];simp[Ex],mV⟩⟩;rw[Lq Qz,Azl]
def An8 {m0 m:PH}{g:Nat}(h:(Jn g cs).At m0 m)(F:∀ x∈cs,x.cells = #[x])(J:cs.length=5):m0 g=none/\m=m0.upd g (.cells cs.toArray 213 (0,0)):=by
 rw[Uv]at h;rcases h.2 with ⟨h,_,_⟩|⟨I,cap,rest,C,e,j,H,t,_⟩
 ·cases h
 simp only[Value.slice.injEq,Ayz,Addr.mk.injEq]at j;obtain⟨⟨rfl,_,_⟩,_,rfl⟩:=j;rw[Lq F]at e t;have:rest = []:=by
  refine A0a ?_;rw[Ay3]at t;omega
 subst this;rw[Azl]at e;exact⟨C,e⟩
section
variable {m:PH} {g:Nat} {l:List Arr} {rv pv:Value} {f:N3} {odd:Bool}
def El (h:Bag m (Jn g (Ex rv pv f odd)::l)):ElP m g (0+0) rv:=h.el (j:=0) 0 (x:=Jn g (Ex rv pv f odd)) rfl rfl rfl
def Aav (h:Bag m (Jn g (Ex rv pv f odd)::l)):ElP m g (0+1) pv:=h.el (j:=1) 0 (x:=Jn g (Ex rv pv f odd)) rfl rfl rfl
def Ah5 (h:Bag m (Jn g (Ex rv pv f odd)::l)):ElP m g (0+4) (.bool odd):=h.el (j:=4) 0 (x:=Jn g (Ex rv pv f odd)) rfl rfl rfl
def Akb (h:Bag m (Jn g (Ex rv pv f odd)::l)):ElP m g (0+2) (nv f):=by
 have e:ElP m g (0+2*1) (.bool f.b):=h.el (j:=2) 0 (x:=Jn g (Ex rv pv f odd)) rfl rfl rfl;have t:ElP m g (0+3*1) (.slice f.a f.n f.c):=h.el (j:=3) 0 (x:=Jn g (Ex rv pv f odd)) rfl rfl rfl;intro i x hi
 match i,hi with
 |0,hi=>exact e 0 x hi
 |1,hi=>exact t 0 x hi
end
def Aff {u m:PH}{g n c w i:Nat}(C:Bag m (s::p::oN (.slice (some ⟨g,0,none⟩) n c) rows::rows.map Dv))(P:NAt u rows X)(N:Gs n w X)(hi:i<n)(V:0<w) :
 ∃ I K H,rows[i]?=some (.slice (some ⟨I,0,none⟩) w K,H)/\H.length=w/\AtP Bq u H (gMZ X i)/\ElP m g (0+i*1) (.slice (some ⟨I,0,none⟩) w K)/\∀ j,j<w->∃ f,H[j]?=some (nv f)/\Bq u (nv f) (enZ X i j)/\ElP m I (0+j*2) (nv f):=by
 have U:rows.length=n:=by rw[P.1,N.1]
 have h:rows[i]?=some rows[i]:=Ayr oV;have t:=P.2 i _ h;obtain⟨⟨W,H⟩,Q⟩:∃ x,rows[i]=x:=⟨_,rfl⟩;rw[Q]at h t;simp only at t;have F:H.length=w:=by rw[t.1,N.2 i hi]
 obtain⟨I,K,e⟩:=C.ptr (i+3) (La h) (by intro e;simp only[Dv]at e;rw[e]at F;simp at F;omega);simp only[Dv]at e;rw[F]at e;subst e;refine⟨I,K,H,h,F,t,C.el 2 (x:=oN _ rows) rfl rfl (by show (rows.map (·.1))[i]?=_;rw[Ayy,h];rfl),fun j T=>?_⟩;have J:j<(gMZ X i).length:=by rw[N.2 i hi];exact T
 obtain⟨e,O,L⟩:=t.at J;obtain⟨f,rfl⟩:=L.opN;rw[<-Z7 J]at L;exact⟨f,O,L,C.el (i+3) (x:=Dv _) (La h) rfl O⟩
def T8 (Y R:List Int)(k:Nat):List Int:=Y.take k++R.drop k
def Amg (Y R:List Int):T8 Y R 0=R:=by simp[T8]
def Am0 (h:Y.length=k)(e:R.length=k):T8 Y R k=Y:=by
 unfold T8;rw[Ay6 oV,Az1 oV,Azl]
def Ap5 (h:Y.length=R.length)(e:k<=R.length):(T8 Y R k).length=R.length:=by simp[T8];omega
def An0 (h:Y.length=R.length)(e:k<R.length):(T8 Y R k).set k (gZ Y k)=T8 Y R (k+1):=by
 unfold T8;rw[A2j _ _ gV];simp only[Ay1];rw[show k-min k Y.length=0 by omega,A3l e,A0p,Vk oV,Azm,Z7 oV];rfl
def Atz (h:Y.length=R.length)(e:k<R.length):gZ (T8 Y R k) k=gZ R k:=by
 unfold T8 gZ;rw[Ays,Azy gV,Ays];simp only[Ay1];rw[show k-min k Y.length=0 by omega,A2z];rfl
def SzZ (X:List (List Int))(E:Nat):Prop:=∀ i j,nl (enZ X i j).natAbs<=E
def SzZ.mono {E E':Nat}(h:SzZ X E)(hl:E<=E'):SzZ X E':=fun i j=>Ayv (h i j) hl
def Abu {v a g x y:Int}(t:nl a.natAbs<=E)(C:nl g.natAbs<=E)(F:nl x.natAbs<=E)(H:nl y.natAbs<=E):nl (x*a).natAbs<=2*E/\nl (g*y).natAbs<=2*E/\nl (x*a-g*y).natAbs<=2*E+1/\nl ((x*a-g*y)/v).natAbs<=2*E+1:=by
 have e:=B5 F t;have h:=B5 C H;have j:=Aby e h;exact⟨e,h,j,Ayv (Cs (Int.natAbs_ediv_le_natAbs _ _)) j⟩
def SzZ.swap {n w p r E:Nat}(h:SzZ X E)(e:Gs n w X)(hp:p<n)(t:r<n):SzZ (Ki X p r) E:=fun i j=>by
 unfold enZ;rw[Ve e hp t];split
 ·exact h p j
 split
 ·exact h r j
 exact h i j
def SzZ.row {n w r c i E:Nat}{v:Int}(h:SzZ X E)(e:Gs n w X)(t:r<n)(hi:i<n)(j:Nat):nl (gZ (Pn v (enZ X r c) (enZ X i c) (gMZ X r) (gMZ X i)) j).natAbs<=2*E+1:=by
 rw[Abg _ _ _ _ _ (by rw[e.2 r t,e.2 i hi])];exact (Abu (h r c) (h i c) (h i j) (h r j)).2.2.2
def SzZ.clr {n w r c E:Nat}{v:Int}(h:SzZ X E)(e:Gs n w X)(t:r<n):SzZ (N4 r c v n 0 X) (2*E+1):=fun i j=>by
 unfold enZ;rw[Re t n 0 X oV e];split
 ·rename_i h1;exact h.row e t oV j
 exact Ayv (h i j) oV
def Aik {s:BZ}(h:SzZ s.X E)(I:nl s.v.natAbs<=E)(t:Gs n w s.X)(H:s.P.length<=n):SzZ (Is n c s).X (2*E+1)/\nl (Is n c s).v.natAbs<=2*E+1/\Gs n w (Is n c s).X/\(Is n c s).P.length<=n/\(s.v≠0->(Is n c s).v≠0):=by
 obtain⟨K,L⟩:=Abp s.X c (n-s.P.length) s.P.length;have J:=Aad s.X c (n-s.P.length) s.P.length;unfold Is;generalize Io s.X c (n-s.P.length) s.P.length=p at *
 split
 ·exact⟨h.mono oV,Ayv I oV,t,H,id⟩
 rename_i e;have hp:p<n:=oV;have C:s.P.length<n:=oV;have j:Gs n w (if p=s.P.length then s.X else Ki s.X p s.P.length):=by
  split
  ·exact t
  exact Sj t hp C
 have F:SzZ (if p=s.P.length then s.X else Ki s.X p s.P.length) E:=by
  split
  ·exact h
  exact h.swap t hp C
 exact⟨F.clr j C,Ayv (h p c) oV,V3 C n 0 _ oV j,gV,fun _=>J oV⟩
end
structure E3 where
 rows:List (Value×List Value)
 X:List (List Int)
 odd:Bool
def At1 {z:Int}:sgn z=0↔z=0:=by unfold sgn;split<;>(try split)<;>omega
def Avg {u m:PH}{g go I n w c E:Nat}{C:List (Value×List Value)}{L:List (List Int)}{P:List Nat}{U:Option Addr}{V:Nat}{f0:N3}{t:Bool}{v:Int}
 (W:Gs n w L) (hn:n<=100) (hw:w<=100) (hc:c<w) (hP:P.length<=n) (h0:0<n) (a4:SzZ L E) (hv:Bq u (nv f0) v) (d7:nl v.natAbs<=E) (d5:v≠0) (hE:E<=1000000000) (b1:NAt u C L)
 (h:Bag m (Jn g (Ex (.slice (some ⟨go,0,none⟩) n I) (.slice U P.length V) f0 t)::Wz (.slice U P.length V) P::oN (.slice (some ⟨go,0,none⟩) n I) C::C.map Dv)) :
 Ag prog 201 [.pointer (some ⟨g,0,none⟩),.int .i64 c] u m fun r u' m'=>r=.tuple #[]/\∃ cj ck f' a3,NAt u' a3 (Is n c ⟨L,P,v,t⟩).X/\Bq u' (nv f') (Is n c ⟨L,P,v,t⟩).v /\
  Bag m' (Jn g (Ex (.slice (some ⟨go,0,none⟩) n I) (.slice cj (Is n c ⟨L,P,v,t⟩).P.length ck) f' (Is n c ⟨L,P,v,t⟩).odd)::Wz (.slice cj (Is n c ⟨L,P,v,t⟩).P.length ck) (Is n c ⟨L,P,v,t⟩).P::oN (.slice (some ⟨go,0,none⟩) n I) a3::a3.map Dv):=by
 have ah:0<w:=oV;refine Ag.o func201<|G.f 213 g 0 1 1<|G.lM none g (0+1) (.slice U P.length V) (Aav h)<|G.l (ι:=Nat) (fun p=>[(0,.v (.pointer (some ⟨g,0,none⟩))),(1,iV c),(4,iV P.length),(5,iV p)]) (fun _=>[])
  (fun p u' m'=>P.length<=p/\p<=n/\Io L c (n-p) p=Io L c (n-P.length) P.length/\m'=m) (fun p=>n-p) P.length ⟨Ay2 _,hP,rfl,rfl⟩ ?_
 rintro J2 p bk u3 m3 l3 ⟨ds,du,a8,rfl⟩;have K:=b1.mono l3;refine G.f 213 g 0 0 0<|G.lM none g (0+0) (.slice (some ⟨go,0,none⟩) n I) (El h) ?_;by_cases Z:n<=p
 ·obtain rfl:p=n:=oV;refine G.lF p p<|G.f 213 g 0 0 0<|G.lM none g (0+0) (.slice (some ⟨go,0,none⟩) p I) (El h)<|G.hT p p ?_;have e:Is p c ⟨L,P,v,t⟩=⟨L,P,v,t⟩:=by
   unfold Is;rw[if_pos];show Io L c (p-P.length) P.length=p;rw[<-a8,A20];rfl
  refine G.r (.tuple #[]) ?_;rw[e];exact⟨rfl,U,V,f0,C,K,hv.mono l3,h⟩
 have Z:p<n:=oV;refine G.lT p n ?_;obtain⟨K2,bm⟩:∃ K2,n-p=K2+1:=⟨n-p-1,oV⟩;obtain⟨gp,cp,ep,c2,d3,bj,ac,bx⟩:=Aff h K W Z ah;obtain⟨fp,d2,bz,c0⟩:=bx c hc;refine G.f 213 g 0 0 0<|G.lM none g (0+0) (.slice (some ⟨go,0,none⟩) n I) (El h)<|G.a go 0 n I p 1 Z<|G.lM none go (0+p*1) _ ac<|G.a gp 0 w cp c 2 hc<|G.lM (some 2) gp (0+c*2) (nv fp) c0<|G.c call180 (R3 bz (Ayv (a4 p c) oV)) ?_;rintro v4 u4 l4 rfl;by_cases hz:enZ L p c=0
 ·refine G.eT' (sgn (enZ L p c)) 0 (At1.2 hz)<|G.i p<|G.b (bk (p+1) _ _ _ cV (l3.trans l4) ⟨oV,oV,?_,rfl⟩ oV);rw[<-a8,bm,Io,if_pos hz,show n-(p+1)=K2 by omega]
 refine G.eF' (sgn (enZ L p c)) 0 (fun e=>hz (At1.1 e)) ?_;rw[bm,Io,if_neg hz]at a8;clear bk;have O:P.length<n:=oV;refine G.f 213 g 0 0 0<|G.lM none g (0+0) (.slice (some ⟨go,0,none⟩) n I) (El h)<|G.hF p n<|G.join (ι:=E3) (.bool false) (fun i=>[(0,.v (.pointer (some ⟨g,0,none⟩))),(1,iV c),(4,iV P.length)]) (fun i=>[])
  (fun i u' m'=>i.X=(if p=P.length then L else Ki L p P.length)/\i.odd=(if p=P.length then t else !t)/\NAt u' i.rows i.X/\Bag m' (Jn g (Ex (.slice (some ⟨go,0,none⟩) n I) (.slice U P.length V) f0 i.odd)::Wz (.slice U P.length V) P::oN (.slice (some ⟨go,0,none⟩) n I) i.rows::i.rows.map Dv)) (fun _=>kV) kV ?tail ?way
 case way =>
  intro ab;by_cases ap:p=P.length
  ·refine G.nF p P.length ?_;exact ab ⟨C,L,t⟩ _ _ _ kV cV (PH.le_refl _) ⟨by rw[if_pos ap],by rw[if_pos ap],K.mono l4,h⟩
  refine G.nT p P.length ?_;obtain⟨gr,cr,er,be,aw,ay,ao,b4⟩:=Aff h K W O ah;refine G.f 213 g 0 0 0<|G.lM none g (0+0) (.slice (some ⟨go,0,none⟩) n I) (El h)<|G.f 213 g 0 0 0<|G.lM none g (0+0) (.slice (some ⟨go,0,none⟩) n I) (El h)<|G.f 213 g 0 0 0<|G.lM none g (0+0) (.slice (some ⟨go,0,none⟩) n I) (El h)<|G.a go 0 n I P.length 1 O<|G.lM none go (0+P.length*1) _ ao<|G.f 213 g 0 0 0<|G.lM none g (0+0) (.slice (some ⟨go,0,none⟩) n I) (El h)<|G.a go 0 n I p 1 Z<|G.lM none go (0+p*1) _ ac ?_;obtain⟨m0,ai,ad⟩:=h.focus 2 rfl;rw[Ael]at ai;have dg:C.length=n:=by rw[b1.1,W.1]
  refine G.a go 0 n I p 1 Z<|G.storeA 1 m0 _ go n I p (.slice (some ⟨gr,0,none⟩) w cr) kV ai gV rfl rfl ?_;intro m5 d9;refine G.a go 0 n I P.length 1 O<|G.storeA 1 m0 _ go n I P.length (.slice (some ⟨gp,0,none⟩) w cp) kV d9 gV rfl rfl ?_;intro m6 c9;have bd:((C.map (·.1)).set p (Value.slice (some ⟨gr,0,none⟩) w cr)).set P.length (Value.slice (some ⟨gp,0,none⟩) w cp)=((C.set p (Value.slice (some ⟨gr,0,none⟩) w cr,er)).set P.length (Value.slice (some ⟨gp,0,none⟩) w cp,ep)).map (·.1):=by rw[A1d,A1d]
  rw[bd]at c9;have ct:=ad (oN (.slice (some ⟨go,0,none⟩) n I) ((C.set p (Value.slice (some ⟨gr,0,none⟩) w cr,er)).set P.length (Value.slice (some ⟨gp,0,none⟩) w cp,ep))) m6 c9;have b7:((C.set p (Value.slice (some ⟨gr,0,none⟩) w cr,er)).set P.length (Value.slice (some ⟨gp,0,none⟩) w cp,ep)).Perm C:=by
   obtain⟨q1,q2⟩:=Ayu.1 c2;obtain⟨q3,q4⟩:=Ayu.1 be;rw[<-q2,<-q4];exact List.set_set_perm q1 q3
  have bu:=Bag.perm (List.Perm.cons _ (List.Perm.cons _ (List.Perm.cons _ (b7.symm.map Dv)))) ct;have a1:=(K.set (i:=p) (r:=(Value.slice (some ⟨gr,0,none⟩) w cr,er)) oV ay).set (i:=P.length) (r:=(Value.slice (some ⟨gp,0,none⟩) w cp,ep)) gV bj;refine G.f 213 g 0 3 4<|G.lM none g (0+4) (.bool t) (Ah5 bu)<|G.f 213 g 0 3 4 ?_;obtain⟨m7,ca,bb⟩:=bu.focus 0 rfl;rw[Uv]at ca;refine G.storeA 1 m7 _ g 5 5 4 (.bool !t) kV ca (by simp[Ex]) rfl rfl ?_;intro m8 da;have cu:=bb (Jn g (Ex (.slice (some ⟨go,0,none⟩) n I) (.slice U P.length V) f0 (!t))) m8 da;exact ab ⟨(C.set p (Value.slice (some ⟨gr,0,none⟩) w cr,er)).set P.length (Value.slice (some ⟨gp,0,none⟩) w cp,ep),Ki L p P.length,!t⟩ _ _ _ kV cV (PH.le_refl _) ⟨by rw[if_neg ap],by rw[if_neg ap],a1.mono l4,cu⟩
 rintro⟨rows1,X1,odd1⟩ u5 m5 l5 ⟨hX1e,hod,a1,hbag1⟩;simp only at hX1e hod a1 hbag1;have am:Gs n w X1:=by
  rw[hX1e];split
  ·exact W
  exact Sj W Z O
 have ag:SzZ X1 E:=by
  rw[hX1e];split
  ·exact a4
  exact a4.swap W Z O
 have bp:enZ X1 P.length c=enZ L p c:=by
  rw[hX1e];split
  ·rename_i e;rw[e]
  unfold enZ;rw[Ve W Z O,if_pos rfl]
 have af:Is n c ⟨L,P,v,t⟩=⟨N4 P.length c v n 0 X1,P++[c],enZ X1 P.length c,odd1⟩:=by
  unfold Is;rw[if_neg (by show ¬ Io L c (n-P.length) P.length=n;rw[<-a8];omega),bp,hod,hX1e];show BZ.mk _ _ _ _=_;simp only[<-a8]
 rw[af];clear af hX1e h b1 K c2 d3 bj ac bx d2 bz c0 a8 a4 W;have d6:=hv.mono ((l3.trans l4).trans l5);have dv:rows1.length=n:=by rw[a1.1,am.1]
 obtain⟨gr,cr,er,be,aw,ay,ao,b4⟩:=Aff hbag1 a1 am O ah;obtain⟨fr,h5,h6,h7⟩:=b4 c hc;obtain⟨R,hR⟩:∃ R,R=gMZ X1 P.length:=⟨_,rfl⟩;have dm:R.length=w:=by rw[hR];exact am.2 _ O
 obtain⟨F,hF⟩:∃ F,F=enZ X1 P.length c:=⟨_,rfl⟩;have az:nl F.natAbs<=E:=by rw[hF];exact ag _ _
 have b2:∀ j,nl (gZ R j).natAbs<=E:=fun j=>by rw[hR];exact ag _ j
 rw[<-hF]at h6⊢;have cn:gZ R c=F:=by rw[hR,hF];rfl
 refine G.f 213 g 0 0 0<|G.lM none g (0+0) (.slice (some ⟨go,0,none⟩) n I) (El hbag1)<|G.a go 0 n I P.length 1 O<|G.lM none go (0+P.length*1) _ ao<|G.a gr 0 w cr c 2 hc<|G.lM (some 2) gr (0+c*2) (nv fr) h7<|G.f 213 g 0 0 0<|G.lM none g (0+0) (.slice (some ⟨go,0,none⟩) n I) (El hbag1)<|G.l (ι:=Nat×List (Value×List Value)×List (List Int)) (fun i=>[(0,.v (.pointer (some ⟨g,0,none⟩))),(1,iV c),(4,iV P.length),(6,.p 8010 0),(97,sV (some ⟨go,0,none⟩) n I),(98,iV n),(99,iV i.1)]) (fun i=>[(8010,⟨116,Aut fr⟩)])
  (fun i u' m'=>i.1<=n/\N4 P.length c v (n-i.1) i.1 i.2.2=N4 P.length c v n 0 X1/\Gs n w i.2.2/\gMZ i.2.2 P.length=R/\(∀ x j,i.1<=x->nl (enZ i.2.2 x j).natAbs<=E)/\NAt u' i.2.1 i.2.2 /\
   Bag m' (Jn g (Ex (.slice (some ⟨go,0,none⟩) n I) (.slice U P.length V) f0 odd1)::Wz (.slice U P.length V) P::oN (.slice (some ⟨go,0,none⟩) n I) i.2.1::i.2.1.map Dv))
  (fun i=>n-i.1) (0,rows1,X1) ⟨Azh _,rfl,am,hR.symm,fun x j _=>ag x j,a1,hbag1⟩ ?_
 clear a1 hbag1 be aw ay ao b4 h5 h7;rintro J4 ⟨i,H,X3⟩ b0 u8 m8 l8 ⟨hi,aa,Y,Q,a0,K,J⟩;simp only at hi aa Y Q a0 K J b0;have d4:H.length=n:=by rw[K.1,Y.1]
 by_cases a7:i<n
 ·refine G.lT i n ?_;obtain⟨K3,bn⟩:∃ K3,n-i=K3+1:=⟨n-i-1,oV⟩;obtain⟨gi,ci,ei,c1,cy,bi,d1,cv⟩:=Aff J K Y a7 ah;refine G.a go 0 n I i 1 a7<|G.lM none go (0+i*1) _ d1 ?_;by_cases an:i=P.length
  ·refine G.eT i P.length<|G.i i<|G.b (b0 (i+1,H,X3) _ _ _ cV l8 ⟨dV,?_,Y,Q,fun x j h1=>a0 x j (by dsimp only at h1;omega),K,J⟩ dV);dsimp only;rw[<-aa,bn,N4,if_pos an,show n-(i+1)=K3 by omega]
  refine G.eF i P.length ?_;obtain⟨fg,g5,g6,g7⟩:=cv c hc;have b6:=a0 i c (Ay2 _);refine G.a gi 0 w ci c 2 hc<|G.lM (some 2) gi (0+c*2) (nv fg) g7 ?_;obtain⟨S,hS⟩:∃ S,S=gMZ X3 i:=⟨_,rfl⟩;have bo:S.length=w:=by rw[hS];exact Y.2 i a7
  have b3:∀ j,nl (gZ S j).natAbs<=E:=fun j=>by rw[hS];exact a0 i j (Ay2 _)
  have cm:enZ X3 P.length c=F:=by unfold enZ;rw[Q];exact cn
  have bw:N4 P.length c v (n-(i+1)) (i+1) (X3.set i (Pn v F (enZ X3 i c) R S))=N4 P.length c v n 0 X1:=by
   rw[<-aa,bn,N4,if_neg an,show n-(i+1)=K3 by omega,hS,Q,cm]
  generalize hg:enZ X3 i c=gg at *
  rw[<-hS]at bi;have bf:=Rs v F gg R S;have dp:∀ j,nl (gZ (Pn v F gg R S) j).natAbs<=2*E+1:=fun j=>by
   rw[Abg _ _ _ _ _ oV];exact (Abu az b6 (b3 j) (b2 j)).2.2.2
  obtain⟨gs,cs,bh,c3,dh,dl,dr,cw⟩:=Aff J K Y O ah;refine G.l (ι:=Nat×List Value) (fun y=>[(0,.v (.pointer (some ⟨g,0,none⟩))),(1,iV c),(4,iV P.length),(6,.p 8010 0),(97,sV (some ⟨go,0,none⟩) n I),(98,iV n),(99,iV i),(8,sV (some ⟨gi,0,none⟩) w ci),(9,.p 13004 0),(112,iV w),(113,iV y.1)]) (fun y=>[(8010,⟨116,Aut fr⟩),(13004,⟨116,Aut fg⟩)])
   (fun y u' m'=>y.1<=w/\AtP Bq u' y.2 (T8 (Pn v F gg R S) S y.1)/\Bag m' (Jn g (Ex (.slice (some ⟨go,0,none⟩) n I) (.slice U P.length V) f0 odd1)::Wz (.slice U P.length V) P::oN (.slice (some ⟨go,0,none⟩) n I) H::(H.set i ((Value.slice (some ⟨gi,0,none⟩) w ci),y.2)).map Dv)) (fun y=>w-y.1) (0,ei)
   ⟨Azh _,by rw[Amg];exact bi,by rw[Acj c1];exact J⟩ ?_
  rintro J5 ⟨y,N⟩ bl dw a9 a2 ⟨hy,a6,T⟩;simp only at hy a6 T bl;have d0:=Ap5 (k:=y) bf oV;have dq:N.length=w:=by rw[a6.1,d0,bo]
  have av:(H.set i ((Value.slice (some ⟨gi,0,none⟩) w ci),N))[i]?=some ((Value.slice (some ⟨gi,0,none⟩) w ci),N):=by rw[A1g];simp[d4,a7]
  have b5:(H.set i ((Value.slice (some ⟨gi,0,none⟩) w ci),N))[P.length]?=some (Value.slice (some ⟨gs,0,none⟩) w cs,bh):=by rw[A1g,if_neg an];exact c3
  by_cases aq:y<w
  ·refine G.lT y w ?_;obtain⟨e,e1,e2⟩:=a6.at (j:=y) oV;obtain⟨fe,rfl⟩:=e2.opN;rw[<-Z7 oV,Atz bf oV]at e2;have ac:ElP a9 go (0+P.length*1) (Value.slice (some ⟨gs,0,none⟩) w cs):=T.el 2 (x:=oN (.slice (some ⟨go,0,none⟩) n I) H) rfl rfl (by show (H.map (·.1))[P.length]?=_;rw[Ayy,c3];rfl);have he:ElP a9 gi (0+y*2) (nv fe):=T.el (i+3) (x:=Dv ((Value.slice (some ⟨gi,0,none⟩) w ci),N)) (La av) rfl e1;obtain⟨fs,s5,s6,_⟩:=cw y aq;have dd:Bq u8 (nv fs) (gZ R y):=by rw[<-Q];exact s6
   have cx:ElP a9 gs (0+y*2) (nv fs):=T.el (P.length+3) (x:=Dv (Value.slice (some ⟨gs,0,none⟩) w cs,bh)) (La b5) rfl s5;have c4:=(d6.mono l8).mono a2;obtain⟨z1,z2,z3,z4⟩:=Abu (v:=v) az b6 (b3 y) (b2 y);refine G.a gi 0 w ci y 2 aq<|G.lM (some 2) gi (0+y*2) (nv fe) he<|G.f 213 g 0 0 0<|G.lM none g (0+0) (.slice (some ⟨go,0,none⟩) n I) (El T)<|G.a go 0 n I P.length 1 O<|G.lM none go (0+P.length*1) _ ac<|G.a gs 0 w cs y 2 aq<|G.lM (some 2) gs (0+y*2) (nv fs) cx<|G.f 213 g 0 2 2<|G.lM (some 2) g (0+2) (nv f0) (Akb T)<|G.c call117 (Fq e2 ((h6.mono l8).mono a2) (Ayv (b3 y) oV) (Ayv az oV)) ?_;intro e4 dx aj cb;obtain⟨di,rfl⟩:=cb.opN;refine G.c call117 (Fq ((g6.mono a2).mono aj) ((dd.mono a2).mono aj) (Ayv b6 oV) (Ayv (b2 y) oV)) ?_;intro e5 dy ar cc;obtain⟨dj,rfl⟩:=cc.opN;refine G.c call221 (Ajo (cb.mono ar) cc (Ayv z1 oV) (Ayv z2 oV)) ?_;intro e6 dz bg cd;obtain⟨dk,rfl⟩:=cd.opN;refine G.c call183 (Ox cd (c4.mono ((aj.trans ar).trans bg)) (Ayv z3 oV) (Ayv d7 oV) d5) ?_;rintro e7 e0 ch ⟨e8,ea,rfl,ce,cg⟩;obtain⟨ax,rfl⟩:=ce.opN;obtain⟨df,rfl⟩:=cg.opN;obtain⟨m0,ai,ad⟩:=T.focus (i+3) (La av);rw[Ajc]at ai;refine G.a gi 0 w ci y 2 aq<|G.storeA 2 m0 N gi w ci y (nv ax) kV ai oV rfl rfl ?_;intro dc c7;have au:=ad (Dv ((Value.slice (some ⟨gi,0,none⟩) w ci),N.set y (nv ax))) dc c7;rw[Aov,A7o]at au;refine G.i y<|G.b (bl (y+1,N.set y (nv ax)) _ _ _ cV ((((a2.trans aj).trans ar).trans bg).trans ch) ⟨dV,?_,au⟩ dV);dsimp only;rw[<-An0 bf oV,Abg _ _ _ _ _ oV];exact (a6.mono (fun _ _ k=>k.mono (((aj.trans ar).trans bg).trans ch))).set y ce
  obtain rfl:y=w:=oV;refine G.lF y y ?_;rw[Am0 oV bo]at a6;rw[<-Awx (es':=N) c1]at T;refine G.i i ?_;have cq:Gs n y (X3.set i (Pn v F gg R S)):=Ng Y a7 oV;have ae:∀ x,gMZ (X3.set i (Pn v F gg R S)) x=if i=x then Pn v F gg R S else gMZ X3 x:=fun x=>Mf (by rw[Y.1];exact a7)
  refine G.b (b0 (i+1,H.set i ((Value.slice (some ⟨gi,0,none⟩) y ci),N),X3.set i (Pn v F gg R S)) _ _ _ cV (l8.trans a2) ⟨dV,bw,cq,?_,?_,?_,T⟩ dV)
  ·dsimp only;rw[ae,if_neg an];exact Q
  ·intro x j h1;dsimp only at h1⊢;unfold enZ;rw[ae,if_neg oV];exact a0 x j oV
  exact (K.mono a2).set (i:=i) (r:=((Value.slice (some ⟨gi,0,none⟩) y ci),N)) oV a6
 obtain rfl:i=n:=oV;refine G.lF i i ?_;rw[A20,N4]at aa;rw[<-aa];refine G.f 213 g 0 1 1<|G.lM none g (0+1) (.slice U P.length V) (Aav J)<|G.B 3 1 8 (.int .i64 0) [.int .i64 c] (A8 [c]) ?_;intro g9 u9 l9 e9;obtain⟨m1,c5,b8⟩:=J.focus 1 rfl;rw[Atw]at c5;have cy:(Ai P).length=P.length:=by simp[Ai]
 refine G.append 3 1 8 (.int .i64 0) m1 (Ai P) [.int .i64 c] (.slice U P.length V) g9 0 1 1 kV rfl rfl oV c5 e9 (A8 [c]) rfl oV oV oV ?_;intro e3 a9 a5;rw[show Ai P++[Value.int .i64 c]=Ai (P++[c]) by simp[Ai]]at a5;obtain⟨ak,al,rfl⟩:=a5.shape;have el:(Ai (P++[c])).length=(P++[c]).length:=by simp[Ai]
 rw[el]at a5⊢;have bq:=b8 (Wz (.slice ak (P++[c]).length al) (P++[c])) a9 a5;obtain⟨m2,d8,b9⟩:=bq.focus 0 rfl;obtain⟨cz,em⟩:=An8 d8 Qz rfl;refine G.f 213 g 0 2 2<|G.storeM 2 g (0+2) 213 (Ex (.slice (some ⟨go,0,none⟩) i I) (.slice U P.length V) f0 odd1) (nv fr) kV (by rw[em,Ab]) (fun x hx=>by
  have:=(Ai2 x hx).2 x (by rw[Qz x hx];simp);exact this) (by simp[Ex]) rfl rfl ?_
 have cl:a9.upd g (.cells ((Ex (.slice (some ⟨go,0,none⟩) i I) (.slice U P.length V) f0 odd1).take (0+2)++(nv fr).cells.toList++(Ex (.slice (some ⟨go,0,none⟩) i I) (.slice U P.length V) f0 odd1).drop (0+2+2)).toArray 213 (0,0)) =
  m2.upd g (.cells (Ex (.slice (some ⟨go,0,none⟩) i I) (.slice U P.length V) fr odd1).toArray 213 (0,0)):=by
  rw[em,Cw];rfl
 rw[cl];have br:=b9 (Jn g (Ex (.slice (some ⟨go,0,none⟩) i I) (.slice U P.length V) fr odd1)) _ (Aeg cz);refine G.f 213 g 0 1 1 ?_;obtain⟨m3,c8,ba⟩:=br.focus 0 rfl;rw[Uv]at c8;refine G.storeA 1 m3 _ g 5 5 1 (.slice ak (P++[c]).length al) kV c8 (by simp[Ex]) rfl rfl ?_;intro db c6;have bt:=ba (Jn g (Ex (.slice (some ⟨go,0,none⟩) i I) (.slice ak (P++[c]).length al) fr odd1)) db c6;exact G.r (.tuple #[]) ⟨rfl,ak,al,fr,H,K.mono l9,h6.mono (l8.trans l9),bt⟩
section
variable {X:List (List Int)}{a:Option Addr}{c n:Nat}
section
variable [Cc] {P:Program} [A5 P] {fn:Func} {Post:By} {st:List KI×S} {u m:PH}
def G.appendZ (e:TypeId)(sz t:Nat)(z:Value)(xs:List Value)(a:Option Addr)(n c:Nat)(h:Aj P (adv P st)=.app (some (e,sz,t,z)) true [.slice none 0 0,.slice a n c])(Q:z.cells.toList.all Az=true)(K:z.cells.size=sz)(J:0<sz)
 (L:Ac u (.slice a n c) sz xs) (O:Ba sz xs) (I:xs.length=n) (N:n*t<=140737488355328) (H:n<=9223372036854775807)
 (k:∀ g C F,Af m F (.slice g n C) e sz xs->G P fn Post (nx (adv P st) (.slice g n C)) u F):G P fn Post st u m:=by
 by_cases h0:n=0
 ·subst h0;obtain rfl:=A0a I;exact G.appendNil e sz t z a c h (k none 0 m (Af.nil _ _ _))
 obtain⟨b,o,rfl,_⟩:=L.at' (j:=0) (Ayr oV);refine G.append e sz t z m [] xs (.slice none 0 0) b o n c h Q K J (Af.nil _ _ _) L.els O I oV (by simpa using N) (by simpa using H) ?_;intro R F E;rw[A00]at E;obtain⟨g,C,rfl⟩:=E.shape;rw[I]at E⊢;exact k g C F E
end
def AtP.ok2 {u:PH}{es:List Value}{zs:List Int}(h:AtP Bq u es zs):Ba 2 es:=fun e F=>by
 obtain⟨j,C,rfl⟩:=A01.1 F;have g:j<zs.length:=by rw[<-h.1];exact C
 obtain⟨H,t,E⟩:=h.2 j zs[j] (Ayr g);rw[Ayr C]at t;cases t;exact E.ok _ mV
def Adz {m u:PH}{s p:Arr}{g:List (Value×List Value)}(h:Bag m (s::p::oN (.slice a n c) g::g.map Dv))(C:NAt u g X)(H:PH.le m u):L0 u (.slice a n c) X:=by
 have I:=h.list H 2 (x:=oN (.slice a n c) g) rfl;refine⟨g.map (fun r:Value×List Value=>r.1),I,by rw[Ayt,C.1],fun j r F=>?_⟩;have E:j<g.length:=by rw[C.1];exact (Ayu.1 F).1
 have t:g[j]?=some g[j]:=Ayr E;refine⟨g[j].1,by rw[Ayy,t];rfl,?_⟩;refine⟨g[j].2,h.list H (j+3) (x:=Dv g[j]) (La t),?_⟩;have:=C.2 j _ t;have e:gMZ X j=r:=by unfold gMZ;rw[Ays,F];rfl
 rwa[e]at this
def Asx {m:PH}{g:Nat}{l:List Arr}{j pv:Value}{f:N3}{e:Bool}(h:Bag m (Jn g (Ex j pv f e)::l))(C:j.cells = #[j])(E:pv.cells = #[pv]):ElP m g 0 (.agg #[j,pv,.bool f.b,.slice f.a f.n f.c,.bool e]):=by
 have F:=El h;have H:=Aav h;have t:=Akb h;have I:=Ah5 h;intro i x hi
 match i,hi with
 |0,hi=>exact F 0 x (by rw[C];exact hi)
 |1,hi=>exact H 0 x (by rw[E];exact hi)
 |2,hi=>exact t 0 x hi
 |3,hi=>exact t 1 x hi
 |4,hi=>exact I 0 x hi
def Aub (K : Nat) {k l : Nat} (h : k ≤ l) : zs K k ≤ zs K l := by
  induction l with
  | zero => have : k = 0 := by omega
            subst this; exact Ay2 _
  | succ l ih =>
    rcases Az8 k (l + 1) with e | e
    · have := ih oV
      show zs K k ≤ 2 * zs K l + 2
      omega
    have : k = l + 1 := by omega
    subst this; exact Ay2 _
def Atg {u:PH}{n w c j E:Nat}(hM:L0 u (.slice a n c) X)(hX:Gs n w X)(hn:n<=100)(hw:w<=100)(h0:0<n)(ao:j<=w)(ai:SzZ X E)(ab:1<=E)(hE:zs E j<=1000000000) :
 Fn0 prog 140 [.slice a n c,.int .i64 j] u fun r u'=>∃ a' c' pa pc f,r=.agg #[.slice a' n c',.slice pa (Iq n j 0 ⟨X,[],1,false⟩).P.length pc,.bool f.b,.slice f.a f.n f.c,.bool (Iq n j 0 ⟨X,[],1,false⟩).odd] /\
  L0 u' (.slice a' n c') (Iq n j 0 ⟨X,[],1,false⟩).X/\Bq u' (nv f) (Iq n j 0 ⟨X,[],1,false⟩).v:=by
 have an:=hX.1;refine Fn0.o func140<|G.c call175 (N1 (z:=1) oV oV) ?_;intro v1 u1 l1 k1;obtain⟨R,rfl⟩:=k1.opN;refine G.l (ι:=Nat×List (Value×List Value)×(Option Addr×Nat)) (fun i=>[(1,iV j),(4,.p 0 0),(5,.p 1002 0),(11,sV a n c),(12,iV n),(13,iV i.1)])
  (fun i=>[(0,⟨213,[sV none 0 0,sV none 0 0,bV false,sV none 0 0,bV false]⟩),(1002,⟨213,[sV i.2.2.1 i.1 i.2.2.2,sV none 0 0,bV R.b,sV R.a R.n R.c,bV false]⟩)])
  (fun i u' m'=>i.1<=n/\NAt u' i.2.1 (X.take i.1)/\Bag m' (oN (.slice i.2.2.1 i.1 i.2.2.2) i.2.1::i.2.1.map Dv)) (fun i=>n-i.1) (0,[],(none,0))
  ⟨Azh _,⟨rfl,fun i r h=>by simp at h⟩,PH.mt,Af.nil _ _ _,trivial⟩ ?_
 rintro J ⟨i,t,⟨ra,L⟩⟩ hJ u2 m2 l2 ⟨hi,N,C⟩;simp only at hi N C hJ;have I:t.length=i:=by rw[N.1,Ay1];omega
 by_cases Y:i<n
 ·refine G.lT i n ?_;have a9:X[i]?=some X[i]:=Ayr oV;have ak:X[i].length=w:=by have:=hX.2 i Y;rwa[Pq oV]at this
  obtain⟨b,o,e,rfl,h3,f3⟩:=LP.at (hM.mono (l1.trans l2)) a9;obtain⟨es,W,U⟩:=f3;obtain⟨a4,c4,rfl⟩:=W.opn;have a3:es.length=w:=by rw[U.1,ak]
  rw[a3]at W h3;refine G.a b o n c i 1 Y<|G.lU none b (o+i*1) (.slice a4 w c4) h3<|G.appendZ 116 2 32 (.agg #[.bool false,.slice none 0 0]) es a4 w c4 kV rfl rfl oV W U.ok2 a3 oV oV ?_;intro F H m5 aa;refine G.B 211 1 24 (.slice none 0 0) [.slice F w H] (D4 _ _ _) ?_;intro g6 u6 l6 e6;have ad:Bag m5 (Dv (.slice F w H,es)::oN (.slice ra i L) t::t.map Dv):=⟨m2,aa,C⟩;obtain⟨m0,a8,a6⟩:=ad.focus 1 rfl;rw[Ael]at a8;refine G.k 211 1 24 (.slice none 0 0) m0 (t.map (·.1)) [.slice F w H] (.slice ra i L) g6 0 1 1 a8 e6 (D4 _ _ _) ?_;intro v7 m7 O;obtain⟨a7,c7,rfl⟩:=O.shape;have e7:t.map (·.1)++[Value.slice F w H]=(t++[(Value.slice F w H,es)]).map (·.1):=mV
  rw[e7]at O⊢;have el:((t++[(Value.slice F w H,es)]).map (·.1)).length=i+1:=by simp[I]
  rw[el]at O⊢;have ae:=a6 (oN (.slice a7 (i+1) c7) (t++[(Value.slice F w H,es)])) m7 O;have af:Bag m7 (oN (.slice a7 (i+1) c7) (t++[(Value.slice F w H,es)])::(t++[(Value.slice F w H,es)]).map Dv):=by
   refine Bag.perm ?_ ae;rw[Aza];exact (List.Perm.swap _ _ _).trans (List.Perm.cons _ (A6m (l₁:=[Dv (Value.slice F w H,es)])))
  refine G.i i<|G.b (hJ (i+1,t++[(Value.slice F w H,es)],(a7,c7)) _ _ _ cV (l2.trans l6) ⟨dV,?_,af⟩ dV);dsimp only;rw[Aze,a9];exact (N.mono l6).snoc (q:=X[i]) (U.mono fun _ _ k=>k.mono l6)
 obtain rfl:i=n:=oV
 rw[Ay6 oV]at N;refine G.lF i i ?_;obtain⟨go,co,eo⟩:=C.ptr 0 rfl (by intro e;simp only[oN,A8s]at e;rw[e]at I;simp at I;omega);simp only[oN,Ayt,I,Value.slice.injEq,true_and]at eo;obtain⟨rfl,rfl⟩:=eo;clear hJ;refine G.pub 1002 213 (Ex (.slice (some ⟨go,0,none⟩) i L) (.slice none 0 0) R false) kV kV ?_;intro g ap ag;have a2:Bag (m2.upd g (.cells (Ex (.slice (some ⟨go,0,none⟩) i L) (.slice none 0 0) R false).toArray 213 (0,0))) (Jn g (Ex (.slice (some ⟨go,0,none⟩) i L) (.slice none 0 0) R false)::Wz (.slice none 0 0) []::oN (.slice (some ⟨go,0,none⟩) i L) t::t.map Dv) :=
  ⟨m2,Aeg ag,m2,Af.nil _ _ _,C⟩
 refine G.l (ι:=Nat×List (Value×List Value)×(Option Addr×Nat)×N3×BZ) (fun i=>[(1,iV j),(4,.p 0 0),(5,.v (.pointer (some ⟨g,0,none⟩))),(8,iV i.1)])
  (fun i=>[(0,⟨213,[sV none 0 0,sV none 0 0,bV false,sV none 0 0,bV false]⟩)])
  (fun k u' m'=>k.1<=j/\Iq i (j-k.1) k.1 k.2.2.2.2=Iq i j 0 ⟨X,[],1,false⟩/\Gs i w k.2.2.2.2.X/\SzZ k.2.2.2.2.X (zs E k.1)/\nl k.2.2.2.2.v.natAbs<=zs E k.1/\k.2.2.2.2.v≠0/\k.2.2.2.2.P.length<=i/\NAt u' k.2.1 k.2.2.2.2.X/\Bq u' (nv k.2.2.2.1) k.2.2.2.2.v /\
   Bag m' (Jn g (Ex (.slice (some ⟨go,0,none⟩) i L) (.slice k.2.2.1.1 k.2.2.2.2.P.length k.2.2.1.2) k.2.2.2.1 k.2.2.2.2.odd)::Wz (.slice k.2.2.1.1 k.2.2.2.2.P.length k.2.2.1.2) k.2.2.2.2.P::oN (.slice (some ⟨go,0,none⟩) i L) k.2.1::k.2.1.map Dv)) (fun k=>j-k.1)
  (0,t,(none,0),R,⟨X,[],1,false⟩) ⟨Azh _,rfl,hX,ai,Ayv (nl1 (n:=1) oV) ab,Int.one_ne_zero,Azh _,N,k1.mono l2,a2⟩ ?_
 clear a2 C N I;rintro J ⟨k,t,⟨pa,pc⟩,f,s⟩ hJ u3 m3 l3 ⟨hk,Q,hR,hS,a0,Z,T,N,hv,C⟩;simp only at hk Q hR hS a0 Z T N hv C hJ;by_cases Y:k<j
 ·refine G.lT k j ?_;have hz:zs E (k+1)<=1000000000:=Ayv (Aub E (show k+1<=j by omega)) hE;have aq:zs E (k+1)=2*zs E k+2:=rfl;obtain⟨q1,q2,q3,q4,q5⟩:=Aik (c:=k) hS a0 hR T;refine G.A call201 (Avg (c:=k) (E:=zs E k) hR hn hw oV T h0 hS hv a0 Z oV N C) ?_;rintro v4 u4 m4 l4 ⟨rfl,al,am,f',a1,ac,aj,V⟩ _;rw[Bw];refine G.i k<|G.b (hJ (k+1,a1,(al,am),f',Is i k s) _ _ _ cV (l3.trans l4) ⟨dV,?_,q3,q1.mono dV,Ayv q2 dV,q5 Z,q4,ac,aj,V⟩ dV);dsimp only;obtain⟨K,hK⟩:∃ K,j-k=K+1:=⟨j-k-1,oV⟩;rw[<-Q,hK,Iq,show j-(k+1)=K by omega]
 obtain rfl:k=j:=oV
 refine G.lF k k ?_;rw[A20,Iq]at Q;rw[<-Q];refine G.lM (some 5) g 0 (.agg #[.slice (some ⟨go,0,none⟩) i L,.slice pa s.P.length pc,.bool f.b,.slice f.a f.n f.c,.bool s.odd]) (Asx C rfl rfl)<|G.giveP (ma:=m3) (sm:=PH.mt) kV (by funext g;unfold PH.or;cases m3 g<;>rfl) (fun g=>.inr rfl) (fun g=>.inl rfl) ?_
 intro u6 l6 ah;exact G.r (.agg #[.slice (some ⟨go,0,none⟩) i L,.slice pa s.P.length pc,.bool f.b,.slice f.a f.n f.c,.bool s.odd]) ⟨rfl,_,L,pa,pc,f,rfl,Adz C (N.mono l6) ah,hv.mono l6⟩
end
def Aru {u:PH}{v:Value}{A:List (List Rat)}{L:Nat}(h:J9 u v (K6 A))(hT:∀ r∈A,∀ q∈r,Tx q)(hl:A.length<=1000000)(ah:∀ r∈A,r.length<=1000000)(hL:∀ r∈A,∀ q∈r,q.den ∣ L)(be:0<L)(bf:nl L<=1000000000) :
 Ag prog 139 [v] u PH.mt fun v' T m'=>∃ D f a5 c5 R,0<D/\D ∣ L/\(∀ r∈A,∀ q∈r,q.den ∣ D)/\v'=.agg #[.bool f.b,.slice f.a f.n f.c,.slice a5 A.length c5]/\Bq T (nv f) (D:Int)/\NAt T R (A.map (Bn D))/\Bag m' (oN (.slice a5 A.length c5) R::R.map Dv):=by
 obtain⟨a,c,rfl⟩:=h.opn;rw[C9]at h⊢;have ae:∀ D:Nat,D ∣ L->nl (D:Int).natAbs<=1000000000:=fun D U=>Ayv (Cs (A3f be U)) bf;refine Ag.o func139<|G.c call175 (N1 (z:=1) oV oV) ?_;intro v1 u1 l1 k1;obtain⟨b1,a1,n1,c1,rfl⟩:=k1.opn;refine G.l (ι:=Nat×List Value×(Option Addr×Nat×Nat)×DI)
  (fun i=>[(2,.p 0 0),(3,.p 1002 0),(4,sV i.2.2.1.1 i.2.2.1.2.1 i.2.2.1.2.2),(19,sV a A.length c),(20,iV A.length),(21,iV i.1)])
  (fun i=>[(0,⟨209,[bV false,sV none 0 0,sV none 0 0]⟩),(1002,⟨209,[bV i.2.2.2.b,sV i.2.2.2.a i.2.2.2.n i.2.2.2.c,sV none 0 0]⟩)])
  (fun i T m'=>i.1<=A.length/\AtP It T i.2.1 (A.take i.1)/\Af PH.mt m' (.slice i.2.2.1.1 i.2.2.1.2.1 i.2.2.1.2.2) 108 1 i.2.1/\Xw T i.2.2.2 L/\∀ r∈A.take i.1,∀ q∈r,q.den ∣ i.2.2.2.D)
  (fun i=>A.length-i.1) (0,[],(none,0,0),⟨b1,a1,n1,c1,1⟩)
  ⟨Azh _,AtP.nil,Af.nil _ _ _,⟨k1,Nat.one_pos,Bax _⟩,fun r K=>by simp at K⟩ ?_
 rintro J ⟨k,J6,⟨a2,n2,c2⟩,⟨db,da,dn,dc,D⟩⟩ hJ u2 m2 l2 ⟨hk,hF,hA,U,X⟩;simp only at hk hF hA U X hJ;have bl:=hF.1;rw[Ay1]at bl;by_cases P:k<A.length
 ·refine G.lT k A.length ?_;have F:A[k]?=some A[k]:=Ayr P;have g:=Ay8 P;obtain⟨ba,oa,a3,c3,rfl,e3,s3⟩:=(h.mono (l1.trans l2)).row (Uo F);rw[Ayt]at e3 s3;refine G.a ba oa A.length c k 1 oV<|G.lU none ba (oa+k*1) _ e3<|G.c call106 (Sw s3 (hT _ g) (ah _ g)) ?_;intro v4 u4 l4 k4;obtain⟨a4,c4,rfl⟩:=k4.lp.opn;refine G.l (ι:=Nat×DI)
   (fun i=>[(2,.p 0 0),(3,.p 1002 0),(4,sV a2 n2 c2),(19,sV (some ⟨ba,oa,none⟩) A.length c),(20,iV A.length),(21,iV k),(7,sV a4 A[k].length c4),(27,sV a4 A[k].length c4),(28,iV (A[k].length)),(29,iV i.1)])
   (fun i=>[(0,⟨209,[bV false,sV none 0 0,sV none 0 0]⟩),(1002,⟨209,[bV i.2.b,sV i.2.a i.2.n i.2.c,sV none 0 0]⟩)])
   (fun i T m'=>i.1<=A[k].length/\m'=m2/\Xw T i.2 L/\(∀ r∈A.take k,∀ q∈r,q.den ∣ i.2.D)/\∀ q∈A[k].take i.1,q.den ∣ i.2.D)
   (fun i=>A[k].length-i.1) (0,⟨db,da,dn,dc,D⟩)
   ⟨Azh _,rfl,U.mono l4,X,fun q I=>by simp at I⟩ ?_
  rintro J2 ⟨j,⟨eb,ea,en,ec,E⟩⟩ N u5 m5 V ⟨hj,rfl,hE,ag,Z⟩;simp only at hj hE ag Z N;by_cases e:j<A[k].length
  ·refine G.lT j (A[k].length:Int) ?_;have Q:A[k][j]?=some A[k][j]:=Ayr e;have Y:=Ay8 e;have a0:=hT _ g _ Y;obtain⟨b6,o6,e6,rfl,h6,f6⟩:=(k4.mono V).lp.at Q;obtain⟨x1,x2,x3,x4,x5,x6,x7,x8,rfl⟩:=f6.opn;refine G.a b6 o6 A[k].length c4 j 4 e<|G.lU (some 4) b6 (o6+j*4) _ h6<|G.c call199 (Rp f6) ?_;intro v7 u7 l7 k7;obtain⟨b7,a7,n7,c7,rfl⟩:=k7.opn;refine G.c call198 (Ajj ((hE.mono l7).1) k7 (Ayv (ae _ hE.2.2) oV) (Ayv (Bi a0.den) oV) (by have:=hE.2.1;dsimp only at this⊢;omega)) ?_;intro v8 u8 l8 k8;rw[Am2]at k8;obtain⟨b8,a8,n8,c8,rfl⟩:=k8.opn;refine G.add (j:Int) 1 ((j+1:Nat):Int) kV oV oV (by have:=ah _ g;omega)<|G.b (N (j+1,⟨b8,a8,n8,c8,Nat.lcm E A[k][j].den⟩) _ _ _ cV ((V.trans l7).trans l8) ⟨dV,rfl,⟨k8,?_,?_⟩,?_,?_⟩ dV)
   ·have:=hE.2.1;simp only at this⊢;exact Nat.lcm_pos this (A[k][j]).den_pos
   ·exact Baz hE.2.2 (hL _ g _ Y)
   ·exact fun r K q I=>A7g (ag r K q I) (A6e _ _)
   intro q I;dsimp only at I⊢;rw[Aze,Q]at I;rcases Ay5.1 I with I|I
   ·exact A7g (Z q I) (A6e _ _)
   simp at I;subst I;exact Nat.dvd_lcm_right _ _
  have:j=A[k].length:=oV;subst this;rw[Azj]at Z;refine G.lF (A[k].length:Int) (A[k].length:Int)<|G.B 108 1 24 (.slice none 0 0) [.slice a4 A[k].length c4] (D4 _ _ _) ?_;intro g6 u6 l6 e6;refine G.append 108 1 24 (.slice none 0 0) PH.mt J6 [.slice a4 A[k].length c4] (.slice a2 n2 c2) g6 0 1 1 kV rfl rfl oV hA e6 (D4 _ _ _) rfl oV oV oV ?_;intro v7 m7 ap;obtain⟨a7,c7,rfl⟩:=ap.shape;refine G.i k<|G.b (hJ (k+1,J6++[Value.slice a4 A[k].length c4],(a7,(J6++[Value.slice a4 A[k].length c4]).length,c7),⟨eb,ea,en,ec,E⟩) _ _ _ cV (((l2.trans l4).trans V).trans l6) ⟨dV,?_,ap,hE.mono l6,?_⟩ dV)
  ·dsimp only;rw[Aze,F];exact (hF.mono (fun _ _ h=>h.mono ((l4.trans V).trans l6))).snoc (k4.mono (V.trans l6))
  intro r K;dsimp only at K⊢;rw[Aze,F]at K;rcases Ay5.1 K with K|K
  ·exact ag r K
  simp at K;subst K;exact Z
 have:k=A.length:=oV;subst this;rw[Azj]at hF X;refine G.lF A.length A.length<|G.give PH.mt J6 _ kV hA (fun _=>.inl rfl) ?_;intro u3 l3 af;have bo:J6.length=A.length:=by rw[hF.1]
 obtain⟨_,_,e0⟩:=af.opn;simp only[Value.slice.injEq]at e0;obtain⟨rfl,rfl,rfl⟩:=e0;rw[bo]at af⊢;have bd:Aef u3 (.slice a2 A.length c2) A:=⟨J6,af,hF.mono (fun _ _ h=>h.mono l3)⟩;refine G.l (ι:=Nat×List (Value×List Value)×(Option Addr×Nat))
  (fun i=>[(2,.p 0 0),(3,.p 1002 0),(45,sV a2 A.length c2),(46,iV A.length),(47,iV i.1)])
  (fun i=>[(0,⟨209,[bV false,sV none 0 0,sV none 0 0]⟩),(1002,⟨209,[bV db,sV da dn dc,sV i.2.2.1 i.1 i.2.2.2]⟩)])
  (fun i T m'=>i.1<=A.length/\NAt T i.2.1 ((A.take i.1).map (Bn D))/\Bag m' (oN (.slice i.2.2.1 i.1 i.2.2.2) i.2.1::i.2.1.map Dv))
  (fun i=>A.length-i.1) (0,[],(none,0))
  ⟨Azh _,⟨rfl,fun i r h=>by simp at h⟩,PH.mt,Af.nil _ _ _,trivial⟩ ?_
 rintro J2 ⟨k,H,⟨a5,c5⟩⟩ N u5 m5 V ⟨bn,hN,ad⟩;simp only at bn hN ad N;have a9:=hN.1;rw[Ayt,Ay1]at a9;by_cases P:k<A.length
 ·refine G.lT k A.length ?_;have F:A[k]?=some A[k]:=Ayr P;have g:=Ay8 P;have cj:=ah _ g;obtain⟨b6,o6,e6,rfl,h6,f6⟩:=LP.at (bd.mono V) F;obtain⟨a7,c7,rfl⟩:=f6.lp.opn;refine G.a b6 o6 A.length c2 k 1 oV<|G.lU none b6 (o6+k*1) _ h6<|G.make 116 2 32 (.agg #[.bool false,.slice none 0 0]) A[k].length kV rfl rfl oV oV oV ?_;rintro v8 m8 aq ⟨a8,rfl⟩;obtain⟨t,rfl,ch⟩:=aq.some';refine G.l (ι:=Nat×List Value)
   (fun i=>[(2,.p 0 0),(3,.p 1002 0),(45,sV (some ⟨b6,o6,none⟩) A.length c2),(46,iV A.length),(47,iV k),(12,sV (some ⟨t,0,none⟩) A[k].length A[k].length),(54,sV a7 A[k].length c7),(55,iV (A[k].length)),(56,iV i.1)])
   (fun i=>[(0,⟨209,[bV false,sV none 0 0,sV none 0 0]⟩),(1002,⟨209,[bV db,sV da dn dc,sV a5 k c5]⟩)])
   (fun i T m'=>i.1<=A[k].length/\AtP Bq T i.2 (Bn D (A[k].take i.1))/\Af m5 m' (.slice (some ⟨t,0,none⟩) A[k].length A[k].length) 116 2 (i.2++List.replicate (A[k].length-i.1) (.agg #[.bool false,.slice none 0 0])))
   (fun i=>A[k].length-i.1) (0,[])
   ⟨Azh _,AtP.nil,by simpa using aq⟩ ?_
  rintro J3 ⟨j,done⟩ ar u9 m9 l9 ⟨bm,O,W⟩;simp only at bm O W ar;have au:=O.1;rw[Bn,Ayt,Ay1]at au;by_cases e:j<A[k].length
  ·refine G.lT j (A[k].length:Int) ?_;have Q:A[k][j]?=some A[k][j]:=Ayr e;have Y:=Ay8 e;have a0:=hT _ g _ Y;have ci:=(A[k][j]).den_pos;obtain⟨am,b4,ce,rfl,bb,ac⟩:=(f6.mono l9).lp.at Q;obtain⟨x1,x2,x3,x4,x5,x6,x7,x8,rfl⟩:=ac.opn;refine G.a am b4 A[k].length c7 j 4 e<|G.lU (some 4) am (b4+j*4) _ bb<|G.c call199 (Rp ac) ?_;intro cs bq m ax;obtain⟨bz,bt,cl,ca,rfl⟩:=ax.opn;refine G.c call183 (Ox ((U.mono (((l3.trans V).trans l9).trans m)).1) ax (Ayv (ae _ U.2.2) oV) (Ayv (Bi a0.den) oV) oV) ?_;rintro br cp aj ⟨ct,cu,rfl,ai,bp⟩;obtain⟨c0,bu,cm,cb,rfl⟩:=ai.opn;obtain⟨c6,bw,cn,cc,rfl⟩:=bp.opn;refine G.c call200 (Ae4 (ac.mono (m.trans aj))) ?_;intro cw cq ak ay;obtain⟨c9,bx,co,cd,rfl⟩:=ay.opn;have bk:((D:Int)/(A[k][j].den:Int))=((D/A[k][j].den:Nat):Int):=by push_cast;rfl
   rw[bk]at ai;refine G.c call117 (Fq ay (ai.mono ak) (Ayv (Bi a0.1) oV) (by rw[Az6];exact Ayv (R8 _ _) (Ayv (ae _ U.2.2) oV))) ?_;intro cx cr b0 az;obtain⟨an,al,b3,ao,rfl⟩:=az.opn;refine G.a t 0 A[k].length A[k].length j 2 e<|G.storeA 2 m5 _ t A[k].length A[k].length j (.agg #[.bool an,.slice al b3 ao]) kV W gV rfl rfl ?_;intro ck a6;rw[Aez oV e]at a6;refine G.i j<|G.b (ar (j+1,done++[.agg #[.bool an,.slice al b3 ao]]) _ _ _ cV ((((l9.trans m).trans aj).trans ak).trans b0) ⟨dV,?_,a6⟩ dV);dsimp only;rw[Aze,Q,Bn,Aza];exact (O.mono (fun _ _ h=>h.mono (((m.trans aj).trans ak).trans b0))).snoc az
  have:j=A[k].length:=oV;subst this;rw[Azj]at O;rw[A20,A3t,Azl]at W;refine G.lF (A[k].length:Int) (A[k].length:Int) ?_;have cg:done.length=A[k].length:=oV;refine G.B 211 1 24 (.slice none 0 0) [.slice (some ⟨t,0,none⟩) A[k].length A[k].length] (D4 _ _ _) ?_;intro b9 bq m b5;have bi:Bag m9 (Dv (.slice (some ⟨t,0,none⟩) A[k].length A[k].length,done)::oN (.slice a5 k c5) H::H.map Dv):=⟨m5,W,ad⟩;obtain⟨m0,aw,av⟩:=bi.focus 1 rfl;rw[Ael]at aw;have bj:(H.map (·.1)).length=k:=by rw[Ayt,a9];omega
  refine G.append 211 1 24 (.slice none 0 0) m0 (H.map (·.1)) [.slice (some ⟨t,0,none⟩) A[k].length A[k].length] (.slice a5 k c5) b9 0 1 1 kV rfl rfl oV aw b5 (D4 _ _ _) rfl oV oV oV ?_;intro br b2 C;obtain⟨aa,ab,rfl⟩:=C.shape;have e7:H.map (·.1)++[Value.slice (some ⟨t,0,none⟩) A[k].length A[k].length]=(H++[(Value.slice (some ⟨t,0,none⟩) A[k].length A[k].length,done)]).map (·.1):=mV;rw[e7]at C⊢;have el:((H++[(Value.slice (some ⟨t,0,none⟩) A[k].length A[k].length,done)]).map (·.1)).length=k+1:=by rw[<-e7,Ay3,bj];rfl
  rw[el]at C⊢;have bg:=av (oN (.slice aa (k+1) ab) (H++[(Value.slice (some ⟨t,0,none⟩) A[k].length A[k].length,done)])) b2 C;have bh:Bag b2 (oN (.slice aa (k+1) ab) (H++[(Value.slice (some ⟨t,0,none⟩) A[k].length A[k].length,done)])::(H++[(Value.slice (some ⟨t,0,none⟩) A[k].length A[k].length,done)]).map Dv):=by
   refine Bag.perm ?_ bg;rw[Aza];exact (List.Perm.swap _ _ _).trans (List.Perm.cons _ (A6m (l₁:=[Dv (Value.slice (some ⟨t,0,none⟩) A[k].length A[k].length,done)])))
  refine G.i k<|G.b (N (k+1,H++[(Value.slice (some ⟨t,0,none⟩) A[k].length A[k].length,done)],(aa,ab)) _ _ _ cV ((V.trans l9).trans m) ⟨dV,?_,bh⟩ dV);dsimp only;rw[Aze,F,Aza];exact (hN.mono (l9.trans m)).snoc (q:=Bn D A[k]) (O.mono (fun _ _ h=>h.mono m))
 have:k=A.length:=oV;subst this;rw[Azj]at hN;exact G.lF A.length A.length<|G.r (.agg #[.bool db,.slice da dn dc,.slice a5 A.length c5]) ⟨D,⟨db,da,dn,dc⟩,a5,c5,H,U.2.1,U.2.2,X,rfl,(U.mono (l3.trans V)).1,hN,ad⟩
section
section
variable {P:Program}
def Agq {t e ti ts:TypeId}{k:IntKind}(U:P.underlying t=some (.array 2 e))(hi:(P.info? e).isSome=true)(T:P.cellsOf e=2)(h:szB P e=some 2)
 (J:(P.fieldsOf e).toList.map Jc = [(true,ti,0),(true,ts,1)]) (j:P.underlying e=some (.struct (P.fieldsOf e))) (K:P.stoodInHeld e=false) (L:P.underlying ti=some (.int k)) (O:P.underlying ts=some .string) (d:Nat) (a b:Par×Par) (w:World) :
 (Op.equalIn (d+3) t (prV a) (prV b)).run P w=.ok (decide (a=b)) w:=by
 have g:Kw P e=some true:=by unfold Kw;rw[j]
 obtain⟨i,hi⟩:=A3m.1 hi;unfold prV;rw[run_equalIn_array w (d+2) _ _ U hi,T];obtain⟨⟨m,n⟩,u,C⟩:=a;obtain⟨⟨E,F⟩,H,I⟩:=b;rw[show List.range 2 = [0,1] from rfl];simp only[Op.eqItems,Sem.run_bind,A22,A1k];rw[Cv g h,Result.andThen_ok,Cv g h,Result.andThen_ok];have Q:=Ho J j K L O d (m,n) (E,F) w;have R:=Ho J j K L O d (u,C) (H,I) w;unfold Aq at Q R;have V:(#[Value.int .i64 m,.string (mkS n),.int .i64 u,.string (mkS C)].extract 0 (0+2)) = #[.int .i64 m,.string (mkS n)]:=rfl;have W:(#[Value.int .i64 E,.string (mkS F),.int .i64 H,.string (mkS I)].extract 0 (0+2)) = #[.int .i64 E,.string (mkS F)]:=rfl;have X:(#[Value.int .i64 m,.string (mkS n),.int .i64 u,.string (mkS C)].extract 2 (2+2)) = #[.int .i64 u,.string (mkS C)]:=rfl;have Y:(#[Value.int .i64 E,.string (mkS F),.int .i64 H,.string (mkS I)].extract 2 (2+2)) = #[.int .i64 H,.string (mkS I)]:=rfl;simp only[V,W,Q,Result.andThen_ok];by_cases e:((m,n):Par)=(E,F)
 ·simp only[e,decide_true,A4k,A1q,if_false,Sem.run_bind];rw[Cv g h,Result.andThen_ok,Cv g h,Result.andThen_ok];simp only[X,Y,R,Result.andThen_ok];by_cases N:((u,C):Par)=(H,I)
  ·simp[N]
  simp[N]
 simp[e]
def Adw {t e ti ts:TypeId}{k:IntKind}(H:P.underlying t=some (.array 2 e))(g:szB P e=some 2)
 (n:(P.fieldsOf e).toList.map Jc = [(true,ti,0),(true,ts,1)]) (j:P.underlying e=some (.struct (P.fieldsOf e))) (u:P.underlying ti=some (.int k)) (C:P.underlying ts=some .string) (h:Bool) (d:Nat) (a:Par×Par) (w:World) :
 (Instr.checkKey h (d+3) t (prV a)).run P w=.ok () w:=by
 have m:Kw P e=some true:=by unfold Kw;rw[j]
 unfold prV;rw[Instr.checkKey];simp only[Sem.run_bind,run_underlying H,Result.andThen_ok];have E:=Ie n j u C h d a.1 w;have F:=Ie n j u C h d a.2 w;unfold Aq at E F;have I:(#[Value.int .i64 a.1.1,.string (mkS a.1.2),.int .i64 a.2.1,.string (mkS a.2.2)].extract 0 (0+2)) = #[.int .i64 a.1.1,.string (mkS a.1.2)]:=rfl;have J:(#[Value.int .i64 a.1.1,.string (mkS a.1.2),.int .i64 a.2.1,.string (mkS a.2.2)].extract 2 (2+2)) = #[.int .i64 a.2.1,.string (mkS a.2.2)]:=rfl;simp only[Std.Legacy.Range.forIn_eq_forIn_range',Std.Legacy.Range.size,A43,Nat.add_one_sub_one,A9j,show List.range' 0 2 1 = [0,1] from rfl,A71,A8h,Sem.run_bind,Bj g,Result.andThen_ok,A22,A1k];rw[Cv m g,Result.andThen_ok,I,E];simp only[Result.andThen_ok,Sem.run_pure,Sem.run_bind,Bj g,A1k];rw[Cv m g,Result.andThen_ok,J,F];simp
end
theorem Ip:Wa prog 217 prV :=
 ⟨fun a b w=>Agq (P:=prog) (t:=217) (e:=63) (ti:=3) (ts:=9) (k:=.i64) kV kV kV kV kV kV kV kV kV 9997 a b w,
  ⟨_,(by kernel_rfl:prog.underlying 217=some (.array 2 63)),.inl fun _ _=>rfl⟩,
  fun e a w=>Adw (P:=prog) (t:=217) (e:=63) (ti:=3) (ts:=9) (k:=.i64) kV kV kV kV kV kV e 9997 a w,Ah8,Ah4⟩
end
def pw {n:Nat}(h:n<10^30):n<10^100:=A0k h jV
def Bby {u:PH}{q r:Rat}(h:Tx q)(e:Tx r)(I:Tx (q*r)):Fn0 prog 27 [.string (mkS (Ae q)),.string (mkS (Ae r))] u fun v _=>v=.tuple #[.string (mkS (Ae (q*r))),.int .i64 0]:=by
 refine Fn0.o func27<|G.c call18 (D1 h) ?_;rintro v1 u1 Y rfl;refine G.c call18 (D1 e) ?_;rintro v2 u2 l2 rfl;refine G.c call19 (F0 h) ?_;intro v3 u3 Z g;obtain⟨R,O,n3,V,n,K,E,rfl,_⟩:=g.opn;refine G.c call19 (F0 e) ?_;intro v4 u4 J j;obtain⟨T,P,n4,W,t,L,F,rfl,_⟩:=j.opn;refine G.c call22 (E2 (g.mono J) j (h.sz.mono oV) (e.sz.mono oV)) ?_;intro v5 u5 l5 m;obtain⟨U,Q,n5,X,C,N,H,rfl,_⟩:=m.opn;refine G.c call23 (Ln m I) ?_;rintro v6 u6 l6 rfl;exact G.r _ ⟨rfl,rfl⟩
section
variable {F:CF}{K:Nat}{p q:Par}{u:PH}{v:Value}
def Ar1 (h:p.1<q.1):Bf p q<0:=by
 have e:Qg p.1 q.1 = -1:=by unfold Qg;rw[if_pos h]
 unfold Bf;rw[e,if_pos fV];decide
def Ar8 (h:¬ p.1<q.1)(g:p.1≠q.1):¬ Bf p q<0:=by
 have e:Qg p.1 q.1=1:=by unfold Qg;rw[if_neg h,if_pos oV]
 unfold Bf;rw[e,if_pos fV];decide
def Ar2 (h:p.1=q.1):decide (Bf p q<0)=Op.bytesLess p.2 q.2:=by
 have e:Qg p.1 q.1=0:=by unfold Qg;rw[if_neg oV,if_neg oV]
 unfold Bf;rw[e,if_neg fV];unfold Ua;cases Op.bytesLess p.2 q.2 with
 |true=>rfl
 |false =>
  simp only[A1q,if_false];split<;>rfl
def Ff (p q:Par)(r:Bool)(h:decide (Bf p q<0)=r):Fn0 prog 79 [Aq p,Aq q] u fun v _=>v=.bool r:=by
 refine Fn0.o func79 ?_;by_cases e:p.1<q.1
 ·refine G.lT' p.1 q.1 e ?_;rw[decide_eq_true (Ar1 e)]at h;subst h;exact G.r (.bool true) ⟨rfl,rfl⟩
 refine G.lF' p.1 q.1 e ?_;by_cases g:p.1=q.1
 ·rw[Ar2 g]at h;refine G.eT' p.1 q.1 g<|G.ltS p.2 q.2 r kV h ?_;cases r with
  |true=>exact G.r (.bool true) ⟨rfl,rfl⟩
  |false=>exact G.r (.bool false) ⟨rfl,rfl⟩
 rw[decide_eq_false (Ar8 e g)]at h;subst h;exact G.eF' p.1 q.1 g<|G.r (.bool false) ⟨rfl,rfl⟩
def Bc8 (p:Par)(h:Nu u v F K)(hK:K<=1000000):Fn0 prog 249 [v,Aq p] u fun r _=>r=.string (mkS (Ae (F.s p))):=by
 obtain⟨T,Q,O,H,Y,Z,rfl,hT,hQ,I,cQ,kT,kQ⟩:=h;refine Fn0.o func249<|G.l (ι:=Nat) (fun i=>[(3,.p 1 0),(8,sV O T.length H),(9,iV T.length),(10,iV i)]) (fun _=>[(1,⟨63,[iV p.1,tV p.2]⟩)])
  (fun i u' X=>i<=T.length/\(∀ j (g:j<T.length),j<i->(T[j]'g).1≠p)/\X=PH.mt) (fun i=>T.length-i) 0 ⟨oV,fun j g h=>oV,rfl⟩ ?_
 rintro J i R u1 m1 L ⟨hi,h0,rfl⟩;by_cases m:i<T.length
 ·refine G.lT i T.length ?_;have C:T[i]?=some T[i]:=Ayr m;have n:=(I.val _ (Ay8 m)).1;obtain⟨E,N,rfl,P⟩:=Ac.at' (hT.mono L) (j:=i) (e:=As T[i]) (by simp[C]);refine G.a E N T.length H i 3 oV<|G.lU (some 3) E (N+i*3) (.agg #[.int .i64 T[i].1.1,.string (mkS T[i].1.2),.string (mkS (Ae T[i].2))]) P ?_;by_cases t:T[i].1=p
  ·exact G.eqAgg 63 #[.int .i64 T[i].1.1,.string (mkS T[i].1.2)] #[.int .i64 p.1,.string (mkS p.2)] true kV kV kV (fun w=>by rw[<-decide_eq_true t];exact Bx.eq T[i].1 p w)<|G.r (.string (mkS (Ae T[i].2))) ⟨rfl,by rw[n,t]⟩
  refine G.eqAgg 63 #[.int .i64 T[i].1.1,.string (mkS T[i].1.2)] #[.int .i64 p.1,.string (mkS p.2)] false kV kV kV (fun w=>by rw[<-decide_eq_false t];exact Bx.eq T[i].1 p w)<|G.i i ?_;exact G.b (R (i+1) _ _ _ cV L ⟨oV,fun j g h=>by
   rcases (by omega:j<i\/j=i) with e|rfl
   ·exact h0 j g e
   exact t,rfl⟩ oV)
 obtain rfl:i=T.length:=oV;refine G.lF T.length T.length ?_;have W:F.s p=0:=I.out p fun U=>by
  obtain⟨x,V,e⟩:=Ayx.1 U;obtain⟨j,g,rfl⟩:=Az9 V;exact h0 j g g e
 exact G.r (.string (mkS [48])) ⟨rfl,by rw[W,D8]⟩
def Bbk (p q:Par)(h:Nu u v F K)(hK:K<=1000000):Fn0 prog 213 [v,Aq p,Aq q] u fun r _=>r=.string (mkS (Ae (F.t (A2 p q)))):=by
 obtain⟨T,Q,a1,c1,a2,V,rfl,hT,hQ,cT,W,kT,kQ⟩:=h;refine Fn0.o func213 ?_;by_cases I:Bf q p<0
 ·rw[show A2 p q=(q,p) by unfold A2;rw[if_pos ((Dl.sym _ _).1 I)]];refine G.c call79 (Ff q p true (decide_eq_true I)) ?_;rintro v0 u0 l0 rfl;refine G.l (ι:=Nat) (fun i=>[(4,.p 1 0),(5,.p 2 0),(15,sV a2 Q.length V),(16,iV Q.length),(17,iV i)]) (fun _=>[(1,⟨63,[iV q.1,tV q.2]⟩),(2,⟨63,[iV p.1,tV p.2]⟩)])
   (fun i u' m'=>i<=Q.length/\(∀ j (n:j<Q.length),j<i->(Q[j]'n).1≠(q,p))/\m'=PH.mt) (fun i=>Q.length-i) 0 ⟨oV,fun j n h=>oV,rfl⟩ ?_
  rintro J i R u1 m1 O ⟨hi,h0,rfl⟩;by_cases C:i<Q.length
  ·refine G.lT i Q.length ?_;have L:Q[i]?=some Q[i]:=Ayr C;have E:=(W.val _ (Ay8 C)).1;obtain⟨P,U,rfl,X⟩:=Ac.at' (hQ.mono (l0.trans O)) (j:=i) (e:=D7 Q[i]) (by simp[L]);have g:Q[i].1≠(q,p)->∀ j (n:j<Q.length),j<i+1->(Q[j]'n).1≠(q,p):=fun N j n h=>by
    rcases (by omega:j<i\/j=i) with e|rfl
    ·exact h0 j n e
    exact N
   refine G.a P U Q.length V i 5 oV<|G.lU (some 5) P (U+i*5) (.agg #[.int .i64 Q[i].1.1.1,.string (mkS Q[i].1.1.2),.int .i64 Q[i].1.2.1,.string (mkS Q[i].1.2.2),.string (mkS (Ae Q[i].2))]) X ?_;by_cases H:Q[i].1.1=q
   ·refine G.eqAgg 63 #[.int .i64 Q[i].1.1.1,.string (mkS Q[i].1.1.2)] #[.int .i64 q.1,.string (mkS q.2)] true kV kV kV (fun w=>by rw[<-decide_eq_true H];exact Bx.eq Q[i].1.1 q w) ?_;by_cases m:Q[i].1.2=p
    ·exact G.eqAgg 63 #[.int .i64 Q[i].1.2.1,.string (mkS Q[i].1.2.2)] #[.int .i64 p.1,.string (mkS p.2)] true kV kV kV (fun w=>by rw[<-decide_eq_true m];exact Bx.eq Q[i].1.2 p w)<|G.r (.string (mkS (Ae Q[i].2))) ⟨rfl,by rw[E,show Q[i].1=(q,p) from A6g H m]⟩
    exact G.eqAgg 63 #[.int .i64 Q[i].1.2.1,.string (mkS Q[i].1.2.2)] #[.int .i64 p.1,.string (mkS p.2)] false kV kV kV (fun w=>by rw[<-decide_eq_false m];exact Bx.eq Q[i].1.2 p w)<|G.i i<|G.b (R (i+1) _ _ _ cV O ⟨oV,g fun e=>m (congrArg Prod.snd e),rfl⟩ oV)
   exact G.eqAgg 63 #[.int .i64 Q[i].1.1.1,.string (mkS Q[i].1.1.2)] #[.int .i64 q.1,.string (mkS q.2)] false kV kV kV (fun w=>by rw[<-decide_eq_false H];exact Bx.eq Q[i].1.1 q w)<|G.i i<|G.b (R (i+1) _ _ _ cV O ⟨oV,g fun e=>H (congrArg Prod.fst e),rfl⟩ oV)
  obtain rfl:i=Q.length:=oV;refine G.lF Q.length Q.length ?_;have hz:F.t (q,p)=0:=W.out (q,p) fun Y=>by
   obtain⟨x,Z,e⟩:=Ayx.1 Y;obtain⟨j,n,rfl⟩:=Az9 Z;exact h0 j n n e
  exact G.r (.string (mkS [48])) ⟨rfl,by rw[hz,D8]⟩
 rw[show A2 p q=(p,q) by unfold A2;rw[if_neg fun e=>I ((Dl.sym _ _).2 e)]];refine G.c call79 (Ff q p false (decide_eq_false I)) ?_;rintro v0 u0 l0 rfl;refine G.l (ι:=Nat) (fun i=>[(4,.p 1 0),(5,.p 2 0),(15,sV a2 Q.length V),(16,iV Q.length),(17,iV i)]) (fun _=>[(1,⟨63,[iV p.1,tV p.2]⟩),(2,⟨63,[iV q.1,tV q.2]⟩)])
  (fun i u' m'=>i<=Q.length/\(∀ j (n:j<Q.length),j<i->(Q[j]'n).1≠(p,q))/\m'=PH.mt) (fun i=>Q.length-i) 0 ⟨oV,fun j n h=>oV,rfl⟩ ?_
 rintro J i R u1 m1 O ⟨hi,h0,rfl⟩;by_cases C:i<Q.length
 ·refine G.lT i Q.length ?_;have L:Q[i]?=some Q[i]:=Ayr C;have E:=(W.val _ (Ay8 C)).1;obtain⟨P,U,rfl,X⟩:=Ac.at' (hQ.mono (l0.trans O)) (j:=i) (e:=D7 Q[i]) (by simp[L]);have g:Q[i].1≠(p,q)->∀ j (n:j<Q.length),j<i+1->(Q[j]'n).1≠(p,q):=fun N j n h=>by
   rcases (by omega:j<i\/j=i) with e|rfl
   ·exact h0 j n e
   exact N
  refine G.a P U Q.length V i 5 oV<|G.lU (some 5) P (U+i*5) (.agg #[.int .i64 Q[i].1.1.1,.string (mkS Q[i].1.1.2),.int .i64 Q[i].1.2.1,.string (mkS Q[i].1.2.2),.string (mkS (Ae Q[i].2))]) X ?_;by_cases H:Q[i].1.1=p
  ·refine G.eqAgg 63 #[.int .i64 Q[i].1.1.1,.string (mkS Q[i].1.1.2)] #[.int .i64 p.1,.string (mkS p.2)] true kV kV kV (fun w=>by rw[<-decide_eq_true H];exact Bx.eq Q[i].1.1 p w) ?_;by_cases m:Q[i].1.2=q
   ·exact G.eqAgg 63 #[.int .i64 Q[i].1.2.1,.string (mkS Q[i].1.2.2)] #[.int .i64 q.1,.string (mkS q.2)] true kV kV kV (fun w=>by rw[<-decide_eq_true m];exact Bx.eq Q[i].1.2 q w)<|G.r (.string (mkS (Ae Q[i].2))) ⟨rfl,by rw[E,show Q[i].1=(p,q) from A6g H m]⟩
   exact G.eqAgg 63 #[.int .i64 Q[i].1.2.1,.string (mkS Q[i].1.2.2)] #[.int .i64 q.1,.string (mkS q.2)] false kV kV kV (fun w=>by rw[<-decide_eq_false m];exact Bx.eq Q[i].1.2 q w)<|G.i i<|G.b (R (i+1) _ _ _ cV O ⟨oV,g fun e=>m (congrArg Prod.snd e),rfl⟩ oV)
  exact G.eqAgg 63 #[.int .i64 Q[i].1.1.1,.string (mkS Q[i].1.1.2)] #[.int .i64 p.1,.string (mkS p.2)] false kV kV kV (fun w=>by rw[<-decide_eq_false H];exact Bx.eq Q[i].1.1 p w)<|G.i i<|G.b (R (i+1) _ _ _ cV O ⟨oV,g fun e=>H (congrArg Prod.fst e),rfl⟩ oV)
 obtain rfl:i=Q.length:=oV;refine G.lF Q.length Q.length ?_;have hz:F.t (p,q)=0:=W.out (p,q) fun Y=>by
  obtain⟨x,Z,e⟩:=Ayx.1 Y;obtain⟨j,n,rfl⟩:=Az9 Z;exact h0 j n n e
 exact G.r (.string (mkS [48])) ⟨rfl,by rw[hz,D8]⟩
end
section
variable {F:CF}{N' g:Nat}{q:Rat}{v x:Value}{y1 y3:Bool}{y2 y4:SlI}
section
variable {P:Program} [A5 P] {fn:Func} {Post:By} {st:List KI×S} {u m:PH}
def Ahs {e:Operand->Value}{o:Op}{t:TypeId}{L:List (Nat×Value)}(h:Bg P e o=.build t L):∃ j:Array (Nat×Operand),o=.build t j/\j.toList.map (fun x=>(x.1,e x.2))=L:=by
 cases o<;>simp only[Bg]at h<;>try cases h
 any_goals ((repeat' split at h)<;>cases h;done)
 exact⟨_,rfl,rfl⟩
def G.buildArr (t e:TypeId)(p q:Par)(h:Aj P (adv P st)=.build t [(0,Aq p),(1,Aq q)])(Q:P.underlying t=some (.array 2 e))(O:szB P e=some 2)(R:Z6 P t=some (.agg #[.int .i64 0,.string (mkS []),.int .i64 0,.string (mkS [])]))
 (k:G P fn Post (nx (adv P st) (.agg #[.int .i64 p.1,.string (mkS p.2),.int .i64 q.1,.string (mkS q.2)])) u m):G P fn Post st u m:=by
 refine G.ask h mV (fun n o j w hp=>?_) k;obtain⟨U,E,J⟩:=Ahs j;obtain⟨I,T,H,pos,after,C⟩:=o;simp only at E;subst E;have L:(U.map fun x=>(x.1,n x.2)).toList = [(0,Aq p),(1,Aq q)]:=by rw[Array.toList_map];exact J
 simp only[execOp,Instr.build,Sem.run_bind,Yu R,Result.andThen_ok,run_underlying Q,Bj O,L];rfl
end
def Dy {κ:Type}(enc:κ->Value)(K:κ->Prop)(u:PH)(o:Obj)(f:κ->Rat)(N:Nat):Prop :=
 ∃ l:List (κ×Value),Fo enc o l/\(∀ p∈l,QP u p.2 (f p.1)/\K p.1/\Sz (f p.1) 12)/\(∀ k,k∉l.map (·.1)->f k=0)/\l.length<=N
section
variable {κ:Type} [DecidableEq κ] {enc:κ->Value} {K:κ->Prop} {u:PH} {o:Obj} {f:κ->Rat} {N:Nat}
def Dy.mono {u':PH}(h:Dy enc K u o f N)(hl:PH.le u u'):Dy enc K u' o f N:=by
 obtain⟨l,h1,h2,h3,h4⟩:=h;exact⟨l,h1,fun p hp=>⟨(h2 p hp).1.mono hl,(h2 p hp).2⟩,h3,h4⟩
def Dy.up (h:Dy enc K u o f N)(C:N<=N'):Dy enc K u o f N':=by
 obtain⟨l,e,j,n,t⟩:=h;exact⟨l,e,j,n,Ayv t C⟩
def Dy.congr {f':κ->Rat}(h:Dy enc K u o f N)(e:∀ k,f k=f' k):Dy enc K u o f' N:=by
 rw[<-funext e];exact h
def Dy.empty:Dy enc K u (.map #[] 0) (fun _=>0) 0:=⟨[],Fo.empty,mV,fun _ _=>rfl,Ay2 _⟩
def Dy.put {o':Obj}{a:κ}{x:Value}{q:Rat}{l:List (κ×Value)}(C:Fo enc o l)(n:∀ p∈l,QP u p.2 (f p.1)/\K p.1/\Sz (f p.1) 12)(t:∀ k,k∉l.map (·.1)->f k=0)(I:l.length<=N)
 (j:Fo enc o' (Kb a x l)) (H:QP u x q) (e:K a) (E:Sz q 12):Dy enc K u o' (I1 f a q) (N+1):=by
 refine⟨_,j,fun p hp=>?_,fun k e=>?_,Ayv M9 oV⟩
 ·unfold I1;rcases Wm C.nodup hp with rfl|⟨hp,h⟩
  ·simp only[if_true];exact⟨H,e,E⟩
  rw[if_neg h];exact n p hp
 rw[Sk,not_or]at e;unfold I1;rw[if_neg e.1];exact t k e.2
end
def KT {κ:Type}(_:κ):Prop:=True
def KO (k:Par×Par):Prop:=¬ 0<Bf k.1 k.2
def KO.pair (p q:Par):KO (A2 p q):=by
 unfold KO A2;have e:=Dl.sym p q;have j:=Dl.sym q p;by_cases h:0<Bf p q
 ·rw[if_pos h];simp only;omega
 rw[if_neg h];exact h
def J8 (m' u:PH)(v:Value)(F:CF)(N:Nat):Prop :=
 ∃ b a n c b' a' n' c' g1 g2 o1 o2,v=.agg #[.bool b,.slice a n c,.bool b',.slice a' n' c',.map (some g1),.map (some g2)]/\QP u (.agg #[.bool b,.slice a n c,.bool b',.slice a' n' c']) F.c/\g1≠g2/\m'=(PH.mt.upd g1 o1).upd g2 o2/\Dy Aq KT u o1 F.s N/\Dy prV KO u o2 F.t N
def Qo (u:PH)(v:Value)(F:CF)(N:Nat):Prop :=
 ∃ b a n c b' a' n' c' g1 g2 o1 o2,v=.agg #[.bool b,.slice a n c,.bool b',.slice a' n' c',.map (some g1),.map (some g2)]/\QP u (.agg #[.bool b,.slice a n c,.bool b',.slice a' n' c']) F.c/\u g1=some o1/\u g2=some o2/\Dy Aq KT u o1 F.s N/\Dy prV KO u o2 F.t N
def Qo.mono {u u':PH}{v:Value}{F:CF}{N:Nat}(h:Qo u v F N)(hl:PH.le u u'):Qo u' v F N:=by
 obtain⟨b,a,n,c,b',a',n',c',g1,g2,o1,o2,e,h1,h2,h3,h4,h5⟩:=h;exact⟨b,a,n,c,b',a',n',c',g1,g2,o1,o2,e,h1.mono hl,hl _ _ h2,hl _ _ h3,h4.mono hl,h5.mono hl⟩
def J8.grow {t u C:PH}{N:Nat}(h:J8 t u v F N)(j:PH.le u C):J8 t C v F N:=by
 obtain⟨b,a,n,c,b',E,R,H,g1,g2,T,U,e,I,J,L,O,Q⟩:=h;exact⟨b,a,n,c,b',E,R,H,g1,g2,T,U,e,I.mono j,J,L,O.mono j,Q.mono j⟩
def J8.give {E u t:PH}{N:Nat}(h:J8 E u v F N)(j:PH.le u t)(C:PH.le E t):Qo t v F N:=by
 obtain⟨b,a,n,c,b',H,R,I,g1,g2,T,U,e,J,L,rfl,O,Q⟩:=h;exact⟨b,a,n,c,b',H,R,I,g1,g2,T,U,e,J.mono j,C _ _ (by rw[Ad _ _ L,Ab]),C _ _ (Ab _ _ _),O.mono j,Q.mono j⟩
def J8.congr {C u:PH}{F j:CF}{N N':Nat}(h:J8 C u v F N)(e:F=j)(t:N<=N'):J8 C u v j N':=by
 subst e;obtain⟨b,a,n,c,b',E,R,H,g1,g2,T,U,e,I,J,L,O,Q⟩:=h;exact⟨b,a,n,c,b',E,R,H,g1,g2,T,U,e,I,J,L,O.up t,Q.up t⟩
def Q8 {u:PH}{N:Nat}(h:Qo u v F N):∃ b a n c b' j C t g1 g2,v=.agg #[.bool b,.slice a n c,.bool b',.slice j C t,.map (some g1),.map (some g2)]:=by
 obtain⟨b,a,n,c,b',j,C,t,g1,g2,E,H,e,_⟩:=h;exact⟨b,a,n,c,b',j,C,t,g1,g2,e⟩
def Oa {E u:PH}{N:Nat}(h:J8 E u v F N):∃ b a n c b' j C t g1 g2,v=.agg #[.bool b,.slice a n c,.bool b',.slice j C t,.map (some g1),.map (some g2)]:=by
 obtain⟨b,a,n,c,b',j,C,t,g1,g2,H,I,e,_⟩:=h;exact⟨b,a,n,c,b',j,C,t,g1,g2,e⟩
def I5 {u:PH}{n:Int}(J:-9223372036854775807<=n)(L:n<=9223372036854775807):Ag prog 71 [.int .i64 n] u PH.mt fun v U T=>J8 T U v ⟨(n:Rat),fun _=>0,fun _=>0⟩ 0:=by
 refine Ag.o func71<|G.c call15 (Sp J L) ?_;intro X W V E;obtain⟨b,a,I,c,t,H,C,rfl,_⟩:=E.opn;refine G.mapMk kV ?_;intro g1 O Q;refine G.mapMk kV ?_;intro g2 h R;have j:g1≠g2:=fun e=>by subst e;rw[Ab]at h;cases h
 exact G.r (.agg #[.bool b,.slice a I c,.bool false,.slice t H C,.map (some g1),.map (some g2)]) ⟨b,a,I,c,false,t,H,C,g1,g2,_,_,rfl,E,j,rfl,Dy.empty,Dy.empty⟩
def Nh {u:PH}{g2:Option Nat}{o:Obj}{f:Par->Rat}{N:Nat}{a:Par}(h:Dy Aq KT u o f N)(Q:QP u x q)(hq:SB q)(hf:SB (f a))(O:SB (q+f a)) :
 Ag prog 144 [.agg #[.bool y1,.slice y2.1 y2.2.1 y2.2.2,.bool y3,.slice y4.1 y4.2.1 y4.2.2,.map (some g),.map g2],Aq a,x] u (L7 g o) fun v u' m'=>∃ o',m'=L7 g o'/\Dy Aq KT u' o' (I1 f a (q+f a)) (N+1):=by
 obtain⟨l,j,t,J,U⟩:=id h;obtain⟨b,aa,n,c,X,n',c',rfl,_⟩:=Q.opn;refine Ag.o func144 ?_;cases hx':Gx a l with
 |none =>
  have L:f a=0:=J a (Hb.1 hx');have e0:q+f a=q:=by rw[L];grind
  rw[e0]at O⊢;refine G.mapNot (et:=52) Bx fz g o l a kV kV (.inr (Cb _ _)) j hx'<|G.mapPut (et:=52) Bx g o l a (.agg #[.bool b,.slice aa n c,.bool false,.slice X n' c']) kV kV (Cb _ _) j ?_;intro o' e;exact G.r (.tuple #[]) ⟨o',Cw _ _ _ _,Dy.put j t J U e Q trivial O.sz⟩
 |some xv =>
  obtain⟨V,_,_⟩:=t _ (I6 hx');obtain⟨b1,Y,n1,c1,C,R,H,rfl,_⟩:=V.opn;refine G.mapHas (et:=52) Bx fz g o l a (.agg #[.bool b1,.slice Y n1 c1,.bool false,.slice C R H]) kV kV (.inr (Cb _ _)) j hx'<|G.c call21 (Ks Q V (hq.sz.mono oV) (hf.sz.mono oV)) ?_;intro v1 u1 l1 W;obtain⟨b2,Z,n2,c2,E,T,I,rfl,_⟩:=W.opn;refine G.mapPut (et:=52) Bx g o l a (.agg #[.bool b2,.slice Z n2 c2,.bool false,.slice E T I]) kV kV (Cb _ _) j ?_;intro o' e;exact G.r (.tuple #[]) ⟨o',Cw _ _ _ _,Dy.put j (fun p hp=>⟨(t p hp).1.mono l1,(t p hp).2⟩) J U e W trivial O.sz⟩
def Hh {u:PH}{g1:Option Nat}{o:Obj}{f:Par×Par->Rat}{N:Nat}{p r:Par}(h:Dy prV KO u o f N)(H:QP u x q)(hq:SB q)(hf:SB (f (A2 p r)))(I:SB (q+f (A2 p r))) :
 Ag prog 145 [.agg #[.bool y1,.slice y2.1 y2.2.1 y2.2.2,.bool y3,.slice y4.1 y4.2.1 y4.2.2,.map g1,.map (some g)],Aq p,Aq r,x] u (L7 g o) fun v u' m'=>∃ o',m'=L7 g o'/\Dy prV KO u' o' (I1 f (A2 p r) (q+f (A2 p r))) (N+1):=by
 obtain⟨b,aa,n,c,a',n',c',rfl,_⟩:=H.opn;refine Ag.o func145 ?_;have W:=KO.pair p r;by_cases E:Bf r p<0
 ·have he:A2 p r=(r,p):=by unfold A2;rw[if_pos ((Dl.sym r p).1 E)]
  rw[he]at hf I W⊢;refine G.c call79 (Ff r p true (decide_eq_true E)) ?_;rintro v0 u0 l0 rfl;obtain⟨l,t,C,R,X⟩:=h.mono l0;have H:=H.mono l0;cases hx':Gx (r,p) l with
  |none =>
   have T:f (r,p)=0:=R _ (Hb.1 hx');have e0:q+f (r,p)=q:=by rw[T];grind
   rw[e0]at I⊢;refine G.buildArr 217 63 r p kV kV kV kV<|G.mapNot (et:=52) Ip fz g o l (r,p) kV kV (.inr (Cb _ _)) t hx'<|G.mapPut (et:=52) Ip g o l (r,p) (.agg #[.bool b,.slice aa n c,.bool false,.slice a' n' c']) kV kV (Cb _ _) t ?_;intro o' j;exact G.r (.tuple #[]) ⟨o',Cw _ _ _ _,Dy.put t C R X j H W I.sz⟩
  |some xv =>
   obtain⟨Y,_,_⟩:=C _ (I6 hx');obtain⟨b1,a1,n1,c1,J,U,O,rfl,_⟩:=Y.opn;refine G.buildArr 217 63 r p kV kV kV kV<|G.mapHas (et:=52) Ip fz g o l (r,p) (.agg #[.bool b1,.slice a1 n1 c1,.bool false,.slice J U O]) kV kV (.inr (Cb _ _)) t hx'<|G.c call21 (Ks H Y (hq.sz.mono oV) (hf.sz.mono oV)) ?_;intro v1 u1 l1 Z;obtain⟨b2,a2,n2,c2,L,V,Q,rfl,_⟩:=Z.opn;refine G.mapPut (et:=52) Ip g o l (r,p) (.agg #[.bool b2,.slice a2 n2 c2,.bool false,.slice L V Q]) kV kV (Cb _ _) t ?_;intro o' j;exact G.r (.tuple #[]) ⟨o',Cw _ _ _ _,Dy.put t (fun p hp=>⟨(C p hp).1.mono l1,(C p hp).2⟩) R X j Z W I.sz⟩
 have he:A2 p r=(p,r):=by unfold A2;rw[if_neg (fun e=>E ((Dl.sym r p).2 e))]
 rw[he]at hf I W⊢;refine G.c call79 (Ff r p false (decide_eq_false E)) ?_;rintro v0 u0 l0 rfl;obtain⟨l,t,C,R,X⟩:=h.mono l0;have H:=H.mono l0;cases hx':Gx (p,r) l with
 |none =>
  have T:f (p,r)=0:=R _ (Hb.1 hx');have e0:q+f (p,r)=q:=by rw[T];grind
  rw[e0]at I⊢;refine G.buildArr 217 63 p r kV kV kV kV<|G.mapNot (et:=52) Ip fz g o l (p,r) kV kV (.inr (Cb _ _)) t hx'<|G.mapPut (et:=52) Ip g o l (p,r) (.agg #[.bool b,.slice aa n c,.bool false,.slice a' n' c']) kV kV (Cb _ _) t ?_;intro o' j;exact G.r (.tuple #[]) ⟨o',Cw _ _ _ _,Dy.put t C R X j H W I.sz⟩
 |some xv =>
  obtain⟨Y,_,_⟩:=C _ (I6 hx');obtain⟨b1,a1,n1,c1,J,U,O,rfl,_⟩:=Y.opn;refine G.buildArr 217 63 p r kV kV kV kV<|G.mapHas (et:=52) Ip fz g o l (p,r) (.agg #[.bool b1,.slice a1 n1 c1,.bool false,.slice J U O]) kV kV (.inr (Cb _ _)) t hx'<|G.c call21 (Ks H Y (hq.sz.mono oV) (hf.sz.mono oV)) ?_;intro v1 u1 l1 Z;obtain⟨b2,a2,n2,c2,L,V,Q,rfl,_⟩:=Z.opn;refine G.mapPut (et:=52) Ip g o l (p,r) (.agg #[.bool b2,.slice a2 n2 c2,.bool false,.slice L V Q]) kV kV (Cb _ _) t ?_;intro o' j;exact G.r (.tuple #[]) ⟨o',Cw _ _ _ _,Dy.put t (fun p hp=>⟨(C p hp).1.mono l1,(C p hp).2⟩) R X j Z W I.sz⟩
end
section
variable {C:CF}{F:List Am}{a i:Nat}{f:Am}{lab:Int}{p:Par}{q:Rat}{ss:List (List UInt8)}{w:List UInt8}
structure CF.One (F:CF):Prop where
 c:F.c=1
 t:∀ k,F.t k=if 0<Bf k.1 k.2 then 0 else F.s k.1*F.s k.2
def CF.One.num:(CF.num 1).One:=⟨rfl,fun k=>by
 show (0:Rat)=if 0<Bf k.1 k.2 then 0 else (0:Rat)*0
 split
 ·rfl
 grind⟩
def Auq (p:Par)(q:Rat)(k:Par):(CF.one1 p q).s k=if k=p then q else 0:=rfl
def CF.One.one1 (p:Par)(q:Rat):(CF.one1 p q).One:=⟨rfl,fun k=>by
 show (if k=(p,p) then q*q else 0)=if 0<Bf k.1 k.2 then 0 else (if k.1=p then q else 0)*(if k.2=p then q else 0)
 obtain⟨x,y⟩:=k;by_cases h:(x,y)=(p,p)
 ·obtain⟨j,m⟩:=Prod.mk.inj h;subst m;rw[j];have:=Dl.refl y;rw[if_pos rfl,if_neg (by simp only;omega)];simp
 rw[if_neg h];split
 ·rfl
 by_cases g:x=p
 ·have n:y≠p:=fun e=>h (by rw[g,e]);simp only[n,if_false];grind
 simp only[g,if_false];grind⟩
def CF.One.mul {F G:CF}(hF:F.One)(e:G.One):(F.mul G).One/\∀ p,(F.mul G).s p=F.s p+G.s p:=by
 have g:∀ p,(F.mul G).s p=F.s p+G.s p:=fun p=>by
  show G.s p*F.c+F.s p*G.c=_;rw[hF.c,e.c];grind
 refine⟨⟨?_,fun k=>?_⟩,g⟩
 ·show F.c*G.c=1;rw[hF.c,e.c];decide +kernel
 rw[g,g];show G.t k*F.c+F.t k*G.c+Im F G k=_;rw[hF.c,e.c,hF.t,e.t];unfold Im;split
 ·grind
 split
 ·rename_i he;rw[<-he];grind
 grind
abbrev LF:Type:=Option (Option (Par×Rat))
def LF.cf:LF->CF
 |none=>CF.num 0
 |some none=>CF.num 1
 |some (some x)=>CF.one1 x.1 x.2
def Ij (C:CF)(L:List LF):CF:=L.foldl (fun c y=>c.mul y.cf) C
def Za (C:CF)(L:List LF)(x:LF):Ij C (L++[x])=(Ij C L).mul x.cf:=by unfold Ij;rw[A41];rfl
def An5 (F:CF):(CF.num 0).mul F=CF.num 0:=by
 rw[CF.mul_comm];exact CF.mul_zero F
def Zw:∀ L,Ij (CF.num 0) L=CF.num 0
 |[]=>rfl
 |x::L=>by
  unfold Ij;rw[A30,An5];exact Zw L
def Ak5 {L:List LF}(h:none∈L):Ij C L=CF.num 0:=by
 obtain⟨A,B,rfl⟩:=A3i h;unfold Ij;rw[A41,A30];have:(List.foldl (fun c (y:LF)=>c.mul (LF.cf y)) C A).mul (LF.cf none)=CF.num 0:=CF.mul_zero _;rw[this];exact Zw B
def LF.one {x:LF}(h:x≠none):x.cf.One:=by
 match x,h with
 |some none,_=>exact CF.One.num
 |some (some x),_=>exact CF.One.one1 _ _
def U2:∀ {L:List LF} {C:CF},C.One->none∉L->(Ij C L).One
 |[],C,h,_=>h
 |x::L,C,h,hn=>by
  have g:x≠none:=fun e=>hn (by rw[e];exact A1c ..);unfold Ij;rw[A30];exact U2 (h.mul (LF.one g)).1 fun e=>hn (Azq _ e)
def Acd {p:Par}:∀ {L:List LF} {C:CF},C.One->none∉L->(∀ q,some (some (p,q))∉L)->(Ij C L).s p=C.s p
 |[],C,h,_,_=>rfl
 |x::L,C,h,hn,hp=>by
  have j:x≠none:=fun e=>hn (by rw[e];exact A1c ..);have g:=h.mul (LF.one j);unfold Ij;rw[A30];have:=Acd (p:=p) g.1 (fun e=>hn (Azq _ e)) fun q e=>hp q (Azq _ e);unfold Ij at this;rw[this,g.2];have m:x.cf.s p=0:=by
   match x,j,hp with
   |some none,_,_=>rfl
   |some (some (p',q)),_,hp =>
    show (if p=p' then q else 0)=0;rw[if_neg fun e=>hp q (by rw[e];exact A1c ..)]
  rw[m];grind
def Atk {L:List LF}(h:C.One)(O:none∉L)(U:C.s p=0)(R:L[a]?=some (some (some (p,q))))(N:∀ b j,L[b]?=some (some (some (p,j)))->b=a):(Ij C L).s p=q:=by
 obtain⟨T,u⟩:=Ayu.1 R;have e:L=L.take a++some (some (p,q))::L.drop (a+1):=by
  rw[<-u,List.getElem_cons_drop,A2i]
 have n:none∉L.take a:=fun m=>O (A0o m);have H:none∉L.drop (a+1):=fun m=>O (A1v m);have I:∀ j,some (some (p,j))∉L.take a:=fun j m=>by
  obtain⟨b,E,g⟩:=Az9 m;rw[Ay1]at E;rw[A2t]at g;have:=N b j (by rw[Ayr oV,g]);omega
 have J:∀ j,some (some (p,j))∉L.drop (a+1):=fun j m=>by
  obtain⟨b,E,g⟩:=Az9 m;rw[A3h]at E;rw[List.getElem_drop]at g;have:=N (a+1+b) j (by rw[Ayr oV,g]);omega
 rw[e];have P:=Acd (p:=p) h n I;have t:=U2 h n;have K:=t.mul (CF.One.one1 p q);have Q:=Acd (p:=p) K.1 H J;have:Ij C (L.take a++some (some (p,q))::L.drop (a+1))=Ij ((Ij C (L.take a)).mul (CF.one1 p q)) (L.drop (a+1)):=by
  unfold Ij;rw[A41,A30];rfl
 rw[this,Q,K.2,P,U,Auq,if_pos rfl];grind
noncomputable def Fa (t:List UInt8):Rat:=open Classical in if h:∃ q,SmW q/\t=Ae q then h.choose else 0
def Ol {t:List UInt8}(h:∃ q,SmW q/\t=Ae q):SmW (Fa t)/\Ae (Fa t)=t:=by
 unfold Fa;rw[dif_pos h];exact⟨h.choose_spec.1,h.choose_spec.2.symm⟩
noncomputable def Jt (i:Nat)(f:Am)(w:List UInt8):LF:=if f.2.1=2 then some (some (((i:Int),w),1)) else if w = [] then (if f.2.2=1 then none else some none) else some (some (((i:Int),[]),Fa w))
noncomputable def Pw (w:List UInt8):LF:=if w = [] then none else some (some ((-1,[]),Fa w))
noncomputable def Gd (F:List Am)(lab:Int)(a:Nat)(w:List UInt8):LF:=if (a:Int)=lab then Pw w else match F.findIdx? (fun f=>f.1==a) with|some k=>Jt k (F.getD k (0,0,0)) w|none=>some none
noncomputable def E8 (F:List Am)(lab:Int)(ss:List (List UInt8)):List LF:=ss.mapIdx (Gd F lab)
def F1 (h:ss[a]?=some w):(E8 F lab ss)[a]?=some (Gd F lab a w):=by
 unfold E8;rw[A8l,h];rfl
def Gf :(E8 F lab ss).length=ss.length:=by unfold E8;simp
def Anv (m:(F.map (·.1)).Nodup)(h:F[i]?=some f):F.findIdx? (fun g=>g.1==f.1)=some i:=by
 obtain⟨hi,rfl⟩:=Ayu.1 h;refine A4a.2 ⟨hi,mV,fun j n=>?_⟩;simp only[beq_iff_eq];intro e;have:=(A7u (xs:=F.map (·.1)) (h₀:=by rw[Ayt];omega) (h₁:=by rw[Ayt];omega) (i:=j) (j:=i) m).1 (by rw[A1f,A1f];exact e);omega
def Zx (h:(F.map (·.1)).Nodup)(e:F[i]?=some f)(g:(f.1:Int)≠lab):Gd F lab f.1 w=Jt i f w:=by
 unfold Gd;rw[if_neg g,Anv h e];simp[Ays,e]
def F8 (h:(a:Int)≠lab):Gd F lab a w=some none\/∃ (i:Nat) (f:Am),F[i]?=some f/\f.1=a/\Gd F lab a w=Jt i f w:=by
 unfold Gd;rw[if_neg h];cases hx:F.findIdx? (fun f=>f.1==a) with
 |none=>exact .inl rfl
 |some k =>
  obtain⟨e,g,_⟩:=A4a.1 hx;right;refine⟨k,F[k],Ayr e,by simpa using g,?_⟩;simp[Ays,Ayr e]
def Akm (J:-1<=lab){a b:Nat}{q I:Rat}(g:(E8 F lab ss)[a]?=some (some (some (p,q))))(u:(E8 F lab ss)[b]?=some (some (some (p,I)))):b=a:=by
 have key:∀ {a:Nat} {q:Rat},(E8 F lab ss)[a]?=some (some (some (p,q)))->((a:Int)=lab/\p.1 = -1)\/∃ (i:Nat) (f:Am),F[i]?=some f/\f.1=a/\p.1=(i:Int):=by
  intro a q g;unfold E8 at g;rw[A8l]at g;cases hw:ss[a]? with
  |none=>rw[hw]at g;cases g
  |some w =>
   rw[hw]at g;simp only[A1n,Ayz]at g;by_cases h:(a:Int)=lab
   ·left;unfold Gd Pw at g;rw[if_pos h]at g;split at g
    ·cases g
    cases g;exact⟨h,rfl⟩
   right;rcases F8 (F:=F) (w:=w) h with e|⟨i,f,j,m,t⟩
   ·rw[e]at g;cases g
   rw[t]at g;refine⟨i,f,j,m,?_⟩;unfold Jt at g;split at g
   ·cases g;rfl
   split at g
   ·split at g<;>cases g
   cases g;rfl
 rcases key g with ⟨j,m⟩|⟨i,f,j,m,t⟩<;>rcases key u with ⟨n,H⟩|⟨E,f',n,H,K⟩
 ·omega
 ·omega
 ·omega
 obtain rfl:E=i:=oV;rw[j]at n;cases n;omega
end
section
variable {q:Rat}{t:List UInt8}{u:PH}{x:LF}
def Qe {m:PH}{b:Nat}{t:TypeId}{xs:List Value}{e:Value}(j:m b=some (.cells xs.toArray t (0,0)))(h:e.cells=xs.toArray):ElP m b 0 e:=fun i x g=>by
 refine⟨_,_,_,j,?_⟩;rw[h]at g;simpa using g
def Nu.up {v:Value}{F:CF}{K g:Nat}(h:Nu u v F K)(J:K<=g):Nu u v F g:=by
 obtain⟨T,Q,j,n,m,C,e,hT,I,H,E,kT,L⟩:=h;exact⟨T,Q,j,n,m,C,e,hT,I,H,E,oV,oV⟩
def SmW.dat (h:SmW q):Dat q:=⟨by have:=h.num;omega,h.le⟩
def SmW.sb (h:SmW q):SB q:=h.dn.small oV (pw jV)
def SmW.sb2 (h:SmW q):SB (q*q):=(h.dn.mul h.dn).small oV (pw jV)
def Kf:SmW 1:=⟨jV,jV⟩
def LF.Small:LF->Prop
 |some (some x)=>SmW x.2/\PV x.1
 |_=>True
def LF.Small.cfd (h:x.Small):CFD 2 343731600 x.cf:=by
 match x,h with
 |none,_=>exact CFD.count (Dn.zero _ _)
 |some none,_=>exact CFD.count ⟨144,jV,fV⟩
 |some (some x),h =>
  have e:Dn 2 343731600 x.2:=by
   have:=h.1.dn.mul (show Dn 1 18540 1 from⟨12,jV,fV⟩);rw[show x.2*1=x.2 by grind]at this;exact this.mono oV
  exact Amp ⟨144,jV,fV⟩ e ((h.1.dn.mul h.1.dn).mono oV)
def LF.Small.cfv (h:x.Small):CFV x.cf:=by
 match x,h with
 |none,_=>exact CFV.count 0
 |some none,_=>exact CFV.count 1
 |some (some x),h=>exact Aqd h.2
def Q7 {L:List LF}(h:∀ x∈L,x.Small):∀ i,i<=L.length->CFD (2*i) (1374926400^i) (Ij (CF.num 1) (L.take i))/\CFV (Ij (CF.num 1) (L.take i))
 |0,_=>⟨CFD.count ⟨1,jV,fV⟩,CFV.count 1⟩
 |i+1,hi=>by
  obtain⟨j,m⟩:=Q7 h i oV;have g:=h _ (Ay8 (show i<L.length by omega));have e:L.take (i+1)=L.take i++[L[i]]:=by rw[Aze,Ayr oV];rfl
  rw[e,Za];refine⟨?_,m.mul g.cfv⟩;have:=j.mul g.cfd;rw[show 2*(i+1)=2*i+2 by omega];exact this.mono (by rw[A0d];omega)
def Auo {x:List UInt8×Nat}(e:1<=x.2)(g:x.2<=3)(j:Rl x.2 t):Fn0 prog 192 [Dz x,.string (mkS t)] u fun v _=>v=.bool true:=by
 obtain⟨s,k⟩:=x;rcases j with rfl|⟨rfl,m⟩|⟨rfl,z,n,rfl⟩|⟨rfl,q,h,rfl⟩
 ·exact Atn e g
 ·exact Asa (Ahe m)
 ·exact Arw n
 exact Ary h.dat
def Jq (h:Rl 2 t)(g:t≠[]):SmW (Fa t)/\Ae (Fa t)=t:=by
 rcases h with e|⟨e,_⟩|⟨e,_⟩|⟨_,q,j,e⟩
 ·exact absurd e g
 ·omega
 ·omega
 exact Ol ⟨q,j,e⟩
def Ahx {T:List (List UInt8×Nat)}{F:List Am}{lab:Int}{a:Nat}{x:List UInt8×Nat}(hF:C5 T F lab)(m:∀ l:Nat,lab=(l:Int)->∃ n,T[l]?=some (n,2))(N:F.length<=8)(E:T[a]?=some x)(C:Rl x.2 t):(Gd F lab a t).Small:=by
 by_cases g:(a:Int)=lab
 ·obtain⟨n,I⟩:=m a g.symm;rw[E]at I;cases I;unfold Gd Pw;rw[if_pos g];by_cases j:t = []
  ·rw[if_pos j];trivial
  rw[if_neg j];exact⟨(Jq C j).1,⟨by show (-1:Int)<=-1;omega,by show (-1:Int)<=1000;omega,.inl rfl⟩⟩
 rcases F8 (F:=F) (w:=t) g with e|⟨i,f,H,rfl,L⟩
 ·rw[e];trivial
 rw[L];obtain⟨hi,_⟩:=Ayu.1 H;obtain⟨n,k,O,h,_⟩:=hF.ok f (Ay9 H);rw[O]at E;cases E;unfold Jt;rcases h with ⟨J,K,Q⟩|⟨J,K,Q⟩
 ·rw[if_neg oV];by_cases j:t = []
  ·rw[if_pos j];split<;>trivial
  rw[if_neg j];subst K;exact⟨(Jq C j).1,⟨by show (-1:Int)<=(i:Int);omega,by show (i:Int)<=1000;omega,.inl rfl⟩⟩
 rw[if_pos J];refine⟨Kf,⟨by show (-1:Int)<=(i:Int);omega,by show (i:Int)<=1000;omega,?_⟩⟩;rcases C with e|⟨_,P⟩|⟨e,_⟩|⟨e,_⟩
 ·exact .inl e
 ·exact .inr (Ahe P)
 ·omega
 omega
end
section
variable {F:List Am}{T:List (List UInt8×Nat)}{f:Am}{i:Nat}{lab:Int}{ss:List (List UInt8)}
structure Cd (T:List (List UInt8×Nat))(ss:List (List UInt8)):Prop where
 len:ss.length=T.length
 val:∀ (i:Nat) (x:List UInt8×Nat) (t:List UInt8),T[i]?=some x->ss[i]?=some t->Rl x.2 t
def Cd.at (h:Cd T ss)(hi:i<ss.length):∃ x,T[i]?=some x/\Rl x.2 ss[i]:=by
 have:=h.len;have e:T[i]?=some (T[i]'oV):=Ayr oV;exact⟨_,e,h.val i _ _ e (Ayr hi)⟩
def Km (ss:List (List UInt8))(f:Am):Bool:=f.2.1==1&&f.2.2==1&&(ss.getD f.1 []).isEmpty
def Mo (F:List Am)(lab:Int)(ss:List (List UInt8)):Bool:=!(decide (0<=lab)&&(ss.getD lab.toNat []).isEmpty) && !F.any (Km ss)
def Um (hF:C5 T F lab)(g:Cd T ss)(e:f∈F):f.1<ss.length:=by
 obtain⟨n,k,h,_⟩:=hF.ok f e;obtain⟨j,_⟩:=Ayu.1 h;have:=g.len;omega
def Wn (hF:C5 T F lab)(m:Cd T ss)(g:F[i]?=some f):(E8 F lab ss)[f.1]?=some (Jt i f (ss.getD f.1 [])):=by
 have j:=Ay9 g;have h:=Um hF m j;obtain⟨n,k,_,_,e⟩:=hF.ok f j;rw[F1 (w:=ss[f.1]) (Ayr h),Zx hF.nodup g e];simp[Ays,Ayr h]
def Al7 {l:Nat}(e:lab=(l:Int))(h:l<ss.length):(E8 F lab ss)[l]?=some (Pw (ss.getD l [])):=by
 rw[F1 (w:=ss[l]) (Ayr h)];unfold Gd;rw[if_pos e.symm];simp[Ays,Ayr h]
def Aau (hF:C5 T F lab)(U:Cd T ss)(X:-1<=lab)(P:∀ l:Nat,lab=(l:Int)->l<ss.length):Mo F lab ss=true↔none∉E8 F lab ss:=by
 unfold Mo;simp only[Azb,A1b,A6j,decide_eq_false_iff_not,Int.not_le];constructor
 ·rintro⟨a,b⟩ hm;obtain⟨i,hi,E⟩:=Az9 hm;have g:(E8 F lab ss)[i]?=some none:=by rw[Ayr hi,E]
  have t:i<ss.length:=by rw[Gf]at hi;exact hi
  rw[F1 (w:=ss[i]) (Ayr t)]at g;simp only[Ayz]at g;by_cases m:(i:Int)=lab
  ·unfold Gd Pw at g;rw[if_pos m]at g;split at g
   ·rename_i he;rcases a with a|a
    ·omega
    rw[<-m]at a;simp[Ays,Ayr t,he]at a
   cases g
  rcases F8 (F:=F) (w:=ss[i]) m with e|⟨j,f,g1,g2,O⟩
  ·rw[e]at g;cases g
  rw[O]at g;unfold Jt at g;split at g
  ·cases g
  rename_i k2;split at g
  ·rename_i he;split at g
   ·rename_i k3;have u:=Ay9 g1;obtain⟨n,k,_,R,_⟩:=hF.ok f u;have V:f.2.1=1:=by rcases R with ⟨h,_⟩|⟨h,_⟩;exact h;exact absurd h k2
    have:Km ss f=true:=by
     unfold Km;rw[g2];simp[V,k3,Ays,Ayr t,he]
    have J:=A54.1 b f u;rw[this]at J;exact absurd rfl J
   cases g
  cases g
 intro K;constructor
 ·rcases A86 (lab<0) with h|h
  ·exact .inl h
  right;obtain⟨l,H⟩:∃ l:Nat,lab=(l:Int):=⟨lab.toNat,oV⟩;have I:=P l H;have:=Al7 (F:=F) H I;rw[H,A0y];cases he:ss.getD l [] with
  |cons x y=>rfl
  |nil =>
   rw[he]at this;exact absurd (Ay9 this) (by simpa[Pw] using K)
 rw[A54];intro f Q C;obtain⟨i,hi,rfl⟩:=Az9 Q;have:=Wn hF U (Ayr hi);unfold Km at C;simp only[Azb,beq_iff_eq,List.isEmpty_iff]at C;obtain⟨⟨W,L⟩,N⟩:=C;rw[N]at this;refine K ?_;have e:Jt i F[i] []=none:=by unfold Jt;rw[if_neg oV,if_pos rfl,if_pos L]
 rw[e]at this;exact Ay9 this
noncomputable def cfT (F:List Am)(lab:Int)(ss:List (List UInt8)):CF:=Ij (CF.num 1) (E8 F lab ss)
def Ap7 (hF:C5 T F lab)(m:Cd T ss)(g:-1<=lab)(j:∀ l:Nat,lab=(l:Int)->l<ss.length)(e:Mo F lab ss=false):cfT F lab ss=CF.num 0:=by
 refine Ak5 ?_;rcases A86 (none∈E8 F lab ss) with h|h
 ·exact h
 rw[(Aau hF m g j).2 h]at e;cases e
def Aka (hF:C5 T F lab)(j:Cd T ss)(e:-1<=lab)(g:∀ l:Nat,lab=(l:Int)->l<ss.length)(h:Mo F lab ss=true):(cfT F lab ss).One :=
 U2 CF.One.num ((Aau hF j e g).1 h)
def Xn (hF:C5 T F lab)(n:Cd T ss)(e:-1<=lab)(g:∀ l:Nat,lab=(l:Int)->l<ss.length)(m:Mo F lab ss=true){a:Nat}{p:Par}{q:Rat}(h:(E8 F lab ss)[a]?=some (some (some (p,q)))):(cfT F lab ss).s p=q :=
 Atk CF.One.num ((Aau hF n e g).1 m) rfl h fun b t j=>Akm e h j
def N8 {u:PH}{R:List Bu}(ok:Bt u T R F lab)(g:Cd T ss):∀ x∈E8 F lab ss,x.Small:=fun x j=>by
 obtain⟨i,hi,rfl⟩:=Az9 j;rw[Gf]at hi;have e:=F1 (F:=F) (lab:=lab) (w:=ss[i]) (Ayr hi);rw[Ayr (by rw[Gf];exact hi),Ayz]at e;rw[e];obtain⟨y,m,h⟩:=g.at hi;exact Ahx ok.feat ok.l2 ok.f2 m h
end
section
variable {F:List Am}{T:List (List UInt8×Nat)}{f:Am}{i n:Nat}{lab:Int}{ss:List (List UInt8)}{x:Par×Rat}
noncomputable def Mj (ss:List (List UInt8))(i:Nat)(f:Am):Option (Par×Rat) :=
 if f.2.1=2 then some (((i:Int),ss.getD f.1 []),1) else if ss.getD f.1 [] = []\/ss.getD f.1 [] = [48] then none else some (((i:Int),[]),Fa (ss.getD f.1 []))
noncomputable def Ct (F:List Am)(ss:List (List UInt8))(n:Nat):List (Par×Rat):=(F.zipIdx.take n).filterMap fun p=>Mj ss p.2 p.1
def Al6 (F:List Am)(ss:List (List UInt8)):Ct F ss 0 = []:=rfl
def Yt (h:F[i]?=some f):F.zipIdx[i]?=some (f,i):=by
 rw[A8k,h];simp
def Z4 (h:F[i]?=some f):Ct F ss (i+1)=Ct F ss i++(Mj ss i f).toList:=by
 unfold Ct;rw[Aze,Yt h,List.filterMap_append];cases e:Mj ss i f with
 |none=>simp[e]
 |some x=>simp[e]
def Nd :x∈Ct F ss n↔∃ i f,i<n/\F[i]?=some f/\Mj ss i f=some x:=by
 unfold Ct;rw[A8t];constructor
 ·rintro⟨⟨f,i⟩,hm,he⟩;obtain⟨j,g,e⟩:=Az9 hm;rw[Ay1]at g;rw[A2t,List.getElem_zipIdx]at e;cases e;refine⟨j,_,oV,Ayr (by have:=g;simp at this;omega),?_⟩;simpa using he
 rintro⟨i,f,hi,hf,he⟩;refine⟨(f,i),?_,he⟩;have:(F.zipIdx.take n)[i]?=some (f,i):=by rw[A1x,if_pos hi,Yt hf]
 exact Ay9 this
def V8 (h:Mj ss i f=some x):x.1.1=(i:Int):=by
 unfold Mj at h;split at h
 ·cases h;rfl
 split at h
 ·cases h
 cases h;rfl
def P4 (F:List Am)(ss:List (List UInt8)):∀ n,n<=F.length->((Ct F ss n).map (·.1)).Nodup
 |0,_=>by rw[Al6];simp
 |n+1,hn=>by
  rw[Z4 (Ayr (show n<F.length by omega)),Aza];rw[A1h];refine⟨P4 F ss n oV,?_,fun a j b m e=>?_⟩
  ·cases Mj ss n F[n]<;>simp
  subst e;obtain⟨x,u,rfl⟩:=Ayx.1 j;obtain⟨i,f,hi,_,t⟩:=Nd.1 u;obtain⟨y,C,g⟩:=Ayx.1 m;have h:Mj ss n F[n]=some y:=by simpa using C
  have:=V8 t;have:=V8 h;rw[g]at this;omega
def Vg (F:List Am)(ss:List (List UInt8))(n:Nat):(Ct F ss n).length<=F.length:=by
 unfold Ct;refine Ayv (List.length_filterMap_le ..) ?_;rw[Ay1,List.length_zipIdx];omega
def Ry (hF:C5 T F lab)(t:Cd T ss)(j:f∈F)(C:f.2.1≠2)(h0:ss.getD f.1 []≠[]):SmW (Fa (ss.getD f.1 []))/\Ae (Fa (ss.getD f.1 []))=ss.getD f.1 []:=by
 obtain⟨n,k,E,g,_⟩:=hF.ok f j;have m:=Um hF t j;have e:ss.getD f.1 []=ss[f.1]:=by simp[Ays,Ayr m]
 have u:=t.val f.1 _ _ E (Ayr m);rw[<-e]at u;rcases g with ⟨_,rfl,_⟩|⟨h,_⟩
 ·exact Jq u h0
 exact absurd h C
def Ta {t:List UInt8}(h:Ae (Fa t)=t):Fa t=0↔t = [48]:=by
 constructor
 ·intro e;rw[<-h,e];exact D8
 intro e;refine A2e fun g=>?_;exact Nn g (h.trans e)
theorem Amd (hF:C5 T F lab)(ht:Cd T ss)(hx:x∈Ct F ss n):x.2≠0/\∃ a:Nat,(E8 F lab ss)[a]?=some (some (some x)):=by
 obtain⟨i,f,_,hf,hv⟩:=Nd.1 hx;have hm:=Ay9 hf;have hl:=Wn hF ht hf;unfold Mj at hv;unfold Jt at hl;split at hv
 ·rename_i h2;cases hv;rw[if_pos h2]at hl;exact⟨(by decide:(1:Rat)≠0),_,hl⟩
 ·rename_i h2;split at hv
  ·cases hv
  ·rename_i h0;cases hv;rw[if_neg h2,if_neg (fun e=>h0 (.inl e))]at hl;refine⟨fun e=>h0 (.inr ?_),_,hl⟩;exact (Ta (Ry hF ht hm h2 (fun e=>h0 (.inl e))).2).1 e
noncomputable def Aux (lab:Int)(ss:List (List UInt8)):List (Par×Rat):=if 0<=lab/\ss.getD lab.toNat []≠[48] then [((-1,[]),Fa (ss.getD lab.toNat []))] else []
def Arg (hF:C5 T F lab)(J:Cd T ss)(K:-1<=lab){a:Nat}(h:(E8 F lab ss)[a]?=some (some (some x)))(E:x.2≠0)(t:∀ l:Nat,lab=(l:Int)->ss.getD l [] = [48]->Fa (ss.getD l [])=0):x∈Aux lab ss++Ct F ss F.length:=by
 have m:a<ss.length:=by
  obtain⟨C,_⟩:=Ayu.1 h;rw[Gf]at C;exact C
 have j:ss.getD a []=ss[a]:=by simp[Ays,Ayr m]
 rw[F1 (w:=ss[a]) (Ayr m)]at h;simp only[Ayz]at h;by_cases g:(a:Int)=lab
 ·unfold Gd Pw at h;rw[if_pos g]at h;split at h
  ·cases h
  cases h;refine A0x _ ?_;unfold Aux;have u:ss[a]≠[48]:=fun e=>E (by
   have:=t a g.symm;rw[j]at this;exact this e)
  rw[<-g,A0y,j,if_pos ⟨oV,u⟩];exact Azs.2 rfl
 rcases F8 (F:=F) (w:=ss[a]) g with e|⟨i,f,g1,g2,H⟩
 ·rw[e]at h;cases h
 rw[H]at h;refine A46 _ (Nd.2 ⟨i,f,(Ayu.1 g1).1,g1,?_⟩);have I:=Ay9 g1;unfold Jt at h;unfold Mj;rw[g2,j];split at h
 ·rename_i h2;cases h;rw[if_pos h2]
 rename_i h2;split at h
 ·split at h<;>cases h
 rename_i h0;cases h;rw[if_neg h2,if_neg];rintro (e|e)
 ·exact h0 e
 refine E ?_;have:=Ry hF J I h2 (by rw[g2,j];exact h0);rw[g2,j]at this;exact (Ta this.2).2 e
end
section
variable {F:List Am}{R:List Bu}{T:List (List UInt8×Nat)}{i:Nat}{lab:Int}{ss:List (List UInt8)}{tv v:Value}{u:PH}
structure Qa (u:PH)(v tv:Value)(T:List (List UInt8×Nat))(R:List Bu)(F:List Am)(lab:Int)(ss:List (List UInt8)):Prop where
 sch:G8 u v T R F lab
 ok:Bt u T R F lab
 lst:Ac u tv 1 (ss.map nmV)
 fit:Cd T ss
def Qa.mono {u u':PH}{v tv:Value}{T:List (List UInt8×Nat)}{R:List Bu}{F:List Am}{lab:Int}{ss:List (List UInt8)}(h:Qa u v tv T R F lab ss)(hl:PH.le u u'):Qa u' v tv T R F lab ss :=
 ⟨h.sch.mono hl,h.ok.mono hl,h.lst.mono hl,h.fit⟩
def O5 {a:Option Addr}{n c:Nat}(h:Ac u (.slice a n c) 1 (ss.map nmV))(hi:i<ss.length):∃ b off,a=some ⟨b,off,none⟩/\ElP u b (off+i*1) (.string (mkS (ss.getD i []))):=by
 have e:ss.getD i []=ss[i]:=by simp[Ays,Ayr hi]
 rw[e];exact Ac.at' h (j:=i) (by simp[nmV,Ayr hi])
def Akp (h:Qa u v tv T R F lab ss) :
 Fn0 prog 123 [v,tv] u fun r _=>r=.int .i64 0:=by
 have E:=fun (P:PH) (l:PH.le u P)=>Acb (h.sch.mono l) (h.ok.mono l);obtain⟨⟨xa,Q,xb,xd,xe,xf,rfl,C,X,V⟩,ok,t,hT⟩:=h;obtain⟨ya,U,rfl⟩:=t.opn;rw[Ayt]at t⊢;have N:=hT.len;have t2:=ok.t2;refine Fn0.o func123<|G.c call89 (E u (PH.le_refl _)) ?_;rintro v1 u1 Y rfl;refine G.nF 0 0<|G.nF ss.length T.length<|G.l (ι:=Nat) (fun i=>[(2,.p 0 0),(19,sV ya ss.length U),(20,iV ss.length),(21,iV i)])
  (fun _=>[(0,⟨30,[sV xa T.length Q,sV xb R.length xd,sV xe F.length xf,iV lab]⟩)])
  (fun i P m'=>i<=ss.length/\m'=PH.mt) (fun i=>ss.length-i) 0 ⟨oV,rfl⟩ ?_
 rintro J i W u2 m2 l2 ⟨hi,rfl⟩;have n:=Y.trans l2;by_cases g:i<ss.length
 ·refine G.lT i ss.length ?_;obtain⟨b,off,rfl,e⟩:=O5 (t.mono n) g;refine G.a b off ss.length U i 1 g<|G.lU none b (off+i*1) (.string (mkS (ss.getD i []))) e ?_;have m:T[i]?=some T[i]:=Ayr oV;have H:=ok.att.kind T[i] (Ay8 oV);have I:=hT.val i _ _ m (Ayr g);rw[show ss[i]=ss.getD i [] by simp[Ays,Ayr g]]at I;obtain⟨K,O,rfl,L⟩:=Ac.at' (C.mono n) (j:=i) (e:=Dz T[i]) (by simp[m]);generalize T[i]=x at m H I L;refine G.a K O T.length Q i 2 oV<|G.lU (some 2) K (O+i*2) (Dz x) L<|G.c call192 (Auo H.1 H.2 I) ?_;rintro v3 u3 Z rfl;exact G.i i<|G.b (W (i+1) _ _ _ cV (l2.trans Z) ⟨oV,rfl⟩ oV)
 obtain rfl:i=ss.length:=oV;exact G.lF ss.length ss.length<|G.r (.int .i64 0) ⟨rfl,rfl⟩
def Ayl (h:i<=8):1374926400^i<10^100:=A0r (Azr oV h) jV
def Axg (h:i<8):8*(1374926400^i*343731600)<10^100:=by
 have e:1374926400^i<=1374926400^8:=Azr oV oV;have g:1374926400^8<10^80:=jV
 have j:(10:Nat)^80*100000000000<10^100:=jV
 omega
def Anl (h:Qa u v tv T R F lab ss) :
 Fn0 prog 124 [v,tv] u fun r n=>∃ g j,r=.func (.func 193) #[] #[.pointer (some ⟨g,0,none⟩),.pointer (some ⟨j,0,none⟩)]/\ElP n g 0 v/\ElP n j 0 tv:=by
 obtain⟨⟨t,E,C,H,I,J,rfl,X,V,U⟩,ok,W,hT⟩:=h;obtain⟨K,L,rfl⟩:=W.opn;rw[Ayt];have Y:Ag prog 124 [.agg #[.slice t T.length E,.slice C R.length H,.slice I F.length J,.int .i64 lab],.slice K ss.length L] u PH.mt (fun r n O=>∃ g j,r=.func (.func 193) #[] #[.pointer (some ⟨g,0,none⟩),.pointer (some ⟨j,0,none⟩)]/\ElP O g 0 (.agg #[.slice t T.length E,.slice C R.length H,.slice I F.length J,.int .i64 lab])/\ElP O j 0 (.slice K ss.length L)):=by
  refine Ag.o func124<|G.pastI<|G.pub 0 30 [.slice t T.length E,.slice C R.length H,.slice I F.length J,.int .i64 lab] kV kV ?_;intro g a0 Z;refine G.pub 1 54 [.slice K ss.length L] kV kV ?_;intro j a1 m;have N:g≠j:=fun e=>by subst e;rw[Ab]at m;cases m
  exact G.r (.func (.func 193) #[] #[.pointer (some ⟨g,0,none⟩),.pointer (some ⟨j,0,none⟩)]) ⟨g,j,rfl,Qe (xs:=[.slice t T.length E,.slice C R.length H,.slice I F.length J,.int .i64 lab]) (by rw[Ad _ _ N,Ab]) rfl,Qe (xs:=[.slice K ss.length L]) (Ab _ _ _) rfl⟩
 refine Fn0.weak Y.giveAll ?_;rintro r n ⟨u1,m1,_,l2,g,j,e,P,Q⟩;exact⟨g,j,e,P.mono l2,Q.mono l2⟩
end
def ElP.sub {u:PH}{b off:Nat}{e x:Value}{k:Nat}(h:ElP u b off e)(m:∀ i y,x.cells[i]?=some y->e.cells[k+i]?=some y):ElP u b (off+k) x:=fun i y n=>by
 obtain⟨cs,t,fr,g,j⟩:=h (k+i) y (m i y n);exact⟨cs,t,fr,g,by rw[A1l];exact j⟩
def Ani {u m:PH}{l b1 b2:Nat}{v tv:Value}{T:List (List UInt8×Nat)}{R:List Bu}{F:List Am}{lab:Int}{ss:List (List UInt8)}(h:Qa u v tv T R F lab ss)(a7:ElP u b1 0 v)(a1:ElP u b2 0 tv)(J:List (Par×Rat)->PH->PH->Prop)
 (a9:∀ L E a0 I,PH.le E a0->J L E I->J L a0 I)
 (hY:∀ (i:Nat) (x:Par×Rat) E I,i<F.length->PH.le u E->J (Ct F ss i) E I->x∈Ct F ss F.length->x.1.1=(i:Int)->Abf prog l [Aq x.1,.string (mkS (Ae x.2))] E I fun r a0 a8=>r=.bool true/\J (Ct F ss i++[x]) a0 a8)
 (h0:J [] u m):Ag prog 193 [.func (.yield l) #[] #[],.pointer (some ⟨b1,0,none⟩),.pointer (some ⟨b2,0,none⟩)] u m fun _ E I=>J (Ct F ss F.length) E I:=by
 obtain⟨⟨xa,xc,xb,xd,xe,xf,rfl,ab,aa,a6⟩,ok,hS,hT⟩:=h;obtain⟨ya,yc,rfl⟩:=hS.opn;rw[Ayt]at hS a1;have ac:=ok.f2;have O:=ok.feat;have e2:ElP u b1 (0+2) (.slice xe F.length xf):=a7.sub (k:=2) fun i y V=>by
  match i,V with
  |0,V=>simpa[Value.cells] using V
  |i+1,V=>simp[Value.cells]at V
 refine Ag.o func193<|G.f 30 b1 0 2 2<|G.lU none b1 (0+2) (.slice xe F.length xf) e2<|G.l (ι:=Nat) (fun i=>[(0,.v (.func (.yield l) #[] #[])),(2,.v (.pointer (some ⟨b2,0,none⟩))),(9,sV xe F.length xf),(10,iV F.length),(11,iV i)]) (fun _=>[])
  (fun i E I=>i<=F.length/\J (Ct F ss i) E I) (fun i=>F.length-i) 0 ⟨oV,h0⟩ ?_
 rintro Jl i hJ u1 m1 l1 ⟨hi,n⟩;by_cases Q:i<F.length
 ·refine G.lT i F.length ?_;have Y:F[i]?=some F[i]:=Ayr Q;have a2:=Ay8 Q;have P:=Um O hT a2;have t:=Z4 (ss:=ss) Y;have H:=fun h2 h0=>Ry O hT a2 h2 h0;have a5:∀ x,Mj ss i F[i]=some x->x∈Ct F ss F.length:=fun x hx=>Nd.2 ⟨i,F[i],Q,Y,hx⟩;obtain⟨fb,fo,rfl,ef⟩:=Ac.at' (a6.mono l1) (j:=i) (e:=Ch F[i]) (by simp[Y]);have step:=fun (x:Par×Rat) (hx:Mj ss i F[i]=some x) (E I:PH) (hl:PH.le u1 E) (hj:J (Ct F ss i) E I)=>hY i x E I Q (l1.trans hl) hj (a5 x hx) (V8 hx);have X:Mj ss i F[i]=none->Ct F ss (i+1)=Ct F ss i:=fun e=>by rw[t,e];simp
  have K:∀ x,Mj ss i F[i]=some x->Ct F ss (i+1)=Ct F ss i++[x]:=fun x e=>by rw[t,e];simp
  clear t a5;generalize F[i]=f at Y a2 P H ef step X K;obtain⟨C,f2,f3⟩:=f;simp only at P H;refine G.a fb fo F.length xf i 3 Q<|G.lU (some 3) fb (fo+i*3) (.agg #[.int .i64 C,.int .i64 f2,.int .i64 f3]) ef<|G.lU none b2 0 (.slice ya ss.length yc) (a1.mono l1) ?_;obtain⟨b,off,rfl,e⟩:=O5 (hS.mono l1) P;refine G.a b off ss.length yc C 1 P<|G.lU none b (off+C*1) (.string (mkS (ss.getD C []))) e ?_;by_cases a3:f2=2
  ·subst a3;have hv:Mj ss i (C,2,f3)=some (((i:Int),ss.getD C []),1):=by unfold Mj;rw[if_pos rfl]
   refine G.eT (2:Nat) 2<|G.lU none b2 0 (.slice (some ⟨b,off,none⟩) ss.length yc) (a1.mono l1)<|G.a b off ss.length yc C 1 P<|G.lU none b (off+C*1) (.string (mkS (ss.getD C []))) e<|G.yreg [0,1,2,3,4,5,6,7,8,9] 10 [11,12] kV ?_;intro Jy U W;refine G.x [49] [] mV<|G.x [49] [48] mV ?_;have V:=step _ hv u1 m1 (PH.le_refl _) n;rw[W7]at V;refine G.b (W _ _ _ l _ _ kV V ?_);rintro v2 u2 m2 l2 ⟨rfl,N⟩;rw[<-K _ hv]at N;exact G.i i<|G.b (hJ (i+1) _ _ _ cV (l1.trans l2) ⟨oV,N⟩ oV)
  refine G.eF f2 2 ?_;have g:Mj ss i (C,f2,f3)=if ss.getD C [] = []\/ss.getD C [] = [48] then none else some (((i:Int),[]),Fa (ss.getD C [])):=by unfold Mj;rw[if_neg a3]
  have H:=H a3;generalize ss.getD C []=w at g H e;by_cases Z:w = []
  ·subst Z;rw[if_pos (.inl rfl)]at g;refine G.yreg [0,1,2,3,4,5,6,7,8,9] 10 [11,12] kV ?_;intro Jy U W;refine G.y [] [] rfl<|G.b (U _ _ _ kV ?_);rw[<-X g]at n;exact G.i i<|G.b (hJ (i+1) _ _ _ cV l1 ⟨oV,n⟩ oV)
  by_cases a4:w = [48]
  ·subst a4;rw[if_pos (.inr rfl)]at g;refine G.yreg [0,1,2,3,4,5,6,7,8,9] 10 [11,12] kV ?_;intro Jy U W;refine G.x [48] [] mV<|G.y [48] [48] rfl<|G.b (U _ _ _ kV ?_);rw[<-X g]at n;exact G.i i<|G.b (hJ (i+1) _ _ _ cV l1 ⟨oV,n⟩ oV)
  rw[if_neg (fun e=>e.elim Z a4)]at g;refine G.yreg [0,1,2,3,4,5,6,7,8,9] 10 [11,12] kV ?_;intro Jy U W;refine G.x w [] Z<|G.x w [48] a4 ?_;have V:=step _ g u1 m1 (PH.le_refl _) n;rw[(H Z).2]at V;refine G.b (W _ _ _ l _ _ kV V ?_);rintro v2 u2 m2 l2 ⟨rfl,N⟩;rw[<-K _ g]at N;exact G.i i<|G.b (hJ (i+1) _ _ _ cV (l1.trans l2) ⟨oV,N⟩ oV)
 obtain rfl:i=F.length:=oV;exact G.lF F.length F.length<|G.r (.tuple #[]) n
section
variable {c x:Code}{id:Nat}
def K4:Code->Option (Operand×Array Tmp×Code×Code)
 |.seq a b=>match K4 a with|some x=>some x|none=>K4 b
 |.block _ a=>K4 a
 |.loop a=>K4 a
 |.cond _ a b=>match K4 a with|some x=>some x|none=>K4 b
 |.rangeFunc g ps x y=>some (g,ps,x,y)
 |_=>none
def rfG (fn:Func):Operand:=match K4 (Qf fn) with|some x=>x.1|none=>.tmp 0
def Ayh (fn:Func):Array Tmp:=match K4 (Qf fn) with|some x=>x.2.1|none=>#[]
def rfX (fn:Func):Code:=match K4 (Qf fn) with|some x=>x.2.2.1|none=>.skip
def rfY (fn:Func):Code:=match K4 (Qf fn) with|some x=>x.2.2.2|none=>.skip
def Aye:Code->Bool
 |.seq _ _=>true
 |_=>false
def Ayk:Code->Code
 |.seq a _=>a
 |_=>.skip
def Ayd:Code->Code
 |.seq _ b=>b
 |_=>.skip
def Aya:Code->Bool
 |.block _ _=>true
 |_=>false
def Ayf:Code->Code
 |.block _ a=>a
 |_=>.skip
def rgB:Code->Bool
 |.region _ ops false=>L8 ops
 |_=>false
def rgI:Code->Nat
 |.region id _ _=>id
 |_=>0
def rgO:Code->Array Oper
 |.region _ ops _=>ops
 |_=>#[]
def RW (P:Program)(l:Nat)(c:Code)(J:S->PH->PH->Prop)(s:S)(u m:PH):Prop :=
 ∀ (cx:Cx) (ρ:Nat->Nat) (a:Act) (w:World),Rel cx s u m ρ a w->c.wpIn (Fence.wide.inRound l) 0 P (Exit.then (fun a w=>∃ s u m ρ,Rel cx s u m ρ a w/\J s u m) (fun _ _ _=>False)) a w
section
variable {P:Program} {l:Nat} {J J':S->PH->PH->Prop} {s:S} {u m:PH}
def RW.seq {x y:Code}(h:RW P l x (fun s u m=>RW P l y J s u m) s u m):RW P l (.seq x y) J s u m:=fun g ρ a w C=>wpIn_seq (wpIn_mono (h g ρ a w C) fun e a w j=>by
 cases e with
 |normal=>obtain⟨s,u,m,ρ,n,t⟩:=j;exact t g ρ a w n
 |_=>exact j)
def RW.block (h:RW P l x J s u m):RW P l (.block id x) J s u m:=fun j ρ a w n=>wpIn_block (wpIn_mono (h j ρ a w n) fun e a w g=>by
 cases e with
 |normal=>exact g
 |_=>exact g.elim)
def RW.reg [A5 P]{e:Array Oper}(fn:Func)(g:L8 e=true)(h:∀ (Post:By) (J':S->PH->PH->Prop),(∀ s u m,J s u m->J' s u m)->G P fn Post ([.reg id e false (List.range e.size),.lp J'],s) u m):RW P l (.region id e false) J s u m:=fun j ρ a w C =>
 Axk (Agb l) g (h ⟨fun _ _ _=>False,j.m0⟩ J fun _ _ _ h=>h) C rfl fun s u m ρ a w n t=>⟨s,u,m,ρ,n,t⟩
end
def Ag.weak {P:Program}{f:FuncId}{args:List Value}{u m:PH}{R n:Value->PH->PH->Prop}(h:Ag P f args u m R)(I:∀ v j g,R v j g->n v j g):Ag P f args u m n:=fun w H=>Calls.mono (h w H) fun e w' ⟨v,j,g,t,C,E,F⟩=>⟨v,j,g,t,C,E,I _ _ _ F⟩
def RW.seq' {P:Program}{l:Nat}{J:S->PH->PH->Prop}{s:S}{u m:PH}(e:Aye c=true)(h:RW P l (Ayk c) (fun s u m=>RW P l (Ayd c) J s u m) s u m):RW P l c J s u m:=by
 cases c<;>first|exact RW.seq h|cases e
def RW.block' {P:Program}{l:Nat}{J:S->PH->PH->Prop}{s:S}{u m:PH}(e:Aya c=true)(h:RW P l (Ayf c) J s u m):RW P l c J s u m:=by
 cases c<;>first|exact RW.block h|cases e
def RW.reg' {P:Program}[A5 P]{l:Nat}{J:S->PH->PH->Prop}{s:S}{u m:PH}(fn:Func)(e:rgB c=true)(h:∀ (Post:By) (J':S->PH->PH->Prop),(∀ s u m,J s u m->J' s u m)->G P fn Post ([.reg (rgI c) (rgO c) false (List.range (rgO c).size),.lp J'],s) u m):RW P l c J s u m:=by
 cases c with
 |region id ops dr =>
  cases dr with
  |false=>exact RW.reg fn e h
  |true=>cases e
 |_=>cases e
def Ub (r:Loop):Loop:={ r with state:=.busy }
def Afp (p q:Nat)(a b:Value)(t:Array Value):((#[p,q].zip [a,b].toArray).foldl (fun tmps (t,a)=>tmps.setIfInBounds t a) t)=(t.setIfInBounds p a).setIfInBounds q b:=by
 rw[<-A69];simp
def Alb {P:Program}{l n:Nat}{r:Loop}{args:List Value}{T:List (Nat×Value)}{u m:PH}{K:PH->PH->Prop}(hm:m l=some (.loop r))(X:r.state=.ready)(hp:r.pending=none)(hs:args.length=r.params.size)
 (hn:r.tmps.size=n) (hT:∀ x∈T,((r.params.zip args.toArray).foldl (fun tmps (t,a)=>tmps.setIfInBounds t a) r.tmps)[x.1]?=some x.2)
 (h:RW P l r.assign (fun s u1 R=>R l=some (.loop r)/\RW P l r.body (fun _ u2 Z=>Z l=some (.loop (Ub r))/\K u2 (Z.upd l (.loop r))) s u1 (R.upd l (.loop (Ub r)))) (S.ofT n T) u m) :
 Abf P l args u m fun v u' m'=>v=.bool true/\K u' m':=by
 intro w F;have hl:=F.pm l _ hm;have Y:((r.params.zip args.toArray).foldl (fun tmps (t,a)=>tmps.setIfInBounds t a) r.tmps).size=n:=by
  rw[<-hn,<-A69];generalize (r.params.zip args.toArray).toList=L;generalize r.tmps=t0;induction L generalizing t0 with
  |nil=>rfl
  |cons x L ih=>rw[A30,ih];simp
 refine⟨r.fn,_,r.assign,r.body,run_yield hl (by simpa using hs),roundIn_of_wpIn trivial ?_⟩;have j:=Rel.start (T:=T) F (tmps:=(r.params.zip args.toArray).foldl (fun tmps (t,a)=>tmps.setIfInBounds t a) r.tmps) hT;rw[Y]at j;refine wpIn_mono (h _ _ _ _ j) fun e a1 w1 hq=>?_;cases e with
 |normal =>
  obtain⟨s1,u1,R,ρ1,g,Q,h2⟩:=hq;have V:=g.gd.pm l _ Q;have H:∀ k b,s1.hp k=some b->ρ1 k≠l:=fun k b E e=>by
   obtain⟨_,_,_,O⟩:=g.box k b E;rw[e,Q]at O;cases O
  obtain⟨g1,g2⟩:=g.gd.putO (o':=.loop (Ub r)) Q rfl;have r2:Rel ⟨w,u,m⟩ s1 u1 (R.upd l (.loop (Ub r))) ρ1 a1 (w1.putObj l (.loop (Ub r))):=by
   refine⟨g.sz,g.tm,g.df.of fun q e _ hu C=>?_,fun k b E=>?_,g.inj,g.lv,g1,g.gr.trans g2⟩
   ·have N:q≠l:=fun e'=>by rw[e',Q]at C;cases C
    exact⟨by rw[World.putObj_heap_other N];exact e,hu,by rw[Ad _ _ N];exact C⟩
   obtain⟨e1,U,e3,O⟩:=g.box k b E;exact⟨by rw[World.putObj_heap_other (H k b E)];exact e1,U,e3,by rw[Ad _ _ (H k b E)];exact O⟩
  refine⟨_,run_beginRound V X,wpIn_mono (h2 _ _ _ _ r2) fun U a2 w2 I=>?_⟩;cases U with
  |normal =>
   obtain⟨s2,u2,Z,ρ2,r3,h3,h4⟩:=I;have W:=r3.gd.pm l _ h3;refine⟨_,_,run_endRound none W,?_⟩;have e5:({ Ub r with state:=if (none:Option Code).isNone then .ready else .done,pending:=none }:Loop)=r:=by
    unfold Ub;cases r;simp only at X hp;subst X;subst hp;rfl
   rw[e5];obtain⟨g3,g4⟩:=r3.gd.putO (o':=.loop r) h3 rfl;exact⟨_,_,_,rfl,g3,r3.gr.trans g4,rfl,h4⟩
  |_=>exact I.elim
 |_=>exact hq.elim
section
variable {P:Program} [A5 P] {fn:Func} {Post:By} {st:List KI×S} {u m:PH}
def Ax1 (st:List KI×S):Option (Operand×Array Tmp×Code×Code):=match st.1 with
 |.code (.rangeFunc g ps x y)::_=>some (g,ps,x,y)
 |_=>none
def Ahf (st:List KI×S):List KI×S:=match st.1 with
 |.code (.rangeFunc _ _ _ _)::k=>(k,st.2)
 |_=>st
def G.rangeF (g:Operand)(ps:Array Tmp)(x y:Code)(N:Nat)(cap:List Value)(a0:PH->PH->Prop)(h:Ax1 (adv P st)=some (g,ps,x,y))(I:(adv P st).2.ev g=.v (.func (.func N) #[] cap.toArray))(hn:Fv (Ahf (adv P st)).1=true)
 (hc:∀ args w,(callFunc N args).run P w=.ok (.enter N args) w)
 (O:∀ (l:Nat) (r:Loop),r.state=.ready->r.pending=none->r.params=ps->r.assign=x->r.body=y->r.tmps.size=(adv P st).2.n->(∀ d v,(adv P st).2.tm d=.v v->r.tmps[d]?=some v)->m l=none->u l=none ->
  Ag P N (.func (.yield l) #[] #[]::cap) u (m.upd l (.loop r)) fun _ Y X=>∃ r':Loop,r'.state≠.busy/\r'.pending=none/\X l=some (.loop r')/\∃ T,PH.le T X/\T l=none/\a0 Y T)
 (k:∀ Y X,PH.le u Y->a0 Y X->G P fn Post (Ahf (adv P st)) Y X):G P fn Post st u m:=by
 refine G.stp ?_;generalize adv P st=st' at h I hn O k;obtain⟨ks,s⟩:=st'
 match ks,h with
 |.code (.rangeFunc g' ps' x' y')::kk,h =>
  simp only[Ax1,Ayz,Az0]at h;obtain⟨rfl,rfl,rfl,rfl⟩:=h;simp only[Ahf]at hn O k;refine⟨?_⟩;intro c ρ a w ad L;show (Code.rangeFunc g' ps' x' y').wp P (Fy P fn Post c kk) a w;refine (wpIn_wide (n:=0)).1 (wpIn_rangeFunc fun fid _=>?_);obtain⟨C,F⟩:∃ C:Loop,C={ state:=.ready,pending:=none,fn:=fid,tmps:=a.tmps,params:=ps',assign:=x',body:=y',defers:=w.heap.size }:=⟨_,rfl⟩;have U:=run_enterLoop_outer (P:=P) (w:=w) fid a.tmps ps' x' y';rw[<-F]at U;obtain⟨E,H⟩:∃ E,E=w.alloc (.deferred (some [])):=⟨_,rfl⟩;rw[<-H]at U;have a8:E.heap.size=w.heap.size+1:=by rw[H,Bz]
  rw[<-a8]at U;have a1:E.heap[w.heap.size]?=some (.deferred (some [])):=by rw[H];exact Cf _ _
  have ag:u w.heap.size=none:=L.gd.pu.none (Ay2 _);have ae:m w.heap.size=none:=L.gd.pm.none (Ay2 _);have W:Bo u m E:=by
   refine⟨fun g o I=>?_,fun g o I=>?_,L.gd.ap,fun g cs t fr j z I hj=>?_⟩
   ·rw[H,Av _ _ (L.gd.pu.lt I)];exact L.gd.pu g o I
   ·rw[H,Av _ _ (L.gd.pm.lt I)];exact L.gd.pm g o I
   by_cases e:g=w.heap.size
   ·subst e;rw[a1]at I;simp at I
   have K:=A3 I;rw[a8]at K;rw[H,Av _ _ oV]at I;exact L.gd.cl g cs t fr j z I hj
  have a3:Br c.u0 c.m0 c.w0 u m E:=L.gr.trans ⟨oV,fun g I _=>by rw[H];exact Av _ _ I,fun _ _=>rfl,fun _ _ h=>h,by rw[H];exact⟨rfl,rfl⟩,fun _=>by rw[H];exact⟨rfl,Ay2 _⟩⟩;have Q:Rel c s u m ρ { a with defers:=V7 w.heap.size::a.defers } E:=by
   refine⟨L.sz,L.tm,?_,fun k b hb=>?_,L.inj,L.lv,W,a3⟩
   ·obtain⟨ds,d1,d2,a9,d3⟩:=L.df;refine⟨w.heap.size::ds,A1i.2 ⟨fun a6=>?_,d1⟩,by rw[Azu,<-d2];rfl,by rw[<-a9];rfl,fun q hq=>?_⟩
    ·obtain⟨e,_⟩:=d3 _ a6;exact absurd (A3 e) oV
    rcases Ay7.1 hq with rfl|hq
    ·exact⟨a1,L.gr.sz,ag,ae⟩
    obtain⟨e1,e2,e3,e4⟩:=d3 q hq;exact⟨by rw[H,Av _ _ (A3 e1)];exact e1,e2,e3,e4⟩
   obtain⟨⟨cs,f1,f2,f3⟩,f4⟩:=L.box k b hb;exact⟨⟨cs,by rw[H,Av _ _ (A3 f1)];exact f1,f2,f3⟩,f4⟩
  obtain⟨g1,g2,g3,g4⟩:=W.newO (o:=.loop C) rfl;have R:Rel c s u (m.upd E.heap.size (.loop C)) ρ { a with defers:=V7 w.heap.size::a.defers } (E.alloc (.loop C)):=by
   refine⟨Q.sz,Q.tm,Q.df.of fun q e _ hu V=>?_,fun k b hb=>?_,Q.inj,Q.lv,g1,Q.gr.trans g2⟩
   ·have K:=A3 e;exact⟨by rw[Av _ _ K];exact e,hu,by rw[Ad _ _ oV];exact V⟩
   obtain⟨⟨cs,f1,f2,f3⟩,f4,f5,f6⟩:=Q.box k b hb;have K:=A3 f1;exact⟨⟨cs,by rw[Av _ _ K];exact f1,f2,f3⟩,f4,f5,by rw[Ad _ _ oV];exact f6⟩
  have ab:a.eval g'=.func (.func N) #[] cap.toArray:=by rw[L.eval g' (by rw[I];simp),I];rfl
  have aa:=O E.heap.size C (by rw[F]) (by rw[F]) (by rw[F]) (by rw[F]) (by rw[F]) (by rw[F];exact L.sz) (fun d v hd=>by
   have:=L.tm d (by rw[hd];simp);rw[hd]at this;rw[F];exact this) g3 g4
  obtain⟨dd,a2⟩:∃ dd:Deferred,dd={ target:=.fn (.func N) cap.toArray,args:=#[.func (.yield E.heap.size) #[] #[]] }:=⟨_,rfl⟩;have a7:(resolve a.eval (rangeCall g' E.heap.size) 0).run P (E.alloc (.loop C))=.ok dd (E.alloc (.loop C)):=by
   rw[a2];simp only[resolve,rangeCall,ab,Deferred.ofValue];simp[Act.eval]
  have a4:(invoke dd.target dd.args).run P (E.alloc (.loop C))=.ok (.enter N (.func (.yield E.heap.size) #[] #[]::cap).toArray) (E.alloc (.loop C)):=by
   rw[a2];simp[invoke,hc]
  refine⟨E.heap.size,[V7 w.heap.size],E.alloc (.loop C),dd,E.alloc (.loop C),N,(.func (.yield E.heap.size) #[] #[]::cap).toArray,E.alloc (.loop C),U,a7,fun _ _=>trivial,a4,(fun h=>by cases h),?_⟩;refine callsIn_wide.2 (Calls.mono (aa _ g1) fun e w3 he=>?_);obtain⟨v,Y,X,rfl,k1,k2,r',q1,q2,q3,T,q4,q5,q6⟩:=he;have ac:=k1.pm _ _ q3;refine⟨none,_,by rw[<-q2];exact run_endLoop ac q1,?_⟩;obtain⟨p1,p2⟩:=k1.putO (o':=.loop { r' with state:=.exhausted }) q3 rfl;have a5:PH.le T (X.upd E.heap.size (.loop { r' with state:=.exhausted })):=fun g o I=>by
   by_cases e:g=E.heap.size
   ·subst e;rw[q5]at I;cases I
   rw[Ad _ _ e];exact q4 g o I
  have af:Rel c s Y (X.upd E.heap.size (.loop { r' with state:=.exhausted })) ρ { a with defers:=V7 w.heap.size::a.defers } (w3.putObj E.heap.size (.loop { r' with state:=.exhausted })):=by
   have Z:=k2.trans p2;refine⟨R.sz,R.tm,R.df.of fun q e _ hu V=>⟨by rw[Z.old _ (A3 e) V];exact e,by rw[Z.us _ (A3 e)];exact hu,Z.ms _ (A3 e) V⟩,fun k b hb=>?_,R.inj,R.lv,p1,R.gr.trans Z⟩;obtain⟨e1,e2,e3,e4⟩:=R.box k b hb;have K:ρ k<(E.alloc (.loop C)).heap.size:=by obtain⟨cs,e,_⟩:=e1;exact A3 e
   refine⟨?_,e2,?_,?_⟩
   ·rw[Z.old _ K e4];exact e1
   ·rw[Z.us _ K];exact e3
   exact Z.ms _ K e4
  have hk:=(k Y T (k2.le g1.pu) q6).out;rw[Sym.ofNo hn]at hk;exact hk c ρ _ _ ad (af.less a5)
end
end
section
variable {b sz:Nat}{es:List Value}{m m0:PH}{o:Obj}{t:TypeId}{v:Value}
def Af.base (h:Af m0 m v t sz es)(I:m0 b≠none):Af (m0.upd b o) (m.upd b o) v t sz es:=by
 obtain⟨C,h⟩:=h;rcases h with ⟨n,u,rfl⟩|⟨g,cap,rest,n,rfl,u,E,F,H⟩
 ·exact⟨C,.inl ⟨n,u,rfl⟩⟩
 have j:g≠b:=fun e=>by subst e;exact I n
 exact⟨C,.inr ⟨g,cap,rest,by rw[Ad _ _ j];exact n,Ic _ _ _ j,u,E,F,H⟩⟩
def Af.see (h:Af m0 m v t sz es)(e:m0 b=some o):m b=some o:=h.le b o e
end
end Go.Proofs.YtijchbjkdllolaaGreatDoor
