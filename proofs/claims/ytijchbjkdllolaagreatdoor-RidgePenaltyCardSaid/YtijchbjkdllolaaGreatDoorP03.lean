/- Parts of one proof, joined by a program. -/
import Derived.Test.YtijchbjkdllolaaGreatDoorP02
import Derived.Outline
import Derived.Deep.RegionWith
import Derived.Deep.DeepCutAuto
import Derived.Laws.CopyOwn
import Derived.Deep.LoopGhost
import Derived.Deep.RegionHeld3
import Derived.Laws.AppendOwn
import Derived.Laws.MakeOwn
import Derived.IntWalk
import Derived.Lib.TrimByte
import Derived.Lib.ItoaNum
import Derived.Laws.IdiomStrings
set_option linter.defProp false
set_option linter.unusedVariables false
set_option linter.unusedSimpArgs false
set_option linter.unusedSectionVars false
set_option maxHeartbeats 16000000
namespace Go.Proofs.YtijchbjkdllolaaGreatDoor
open Go.Proofs.Tryz
open Go.RowKit
def A24:=@Nat.mul_pos
def A7p:=@Nat.gcd_comm
def A67:=@Int.neg_mul
def A9i:=@Int.neg_neg
def A75:=@Int.mul_neg
def A8v:=@Int.lt_or_gt_of_ne
def A79:=@Int.mul_ediv_add_emod
def A19:=@Array.mk.injEq
def Az6:=@Int.natAbs_natCast
def A2g:=@Rat.divInt_eq_div
def A4p:=@Rat.intCast_neg
def A4w:=@Rat.div_def
def A6b:=@Rat.divInt_ofNat
def A0v:=@Rat.intCast_mul
def A5q:=@Rat.num_divInt_den
def A15:=@Int.natAbs_mul
def A9x:=@Int.mul_ne_zero
def A40:=@List.flatMap_cons
def A4d:=@List.mem_flatMap
def Azi:=@List.getElem?_append_left
def Azy:=@List.getElem?_append_right
def A1t:=@List.length_nil
def A8q:=@Array.toList_append
def A52:=@Nat.le_of_succ_le
def A00:=@List.nil_append
def A09:=@List.toList_toArray
def A5v:=@List.drop_drop
def A65:=@List.drop_left
def A3h:=@List.length_drop
def A3w:=@List.drop_eq_nil_of_le
def A22:=@Nat.zero_mul
def A4z:=@List.take_append_of_le_length
def A1o:=@List.length_set
def A43:=@Nat.sub_zero
def A2a:=@Int.tdiv_eq_ediv_of_nonneg
def A6s:=@Int.ediv_nonneg
def A7q:=@Int.ediv_le_self
def A2o:=@Int.tmod_eq_emod_of_nonneg
def A8w:=@Int.le_of_lt
section
variable {N base g k n:Nat}{e:TypeId}{w w':World}{xs:List Value}
def Ul (w:World)(m n:Nat)(e:Ending)(w':World):Prop:=∃ u v,e=.returned (.tuple #[u,v])/\Cu w' u m/\Cu w' v n/\Ext w w'
def Ahp {m n:Nat}(h:n<=m):0<=sgn ((m:Int)-n):=by
 rcases Az8 n m with f|f
 ·rw[C7 oV];omega
 rw[show (m:Int)-n=0 by omega,Ro];omega
set_option maxRecDepth 100000 in
def Acl (j t:Value)(m n:Nat)(w:World)(f:Cu w j m)(u:Cu w t n)(E:nl m<=10000000000000)(sb:nl n<=10000000000000)(D:m<n) :
 Calls prog 225 #[j,t] w (Ul w 0 m):=by
 have A:=Lib.hid f;have h:=Gw j t m n w f u E sb;rw[Ej oV]at h;have C:=Lib.hid h;clear f u h
 go_enter func225,ntmps225
 go_wp2_with fail
 refine C.out.mono ?_;rintro e w' ⟨rfl,q,rfl⟩
 go_wp2_with fail
 go_ret2
 exact⟨_,_,rfl,Cu.zero _ _ _,A.out.ext ((Ext.refl w).drewN q),(Ext.refl w).drewN q⟩
def Et {d:Nat}(h0:d≠0)(h:d<1000000000):Aa d = [d]:=by
 rw[Dq h0,show d/1000000000=0 by omega,Bd,show d%1000000000=d by omega]
def Aj5 (f:World)(r:Nat):Row (f.alloc (Obj.cells #[Value.int IntKind.u64 (r:Int)] 254)) (some ⟨f.heap.size,0,none⟩) (Be [r]):=by
 intro j h;obtain rfl:j=0:=by simpa[Be] using h
 exact⟨_,_,rfl,by simp[Be]⟩
set_option maxRecDepth 100000 in
def Abs (D Q:Value)(m n:Nat)(w:World)(F:Cu w D m)(T:Cu w Q n)(X:nl m<=10000000000000)(A:0<n)(U:n<1000000000)(J:n<=m) :
 Calls prog 225 #[D,Q] w (Ul w (m/n) (m%n)):=by
 have K:=Et oV U;have Y:=Lib.hid F;have H:=Gw D Q m n w F T X (by unfold nl;rw[K];simp);obtain⟨s,O⟩:∃ s,s=sgn ((m:Int)-n):=⟨_,rfl⟩;have a1:0<=s:=by rw[O];exact Ahp J
 rw[<-O]at H;have R:=Lib.hid H;obtain⟨b,cb,rfl,_,f⟩:=T;rw[K]at f R⊢;obtain⟨bb,ob,rfl,I⟩:=f.at (j:=0) mV;simp only[List.getD_cons_zero,A1r]at I;have a0:decide (s<0)=false:=gV
 clear F H f O K
 go_enter func225,ntmps225
 go_wp2_with fail
 refine R.out.mono ?_;rintro e w' ⟨rfl,q,rfl⟩
 go_wp2_with fail
 have t:=Rf D m n _ (Y.out.ext ((Ext.refl w).drewN q)) X A U;obtain⟨r,C⟩:∃ r,r=m%n:=⟨_,rfl⟩;rw[<-C]at t;have L:r<1000000000:=by rw[C];have:=A0z m A;omega
 have Z:=Lib.hid C;clear C;refine t.mono ?_;rintro e E ⟨v,rfl,V,W⟩;have HV:=Lib.hid V;have HX:=Lib.hid W;clear V W t
 go_wp2_with fail
 have f:Row (E.alloc (Obj.cells #[Value.int IntKind.u64 (r:Int)] 254)) (some ⟨E.heap.size,0,none⟩) (Be [r]):=Aj5 E r;refine (Gr _ _ _ [r] _ rfl mV mV f).mono ?_;rintro e w' ⟨rfl,rfl⟩;have h:=Dt (cap:=1) (Low.cons L Low.nil) f (n:=r) (by simp[val]) mV;have u:=Lib.hid h;clear h f
 go_wp2_with fail
 go_ret2
 have P:=(((Ext.refl w).drewN q).trans HX.out).alloc (Obj.cells #[Value.int IntKind.u64 (r:Int)] 254);exact⟨_,_,rfl,HV.out.ext ((Ext.refl E).alloc _),by rw[<-Z.out];exact u.out,P⟩
def Abe (n:Nat):Array Value:=(Be (List.replicate n 0)).toArray
def Vw (W:World)(N:Int)(n:Nat)(m:N=n)(u:n<=30000000000000) :
 (Instr.makeSlice 114 (.int .i64 N) (.int .i64 N)).run prog W=.ok (.slice (some ⟨W.heap.size,0,none⟩) n n) (W.alloc (.cells (Abe n) 254)):=by
 subst m;obtain⟨t,hi,f,h,j⟩:=info_parts Tryz.info254;have:=run_make (P:=prog) W 114 254 t (.int .u64 0) Tryz.underlying114 hi f .i64 .i64 n n oV oV (by rw[j];omega) oV;rw[this,A0y,h];have e:madeCells (Value.int .u64 0).cells (n*1)=Abe n:=by
  apply A2u;rw[L5];rfl
 rw[e]
def Xi (W:World)(base n:Nat)(f:base<=W.heap.size)(h:n<=30000000000000) :
 (W.alloc (.cells (Abe n) 254)).ownsRow base 254 1 (.slice (some ⟨W.heap.size,0,none⟩) n n) n (Be (List.replicate n 0)):=by
 have:=World.ownsRow_lit (e:=254) (size:=1) (base:=base) W (Abe n) n f (by unfold maxLen;omega) (by simp[Abe]);exact this
def Aa7 (w:World)(B N V:Nat)(u v:Value)(wx:World):Prop :=
 ∃ g av nv cv,u=.slice (some ⟨g,0,none⟩) N N/\v=.slice av nv cv/\nv=nl V/\wx.ownsRow B 254 1 (.slice (some ⟨g,0,none⟩) N N) N (Be (List.replicate N 0)) /\
  Gb wx g av (Be (Aa V))/\Ext w wx/\w.heap.size<=g
def Ext.grownBy (h:Ext w w')(r:Option Nat):w.grownBy w' r:=⟨h.os,h.tape,h.output,h.size,fun k f _=>Below.block h k f⟩
def V0 {size g n cap k:Nat}(h:w.ownsRow base e size (.slice (some ⟨g,0,none⟩) n cap) k xs)(x:Ext w w') :
 w'.ownsRow base e size (.slice (some ⟨g,0,none⟩) n cap) k xs:=h.kept (x.grownBy none) (Or.inr (by simp[Value.ownBlock]))
def Awe {f h:World}{N V u cap:Nat}(C:N<=30000000000000)(m:Cu h (.slice (some ⟨(f.alloc (.cells (Abe N) 254)).drew.heap.size,0,none⟩) u cap) V)
 (t:Ext (f.alloc (.cells (Abe N) 254)).drew h) :
 Aa7 f f.heap.size N V (.slice (some ⟨f.heap.size,0,none⟩) N N) (.slice (some ⟨f.heap.size+1,0,none⟩) u cap) h:=by
 have F:(f.alloc (.cells (Abe N) 254)).drew.heap.size=f.heap.size+1:=mV
 rw[F]at m;obtain⟨H,I,j,_,E⟩:=m;simp only[Value.slice.injEq]at j;obtain⟨rfl,A,rfl⟩:=j;refine⟨f.heap.size,_,_,_,rfl,rfl,A,V0 (World.ownsRow.drew (Xi f _ N (Ay2 _) C)) t,⟨E,?_⟩,(((Ext.refl f).alloc _).drew).trans t,Ay2 _⟩;intro b off D;simp only[Ayz,Addr.mk.injEq,and_true]at D;omega
def Av0 {f h:World}{N V C cap:Nat}(H:N<=30000000000000)(Q:0<V)(A:Cu h (.slice (some ⟨f.drew.heap.size,0,none⟩) C cap) V)(L:Ext f.drew h) :
 Aa7 f f.heap.size N V (.slice (some ⟨h.heap.size,0,none⟩) N N) (.slice (some ⟨f.heap.size,0,none⟩) C cap) (h.alloc (.cells (Abe N) 254)):=by
 have K:f.drew.heap.size=f.heap.size:=rfl;rw[K]at A;obtain⟨O,P,t,_,u⟩:=A;simp only[Value.slice.injEq]at t;obtain⟨rfl,D,rfl⟩:=t;have J:f.heap.size<h.heap.size:=by
  obtain⟨b,off,E,F⟩:=u.at (j:=0) (by
   have:Aa V≠[]:=fun e=>by have:=Gv.1 e;omega
   exact A29.2 this)
  simp only[Ayz,Addr.mk.injEq,and_true]at E;have:=block_lt_of_cell F;simp only at this;omega
 have m:Ext f h:=((Ext.refl f).drew).trans L;refine⟨h.heap.size,_,_,_,rfl,rfl,D,Xi h _ N m.size H,⟨u.ext ((Ext.refl h).alloc _),?_⟩,m.alloc _,m.size⟩;intro b off I;simp only[Ayz,Addr.mk.injEq,and_true]at I;omega
def P9 (h:w.ownsRow base e 1 (.slice (some ⟨g,0,none⟩) n n) n xs) :
 w.heap[g]?=some (.cells xs.toArray e (0,0))/\base<=g:=by
 rcases h.2 with ⟨j,_⟩|⟨D,m,t,j,u,A,_,_,C,f⟩
 ·simp at j
 simp only[Value.slice.injEq,Ayz,Addr.mk.injEq,and_true,true_and]at j;obtain⟨rfl,rfl⟩:=j;rw[Ay6 gV]at f;rw[<-f];exact⟨by simpa using A,u⟩
def Afs (h:w.heap[g]?=some (.cells xs.toArray e (0,0)))(f:base<=g)(m:xs.length=n)(j:n<=30000000000000) :
 w.ownsRow base e 1 (.slice (some ⟨g,0,none⟩) n n) n xs:=by
 refine⟨oV,Or.inr ⟨g,n,xs.toArray,rfl,f,h,Ay2 _,by unfold maxLen;omega,gV,?_⟩⟩;rw[Ay6 gV]
def Aag (w:World)(g:Nat)(cs:Array Value):w.grownBy (w.setRow g cs) (some g) :=
 ⟨rfl,rfl,rfl,mV,fun k _ f=>setRow_other w g k _ (fun e=>f (by simp[e]))⟩
def Avz {l:List Nat}(h:w.ownsRow base 254 1 (.slice (some ⟨g,0,none⟩) N N) N (Be (List.replicate N 0)))(t:l.length<=N)(m:N<=30000000000000) :
 (w.setRow g ((Be (List.replicate N 0)).toArray.toList.take 0++(Be l++(Be (List.replicate N 0)).toArray.toList.drop (0+(Be l).length))).toArray).ownsRow base 254 1 (.slice (some ⟨g,0,none⟩) N N) N
  (Be (l++List.replicate (N-l.length) 0)):=by
 obtain⟨f,j⟩:=P9 h;have e:(Be (List.replicate N 0)).toArray.toList.take 0++(Be l++(Be (List.replicate N 0)).toArray.toList.drop (0+(Be l).length))=Be (l++List.replicate (N-l.length) 0):=by
  simp[Be]
 rw[e];exact Afs (setRow_heap w g _ _ _ _ f) j gV m
def Qx {w:World}{C:Array Oper}{rest:List Oper}{o:Oper}{a:Act}{Q:Exit->Act->World->Prop}(E:o.guard=none)(d s:Operand)
 (T:o.op=.call { callee:=.builtin .copy,args:=#[d,s],argTypes:=#[114,114] })
 (base g N f u:Nat) (D:Addr) (l:List Nat) (P:a.eval d=.slice (some ⟨g,0,none⟩) N N) (U:a.eval s=.slice (some D) f u)
 (m:w.ownsRow base 254 1 (.slice (some ⟨g,0,none⟩) N N) N (Be (List.replicate N 0))) (R:l.length=f) (O:N<=30000000000000) (I:l.length<=N)
 (A:Row w (some D) (Be l))
 (h:∀ w',w'.ownsRow base 254 1 (.slice (some ⟨g,0,none⟩) N N) N (Be (l++List.replicate (N-l.length) 0))->w.grownBy w' (some g)->wpList prog C Q rest (a.put o.dst (goInt (Be l).length)) w') :
 wpList prog C Q (o::rest) a w:=by
 obtain⟨Y,hi,W,J,X⟩:=info_parts Tryz.info254;refine wpList_copy_own E d s _ _ T 254 Tryz.underlying114 (by rw[hi];simp[J]) g 0 N N D f u P U (Be (List.replicate N 0)).toArray 254 (P9 m).1 (Be l)
  (by rw[Tw,R];exact (A2b oV).symm) (fun j v F=>?_) gV (fun v V=>?_) (h _ (Avz m I O) (Aag _ _ _))
 ·have H:j<l.length:=by
   rcases Az8 j l.length with h|h
   ·exact h
   rw[Azo (by simpa using h)]at F;cases F
  obtain⟨b',t,K,L⟩:=A j (by simpa using H);simp only[Ayz]at K;subst K;have:(⟨b',t,none⟩:Addr).add j=⟨b',t+j,none⟩:=by
   unfold Addr.add;split
   ·rename_i h;subst h;rfl
   rfl
  rw[this,L,Ays,F];rfl
 obtain⟨x,_,rfl⟩:=Ayx.1 V;rfl
def Avs (w:World)(A V n M N g gq:Nat)(av:Option Addr)(i:Value)(wr:World):Prop :=
 ∃ (j:Nat) (u qs:List Nat),j<=M/\i=.int .i64 ((j:Int)-1)/\Nb A V n M j u qs /\
  wr.ownsRow w.heap.size 254 1 (.slice (some ⟨g,0,none⟩) N N) N (Be u)/\wr.ownsRow w.heap.size 254 1 (.slice (some ⟨gq,0,none⟩) M M) M (Be qs) /\
  Gb wr g av (Be (Aa V))/\Gb wr gq av (Be (Aa V))/\Ext w wr
def Gb.ext {w w':World}{g:Nat}{a:Option Addr}{cs:List Value}(h:Gb w g a cs)(x:Ext w w'):Gb w' g a cs:=⟨h.1.ext x,h.2⟩
def Gb.new {a:Option Addr}{cs:List Value}(h:Gb w g a cs)(u:0<cs.length)(x:Ext w w'):Gb w' w.heap.size a cs:=by
 refine⟨h.1.ext x,fun b off t=>?_⟩;obtain⟨b',j,f,m⟩:=h.1 0 u;have:=block_lt_of_cell m;rw[t]at f;simp only[Ayz,Addr.mk.injEq,and_true]at f;simp only at this;omega
def Ar5 (h:w.ownsRow base e 1 (.slice (some ⟨g,0,none⟩) n n) k xs):g<w.heap.size:=(h.lt g rfl).2
def Vd {base e g j n k:Nat}(h:w.ownsRow base e 1 (.slice (some ⟨g,0,none⟩) n n) k xs)(m:w.grownBy w' (some j))(f:g≠j) :
 w'.ownsRow base e 1 (.slice (some ⟨g,0,none⟩) n n) k xs:=h.kept m (Or.inr (by simp[Value.ownBlock,f]))
set_option maxRecDepth 100000 in
def Ac9 (va vb:Value)(m n k:Nat)(w:World)(ha:Cu w va m)(hb:Cu w vb n)(sa:nl m<=5000000000000)(hn:nl n=k+2)(b3:n<=m) :
 Calls prog 225 #[va,vb] w (Ul w (m/n) (m%n)):=by
 obtain⟨i0,hi,bu,bw,bx⟩:=info_parts Tryz.info254;have HI:=Lib.hid hi;have ce:=Lib.hid bu;have cg:=Lib.hid bw;have ch:=Lib.hid bx;clear hi bu bw bx;have cm:k+2<=nl m:=by rw[<-hn];exact Cs b3
 have hc:=Gw va vb m n w ha hb oV oV;obtain⟨s,hs⟩:∃ s,s=sgn ((m:Int)-n):=⟨_,rfl⟩;have d2:0<=s:=by rw[hs];exact Ahp b3
 rw[<-hs]at hc;have HC:=Lib.hid hc;have V:Hid (0<n):=by
  rcases Azx n with h0|h0
  ·rw[h0,Uy]at hn;omega
  exact h0
 have HA:=Lib.hid ha;have HB:=Lib.hid hb;have h:=Arp.make hn;obtain⟨a,ca,rfl,_,ag⟩:=ha;obtain⟨b,cb,rfl,_,a4⟩:=hb;have a1:(Aa n).length=k+2:=hn;have O:(Aa m).length=nl m:=rfl;obtain⟨bb,ob,rfl,cj⟩:=a4.at (j:=k+1) oV;obtain⟨b1,ac⟩:∃ b1,b1=(Aa n).getD (k+1) 0:=⟨_,rfl⟩;have cp:b1<1000000000:=by rw[ac];exact (An n).getD _
 rw[<-ac]at cj h;rw[a1]at HC HB⊢;rw[O]at HC HA⊢;obtain⟨f,hf⟩:∃ f,f=1000000000/(b1+1):=⟨_,rfl⟩;rw[<-hf]at h;obtain⟨L,hL⟩:∃ L,L=nl m:=⟨_,rfl⟩;rw[<-hL]at HC HA sa cm⊢;have cy:(1000000000:Int)/((b1:Int)+1)=(f:Int):=by rw[hf];simp
 have cx:=h.pos;have C:=h.low;have E:=Lib.hid h;have HL:=Lib.hid hL;have HF:=Lib.hid hf;have ct:decide (s<0)=false:=gV;have cw:(((k:Int)+2)==1)=false:=gV;clear hc a4 ag hs a1 O h ac hL hf hn
 go_enter func225,ntmps225
 go_wp2_with fail
 refine HC.out.mono ?_;rintro e w' ⟨rfl,q,rfl⟩
 go_upto_region 7 with fail
 have x2:Ext w ((w.drewN q).alloc (Obj.cells #[Value.int IntKind.u64 (f:Int)] 254)):=((Ext.refl w).drewN q).alloc _;have az:Cu ((w.drewN q).alloc (Obj.cells #[Value.int IntKind.u64 (f:Int)] 254)) (.slice (some ⟨w.heap.size,0,none⟩) 1 1) f:=by
  refine⟨_,1,by rw[Et oV C];rfl,by rw[Et oV C];simp,?_⟩;rw[Et oV C];exact Aj5 (w.drewN q) f
 have ad:((w.drewN q).alloc (Obj.cells #[Value.int IntKind.u64 (f:Int)] 254)).cell? ⟨w.heap.size,0,none⟩=some (.int .u64 (f:Int)):=World.cell?_alloc_new (w:=w.drewN q) _ _ _;generalize (w.drewN q).alloc (Obj.cells #[Value.int IntKind.u64 (f:Int)] 254)=W2 at *
 have X2:=Lib.hid x2;have ai:=Lib.hid az;have c1:=Lib.hid ad;clear x2 az ad HC
 go_cut [9,10] (Aa7 W2 W2.heap.size (L+1) (n*f))
 case first =>
  have d1:=fun W:World=>Vw W ((L:Int)+1) (L+1) oV oV;have a2:=fun (W:World) (x:Ext W2 W)=>Tb _ _ n f W (HB.out.ext (X2.out.trans x)) (ai.out.ext x) (by rw[E.out.len];omega) (by unfold nl;rw[Et oV C];simp);have HM:=Lib.hid a2;clear a2;have d3:IntKind.i64.wrap ((L:Int)+1)=(L:Int)+1:=IntWalk.i64_in _ oV
  go_region_with (first|(go_at_call 184;refine (HM.out _ ?_).mono ?_;(first|exact (Ext.refl _).drew|exact ((Ext.refl _).alloc _).drew|exact ((Ext.refl _).drew).alloc _);rintro e w3 ⟨kk,cap,rfl,hv,J⟩))
  all_goals (try go_wp2_with fail)
  all_goals go_meet
  ·exact Awe oV hv J
  exact Av0 oV (A24 V.out oV) hv J
 case rest =>
  obtain⟨g,av,nv,cv,rfl,rfl,b7,a3,bq,J,hg⟩:=hcut;rw[E.out.vlen]at b7;subst b7;have HO:=Lib.hid a3;have HV:=Lib.hid bq;have HX:=Lib.hid J;clear a3 bq J
  go_wp2_with fail
  refine (Tb _ _ m f _ (HA.out.ext (X2.out.trans HX.out)) (ai.out.ext HX.out) (by rw[<-HL.out];omega) (by unfold nl;rw[Et oV C];simp)).mono ?_;rintro e w3 ⟨kk,cap,rfl,hv,J⟩;obtain⟨au,cu,e1,_,bh⟩:=hv;simp only[Value.slice.injEq]at e1;obtain⟨rfl,e2,rfl⟩:=e1;have b5:(Aa (m*f)).length<=L+1:=by
   have h1:=In m f;have h2:nl f<=1:=by unfold nl;rw[Et oV C];simp
   rw[<-HL.out]at h1;unfold nl at h1 h2;omega
  have b8:=V0 HO.out J;have ak:=Lib.hid b8;have a9:=Lib.hid J;have c2:=Lib.hid b5;have c0:=Lib.hid e2;have Y:=Lib.hid bh;clear b8 J b5 e2 bh;obtain⟨M,hM⟩:∃ M,M=L+1-(k+2):=⟨_,rfl⟩;have ax:L+1=M+(k+2):=oV;have aj:=Lib.hid hM;have t:=Lib.hid ax;have cq:M<=L:=oV;clear hM ax
  go_wp2_with (first
   |(with_reducible refine Qx rfl (.tmp 49) (.tmp 52) rfl W2.heap.size g (L+1) kk _ ⟨wc.heap.size,0,none⟩ (Aa (m*f)) rfl rfl ak.out c0.out.symm oV c2.out Y.out ?_;intro w4 b9 b0;have a7:=Lib.hid b9;have a5:=Lib.hid b0;clear b9 b0;have X4:=Lib.hid ((HX.out.trans a9.out).grown a5.out (fun k' F=>by cases F;exact hg));have a8:=Lib.hid ((HV.out.ext a9.out).grown a5.out))
   |(at_make;refine wpList_make_full _ rfl _ _ 114 rfl W2.heap.size 254 i0 (.int .u64 0) 1 Tryz.underlying114 HI.out ce.out cg.out .i64 .i64 _ _ M rfl rfl (by have:=aj.out;omega) (by have:=aj.out;omega) (by rw[ch.out];omega) (by unfold maxLen;omega) X4.out.size ?_;intro w5 af b2;rw[L5]at af;have al:=Lib.hid af;have X5:Hid (Ext w4 w5):=(Ext.refl w4).grown b2 (fun k' F=>by cases F);clear af b2))
  have b4:g≠w4.heap.size:=by have:=Ar5 a7.out;omega
  have U:0<(Be (Aa (n*f))).length:=by rw[Tw];have:=E.out.vlen;unfold nl at this;omega
  have aq:=Lib.hid (a8.out.ext X5.out);have am:=Lib.hid (a8.out.new U X5.out);have ap:=Lib.hid (V0 a7.out X5.out);have aw:=Lib.hid (X4.out.trans X5.out);generalize w4.heap.size=gq at *
  clear HO HV ak a9 Y a8 a7 a5 X4 X5 U
  go_loopw [12] (Avs W2 (m*f) (n*f) (k+2) M (L+1) g gq av) (fun i _=>(intOf i+1).toNat)
  case atStart =>
   have bm:=ap.out;rw[show L+1-(Aa (m*f)).length=M+(k+2)-nl (m*f) by unfold nl;have:=t.out;omega]at bm;exact⟨M,_,_,Ay2 _,rfl,Nb.start E.out (by rw[<-HL.out];exact t.out),bm,al.out,aq.out,am.out,aw.out⟩
  case round =>
   obtain⟨j,u,qs,hj,rfl,bk,bd,ba,br,bp,J⟩:=hrel;have I:=Lib.hid bk;have HU:=Lib.hid bd;have HQ:=Lib.hid ba;have Z:=Lib.hid br;have ar:=Lib.hid bp;have ab:=Lib.hid J;clear bk bd ba br bp J aq am ap aw al;rcases j with _|j
   ·have A:=I.out.done (A24 V.out oV);rw[(Adk (m:=m) (n:=n) (show 0<f by omega)).1,(Adk (m:=m) (n:=n) (show 0<f by omega)).2]at A;have T:u.length=L+1:=by rw[I.out.ulen];exact t.out.symm
    have R:=Row.of_owns HU.out;have Q:=Row.of_owns HQ.out;have ad:=ab.out.cell c1.out;have bn:val (u.take (k+2))=(m%n)*f:=by
     rw[<-A.2];have:=Hu (u:=u) (j:=0) (k:=k+2) (fun i hi=>I.out.zero i hi);simpa using this
    have cc:=Lib.hid bn;have bz:=Lib.hid A;have Y:=Lib.hid R;have ao:=Lib.hid Q;have c9:=Lib.hid T;clear A T R Q bn;have ah:Row wr (some ⟨g,0,none⟩) (Be (u.take (k+2))):=by rw[<-Zb];exact Y.out.take _
    have P:(u.take (k+2)).length=k+2:=by rw[Ay1,c9.out];have:=t.out;omega
    obtain⟨X,hX⟩:∃ X,X=Value.slice (some ⟨g,0,none⟩) (Bv (u.take (k+2)) (u.take (k+2)).length) (L+1):=⟨_,rfl⟩;have ay:Cu wr X ((m%n)*f):=by
     rw[hX];exact Dt (I.out.ulow.take _) ah cc.out (by rw[P];have:=t.out;omega)
    have bl:∀ W,Ext wr W->Calls prog 188 #[.slice (some ⟨g,0,none⟩) (k+2) (L+1)] W fun e w'=>e=.returned X/\W=w':=fun W x=>by
     rw[hX];exact Gr _ _ _ _ W P oV (by have:=t.out;omega) (ah.ext x)
    have b6:nl ((m%n)*f)<=10000000000000:=by
     have h1:=In (m%n) f;have h2:nl f<=1:=by unfold nl;rw[Et oV C];simp
     have h3:nl (m%n)<=nl m:=Cs (Nat.mod_le _ _);rw[<-HL.out]at h3;omega
    have bj:∀ W,Ext wr W->Calls prog 259 #[X,.int .u64 f] W (P8 W (m%n) 0):=fun W x=>by
     have:=Rf X ((m%n)*f) f W (ay.ext x) b6 oV C;rw[Nat.mul_div_cancel _ oV,Nat.mul_mod_left]at this;exact this
    have c7:=Lib.hid bl;have c5:=Lib.hid bj;clear bl bj hX ah P ay b6;have ci:M<=9223372036854775807:=oV;have co:HQ=HQ:=rfl;clear co
    go_wp2_with fail
    go_region_with (first
     |(go_at_call 188;refine (c7.out _ ?_).mono ?_;(exact (Ext.refl _).drew);rintro e w7 ⟨rfl,rfl⟩)
     |(go_at_call 259;refine (c5.out _ ?_).mono ?_;(exact (Ext.refl _).drew);rintro e w7 ⟨v7,rfl,bo,bt⟩))
    all_goals
     have cd:=Lib.hid bo;have aa:Hid (Ext wr w7):=((Ext.refl wr).drew).trans bt;clear bo bt
     go_wp2_with fail
     refine (Gr _ _ _ qs _ I.out.qlen ci (Ay2 _) (ao.out.ext aa.out)).mono ?_;rintro e w8 ⟨rfl,rfl⟩
     go_wp2_with fail
     go_ret2
     have cn:=Dt (cap:=M) I.out.qlow (ao.out.ext aa.out) (n:=m/n) bz.out.1 (by rw[I.out.qlen];exact Ay2 _);exact⟨_,_,rfl,cn,cd.out,(X2.out.trans ab.out).trans aa.out⟩
   rw[show ((j+1:Nat):Int)-1=j by omega];have T:u.length=L+1:=by rw[I.out.ulen];exact t.out.symm
   have K:=I.out.before (show j<M by omega);have bg:val ((u.drop j).take (k+2+1))/(n*f)<1000000000:=by
    rw[A05 (A24 V.out oV)];exact K
   have H:=Akq W2.heap.size g (L+1) j k (L+1-j) av cv u (Aa (n*f)) wr HU.out Z.out T I.out.ulow (An _) E.out.vlen (by have:=t.out;omega) oV (by have:=t.out;omega) E.out.vtop (by rw[Al];exact K);rw[Al]at H;obtain⟨qd,bf⟩:∃ qd,qd=val ((u.drop j).take (k+2+1))/(n*f):=⟨_,rfl⟩;have an:=Lib.hid bf;have c6:=Lib.hid H;have cl:=t.out;have d0:j+(k+2)+1<=L+1:=oV;have ck:j<M:=oV;have cs:L+1≠j:=oV;clear bf H K T cl
   go_wp2_with fail
   rw[show j+(k+2)+1-j=k+3 by omega];refine c6.out.mono ?_;rintro e w6 ⟨o,rfl,bi,be,ae⟩;rw[<-an.out];have a0:=Vd HQ.out ae b4.symm;have cr:=Gu a0 (j:=j) (by rw[I.out.qlen];omega);have cz:=a0.frozenAt j;have c3:=Lib.hid a0;have c8:=Lib.hid be;have a6:=Lib.hid ae;have c4:=Lib.hid bi;clear a0 be ae bi
   go_wp2_with fail
   have D:=Mm j qd c3.out (U4 w6 (some gq));refine⟨⟨j,o,qs.set j qd,oV,rfl,?_,Vd c8.out D.2 b4,D.1,?_,?_,?_⟩,by simp only[intOf];omega⟩
   ·rw[an.out];exact I.out.step ck (A24 V.out oV) (by have:=Cy (n*f);rw[E.out.vlen]at this;exact this) c4.out bg
   ·refine⟨?_,Z.out.2⟩;exact (Gb.grown ⟨(Z.out.grown a6.out).1,ar.out.2⟩ D.2).1
   ·exact Gb.grown ⟨(Z.out.grown a6.out).1,ar.out.2⟩ D.2
   have x6:=ab.out.grown a6.out (fun k' F=>by cases F;exact hg);exact x6.grown D.2 (fun k' F=>by cases F;exact (P9 HQ.out).2)
def Yc (f j:Value)(m n:Nat)(w:World)(t:Cu w f m)(u:Cu w j n)(F:nl m<=5000000000000)(sb:nl n<=5000000000000)(E:0<n) :
 Calls prog 225 #[f,j] w (Ul w (m/n) (m%n)):=by
 rcases Az8 m n with h|h
 ·rw[A2l h,A3u h];exact Acl f j m n w t u oV oV h
 rcases Az8 n 1000000000 with A|A
 ·exact Abs f j m n w t u oV E A h
 have H:2<=nl n:=by
  rcases Az8 (nl n) 2 with C|C
  ·have I:=Cy n;have D:1000000000^nl n<=1000000000^1:=Azr oV oV;rw[Nat.pow_one]at D;omega
  exact C
 exact Ac9 f j m n (nl n-2) w t u F oV h
end
section
variable {n:Nat}
def Alo (h:nl n<=2):n=(Aa n).getD 1 0*1000000000+(Aa n).getD 0 0:=by
 have e:=Abn (Aa n) 0;rw[Ay6 (show (Aa n).length<=0+2 from h),Al]at e;simp only[A14,val,A7n,A1k,A0h]at e;omega
set_option maxRecDepth 100000 in
def Ab0 (A:Value)(n:Nat)(w:World)(I:Cu w A n)(h:nl n<=2) :
 Calls prog 258 #[A] w fun e w'=>e=.returned (.int .u64 (n:Int))/\w=w':=by
 have f:=Alo h;obtain⟨a,c,rfl,_,m⟩:=I;have g:=Xe a c (Aa n) 1 w (by unfold nl at h;omega) oV m;have j:=Xe a c (Aa n) 0 w (by unfold nl at h;omega) oV m;rw[show (1:Int).toNat=1 by rfl]at g;rw[show (0:Int).toNat=0 by rfl]at j;have H:=(An n).getD 1;have F:=(An n).getD 0;obtain⟨x,t⟩:∃ x,x=(Aa n).getD 1 0:=⟨_,rfl⟩;obtain⟨y,u⟩:∃ y,y=(Aa n).getD 0 0:=⟨_,rfl⟩;rw[<-t]at g H f;rw[<-u]at j F f;have D:=Lib.hid g;have E:=Lib.hid j;have C:=Lib.hid f;clear g j f t u m
 go_enter func258,ntmps258
 go_wp2_with fail
 refine D.out.mono ?_;rintro e w' ⟨rfl,rfl⟩
 go_wp2_with fail
 refine E.out.mono ?_;rintro e w' ⟨rfl,rfl⟩
 go_wp2_with fail
 go_ret
 exact⟨Arn (by have:=C.out;omega),rfl⟩
def Zc (h:nl n<=2):n<1000000000000000000:=by
 have f:=Cy n;have e:1000000000^nl n<=1000000000^2:=Azr oV h;rw[show (1000000000:Nat)^2=1000000000000000000 by rfl]at e;omega
def Xo (m n:Nat):Nat.gcd n (m%n)=Nat.gcd m n:=by rw[A7p m n,Nat.gcd_rec n m,A7p]
end
section
variable {b:Bool}{g n:Nat}{s:Value}{t:TypeId}{w:World}
def Rn (w:World)(v:Value)(z:Int):Prop:=∃ a n c,v=.agg #[.bool (decide (z<0)),.slice a n c]/\Cu w (.slice a n c) z.natAbs
def Rn.ext {w w':World}{v:Value}{z:Int}(h:Rn w v z)(x:Ext w w'):Rn w' v z:=by
 obtain⟨a,n,c,e,f⟩:=h;exact⟨a,n,c,e,f.ext x⟩
def Abk (w:World)(z:Int)(e:Ending)(w':World):Prop:=∃ v,e=.returned v/\Rn w' v z/\Ext w w'
def B6 (neg:Bool)(n:Nat):Int:=if neg then -(n:Int) else n
def Kc (neg:Bool)(n:Nat):(B6 neg n).natAbs=n:=by unfold B6;split<;>omega
def Xr (neg:Bool)(n:Nat):decide (B6 neg n<0)=(neg&&decide (0<n)):=by
 unfold B6;cases neg<;>simp<;>omega
def Si (z:Int):B6 (decide (z<0)) z.natAbs=z:=by
 unfold B6;by_cases h:z<0<;>simp[h]<;>omega
def Abd {b neg:Bool}(f:b=(neg&&decide (0<n)))(e:Cu w s n):Rn w (.agg #[.bool b,s]) (B6 neg n):=by
 obtain⟨a,c,rfl,h⟩:=id e;exact⟨a,_,c,by rw[Xr,f],by rw[Kc];exact e⟩
def Arc {z:Int}(f:b=decide (z<0))(e:Cu w s z.natAbs):Rn w (.agg #[.bool b,s]) z:=by
 obtain⟨a,c,rfl,h⟩:=id e;exact⟨a,_,c,by rw[f],e⟩
def Cz :0<(Aa n).length↔0<n:=by
 constructor
 ·intro h;rcases Azx n with h0|h0
  ·rw[h0,Bd]at h;simp at h
  exact h0
 intro h;exact A29.2 (fun e=>by have:=Gv.1 e;omega)
def Pi (w:World)(a:Addr)(v:Value):w.grownBy (w.setCell a v) (some a.block) :=
 ⟨rfl,rfl,rfl,by simp[World.setCell],fun k _ f=>Below.heap_setCell _ _ _ _ (fun e=>f (by rw[e]))⟩
def Ank (w:World)(g:Nat):Prop:=∃ (cs:Array Value) (t:TypeId) (fr:Nat×Nat),w.heap[g]?=some (.cells cs t fr)/\∀ (j:Nat) (k:IntKind) (z:Int),cs[j]?≠some (Value.int k z)
def Cu.grown {w w':World}(h:Cu w s n)(I:Ank w g)(J:w.grownBy w' (some g)):Cu w' s n:=by
 obtain⟨a,c,E,F,H⟩:=h;refine⟨a,c,E,F,fun j C=>?_⟩;obtain⟨b,off,D,f⟩:=H j C;refine⟨b,off,D,J.cell f ?_⟩;simp only[ne_eq,Ayz];intro e;obtain⟨cs,t,fr,A,u⟩:=I;rw[<-e]at A;rw[cell_of_row _ _ _ _ _ _ A]at f;have m:j<(Aa n).length:=by simpa using C
 refine u _ .u64 ((Aa n).getD j 0:Nat) (f.trans ?_);simp[Be,m]
def Aom {j m e f:Value}(h:w.heap[g]?=some (.cells #[j,m] t (0,0))) :
 ((w.setCell ⟨g,0,none⟩ e).setCell ⟨g,1,none⟩ f).heap[g]?=some (.cells #[e,f] t (0,0)):=by
 rw[heap_setCell_same _ _ _ _ _ _ (heap_setCell_same _ _ _ _ _ _ h)];rfl
def Auz (w:World)(g:Nat)(e f:Value):w.grownBy ((w.setCell ⟨g,0,none⟩ e).setCell ⟨g,1,none⟩ f) (some g) :=
 Tn (Pi _ _ _) (Pi _ _ _)
def Ax7 {a w:World}(h:Ext a w)(e:a.heap.size<=g)(f j:Value):Ext a ((w.setCell ⟨g,0,none⟩ f).setCell ⟨g,1,none⟩ j) :=
 (h.setCell (p:=⟨g,0,none⟩) e f).setCell (p:=⟨g,1,none⟩) e j
def Ase {a:Option Addr}{n c:Nat}(h:w.heap[g]?=some (.cells #[.bool b,.slice a n c] t (0,0))):Ank w g:=by
 refine⟨_,_,_,h,fun j k z e=>?_⟩
 match j with
 |0=>simp at e
 |1=>simp at e
 |j+2=>simp at e
def Tryz.size116:(prog.info? 116).map (·.size)=some 2:=kV
def Aak {fn:Func}{p:Tmp}{R:Ending->World->Prop}{a:Act}{w:World}{g:Nat}{e f:Value}(h:fn.results = #[.cell p 116])
 (hp:a.tmps.getD p undef=.pointer (some ⟨g,0,none⟩)) (u:w.heap[g]?=some (.cells #[e,f] 116 (0,0))) (m:a.defers = []) (j:R (.returned (.agg #[e,f])) w) :
 bodyPost prog fn R .ret a w :=
 ⟨m,_,results_cell_row h a.tmps w g _ _ _ _ hp u Tryz.underlying116 rfl Tryz.size116,j⟩
set_option maxRecDepth 100000 in
def Ag9 (neg:Bool)(s:Value)(n:Nat)(w:World)(h:Cu w s n)(j:nl n<=100000000000000) :
 Calls prog 176 #[.bool neg,s] w (Abk w (B6 neg n)):=by
 have H:=Lib.hid h;obtain⟨a,c,rfl,_,_⟩:=h;have m:(Aa n).length<=100000000000000:=j;by_cases hp:0<(Aa n).length
 ·have f:decide (0<((Aa n).length:Int))=true:=gV;have e:=Cz.1 hp;cases neg
  ·go_enter func176,ntmps176
   go_wp2_with fail
   refine bodyPost_ret (v:=.agg #[.bool false,.slice a (Aa n).length c]) (by simp[results,Tryz.results176,go_sem]) rfl ⟨_,rfl,Abd rfl (H.out.ext ((Ext.refl w).alloc _)),(Ext.refl w).alloc _⟩
  go_enter func176,ntmps176
  go_wp2_with fail
  refine bodyPost_ret (v:=.agg #[.bool true,.slice a (Aa n).length c]) (by simp[results,Tryz.results176,go_sem]) rfl ⟨_,rfl,Abd (by simp[e]) (H.out.ext ((Ext.refl w).alloc _)),(Ext.refl w).alloc _⟩
 have f:decide (0<((Aa n).length:Int))=false:=by simp only[decide_eq_false_iff_not];omega
 have e:¬ 0<n:=fun h=>hp (Cz.2 h);cases neg
 ·go_enter func176,ntmps176
  go_wp2_with fail
  refine bodyPost_ret (v:=.agg #[.bool false,.slice a (Aa n).length c]) (by simp[results,Tryz.results176,go_sem]) rfl ⟨_,rfl,Abd rfl (H.out.ext ((Ext.refl w).alloc _)),(Ext.refl w).alloc _⟩
 go_enter func176,ntmps176
 go_wp2_with fail
 refine bodyPost_ret (v:=.agg #[.bool false,.slice a (Aa n).length c]) (by simp[results,Tryz.results176,go_sem]) rfl ⟨_,rfl,Abd (by simp[e]) (H.out.ext ((Ext.refl w).alloc _)),(Ext.refl w).alloc _⟩
end
section
variable {g:Nat}{t:TypeId}{w:World}{y z:Int}
def As6 {x y:Value}(h:w.heap[g]?=some (.cells #[x,y] t (0,0))):w.cell? ⟨g,0,none⟩=some x:=by rw[cell_of_row _ _ _ _ _ _ h];rfl
def Arm {x y:Value}(h:w.heap[g]?=some (.cells #[x,y] t (0,0))):w.cell? ⟨g,1,none⟩=some y:=by rw[cell_of_row _ _ _ _ _ _ h];rfl
def Ada (y z:Int):B6 (!(decide (y<0)==decide (z<0))) (y.natAbs*z.natAbs)=y*z:=by
 unfold B6;have e:((y.natAbs*z.natAbs:Nat):Int)=(y.natAbs:Int)*z.natAbs:=A27 _ _;rw[e];by_cases f:y<0<;>by_cases h:z<0<;>simp[f,h]
 ·rw[show (y.natAbs:Int) = -y by omega,show (z.natAbs:Int) = -z by omega,Int.neg_mul_neg]
 ·rw[show (y.natAbs:Int) = -y by omega,show (z.natAbs:Int)=z by omega,A67,A9i]
 ·rw[show (y.natAbs:Int)=y by omega,show (z.natAbs:Int) = -z by omega,A75,A9i]
 rw[show (y.natAbs:Int)=y by omega,show (z.natAbs:Int)=z by omega]
def Ad5 (e:decide (y<0)=decide (z<0)):B6 (decide (y<0)) (y.natAbs+z.natAbs)=y+z:=by
 unfold B6;by_cases f:y<0<;>by_cases h:z<0<;>simp[f,h]at e⊢<;>omega
def Z3 (e:decide (y<0)≠decide (z<0))(h:z.natAbs<=y.natAbs):B6 (decide (y<0)) (y.natAbs-z.natAbs)=y+z:=by
 unfold B6;by_cases f:y<0<;>by_cases j:z<0<;>simp[f,j]at e⊢<;>omega
def Yz (e:decide (y<0)≠decide (z<0))(h:y.natAbs<z.natAbs):B6 (decide (z<0)) (z.natAbs-y.natAbs)=y+z:=by
 unfold B6;by_cases f:y<0<;>by_cases j:z<0<;>simp[f,j]at e⊢<;>omega
end
section
variable {y z:Int}
def Aab {y z q r:Int}(h:y=z*q+r)(h0:0<=r)(m:r<z.natAbs):y/z=q/\y%z=r:=by
 have g:z≠0:=by intro e;subst e;simp at m;omega
 have f:y%z=r:=by
  rw[h,Int.add_comm,Int.add_mul_emod_self_left];rcases A8v g with n|n
  ·rw[<-Int.emod_neg];exact Int.emod_eq_of_lt h0 oV
  exact Int.emod_eq_of_lt h0 oV
 refine⟨?_,f⟩;have:=A79 y z;rw[f,h]at this;have j:z*((z*q+r)/z)=z*q:=oV;rw[h];exact A7j g j
def X9 (f:¬ y<0)(m:z≠0):B6 (!(decide (y<0)==decide (z<0))) (y.natAbs/z.natAbs)=y/z/\B6 false (y.natAbs%z.natAbs)=y%z:=by
 have g:=A1j y.natAbs z.natAbs;have j:=A0z y.natAbs (show 0<z.natAbs by omega);generalize y.natAbs/z.natAbs=q at *
 generalize y.natAbs%z.natAbs=r at *
 have e:(z.natAbs:Int)*q+r=y.natAbs:=by rw[<-g];simp
 have:=Aab (y:=y) (z:=z) (q:=B6 (!(decide (y<0)==decide (z<0))) q) (r:=(r:Int)) (by
  unfold B6;by_cases h:z<0
  ·rw[show (!(decide (y<0)==decide (z<0)))=true by simp[f,h],if_pos rfl,A75];rw[show (z.natAbs:Int) = -z by omega,A67]at e;omega
  rw[show (!(decide (y<0)==decide (z<0)))=false by simp[f,h],if_neg mV];rw[show (z.natAbs:Int)=z by omega]at e;omega) oV oV
 exact⟨this.1.symm,by rw[this.2];rfl⟩
def Yb (g:y<0)(m:z≠0)(j:y.natAbs%z.natAbs=0):B6 (!(decide (y<0)==decide (z<0))) (y.natAbs/z.natAbs)=y/z/\B6 false (y.natAbs%z.natAbs)=y%z:=by
 have f:=A1j y.natAbs z.natAbs;rw[j]at f⊢;generalize y.natAbs/z.natAbs=q at *
 have e:(z.natAbs:Int)*q=y.natAbs:=by rw[<-f];simp
 have:=Aab (y:=y) (z:=z) (q:=B6 (!(decide (y<0)==decide (z<0))) q) (r:=0) (by
  unfold B6;by_cases h:z<0
  ·rw[show (!(decide (y<0)==decide (z<0)))=false by simp[g,h],if_neg mV];rw[show (z.natAbs:Int) = -z by omega,A67]at e;omega
  rw[show (!(decide (y<0)==decide (z<0)))=true by simp[g,h],if_pos rfl,A75];rw[show (z.natAbs:Int)=z by omega]at e;omega) oV oV
 exact⟨this.1.symm,by rw[this.2];rfl⟩
def Aa2 (f:y<0)(n:z≠0)(m:0<y.natAbs%z.natAbs):B6 (!(decide (y<0)==decide (z<0))) (y.natAbs/z.natAbs+1)=y/z/\B6 false (z.natAbs-y.natAbs%z.natAbs)=y%z:=by
 have g:=A1j y.natAbs z.natAbs;have j:=A0z y.natAbs (show 0<z.natAbs by omega);generalize y.natAbs/z.natAbs=q at *
 generalize y.natAbs%z.natAbs=r at *
 have e:(z.natAbs:Int)*q+r=y.natAbs:=by rw[<-g];simp
 have:=Aab (y:=y) (z:=z) (q:=B6 (!(decide (y<0)==decide (z<0))) (q+1)) (r:=((z.natAbs-r:Nat):Int)) (by
  unfold B6;by_cases h:z<0
  ·rw[show (!(decide (y<0)==decide (z<0)))=false by simp[f,h],if_neg mV];rw[show (z.natAbs:Int) = -z by omega,A67]at e;rw[Int.natCast_add,A9h];omega
  rw[show (!(decide (y<0)==decide (z<0)))=true by simp[f,h],if_pos rfl];rw[show (z.natAbs:Int)=z by omega]at e;rw[A75,Int.natCast_add,A9h];omega) oV oV
 exact⟨this.1.symm,by rw[this.2];rfl⟩
end
section
variable {n:Int}
def Af0 (h:n<0)(f:-9223372036854775808<=n):IntKind.u64.wrap (-(IntKind.u64.wrap n))=((n.natAbs:Nat):Int):=by
 have e:∀ n:Int,IntKind.u64.wrap n=n%18446744073709551616:=fun n=>by simp[IntKind.wrap,IntKind.signed,IntKind.bits]
 rw[e,e];omega
def Ahd (h:0<=n)(f:n<=9223372036854775807):IntKind.u64.wrap n=((n.natAbs:Nat):Int):=by
 have e:∀ n:Int,IntKind.u64.wrap n=n%18446744073709551616:=fun n=>by simp[IntKind.wrap,IntKind.signed,IntKind.bits]
 rw[e];omega
end
def X6 (w:World)(v:Value)(q:Rat):Prop :=
 ∃ a n c a' n' c',v=.agg #[.bool (decide (q.num<0)),.slice a n c,.bool false,.slice a' n' c']/\Cu w (.slice a n c) q.num.natAbs/\Cu w (.slice a' n' c') q.den
def X6.num {w:World}{b b':Bool}{a f:Option Addr}{n m c g:Nat}{q:Rat}(h:X6 w (.agg #[.bool b,.slice a n c,.bool b',.slice f m g]) q):Rn w (.agg #[.bool b,.slice a n c]) q.num:=by
 obtain⟨_,_,_,_,_,_,e,j,t⟩:=h;simp only[Value.agg.injEq,A19,A0f,Value.bool.injEq,Value.slice.injEq,and_true]at e;obtain⟨rfl,⟨rfl,rfl,rfl⟩,rfl,rfl,rfl,rfl⟩:=e;exact⟨_,_,_,rfl,j⟩
def X6.den {w:World}{b b':Bool}{a e:Option Addr}{n j c f:Nat}{q:Rat}(h:X6 w (.agg #[.bool b,.slice a n c,.bool b',.slice e j f]) q):Rn w (.agg #[.bool b',.slice e j f]) q.den:=by
 obtain⟨_,_,_,_,_,_,g,t,m⟩:=h;simp only[Value.agg.injEq,A19,A0f,Value.bool.injEq,Value.slice.injEq,and_true]at g;obtain⟨rfl,⟨rfl,rfl,rfl⟩,rfl,rfl,rfl,rfl⟩:=g;refine⟨_,_,_,?_,by rw[Az6];exact m⟩;rw[show decide (((q.den:Nat):Int)<0)=false by simp only[decide_eq_false_iff_not];omega]
def Sf:nl 1<=1:=by unfold nl;rw[Et oV oV];simp
def Tf {d:Nat}:(sgn ((d:Int)-1)==0)=decide (d=1):=by
 rcases A2s ((d:Int)-1) 0 with h|h|h
 ·rw[Ej h,decide_eq_false oV];rfl
 ·rw[h,Ro,decide_eq_true oV];rfl
 rw[C7 h,decide_eq_false oV];rfl
set_option maxRecDepth 100000 in
def Ae2 (v:Value)(q:Rat)(w:World)(f:X6 w v q) :
 Calls prog 200 #[v] w (Abk w q.num):=by
 have e:=Lib.hid f;obtain⟨a,n,c,g,j,h,rfl,_,_⟩:=f;obtain⟨p,hp⟩:∃ p,p=decide (q.num<0):=⟨_,rfl⟩;rw[<-hp]at e⊢;clear hp
 go_enter func200,ntmps200
 go_wp2_with fail
 refine Aak rfl rfl (heap_alloc2_new _ _ _) rfl ⟨_,rfl,e.out.num.ext (((Ext.refl w).alloc _).alloc _),((Ext.refl w).alloc _).alloc _⟩
set_option maxRecDepth 100000 in
def Acr (v:Value)(q:Rat)(w:World)(f:X6 w v q) :
 Calls prog 199 #[v] w (Abk w q.den):=by
 have e:=Lib.hid f;obtain⟨a,n,c,g,j,h,rfl,_,_⟩:=f;obtain⟨p,hp⟩:∃ p,p=decide (q.num<0):=⟨_,rfl⟩;rw[<-hp]at e⊢;clear hp
 go_enter func199,ntmps199
 go_wp2_with fail
 refine Aak rfl rfl (heap_alloc2_new _ _ _) rfl ⟨_,rfl,e.out.den.ext (((Ext.refl w).alloc _).alloc _),((Ext.refl w).alloc _).alloc _⟩
section
variable {y z:Int}
def N2 (y z:Int):Rat.divInt (-y) (-z)=Rat.divInt y z:=by
 rw[A2g,A2g,A4p,A4p];by_cases h:(z:Rat)=0
 ·rw[h];simp[A4w]
 have:-(z:Rat)≠0:=by grind
 grind
def Wd (g:0<z)(f:Nat.gcd y.natAbs z.natAbs=1):(Rat.divInt y z).num=y/\(Rat.divInt y z).den=z.natAbs:=by
 have e:(z:Int)=((z.natAbs:Nat):Int):=oV
 rw[e,A6b,Rat.mkRat_def,dif_neg oV,Rat.normalize_eq];simp only[Az6,f];simp
def Vt {G:Nat}(g:0<z)(f:G=Nat.gcd y.natAbs z.natAbs):(Rat.divInt y z).num=y/G/\(Rat.divInt y z).den=z.natAbs/G:=by
 have e:(z:Int)=((z.natAbs:Nat):Int):=oV
 rw[e,A6b,Rat.mkRat_def,dif_neg oV,Rat.normalize_eq];subst f;constructor<;>simp
end
def Sz (q:Rat)(k:Nat):Prop:=nl q.num.natAbs<=k/\nl q.den<=k
def Al1 {q r:Rat}(e:q.den=1)(f:r.den=1):((q.num*r.num:Int):Rat)=q*r:=by
 rw[Rat.mul_def',e,f,A1k,Rat.mkRat_one]
def Aax (q r:Rat):Rat.divInt (q.num*r.num) ((q.den:Int)*(r.den:Int))=q*r:=by
 rw[Rat.mul_def',<-A6b,A27]
def Bch (q r:Rat):Rat.divInt (q.num*(r.den:Int)) ((q.den:Int)*r.num)=q/r:=by
 rw[A2g,A0v,A0v];have f:q=(q.num:Rat)/((q.den:Int):Rat):=by rw[<-A2g,A5q]
 have e:r=(r.num:Rat)/((r.den:Int):Rat):=by rw[<-A2g,A5q]
 have g:((q.den:Int):Rat)≠0:=by have:=q.den_nz;simp;exact this
 have j:((r.den:Int):Rat)≠0:=by have:=r.den_nz;simp;exact this
 by_cases h:(r.num:Rat)=0
 ·have:r=0:=by rw[e,h];simp[A4w]
  rw[h,this];simp[A4w]
 generalize (q.num:Rat)=a at *
 generalize (r.num:Rat)=b at *
 generalize ((q.den:Int):Rat)=c at *
 generalize ((r.den:Int):Rat)=d at *
 rw[f,e];grind
def B5 {y z:Int}{k:Nat}(e:nl y.natAbs<=k)(f:nl z.natAbs<=k):nl (y*z).natAbs<=2*k:=by
 rw[A15];have:=In y.natAbs z.natAbs;omega
def Ale {q r:Rat}(e:q.den=1)(f:r.den=1):((q.num+r.num:Int):Rat)=q+r:=by
 rw[Rat.add_def',e,f,A1k,Rat.mkRat_one];simp
def Rt (q r:Rat):Rat.divInt (q.num*(r.den:Int)+r.num*(q.den:Int)) ((q.den:Int)*(r.den:Int))=q+r:=by
 rw[Rat.add_def',<-A6b,A27]
def Rh {y z:Int}{k:Nat}(e:nl y.natAbs<=k)(f:nl z.natAbs<=k):nl (y+z).natAbs<=k+1:=by
 have:=Am9 y.natAbs z.natAbs;have g:nl (y+z).natAbs<=nl (y.natAbs+z.natAbs):=Cs oV;omega
def U3 (q r:Rat):(q.den:Int)*(r.den:Int)≠0:=by
 have e:=q.den_nz;have f:=r.den_nz;exact A9x oV oV
section
variable {b n off:Nat}{env:Operand->Value}{o:Op}{q:Rat}{v x:Value}{w:World}
instance:A5 prog:=⟨kV,kV⟩
def Wt (u:PH)(b off:Nat)(x:Value):Prop:=∃ cs t fr,u b=some (.cells cs t fr)/\cs[off]?=some x
def Wt.mono {u u':PH}(h:Wt u b off x)(hl:PH.le u u'):Wt u' b off x:=by
 obtain⟨cs,t,fr,h1,h2⟩:=h;exact⟨cs,t,fr,hl _ _ h1,h2⟩
def Wt.cell {u:PH}{w:World}{b off:Nat}{x:Value}(h:Wt u b off x)(hp:E5 u w):w.cell? ⟨b,off,none⟩=some x:=by
 obtain⟨cs,t,fr,h1,h2⟩:=h;simp[World.cell?,hp _ _ h1,h2]
def ElP (u:PH)(b off:Nat)(e:Value):Prop:=∀ (i:Nat) (x:Value),e.cells[i]?=some x->Wt u b (off+i) x
def ElP.mono {u u':PH}{b off:Nat}{e:Value}(h:ElP u b off e)(hl:PH.le u u'):ElP u' b off e:=fun i x hi=>(h i x hi).mono hl
def W4 (k:Option Nat)(e:Value):Bool :=
 match k with
 |some n=>match e with
  |.agg cs=>Nat.beq n cs.size
  |_=>false
 |none=>match e with|.agg _=>false|_=>true
def Ag1 (u:PH)(a:Option Addr)(cs:List Value):Prop:=∀ j,j<cs.length->∃ b off,a=some ⟨b,off,none⟩/\Wt u b (off+j) (cs.getD j (.bool false))
def C6 (u:PH)(v:Value)(n:Nat):Prop:=∃ a cap,v=.slice a (Aa n).length cap/\(Aa n).length<=cap/\Ag1 u a (Be (Aa n))
def Bq (u:PH)(v:Value)(z:Int):Prop:=∃ a n c,v=.agg #[.bool (decide (z<0)),.slice a n c]/\C6 u (.slice a n c) z.natAbs
def Ax (u:PH)(v:Value)(q:Rat):Prop :=
 ∃ a n c a' n' c',v=.agg #[.bool (decide (q.num<0)),.slice a n c,.bool false,.slice a' n' c']/\C6 u (.slice a n c) q.num.natAbs/\C6 u (.slice a' n' c') q.den
def C6.mono {u u':PH}{v:Value}{n:Nat}(h:C6 u v n)(hl:PH.le u u'):C6 u' v n:=by
 obtain⟨a,cap,h1,h2,h3⟩:=h;exact⟨a,cap,h1,h2,fun j hj=>by obtain⟨b,off,e1,e2⟩:=h3 j hj;exact⟨b,off,e1,e2.mono hl⟩⟩
def Bq.mono {u u':PH}{v:Value}{z:Int}(h:Bq u v z)(hl:PH.le u u'):Bq u' v z:=by
 obtain⟨a,n,c,h1,h2⟩:=h;exact⟨a,n,c,h1,h2.mono hl⟩
def Ax.mono {u u':PH}{v:Value}{q:Rat}(h:Ax u v q)(hl:PH.le u u'):Ax u' v q:=by
 obtain⟨a,n,c,a',n',c',h1,h2,h3⟩:=h;exact⟨a,n,c,a',n',c',h1,h2.mono hl,h3.mono hl⟩
def C6.toW {u:PH}(h:C6 u v n)(hp:E5 u w):Cu w v n:=by
 obtain⟨a,cap,g,t,A⟩:=h;exact⟨a,cap,g,t,fun j C=>by obtain⟨b,off,e,f⟩:=A j C;exact⟨b,off,e,f.cell hp⟩⟩
def Bq.toW {u:PH}{w:World}{v:Value}{z:Int}(h:Bq u v z)(hp:E5 u w):Rn w v z:=by
 obtain⟨a,n,c,e,f⟩:=h;exact⟨a,n,c,e,f.toW hp⟩
def Ax.toW {u:PH}{w:World}{v:Value}{q:Rat}(h:Ax u v q)(hp:E5 u w):X6 w v q:=by
 obtain⟨a,n,c,e,A,f,g,j,t⟩:=h;exact⟨a,n,c,e,A,f,g,j.toW hp,t.toW hp⟩
def C6.ofW {u:PH}(h:Cu w v n)(F:Ad7 u w):C6 u v n:=by
 obtain⟨a,cap,C,D,E⟩:=h;refine⟨a,cap,C,D,fun j g=>?_⟩;obtain⟨b,off,A,e⟩:=E j g;refine⟨b,off,A,?_⟩;have f:j<(Aa n).length:=by simpa using g
 have H:(Be (Aa n)).getD j (.bool false)=.int .u64 ((Aa n).getD j 0:Nat):=by simp[Be,f]
 rw[H]at e⊢;unfold World.cell? at e;simp only at e;split at e
 ·rename_i cs t fr hb;simp at e;exact⟨cs,t,fr,F b cs t fr _ _ hb e,e⟩
 cases e
def Bq.ofW {u:PH}{w:World}{v:Value}{z:Int}(h:Rn w v z)(g:Ad7 u w):Bq u v z:=by
 obtain⟨a,n,c,e,f⟩:=h;exact⟨a,n,c,e,C6.ofW f g⟩
def Bq.opn {u:PH}{z:Int}(h:Bq u v z):∃ b a n c,v=.agg #[.bool b,.slice a n c]:=by
 obtain⟨a,n,c,rfl,_⟩:=h;exact⟨_,a,n,c,rfl⟩
def Ax.opn {u:PH}(h:Ax u v q):∃ b a n c b' e g f,v=.agg #[.bool b,.slice a n c,.bool b',.slice e g f]:=by
 obtain⟨a,n,c,e,g,f,rfl,_⟩:=h;exact⟨_,a,n,c,_,e,g,f,rfl⟩
def Ax.num {u:PH}{b b':Bool}{a f:Option Addr}{n t c g:Nat}(h:Ax u (.agg #[.bool b,.slice a n c,.bool b',.slice f t g]) q):Bq u (.agg #[.bool b,.slice a n c]) q.num:=by
 obtain⟨_,_,_,_,_,_,e,j,A⟩:=h;simp only[Value.agg.injEq,A19,A0f,Value.bool.injEq,Value.slice.injEq,and_true]at e;obtain⟨rfl,⟨rfl,rfl,rfl⟩,rfl,rfl,rfl,rfl⟩:=e;exact⟨_,_,_,rfl,j⟩
def Ax.den {u:PH}{b b':Bool}{a e:Option Addr}{n j c f:Nat}{q:Rat}(h:Ax u (.agg #[.bool b,.slice a n c,.bool b',.slice e j f]) q):Bq u (.agg #[.bool b',.slice e j f]) q.den:=by
 obtain⟨_,_,_,_,_,_,g,A,t⟩:=h;simp only[Value.agg.injEq,A19,A0f,Value.bool.injEq,Value.slice.injEq,and_true]at g;obtain⟨rfl,⟨rfl,rfl,rfl⟩,rfl,rfl,rfl,rfl⟩:=g;refine⟨_,_,_,?_,by rw[Az6];exact t⟩;rw[show decide (((q.den:Nat):Int)<0)=false by simp only[decide_eq_false_iff_not];omega]
def Fn0.ofW {P:Program}{f:FuncId}{args:List Value}{u:PH}{R:Value->PH->Prop}(Q:Value->World->Prop)(h:∀ w,E5 u w->Calls P f args.toArray w fun e w'=>∃ v,e=.returned v/\Q v w'/\Ext w w')
 (O:∀ v w' F,Q v w'->E5 F w'->Ad7 F w'->PH.le u F->R v F):Fn0 P f args u R:=by
 intro w D;refine Calls.mono (h w D.pu) fun e w' L=>?_;obtain⟨v,I,J,E⟩:=L;have H:w.heap.size<=w'.heap.size:=E.size;have C:∀ g,g<w.heap.size->w'.heap[g]?=w.heap[g]?:=fun g D=>Below.block E g D;have g1:E5 (fun g=>if g<w.heap.size then u g else w'.heap[g]?) w':=by
  intro g o A;simp only at A;split at A
  ·rename_i hlt;rw[C g hlt];exact D.pu g o A
  exact A
 have g2:Ad7 (fun g=>if g<w.heap.size then u g else w'.heap[g]?) w':=by
  intro g cs t fr j z A N;simp only;split
  ·rename_i hlt;rw[C g hlt]at A;exact D.cl g cs t fr j z A N
  exact A
 have K:PH.le u (fun g=>if g<w.heap.size then u g else w'.heap[g]?):=fun g o A=>by simp only;rw[if_pos (D.pu.lt A)];exact A
 refine⟨v,_,PH.mt,I,⟨g1,E5.mt _,fun _=>.inr rfl,g2⟩,⟨H,fun g D _=>C g D,fun g D=>by simp only;rw[if_pos D],fun _ _ h=>h,⟨E.os,E.output⟩,fun f=>f.elim⟩,rfl,O v w' _ J g1 g2 K⟩
section rules
variable [Cc] [Cm] {P:Program} [A5 P] {fn:Func} {Post:By} {st:List KI×S} {u m:PH}
def S8 {k:Option (Option Nat)}(h:Bg P env o=.load k x):∃ t X,o=.load t X/\env X=x/\Ws P t=k:=by
 cases o<;>simp only[Bg]at h<;>try cases h
 any_goals ((repeat' split at h)<;>cases h;done)
 exact⟨_,_,rfl,rfl,rfl⟩
def Yp {sz:Option Nat}{x i:Value}(h:Bg P env o=.addr sz x i):∃ t X I,o=.indexAddr t X I/\env X=x/\env I=i/\Od P t=sz:=by
 cases o<;>simp only[Bg]at h<;>try cases h
 any_goals ((repeat' split at h)<;>cases h;done)
 exact⟨_,_,_,rfl,rfl,rfl,rfl⟩
def Akd {e:UnOp}(h:Bg P env o=.un e x):∃ t X,o=.unOp e t X/\env X=x:=by
 cases o<;>simp only[Bg]at h<;>try cases h
 any_goals ((repeat' split at h)<;>cases h;done)
 exact⟨_,_,rfl,rfl⟩
def Jg {t:TypeId}{k:Option Nat}{e:Value}(f:Ws P t=some k)(g:W4 k e=true)(h:ElP u b off e)(hp:E5 u w):(loadVar t ⟨b,off,none⟩).run P w=.ok e w:=by
 unfold Ws at f;unfold loadVar;split at f
 ·rename_i ha;split at f
  ·rename_i n hn;simp at f;subst f;unfold W4 at g;simp only at g;split at g
   ·rename_i cs;have D:=Azp g;have:=run_loadCells_list (P:=P) w ⟨b,off,none⟩ cs.toList (fun j v C=>by rw[D5];exact (h j v (by simpa[Value.cells] using C)).cell hp);simp only[Sem.run_bind,Ei ha,Result.andThen_ok,if_true,Bj hn,D];simp at this;rw[this];simp
   cases g
  cases f
 ·rename_i ha;simp at f;subst f;unfold W4 at g;have A:e.cells = #[e]:=by cases e<;>simp_all [Value.cells]
  have:=(h 0 e (by simp[A])).cell hp;simp[Ei ha];simp at this;simp[this]
 cases f
def G.loadU (A:Option Nat)(b off:Nat)(e:Value)(h:Aj P (adv P st)=.load (some A) (.pointer (some ⟨b,off,none⟩)))(I:W4 A e=true)(H:ElP u b off e)(k:G P fn Post (nx (adv P st) e) u m):G P fn Post st u m:=by
 refine G.ask h mV (fun env o f w hp=>?_) k;obtain⟨t,X,j,E,F⟩:=S8 f;obtain⟨D,J,C,pos,after,g⟩:=o;simp only at j;subst j;simp[execOp,Instr.loadAt,Instr.sureAddr,E,Jg F I H (hp rfl).1]
def G.loadM (A:Option Nat)(b off:Nat)(e:Value)(h:Aj P (adv P st)=.load (some A) (.pointer (some ⟨b,off,none⟩)))(I:W4 A e=true)(H:ElP m b off e)(k:G P fn Post (nx (adv P st) e) u m):G P fn Post st u m:=by
 refine G.ask h mV (fun env o f w hp=>?_) k;obtain⟨t,X,j,E,F⟩:=S8 f;obtain⟨D,J,C,pos,after,g⟩:=o;simp only at j;subst j;simp[execOp,Instr.loadAt,Instr.sureAddr,E,Jg F I H (hp rfl).2]
def G.addr (b off n c j sz:Nat)(h:Aj P (adv P st)=.addr (some sz) (.slice (some ⟨b,off,none⟩) n c) (.int .i64 j))(L:j<n)
 (k:G P fn Post (nx (adv P st) (.pointer (some ⟨b,off+j*sz,none⟩))) u m):G P fn Post st u m:=by
 refine G.ask h mV (fun env o g w hp=>?_) k;obtain⟨t,X,I,C,F,H,f⟩:=Yp g;obtain⟨E,K,D,pos,after,A⟩:=o;simp only at C;subst C;unfold Od at f;split at f
 ·rename_i e hu;have J:(0:Int)<=j/\(j:Int)<n:=oV;simp[execOp,Instr.indexAt,asIntOf,F,H,run_underlying hu,J,Bj f,D5];omega
 cases f
def G.neg (x z:Int)(h:Aj P (adv P st)=.un .neg (.int .i64 x))(H:-x=z)(D:-9223372036854775808<=z)(E:z<=9223372036854775807)
 (k:G P fn Post (nx (adv P st) (.int .i64 z)) u m):G P fn Post st u m:=by
 refine G.ask h mV (fun env o e w hp=>?_) k;obtain⟨t,X,g,C⟩:=Akd e;obtain⟨A,F,j,pos,after,f⟩:=o;simp only at g;subst g;have:(0:Int)-x=z:=oV
 simp[execOp,Op.unary,C,Op.intArith,this,E9 D E]
end rules
end
section
variable [Cc] [Cm]
variable {P:Program} [A5 P] {fn:Func} {Post:By} {st:List KI×S} {u m:PH}
def G.a (b off n c j sz:Nat)(hj:j<n)(k:G P fn Post (nx (adv P st) (.pointer (some ⟨b,off+j*sz,none⟩))) u m)(h:Aj P (adv P st)=.addr (some sz) (.slice (some ⟨b,off,none⟩) n c) (.int .i64 (j:Int)):=by kernel_rfl):G P fn Post st u m:=G.addr b off n c j sz h hj k
def G.lU (kd:Option Nat)(b off:Nat)(e:Value)(he:ElP u b off e)(k:G P fn Post (nx (adv P st) e) u m)(h:Aj P (adv P st)=.load (some kd) (.pointer (some ⟨b,off,none⟩)):=by kernel_rfl)(hs:W4 kd e=true:=by kernel_rfl):G P fn Post st u m:=G.loadU kd b off e h hs he k
def G.lM (kd:Option Nat)(b off:Nat)(e:Value)(he:ElP m b off e)(k:G P fn Post (nx (adv P st) e) u m)(h:Aj P (adv P st)=.load (some kd) (.pointer (some ⟨b,off,none⟩)):=by kernel_rfl)(hs:W4 kd e=true:=by kernel_rfl):G P fn Post st u m:=G.loadM kd b off e h hs he k
end
section
variable {cs z:Array Value}{env:Operand->Value}{es xs:List Value}{g sz:Nat}{o:Oper}{t:TypeId}{v:Value}
variable [Cc] [Cm]
def PH.upd (m:PH)(g:Nat)(o:Obj):PH:=fun h=>if h=g then some o else m h
def Ab (m:PH)(g:Nat)(o:Obj):m.upd g o g=some o:=by simp[PH.upd]
def Ad (m:PH){g h:Nat}(o:Obj)(e:h≠g):m.upd g o h=m h:=by simp[PH.upd,e]
def Cw (m:PH)(g:Nat)(o o':Obj):(m.upd g o).upd g o'=m.upd g o':=by
 funext h;by_cases e:h=g
 ·subst e;simp[PH.upd]
 simp[PH.upd,e]
def Kx {m:PH}(o:Obj)(h:m g=none):PH.le m (m.upd g o):=fun k x f=>by
 by_cases e:k=g
 ·subst e;rw[h]at f;cases f
 rw[Ad _ _ e];exact f
def A6 (es:List Value):List Value:=es.flatMap fun e=>e.cells.toList
def Yi (p:Value->Bool)(sz:Nat)(es:List Value):Prop:=∀ e∈es,e.cells.size=sz/\∀ x∈e.cells.toList,p x=true
abbrev Ba (sz:Nat)(es:List Value):Prop:=Yi Az sz es
def Bb {p:Value->Bool}{sz:Nat}:∀ {es:List Value},Yi p sz es->(A6 es).length=es.length*sz
 |[],_=>by simp[A6]
 |e::es,h=>by
  have j:=(h e mV).1;have f:=Bb (sz:=sz) (es:=es) (fun x n=>h x (Azq _ n));unfold A6 at f⊢;simp only[A40,Ay3,f,A0q,A1m,j,Azt,A1k];omega
def C8 (a b:List Value):A6 (a++b)=A6 a++A6 b:=by simp[A6]
def Fp (h:Ba sz es):∀ x∈A6 es,Az x=true:=by
 intro x hx;obtain⟨e,he,hx⟩:=A4d.1 hx;exact (h e he).2 x hx
def Ba.append {a b:List Value}(h:Ba sz a)(k:Ba sz b):Ba sz (a++b):=fun e f=>(Ay5.1 f).elim (h e) (k e)
def Ib {p:Value->Bool}{sz:Nat}:∀ {es:List Value},Yi p sz es->∀ {j i:Nat} {e x:Value},es[j]?=some e->e.cells[i]?=some x->(A6 es)[j*sz+i]?=some x
 |[],_,j,i,e,x,hj,_=>by simp at hj
 |d::es,h,j,i,e,x,hj,hi=>by
  have f:=(h d mV).1;have A:Yi p sz es:=fun x C=>h x (Azq _ C);have n:A6 (d::es)=d.cells.toList++A6 es:=by simp[A6]
  rw[n];cases j with
  |zero =>
   simp at hj;subst hj;have:i<d.cells.size:=(A2m.1 hi).1;rw[Azi gV];simpa using hi
  |succ j =>
   simp at hj;rw[Azy (by simp[f,Azt];omega)];have:=Ib A hj hi;rw[<-this];congr 1;simp[f,Azt];omega
def Af (m0 m:PH)(v:Value)(t:TypeId)(sz:Nat)(es:List Value):Prop :=
 Ba sz es/\((v=.slice none 0 0/\es = []/\m=m0) \/
  ∃ g cap rest,m0 g=none/\m=m0.upd g (.cells (A6 es++rest).toArray t (0,0))/\v=.slice (some ⟨g,0,none⟩) es.length cap/\es.length<=cap/\(A6 es++rest).length=cap*sz/\∀ x∈rest,Az x=true)
def Af.nil (m:PH)(t:TypeId)(sz:Nat):Af m m (.slice none 0 0) t sz []:=⟨fun _ h=>absurd h mV,.inl ⟨rfl,rfl,rfl⟩⟩
def Af.shape {m0 m:PH}(h:Af m0 m v t sz es):∃ a cap,v=.slice a es.length cap:=by
 rcases h.2 with ⟨rfl,rfl,_⟩|⟨g,cap,rest,_,_,rfl,_⟩
 ·exact⟨none,0,rfl⟩
 exact⟨_,cap,rfl⟩
def Dx {P:Program}{t e:TypeId}{sz f:Nat}{z:Value}(h:My P t=some (e,sz,f,z)):P.underlying t=some (.slice e)/\∃ i,P.info? e=some i/\i.zero=some z/\i.size=sz/\i.bytes=f:=by
 unfold My at h;split at h
 ·rename_i e' hu;split at h
  ·rename_i i hi;split at h
   ·rename_i z' hz;simp at h;obtain⟨rfl,rfl,rfl,rfl⟩:=h;exact⟨hu,i,hi,hz,rfl,rfl⟩
   cases h
  cases h
 cases h
def I3 (h:z.toList.all Az=true)(n:Nat):∀ x∈(Builtin.zeroCells z n).toList,Az x=true:=by
 intro x f;simp[Builtin.zeroCells]at f;obtain⟨i,hi,rfl⟩:=f;rw[Azg]at h;by_cases j:z.size=0
 ·simp[j]at hi
 have e:i%z.size<z.size:=A0z _ oV;refine h _ ?_;rw[getElem!_pos z _ e];simp
def Abo (h:z.toList.all Az=true)(n:Nat)(j:z.size≠0):∀ x∈(madeCells z n).toList,Az x=true:=by
 intro x f;simp[madeCells]at f;obtain⟨i,hi,rfl⟩:=f;rw[Azg]at h;have e:i%z.size<z.size:=A0z _ oV;refine h _ ?_;rw[getElem!_pos z _ e];simp
section worlds
variable {u m:PH} {w:World}
def Bo.newM (h:Bo u m w)(D:∀ x∈cs.toList,Az x=true):Bo u (m.upd w.heap.size (.cells cs t (0,0))) (w.alloc (.cells cs t))/\Br u m w u (m.upd w.heap.size (.cells cs t (0,0))) (w.alloc (.cells cs t))/\m w.heap.size=none/\u w.heap.size=none:=by
 have n:m w.heap.size=none:=h.pm.none (Ay2 _);have A:u w.heap.size=none:=h.pu.none (Ay2 _);have g1:=h.alloc (cs:=cs) (t:=t) (fr:=(0,0)) (fun j z e=>Kt (D _ (by obtain⟨E,C⟩:=A2m.1 e;rw[<-C];simp)) z rfl);refine⟨⟨g1.pu,fun g o f=>?_,fun g=>?_,g1.cl⟩,⟨by rw[Bz];omega,fun g f _=>Av _ _ f,fun _ _=>rfl,fun g f n=>by rw[Ad _ _ oV];exact n,⟨rfl,rfl⟩,fun _=>⟨rfl,Ay2 _⟩⟩,n,A⟩
 ·by_cases e:g=w.heap.size
  ·subst e;rw[Ab]at f;rw[Cf];exact f
  rw[Ad _ _ e]at f;exact g1.pm g o f
 by_cases e:g=w.heap.size
 ·subst e;exact .inl A
 rw[Ad _ _ e];exact h.ap g
def Bo.drew' (h:Bo u m w):Bo u m w.drew:=⟨h.pu,h.pm,h.ap,h.cl⟩
def Bo.less (h:Bo u m w){j:PH}(n:PH.le j m):Bo u j w:=by
 refine⟨h.pu,fun g o f=>h.pm g o (n g o f),fun g=>(h.ap g).imp id fun e=>?_,h.cl⟩;cases f:j g with
 |none=>rfl
 |some o=>rw[n g o f]at e;cases e
theorem Bo.setM (h : Bo u m w)  {cs cs' : Array Value}  (hg : m g = some (.cells cs t (0, 0))) (hw : ∀ x ∈ cs'.toList, Az x = true) : Bo u (m.upd g (.cells cs' t (0, 0))) (w.setRow g cs') ∧ Br u m w u (m.upd g (.cells cs' t (0, 0))) (w.setRow g cs') := by
  have hb := h.pm g _ hg
  have hug : u g = none := by rcases h.ap g with e | e
                              · exact e
                              · rw [hg] at e; cases e
  have hsame := setRow_heap w g cs cs' t (0, 0) hb
  have hother : ∀ k, k ≠ g → (w.setRow g cs').heap[k]? = w.heap[k]? := fun k hk => setRow_other w g k cs' hk
  refine ⟨⟨fun k o hk => ?_, fun k o hk => ?_, fun k => ?_, fun k cs1 t1 fr1 j z hk hj => ?_⟩, ⟨by rw [setRow_size]; exact Ay2 _, fun k hk hm => hother k (fun e => by rw [e, hg] at hm; cases hm), fun _ _ => rfl, fun k hk hm => by rw [Ad _ _ (fun e => by rw [e, hg] at hm; cases hm)]; exact hm, ⟨rfl, rfl⟩, fun _ => ⟨rfl, Ay2 _⟩⟩⟩
  · rw [hother k (fun e => by rw [e, hug] at hk; cases hk)]; exact h.pu k o hk
  · by_cases e : k = g
    · subst e; rw [Ab] at hk; rw [hsame]; exact hk
    · rw [Ad _ _ e] at hk; rw [hother k e]; exact h.pm k o hk
  · by_cases e : k = g
    · subst e; exact .inl hug
    · rw [Ad _ _ e]; exact h.ap k
  · by_cases e : k = g
    · subst e
      rw [hsame] at hk
      simp only [Ayz, Obj.cells.injEq] at hk
      obtain ⟨rfl, _, _⟩ := hk
      obtain ⟨hlt, he⟩ := A2m.1 hj
      exact absurd he (Kt (hw _ mV) z)
    · rw [hother k e] at hk; exact h.cl k cs1 t1 fr1 j z hk hj
def Bo.newU (h:Bo u m w)(o:Obj):Bo (u.upd w.heap.size o) m (w.alloc o)/\Br u m w (u.upd w.heap.size o) m (w.alloc o)/\m w.heap.size=none/\u w.heap.size=none:=by
 have n:m w.heap.size=none:=h.pm.none (Ay2 _);have D:u w.heap.size=none:=h.pu.none (Ay2 _);refine⟨⟨fun g o' f=>?_,fun g o' f=>?_,fun g=>?_,fun g cs t fr j z f C=>?_⟩,⟨by rw[Bz];omega,fun g f _=>Av _ _ f,fun g f=>Ad _ _ oV,fun g f n=>n,⟨rfl,rfl⟩,fun _=>⟨rfl,Ay2 _⟩⟩,n,D⟩
 ·by_cases e:g=w.heap.size
  ·subst e;rw[Ab]at f;rw[Cf];exact f
  rw[Ad _ _ e]at f;rw[Av _ _ (h.pu.lt f)];exact h.pu g o' f
 ·rw[Av _ _ (h.pm.lt f)];exact h.pm g o' f
 ·by_cases e:g=w.heap.size
  ·subst e;exact .inr n
  rw[Ad _ _ e];exact h.ap g
 by_cases e:g=w.heap.size
 ·subst e;rw[Cf]at f;rw[Ab];exact f
 rw[Ad _ _ e];have A:=A3 f;rw[Bz]at A;rw[Av _ _ oV]at f;exact h.cl g cs t fr j z f C
end worlds
def Fz (u:PH)(b off sz:Nat)(xs:List Value):Prop:=∀ j e,xs[j]?=some e->ElP u b (off+j*sz) e
def Fz.mono {u u':PH}{b off sz:Nat}{xs:List Value}(h:Fz u b off sz xs)(hl:PH.le u u'):Fz u' b off sz xs:=fun j e hj=>(h j e hj).mono hl
def U0 {sz:Nat}(E:0<sz):∀ {xs:List Value},Ba sz xs->∀ {k:Nat} {x:Value},(A6 xs)[k]?=some x->∃ j i e,k=j*sz+i/\xs[j]?=some e/\e.cells[i]?=some x
 |[],_,k,x,h=>by simp[A6]at h
 |d::xs,ho,k,x,h=>by
  have D:=(ho d mV).1;have f:A6 (d::xs)=d.cells.toList++A6 xs:=by simp[A6]
  rw[f,A36]at h;split at h
  ·exact⟨0,k,d,mV,mV,by simpa using h⟩
  rename_i hk;obtain⟨j,i,e,n,A,C⟩:=U0 E (fun x F=>ho x (Azq _ F)) h;refine⟨j+1,i,e,?_,by simpa using A,C⟩;simp[D]at n hk;rw[Azt];omega
def Fz.cells {u:PH}{w:World}{b off sz:Nat}(D:0<sz)(h:Fz u b off sz xs)(C:Ba sz xs)(hp:E5 u w):∀ j v,(A6 xs)[j]?=some v->w.cell? ((⟨b,off,none⟩:Addr).add j)=some v:=by
 intro k x A;obtain⟨j,i,e,rfl,f,n⟩:=U0 D C A;rw[D5];have:=(h j e f i x n).cell hp;rw[show off+(j*sz+i)=off+j*sz+i by omega];exact this
section rules
variable {P:Program} [A5 P] {fn:Func} {Post:By} {st:List KI×S} {u m:PH}
def B0 {w w':World}{K:Value->World->Prop}(h:(execOp env o).run P w=.ok (.value v) w')(e:K v w'):Eb P env o w K:=by
 unfold Eb;rw[h];exact e
def Ek {e:Option (TypeId×Nat×Nat×Value)}(h:Bg P env o.op=.app e true xs):M1 o.op=true/\Fe o.op=false/\∃ t,My P t=e/\∀ w,(execOp env o).run P w=((Builtin.append_ #[t,t] o.type xs.toArray).run P w).andThen fun v w'=>.ok (.value v) w':=by
 obtain⟨E,n,C,pos,after,f⟩:=o;simp only at h⊢;cases n<;>simp only[Bg]at h<;>try cases h
 ·split at h<;>cases h
 rename_i c;obtain⟨D,args,A⟩:=c;simp only at h;split at h
 ·split at h<;>cases h
 ·rename_i b;split at h
  ·split at h
   ·rename_i t t' htt;simp only[T9.app.injEq]at h;obtain⟨rfl,F,rfl⟩:=h;have:=Azp F;subst this;have j:A = #[t,t]:=by apply A2u;simpa using htt
    refine⟨rfl,rfl,t,rfl,fun w=>?_⟩;have:(args.map env)=(args.toList.map env).toArray:=by apply A2u;simp
    simp[execOp,resolve,invoke,builtin,j,this]
   cases h
  cases h
 cases h
def Ri {t e:TypeId}{sz bt:Nat}{z:Value}(m0:PH)(es xs:List Value)(v:Value)(b off n c:Nat)(ty:TypeId)(hi:My P t=some (e,sz,bt,z))(hz:z.cells.toList.all Az=true)(a3:z.cells.size=sz)(aa:0<sz)
 (W:Af m0 m v e sz es) (U:Ba sz xs) (H:xs.length=n) (a7:0<n) (hb:(es.length+n)*bt<=140737488355328) (a4:es.length+n<=9223372036854775807) {w:World} (J:Bo u m w)
 (I:∀ j v,(A6 xs)[j]?=some v->w.cell? ((⟨b,off,none⟩:Addr).add j)=some v) :
 ∃ v' w' m',(Builtin.append_ #[t,t] ty #[v,.slice (some ⟨b,off,none⟩) n c]).run P w=.ok v' w'/\Bo u m' w'/\Br u m w u m' w'/\Af m0 m' v' e sz (es++xs):=by
 obtain⟨hu,i,O,Y,rfl,rfl⟩:=Dx hi;have D:=Bb U;have R:=W.1.append U;rcases W.2 with ⟨rfl,rfl,rfl⟩|⟨g,cap,rest,L,rfl,rfl,a9,K,T⟩
 ·simp only[A1t,A0h]at hb a4;have V:=run_append_nil (P:=P) w t ty e i z hu O Y ⟨b,off,none⟩ n c (A6 xs) (by rw[D,H]) I a7 oV oV;have C:∀ x∈((A6 xs).toArray++Builtin.zeroCells z.cells (grownCap w n 0 e-n)).toList,Az x=true:=fun x A=>by
   simp only[A8q,Ay5]at A;rcases A with A|A
   ·exact Fp U x A
   exact I3 hz _ x A
  obtain⟨g1,g2,g3,_⟩:=J.drew'.newM (t:=e) C;refine⟨_,_,_,V,g1,⟨g2.sz,g2.old,g2.us,g2.ms,g2.io,fun f=>⟨(g2.dr f).tape,A52 (g2.dr f).dr⟩⟩,R,.inr ⟨w.heap.size,grownCap w n 0 e,(Builtin.zeroCells z.cells (grownCap w n 0 e-n)).toList,g3,?_,?_,?_,?_,I3 hz _⟩⟩
  ·congr 2;apply A2u;simp
  ·simp[H]
  ·simp only[A00,H];exact grownCap_ge w n 0 e
  have:=grownCap_ge w n 0 e;simp only[A00,Ay3,D,H,A1m,size_zeroCells,a3];rw[<-Azt];congr 1;omega
 have N:=J.pm g _ (Ab _ _ _);have F:=Bb W.1;by_cases E:es.length+n<=cap
 ·have a5:(es.length+n)*i.size<=cap*i.size:=Az7 _ E;rw[Azt]at a5;have V:=run_append_room (P:=P) w t ty e i hu O g es.length cap (A6 es++rest).toArray N ⟨b,off,none⟩ n c (A6 xs) (by rw[D,H]) I (fun x A=>F9 (Fp U x A)) E (by simp only[A5z];rw[K,D,H];omega);have e1:(A6 es++rest).toArray.toList.take (es.length*i.size)=A6 es:=by
   simp only[A09];rw[<-F,List.take_left]
  rw[e1]at V;have hd:∀ x∈(A6 es++rest).toArray.toList.drop (es.length*i.size+(A6 xs).length),Az x=true:=by
   intro x A;simp only[A09]at A;rw[<-F,<-A5v,A65]at A;exact T x (A1v A)
  have C:∀ x∈(A6 es++A6 xs++(A6 es++rest).toArray.toList.drop (es.length*i.size+(A6 xs).length)).toArray.toList,Az x=true:=by
   intro x A;simp only[A09]at A;rcases Ay5.1 A with A|A
   ·rcases Ay5.1 A with A|A
    ·exact Fp W.1 x A
    exact Fp U x A
   exact hd x (by simpa using A)
  obtain⟨g1,g2⟩:=J.setM (Ab _ _ _) C;rw[Cw]at g1 g2;refine⟨_,_,_,V,g1,g2,R,.inr ⟨g,cap,_,L,by rw[C8],by simp[H],by simp[H];exact E,?_,hd⟩⟩;rw[C8];simp only[Ay3,F,D,H,A09,A3h];simp only[Ay3,F]at K;omega
 have a2:∀ j v,(A6 es)[j]?=some v->w.cell? ((⟨g,0,none⟩:Addr).add j)=some v:=by
  intro j x hj;rw[D5];simp[World.cell?,N];rw[Azi (by obtain⟨h,_⟩:=Ayu.1 hj;exact h)];exact hj
 have V:=run_append_grow (P:=P) w t ty e i z hu O Y ⟨g,0,none⟩ es.length cap (A6 es) F a2 ⟨b,off,none⟩ n c (A6 xs) (by rw[D,H]) I oV oV (growslice_fits oV hb);have C:∀ x∈((A6 es).toArray++(A6 xs).toArray++Builtin.zeroCells z.cells (grownCap w (es.length+n) cap e-(es.length+n))).toList,Az x=true:=fun x A=>by
  simp only[A8q,Ay5]at A;rcases A with (A|A)|A
  ·exact Fp W.1 x A
  ·exact Fp U x A
  exact I3 hz _ x A
 obtain⟨g1,g2,g3,_⟩:=J.drew'.newM (t:=e) C;have X:w.drew.heap.size=w.heap.size:=rfl;rw[X]at g1 g2 g3;have a8:w.heap.size≠g:=fun h=>by have:=A3 N;omega
 have a6:m0 w.heap.size=none:=by
  have:=g3;rw[Ad _ _ a8]at this;exact this
 refine⟨_,_,m0.upd w.heap.size (.cells ((A6 es).toArray++(A6 xs).toArray++Builtin.zeroCells z.cells (grownCap w (es.length+n) cap e-(es.length+n))) e (0,0)),V,g1.less (fun k o Q=>?_),⟨g2.sz,g2.old,g2.us,fun k Q a1=>?_,g2.io,fun f=>⟨(g2.dr f).tape,A52 (g2.dr f).dr⟩⟩,R,.inr ⟨w.heap.size,grownCap w (es.length+n) cap e,(Builtin.zeroCells z.cells (grownCap w (es.length+n) cap e-(es.length+n))).toList,a6,?_,?_,?_,?_,I3 hz _⟩⟩
 ·by_cases Z:k=w.heap.size
  ·subst Z;rw[Ab]at Q⊢;exact Q
  rw[Ad _ _ Z]at Q⊢;rw[Ad _ _ (fun h=>by rw[h,L]at Q;cases Q)];exact Q
 ·rw[Ad _ _ oV];by_cases a0:k=g
  ·rw[a0];exact L
  rw[Ad _ _ a0]at a1;exact a1
 ·congr 2;apply A2u;simp[C8]
 ·simp[H]
 ·simp only[Ay3,H];exact grownCap_ge w _ cap e
 have:=grownCap_ge w (es.length+n) cap e;rw[C8];simp only[Ay3,D,F,H,A1m,size_zeroCells,a3];rw[<-Azt,<-Azt];congr 1;omega
def G.append (e:TypeId)(sz O:Nat)(z:Value)(m0:PH)(es xs:List Value)(v:Value)(b off n c:Nat)(h:Aj P (adv P st)=.app (some (e,sz,O,z)) true [v,.slice (some ⟨b,off,none⟩) n c])(hz:z.cells.toList.all Az=true)(L:z.cells.size=sz)(D:0<sz)
 (X:Af m0 m v e sz es) (hx:Fz u b off sz xs) (Q:Ba sz xs) (Z:xs.length=n) (I:0<n) (Y:(es.length+n)*O<=140737488355328) (E:es.length+n<=9223372036854775807)
 (k:∀ A f,Af m0 f A e sz (es++xs)->G P fn Post (nx (adv P st) A) u f):G P fn Post st u m:=by
 refine G.big (K:=fun A R f=>R=u/\Af m0 f A e sz (es++xs)) h mV (fun env N J=>(Ek (P:=P) (o:=⟨none,N,0, "",#[],none⟩) J).2.1) (.inr fun env N J=>(Ek (P:=P) (o:=⟨none,N,0, "",#[],none⟩) J).1) (fun env o j w C=>?_) (fun A R f _ H=>?_)
 ·obtain⟨_,_,t,hi,F⟩:=Ek (P:=P) j;obtain⟨A,w',f,T,U,V,W⟩:=Ri (P:=P) m0 es xs v b off n c o.type hi hz L D X Q Z I Y E C (hx.cells D Q C.pu);exact B0 (by rw[F,T];rfl) ⟨u,f,U,V,rfl,W⟩
 obtain⟨rfl,H⟩:=H;exact k A f H
end rules
end
section
variable [Cc] [Cm]
variable {P:Program} [A5 P] {fn:Func} {Post:By} {st:List KI×S} {u m:PH}
def G.k (e:TypeId)(sz bt:Nat)(z:Value)(m0:PH)(es xs:List Value)(v:Value)(b off n c:Nat)(ha:Af m0 m v e sz es)(hx:Fz u b off sz xs)(ho:Ba sz xs)(k:∀ v' m',Af m0 m' v' e sz (es++xs)->G P fn Post (nx (adv P st) v') u m')(h:Aj P (adv P st)=.app (some (e,sz,bt,z)) true [v,.slice (some ⟨b,off,none⟩) n c]:=by kernel_rfl)(hz:z.cells.toList.all Az=true:=by rfl)(hzs:z.cells.size=sz:=by rfl)(hsz:0<sz:=by omega)(hn:xs.length=n:=by rfl)(hn0:0<n:=by omega)(hb:(es.length+n)*bt<=140737488355328:=by simp;omega)(hb2:es.length+n<=9223372036854775807:=by simp;omega):G P fn Post st u m:=G.append e sz bt z m0 es xs v b off n c h hz hzs hsz ha hx ho hn hn0 hb hb2 k
end
section
variable {c j n sz:Nat}{e x y:Value}{env:Operand->Value}{es:List Value}{inf:Option (TypeId×Nat×Nat×Value)}{m0:PH}{o:Op}{t:TypeId}
variable [Cc] [Cm]
section fill
def Nk {p:Value->Bool}{sz:Nat}:∀ (es:List Value) (k:Nat) (cells:Array Value),Yi p sz es->(k+es.length)*sz<=cells.size ->
 Instr.fill (fun i=>some (i*sz,sz)) cells (es.zipIdx k |>.map fun p=>(p.2,p.1))=some (cells.toList.take (k*sz)++A6 es++cells.toList.drop ((k+es.length)*sz)).toArray
 |[],k,cells,_,h=>by simp[Instr.fill,A6]
 |e::es,k,cells,ho,h=>by
  have f:=(ho e mV).1;have g:Yi p sz es:=fun x F=>ho x (Azq _ F);have C:(k+(es.length+1))*sz=k*sz+sz+es.length*sz:=by rw[Azt,Azt];omega
  simp only[A0q]at h;rw[C]at h;simp only[List.zipIdx_cons,Azu];rw[Z2 _ _ _ (k*sz) sz _ _ rfl f oV];rw[Nk es (k+1) _ g (by simp[f];rw[Azt,Azt];omega)]
  congr 2
  have A:(cells.toList.take (k*sz)++e.cells.toList).length=(k+1)*sz:=by simp[f,Azt];omega
  have D:(cells.toList.take (k*sz)++e.cells.toList++cells.toList.drop (k*sz+sz)).toArray.toList.take ((k+1)*sz)=cells.toList.take (k*sz)++e.cells.toList:=by
   simp only[A09];rw[<-A,List.take_left]
  have E:(cells.toList.take (k*sz)++e.cells.toList++cells.toList.drop (k*sz+sz)).toArray.toList.drop ((k+1+es.length)*sz)=cells.toList.drop ((k+(es.length+1))*sz):=by
   simp only[A09];rw[show (k+1+es.length)*sz=(k+1)*sz+es.length*sz by rw[Azt],<-A,<-A5v,A65,A5v]
   congr 1;rw[C]
  rw[D,E];simp[A6]
end fill
section rules
variable {P:Program} [A5 P] {fn:Func} {Post:By} {st:List KI×S} {u m:PH}
def Ee {f:List (Nat×Value)}(h:Bg P env o=.buildS inf n f):∃ t g,o=.buildSlice t n g/\(g.map fun (i,x)=>(i,env x))=f.toArray/\My P t=inf:=by
 cases o<;>simp only[Bg]at h<;>try cases h
 any_goals ((repeat' split at h)<;>cases h;done)
 exact⟨_,_,rfl,by apply A2u;simp,rfl⟩
def Zg (h:Bg P env o=.make inf x y):∃ t X Y,o=.makeSlice t X Y/\env X=x/\env Y=y/\My P t=inf:=by
 cases o<;>simp only[Bg]at h<;>try cases h
 any_goals ((repeat' split at h)<;>cases h;done)
 exact⟨_,_,_,rfl,rfl,rfl,rfl⟩
def Fc {sz:Option Nat}(h:Bg P env o=.store sz x y):∃ t X Y,o=.store t X Y/\env X=x/\env Y=y/\szB P t=sz:=by
 cases o<;>simp only[Bg]at h<;>try cases h
 any_goals ((repeat' split at h)<;>cases h;done)
 exact⟨_,_,_,rfl,rfl,rfl,rfl⟩
def G.buildW {p:Value->Bool}(e:TypeId)(sz W:Nat)(z:Value)(es:List Value)(h:Aj P (adv P st)=.buildS (some (e,sz,W,z)) es.length (es.zipIdx.map fun p=>(p.2,p.1)))(O:Yi p sz es)(a1:z.cells.size=sz)(Q:0<sz)(L:0<es.length)(hb:es.length*sz<=16777216)
 (k:∀ g A,PH.le u A->Fz A g 0 sz es->G P fn Post (nx (adv P st) (.slice (some ⟨g,0,none⟩) es.length es.length)) A m):G P fn Post st u m:=by
 refine G.big (K:=fun V A R=>R=m/\∃ g,V=.slice (some ⟨g,0,none⟩) es.length es.length/\Fz A g 0 sz es) h mV (fun env op hv=>?_) (.inl fun v A R D=>by rw[D.1];exact PH.le_refl _) (fun env o C w F=>?_) (fun V A R J D=>?_)
 ·obtain⟨t,qs,rfl,_⟩:=Ee hv;rfl
 ·obtain⟨t,qs,T,Z,hi⟩:=Ee C;obtain⟨X,a2,U,pos,after,E⟩:=o;simp only at T;subst T;obtain⟨hu,i,H,I,rfl,rfl⟩:=Dx hi;obtain⟨g1,g2,g3,g4⟩:=F.newU (.cells (A6 es).toArray e (0,0));have a0:=Bb O;have N:es.length*i.size≠0:=by have:=A24 L Q;omega
  have f:=Nk es 0 ((Array.range (es.length*i.size)).map (z.cells[· % z.cells.size]!)) O mV;have Y:((Array.range (es.length*i.size)).map (z.cells[· % z.cells.size]!)).toList.drop (es.length*i.size) = []:=by
   apply A3w;simp
  simp only[A22,A14,A00,A0h,Y,Azl]at f;refine B0 (w':=w.alloc (.cells (A6 es).toArray e (0,0))) (v:=.slice (some ⟨w.heap.size,0,none⟩) es.length es.length) ?_ ⟨_,m,g1,g2,rfl,_,rfl,?_⟩
  ·simp only[execOp,Z];simp[Instr.buildSlice,run_underlying hu,sizeOf,typeInfo,zeroValue,H,I,N,f,newRow,show ¬ 16777216<es.length*i.size by omega]
  intro j x hj ii y hy;refine⟨_,_,_,Ab _ _ _,?_⟩;rw[A06,A0h];exact Ib O hj hy
 obtain⟨rfl,g,rfl,D⟩:=D;exact k g A J D
def G.buildU (e:TypeId)(sz E:Nat)(z:Value)(es:List Value)(h:Aj P (adv P st)=.buildS (some (e,sz,E,z)) es.length (es.zipIdx.map fun p=>(p.2,p.1)))(H:Ba sz es)(C:z.cells.size=sz)(A:0<sz)(f:0<es.length)(F:es.length*sz<=16777216)
 (k:∀ g D,PH.le u D->Fz D g 0 sz es->G P fn Post (nx (adv P st) (.slice (some ⟨g,0,none⟩) es.length es.length)) D m):G P fn Post st u m:=G.buildW e sz E z es h H C A f F k
theorem G.make (e : TypeId) (sz bt : Nat) (z : Value) (n : Nat) (h : Aj P (adv P st) = .make (some (e, sz, bt, z)) (.int .i64 (n : Int)) (.int .i64 (n : Int))) (hz : z.cells.toList.all Az = true) (hzs : z.cells.size = sz) (hsz : 0 < sz)
    (hb : bt * n ≤ 281474976710656) (hb2 : n ≤ 9223372036854775807) (k : ∀ v' m', Af m m' v' e sz (List.replicate n z) → (∃ a, v' = .slice (some a) n n) → G P fn Post (nx (adv P st) v') u m') : G P fn Post st u m := by
  refine G.big (K := fun v' u' m' => u' = u ∧ PH.le m m' ∧ Af m m' v' e sz (List.replicate n z) ∧ ∃ a, v' = .slice (some a) n n) h mV (fun env op hv => by obtain ⟨t, X, Y, rfl, _⟩ := Zg hv; rfl) (.inl fun v u' m' hk => hk.2.1) (fun env o hview w hgd => ?_) (fun v' u' m' hle hk => ?_)
  · obtain ⟨t, X, Y, e1, e2, e3, hi⟩ := Zg hview
    obtain ⟨dst, opp, type, pos, after, guard⟩ := o
    simp only at e1; subst e1
    obtain ⟨hu, i, hi1, hi2, rfl, rfl⟩ := Dx hi
    have hb' : (i.bytes : Int) * (n : Int) ≤ 281474976710656 := by have : ((i.bytes * n : Nat) : Int) ≤ 281474976710656 := by omega
                                                                   rwa [A27] at this
    have hr := run_make (P := P) w t e i z hu hi1 hi2 .i64 .i64 n n oV (Int.le_refl _) hb' oV
    simp only [A0y] at hr
    obtain ⟨g1, g2, g3, g4⟩ := hgd.newM (t := e) (Abo hz (n * i.size) oV)
    have hok : Ba i.size (List.replicate n z) := fun x hx => by
      rw [A5k hx]
      exact ⟨hzs, fun y hy => by rw [Azg] at hz; exact hz y hy⟩
    have hflat : (A6 (List.replicate n z)).toArray = madeCells z.cells (n * i.size) := by
      apply Array.ext
      · rw [size_madeCells, A5z, Bb hok, A1a]
      · intro j h1 h2
        rw [size_madeCells] at h2
        have hlt : j % i.size < i.size := A0z _ hsz
        have hq : j / i.size < n := (A05 hsz).2 h2
        have hget := Ib hok (j := j / i.size) (i := j % i.size) (e := z) (x := z.cells[j % i.size]'oV) (by simp [hq]) mV
        rw [show j / i.size * i.size + j % i.size = j by rw [Az5]; exact A1j _ _] at hget
        have : (A6 (List.replicate n z)).toArray[j]? = some z.cells[j % i.size] := by rw [A06]; exact hget
        rw [A0l h1] at this
        have h3 := A0j this
        rw [h3]
        simp only [madeCells, Array.getElem_map, Array.getElem_range, hzs]
        rw [getElem!_pos z.cells _ oV]
    refine B0 (w' := w.alloc (.cells (madeCells z.cells (n * i.size)) e (0, 0))) (v := .slice (some ⟨w.heap.size, 0, none⟩) n n) ?_ ⟨u, _, g1, g2, rfl, Kx _ g3, ⟨hok, .inr ⟨w.heap.size, n, [], g3, ?_, by simp, by simp, ?_, by simp⟩⟩, _, rfl⟩
    · simp only [execOp, e2, e3]
      simp [hr]
    · rw [Azl, hflat]
    · rw [Azl, Bb hok, A1a]
  · obtain ⟨rfl, _, hk, ha⟩ := hk
    exact k v' m' hk ha
def Q2 {sz:Nat}:∀ {es:List Value} {j:Nat} {e:Value},Ba sz es->e.cells.size=sz->j<es.length->A6 (es.set j e)=(A6 es).take (j*sz)++e.cells.toList++(A6 es).drop (j*sz+sz)
 |[],j,e,_,_,h=>by simp at h
 |d::es,j,e,ho,he,h=>by
  have A:=(ho d mV).1;have f:∀ d (l:List Value),A6 (d::l)=d.cells.toList++A6 l:=fun d l=>by simp[A6]
  cases j with
  |zero =>
   rw[A0p,f,f];have:d.cells.toList.length=sz:=by simpa using A
   simp only[A22,A14,A00,A0h];rw[<-this,A65]
  |succ j =>
   rw[A0i,f,f,Q2 (sz:=sz) (fun x H=>ho x (Azq _ H)) he (by simpa using h)];have g:d.cells.toList.length=sz:=by simpa using A
   rw[List.take_append,List.drop_append,g];have C:(j+1)*sz-sz=j*sz:=by rw[Azt];omega
   have D:(j+1)*sz+sz-sz=j*sz+sz:=by rw[Azt];omega
   have E:d.cells.toList.take ((j+1)*sz)=d.cells.toList:=Ay6 (by rw[g,Azt];omega);have F:d.cells.toList.drop ((j+1)*sz+sz) = []:=A3w (by rw[g,Azt];omega);rw[C,D,E,F];simp
def Ba.set (h:Ba sz es)(g:e.cells.size=sz/\∀ x∈e.cells.toList,Az x=true):Ba sz (es.set j e):=by
 intro x f;rcases A5i f with f|rfl
 ·exact h x f
 exact g
def G.storeA {t:TypeId}(sz:Nat)(m0:PH)(es:List Value)(b n c j:Nat)(e:Value)(h:Aj P (adv P st)=.store (some sz) (.pointer (some ⟨b,0+j*sz,none⟩)) e)(U:Af m0 m (.slice (some ⟨b,0,none⟩) n c) t sz es)(hj:j<es.length)(O:e.cells.size=sz)(Z:e.cells.toList.all Az=true)
 (k:∀ L,Af m0 L (.slice (some ⟨b,0,none⟩) n c) t sz (es.set j e)->G P fn Post (nx (adv P st) undef) u L):G P fn Post st u m:=by
 refine G.big (K:=fun v' u' L=>u'=u/\v'=undef/\Af m0 L (.slice (some ⟨b,0,none⟩) n c) t sz (es.set j e)) h mV (fun env op D=>?_) (.inr fun env op D=>?_) (fun env o J w R=>?_) (fun v' u' L _ hk=>?_)
 ·obtain⟨t',X,Y,rfl,_⟩:=Fc D;rfl
 ·obtain⟨t',X,Y,rfl,_⟩:=Fc D;rfl
 ·obtain⟨t',X,Y,e1,e2,e3,ht⟩:=Fc J;obtain⟨W,a4,T,pos,after,E⟩:=o;simp only at e1;subst e1;rw[Azg]at Z;rcases U.2 with ⟨D,_⟩|⟨g,cap,rest,a1,rfl,D,N,C,f⟩
  ·simp at D
  simp only[Value.slice.injEq,Ayz,Addr.mk.injEq,and_true]at D;obtain⟨rfl,rfl,rfl⟩:=D;have a2:=R.pm b _ (Ab _ _ _);have Q:=Bb U.1;have a3:j*sz+sz<=es.length*sz:=by
   have:=Az7 sz (show j+1<=es.length by omega);rw[Azt]at this;omega
  have I:=run_storeCells_at P b (j*sz) t e.cells.toList 0 (A6 es++rest).toArray w a2 (by simp[O,Q];omega) (fun x V=>F9 (Z x V));simp only[A1r,A1m,O,A09]at I;have A:(A6 es++rest).take (j*sz)++e.cells.toList++(A6 es++rest).drop (j*sz+sz)=A6 (es.set j e)++rest:=by
   rw[Q2 U.1 O hj,A4z oV,List.drop_append_of_le_length oV];simp
  rw[A]at I;have H:=U.1.set (j:=j) (e:=e) ⟨O,Z⟩;have F:∀ x∈(A6 (es.set j e)++rest).toArray.toList,Az x=true:=by
   intro x V;simp only[A09,Ay5]at V;exact V.elim (Fp H x) (f x)
  obtain⟨g1,g2⟩:=R.setM (Ab _ _ _) F;rw[Cw]at g1 g2;unfold Eb;have a0:(execOp env ⟨W,.store t' X Y,T,pos,after,E⟩).run P w=.ok .skip (w.setRow b (A6 (es.set j e)++rest).toArray):=by
   simp only[execOp,e2,e3];simp[Instr.storeAt,Instr.sureAddr,storeVar,Bj ht,O,I]
  rw[a0];refine⟨u,_,g1,g2,rfl,rfl,H,.inr ⟨b,c,rest,a1,rfl,mV,by simpa using N,?_,f⟩⟩;simp only[Ay3,Bb H,A1o,Q]at C⊢;exact C
 obtain⟨rfl,rfl,hk⟩:=hk;exact k L hk
def Af.el {b n c j:Nat}(C:Af m0 m (.slice (some ⟨b,0,none⟩) n c) t sz es)(H:es[j]?=some e):ElP m b (0+j*sz) e:=by
 rcases C.2 with ⟨f,_⟩|⟨g,cap,rest,F,rfl,f,D,E,A⟩
 ·simp at f
 simp only[Value.slice.injEq,Ayz,Addr.mk.injEq,and_true]at f;obtain⟨rfl,rfl,rfl⟩:=f;intro i x I;refine⟨_,_,_,Ab _ _ _,?_⟩;rw[A06,A0h];have:=Ib C.1 H I;rw[Azi (by obtain⟨h,_⟩:=Ayu.1 this;exact h)];exact this
def Af.len {a:Option Addr}(h:Af m0 m (.slice a n c) t sz es):n=es.length:=by
 rcases h.2 with ⟨f,rfl,_⟩|⟨g,cap,rest,A,rfl,f,_⟩
 ·simp at f;simp[f.2.1]
 simp at f;exact f.2.1
def Af.ptr {v:Value}(f:Af m0 m v t sz es)(h:es≠[]):∃ b c,v=.slice (some ⟨b,0,none⟩) es.length c:=by
 rcases f.2 with ⟨_,rfl,_⟩|⟨g,cap,rest,A,rfl,C,_⟩
 ·exact absurd rfl h
 exact⟨g,cap,C⟩
def Ac (u:PH)(v:Value)(sz:Nat)(es:List Value):Prop:=∃ a c,v=.slice a es.length c/\es.length<=c/\∀ j e,es[j]?=some e->∃ b off,a=some ⟨b,off,none⟩/\ElP u b (off+j*sz) e
def Ac.mono {u u':PH}{v:Value}{sz:Nat}{es:List Value}(h:Ac u v sz es)(hl:PH.le u u'):Ac u' v sz es:=by
 obtain⟨a,c,h1,h2,h3⟩:=h;exact⟨a,c,h1,h2,fun j e hj=>by obtain⟨b,off,e1,e2⟩:=h3 j e hj;exact⟨b,off,e1,e2.mono hl⟩⟩
def Ac.nil (u:PH)(a:Option Addr)(c sz:Nat):Ac u (.slice a 0 c) sz []:=⟨a,c,rfl,Azh _,fun j e h=>by simp at h⟩
def G.give (m0:PH)(es:List Value)(v:Value)(h:Fv (ctl P 100 st).1=true)(Y:Af m0 m v t sz es)(h0:∀ g,Post.m0 g=none\/m0 g≠none)(k:∀ X,PH.le u X->Ac X v sz es->G P fn Post (ctl P 100 st) X m0):G P fn Post st u m:=by
 refine⟨Li 100 st ?_⟩;rcases Y.2 with ⟨rfl,rfl,rfl⟩|⟨g,cap,rest,E,rfl,rfl,H,Z,U⟩
 ·exact (k u (PH.le_refl _) (Ac.nil _ _ _ _)).out
 have Q:∀ o,u g=none->PH.le u (u.upd g o):=fun o V=>Kx o V;rw[Sym.ofNo h];intro c ρ a w J f;have I:=f.gd.pm g _ (Ab _ _ _);have W:u g=none:=by
  rcases f.gd.ap g with e|e
  ·exact e
  rw[Ab]at e;cases e
 have a0:c.w0.heap.size<=g:=by
  rcases Az8 g c.w0.heap.size with R|N
  ·have T:c.m0 g=none:=by
    rw[J];rcases h0 g with e|e
    ·exact e
    exact absurd E e
   have:=f.gr.ms g R T;rw[Ab]at this;cases this
  exact N
 have L:=k (u.upd g (.cells (A6 es++rest).toArray t (0,0))) (Q _ W) ⟨_,_,rfl,H,fun j e O=>⟨g,0,rfl,fun i x hx=>⟨_,_,_,Ab _ _ _,by
  rw[A06,A0h];have:=Ib Y.1 O hx;rw[Azi (by obtain⟨h,_⟩:=Ayu.1 this;exact h)];exact this⟩⟩⟩
 have L:=L.out;rw[Sym.ofNo h]at L;refine L c ρ a w J ⟨f.sz,f.tm,f.df.of fun r e _ V F=>(by
  have D:r≠g:=fun e'=>(by rw[e',Ab]at F;cases F);rw[Ad _ _ D]at F;exact⟨e,by rw[Ad _ _ D];exact V,F⟩),fun kk b hb=>?_,f.inj,f.lv,⟨fun C o A=>?_,fun C o A=>?_,fun C=>?_,fun C cs t' fr j z A O=>?_⟩,⟨f.gr.sz,f.gr.old,fun C A=>?_,fun C A F=>?_,f.gr.io,f.gr.dr⟩⟩
 ·obtain⟨e1,e2,e3,K⟩:=f.box kk b hb;have D:ρ kk≠g:=fun e=>by rw[e,Ab]at K;cases K
  refine⟨e1,e2,by rw[Ad _ _ D];exact e3,?_⟩;rw[Ad _ _ D]at K;exact K
 ·by_cases e:C=g
  ·subst e;rw[Ab]at A;rw[I];exact A
  rw[Ad _ _ e]at A;exact f.gd.pu C o A
 ·refine f.gd.pm C o ?_;rw[Ad _ _ (fun e=>by rw[e,E]at A;cases A)];exact A
 ·by_cases e:C=g
  ·subst e;exact .inr E
  rw[Ad _ _ e];have:=f.gd.ap C;rw[Ad _ _ e]at this;exact this
 ·by_cases e:C=g
  ·subst e;rw[Ab,<-I];exact A
  rw[Ad _ _ e];exact f.gd.cl C cs t' fr j z A O
 ·rw[Ad _ _ oV];exact f.gr.us C A
 have:=f.gr.ms C A F;rw[Ad _ _ oV]at this;exact this
end rules
end
section
variable [Cc] [Cm]
variable {P:Program} [A5 P] {fn:Func} {Post:By} {st:List KI×S} {u m:PH}
def G.B (e:TypeId)(sz bt:Nat)(z:Value)(es:List Value)(ho:Ba sz es)(k:∀ g u',PH.le u u'->Fz u' g 0 sz es->G P fn Post (nx (adv P st) (.slice (some ⟨g,0,none⟩) es.length es.length)) u' m)(h:Aj P (adv P st)=.buildS (some (e,sz,bt,z)) es.length (es.zipIdx.map fun p=>(p.2,p.1)):=by kernel_rfl)(hzs:z.cells.size=sz:=by rfl)(hsz:0<sz:=by omega)(hn0:0<es.length:=by simp)(hb:es.length*sz<=16777216:=by simp):G P fn Post st u m:=G.buildU e sz bt z es h ho hzs hsz hn0 hb k
end
section
variable {a:Option Addr}{c n:Nat}{env:Operand->Value}{l:List Nat}{o:Op}
variable [Cc] [Cm]
section rules
variable {P:Program} [A5 P] {fn:Func} {Post:By} {st:List KI×S} {u m:PH}
def Je {sz:Option Nat}{x:Value}{lo hi e:Option Value}(h:Bg P env o=.slice sz x lo hi e):∃ t X L H M,o=.slice t X L H M/\env X=x/\L.map env=lo/\H.map env=hi/\M.map env=e/\Od P t=sz:=by
 cases o<;>simp only[Bg]at h<;>try cases h
 any_goals ((repeat' split at h)<;>cases h;done)
 exact⟨_,_,_,_,_,rfl,rfl,rfl,rfl,rfl,rfl⟩
def X7 (a:Option Addr):a.map (·.add 0)=a:=by cases a<;>rfl
def G.sliceTo (sz:Nat)(a:Option Addr)(n c k:Nat)(h:Aj P (adv P st)=.slice (some sz) (.slice a n c) none (some (.int .i64 k)) none)(Q:k<=c)
 (g:G P fn Post (nx (adv P st) (.slice a k c)) u m):G P fn Post st u m:=by
 refine G.ask h mV (fun env o j w hp=>?_) g;obtain⟨t,X,L,H,M,C,F,I,J,K,f⟩:=Je j;obtain⟨E,O,D,pos,after,A⟩:=o;simp only at C;subst C;unfold Od at f;split at f
 ·rename_i e hu;have N:(0:Int)<=k/\(k:Int)<=c:=oV;simp only[execOp,F,I,J,K];simp only[Instr.sliceAt,Sem.run_bind,run_underlying hu,Result.andThen_ok,Instr.slice,Instr.sliceBounds,Instr.sliceBound,asIntOf,Sem.run_pure,if_true,Option.isSome,Sem.run_ite,Bj f,N,and_self,A0y,A22,X7,A43];simp
 cases f
def G.sliceFrom (b off n c k sz:Nat)(h:Aj P (adv P st)=.slice (some sz) (.slice (some ⟨b,off,none⟩) n c) (some (.int .i64 k)) none none)(T:k<=n)(R:k<c)
 (g:G P fn Post (nx (adv P st) (.slice (some ⟨b,off+k*sz,none⟩) (n-k) (c-k))) u m):G P fn Post st u m:=by
 refine G.ask h mV (fun env o j w hp=>?_) g;obtain⟨t,X,L,H,M,C,F,I,J,K,f⟩:=Je j;obtain⟨E,Q,D,pos,after,A⟩:=o;simp only at C;subst C;unfold Od at f;split at f
 ·rename_i e hu;have N:(0:Int)<=k/\(k:Int)<=n:=oV;have O:¬ (c=k):=oV;simp only[execOp,F,I,J,K];simp only[Instr.sliceAt,Sem.run_bind,run_underlying hu,Result.andThen_ok,Instr.slice,Instr.sliceBounds,Instr.sliceBound,asIntOf,Sem.run_pure,if_true,Option.isSome,Sem.run_ite,Bj f,N,and_self,A0y,O,if_false,A1n,D5]
 cases f
def G.quo (x y z:Int)(h:Aj P (adv P st)=.bin .quo (.int .i64 x) (.int .i64 y))(e:0<=x)(A:x<=9223372036854775807)(E:0<y)(f:x/y=z)
 (k:G P fn Post (nx (adv P st) (.int .i64 z)) u m):G P fn Post st u m:=by
 refine G.bin _ h Cp (fun t w=>?_) k;have g:x.tdiv y=z:=by rw[A2a e];exact f
 have C:0<=z:=by rw[<-f];exact A6s e oV
 have D:z<=x:=by rw[<-f];exact A7q _ e
 have j:¬ y=0:=oV
 simp[binOp,Op.intDiv,j,g,E9 (z:=z) oV oV]
def G.rem (x y z:Int)(h:Aj P (adv P st)=.bin .rem (.int .i64 x) (.int .i64 y))(j:0<=x)(f:x<=9223372036854775807)(A:0<y)(e:x%y=z)
 (k:G P fn Post (nx (adv P st) (.int .i64 z)) u m):G P fn Post st u m:=by
 refine G.bin _ h Cp (fun t w=>?_) k;have C:x.tmod y=z:=by rw[A2o j];exact e
 have g:¬ y=0:=oV
 have D:0<=z:=by rw[<-e];exact Int.emod_nonneg _ g
 have E:z<=x:=by rw[<-e];have:=A79 x y;have F:=Int.mul_nonneg (A8w A) (A6s j (A8w A));omega
 simp[binOp,Op.intDiv,g,C,E9 (z:=z) oV oV]
def Xz {e:BinOp}{x y:Bool}(t:TypeId)(X Y:Operand)(w:World):(eqGuard e t X Y (.bool x) (.bool y)).run P w=.ok () w:=by
 unfold eqGuard;split<;>simp
def Ajn {t:TypeId}(e:P.underlying t=some .bool)(x y:Bool)(w:World):(Op.equal t (.bool x) (.bool y)).run P w=.ok (x==y) w:=by
 unfold Op.equal;rw[show Op.maxDepth=9999+1 from rfl,Op.equalIn];simp[run_underlying e]
def G.eqB (x y:Bool)(h:Aj P (adv P st)=.binT .eql (some .bool) (.bool x) (.bool y))(k:G P fn Post (nx (adv P st) (.bool (x==y))) u m):G P fn Post st u m:=by
 refine G.ask h mV (fun env o f w _=>?_) k;obtain⟨t,X,Y,H,e,C,D,E⟩:=Ot f;obtain⟨A,F,j,pos,after,g⟩:=o;simp only at e;subst e;simp[execOp,C,D,Xz,binOp,Ajn E]
def G.neB (x y:Bool)(h:Aj P (adv P st)=.binT .neq (some .bool) (.bool x) (.bool y))(k:G P fn Post (nx (adv P st) (.bool (!(x==y)))) u m):G P fn Post st u m:=by
 refine G.ask h mV (fun env o f w _=>?_) k;obtain⟨t,X,Y,H,e,C,D,E⟩:=Ot f;obtain⟨A,F,j,pos,after,g⟩:=o;simp only at e;subst e;simp[execOp,C,D,Xz,binOp,Ajn E]
def Ai (l:List Nat):List Value:=l.map fun (n:Nat)=>Value.int .i64 n
def Co (u:PH)(v:Value)(l:List Nat):Prop:=Ac u v 1 (Ai l)
def Ak (l:List Nat):(Ai l).length=l.length:=by simp[Ai]
def Co.mono {u u':PH}{v:Value}{l:List Nat}(h:Co u v l)(hl:PH.le u u'):Co u' v l:=Ac.mono h hl
def Co.opn {u:PH}{v:Value}(h:Co u v l):∃ a c,v=.slice a l.length c/\l.length<=c:=by
 obtain⟨a,c,e,f,_⟩:=h;rw[Ak]at e f;exact⟨a,c,e,f⟩
def Co.len {u:PH}(h:Co u (.slice a n c) l):n=l.length/\l.length<=c:=by
 obtain⟨g,j,e,f⟩:=h.opn;simp at e;obtain⟨_,rfl,rfl⟩:=e;exact⟨rfl,f⟩
def Co.at {u:PH}{a:Option Addr}{n c:Nat}{l:List Nat}(h:Co u (.slice a n c) l){j:Nat}(g:j<l.length):∃ b off,a=some ⟨b,off,none⟩/\ElP u b (off+j*1) (.int .i64 (l.getD j 0:Nat)):=by
 obtain⟨t,A,e,C,f⟩:=h;simp at e;obtain⟨rfl,_,rfl⟩:=e;exact f j _ (by simp[Ai,g])
def Co.take {u:PH}(h:Co u (.slice a n c) l)(k:Nat)(E:k<=l.length):Co u (.slice a k c) (l.take k):=by
 obtain⟨C,D,g,t,A⟩:=h;simp at g;obtain⟨rfl,_,rfl⟩:=g;rw[Ak]at t;refine⟨a,c,by simp[Ai];omega,by simp[Ai];omega,fun j e f=>?_⟩;refine A j e ?_;simp only[Ai,A4l,A1x]at f⊢;split at f
 ·exact f
 cases f
def R4 {b:Builtin}{ts:List TypeId}{xs:List Value}(h:Bg P env o=.blt b ts xs):∃ c,o=.call c/\c.callee=.builtin b/\c.argTypes=ts.toArray/\(c.args.map env)=xs.toArray:=by
 cases o<;>simp only[Bg]at h<;>try cases h
 ·split at h<;>cases h
 split at h
 ·split at h<;>cases h
 ·rename_i c b' hc;split at h
  ·split at h<;>cases h
  simp only[T9.blt.injEq]at h;obtain⟨rfl,rfl,rfl⟩:=h;exact⟨_,rfl,hc,mV,by apply A2u;simp⟩
 cases h
def G.minI (ts:List TypeId)(x y z:Int)(h:Aj P (adv P st)=.blt .min ts [.int .i64 x,.int .i64 y])(E:min x y=z)(k:G P fn Post (nx (adv P st) (.int .i64 z)) u m):G P fn Post st u m:=by
 refine G.ask h mV (fun env o e w _=>?_) k;obtain⟨c,g,A,H,C⟩:=R4 e;obtain⟨t,F,j,pos,after,f⟩:=o;simp only at g;subst g;subst E;have D:(if y<x then y else x)=min x y:=by split<;>omega
 simp[execOp,resolve,A,invoke,builtin,C,Builtin.min_,Builtin.min2,D]
def G.maxI (ts:List TypeId)(x y z:Int)(h:Aj P (adv P st)=.blt .max ts [.int .i64 x,.int .i64 y])(E:max x y=z)(k:G P fn Post (nx (adv P st) (.int .i64 z)) u m):G P fn Post st u m:=by
 refine G.ask h mV (fun env o e w _=>?_) k;obtain⟨c,g,A,H,C⟩:=R4 e;obtain⟨t,F,j,pos,after,f⟩:=o;simp only at g;subst g;subst E;have D:(if x<y then y else x)=max x y:=by split<;>omega
 simp[execOp,resolve,A,invoke,builtin,C,Builtin.max_,Builtin.max2,D]
def G.appendNil (e:TypeId)(sz H:Nat)(z:Value)(a:Option Addr)(c:Nat)(h:Aj P (adv P st)=.app (some (e,sz,H,z)) true [.slice none 0 0,.slice a 0 c])
 (k:G P fn Post (nx (adv P st) (.slice none 0 0)) u m):G P fn Post st u m:=by
 refine G.big (K:=fun F E D=>E=u/\D=m/\F=.slice none 0 0) h mV (fun env R Q=>(Ek (P:=P) (o:=⟨none,R,0, "",#[],none⟩) Q).2.1) (.inl fun v E D C=>by rw[C.2.1];exact PH.le_refl _) (fun env o f w j=>?_) (fun F E D _ C=>?_)
 ·obtain⟨_,_,t,hi,g⟩:=Ek (P:=P) f;obtain⟨O,i,A,I,J,L⟩:=Dx hi;have N:(Builtin.append_ #[t,t] o.type #[.slice none 0 0,.slice a 0 c]).run P w=.ok (.slice none 0 0) w:=by
   cases a<;>simp[Builtin.append_,run_underlying O,sizeOf,typeInfo,A,Builtin.lenOf,Builtin.firstCells,loadCells,loadCellsFrom]
  exact B0 (by rw[g,N];rfl) ⟨u,m,j,Br.refl _ _ _,rfl,rfl,rfl⟩
 obtain⟨rfl,rfl,rfl⟩:=C;exact k
def Dj (l:List Int):List Value:=l.map fun (n:Int)=>Value.int .i64 n
def B4 (l:List Int):(Dj l).length=l.length:=by simp[Dj]
def Ll (l:List Int):Ba 1 (Dj l):=by
 intro e f;simp only[Dj,Ayx]at f;obtain⟨n,_,rfl⟩:=f;simp[Value.cells,Az]
def Lw (l:List Int)(j:Nat)(d:Int):(Dj l).set j (.int .i64 d)=Dj (l.set j d):=by simp[Dj,A1d]
def Su (l:List Nat):Dj (l.map fun (n:Nat)=>(n:Int))=Ai l:=by simp[Dj,Ai]
def A8 (l:List Nat):Ba 1 (Ai l):=by rw[<-Su];exact Ll _
def Co.els {u:PH}{b off n c:Nat}(h:Co u (.slice (some ⟨b,off,none⟩) n c) l):Fz u b off 1 (Ai l):=by
 obtain⟨E,F,g,H,C⟩:=h;simp at g;obtain⟨rfl,_,rfl⟩:=g;intro j e D;obtain⟨b',t,f,A⟩:=C j e D;simp at f;obtain⟨rfl,rfl⟩:=f;exact A
end rules
end
section
variable [Cc] [Cm]
section rules
variable {P:Program} [A5 P] {fn:Func} {Post:By} {st:List KI×S} {u m:PH}
def Ac.els {sz:Nat}{es:List Value}{b off n c:Nat}(h:Ac u (.slice (some ⟨b,off,none⟩) n c) sz es):Fz u b off sz es:=by
 obtain⟨E,F,g,H,C⟩:=h;simp at g;obtain⟨rfl,_,rfl⟩:=g;intro j e D;obtain⟨b',t,f,A⟩:=C j e D;simp at f;obtain⟨rfl,rfl⟩:=f;exact A
def G.append0 (e:TypeId)(sz L:Nat)(z:Value)(a g:Option Addr)(n c I:Nat)(h:Aj P (adv P st)=.app (some (e,sz,L,z)) true [.slice a n c,.slice g 0 I])(N:n<=c)
 (k:G P fn Post (nx (adv P st) (.slice a n c)) u m):G P fn Post st u m:=by
 refine G.big (K:=fun J H F=>H=u/\F=m/\J=.slice a n c) h mV (fun j W V=>(Ek (P:=P) (o:=⟨none,W,0, "",#[],none⟩) V).2.1) (.inl fun v H F E=>by rw[E.2.1];exact PH.le_refl _) (fun j o f w C=>?_) (fun J H F _ E=>?_)
 ·obtain⟨_,_,t,hi,A⟩:=Ek (P:=P) f;obtain⟨U,i,D,O,Q,R⟩:=Dx hi;have T:(Builtin.append_ #[t,t] o.type #[.slice a n c,.slice g 0 I]).run P w=.ok (.slice a n c) w:=by
   cases a<;>cases g<;>simp[Builtin.append_,run_underlying U,sizeOf,typeInfo,D,Builtin.lenOf,Builtin.firstCells,loadCells,loadCellsFrom,N,storeCells]
  exact B0 (by rw[A,T];rfl) ⟨u,m,C,Br.refl _ _ _,rfl,rfl,rfl⟩
 obtain⟨rfl,rfl,rfl⟩:=E;exact k
def G.appendU (e:TypeId)(sz bt:Nat)(z:Value)(es xs:List Value)(a:Option Addr)(V b off n c:Nat)(h:Aj P (adv P st)=.app (some (e,sz,bt,z)) true [.slice a V V,.slice (some ⟨b,off,none⟩) n c])(U:0<sz)
 (ha:Ac u (.slice a V V) sz es) (H:Ba sz es) (hx:Fz u b off sz xs) (ho:Ba sz xs) (R:xs.length=n) (a2:0<n) (hb:(es.length+n)*bt<=140737488355328) (Y:es.length+n<=9223372036854775807)
 (k:∀ L C,PH.le u C->Ac C L sz (es++xs)->G P fn Post (nx (adv P st) L) C m):G P fn Post st u m:=by
 refine G.big (K:=fun L C m'=>m'=m/\Ac C L sz (es++xs)) h mV (fun X op hv=>(Ek (P:=P) (o:=⟨none,op,0, "",#[],none⟩) hv).2.1) (.inl fun v C m' Q=>by rw[Q.1];exact PH.le_refl _) (fun X o I w A=>?_) (fun L C m' a0 Q=>?_)
 ·obtain⟨_,_,t,hi,O⟩:=Ek (P:=P) I;obtain⟨hu,i,E,F,rfl,rfl⟩:=Dx hi;have g:=hx.cells U ho A.pu;have D:=Bb ho;have Z:=Bb H;obtain⟨a1,c1,e1,e2,e3⟩:=id ha;simp only[Value.slice.injEq]at e1;obtain⟨rfl,rfl,rfl⟩:=e1;have key:∀ (cap:Nat) (rest:List Value),es.length+n<=cap->Ac (u.upd w.heap.size (.cells (A6 (es++xs)++rest).toArray e (0,0))) (.slice (some ⟨w.heap.size,0,none⟩) (es.length+n) cap) i.size (es++xs):=by
   intro cap rest N;refine⟨_,cap,by simp[R],by simp[R];exact N,fun j x hj=>⟨_,0,rfl,fun ii y hy=>⟨_,_,_,Ab _ _ _,?_⟩⟩⟩;rw[A06,A0h];have:=Ib (H.append ho) hj hy;rw[Azi (by obtain⟨h,_⟩:=Ayu.1 this;exact h)];exact this
  rcases Azx es.length with h0|h0
  ·have:es = []:=A0a h0;subst this;simp only[A1t,A0h]at hb Y;have J:∃ v w',(Builtin.append_ #[t,t] o.type #[.slice a 0 0,.slice (some ⟨b,off,none⟩) n c]).run P w=.ok v w'/\v=.slice (some ⟨w.heap.size,0,none⟩) n (grownCap w n 0 e)/\w'=w.drew.alloc (.cells (A6 xs++(Builtin.zeroCells z.cells (grownCap w n 0 e-n)).toList).toArray e):=by
    cases a with
    |none =>
     refine⟨_,_,run_append_nil (P:=P) w t o.type e i z hu E F ⟨b,off,none⟩ n c (A6 xs) (by rw[D,R]) g a2 oV oV,rfl,?_⟩
     congr 2;apply A2u;simp
    |some a =>
     have:=run_append_grow (P:=P) w t o.type e i z hu E F a 0 0 [] mV mV ⟨b,off,none⟩ n c (A6 xs) (by rw[D,R]) g oV oV (growslice_fits oV (by rw[A0h];omega));simp only[A0h]at this;refine⟨_,_,this,rfl,?_⟩
     congr 2;apply A2u;simp
   obtain⟨v,w',J,rfl,rfl⟩:=J;obtain⟨g1,g2,g3,g4⟩:=A.drew'.newU (.cells (A6 xs++(Builtin.zeroCells z.cells (grownCap w n 0 e-n)).toList).toArray e (0,0));have:=key (grownCap w n 0 e) (Builtin.zeroCells z.cells (grownCap w n 0 e-n)).toList (by simpa using grownCap_ge w n 0 e);simp only[A00,A1t,A0h]at this;exact B0 (by rw[O];simp only[A1t];rw[J];rfl) ⟨_,m,g1,⟨g2.sz,g2.old,g2.us,g2.ms,g2.io,fun f=>⟨(g2.dr f).tape,A52 (g2.dr f).dr⟩⟩,rfl,this⟩
  obtain⟨W,oe,rfl,_⟩:=e3 0 es[0] mV;have T:=Fz.cells U ha.els H A.pu;have J:=run_append_grow (P:=P) w t o.type e i z hu E F ⟨W,oe,none⟩ es.length es.length (A6 es) Z T ⟨b,off,none⟩ n c (A6 xs) (by rw[D,R]) g oV oV (growslice_fits oV hb);have ew:(A6 es).toArray++(A6 xs).toArray++Builtin.zeroCells z.cells (grownCap w (es.length+n) es.length e-(es.length+n))=(A6 (es++xs)++(Builtin.zeroCells z.cells (grownCap w (es.length+n) es.length e-(es.length+n))).toList).toArray:=by
   apply A2u;simp[C8]
  rw[ew]at J;obtain⟨g1,g2,g3,g4⟩:=A.drew'.newU (.cells (A6 (es++xs)++(Builtin.zeroCells z.cells (grownCap w (es.length+n) es.length e-(es.length+n))).toList).toArray e (0,0));exact B0 (by rw[O,show ([Value.slice (some ⟨W,oe,none⟩) es.length es.length,Value.slice (some ⟨b,off,none⟩) n c]).toArray = #[.slice (some ⟨W,oe,none⟩) es.length es.length,.slice (some ⟨b,off,none⟩) n c] from rfl,J];rfl) ⟨_,m,g1,⟨g2.sz,g2.old,g2.us,g2.ms,g2.io,fun f=>⟨(g2.dr f).tape,A52 (g2.dr f).dr⟩⟩,rfl,key _ _ (grownCap_ge w _ _ e)⟩
 obtain⟨rfl,Q⟩:=Q;exact k L C a0 Q
def G.appendV (e:TypeId)(sz g:Nat)(z:Value)(es xs:List Value)(a:Option Addr)(f:Nat)(j:Option Addr)(n c:Nat)(h:Aj P (adv P st)=.app (some (e,sz,g,z)) true [.slice a f f,.slice j n c])(C:0<sz)
 (F:Ac u (.slice a f f) sz es) (A:Ba sz es) (H:Ac u (.slice j n c) sz xs) (O:Ba sz xs) (N:(es.length+xs.length)*g<=140737488355328) (t:es.length+xs.length<=9223372036854775807)
 (k:∀ I D,PH.le u D->Ac D I sz (es++xs)->G P fn Post (nx (adv P st) I) D m):G P fn Post st u m:=by
 obtain⟨J,R,E,T,L⟩:=id H;simp only[Value.slice.injEq]at E;obtain⟨rfl,rfl,rfl⟩:=E;rcases Azx xs.length with h0|h0
 ·have:xs = []:=A0a h0;subst this;exact G.append0 e sz g z a j f f c h (Ay2 _) (k _ u (PH.le_refl _) (by rw[Azl];exact F))
 obtain⟨K,Q,rfl,_⟩:=L 0 xs[0] mV;exact G.appendU e sz g z es xs a f K Q xs.length c h C F A H.els O rfl h0 N t k
end rules
end
section
variable {env:Operand->Value}{o:Op}{x:Value}
variable [Cc] [Cm]
abbrev mkS (l:List UInt8):ByteArray:=⟨l.toArray⟩
def Aa1 {a b:List UInt8}:mkS a=mkS b↔a=b:=by
 constructor
 ·intro h;injection h with h;simpa using h
 rintro rfl;rfl
def Mp (l:List UInt8):(mkS l).toList=l:=by
 rw[Go.Lib.toList_data]
def Lf (a b:List UInt8):((mkS a).toList==(mkS b).toList)=decide (a=b):=by
 rw[Mp,Mp,A5h];simp
section rules
variable {P:Program} [A5 P] {fn:Func} {Post:By} {st:List KI×S} {u m:PH}
def Wp (Q:Op->Bool)(st:List KI×S):Bool :=
 match st.1 with
 |.reg _ ops _ (i::_)::_=>match ops[i]? with
  |some o=>Q o.op
  |none=>false
 |_=>false
def G.askQ (Q:Op->Bool){V:T9}{v:Value}(h:Aj P (adv P st)=V)(t:Wp Q (adv P st)=true)(j:V≠.other)(E:∀ env (o:Oper),Bg P env o.op=V->Q o.op=true->∀ w,(Hg o.op=true->E5 u w/\E5 m w)->(execOp env o).run P w=.ok (.value v) w)
 (k:G P fn Post (nx (adv P st) v) u m):G P fn Post st u m:=by
 refine G.stp ?_;obtain⟨K,I,J,i,l,L,s,o,e,n,D,C,H,F,f,g⟩:=Eg h j;have k:=k.out;rw[g]at k;have A:Q o.op=true:=by
  rw[e]at t;simpa[Wp,n] using t
 rw[e];exact⟨Ob.ask n D C H F (Acf f j) (fun w hp=>E _ o f A w hp) k⟩
def Mu (P:Program):Op->Bool
 |.slice t ..=>match P.underlying t with|some .string=>true|_=>false
 |_=>false
def Hl {e:BinOp}{x y:ByteArray}(t:TypeId)(X Y:Operand)(w:World):(eqGuard e t X Y (.string x) (.string y)).run P w=.ok () w:=by
 unfold eqGuard;split<;>simp
def G.eqST (a b:List UInt8)(h:Aj P (adv P st)=.bin .eql (.string (mkS a)) (.string (mkS b)))(e:a=b)(k:G P fn Post (nx (adv P st) (.bool true)) u m):G P fn Post st u m :=
 G.bin _ h Hl (fun t w=>by simp[binOp,Op.stringOp,Lf,e]) k
def G.eqSF (a b:List UInt8)(h:Aj P (adv P st)=.bin .eql (.string (mkS a)) (.string (mkS b)))(e:a≠b)(k:G P fn Post (nx (adv P st) (.bool false)) u m):G P fn Post st u m :=
 G.bin _ h Hl (fun t w=>by simp only[binOp,Op.stringOp,Lf,decide_eq_false e];rfl) k
def G.neST (a b:List UInt8)(h:Aj P (adv P st)=.bin .neq (.string (mkS a)) (.string (mkS b)))(e:a≠b)(k:G P fn Post (nx (adv P st) (.bool true)) u m):G P fn Post st u m :=
 G.bin _ h Hl (fun t w=>by simp only[binOp,Op.stringOp,Lf,decide_eq_false e];rfl) k
def G.neSF (a b:List UInt8)(h:Aj P (adv P st)=.bin .neq (.string (mkS a)) (.string (mkS b)))(e:a=b)(k:G P fn Post (nx (adv P st) (.bool false)) u m):G P fn Post st u m :=
 G.bin _ h Hl (fun t w=>by simp only[binOp,Op.stringOp,Lf,decide_eq_true e];rfl) k
def Ahg (a b:List UInt8):mkS a++mkS b=mkS (a++b):=by
 rw[mkS,mkS,ByteArray.mk_append_mk]
def G.addS (a b:List UInt8)(h:Aj P (adv P st)=.bin .add (.string (mkS a)) (.string (mkS b)))(f:a.length+b.length<=9223372036854775807)(k:G P fn Post (nx (adv P st) (.string (mkS (a++b)))) u m):G P fn Post st u m :=
 G.bin _ h Hl (fun t w=>by
  have e:¬ (((mkS a).size+(mkS b).size:Nat):Int)>IntKind.i64.max:=by
   rw[Go.Lib.size_mk,Go.Lib.size_mk];simp[IntKind.max,IntKind.signed,IntKind.bits];omega
  simp only[binOp,Op.stringOp];rw[if_neg e,Ahg];rfl) k
def Agh {t:Option TypeDesc}{x i:Value}(h:Bg P env o=.index t x i):∃ e X I,o=.index e X I/\env X=x/\env I=i/\P.underlying e=t:=by
 cases o<;>simp only[Bg]at h<;>try cases h
 any_goals ((repeat' split at h)<;>cases h;done)
 exact⟨_,_,_,rfl,rfl,rfl,rfl⟩
def Lk {s d:Option TypeDesc}(h:Bg P env o=.conv s d x):∃ f e X,o=.convert f e X/\env X=x/\P.underlying f=s/\P.underlying e=d:=by
 cases o<;>simp only[Bg]at h<;>try cases h
 any_goals ((repeat' split at h)<;>cases h;done)
 exact⟨_,_,_,rfl,rfl,rfl,rfl⟩
def G.idxS (l:List UInt8)(i:Nat)(b:UInt8)(h:Aj P (adv P st)=.index (some .string) (.string (mkS l)) (.int .i64 i))(j:l[i]?=some b)
 (k:G P fn Post (nx (adv P st) (.int .u8 (b.toNat:Int))) u m):G P fn Post st u m:=by
 refine G.ask h mV (fun env o e w _=>?_) k;obtain⟨t,X,I,g,C,D,E⟩:=Agh e;obtain⟨A,J,n,pos,after,f⟩:=o;simp only at g;subst g;obtain⟨hi,j⟩:=Ayu.1 j;have F:(mkS l)[i]?=some b:=by
  have H:i<(mkS l).size:=by rw[Go.Lib.size_mk];exact hi
  rw[getElem?_pos (mkS l) i H]
  congr 1
 have h0:(0:Int)<=(i:Int):=oV
 simp[execOp,C,D,Instr.index,run_underlying E,asIntOf,F,h0]
def G.sliceSTo (l:List UInt8)(n:Nat)(h:Aj P (adv P st)=.slice none (.string (mkS l)) none (some (.int .i64 n)) none)(K:Wp (Mu P) (adv P st)=true)(Q:n<=l.length)
 (k:G P fn Post (nx (adv P st) (.string (mkS (l.take n)))) u m):G P fn Post st u m:=by
 refine G.askQ _ h K mV (fun env o e g w hp=>?_) k;obtain⟨t,X,L,H,M,j,D,E,F,I,N⟩:=Je e;obtain⟨C,O,A,pos,after,f⟩:=o;simp only at j;subst j;simp only[Mu]at g;split at g
 ·rename_i hu;have J:(0:Int)<=n/\(n:Int)<=(mkS l).size:=by rw[Go.Lib.size_mk];omega
  simp only[execOp,D,E,F,I];simp only[Instr.sliceAt,Sem.run_bind,run_underlying hu,Result.andThen_ok,Instr.slice,Instr.sliceBounds,Instr.sliceBound,asIntOf,Sem.run_pure,if_true,Option.isSome,Sem.run_ite,J,and_self,A0y,A43];simp[Go.Lib.extract_mk]
 cases g
def G.sliceSFrom (l:List UInt8)(n:Nat)(h:Aj P (adv P st)=.slice none (.string (mkS l)) (some (.int .i64 n)) none none)(N:Wp (Mu P) (adv P st)=true)(R:n<=l.length)
 (k:G P fn Post (nx (adv P st) (.string (mkS (l.drop n)))) u m):G P fn Post st u m:=by
 refine G.askQ _ h N mV (fun env o e g w hp=>?_) k;obtain⟨t,X,L,H,M,j,D,E,F,I,O⟩:=Je e;obtain⟨C,Q,A,pos,after,f⟩:=o;simp only at j;subst j;simp only[Mu]at g;split at g
 ·rename_i hu;have J:(0:Int)<=n/\(n:Int)<=(mkS l).size:=by rw[Go.Lib.size_mk];omega
  simp only[execOp,D,E,F,I];simp only[Instr.sliceAt,Sem.run_bind,run_underlying hu,Result.andThen_ok,Instr.slice,Instr.sliceBounds,Instr.sliceBound,asIntOf,Sem.run_pure,if_true,Option.isSome,Sem.run_ite,J,and_self,A0y,A43];have K:(mkS l).extract n (mkS l).size=mkS (l.drop n):=by
   rw[Go.Lib.extract_mk,Go.Lib.size_mk,Ay6 mV]
  simp[K]
 cases g
def G.convI (F g H:IntKind)(x z:Int)(h:Aj P (adv P st)=.conv (some (.int F)) (some (.int g)) (.int H x))(E:g.wrap x=z)
 (k:G P fn Post (nx (adv P st) (.int g z)) u m):G P fn Post st u m:=by
 refine G.ask h mV (fun env o e w _=>?_) k;obtain⟨s,d,X,j,A,C,D⟩:=Lk e;obtain⟨t,I,n,pos,after,f⟩:=o;simp only at j;subst j;simp[execOp,convert,A,run_underlying C,run_underlying D,Conv.intToInt,E]
def Ajv {z:Int}(e:0<=z)(f:z<256):IntKind.u8.wrap z=z:=by
 simp only[IntKind.wrap,IntKind.signed,IntKind.bits];simp;omega
def G.sub8 (x y z:Int)(h:Aj P (adv P st)=.bin .sub (.int .u8 x) (.int .u8 y))(g:x-y=z)(e:0<=z)(f:z<256)
 (k:G P fn Post (nx (adv P st) (.int .u8 z)) u m):G P fn Post st u m :=
 G.bin _ h Cp (fun t w=>by simp[binOp,Op.intArith,g,Ajv e f]) k
def Bm (l:List UInt8):List Value:=l.map fun b=>Value.int .u8 (b.toNat:Int)
def Ay (l:List UInt8):(Bm l).length=l.length:=by simp[Bm]
def Pg (l e:List UInt8):Bm (l++e)=Bm l++Bm e:=by simp[Bm]
def Lz (l:List UInt8):Ba 1 (Bm l):=by
 intro e f;simp only[Bm,Ayx]at f;obtain⟨b,_,rfl⟩:=f;exact⟨rfl,fun x g=>by simp[Value.cells]at g;subst g;rfl⟩
def Af.take {m0:PH}{t:TypeId}{sz:Nat}{es:List Value}{a:Option Addr}{n c k:Nat}(C:Af m0 m (.slice a n c) t sz es)(H:k<=es.length):Af m0 m (.slice a k c) t sz (es.take k):=by
 refine⟨fun e J=>C.1 e (A0o J),?_⟩;rcases C.2 with ⟨A,rfl,K⟩|⟨g,cap,rest,E,rfl,A,F,j,h⟩
 ·left;simp at A H;obtain⟨rfl,rfl,rfl⟩:=A;subst H;exact⟨rfl,rfl,K⟩
 right;simp only[Value.slice.injEq]at A;obtain⟨rfl,rfl,rfl⟩:=A;have e:A6 es=A6 (es.take k)++A6 (es.drop k):=by rw[<-C8,A2i]
 refine⟨g,c,A6 (es.drop k)++rest,E,by rw[<-Azm,<-e],gV,gV,by rw[<-Azm,<-e];exact j,fun x f=>?_⟩;rcases Ay5.1 f with f|f
 ·simp only[A6,A4d]at f;obtain⟨I,D,f⟩:=f;exact (C.1 I (A1v D)).2 x f
 exact h x f
def Af.cap {m0:PH}{t:TypeId}{sz:Nat}{es:List Value}{a:Option Addr}{n c:Nat}(A:Af m0 m (.slice a n c) t sz es):n<=c:=by
 rcases A.2 with ⟨f,rfl,D⟩|⟨g,cap,rest,C,rfl,f,h,j,e⟩
 ·simp at f;omega
 simp at f;omega
def G.convB (m0:PH)(t e:TypeId)(l:List UInt8)(b n c:Nat)(h:Aj P (adv P st)=.conv (some (.slice e)) (some .string) (.slice (some ⟨b,0,none⟩) n c))(N:P.underlying e=some (.int .u8))
 (D:Af m0 m (.slice (some ⟨b,0,none⟩) n c) t 1 (Bm l)) (k:G P fn Post (nx (adv P st) (.string (mkS l))) u m):G P fn Post st u m:=by
 refine G.ask h mV (fun env o f w hp=>?_) k;obtain⟨s,d,X,A,I,J,C⟩:=Lk f;obtain⟨H,R,F,pos,after,g⟩:=o;simp only at A;subst A;have Q:=(hp (by simp[Hg,Ab9 C mV])).2;have E:=D.len;rw[Ay]at E;subst E;have:=run_convert_bytes_back (P:=P) w s d e ⟨b,0,none⟩ c l J N C (fun j O=>by
  have K:=D.el (j:=j) (e:=.int .u8 (l[j].toNat:Int)) (by simp[Bm,O]);have L:=(K 0 (.int .u8 (l[j].toNat:Int)) (by simp[Value.cells])).cell Q;rw[D5];simpa using L)
 simp[execOp,I,this]
end rules
end
section
variable [Cc] [Cm]
variable {P:Program} [A5 P] {fn:Func} {Post:By} {st:List KI×S} {u m:PH}
def G.q (a b:List UInt8)(hab:a=b)(k:G P fn Post (nx (adv P st) (.bool true)) u m)(h:Aj P (adv P st)=.bin .eql (.string (mkS a)) (.string (mkS b)):=by kernel_rfl):G P fn Post st u m:=G.eqST a b h hab k
def G.w (a b:List UInt8)(hab:a≠b)(k:G P fn Post (nx (adv P st) (.bool false)) u m)(h:Aj P (adv P st)=.bin .eql (.string (mkS a)) (.string (mkS b)):=by kernel_rfl):G P fn Post st u m:=G.eqSF a b h hab k
def G.x (a b:List UInt8)(hab:a≠b)(k:G P fn Post (nx (adv P st) (.bool true)) u m)(h:Aj P (adv P st)=.bin .neq (.string (mkS a)) (.string (mkS b)):=by kernel_rfl):G P fn Post st u m:=G.neST a b h hab k
def G.y (a b:List UInt8)(hab:a=b)(k:G P fn Post (nx (adv P st) (.bool false)) u m)(h:Aj P (adv P st)=.bin .neq (.string (mkS a)) (.string (mkS b)):=by kernel_rfl):G P fn Post st u m:=G.neSF a b h hab k
def tV (l:List UInt8):SV:=.v (.string (mkS l))
end
end Go.Proofs.YtijchbjkdllolaaGreatDoor
