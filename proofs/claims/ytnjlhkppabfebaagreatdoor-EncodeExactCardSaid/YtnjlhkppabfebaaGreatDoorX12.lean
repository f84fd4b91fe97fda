/- Parts of one proof, joined by a program. -/
import Derived.Test.YtnjlhkppabfebaaGreatDoorX11
set_option linter.defProp false
set_option linter.unusedVariables false
set_option linter.unusedSimpArgs false
set_option linter.unusedSectionVars false
set_option maxHeartbeats 16000000
namespace Go.Proofs.YtnjlhkppabfebaaGreatDoor
open Go.Proofs.Tryz
open Go.RowKit Go.MapKept
def A8d:=@List.length_filter_le
section
variable {u:PH}
def Bfp {v H:Value}{T:List (Par×Rat)}(h:Ac u v 3 (T.map Bt))(g:Ac u H 3 (T.map Bt))(P:T.length<=1000000) :
 Fn0 prog 28 [v,H] u fun r _=>r=.bool true:=by
 obtain⟨a,c,rfl⟩:=h.opn;obtain⟨I,C,rfl⟩:=g.opn;rw[A03]at h g⊢;refine Fn0.o func28<|G.nF T.length T.length<|G.l (ι:=Nat) (fun i=>[(0,sV a T.length c),(1,sV I T.length C),(12,iV T.length),(13,iV i)]) (fun _=>[])
  (fun i R O=>i<=T.length/\O=PH.mt) (fun i=>T.length-i) 0 ⟨oV,rfl⟩ ?_
 rintro J i N U Q n ⟨hi,rfl⟩;by_cases m:i<T.length
 ·refine G.lT i T.length ?_;have d:T[i]?=some T[i]:=A01 m;obtain⟨t,E,rfl,K⟩:=Ac.at' (h.mono n) (j:=i) (e:=Bt T[i]) (by simp[d]);obtain⟨z,F,rfl,L⟩:=Ac.at' (g.mono n) (j:=i) (e:=Bt T[i]) (by simp[d]);exact G.a t E T.length c i 3 oV<|G.lU (some 3) t (E+i*3) (Bt T[i]) K<|G.a z F T.length C i 3 oV<|G.lU (some 3) z (F+i*3) (Bt T[i]) L<|G.neAgg 79 #[.int .i64 T[i].1.1,.string (mkS T[i].1.2),.string (mkS (Ae T[i].2))] #[.int .i64 T[i].1.1,.string (mkS T[i].1.2),.string (mkS (Ae T[i].2))] true kV kV kV (Bgh T[i])<|G.i i<|G.b (N (i+1) _ _ _ cV n ⟨oV,rfl⟩ oV)
 obtain rfl:i=T.length:=oV;exact G.lF T.length T.length<|G.r (.bool true) ⟨rfl,rfl⟩
def Bof:List (List UInt8×Nat):=[([120],2),([99],3)]
def Ble (g:Nat):List Br:=[([114],[0,1],(some ⟨g,0,none⟩,2))]
def Blc:List Al:=[(0,1,0),(1,2,0)]
def Blf:List (List UInt8):=[[50],[114,101,100]]
def Bsn {g:Nat}(h:Ac u (.slice (some ⟨g,0,none⟩) 2 2) 1 (Ai [0,1])):Bl u Bof (Ble g) Blc (-1) where
 att:=⟨Sc jV,fun a e=>by simp[Bof]at e;rcases e with rfl|rfl<;>decide⟩
 rel:=⟨Sc (by show (([[114]]:List (List UInt8)).all Hn&&decide ([[114]]:List (List UInt8)).Nodup)=true;decide +kernel),fun r d=>by simp[Ble]at d;subst d;simp,fun r d a e=>by simp[Ble]at d;subst d;simp at e;show a<2;omega,fun r d=>by simp[Ble]at d;subst d;simp,fun r d k x y m j=>by
  simp[Ble]at d;subst d
  match k,m,j with
  |0,m,j=>simp at m j;omega
  |k+1,m,j=>simp at j,fun a e=>⟨_,A12.2 rfl,by
  have:a<2:=e;simp;omega⟩,fun r d=>by simp[Ble]at d;subst d;exact h⟩
 feat:=⟨fun f n=>by
  simp[Blc]at n;rcases n with rfl|rfl
  ·exact⟨[120],2,rfl,.inl ⟨rfl,rfl,fV⟩,fV⟩
  exact⟨[99],3,rfl,.inr ⟨rfl,rfl,rfl⟩,fV⟩,fV⟩
 t1:=fV
 t2:=fV
 r1:=by show 0<1;omega
 r2:=by show 1<=6;omega
 f2:=fV
 l1:=fV
 l2:=fun l t=>oV
def Bqa:SmW (Lk [50])/\Ae (Lk [50]) = [50]:=Aa7 ⟨2,⟨jV,jV⟩,jV⟩
def Bnb:Bw Bof Blf:=⟨rfl,fun i x t d e=>by
 match i,d,e with
 |0,d,e=>cases d;cases e;exact .inr (.inr (.inr ⟨rfl,2,⟨jV,jV⟩,jV⟩))
 |1,d,e=>cases d;cases e;exact .inr (.inl ⟨rfl,jV⟩)
 |i+2,d,e=>simp[Bof]at d⟩
def Bm9:Dx Blc Blf Blc.length = [(((0:Int),[]),Lk [50]),(((1:Int),[114,101,100]),1)]:=by
 show Dx Blc Blf 2=_;rw[Aab (i:=1) (f:=(1,2,0)) rfl,Aab (i:=0) (f:=(0,1,0)) rfl,Ana];unfold Jf;simp[Blf]
def Br9:G4 Blc (-1) Blf=true:=jV
def Bh2 :Fn0 prog 5 [] u fun r _=>r=.bool true:=by
 refine Fn0.o func5<|G.buildU 73 2 24 (.agg #[.string (mkS []),.int .i64 0]) [.agg #[.string (mkS [120]),.int .i64 (2:Nat)],.agg #[.string (mkS [99]),.int .i64 (3:Nat)]] kV (fun x d=>by
  simp only[A1g,A11,or_false]at d;rcases d with rfl|rfl<;>exact⟨rfl,A1o.1 rfl⟩) rfl oV mV mV ?_
 intro g1 u1 l1 Y;refine G.B 3 1 8 (.int .i64 0) [.int .i64 (0:Nat),.int .i64 (1:Nat)] (Av [0,1]) ?_;intro g2 u2 l2 Z;refine G.buildU 70 2 40 (.agg #[.string (mkS []),.slice none 0 0]) [.agg #[.string (mkS [114]),.slice (some ⟨g2,0,none⟩) 2 2]] kV (fun x d=>by
  simp only[A1g,A11,or_false]at d;subst d;exact⟨rfl,A1o.1 rfl⟩) rfl oV mV mV ?_
 intro g3 u3 U e3;refine G.buildU 75 3 24 (.agg #[.int .i64 0,.int .i64 0,.int .i64 0]) [.agg #[.int .i64 (0:Nat),.int .i64 (1:Nat),.int .i64 (0:Nat)],.agg #[.int .i64 (1:Nat),.int .i64 (2:Nat),.int .i64 (0:Nat)]] kV (fun x d=>by
  simp only[A1g,A11,or_false]at d;rcases d with rfl|rfl<;>exact⟨rfl,A1o.1 rfl⟩) rfl oV mV mV ?_
 intro g4 I P e4;have e:H5 I (.agg #[.slice (some ⟨g1,0,none⟩) 2 2,.slice (some ⟨g3,0,none⟩) 1 1,.slice (some ⟨g4,0,none⟩) 2 2,.int .i64 (-1)]) Bof (Ble g2) Blc (-1) :=
  ⟨_,_,_,_,_,_,rfl,Y.listP.mono ((l2.trans U).trans P),e3.listP.mono P,e4.listP⟩
 have n:Bl I Bof (Ble g2) Blc (-1):=Bsn (Z.listP.mono (U.trans P));refine G.B 9 1 16 (.string (mkS [])) [.string (mkS [50]),.string (mkS [114,101,100])] (G6 [[50],[114,101,100]]) ?_;intro g5 u5 R e5;have hv:=Bmj ⟨e.mono R,n.mono R,(e5.listP:Ac u5 _ 1 (Blf.map nmV)),Bnb⟩;refine G.c call19 hv ?_;rintro v6 u6 l6 ⟨lv,rfl,m⟩;rw[Bm9]at m;obtain⟨va,vc,rfl⟩:=m.opn;refine G.buildU 77 2 24 (.agg #[.int .i64 0,.string (mkS [])]) [.agg #[.int .i64 0,.string (mkS [])],.agg #[.int .i64 1,.string (mkS [114,101,100])]] kV (fun x d=>by
  simp only[A1g,A11,or_false]at d;rcases d with rfl|rfl<;>exact⟨rfl,A1o.1 rfl⟩) rfl oV mV mV ?_
 intro g7 u7 V e7;refine G.B 9 1 16 (.string (mkS [])) [.string (mkS [50]),.string (mkS [114,101,100])] (G6 [[50],[114,101,100]]) ?_;intro g8 X T e8;have z:PH.le I X:=((R.trans l6).trans V).trans T;have hd:=Anh (Q:=[((0:Int),[]),((1:Int),[114,101,100])]) ⟨e.mono z,n.mono z,(e8.listP:Ac X _ 1 (Blf.map nmV)),Bnb⟩ ((e7.listP).mono T) (by unfold Hb;decide +kernel) (fun x d=>by
  rw[Bm9]at d;simp only[A1g,A11,or_false]at d;rcases d with rfl|rfl<;>simp) mV
 refine G.c call16 hd ?_;rintro v9 u9 W ⟨ld,rfl,g⟩;rw[Bm9]at g;have C:F5 [((0:Int),[]),((1:Int),[114,101,100])] [(((0:Int),[]),Lk [50]),(((1:Int),[114,101,100]),1)] = [[49],[50],[49]]:=by
  unfold F5;simp only[A2u,A7m,Fo];simp[Bqa.2,Sv]
 rw[C]at g;obtain⟨da,dc,rfl⟩:=g.opn;refine G.eT 0 0<|G.buildU 79 3 40 (.agg #[.int .i64 0,.string (mkS []),.string (mkS [])]) [.agg #[.int .i64 0,.string (mkS []),.string (mkS [50])],.agg #[.int .i64 1,.string (mkS [114,101,100]),.string (mkS [49])]] kV (fun x d=>by
  simp only[A1g,A11,or_false]at d;rcases d with rfl|rfl<;>exact⟨rfl,A1o.1 rfl⟩) rfl oV mV mV ?_
 intro a0 a4 v J;have t : [Value.agg #[.int .i64 0,.string (mkS []),.string (mkS [50])],.agg #[.int .i64 1,.string (mkS [114,101,100]),.string (mkS [49])]]=([(((0:Int),[]),Lk [50]),(((1:Int),[114,101,100]),1)]:List (Par×Rat)).map Bt:=by
  simp[Bt,Bqa.2,Sv]
 have h:=J.listP;rw[t]at h;refine G.c call28 (Bfp (m.mono ((((V.trans T).trans W).trans v))) h mV) ?_;rintro a9 a5 E rfl;refine G.eT 0 0<|G.B 29 1 16 (.string (mkS [])) [.string (mkS [49]),.string (mkS [50]),.string (mkS [49])] (Gc [[49],[50],[49]]) ?_;intro a1 a6 F K;refine G.c call18 (Ag2 (ts:=[[49],[50],[49]]) (ts':=[[49],[50],[49]]) (g.mono ((v.trans E).trans F)) K.listP mV mV) ?_;rintro aa a7 N rfl;refine G.B 9 1 16 (.string (mkS [])) [.string (mkS [50]),.string (mkS [114,101,100])] (G6 [[50],[114,101,100]]) ?_;intro a2 H O L;have j:PH.le I H:=((((((z.trans W).trans v).trans E).trans F).trans N).trans O);refine G.c call26 (Yv ⟨e.mono j,n.mono j,(L.listP:Ac H _ 1 (Blf.map nmV)),Bnb⟩) ?_;rintro ab a8 a3 rfl;rw[Br9];exact G.r (.bool true) ⟨rfl,rfl⟩
end
def Bn4 {u:PH}{v v':Value}{F:CF}{K K':Nat}(h:No u v F K)(h':No u v' F K')(hK:K<=1000000):Fn0 prog 29 [v,v'] u fun r _=>r=.bool true:=by
 obtain⟨T,Q,Z,L,a2,N,rfl,hT,hQ,cT,cQ,kT,kQ⟩:=h;obtain⟨g,d,b1,R,b2,U,rfl,hT',X,P,O,kT',a0⟩:=h';obtain rfl:g=T:=P.ext Et cT;obtain rfl:d=Q:=O.ext A0t cQ;refine Fn0.o func29<|G.y (Ae F.c) (Ae F.c) rfl<|G.nF g.length g.length<|G.nF d.length d.length<|G.l (ι:=Nat) (fun i=>[(2,.p 0 0),(3,.p 1 0),(32,iV g.length),(33,iV i)])
  (fun _=>[(0,⟨33,[tV (Ae F.c),sV Z g.length L,sV a2 d.length N]⟩),(1,⟨33,[tV (Ae F.c),sV b1 g.length R,sV b2 d.length U]⟩)])
  (fun i u' Y=>i<=g.length/\Y=PH.mt) (fun i=>g.length-i) 0 ⟨oV,rfl⟩ ?_
 rintro J i I u1 m1 C ⟨hi,rfl⟩;by_cases n:i<g.length
 ·refine G.lT i g.length ?_;have m:g[i]?=some g[i]:=A01 n;obtain⟨t,E,rfl,V⟩:=Ac.at' (hT.mono C) (j:=i) (e:=Bt g[i]) (by simp[m]);obtain⟨z,H,rfl,W⟩:=Ac.at' (hT'.mono C) (j:=i) (e:=Bt g[i]) (by simp[m]);exact G.a t E g.length L i 3 oV<|G.lU (some 3) t (E+i*3) (Bt g[i]) V<|G.a z H g.length R i 3 oV<|G.lU (some 3) z (H+i*3) (Bt g[i]) W<|G.neAgg 79 #[.int .i64 g[i].1.1,.string (mkS g[i].1.2),.string (mkS (Ae g[i].2))] #[.int .i64 g[i].1.1,.string (mkS g[i].1.2),.string (mkS (Ae g[i].2))] true kV kV kV (Bgh g[i])<|G.i i<|G.b (I (i+1) _ _ _ cV C ⟨oV,rfl⟩ oV)
 obtain rfl:i=g.length:=oV
 refine G.lF g.length g.length ?_;clear I;refine G.l (ι:=Nat) (fun i=>[(2,.p 0 0),(3,.p 1 0),(50,iV d.length),(51,iV i)])
  (fun _=>[(0,⟨33,[tV (Ae F.c),sV Z g.length L,sV a2 d.length N]⟩),(1,⟨33,[tV (Ae F.c),sV b1 g.length R,sV b2 d.length U]⟩)])
  (fun i u' Y=>i<=d.length/\Y=PH.mt) (fun i=>d.length-i) 0 ⟨oV,rfl⟩ ?_
 rintro J i I u2 m2 l2 ⟨hi,rfl⟩;by_cases n:i<d.length
 ·refine G.lT i d.length ?_;have m:d[i]?=some d[i]:=A01 n;obtain⟨t,E,rfl,V⟩:=Ac.at' (hQ.mono (C.trans l2)) (j:=i) (e:=D8 d[i]) (by simp[m]);obtain⟨z,H,rfl,W⟩:=Ac.at' (X.mono (C.trans l2)) (j:=i) (e:=D8 d[i]) (by simp[m]);exact G.a t E d.length N i 5 oV<|G.lU (some 5) t (E+i*5) (D8 d[i]) V<|G.a z H d.length U i 5 oV<|G.lU (some 5) z (H+i*5) (D8 d[i]) W<|G.neAgg 99 #[.int .i64 d[i].1.1.1,.string (mkS d[i].1.1.2),.int .i64 d[i].1.2.1,.string (mkS d[i].1.2.2),.string (mkS (Ae d[i].2))] #[.int .i64 d[i].1.1.1,.string (mkS d[i].1.1.2),.int .i64 d[i].1.2.1,.string (mkS d[i].1.2.2),.string (mkS (Ae d[i].2))] true kV kV kV (Bqu d[i])<|G.i i<|G.b (I (i+1) _ _ _ cV l2 ⟨oV,rfl⟩ oV)
 obtain rfl:i=d.length:=oV
 exact G.lF d.length d.length<|G.r (.bool true) ⟨rfl,rfl⟩
section
open Go.RowKit Go.MapKept Go.Shelf Go.Sort
variable {L:List Par}
def S1 (L:List Par):E2 (L.map Ap)=L.flatMap Ci:=by
 unfold E2;rw[List.flatMap_map];rfl
def F0 (L:List Par):(L.flatMap Ci).length=L.length*2:=by
 induction L with
 |nil=>rfl
 |cons x L ih=>rw[A6o,A1d,ih,Nf,A3f,A16];omega
def Add {L d:List Par}(j:d.length=L.length)(rest:List Value):putCells id 0 (flatK Ci 2 d.toArray) (L.flatMap Ci++rest).toArray=(d.flatMap Ci++rest).toArray:=by
 have g:=F0 L;have h:=F0 d;have m:(flatK Ci 2 d.toArray).size=d.length*2:=by rw[size_flatK];simp
 apply Baq;intro t;unfold putCells;rw[Array.getElem?_mapIdx,A3j,A3j,m];by_cases e:t<d.length*2
 ·rw[A1r oV,A1r oV,Qb Nf d t e];have:(L.flatMap Ci)[t]?=some (L.flatMap Ci)[t]:=A01 oV;rw[this];simp only[A4c,A1t,A2w,true_and,if_pos e,id,A6t];rw[get_flatK Ci 2 _ t (by simpa using e)]
 rw[A18 oV,A18 oV,g,h,j];cases hr:rest[t-L.length*2]? with
 |none=>rfl
 |some x =>
  simp only[A4c,A1t,A2w,true_and];rw[if_neg oV]
def Aex (L:List Par):A9 2 (L.map Ap):=by
 intro e g;obtain⟨x,_,rfl⟩:=A1b.1 g;exact⟨rfl,fun y d=>by simp[Ap,Value.cells]at d;rcases d with rfl|rfl<;>rfl⟩
def Aq7 {u m0 m:PH}{v:Value}(hA:Af m0 m v 77 2 (L.map Ap))(a3:L.Nodup)(hl:L.length<=1000000) :
 Ag prog 45 [v,.func (.func 46) #[] #[]] u m fun r u' m'=>r=.tuple #[]/\Af m0 m' v 77 2 ((E6 Bk L).map Ap):=by
 have hp:=Ir (c:=Bk) L;have J:(E6 Bk L).length=L.length:=hp.length_eq;intro w N;obtain⟨a4,h⟩:=hA;rcases h with ⟨rfl,he,rfl⟩|⟨g,cap,rest,Z,rfl,rfl,O,I,K⟩
 ·have hL:L = []:=by simpa using he
  subst hL;refine (AnyF.slices_SortFunc_none Tryz.sortPar none 0 _ w).mono ?_;rintro e w' ⟨rfl,rfl⟩;exact⟨_,u,m,rfl,N,⟨A08 _,fun _ _ _=>rfl,fun _ _=>rfl,fun _ _ h=>h,⟨rfl,rfl⟩,fun f=>f.elim⟩,rfl,by
   have e:E6 Bk ([]:List Par) = []:=List.length_eq_zero_iff.1 J;rw[e];exact Af.nil _ _ _⟩
 rw[A03]at O⊢;rw[S1]at I N;have R:w.heap[g]?=some (.cells (L.flatMap Ci++rest).toArray 77 (0,0)):=N.pm g _ (Ab _ _ _);have hH:HoldsK Ci 2 w g 0 L.toArray:=Ani (enc:=Ci) (k:=2) Nf R (by
  show (L.flatMap Ci++rest).take (L.length*2)=_;rw[A6n (by rw[F0];omega),A1j (by rw[F0];omega)])
 have W:g<w.heap.size:=Aw R;have H:=AnyQ.slices_SortFunc_total Tryz.sortPar 2 (fun w=>kV) (fun w=>kV) Ci (fun _=>rfl) (fun x v hv=>by simp at hv;rcases hv with rfl|rfl<;>rfl) Bk Et.swo 46 #[] g 0 cap L.toArray w call46 (Ai5 g 0 _ w) hH W gV Et.tot
 change Calls prog 45 _ _ _ at H;simp only[A7s]at H;refine Calls.mono H ?_;rintro e w' ⟨rfl,nn,os,rfl⟩;change Ady _ _ _ (sortWorldK Ci 2 w g 0 nn (E6 Bk L).toArray os);obtain⟨w',U⟩:∃ w',w'=sortWorldK Ci 2 w g 0 nn (E6 Bk L).toArray os:=⟨_,rfl⟩;have C:w'.heap=w.heap.modify g (onCells (putCells id 0 (flatK Ci 2 (E6 Bk L).toArray)))++os:=by rw[U];rfl
 have a0:w'.os=w.os/\w'.output=w.output:=by rw[U];exact⟨rfl,rfl⟩
 rw[<-U];have a1:w.heap.size<=w'.heap.size:=by rw[C,Array.size_append,A83];omega
 have F:∀ k,k<w.heap.size->k≠g->w'.heap[k]?=w.heap[k]?:=fun k d T=>by
  rw[C,A5s (by rw[A83];exact d),A8c,if_neg (fun e=>T e.symm)]
 have P:w'.heap[g]?=some (.cells ((E6 Bk L).flatMap Ci++rest).toArray 77 (0,0)):=by
  rw[C,A5s (by rw[A83];exact W),A8c,if_pos rfl,R];show some (Obj.cells (putCells id 0 _ _) _ _)=_;rw[Add J]
 have a2:u g=none:=(N.ap g).resolve_right (by rw[Ab];simp);have Q:=Aex (E6 Bk L);refine⟨_,fun k=>if k<w.heap.size then u k else w'.heap[k]?,m0.upd g (.cells (E2 ((E6 Bk L).map Ap)++rest).toArray 77 (0,0)),rfl,⟨?_,?_,?_,?_⟩,⟨a1,?_,?_,?_,a0,fun f=>f.elim⟩,rfl,Q,.inr ⟨g,cap,rest,Z,rfl,by rw[A03,J],by rw[A03,J];exact O,?_,K⟩⟩
 ·intro k o d;simp only at d;split at d
  ·rename_i E;have T:k≠g:=fun e=>by subst e;rw[a2]at d;cases d
   rw[F k E T];exact N.pu k o d
  exact d
 ·intro k o d;by_cases e:k=g
  ·subst e;rw[Ab]at d;cases d;rw[P,S1]
  rw[Ad _ _ e]at d;have:=N.pm k o (by rw[Ad _ _ e];exact d);rw[F k (Aw this) e];exact this
 ·intro k;simp only;by_cases E:k<w.heap.size
  ·rw[if_pos E];rcases N.ap k with h|h
   ·exact .inl h
   by_cases e:k=g
   ·subst e;rw[Ab]at h;cases h
   right;rw[Ad _ _ e]at h⊢;exact h
  right;have e:k≠g:=fun e=>oV;rw[Ad _ _ e];have:=N.pm.none (g:=k) (by show w.heap.size<=k;omega);rw[Ad _ _ e]at this;exact this
 ·intro k cs t fr j z d Y;simp only;by_cases E:k<w.heap.size
  ·rw[if_pos E];by_cases e:k=g
   ·subst e;rw[P]at d;cases d;exfalso;have X:Value.int .u64 z∈(E6 Bk L).flatMap Ci++rest:=by
     rw[A3j]at Y;exact A1k Y
    have V:∀ x∈(E6 Bk L).flatMap Ci++rest,Ax x=true:=fun x hx=>by
     rcases A1h.1 hx with h|h
     ·rw[<-S1]at h;exact Fu Q x h
     exact K x h
    have:=V _ X;cases this
   rw[F k E e]at d;exact N.cl k cs t fr j z d Y
  rw[if_neg E];exact d
 ·intro k d n;refine F k d fun e=>?_;subst e;simp only at n;rw[Ab]at n;cases n
 ·intro k d;simp only;exact if_pos d
 ·intro k d n;by_cases e:k=g
  ·subst e;simp only at n;rw[Ab]at n;cases n
  simp only at n;rw[Ad _ _ e]at n⊢;exact n
 rw[S1,A1d,F0,J];rw[A1d,F0]at I;exact I
end
section
variable {F:List Al}{n:Nat}
def Adm (F:List Al)(lab:Int)(p:Par):Prop:=(p.1 = -1/\0<=lab/\p.2 = [])\/(∃ (k:Nat) (f:Al),p.1=(k:Int)/\F[k]?=some f/\(f.2.1=2\/p.2 = []))
def Dy (F:List Al)(n:Nat):List Nat:=(List.range n).filter fun i=>(F.getD i (0,0,0)).2.1==1
def Amd {f:Al}(d:F[n]?=some f):Dy F (n+1)=if f.2.1=1 then Dy F n++[n] else Dy F n:=by
 unfold Dy;rw[A5d,List.filter_append];have e:(F.getD n (0,0,0))=f:=by simp[A02,d]
 by_cases h:f.2.1=1
 ·rw[if_pos h,List.filter_cons_of_pos (by rw[e];simp[h])];rfl
 rw[if_neg h,List.filter_cons_of_neg (by rw[e];simp[h])];simp
def Aez (F:List Al)(n:Nat):(Dy F n).length<=n:=by
 unfold Dy;exact A04 (A8d _ _) mV
def Xo {n i:Nat}:i∈Dy F n↔i<n/\(F.getD i (0,0,0)).2.1=1:=by
 unfold Dy;simp[A7a]
def Aii (F:List Al)(n:Nat):(Dy F n).Nodup:=List.nodup_range.filter _
def Aeh {u:PH}{v:Value}{T:List (List UInt8×Nat)}{R:List Br}{lab:Int}(U:H5 u v T R F lab)(ok:Bl u T R F lab) :
 Fn0 prog 44 [v] u fun r W=>Ac W r 1 (Ai (Dy F F.length)):=by
 have I:=Adn U ok;obtain⟨xa,xc,xb,xd,xe,X,rfl,a1,a0,E⟩:=U;have a2:=ok.f2;refine Fn0.o func44<|G.c call39 I ?_;rintro v1 u1 l1 rfl;refine G.nF 0 0<|G.l (ι:=Nat×(Option Addr×Nat)) (fun i=>[(3,sV i.2.1 (Dy F i.1).length i.2.2),(10,sV xe F.length X),(11,iV F.length),(12,iV i.1)]) (fun _=>[])
  (fun i W m'=>i.1<=F.length/\Af PH.mt m' (.slice i.2.1 (Dy F i.1).length i.2.2) 3 1 (Ai (Dy F i.1))) (fun i=>F.length-i.1) (0,(none,0)) ⟨oV,Af.nil _ _ _⟩ ?_
 rintro J ⟨i,⟨L,N⟩⟩ H u2 m2 l2 ⟨hi,h⟩;simp only at hi h H;have K:=l1.trans l2;have a3:=Aez F i;by_cases t:i<F.length
 ·refine G.lT i F.length ?_;obtain⟨f,m⟩:∃ f,F[i]?=some f:=⟨_,A01 t⟩;have z:=Amd m;obtain⟨O,P,rfl,ef⟩:=Ac.at' (E.mono K) (j:=i) (e:=Cm f) (by simp[m]);obtain⟨p1,C,p3⟩:=f;simp only at z;refine G.a O P F.length X i 3 t<|G.lU (some 3) O (P+i*3) (.agg #[.int .i64 p1,.int .i64 C,.int .i64 p3]) ef ?_;by_cases Q:C=1
  ·rw[if_pos Q]at z;refine G.eT C 1<|G.buildU 3 1 8 (.int .i64 0) (Ai [i]) kV (Av [i]) rfl oV (by simp[Ai]) (by simp[Ai]) ?_;intro g3 u3 V e3;refine G.append 3 1 8 (.int .i64 0) PH.mt (Ai (Dy F i)) (Ai [i]) (.slice L (Dy F i).length N) g3 0 1 1 kV rfl rfl oV h e3 (Av [i]) rfl oV (by simp[Ai];omega) (by simp[Ai];omega) ?_;intro v4 m4 d;have e4:Ai (Dy F i)++Ai [i]=Ai (Dy F (i+1)):=by rw[z];simp[Ai]
   rw[e4]at d;obtain⟨Y,Z,rfl⟩:=d.shape;have e5:(Ai (Dy F (i+1))).length=(Dy F (i+1)).length:=by simp[Ai]
   rw[e5]at d⊢;exact G.i i<|G.b (H (i+1,(Y,Z)) _ _ _ cV (l2.trans V) ⟨dV,d⟩ dV)
  rw[if_neg Q]at z;refine G.eF C 1<|G.i i ?_;rw[<-z]at h⊢;exact G.b (H (i+1,(L,N)) _ _ _ cV l2 ⟨dV,h⟩ dV)
 obtain rfl:i=F.length:=oV;refine G.lF F.length F.length<|G.give _ _ _ kV h (fun g=>.inl rfl) ?_;intro u3 V hL;exact G.r (.slice L (Dy F F.length).length N) ⟨rfl,hL⟩
end
section
open Go.RowKit Go.MapKept Go.Sort
variable {A:List (Par×Rat)}{C:CF}{F:List Al}
def Bew (F:List Al)(p:Par):Bool:=decide (0<=p.1)&&(F.getD p.1.toNat (0,0,0)).2.1==2
def J9 (F:List Al)(A:List (Par×Rat))(n:Nat):List Par:=((A.take n).map (·.1)).filter (Bew F)
theorem Am7 {n:Nat}{x:Par×Rat}(h:A[n]?=some x):J9 F A (n+1)=if Bew F x.1=true then J9 F A n++[x.1] else J9 F A n:=by
 unfold J9;have e:A.take (n+1)=A.take n++[x]:=by rw[A1n,h];rfl
 by_cases d:Bew F x.1=true
 ·grind
 grind
def Aq1 (F:List Al)(A:List (Par×Rat))(n:Nat):(J9 F A n).length<=A.length:=by
 refine A04 (A8d _ _) ?_;rw[A03,A1e];omega
def Li (i:Nat):Par:=((i:Int),[])
def Le (F:List Al):List Par:=(Dy F F.length).map Li
def K1 (p:Par):A9 2 [Ap p]:=Aex [p]
def Aec (h:(A.map (·.1)).Nodup):(Le F++J9 F A A.length).Nodup:=by
 refine A4p.2 ⟨?_,?_,?_⟩
 ·refine List.Pairwise.map _ (fun a b d e=>?_) (Aii F F.length);unfold Li at e;simp only[A2i]at e;exact d oV
 ·unfold J9;rw[A15];exact h.filter _
 intro a j b m e;subst e;obtain⟨i,hi,rfl⟩:=A1b.1 j;have g:=(A7a.1 m).2;unfold Bew Li at g;simp only[A1m,beq_iff_eq,A23]at g;have n:=(Xo.1 hi).2;omega
theorem Anj (g:Can Bk C.s A){p:Par}:p∈Le F++J9 F A A.length↔(∃ (i:Nat) (f:Al),p=Li i/\F[i]?=some f/\f.2.1=1)\/(C.s p≠0/\∃ (i:Nat) (f:Al),p.1=(i:Int)/\F[i]?=some f/\f.2.1=2):=by
 have j:p∈A.map (·.1)↔C.s p≠0:=by
  constructor
  ·intro h;obtain⟨x,n,rfl⟩:=A1b.1 h;obtain⟨d,e⟩:=g.val x n;rw[<-d];exact e
  intro h;exact A3m fun m=>h (g.out p m)
 rw[A1h];refine or_congr ?_ ?_
 ·unfold Le;rw[A1b];constructor
  ·rintro⟨i,hi,rfl⟩;obtain⟨d,e⟩:=Xo.1 hi;refine⟨i,F[i],rfl,A01 d,?_⟩;rw[A02,A01 d,A4w]at e;exact e
  rintro⟨i,f,rfl,hf,d⟩;refine⟨i,Xo.2 ⟨(A05.1 hf).1,?_⟩,rfl⟩;rw[A02,hf,A4w];exact d
 unfold J9;unfold Bew;constructor
 ·grind
 grind
abbrev Nn (F:List Al)(C:CF)(L:List Par):Prop :=
 Hb Bk L/\∀ p,p∈L↔(∃ (i:Nat) (f:Al),p=Li i/\F[i]?=some f/\f.2.1=1)\/(C.s p≠0/\∃ (i:Nat) (f:Al),p.1=(i:Int)/\F[i]?=some f/\f.2.1=2)
def Nn.eq {L d:List Par}(h:Nn F C L)(e:Nn F C d):L=d :=
 Agg Et h.1 e.1 fun p=>(h.2 p).trans (e.2 p).symm
def Azr (u:PH)(r:Value)(F:List Al)(C:CF):Prop :=
 (r=.tuple #[.slice none 0 0,.int .i64 3]/\∃ L,24<L.length/\Nn F C L)\/∃ (ps:Value) (L:List Par),r=.tuple #[ps,.int .i64 0]/\Ac u ps 2 (L.map Ap)/\L.length<=24/\Nn F C L
end
section
variable {F:List Al}{R:List Br}{T:List (List UInt8×Nat)}{lab:Int}{p:Par}{u:PH}{v:Value}
def Bl3 (F:List Al)(lab:Int)(p:Par):Bool :=
 if p.1 = -1 then decide (0<=lab)&&decide (p.2 = []) else if p.1≥F.length then false else ((F.getD p.1.toNat (0,0,0)).2.1==2)||decide (p.2 = [])
def Bnt (h:-1<=p.1):Bl3 F lab p=true↔Adm F lab p:=by
 unfold Bl3 Adm;by_cases g:p.1 = -1
 ·rw[if_pos g,A1m,decide_eq_true_eq,decide_eq_true_eq];refine⟨fun e=>.inl ⟨g,e⟩,fun e=>?_⟩;rcases e with e|⟨k,f,e,_⟩
  ·exact e.2
  omega
 rw[if_neg g];by_cases m:p.1≥F.length
 ·rw[if_pos m];refine⟨fun e=>absurd e mV,fun e=>?_⟩;rcases e with e|⟨k,f,e,j,_⟩
  ·exact absurd e.1 g
  have:=(A05.1 j).1;omega
 rw[if_neg m];obtain⟨k,t⟩:∃ k:Nat,p.1=(k:Int):=⟨p.1.toNat,oV⟩;have d:F[k]?=some (F[k]'oV):=A01 oV;rw[t,A23,show F.getD k (0,0,0)=F[k]'oV by rw[A02,d];rfl];rw[A4b,decide_eq_true_eq,beq_iff_eq];refine⟨fun e=>.inr ⟨k,_,rfl,d,e⟩,fun e=>?_⟩;rcases e with e|⟨z,f,e,j,n⟩
 ·omega
 obtain rfl:k=z:=oV;rw[d]at j;obtain rfl:=A28 j;exact n
def Bo8 (Q:H5 u v T R F lab)(ok:Bl u T R F lab)(hp:-1<=p.1) :
 Fn0 prog 43 [v,Ap p] u fun r _=>r=.bool (Bl3 F lab p):=by
 obtain⟨W,Y,X,Z,xe,V,rfl,P,O,E⟩:=Q;have U:=ok.f2;obtain⟨g,n⟩:=p;simp only at hp;refine Fn0.o func43 ?_;unfold Bl3;dsimp only;by_cases t:g = -1
 ·rw[if_pos t];refine G.eT' g (-1) t ?_;by_cases d:0<=lab
  ·refine G.hT' lab 0 d ?_;rw[decide_eq_true d];by_cases h:n = []
   ·exact G.q n [] h<|G.r (.bool true) ⟨rfl,by rw[decide_eq_true h];rfl⟩
   exact G.w n [] h<|G.r (.bool false) ⟨rfl,by rw[decide_eq_false h];rfl⟩
  exact G.hF' lab 0 d<|G.r (.bool false) ⟨rfl,by rw[decide_eq_false d];rfl⟩
 rw[if_neg t];refine G.eF' g (-1) t ?_;by_cases d:g≥F.length
 ·rw[if_pos d];exact G.hT' g F.length d<|G.r (.bool false) ⟨rfl,rfl⟩
 rw[if_neg d];refine G.hF' g F.length d ?_;obtain⟨k,rfl⟩:∃ k:Nat,g=(k:Int):=⟨g.toNat,oV⟩;have K:k<F.length:=oV;have J:F[k]?=some F[k]:=A01 K;rw[A23,show F.getD k (0,0,0)=F[k] by rw[A02,J];rfl];obtain⟨C,H,rfl,I⟩:=Ac.at' E (j:=k) (e:=Cm F[k]) (by simp[J]);generalize F[k]=f at I;obtain⟨L,m,N⟩:=f;refine G.a C H F.length V k 3 K<|G.f 75 C (H+k*3) 1 1<|G.lU none C (H+k*3+1) (.int .i64 m) (I.fld (j:=1) (xs:=#[.int .i64 L,.int .i64 m,.int .i64 N]) rfl rfl) ?_;by_cases h:m=2
 ·exact G.eT m 2<|G.r (.bool true) ⟨rfl,by rw[h];rfl⟩
 refine G.eF m 2 ?_;have e:(m==2)=false:=by rw[beq_eq_false_iff_ne];exact h
 by_cases z:n = []
 ·exact G.q n [] z<|G.r (.bool true) ⟨rfl,by rw[e,decide_eq_true z];rfl⟩
 exact G.w n [] z<|G.r (.bool false) ⟨rfl,by rw[e,decide_eq_false z];rfl⟩
def Bqz {u m:PH}{b:Nat}{x:Par×Rat}(n:ElP m b 0 v)(e:H5 u v T R F lab)(ok:Bl u T R F lab)(hp:-1<=x.1.1) :
 FnK prog 42 [Bt x,.pointer (some ⟨b,0,none⟩)] u m fun v _=>v=.bool (!Bl3 F lab x.1):=by
 have d:=Bo8 (p:=x.1) e ok hp;obtain⟨t,C,z,E,H,I,rfl,j,h,g⟩:=e;refine FnK.of func42 kV kV<|G.lM (some 4) b 0 (.agg #[.slice t T.length C,.slice z R.length E,.slice H F.length I,.int .i64 lab]) n<|G.c call43 d ?_;rintro L K J rfl;cases Bl3 F lab x.1 with
 |true=>exact G.r (.bool false) ⟨rfl,rfl⟩
 |false=>exact G.r (.bool true) ⟨rfl,rfl⟩
def Bpu {u m:PH}{v cap:Value}{T:List (Par×Rat)}{fid:Nat}(p:Par×Rat->Bool)(h:Ac u v 3 (T.map Bt))(V:T.length<=1000000)
 (d:∀ args w,(callFunc fid args).run prog w=.ok (.enter fid args) w) (E:∀ t∈T,∀ I,PH.le u I->FnK prog fid [Bt t,cap] I m fun v _=>v=.bool (p t)) :
 FnK prog 85 [v,.func (.func fid) #[] #[cap]] u m fun U _=>∃ z:Int,U=.int .i64 z/\(0<=z↔∃ t∈T,p t=true):=by
 obtain⟨a,c,rfl⟩:=h.opn;rw[A03]at h⊢;refine FnK.of func85 kV kV<|G.l (ι:=Nat) (fun i=>[(0,sV a T.length c),(1,.v (.func (.func fid) #[] #[cap])),(7,iV T.length),(8,iV i)]) (fun _=>[])
  (fun i I P=>i<=T.length/\(∀ j (g:j<T.length),j<i->p (T[j]'g)=false)/\P=m) (fun i=>T.length-i) 0 ⟨oV,fun j g h=>oV,rfl⟩ ?_
 rintro J i O Q W H ⟨hi,h0,rfl⟩;by_cases n:i<T.length
 ·refine G.lT i T.length ?_;have C:T[i]?=some T[i]:=A01 n;obtain⟨K,L,rfl,N⟩:=Ac.at' (h.mono H) (j:=i) (e:=Bt T[i]) (by simp[C]);refine G.a K L T.length c i 3 oV<|G.lU (some 3) K (L+i*3) (Bt T[i]) N<|G.callK fid [Bt T[i],cap] kV d (E T[i] (A09 n) Q H) ?_;rintro Y X l2 rfl;cases hp:p T[i] with
  |true=>exact G.r (.int .i64 i) ⟨rfl,_,rfl,fun _=>⟨_,A09 n,hp⟩,fun _=>oV⟩
  |false =>
   refine G.i i ?_;exact G.b (O (i+1) _ _ _ cV (H.trans l2) ⟨oV,fun j g h=>by
    rcases (by omega:j<i\/j=i) with e|rfl
    ·exact h0 j g e
    exact hp,rfl⟩ oV)
 obtain rfl:i=T.length:=oV;refine G.lF T.length T.length ?_;exact G.r (.int .i64 (-1)) ⟨rfl,_,rfl,fun h=>oV,fun⟨f,E,hp⟩=>by
  obtain⟨j,g,rfl⟩:=A2y E;rw[h0 j g g]at hp;cases hp⟩
def Blr {u m:PH}{v cap:Value}{T:List (Par×Rat)}{fid:Nat}(p:Par×Rat->Bool)(h:Ac u v 3 (T.map Bt))(C:T.length<=1000000)
 (d:∀ args w,(callFunc fid args).run prog w=.ok (.enter fid args) w) (n:∀ t∈T,∀ j,PH.le u j->FnK prog fid [Bt t,cap] j m fun v _=>v=.bool (p t)) :
 FnK prog 41 [v,.func (.func fid) #[] #[cap]] u m fun E _=>E=.bool (T.any p):=by
 obtain⟨a,c,rfl⟩:=h.opn;refine FnK.of func41 kV kV<|G.callK _ _ kV call85 (Bpu (cap:=cap) p h C d n) ?_;rintro J I H ⟨z,rfl,g⟩;by_cases h0:0<=z
 ·exact G.hT' z 0 h0<|G.r (.bool true) ⟨rfl,by rw[A5h.2 (g.1 h0)]⟩
 refine G.hF' z 0 h0<|G.r (.bool false) ⟨rfl,?_⟩;cases e:T.any p with
 |false=>rfl
 |true=>exact absurd (g.2 (A5h.1 e)) h0
theorem Bmm {v w:Value}{C:CF}{K:Nat}(hX:H5 u v T R F lab)(ok:Bl u T R F lab)(hC:No u w C K)(aq:∀ W,PH.le u W->Fn0 prog 40 [w] W fun v _=>v=.bool true)(an:∀ p,C.s p≠0->-1<=p.1)(hK:K<=100000) :
 Fn0 prog 13 [v,w] u fun r W=>(∀ p,C.s p≠0->Adm F lab p)/\Azr W r F C\/(¬ ∀ p,C.s p≠0->Adm F lab p)/\r=.tuple #[.slice none 0 0,.int .i64 16]:=by
 have ak:=fun (W:PH) (l:PH.le u W)=>Adn (hX.mono l) (ok.mono l);obtain⟨X,Z,Y,xd,H,z,rfl,aw,av,ai⟩:=id hX;obtain⟨A,Q,a1,c1,a2,c2,rfl,hA,hQ,cA,cQ,kA,kQ⟩:=hC;have az:=ok.f2;refine Fn0.o func13<|G.c call39 (ak u (PH.le_refl _)) ?_;rintro v1 u1 l1 rfl;refine G.nF 0 0<|G.c call40 (aq u1 l1) ?_;rintro v2 u2 l2 rfl;have U:=l1.trans l2;refine G.pub 0 27 [.slice X T.length Z,.slice Y R.length xd,.slice H F.length z,.int .i64 lab] kV kV ?_;intro b ax ay;have a4:∀ (m':PH),m' b=some (.cells [Value.slice X T.length Z,.slice Y R.length xd,.slice H F.length z,.int .i64 lab].toArray 27 (0,0))->ElP m' b 0 (.agg #[.slice X T.length Z,.slice Y R.length xd,.slice H F.length z,.int .i64 lab]):=fun m' h=>My (xs:=[.slice X T.length Z,.slice Y R.length xd,.slice H F.length z,.int .i64 lab]) h rfl;obtain⟨E,ae⟩:∃ E:PH,E=PH.mt.upd b (.cells [Value.slice X T.length Z,.slice Y R.length xd,.slice H F.length z,.int .i64 lab].toArray 27 (0,0)):=⟨_,rfl⟩;have t:E b=some (.cells [Value.slice X T.length Z,.slice Y R.length xd,.slice H F.length z,.int .i64 lab].toArray 27 (0,0)):=by rw[ae];exact Ab _ _ _
 rw[<-ae];have m:∀ x∈A,-1<=x.1.1:=fun x P=>by
  obtain⟨q1,q2⟩:=cA.val x P;exact an x.1 (by rw[<-q1];exact q2)
 refine G.callK _ _ kV call41 (Blr (cap:=.pointer (some ⟨b,0,none⟩)) (fun x=>!Bl3 F lab x.1) (hA.mono U) oV call42 fun x P W l'=>Bqz (a4 E t) (hX.mono (U.trans l')) (ok.mono (U.trans l')) (m x P)) ?_;rintro v3 u3 l3 rfl;cases hany:A.any fun x=>!Bl3 F lab x.1 with
 |true =>
  refine G.drop PH.mt kV (PH.mt_le _)<|G.r (.tuple #[.slice none 0 0,.int .i64 16]) ⟨rfl,.inr ⟨fun h=>?_,rfl⟩⟩;obtain⟨x,P,ac⟩:=A5h.1 hany;obtain⟨q1,q2⟩:=cA.val x P;rw[(Bnt (m x P)).2 (h x.1 (by rw[<-q1];exact q2))]at ac;cases ac
 |false =>
 have hb:∀ p,C.s p≠0->Adm F lab p:=fun p hp=>by
  have hm:p∈A.map (·.1):=A3m fun hh=>hp (cA.out p hh);obtain⟨x,P,rfl⟩:=A1b.1 hm;exact (Bnt (m x P)).1 (Biy.1 hany x P)
 have aa:=U.trans l3;refine G.lM (some 4) b 0 (.agg #[.slice X T.length Z,.slice Y R.length xd,.slice H F.length z,.int .i64 lab]) (a4 E t)<|G.c call44 (Aeh (hX.mono aa) (ok.mono aa)) ?_;intro v4 u4 l4 hN;obtain⟨na,nc,rfl⟩:=hN.opn;have ao:(Ai (Dy F F.length)).length=(Dy F F.length).length:=by simp[Ai]
 rw[ao]at hN⊢;have b1:=Aez F F.length;have ar:=aa.trans l4;refine G.l (ι:=Nat×(Option Addr×Nat)) (fun i=>[(2,.v (.pointer (some ⟨b,0,none⟩))),(3,.p 1 0),(6,sV i.2.1 ((Dy F F.length).take i.1).length i.2.2),(28,sV na (Dy F F.length).length nc),(29,iV ((Dy F F.length).length)),(30,iV i.1)])
  (fun _=>[(1,⟨33,[tV (Ae C.c),sV a1 A.length c1,sV a2 Q.length c2]⟩)])
  (fun i W m'=>i.1<=(Dy F F.length).length/\Af E m' (.slice i.2.1 ((Dy F F.length).take i.1).length i.2.2) 77 2 ((((Dy F F.length).take i.1).map Li).map Ap)) (fun i=>(Dy F F.length).length-i.1) (0,(none,0)) ⟨oV,Af.nil _ _ _⟩ ?_
 rintro J ⟨i,⟨pa,pc⟩⟩ hJ u5 m5 l5 ⟨hi,d⟩;simp only at hi d hJ;have au:=ar.trans l5;by_cases n:i<(Dy F F.length).length
 ·refine G.lT i ((Dy F F.length).length:Int) ?_;obtain⟨k,hk⟩:∃ k,(Dy F F.length)[i]?=some k:=⟨_,A01 n⟩;have ap:(Dy F F.length).take (i+1)=(Dy F F.length).take i++[k]:=by rw[A1n,hk];rfl
  obtain⟨bb,ob,rfl,eb⟩:=Ac.at' (hN.mono l5) (j:=i) (e:=.int .i64 k) (by simp[Ai,hk]);have b4:((Dy F F.length).take i).length=i:=by rw[A1e];omega
  refine G.a bb ob (Dy F F.length).length nc i 1 n<|G.lU none bb (ob+i*1) (.int .i64 k) eb<|G.B 77 2 24 (.agg #[.int .i64 0,.string (mkS [])]) [.agg #[.int .i64 k,.string (mkS [])]] (K1 (Li k)) ?_;intro g6 u6 l6 e6;refine G.k 77 2 24 (.agg #[.int .i64 0,.string (mkS [])]) E _ [Ap (Li k)] _ g6 0 1 1 d e6 (K1 (Li k)) ?_;intro v7 m7 I;have e7:(((Dy F F.length).take i).map Li).map Ap++[Ap (Li k)]=(((Dy F F.length).take (i+1)).map Li).map Ap:=by rw[ap];simp
  rw[e7]at I;obtain⟨a7,c7,rfl⟩:=I.shape;rw[A03,A03]at I⊢;exact G.i i<|G.b (hJ (i+1,(a7,c7)) _ _ _ cV (l5.trans l6) ⟨dV,I⟩ dV)
 obtain rfl:i=(Dy F F.length).length:=oV;refine G.lF ((Dy F F.length).length:Int) ((Dy F F.length).length:Int) ?_;clear hJ;rw[A15]at d⊢;have ab:Af E m5 (.slice pa (Le F++J9 F A 0).length pc) 77 2 ((Le F++J9 F A 0).map Ap):=by
  have e1:J9 F A 0 = []:=rfl;have e2:(Le F).length=(Dy F F.length).length:=by unfold Le;simp
  rw[e1,A1x,e2];exact d
 have e0:(Dy F F.length).length=(Le F++J9 F A 0).length:=by
  have e1:J9 F A 0 = []:=rfl;have e2:(Le F).length=(Dy F F.length).length:=by unfold Le;simp
  rw[e1,A1x,e2]
 rw[e0];have b2:(Le F).length<=8:=by unfold Le;rw[A03];omega
 refine G.l (ι:=Nat×(Option Addr×Nat)) (fun i=>[(2,.v (.pointer (some ⟨b,0,none⟩))),(6,sV i.2.1 (Le F++J9 F A i.1).length i.2.2),(41,sV a1 A.length c1),(42,iV A.length),(43,iV i.1)]) (fun _=>[])
  (fun i W m'=>i.1<=A.length/\Af E m' (.slice i.2.1 (Le F++J9 F A i.1).length i.2.2) 77 2 ((Le F++J9 F A i.1).map Ap)) (fun i=>A.length-i.1) (0,(pa,pc)) ⟨oV,ab⟩ ?_
 clear d ab e0;rintro J ⟨i,⟨pa,pc⟩⟩ hJ u6 m6 l6 ⟨hi,d⟩;simp only at hi d hJ;have ag:=au.trans l6;have b0:=Aq1 F A i;by_cases n:i<A.length
 ·refine G.lT i A.length ?_;obtain⟨x,a3⟩:∃ x,A[i]?=some x:=⟨_,A01 n⟩;have hs:=Am7 (F:=F) a3;have a0:Adm F lab x.1:=hb x.1 (by obtain⟨q1,q2⟩:=cA.val x (A1k a3);rw[<-q1];exact q2);obtain⟨ba,oa,rfl,ea⟩:=Ac.at' (hA.mono ag) (j:=i) (e:=Bt x) (by simp[a3]);obtain⟨⟨p1,V⟩,q⟩:=x;simp only at hs a0;refine G.a ba oa A.length c1 i 3 n<|G.lU (some 3) ba (oa+i*3) (.agg #[.int .i64 p1,.string (mkS V),.string (mkS (Ae q))]) ea ?_;have step:∀ {u7:PH},PH.le u6 u7->Bew F (p1,V)=false->True:=fun _ _=>trivial;by_cases h0:0<=p1
  ·refine G.hT' p1 0 h0 ?_;obtain⟨k,f,al,a5⟩:∃ (k:Nat) (f:Al),p1=(k:Int)/\F[k]?=some f:=by
    rcases a0 with ⟨h1,_⟩|⟨k,f,h1,hf,_⟩
    ·simp only at h1;omega
    exact⟨k,f,h1,hf⟩
   subst al;have am:=(A05.1 a5).1;have af:m6 b=some (.cells [Value.slice X T.length Z,.slice Y R.length xd,.slice H F.length z,.int .i64 lab].toArray 27 (0,0)):=d.see t;refine G.f 27 b 0 2 2<|G.lM none b (0+2) (.slice H F.length z) ((a4 m6 af).fld (j:=2) (xs:=#[.slice X T.length Z,.slice Y R.length xd,.slice H F.length z,.int .i64 lab]) rfl rfl) ?_;obtain⟨fb,fo,rfl,ef⟩:=Ac.at' (ai.mono ag) (j:=k) (e:=Cm f) (by simp[a5]);refine G.a fb fo F.length z k 3 am ?_;obtain⟨f1,f2,f3⟩:=f;refine G.f 75 fb (fo+k*3) 1 1<|G.lU none fb (fo+k*3+1) (.int .i64 f2) (ef.fld (j:=1) (xs:=#[.int .i64 f1,.int .i64 f2,.int .i64 f3]) rfl rfl) ?_;have a9:Bew F ((k:Int),V)=(f2==2):=by
    unfold Bew;simp only[A23,A02,a5,A4w];rw[decide_eq_true oV];rfl
   rw[a9]at hs;by_cases h2:f2=2
   ·rw[if_pos (by simpa using h2)]at hs;refine G.eT f2 2<|G.B 77 2 24 (.agg #[.int .i64 0,.string (mkS [])]) [.agg #[.int .i64 k,.string (mkS V)]] (K1 ((k:Int),V)) ?_;intro g7 u7 l7 e7;refine G.k 77 2 24 (.agg #[.int .i64 0,.string (mkS [])]) E _ [Ap ((k:Int),V)] _ g7 0 1 1 d e7 (K1 ((k:Int),V)) ?_;intro v8 m8 N;have e8:(Le F++J9 F A i).map Ap++[Ap ((k:Int),V)]=(Le F++J9 F A (i+1)).map Ap:=by rw[hs];simp
    rw[e8]at N;obtain⟨a8,c8,rfl⟩:=N.shape;rw[A03]at N⊢;exact G.i i<|G.b (hJ (i+1,(a8,c8)) _ _ _ cV (l6.trans l7) ⟨dV,N⟩ dV)
   rw[if_neg (by simpa using h2)]at hs;refine G.eF f2 2<|G.i i ?_;rw[<-hs]at d⊢;exact G.b (hJ (i+1,(pa,pc)) _ _ _ cV l6 ⟨dV,d⟩ dV)
  refine G.hF' p1 0 h0 ?_;have a9:Bew F (p1,V)=false:=by
   unfold Bew;rw[decide_eq_false h0];rfl
  rw[a9,if_neg mV]at hs;refine G.i i ?_;rw[<-hs]at d⊢;exact G.b (hJ (i+1,(pa,pc)) _ _ _ cV l6 ⟨dV,d⟩ dV)
 obtain rfl:i=A.length:=oV;refine G.lF A.length A.length ?_;have O:(Le F++J9 F A A.length).Nodup:=Aec (cA.srt.nodup Et);have a6:∀ p,p∈Le F++J9 F A A.length↔_:=fun p=>Anj (F:=F) cA (p:=p);have ad:(Le F++J9 F A A.length).length<=1000000:=by grind
 generalize Le F++J9 F A A.length=L at d O a6 ad;by_cases ah:24<L.length
 ·exact G.gT L.length 24<|G.drop PH.mt kV (PH.mt_le _)<|G.r (.tuple #[.slice none 0 0,.int .i64 3]) ⟨rfl,.inl ⟨hb,.inl ⟨rfl,E6 Bk L,by rw[(Ir (c:=Bk) L).length_eq];exact ah,Va Et O,fun p=>(Ir (c:=Bk) L).mem_iff.trans (a6 p)⟩⟩⟩
 refine G.gF L.length 24<|G.callA _ _ kV kV call45 (By m6).symm (Ef m6) (Aq7 d O ad) ?_;rintro v7 u7 m7 l7 ⟨rfl,hS⟩ _;have hp:=Ir (c:=Bk) L;have b3:(E6 Bk L).length=L.length:=hp.length_eq;refine G.give _ _ _ kV hS (fun g=>.inl rfl) ?_;intro u8 l8 aj;exact G.drop PH.mt kV (PH.mt_le _)<|G.r (.tuple #[.slice pa L.length pc,.int .i64 0]) ⟨rfl,.inl ⟨hb,.inr ⟨_,E6 Bk L,rfl,aj,oV,Va Et O,fun p=>hp.mem_iff.trans (a6 p)⟩⟩⟩
end
section
variable {A:List (Par×Rat)}{F:List Al}{i n:Nat}{p:Par}
def Hi (F:List Al)(A:List (Par×Rat))(i:Nat):List Par:=if (F.getD i (0,0,0)).2.1=1 then [Li i] else (A.map (·.1)).filter fun p=>p.1==(i:Int)
def He (F:List Al)(A:List (Par×Rat))(n:Nat):List Par:=(List.range n).flatMap (Hi F A)
def Tn (F:List Al)(A:List (Par×Rat))(n:Nat):He F A (n+1)=He F A n++Hi F A n:=by
 unfold He;rw[A5d,List.flatMap_append];simp
theorem Aa4 (h:p∈Hi F A i):p.1=(i:Int):=by
 unfold Hi at h;split at h
 ·simp at h;subst h;rfl
 grind
def Aqy (h:p∈He F A n):0<=p.1/\p.1<(n:Int):=by
 obtain⟨i,hi,hp⟩:=A57.1 h;have:=Aa4 hp;simp at hi;omega
def As1 {p q:Par}(h:p.1<q.1):Bk p q<0:=by
 unfold Bk Q1;rw[if_pos h,if_pos oV];omega
def Tu {F:List Al}{A:List (Par×Rat)}(d:Hb Bk (A.map (·.1))):∀ n,Hb Bk (He F A n)
 |0=>List.Pairwise.nil
 |n+1=>by
  rw[Tn];refine A35.2 ⟨Tu d n,?_,fun p hp q e=>?_⟩
  ·unfold Hi;split
   ·exact A6f _ _
   exact d.filter _
  have g:=Aqy hp;have h:=Aa4 e;exact As1 oV
theorem Aed {C:CF}(m:Can Bk C.s A)(v:∀ f∈F,f.2.1=1\/f.2.1=2):p∈He F A F.length↔(∃ (i:Nat) (f:Al),p=Li i/\F[i]?=some f/\f.2.1=1)\/(C.s p≠0/\∃ (i:Nat) (f:Al),p.1=(i:Int)/\F[i]?=some f/\f.2.1=2):=by
 have g:p∈A.map (·.1)↔C.s p≠0:=by
  constructor
  ·intro h;obtain⟨x,u,rfl⟩:=A1b.1 h;obtain⟨d,j⟩:=m.val x u;rw[<-d];exact j
  intro h;exact A3m fun t=>h (m.out p t)
 unfold He;rw[A57];constructor
 ·rintro⟨i,hi,hp⟩;unfold Hi at hp;split at hp
  ·grind
  grind
 rintro (⟨i,f,rfl,hf,d⟩|⟨h0,i,f,d,hf,j⟩)
 ·have e:F.getD i (0,0,0)=f:=by simp[A02,hf]
  refine⟨i,by simpa using (A05.1 hf).1,?_⟩;unfold Hi;rw[e,if_pos d];simp
 have e:F.getD i (0,0,0)=f:=by simp[A02,hf]
 refine⟨i,by simpa using (A05.1 hf).1,?_⟩;unfold Hi;rw[e,if_neg oV];exact A7a.2 ⟨g.2 h0,by simpa using d⟩
theorem Apt (n:Nat):(He F A n).length<=n*(A.length+1):=by
 induction n with
 |zero=>exact A1t _
 |succ n ih =>
  rw[Tn,A1d,A16,A3i];have:(Hi F A n).length<=A.length+1:=by
   unfold Hi;split
   ·simp
   grind
  omega
def Ho (A:List (Par×Rat))(i n:Nat):List Par:=((A.take n).map (·.1)).filter fun p=>p.1==(i:Int)
theorem Ain {x:Par×Rat}(h:A[n]?=some x):Ho A i (n+1)=if x.1.1=(i:Int) then Ho A i n++[x.1] else Ho A i n:=by
 unfold Ho;have e:A.take (n+1)=A.take n++[x]:=by rw[A1n,h];rfl
 by_cases d:x.1.1=(i:Int)
 ·grind
 grind
def Aml (A:List (Par×Rat))(i n:Nat):(Ho A i n).length<=A.length:=by
 refine A04 (A8d _ _) ?_;rw[A03,A1e];omega
end
def Bm3 {u:PH}{v w:Value}{T:List (List UInt8×Nat)}{R:List Br}{F:List Al}{lab:Int}{C:CF}{K:Nat}(hX:H5 u v T R F lab)(ok:Bl u T R F lab)(hC:No u w C K)(av:∀ u',PH.le u u'->Fn0 prog 48 [w] u' fun v _=>v=.bool true)(b5:∀ p,C.s p≠0->-1<=p.1)(hK:K<=10000) :
 Fn0 prog 14 [v,w] u fun r u'=>(∀ p,C.s p≠0->Adm F lab p)/\Azr u' r F C\/(¬ ∀ p,C.s p≠0->Adm F lab p)/\r=.tuple #[.slice none 0 0,.int .i64 16]:=by
 have an:=fun (u':PH) (l:PH.le u u')=>T2 (hX.mono l) (ok.mono l);have af:∀ f∈F,f.2.1=1\/f.2.1=2:=fun f I=>by
  obtain⟨n,k,_,P,_⟩:=ok.feat.ok f I;rcases P with ⟨P,_⟩|⟨P,_⟩
  ·exact .inl P
  exact .inr P
 obtain⟨xa,xc,xb,xd,xe,xf,rfl,b2,b1,ak⟩:=id hX;obtain⟨A,Q,a1,c1,a2,c2,rfl,hA,hQ,cA,cQ,kA,kQ⟩:=hC;have b3:=ok.f2;have am:∀ n,n<=8->(He F A n).length<=100000:=fun n hn=>by
  have:=Apt (F:=F) (A:=A) n;have P:n*(A.length+1)<=8*(A.length+1):=A13 _ hn;omega
 refine Fn0.o func14<|G.c call47 (an u (PH.le_refl _)) ?_;rintro v1 u1 l1 rfl;refine G.nF 0 0<|G.c call48 (av u1 l1) ?_;rintro v2 u2 l2 rfl;have ax:=l1.trans l2;refine G.l (ι:=Nat×(Option Addr×Nat)) (fun i=>[(2,.p 0 0),(3,.p 1 0),(7,sV i.2.1 (He F A i.1).length i.2.2),(26,sV xe F.length xf),(27,iV F.length),(28,iV i.1)])
  (fun _=>[(0,⟨27,[sV xa T.length xc,sV xb R.length xd,sV xe F.length xf,iV lab]⟩),(1,⟨33,[tV (Ae C.c),sV a1 A.length c1,sV a2 Q.length c2]⟩)])
  (fun i u' m'=>i.1<=F.length/\Af PH.mt m' (.slice i.2.1 (He F A i.1).length i.2.2) 77 2 ((He F A i.1).map Ap)) (fun i=>F.length-i.1) (0,(none,0)) ⟨oV,Af.nil _ _ _⟩ ?_
 rintro J ⟨i,⟨pa,pc⟩⟩ hJ u3 m3 l3 ⟨hi,N⟩;simp only at hi N hJ;have a4:=ax.trans l3;have aq:=am i oV;by_cases ag:i<F.length
 ·refine G.lT i F.length ?_;obtain⟨f,a8⟩:∃ f,F[i]?=some f:=⟨_,A01 ag⟩;have ad:F.getD i (0,0,0)=f:=by simp[A02,a8]
  have hs:=Tn F A i;obtain⟨fb,fo,rfl,ef⟩:=Ac.at' (ak.mono a4) (j:=i) (e:=Cm f) (by simp[a8]);obtain⟨f1,f2,f3⟩:=f;refine G.a fb fo F.length xf i 3 ag<|G.lU (some 3) fb (fo+i*3) (.agg #[.int .i64 f1,.int .i64 f2,.int .i64 f3]) ef ?_;by_cases ae:f2=1
  ·have hp:Hi F A i = [Li i]:=by unfold Hi;rw[ad,if_pos ae]
   rw[hp]at hs;refine G.eT f2 1<|G.B 77 2 24 (.agg #[.int .i64 0,.string (mkS [])]) [.agg #[.int .i64 i,.string (mkS [])]] (K1 (Li i)) ?_;intro g6 u6 l6 e6;refine G.k 77 2 24 (.agg #[.int .i64 0,.string (mkS [])]) PH.mt ((He F A i).map Ap) [Ap (Li i)] _ g6 0 1 1 N e6 (K1 (Li i)) ?_;intro v7 m7 E;rw[show (He F A i).map Ap++[Ap (Li i)]=(He F A (i+1)).map Ap by rw[hs];simp]at E;obtain⟨a7,c7,rfl⟩:=E.shape;rw[A03]at E⊢;exact G.i i<|G.b (hJ (i+1,(a7,c7)) _ _ _ cV (l3.trans l6) ⟨dV,E⟩ dV)
  have hp:Hi F A i=Ho A i A.length:=by unfold Hi Ho;rw[ad,if_neg ae,A15]
  rw[hp]at hs;refine G.eF f2 1 ?_;have aa:Af PH.mt m3 (.slice pa (He F A i++Ho A i 0).length pc) 77 2 ((He F A i++Ho A i 0).map Ap):=by
   rw[show Ho A i 0 = [] from rfl,A1x];exact N
  have e0:(He F A i).length=(He F A i++Ho A i 0).length:=by rw[show Ho A i 0 = [] from rfl,A1x]
  rw[e0];refine G.l (ι:=Nat×(Option Addr×Nat)) (fun n=>[(2,.p 0 0),(3,.p 1 0),(7,sV n.2.1 (He F A i++Ho A i n.1).length n.2.2),(8,iV i),(26,sV (some ⟨fb,fo,none⟩) F.length xf),(27,iV F.length),(28,iV i),(42,sV a1 A.length c1),(43,iV A.length),(44,iV n.1)])
   (fun _=>[(0,⟨27,[sV xa T.length xc,sV xb R.length xd,sV (some ⟨fb,fo,none⟩) F.length xf,iV lab]⟩),(1,⟨33,[tV (Ae C.c),sV a1 A.length c1,sV a2 Q.length c2]⟩)])
   (fun n u' m'=>n.1<=A.length/\Af PH.mt m' (.slice n.2.1 (He F A i++Ho A i n.1).length n.2.2) 77 2 ((He F A i++Ho A i n.1).map Ap)) (fun n=>A.length-n.1) (0,(pa,pc)) ⟨oV,aa⟩ ?_
  clear N aa e0;rintro J2 ⟨n,⟨pa,pc⟩⟩ H u4 m4 l4 ⟨hn,N⟩;simp only at hn N H;have b6:=Aml A i n;by_cases X:n<A.length
  ·refine G.lT n A.length ?_;obtain⟨x,a6⟩:∃ x,A[n]?=some x:=⟨_,A01 X⟩;have Y:=Ain (i:=i) a6;obtain⟨ba,oa,rfl,ea⟩:=Ac.at' (hA.mono (a4.trans l4)) (j:=n) (e:=Bt x) (by simp[a6]);obtain⟨⟨d,m⟩,q⟩:=x;simp only at Y;refine G.a ba oa A.length c1 n 3 X<|G.lU (some 3) ba (oa+n*3) (.agg #[.int .i64 d,.string (mkS m),.string (mkS (Ae q))]) ea ?_;by_cases he:d=(i:Int)
   ·rw[if_pos he]at Y;refine G.eT' d i he<|G.B 77 2 24 (.agg #[.int .i64 0,.string (mkS [])]) [.agg #[.int .i64 d,.string (mkS m)]] (K1 (d,m)) ?_;intro g6 u6 l6 e6;refine G.k 77 2 24 (.agg #[.int .i64 0,.string (mkS [])]) PH.mt ((He F A i++Ho A i n).map Ap) [Ap (d,m)] _ g6 0 1 1 N e6 (K1 (d,m)) ?_;intro v7 m7 E;rw[show (He F A i++Ho A i n).map Ap++[Ap (d,m)]=(He F A i++Ho A i (n+1)).map Ap by rw[Y];simp]at E;obtain⟨a7,c7,rfl⟩:=E.shape;rw[A03]at E⊢;exact G.i n<|G.b (H (n+1,(a7,c7)) _ _ _ cV (l4.trans l6) ⟨dV,E⟩ dV)
   rw[if_neg he]at Y;refine G.eF' d i he<|G.i n ?_;rw[<-Y]at N⊢;exact G.b (H (n+1,(pa,pc)) _ _ _ cV l4 ⟨dV,N⟩ dV)
  obtain rfl:n=A.length:=oV;refine G.lF A.length A.length<|G.i i ?_;rw[<-hs]at N⊢;exact G.b (hJ (i+1,(pa,pc)) _ _ _ cV (l3.trans l4) ⟨dV,N⟩ dV)
 obtain rfl:i=F.length:=oV;refine G.lF F.length F.length ?_;clear hJ;have U:∀ p,p∈He F A F.length↔_:=fun p=>Aed (F:=F) cA af (p:=p);have Z:Hb Bk (He F A F.length):=Tu cA.srt _;generalize b0:He F A F.length=L at N U Z aq;have ap:∀ x∈A,((x.1.1 = -1/\0<=lab/\x.1.2 = [])\/x.1∈L)↔Adm F lab x.1:=fun x V=>by
  obtain⟨q1,q2⟩:=cA.val x V;have au:C.s x.1≠0:=by rw[<-q1];exact q2
  constructor
  ·rintro (h|h)
   ·exact .inl h
   rcases (U x.1).1 h with ⟨k,f,z,I,h4⟩|⟨_,k,f,z,I,h4⟩
   ·exact .inr ⟨k,f,by rw[z];rfl,I,.inr (by rw[z];rfl)⟩
   exact .inr ⟨k,f,z,I,.inl h4⟩
  rintro (h|⟨k,f,z,I,h3⟩)
  ·exact .inl h
  refine .inr ((U x.1).2 ?_);rcases af f (A1k I) with h4|h4
  ·refine .inl ⟨k,f,?_,I,h4⟩;obtain⟨⟨d,m⟩,q⟩:=x;simp only at z h3;rw[z,h3.resolve_left oV];rfl
  exact .inr ⟨au,k,f,z,I,h4⟩
 have az:∀ p∈L,0<=p.1:=fun p hp=>by
  rcases (U p).1 hp with ⟨k,f,z,_,_⟩|⟨_,k,f,z,_,_⟩
  ·rw[z];unfold Li;simp
  omega
 have ar:∀ x∈A,¬ Adm F lab x.1->¬ ∀ p,C.s p≠0->Adm F lab p:=fun x V hn h=>by
  obtain⟨q1,q2⟩:=cA.val x V;exact hn (h x.1 (by rw[<-q1];exact q2))
 refine G.l (ι:=Nat) (fun i=>[(2,.p 0 0),(7,sV pa L.length pc),(61,sV a1 A.length c1),(62,iV A.length),(63,iV i)])
  (fun _=>[(0,⟨27,[sV xa T.length xc,sV xb R.length xd,sV xe F.length xf,iV lab]⟩)])
  (fun i u' m'=>i<=A.length/\(∀ j (hj:j<A.length),j<i->Adm F lab A[j].1)/\m'=m3) (fun i=>A.length-i) 0 ⟨oV,fun j hj h=>oV,rfl⟩ ?_
 rintro J i hJ u4 m4 l4 ⟨b4,ab,rfl⟩;have ay:=a4.trans l4;by_cases a0:i<A.length
 ·refine G.lT i A.length ?_;obtain⟨x,a3⟩:∃ x,A[i]?=some x:=⟨_,A01 a0⟩;have ah:=A1k a3;have V:=ap x ah;have ai:=ar x ah;have aw:A[i]=x:=by obtain⟨_,e⟩:=A05.1 a3;exact e
  have W:Adm F lab x.1->∀ j (hj:j<A.length),j<i+1->Adm F lab A[j].1:=fun V j hj h=>by
   rcases (by omega:j<i\/j=i) with e|rfl
   ·exact ab j hj e
   rw[aw];exact V
  obtain⟨ba,oa,rfl,ea⟩:=Ac.at' (hA.mono ay) (j:=i) (e:=Bt x) (by simp[a3]);obtain⟨⟨d,m⟩,q⟩:=x;simp only at V ai W;refine G.a ba oa A.length c1 i 3 a0<|G.lU (some 3) ba (oa+i*3) (.agg #[.int .i64 d,.string (mkS m),.string (mkS (Ae q))]) ea ?_;by_cases O:d = -1/\0<=lab/\m = []
  ·obtain⟨z,P,h3⟩:=O;exact G.eT' d (-1) z<|G.hT' lab 0 P<|G.q m [] h3<|G.i i<|G.b (hJ (i+1) _ _ _ cV l4 ⟨oV,W (V.1 (.inl ⟨z,P,h3⟩)),rfl⟩ oV)
  refine dite (d = -1) (fun z=>?A) (fun z=>?B)
  case' A =>
   refine G.eT' d (-1) z ?_;refine dite (0<=lab) (fun P=>?C) (fun P=>?D)
  case' B =>
   refine G.eF' d (-1) z ?_
  case' C =>
   refine G.hT' lab 0 P<|G.w m [] (fun h3=>O ⟨z,P,h3⟩) ?_
  case' D =>
   refine G.hF' lab 0 P ?_
  all_goals
   refine G.l (ι:=Nat×Bool) (fun n=>[(2,.p 0 0),(7,sV pa L.length pc),(13,.p 21002 0),(14,bV n.2),(61,sV (some ⟨ba,oa,none⟩) A.length c1),(62,iV A.length),(63,iV i),(82,sV pa L.length pc),(83,iV L.length),(84,iV n.1)])
    (fun _=>[(0,⟨27,[sV xa T.length xc,sV xb R.length xd,sV xe F.length xf,iV lab]⟩),(21002,⟨79,[iV d,tV m,tV (Ae q)]⟩)])
    (fun n u' m'=>n.1<=L.length/\m'=m4/\n.2=(L.take n.1).any fun y=>decide (y=(d,m))) (fun n=>L.length-n.1) (0,false) ⟨oV,rfl,rfl⟩ ?_
   rintro J2 ⟨n,a5⟩ H u5 m5 l5 ⟨hn,rfl,I⟩;simp only at hn I H;by_cases X:n<L.length
   ·refine G.lT n L.length ?_;obtain⟨y,a9⟩:∃ y,L[n]?=some y:=⟨_,A01 X⟩;have t:((L.take (n+1)).any fun y=>decide (y=(d,m)))=(((L.take n).any fun y=>decide (y=(d,m)))||decide (y=(d,m))):=by
     rw[A1n,a9,List.any_append];simp
    obtain⟨gs,cs,ac⟩:=N.ptr (fun e=>by
     have:L.length=0:=by simpa using congrArg List.length e
     omega)
    simp only[Value.slice.injEq]at ac;obtain⟨rfl,_,rfl⟩:=ac;have ao:ElP m5 gs (0+n*2) (Ap y):=N.el (by rw[A1a,a9];rfl);refine G.a gs 0 L.length pc n 2 X<|G.lM (some 2) gs (0+n*2) (.agg #[.int .i64 y.1,.string (mkS y.2)]) ao ?_;cases a5 with
    |true =>
     refine G.i n ?_;rw[<-I,Bool.true_or]at t;exact G.b (H (n+1,true) _ _ _ cV l5 ⟨dV,rfl,t.symm⟩ dV)
    |false =>
     rw[<-I,A80]at t;by_cases he:y=(d,m)
     ·rw[decide_eq_true he]at t;exact G.eqAgg 77 #[.int .i64 y.1,.string (mkS y.2)] #[.int .i64 d,.string (mkS m)] true kV kV kV (fun w=>by rw[<-decide_eq_true he];exact Bq.eq y (d,m) w)<|G.i n<|G.b (H (n+1,true) _ _ _ cV l5 ⟨dV,rfl,t.symm⟩ dV)
     rw[decide_eq_false he]at t;exact G.eqAgg 77 #[.int .i64 y.1,.string (mkS y.2)] #[.int .i64 d,.string (mkS m)] false kV kV kV (fun w=>by rw[<-decide_eq_false he];exact Bq.eq y (d,m) w)<|G.i n<|G.b (H (n+1,false) _ _ _ cV l5 ⟨dV,rfl,t.symm⟩ dV)
   obtain rfl:n=L.length:=oV;refine G.lF L.length L.length ?_;rw[A15]at I;cases a5 with
   |true =>
    have hm:(d,m)∈L:=by
     obtain⟨y,hy,e⟩:=A5h.1 I.symm;rw[<-of_decide_eq_true e];exact hy
    exact G.i i<|G.b (hJ (i+1) _ _ _ cV (l4.trans l5) ⟨oV,W (V.1 (.inr hm)),rfl⟩ oV)
   |false =>
    have hm:(d,m)∉L:=fun hm=>by
     have:(L.any fun y=>decide (y=(d,m)))=true:=A5h.2 ⟨_,hm,mV⟩;rw[<-I]at this;cases this
    exact G.drop PH.mt kV (PH.mt_le _)<|G.r (.tuple #[.slice none 0 0,.int .i64 16]) ⟨rfl,.inr ⟨ai fun hb=>(V.2 hb).elim O hm,rfl⟩⟩
 obtain rfl:i=A.length:=oV;refine G.lF A.length A.length ?_;have hb:∀ p,C.s p≠0->Adm F lab p:=fun p hp=>by
  have hm:p∈A.map (·.1):=A3m fun hh=>hp (cA.out p hh);obtain⟨x,V,rfl⟩:=A1b.1 hm;obtain⟨j,hj,rfl⟩:=A2y V;exact ab j hj hj
 by_cases aj:24<L.length
 ·exact G.gT L.length 24<|G.drop PH.mt kV (PH.mt_le _)<|G.r (.tuple #[.slice none 0 0,.int .i64 3]) ⟨rfl,.inl ⟨hb,.inl ⟨rfl,L,aj,Z,U⟩⟩⟩
 refine G.gF L.length 24<|G.give _ _ _ kV N (fun g=>.inl rfl) ?_;intro u8 l8 al;exact G.r (.tuple #[.slice pa L.length pc,.int .i64 0]) ⟨rfl,.inl ⟨hb,.inr ⟨_,L,rfl,al,oV,Z,U⟩⟩⟩
section
variable {A:List Hv}{FF:List C9}{Q:List H3}{RR:List H2}{S:List K3}{c s:List UInt8}{lab:Int}{u:PH}{v w:Value}
noncomputable def Bih (s:List UInt8):Rat:=open Classical in if h:Bhb s then h.choose else 0
def Bkk (h:Bhb s):Tx (Bih s)/\Ae (Bih s)=s:=by
 unfold Bih;rw[dif_pos h];exact⟨h.choose_spec.1,h.choose_spec.2.symm⟩
def Bki (h:Bic s=true):Ae (Bih s)=s/\Bih s≠0:=by
 unfold Bic at h;rw[A1m,decide_eq_true_eq,decide_eq_true_eq]at h;obtain⟨g,d⟩:=Bkk h.1;refine⟨d,fun e=>h.2 ?_⟩;rw[<-d,e];exact Fz
def Bly {κ:Type}{c:κ->κ->Int}(g:Ord c){Q:List κ}(h:∀ j (d:j+1<Q.length),c (Q[j]'oV) Q[j+1]<0):Hb c Q:=by
 unfold Hb;rw[A3n];intro i j hi d m;induction j with
 |zero=>omega
 |succ j ih =>
  by_cases e:i=j
  ·subst e;exact h i d
  exact g.trans _ _ _ (ih oV oV) (h j d)
def Bpn {x y:H3}(h:qLt x y=true):Oc x.1 y.1<0:=by
 unfold qLt at h;rw[A4b,A1m,decide_eq_true_eq,decide_eq_true_eq,decide_eq_true_eq]at h;unfold Oc;rcases h with h|⟨d,e⟩
 ·rw[if_pos oV];exact h
 rw[d,if_neg (by rw[Et.refl];simp)];exact e
noncomputable def nT (t:K3):Par×Rat:=(t.1,Bih t.2)
noncomputable def nQ (t:H3):(Par×Par)×Rat:=(t.1,Bih t.2)
noncomputable def cfG (c:List UInt8)(S:List K3)(Q:List H3):CF :=
 ⟨Bih c,fun p=>Fo p (S.map nT),fun p=>Fo p (Q.map nQ)⟩
def Bpa (h:Bim u v c S Q)(C:Bka c S Q)(U:Bj7 c S Q):No u v (cfG c S Q) 10000/\∀ p,(cfG c S Q).s p≠0->-1<=p.1:=by
 obtain⟨I,K,J,L,rfl,hT,V⟩:=h;obtain⟨N,O,P,R,T⟩:=U;have z:∀ t∈S,-1<=t.1.1/\Ae (Bih t.2)=t.2/\Bih t.2≠0:=fun t d=>by
  have:=O t d;unfold tOK at this;rw[A1m]at this;have m:=this.1;unfold Bh0 at m;rw[A1m,decide_eq_true_eq]at m;exact⟨m.1,Bki this.2⟩
 have H:∀ t∈Q,Ae (Bih t.2)=t.2/\Bih t.2≠0:=fun t d=>by
  have:=P t d;unfold qOK at this;rw[A1m,A1m,A1m]at this;exact Bki this.2.2.2
 have mS:(S.map nT).map Bt=S.map E3:=by
  rw[A9h];refine A41 fun t d=>?_;show Value.agg #[.int .i64 t.1.1,.string (mkS t.1.2),.string (mkS (Ae (Bih t.2)))]=_;rw[(z t d).2.1];rfl
 have Z:(Q.map nQ).map D8=Q.map Bgw:=by
  rw[A9h];refine A41 fun t d=>?_;show Value.agg #[.int .i64 t.1.1.1,.string (mkS t.1.1.2),.int .i64 t.1.2.1,.string (mkS t.1.2.2),.string (mkS (Ae (Bih t.2)))]=_;rw[(H t d).1];rfl
 have F:(S.map nT).map (·.1)=S.map (·.1):=by rw[A9h];rfl
 have Y:(Q.map nQ).map (·.1)=Q.map (·.1):=by rw[A9h];rfl
 have o1:Hb Bk (S.map (·.1)):=Bly Et fun j n=>by
  rw[A3v,A3v];have:=R j (by simpa using n);unfold tLt at this;exact of_decide_eq_true this
 have o2:Hb Oc (Q.map (·.1)):=Bly A0t fun j n=>by
  rw[A3v,A3v];exact Bpn (T j (by simpa using n))
 have W:=(Bkk N).2;have e:Can Bk (cfG c S Q).s (S.map nT):=Bmg (l:=(S.map nT)) Et (by rw[F];exact o1) fun p hp=>by
  obtain⟨t,d,rfl⟩:=A1b.1 hp;exact (z t d).2.2
 have g:Can Oc (cfG c S Q).t (Q.map nQ):=Bmg (l:=(Q.map nQ)) A0t (by rw[Y];exact o2) fun p hp=>by
  obtain⟨t,d,rfl⟩:=A1b.1 hp;exact (H t d).2
 refine⟨⟨(S.map nT),(Q.map nQ),I,K,J,L,?_,by rw[mS,A03];exact hT,by rw[Z,A03];exact V,e,g,by rw[A03];exact C.sl,by rw[A03];exact C.ql⟩,fun p hp=>?_⟩
 ·show _=Value.agg #[.string (mkS (Ae (Bih c))),_,_];rw[W,A03,A03]
 have E:p∈(S.map nT).map (·.1):=A3m fun X=>hp (Na X);rw[F]at E;obtain⟨t,d,rfl⟩:=A1b.1 E;exact (z t d).1
def Bpq (u:PH)(r:Value)(A:List Hv)(RR:List H2)(FF:List C9)(lab:Int)(c:List UInt8)(S:List K3)(Q:List H3):Prop :=
 P2 A RR FF lab≠0/\r=.tuple #[.slice none 0 0,.int .i64 (P2 A RR FF lab)]\/P2 A RR FF lab=0/\(¬ Bj7 c S Q/\r=.tuple #[.slice none 0 0,.int .i64 1] \/
  Bj7 c S Q/\((∀ p,(cfG c S Q).s p≠0->Adm (FF.map Bg2) lab p)/\Azr u r (FF.map Bg2) (cfG c S Q)\/(¬ ∀ p,(cfG c S Q).s p≠0->Adm (FF.map Bg2) lab p)/\r=.tuple #[.slice none 0 0,.int .i64 16]))
def Bmw (m:R0 u v A RR FF lab)(ok:Tq u A RR)(h:Bim u w c S Q)(n:Bka c S Q) :
 Fn0 prog 13 [v,w] u fun r g=>Bpq g r A RR FF lab c S Q:=by
 by_cases h0:P2 A RR FF lab=0
 ·by_cases j:Bj7 c S Q
  ·obtain⟨L,N⟩:=Bmv m ok h0;obtain⟨J,K⟩:=Bpa h n j;refine Fn0.weak (Bmm L N J (fun g l=>Fn0.weak (Bpj (h.mono l) n) fun v' O e=>?_) K oV) fun r g e=>.inr ⟨h0,.inr ⟨j,e⟩⟩;rcases e with ⟨_,e⟩|⟨e,_⟩
   ·exact e
   exact absurd j e
  have d:=fun (g:PH) (l:PH.le u g)=>Bm7 (m.mono l) (ok.mono l);have t:=fun (g:PH) (l:PH.le u g)=>Bpj (h.mono l) n;obtain⟨U,W,V,X,Y,Z,rfl,_⟩:=m;obtain⟨E,H,F,I,rfl,_⟩:=h;refine Fn0.o func13<|G.c call39 (d u (PH.le_refl _)) ?_;rintro R C z rfl;refine G.nF (P2 A RR FF lab) 0<|G.c call40 (t C z) ?_;rintro T P l2 (⟨e,_⟩|⟨_,rfl⟩)
  ·exact absurd e j
  exact G.r (.tuple #[.slice none 0 0,.int .i64 1]) ⟨rfl,.inr ⟨h0,.inl ⟨j,rfl⟩⟩⟩
 have d:=fun (g:PH) (l:PH.le u g)=>Bm7 (m.mono l) (ok.mono l);obtain⟨U,W,V,X,Y,Z,rfl,_⟩:=m;obtain⟨E,H,F,I,rfl,_⟩:=h;refine Fn0.o func13<|G.c call39 (d u (PH.le_refl _)) ?_;rintro R C z rfl;refine G.nT' (P2 A RR FF lab) 0 h0<|G.c call39 (d C z) ?_;rintro T P l2 rfl;exact G.r (.tuple #[.slice none 0 0,.int .i64 (P2 A RR FF lab)]) ⟨rfl,.inl ⟨h0,rfl⟩⟩
def Bnc (m:R0 u v A RR FF lab)(ok:Tq u A RR)(h:Bim u w c S Q)(n:Bka c S Q) :
 Fn0 prog 14 [v,w] u fun r d=>Bpq d r A RR FF lab c S Q:=by
 by_cases h0:P2 A RR FF lab=0
 ·by_cases j:Bj7 c S Q
  ·obtain⟨L,N⟩:=Bmv m ok h0;obtain⟨J,K⟩:=Bpa h n j;refine Fn0.weak (Bm3 L N J (fun d l=>Fn0.weak (Bjv (h.mono l) n) fun Z O e=>?_) K oV) fun r d e=>.inr ⟨h0,.inr ⟨j,e⟩⟩;rcases e with ⟨_,e⟩|⟨e,_⟩
   ·exact e
   exact absurd j e
  have g:=fun (d:PH) (l:PH.le u d)=>Bi0 (m.mono l) (ok.mono l);have t:=fun (d:PH) (l:PH.le u d)=>Bjv (h.mono l) n;obtain⟨R,U,T,V,W,X,rfl,_⟩:=m;obtain⟨E,H,F,I,rfl,_⟩:=h;refine Fn0.o func14<|G.c call47 (g u (PH.le_refl _)) ?_;rintro P C z rfl;refine G.nF (P2 A RR FF lab) 0<|G.c call48 (t C z) ?_;rintro v2 Y l2 (⟨e,_⟩|⟨_,rfl⟩)
  ·exact absurd e j
  exact G.r (.tuple #[.slice none 0 0,.int .i64 1]) ⟨rfl,.inr ⟨h0,.inl ⟨j,rfl⟩⟩⟩
 have g:=fun (d:PH) (l:PH.le u d)=>Bi0 (m.mono l) (ok.mono l);obtain⟨R,U,T,V,W,X,rfl,_⟩:=m;obtain⟨E,H,F,I,rfl,_⟩:=h;refine Fn0.o func14<|G.c call47 (g u (PH.le_refl _)) ?_;rintro P C z rfl;exact G.nT' (P2 A RR FF lab) 0 h0<|G.r (.tuple #[.slice none 0 0,.int .i64 (P2 A RR FF lab)]) ⟨rfl,.inl ⟨h0,rfl⟩⟩
end
section
variable {F:List C9}{Q:List Par}{R:List H2}{T:List Hv}{lab:Int}{pv tv v:Value}{ss:List (List UInt8)}{u:PH}
def Bl7 (m:R0 u v T R F lab)(ok:Tq u T R)(g:Ac u tv 1 (ss.map nmV))(h:∀ s∈ss,s.length<=9223372036854775807)(j:ss.length<=9223372036854775807)(h0:H1 T R F lab ss≠0) :
 Fn0 prog 26 [v,tv] u fun r _=>r=.bool false:=by
 have d:=Bgz m ok g h j;obtain⟨I,K,J,L,N,O,rfl,z,t,n⟩:=m;obtain⟨P,U,rfl⟩:=g.opn;rw[A03]at g d;generalize H1 T R F lab ss=e at h0 d⊢;simp only[A03];refine Fn0.o func26<|G.c call24 d ?_;rintro H E C rfl;exact G.nT' e 0 h0<|G.r (.bool false) ⟨rfl,rfl⟩
def Bnd (m:R0 u v T R F lab)(ok:Tq u T R)(g:Ac u tv 1 (ss.map nmV))(h:∀ s∈ss,s.length<=9223372036854775807)(j:ss.length<=9223372036854775807)(h0:H1 T R F lab ss≠0) :
 Fn0 prog 27 [v,tv] u fun r _=>r=.bool false:=by
 have d:=Bg4 m ok g h j;obtain⟨I,K,J,L,N,O,rfl,z,t,n⟩:=m;obtain⟨P,U,rfl⟩:=g.opn;rw[A03]at g d;generalize H1 T R F lab ss=e at h0 d⊢;simp only[A03];refine Fn0.o func27<|G.c call25 d ?_;rintro H E C rfl;exact G.nT' e 0 h0<|G.r (.bool false) ⟨rfl,rfl⟩
def Bjn (m:R0 u v T R F lab)(ok:Tq u T R)(g:Ac u tv 1 (ss.map nmV))(h:∀ s∈ss,s.length<=9223372036854775807)(j:ss.length<=9223372036854775807)(h0:H1 T R F lab ss≠0) :
 Fn0 prog 20 [v,tv] u fun r _=>r=.tuple #[.slice none 0 0,.int .i64 (H1 T R F lab ss)]:=by
 have d:=Bg4 m ok g h j;obtain⟨I,K,J,L,N,O,rfl,z,t,n⟩:=m;obtain⟨P,U,rfl⟩:=g.opn;rw[A03]at g d;generalize H1 T R F lab ss=e at h0 d⊢;simp only[A03];refine Fn0.o func20<|G.c call25 d ?_;rintro H E C rfl;exact G.nT' e 0 h0<|G.r (.tuple #[.slice none 0 0,.int .i64 e]) ⟨rfl,rfl⟩
def Bot (n:R0 u v T R F lab)(ok:Tq u T R)(g:Ac u tv 1 (ss.map nmV))(h:∀ s∈ss,s.length<=9223372036854775807)(j:ss.length<=9223372036854775807)(h0:H1 T R F lab ss≠0)(m:Ac u pv 2 (Q.map Ap)) :
 Fn0 prog 16 [v,pv,tv] u fun r _=>r=.tuple #[.slice none 0 0,.int .i64 (H1 T R F lab ss)]:=by
 have d:=Bgz n ok g h j;obtain⟨L,O,N,P,U,V,rfl,C,z,t⟩:=n;obtain⟨W,X,rfl⟩:=g.opn;obtain⟨H,I,rfl⟩:=m.opn;rw[A03]at m;rw[A03]at g d;generalize H1 T R F lab ss=e at h0 d⊢;simp only[A03];refine Fn0.o func16<|G.c call24 d ?_;rintro K J E rfl;exact G.nT' e 0 h0<|G.r (.tuple #[.slice none 0 0,.int .i64 e]) ⟨rfl,rfl⟩
def Bo1 (n:R0 u v T R F lab)(ok:Tq u T R)(g:Ac u tv 1 (ss.map nmV))(h:∀ s∈ss,s.length<=9223372036854775807)(j:ss.length<=9223372036854775807)(h0:H1 T R F lab ss≠0)(m:Ac u pv 2 (Q.map Ap)) :
 Fn0 prog 17 [v,pv,tv] u fun r _=>r=.tuple #[.slice none 0 0,.int .i64 (H1 T R F lab ss)]:=by
 have d:=Bjn n ok g h j h0;obtain⟨L,O,N,P,U,V,rfl,C,z,t⟩:=n;obtain⟨W,X,rfl⟩:=g.opn;obtain⟨H,I,rfl⟩:=m.opn;rw[A03]at m;rw[A03]at g d;generalize H1 T R F lab ss=e at h0 d⊢;simp only[A03];refine Fn0.o func17<|G.c call20 d ?_;rintro K J E rfl;exact G.nT' e 0 h0<|G.r (.tuple #[.slice none 0 0,.int .i64 e]) ⟨rfl,rfl⟩
end
section
variable {Q:List Par}
open Classical in
noncomputable def Bjt (A:List Hv)(R:List H2)(F:List C9)(lab:Int)(ss:List (List UInt8)):Bool:=if H1 A R F lab ss=0 then G4 (F.map Bg2) lab ss else false
open Classical in
noncomputable def Biz (A:List Hv)(R:List H2)(F:List C9)(lab:Int)(ss:List (List UInt8)):List (Par×List UInt8):=if H1 A R F lab ss=0 then B2 (F.map Bg2) ss (F.map Bg2).length else []
open Classical in
noncomputable def Blm (A:List Hv)(R:List H2)(F:List C9)(lab:Int)(ss:List (List UInt8))(Q:List Par):Int :=
 if H1 A R F lab ss≠0 then H1 A R F lab ss else if ¬ Hb Bk Q then 10 else if ∀ x∈B2 (F.map Bg2) ss (F.map Bg2).length,x.1∈Q then 0 else 16
open Classical in
noncomputable def Bk8 (A:List Hv)(R:List H2)(F:List C9)(lab:Int)(ss:List (List UInt8))(Q:List Par):List (List UInt8) :=
 if Blm A R F lab ss Q=0 then H0 Q (B2 (F.map Bg2) ss (F.map Bg2).length) else []
section
variable {u:PH} {v pv tv:Value} {A:List Hv} {R:List H2} {F:List C9} {lab:Int} {ss:List (List UInt8)}
def Bmk (j:R0 u v A R F lab)(ok:Tq u A R)(h:Ac u tv 1 (ss.map nmV))(d:∀ s∈ss,s.length<=9223372036854775807)(g:ss.length<=9223372036854775807) :
 Fn0 prog 26 [v,tv] u fun r _=>r=.bool (Bjt A R F lab ss):=by
 by_cases h0:H1 A R F lab ss=0
 ·have e:Bjt A R F lab ss=G4 (F.map Bg2) lab ss:=by unfold Bjt;rw[if_pos h0]
  rw[e];exact Bms (Bg9 j ok h d h0)
 have e:Bjt A R F lab ss=false:=by unfold Bjt;rw[if_neg h0]
 rw[e];exact Bl7 j ok h d g h0
def Bmx (j:R0 u v A R F lab)(ok:Tq u A R)(h:Ac u tv 1 (ss.map nmV))(d:∀ s∈ss,s.length<=9223372036854775807)(g:ss.length<=9223372036854775807) :
 Fn0 prog 27 [v,tv] u fun r _=>r=.bool (Bjt A R F lab ss):=by
 by_cases h0:H1 A R F lab ss=0
 ·have e:Bjt A R F lab ss=G4 (F.map Bg2) lab ss:=by unfold Bjt;rw[if_pos h0]
  rw[e];exact Bmn (Bg9 j ok h d h0)
 have e:Bjt A R F lab ss=false:=by unfold Bjt;rw[if_neg h0]
 rw[e];exact Bnd j ok h d g h0
def Bm8 (j:R0 u v A R F lab)(ok:Tq u A R)(h:Ac u tv 1 (ss.map nmV))(d:∀ s∈ss,s.length<=9223372036854775807)(g:ss.length<=9223372036854775807) :
 Fn0 prog 20 [v,tv] u fun r n=>∃ m,r=.tuple #[m,.int .i64 (H1 A R F lab ss)]/\Ac n m 3 ((Biz A R F lab ss).map E3):=by
 by_cases h0:H1 A R F lab ss=0
 ·have e:Biz A R F lab ss=B2 (F.map Bg2) ss (F.map Bg2).length:=by unfold Biz;rw[if_pos h0]
  rw[e,h0];exact Bj4 (Bg9 j ok h d h0)
 have e:Biz A R F lab ss = []:=by unfold Biz;rw[if_neg h0]
 rw[e];exact Fn0.weak (Bjn j ok h d g h0) fun r n t=>⟨_,t,Ac.nil _ _ _ _⟩
def Bo7 (E:R0 u v A R F lab)(ok:Tq u A R)(C:Ac u tv 1 (ss.map nmV))(g:∀ s∈ss,s.length<=9223372036854775807)(n:ss.length<=9223372036854775807)(z:Ac u pv 2 (Q.map Ap))(L:Q.length<=10000) :
 Fn0 prog 16 [v,pv,tv] u fun r t=>∃ j,r=.tuple #[j,.int .i64 (Blm A R F lab ss Q)]/\Ac t j 1 ((Bk8 A R F lab ss Q).map nmV):=by
 by_cases h0:H1 A R F lab ss=0
 ·refine Fn0.weak (Bo4 (Bg9 E ok C g h0) z oV) fun r t m=>?_;unfold Bk8 Blm;rw[if_neg (fun e=>e h0)];rcases m with ⟨h,⟨I,j,d,H⟩|⟨⟨x,K,J⟩,d⟩⟩|⟨h,d⟩
  ·rw[if_neg (fun e=>e h),if_pos I,if_pos rfl];exact⟨j,d,H⟩
  ·rw[if_neg (fun e=>e h),if_neg (fun e=>J (e x K)),if_neg oV];exact⟨_,d,Ac.nil _ _ _ _⟩
  rw[if_pos h,if_neg oV];exact⟨_,d,Ac.nil _ _ _ _⟩
 refine Fn0.weak (Bot E ok C g n h0 z) fun r t m=>?_;unfold Bk8 Blm;rw[if_pos h0,if_neg h0];exact⟨_,m,Ac.nil _ _ _ _⟩
def Bol (E:R0 u v A R F lab)(ok:Tq u A R)(C:Ac u tv 1 (ss.map nmV))(g:∀ s∈ss,s.length<=9223372036854775807)(n:ss.length<=9223372036854775807)(z:Ac u pv 2 (Q.map Ap))(L:Q.length<=10000) :
 Fn0 prog 17 [v,pv,tv] u fun r t=>∃ j,r=.tuple #[j,.int .i64 (Blm A R F lab ss Q)]/\Ac t j 1 ((Bk8 A R F lab ss Q).map nmV):=by
 by_cases h0:H1 A R F lab ss=0
 ·refine Fn0.weak (Boe (Bg9 E ok C g h0) z oV) fun r t m=>?_;unfold Bk8 Blm;rw[if_neg (fun e=>e h0)];rcases m with ⟨h,⟨I,j,d,H⟩|⟨⟨x,K,J⟩,d⟩⟩|⟨h,d⟩
  ·rw[if_neg (fun e=>e h),if_pos I,if_pos rfl];exact⟨j,d,H⟩
  ·rw[if_neg (fun e=>e h),if_neg (fun e=>J (e x K)),if_neg oV];exact⟨_,d,Ac.nil _ _ _ _⟩
  rw[if_pos h,if_neg oV];exact⟨_,d,Ac.nil _ _ _ _⟩
 refine Fn0.weak (Bo1 E ok C g n h0 z) fun r t m=>?_;unfold Bk8 Blm;rw[if_pos h0,if_neg h0];exact⟨_,m,Ac.nil _ _ _ _⟩
end
end
section
variable {F:List C9}{R:List H2}{lab:Int}{ss:List (List UInt8)}{tv v:Value}{u:PH}
def Bom {T:List Hv}(m:R0 u v T R F lab)(ok:Tq u T R)(g:Ac u tv 1 (ss.map nmV))(h:∀ s∈ss,s.length<=9223372036854775807)(j:ss.length<=9223372036854775807)(h0:H1 T R F lab ss≠0) :
 Fn0 prog 21 [v,tv] u fun r _=>r=.tuple #[.string (mkS [48]),.bool false]:=by
 have d:=Bgz m ok g h j;obtain⟨I,K,J,L,N,O,rfl,z,t,n⟩:=m;obtain⟨P,Q,rfl⟩:=g.opn;rw[A03]at g d;generalize H1 T R F lab ss=e at h0 d⊢;simp only[A03];refine Fn0.o func21<|G.c call24 d ?_;rintro H E C rfl;exact G.nT' e 0 h0<|G.r (.tuple #[.string (mkS [48]),.bool false]) ⟨rfl,rfl⟩
open Classical in
noncomputable def Bk2 (A:List Hv)(R:List H2)(F:List C9)(lab:Int)(ss:List (List UInt8)):List UInt8×Bool :=
 if H1 A R F lab ss=0 then if lab<0\/ss.getD lab.toNat [] = [] then ([48],false) else (ss.getD lab.toNat [],true) else ([48],false)
def Bn0 {A:List Hv}(j:R0 u v A R F lab)(ok:Tq u A R)(h:Ac u tv 1 (ss.map nmV))(d:∀ s∈ss,s.length<=9223372036854775807)(g:ss.length<=9223372036854775807) :
 Fn0 prog 21 [v,tv] u fun r _=>r=.tuple #[.string (mkS (Bk2 A R F lab ss).1),.bool (Bk2 A R F lab ss).2]:=by
 by_cases h0:H1 A R F lab ss=0
 ·refine Fn0.weak (Bnz (Bg9 j ok h d h0)) fun r m e=>?_;unfold Bk2;rw[if_pos h0];rw[e];split<;>rfl
 refine Fn0.weak (Bom j ok h d g h0) fun r m e=>?_;unfold Bk2;rw[if_neg h0];exact e
end
section
variable {F:List C9}{R:List H2}{T:List Hv}{lab:Int}{ss:List (List UInt8)}{tv v:Value}{u:PH}
def Bme (m:R0 u v T R F lab)(ok:Tq u T R)(g:Ac u tv 1 (ss.map nmV))(h:∀ s∈ss,s.length<=9223372036854775807)(j:ss.length<=9223372036854775807)(h0:H1 T R F lab ss≠0) :
 Fn0 prog 19 [v,tv] u fun r _=>r=.tuple #[.slice none 0 0,.int .i64 (H1 T R F lab ss)]:=by
 have d:=Bgz m ok g h j;obtain⟨I,K,J,L,N,O,rfl,z,t,n⟩:=m;obtain⟨P,Q,rfl⟩:=g.opn;rw[A03]at g d;generalize H1 T R F lab ss=e at h0 d⊢;simp only[A03];refine Fn0.o func19<|G.c call24 d ?_;rintro H E C rfl;exact G.nT' e 0 h0<|G.r (.tuple #[.slice none 0 0,.int .i64 e]) ⟨rfl,rfl⟩
def Bnw (m:R0 u v T R F lab)(ok:Tq u T R)(g:Ac u tv 1 (ss.map nmV))(h:∀ s∈ss,s.length<=9223372036854775807)(j:ss.length<=9223372036854775807)(h0:H1 T R F lab ss≠0) :
 Fn0 prog 22 [v,tv] u fun r _=>r=.tuple #[.string (mkS [48]),.bool false]:=by
 have d:=Bg4 m ok g h j;obtain⟨I,K,J,L,N,O,rfl,z,t,n⟩:=m;obtain⟨P,Q,rfl⟩:=g.opn;rw[A03]at g d;generalize H1 T R F lab ss=e at h0 d⊢;simp only[A03];refine Fn0.o func22<|G.c call25 d ?_;rintro H E C rfl;exact G.nT' e 0 h0<|G.r (.tuple #[.string (mkS [48]),.bool false]) ⟨rfl,rfl⟩
def Bq3 (m:R0 u v T R F lab)(ok:Tq u T R)(g:Ac u tv 1 (ss.map nmV))(h:∀ s∈ss,s.length<=9223372036854775807)(j:ss.length<=9223372036854775807)(h0:H1 T R F lab ss≠0) :
 Fn0 prog 23 [v,tv] u fun r _=>r=.tuple #[.agg #[.string (mkS []),.slice none 0 0,.slice none 0 0],.int .i64 (H1 T R F lab ss)]:=by
 have d:=Bgz m ok g h j;obtain⟨I,K,J,L,N,O,rfl,z,t,n⟩:=m;obtain⟨P,Q,rfl⟩:=g.opn;rw[A03]at g d;generalize H1 T R F lab ss=e at h0 d⊢;simp only[A03];refine Fn0.o func23<|G.c call24 d ?_;rintro H E C rfl;exact G.nT' e 0 h0<|G.r (.tuple #[.agg #[.string (mkS []),.slice none 0 0,.slice none 0 0],.int .i64 e]) ⟨rfl,rfl⟩
def Bqq (m:R0 u v T R F lab)(ok:Tq u T R)(g:Ac u tv 1 (ss.map nmV))(h:∀ s∈ss,s.length<=9223372036854775807)(j:ss.length<=9223372036854775807)(h0:H1 T R F lab ss≠0) :
 Fn0 prog 11 [v,tv] u fun r _=>r=.tuple #[.agg #[.string (mkS []),.slice none 0 0,.slice none 0 0],.int .i64 (H1 T R F lab ss)]:=by
 have d:=Bg4 m ok g h j;obtain⟨I,K,J,L,N,O,rfl,z,t,n⟩:=m;obtain⟨P,Q,rfl⟩:=g.opn;rw[A03]at g d;generalize H1 T R F lab ss=e at h0 d⊢;simp only[A03];refine Fn0.o func11<|G.c call25 d ?_;rintro H E C rfl;exact G.nT' e 0 h0<|G.r (.tuple #[.agg #[.string (mkS []),.slice none 0 0,.slice none 0 0],.int .i64 e]) ⟨rfl,rfl⟩
end
section
variable {F G:CF}{M N d:Nat}{q r:Rat}{x:LF}
def De (d N:Nat)(q:Rat):Prop:=∃ k:Int,q*((27720^d:Nat):Rat)=(k:Rat)/\k.natAbs<=N
def Bnv (d:Nat):0<27720^d:=A66 oV
def Brr (d:Nat):((27720^d:Nat):Rat)≠0:=by
 intro h;have e:((27720^d:Nat):Rat)=((0:Nat):Rat):=h;have:=Rat.natCast_inj.1 e;have:=Bnv d;omega
def De.mono (h:De d N q)(j:N<=M):De d M q:=by
 obtain⟨k,e,g⟩:=h;exact⟨k,e,oV⟩
theorem De.add (h:De d N q)(e:De d M r):De d (N+M) (q+r):=by
 obtain⟨k,g,m⟩:=h;obtain⟨l,j,n⟩:=e;exact⟨k+l,by rw[Rat.intCast_add,<-g,<-j];grind,oV⟩
theorem De.mul {d e N M:Nat}(h:De d N q)(g:De e M r):De (d+e) (N*M) (q*r):=by
 obtain⟨k,j,m⟩:=h;obtain⟨l,n,t⟩:=g;refine⟨k*l,?_,by rw[A26];exact A25 m t⟩;rw[Rat.intCast_mul,<-j,<-n,A4k,Rat.natCast_mul];grind
def De.zero (d N:Nat):De d N 0:=⟨0,by rw[Rat.zero_mul];rfl,A1t _⟩
theorem De.frac (h:De d N q):q.num.natAbs<=N/\q.den<=27720^d:=by
 obtain⟨k,j,t⟩:=h;have hp:=Bnv d;have u:q=Rat.divInt k ((27720^d:Nat):Int):=by
  rw[A37,A2r,<-j];have:=Brr d;grind
 obtain⟨e,g,v⟩:=O7 (y:=k) (z:=((27720^d:Nat):Int)) oV;have n:0<Nat.gcd k.natAbs (27720^d):=A7j _ hp;rw[u];constructor
 ·rw[e,A8o];exact A04 (A3u _ _) t
 have m:((Rat.divInt k ((27720^d:Nat):Int)).den:Int)<=((27720^d:Nat):Int):=by
  rw[g,show (((27720^d:Nat):Int)).natAbs=27720^d from rfl,A32 oV,<-A5k];exact Bao.2 (A3u _ _)
 exact Bao.1 m
def De.small (h:De d N q)(t:d<=20)(n:N<10^100):Og q=true:=by
 obtain⟨e,g⟩:=h.frac;have j:27720^d<=27720^20:=A10 oV t;have m:27720^20<10^100:=jV
 simp only[Og,A1m,decide_eq_true_eq];exact⟨A22 e n,A22 g (A22 j m)⟩
theorem Dat.de (h:Dat q):De 1 27720000000000 q:=by
 have t:=h.den;have hp:=q.den_pos;obtain⟨c,m⟩:∃ c,27720=q.den*c:=by
  have:∀ d,0<d->d<=12->∃ c,27720=d*c:=fun d g j=>⟨27720/d,by
   have:d=1\/d=2\/d=3\/d=4\/d=5\/d=6\/d=7\/d=8\/d=9\/d=10\/d=11\/d=12:=oV;rcases this with rfl|rfl|rfl|rfl|rfl|rfl|rfl|rfl|rfl|rfl|rfl|rfl<;>decide⟩
  exact this _ hp t
 refine⟨q.num*(c:Int),?_,?_⟩
 ·have u:q*(q.den:Rat)=(q.num:Rat):=by
   have g:Rat.divInt q.num (q.den:Int)=q:=A7h q;rw[A37]at g;have h0:((q.den:Int):Rat)≠0:=fun e=>by
    have:=Rat.intCast_inj.1 (show ((q.den:Int):Rat)=((0:Int):Rat) from e);omega
   have j:(q.den:Rat)=((q.den:Int):Rat):=(A2r _).symm;rw[j];generalize ((q.den:Int):Rat)=d at g h0;generalize (q.num:Rat)=n at g;rw[<-g];grind
  rw[Nat.pow_one,m,Rat.natCast_mul,Rat.intCast_mul,<-u,A2r];grind
 rw[A26,A1s];have g:c<=27720:=by
  have:1*c<=q.den*c:=A25 hp (A08 _);omega
 have:=A25 h.num g;omega
structure CFE (N:Nat)(F:CF):Prop where
 c:De 0 1 F.c
 s:∀ p,De 1 N (F.s p)
 t:∀ k,De 2 (N*N) (F.t k)
def De.one (d:Nat):De 0 1 1:=⟨1,jV,fV⟩
def CFE.num0 (N:Nat):CFE N (CF.num 0):=⟨De.zero _ _,fun _=>De.zero _ _,fun _=>De.zero _ _⟩
def CFE.of (h:F.One)(e:∀ p,De 1 N (F.s p)):CFE N F:=⟨by rw[h.c];exact De.one 0,e,fun k=>by
 rw[h.t];split
 ·exact De.zero _ _
 exact (e _).mul (e _)⟩
def CFE.cfs (h:CFE N F)(e:N<=10^40):CFS F:=by
 have g:(1:Nat)<10^100:=jV
 have j:(10:Nat)^40<10^100:=jV
 have m:(10:Nat)^40*10^40<10^100:=jV
 have n:=A25 e e;exact⟨h.c.small oV g,fun p=>(h.s p).small oV oV,fun k=>(h.t k).small oV oV⟩
def Bpi (h:CFE N F)(e:CFE M G)(x:Par×Par):De 2 (2*(N*M)) (con F G x):=by
 unfold con;split
 ·exact (((h.s x.1).mul (e.s x.2)).add ((h.s x.1).mul (e.s x.2))).mono oV
 exact ((h.s x.1).mul (e.s x.2)).mono oV
def Bpx (h:CFE N F)(g:CFE M G){L:List (Par×Par)}(j:L.Nodup)(k:Par×Par):De 2 (4*(N*M)) (Er F G L k):=by
 rw[Ub F G L k j];have e:∀ x,De 2 (2*(N*M)) (if x∈L then con F G x else 0):=fun x=>by
  split
  ·exact Bpi h g x
  exact De.zero _ _
 unfold two;split
 ·exact De.zero _ _
 split
 ·exact (e k).mono oV
 exact ((e k).add (e _)).mono oV
def CFE.mulOK {F H:CF}(h:CFE N F)(e:CFE M H)(j:N<=10^40)(g:M<=10^40):Aw3 F H:=by
 have I:=A25 j j;have J:=A25 j g;have K:=A25 g g;have Q:(1:Nat)<10^80:=jV
 have R:(10:Nat)^40<10^80:=jV
 have L:(10:Nat)^40*10^40=10^80:=jV
 have T:(10:Nat)*10^80<10^100:=jV
 rw[L]at I J K;have u:∀ p,De 1 M ((H.scale F.c).s p):=fun p=>((e.s p).mul h.c).mono oV;have v:∀ p,De 1 N ((F.scale H.c).s p):=fun p=>((h.s p).mul e.c).mono oV;have z:∀ k,De 2 (M*M) ((H.scale F.c).t k):=fun k=>((e.t k).mul h.c).mono oV;have C:∀ k,De 2 (N*N) ((F.scale H.c).t k):=fun k=>((h.t k).mul e.c).mono oV;have m:De 0 1 (H.scale F.c).c:=(e.c.mul h.c).mono oV;have n:De 0 1 (F.scale H.c).c:=(h.c.mul e.c).mono oV;have E:∀ k,De 2 (M*M+N*N) (((H.scale F.c).add (F.scale H.c)).t k):=fun k=>(z k).add (C k);exact⟨h.cfs j,e.cfs g,⟨m.small oV oV,fun p=>(u p).small oV oV,fun k=>(z k).small oV oV⟩,
  ⟨n.small oV oV,fun p=>(v p).small oV oV,fun k=>(C k).small oV oV⟩,
  ⟨(m.add n).small oV oV,fun p=>((u p).add (v p)).small oV oV,fun k=>(E k).small oV oV⟩,
  (h.c.mul e.c).small oV oV,fun p q=>((h.s p).mul (e.s q)).small oV oV,fun x=>(Bpi h e x).small oV oV,
  fun P O k=>((E k).add (Bpx h e O k)).small oV oV⟩
def LF.Sml:LF->Prop
 |some (some x)=>Dat x.2/\PV x.1
 |_=>True
def LF.Sml.s {x:LF}(h:x.Sml)(p:Par):De 1 27720000000000 (x.cf.s p):=by
 match x,h with
 |none,_=>exact De.zero _ _
 |some none,_=>exact De.zero _ _
 |some (some x),h =>
  show De 1 27720000000000 ((CF.one1 x.1 x.2).s p);rw[Axz];split
  ·exact h.1.de
  exact De.zero _ _
def LF.Sml.cfe (h:x.Sml):CFE 27720000000000 x.cf:=by
 by_cases e:x=none
 ·subst e;exact CFE.num0 _
 exact CFE.of (LF.one e) h.s
def LF.Sml.cfv (h:x.Sml):CFV x.cf:=by
 match x,h with
 |none,_=>exact CFV.count 0
 |some none,_=>exact CFV.count 1
 |some (some x),h=>exact Ar0 h.2
def Bnj {N:Nat}:∀ {L:List LF} {C:CF} {n:Nat},C.One->none∉L->(∀ x∈L,x.Sml)->(∀ p,De 1 n (C.s p))->∀ p,De 1 (n+L.length*27720000000000) ((Iv C L).s p)
 |[],C,n,h,_,_,hs=>fun p=>(hs p).mono oV
 |x::L,C,n,h,hn,hx,hs=>fun p=>by
  have j:x≠none:=fun e=>hn (by rw[e];exact A4l ..);have m:=h.mul (LF.one j);have g:∀ p,De 1 (n+27720000000000) ((C.mul x.cf).s p):=fun p=>by
   rw[m.2];exact (hs p).add ((hx x (A4l ..)).s p)
  have:=Bnj (N:=N) m.1 (fun e=>hn (A2f _ e)) (fun y t=>hx y (A2f _ t)) g p;unfold Iv at this⊢;rw[A6i];exact this.mono (by rw[A3f];omega)
def Bhz {L:List LF}(h:∀ x∈L,x.Sml)(g:L.length<=100):CFE 2772000000000000 (Iv (CF.num 1) L):=by
 by_cases e:none∈L
 ·rw[Am2 e];exact CFE.num0 _
 refine CFE.of (We CF.One.num e) fun p=>?_;exact (Bnj (N:=0) (n:=0) CF.One.num e h (fun _=>De.zero _ _) p).mono oV
def Bkn:∀ {L:List LF} {C:CF},CFV C->(∀ x∈L,x.Sml)->CFV (Iv C L)
 |[],C,h,_=>h
 |x::L,C,h,hx=>by
  unfold Iv;rw[A6i];exact Bkn (h.mul (hx x (A4l ..)).cfv) fun y e=>hx y (A2f _ e)
end
section
variable {F:List Al}{a:Nat}{lab:Int}{q:Rat}{ss:List (List UInt8)}{t w:List UInt8}
def Bio:Dat 1:=⟨jV,jV⟩
def Dat.sb (h:Dat q):SB q:=h.de.small oV jV
def Dat.sb2 (h:Dat q):SB (q*q):=(h.de.mul h.de).small oV jV
def Bn1 (k:Nat)(s:List UInt8):Prop:=s = []\/(k=3/\Hn s=true)\/(k=1/\∃ z:Int,z.natAbs<=1000000000/\s=Lib.itoa z)\/(k=2/\∃ q,Dat q/\s=Ae q)
def Bla.x {k:Nat}{s:List UInt8}(h:Bla (k:Int) s):Bn1 k s:=by
 obtain⟨_,h|⟨e,d⟩|⟨e,d⟩|⟨e,d⟩⟩:=h
 ·exact .inl h
 ·exact .inr (.inl ⟨oV,d⟩)
 ·exact .inr (.inr (.inl ⟨oV,d⟩))
 exact .inr (.inr (.inr ⟨oV,d⟩))
noncomputable def Bi6 (t:List UInt8):Rat:=open Classical in if h:∃ q,Dat q/\t=Ae q then h.choose else 0
def Box (h:∃ q,Dat q/\t=Ae q):Dat (Bi6 t)/\Ae (Bi6 t)=t:=by
 unfold Bi6;rw[dif_pos h];exact⟨h.choose_spec.1,h.choose_spec.2.symm⟩
noncomputable def Bjj (i:Nat)(f:Al)(w:List UInt8):LF:=if f.2.1=2 then some (some (((i:Int),w),1)) else if w = [] then (if f.2.2=1 then none else some none) else some (some (((i:Int),[]),Bi6 w))
noncomputable def Bow (w:List UInt8):LF:=if w = [] then none else some (some ((-1,[]),Bi6 w))
noncomputable def Bgq (F:List Al)(lab:Int)(a:Nat)(w:List UInt8):LF:=if (a:Int)=lab then Bow w else match F.findIdx? (fun f=>f.1==a) with|some k=>Bjj k (F.getD k (0,0,0)) w|none=>some none
noncomputable def Bja (F:List Al)(lab:Int)(ss:List (List UInt8)):List LF:=ss.mapIdx (Bgq F lab)
def Bjx (h:ss[a]?=some w):(Bja F lab ss)[a]?=some (Bgq F lab a w):=by
 unfold Bja;rw[List.getElem?_mapIdx,h];rfl
def Bhf :(Bja F lab ss).length=ss.length:=by unfold Bja;simp
def Bo5 {i:Nat}{f:Al}(g:(F.map (·.1)).Nodup)(d:F[i]?=some f)(e:(f.1:Int)≠lab):Bgq F lab f.1 w=Bjj i f w:=by
 unfold Bgq;rw[if_neg e,Aq0 g d];simp[A02,d]
def Bjk (h:(a:Int)≠lab):Bgq F lab a w=some none\/∃ (i:Nat) (f:Al),F[i]?=some f/\f.1=a/\Bgq F lab a w=Bjj i f w:=by
 unfold Bgq;rw[if_neg h];cases hx:F.findIdx? (fun f=>f.1==a) with
 |none=>exact .inl rfl
 |some k =>
  obtain⟨d,e,_⟩:=A52.1 hx;right;refine⟨k,F[k],A01 d,by simpa using e,?_⟩;simp[A02,A01 d]
def Bg5 (h:Bn1 2 t)(d:t≠[]):Dat (Bi6 t)/\Ae (Bi6 t)=t:=by
 rcases h with e|⟨e,_⟩|⟨e,_⟩|⟨_,q,g,e⟩
 ·exact absurd e d
 ·omega
 ·omega
 exact Box ⟨q,g,e⟩
def Bmh {T:List (List UInt8×Nat)}{x:List UInt8×Nat}(hF:Da T F lab)(j:∀ l:Nat,lab=(l:Int)->∃ n,T[l]?=some (n,2))(I:F.length<=8)(u:T[a]?=some x)(m:Bn1 x.2 t):(Bgq F lab a t).Sml:=by
 by_cases d:(a:Int)=lab
 ·obtain⟨n,z⟩:=j a d.symm;rw[u]at z;cases z;unfold Bgq Bow;rw[if_pos d];by_cases h:t = []
  ·rw[if_pos h];trivial
  rw[if_neg h];exact⟨(Bg5 m h).1,⟨by show (-1:Int)<=-1;omega,by show (-1:Int)<=1000;omega,.inl rfl⟩⟩
 rcases Bjk (F:=F) (w:=t) d with e|⟨i,f,v,rfl,H⟩
 ·rw[e];trivial
 rw[H];obtain⟨hi,_⟩:=A05.1 v;obtain⟨n,k,J,g,_⟩:=hF.ok f (A1k v);rw[J]at u;cases u;unfold Bjj;rcases g with ⟨C,E,L⟩|⟨C,E,L⟩
 ·rw[if_neg oV];by_cases h:t = []
  ·rw[if_pos h];split<;>trivial
  rw[if_neg h];subst E;exact⟨(Bg5 m h).1,⟨by show (-1:Int)<=(i:Int);omega,by show (i:Int)<=1000;omega,.inl rfl⟩⟩
 rw[if_pos C];refine⟨Bio,⟨by show (-1:Int)<=(i:Int);omega,by show (i:Int)<=1000;omega,?_⟩⟩;rcases m with e|⟨_,K⟩|⟨e,_⟩|⟨e,_⟩
 ·exact .inl e
 ·exact .inr K
 ·omega
 omega
end
def Bqd {u:PH}{v:Value}{T:List (List UInt8×Nat)}{R:List Br}{F:List Al}{lab:Int}{a:Nat}{x:List UInt8×Nat}{t:List UInt8}(h:H5 u v T R F lab)(ok:Bl u T R F lab)(K:T[a]?=some x)(V:Bn1 x.2 t) :
 Fn0 prog 57 [v,.int .i64 a,.string (mkS t)] u fun r m=>Bgu m r (Bgq F lab a t).cf 1:=by
 have a0:=ok.feat.nodup;have run:∀ {N:Nat},N<=1->(∀ m,PH.le u m->Fn0 prog 57 [v,.int .i64 a,.string (mkS t)] m fun r O=>Bgu O r (Bgq F lab a t).cf N)->Fn0 prog 57 [v,.int .i64 a,.string (mkS t)] u fun r m=>Bgu m r (Bgq F lab a t).cf 1 :=
  fun {N} hN hl=>Fn0.weak (hl u (PH.le_refl _)) fun r m hr=>hr.up hN
 have Y:CF.num ((0:Int):Rat)=CF.num 0:=by rw[show ((0:Int):Rat)=0 by decide +kernel]
 have Z:CF.num ((1:Int):Rat)=CF.num 1:=by rw[show ((1:Int):Rat)=1 by decide +kernel]
 by_cases d:(a:Int)=lab
 ·obtain⟨n,U⟩:=ok.l2 a d.symm;rw[K]at U;cases U;have e:Bgq F lab a t=Bow t:=by unfold Bgq;rw[if_pos d]
  rw[e]at run⊢;unfold Bow at run⊢;by_cases g:t = []
  ·rw[if_pos g]at run⊢;subst g;refine run (N:=0) oV fun m l=>?_;have:=Bod (h.mono l) (ok.mono l) (a:=a) (i:=Bia F a) rfl d;rw[Y]at this;exact this
  rw[if_neg g]at run⊢;obtain⟨g1,g2⟩:=Bg5 V g;refine run (N:=1) oV fun m l=>?_;subst d;have:=Bph (h.mono l) (ok.mono l) (a:=a) (q:=Bi6 t) g1.tx g1.sb g1.sb2;rw[g2]at this;exact this
 cases hidx:F.findIdx? (fun f=>f.1==a) with
 |none =>
  have e:Bgq F lab a t=some none:=by unfold Bgq;rw[if_neg d,hidx]
  rw[e]at run⊢;refine run (N:=0) oV fun m l=>?_;have:=Bo0 (h.mono l) (ok.mono l) (a:=a) (s:=t) (by unfold Bia Ad1;rw[hidx]) d;rw[Z]at this;exact this
 |some k =>
  have e:Bgq F lab a t=Bjj k (F.getD k (0,0,0)) t:=by unfold Bgq;rw[if_neg d,hidx]
  obtain⟨P,J,_⟩:=A52.1 hidx;have z:F[k]?=some F[k]:=A01 P;obtain⟨n,kd,H,j,_⟩:=ok.feat.ok F[k] (A09 P);have E:F[k].1=a:=by simpa using J
  simp only[A02,z,A4w]at e;generalize F[k]=f at z H j E e;obtain⟨fa,fk,I⟩:=f;simp only at H j E;subst E;rw[H]at K;cases K;have C:=Bq7 hidx;rw[e]at run⊢;unfold Bjj at run⊢;simp only at run⊢;rcases j with ⟨L,W,X⟩|⟨L,W,X⟩
  ·subst L;subst W;rw[if_neg oV]at run⊢;by_cases g:t = []
   ·rw[if_pos g]at run⊢;subst g;by_cases Q:I=1
    ·subst Q;rw[if_pos rfl]at run⊢;refine run (N:=0) oV fun m l=>?_;have:=Bn6 (h.mono l) (ok.mono l) C z d;rw[Y]at this;exact this
    obtain rfl:I=0:=oV;rw[if_neg Q]at run⊢;refine run (N:=0) oV fun m l=>?_;have:=Bob (h.mono l) (ok.mono l) C z d;rw[Z]at this;exact this
   rw[if_neg g]at run⊢;obtain⟨g1,g2⟩:=Bg5 V g;refine run (N:=1) oV fun m l=>?_;have:=Bp1 (h.mono l) (ok.mono l) d C ⟨I,z⟩ (q:=Bi6 t) g1.tx g1.sb g1.sb2;rw[g2]at this;exact this
  subst L;subst X;rw[if_pos rfl]at run⊢;refine run (N:=1) oV fun m l=>?_;have:=Bp8 (h.mono l) (ok.mono l) (s:=t) C z d;rw[show ((1:Int):Rat)=1 by decide +kernel]at this;exact this
section
variable {F:List Al}{R:List Br}{T:List (List UInt8×Nat)}{lab:Int}{ss:List (List UInt8)}{u:PH}
noncomputable def cfX (F:List Al)(lab:Int)(ss:List (List UInt8)):CF:=Iv (CF.num 1) (Bja F lab ss)
def Bh3 (ok:Bl u T R F lab)(d:Bni T ss):∀ x∈Bja F lab ss,x.Sml:=fun x g=>by
 obtain⟨i,hi,rfl⟩:=A2y g;rw[Bhf]at hi;have e:=Bjx (F:=F) (lab:=lab) (w:=ss[i]) (A01 hi);rw[A01 (by rw[Bhf];exact hi),A1f]at e;rw[e];have h:=d.len;have hT:T[i]?=some T[i]:=A01 oV;exact Bmh ok.feat ok.l2 ok.f2 hT (d.val i _ _ hT (A01 hi)).x
def Bq5 (ok:Bl u T R F lab)(d:Bni T ss):CFS (cfX F lab ss)/\CFV (cfX F lab ss):=by
 have h:=Bh3 ok d;have g:=d.len;have e:=ok.t2;exact⟨(Bhz h (by rw[Bhf];omega)).cfs jV,Bkn (CFV.count 1) h⟩
end
def Bqn {u:PH}{v tv:Value}{T:List (List UInt8×Nat)}{R:List Br}{F:List Al}{lab:Int}{ss:List (List UInt8)}(ht:Hx u)(h:Bg3 u v tv T R F lab ss) :
 Fn0 prog 23 [v,tv] u fun r u'=>Azl u' r (cfX F lab ss) 4095:=by
 have E:=Bhg h;have hX:=h.sch;obtain⟨⟨xa,xc,xb,xd,xe,xf,rfl,ag,ae,ac⟩,ok,X,hT,a3⟩:=h;obtain⟨ya,yc,rfl⟩:=X.opn;rw[A03]at X E⊢;have g:=Bh3 ok hT;have a2:=hT.len;have af:ss.length<=12:=by have:=ok.t2;omega
 obtain⟨L,I⟩:∃ L,L=Bja F lab ss:=⟨_,rfl⟩;have Y:cfX F lab ss=Iv (CF.num 1) L:=by rw[I];rfl
 rw[Y];rw[<-I]at g;have ad:L.length=ss.length:=by rw[I];exact Bhf
 refine Fn0.o func23<|G.c call24 E ?_;rintro v1 u1 l1 rfl;refine G.nF 0 0<|G.c call55 (Bir (n:=1) oV oV) ?_;intro v2 u2 l2 k2;rw[show (((1:Int):Rat))=1 by decide +kernel]at k2;obtain⟨b,a,n,c,b',a',n',c',g1,g2,rfl⟩:=Bgo k2;refine G.l (ι:=Nat×(Bool×SlI)×(Bool×SlI)×Nat×Nat) (fun i=>[(2,.p 0 0),(4,.p 1 0),(7,.p 4001 0),(18,sV ya ss.length yc),(19,iV ss.length),(20,iV i.1)])
  (fun i=>[(0,⟨27,[sV xa T.length xc,sV xb R.length xd,sV xe F.length xf,iV lab]⟩),(1,⟨33,[tV [],sV none 0 0,sV none 0 0]⟩),(4001,⟨124,[bV i.2.1.1,sV i.2.1.2.1 i.2.1.2.2.1 i.2.1.2.2.2,bV i.2.2.1.1,sV i.2.2.1.2.1 i.2.2.1.2.2.1 i.2.2.1.2.2.2,.v (.map (some i.2.2.2.1)),.v (.map (some i.2.2.2.2))]⟩)])
  (fun i u' m'=>i.1<=ss.length/\Bgu u' (.agg #[.bool i.2.1.1,.slice i.2.1.2.1 i.2.1.2.2.1 i.2.1.2.2.2,.bool i.2.2.1.1,.slice i.2.2.1.2.1 i.2.2.1.2.2.1 i.2.2.1.2.2.2,.map (some i.2.2.2.1),.map (some i.2.2.2.2)]) (Iv (CF.num 1) (L.take i.1)) (2^i.1-1)/\m'=PH.mt)
  (fun i=>ss.length-i.1) (0,(b,a,n,c),(b',a',n',c'),g1,g2) ⟨oV,k2,rfl⟩ ?_
 rintro J ⟨i,⟨b,a,n,c⟩,⟨b',a',n',c'⟩,g1,g2⟩ hJ u3 m3 l3 ⟨hi,H,rfl⟩;simp only at hi H hJ;have j:=(l1.trans l2).trans l3;by_cases d:i<ss.length
 ·refine G.lT i ss.length ?_;obtain⟨bb,off,rfl,e⟩:=M5 (X.mono j) d;refine G.a bb off ss.length yc i 1 d<|G.lU none bb (off+i*1) (.string (mkS (ss.getD i []))) e ?_;have C:ss.getD i []=ss[i]:=by simp[A02,A01 d]
  have z:T[i]?=some T[i]:=A01 oV;have t:L[i]?=some (Bgq F lab i (ss.getD i [])):=by rw[I,C];exact Bjx (A01 d)
  have W:(Bgq F lab i (ss.getD i [])).Sml:=g _ (A1k t);have hv:=(hT.val i _ _ z (A01 d)).x;rw[<-C]at hv;refine G.c call57 (Bqd (hX.mono j) (ok.mono j) z hv) ?_;intro v4 u4 l4 k4;obtain⟨b4,a4,n4,c4,a7,a6,ah,a8,a9,aa,rfl⟩:=Bgo k4;have V:2^i<=2^11:=A10 oV oV;have ab:1<=2^i:=Nat.one_le_two_pow;have P:=Bhz (L:=L.take i) (fun x hx=>g x (A27 hx)) (by rw[A1e];omega);have m:Iv (CF.num 1) (L.take (i+1))=(Iv (CF.num 1) (L.take i)).mul (Bgq F lab i (ss.getD i [])).cf:=by
   rw[A1n,t];exact Aa0 _ _ _
  refine G.c call56 (Bsi (H.mono l4) k4 (P.mulOK W.cfe jV jV)) ?_;intro v5 u5 l5 k5;obtain⟨b5,a5,n5,c5,N,K,a1,O,Q,U,rfl⟩:=Bgo k5;refine G.i i ?_;rw[<-m]at k5;exact G.b (hJ (i+1,(b5,a5,n5,c5),(N,K,a1,O),Q,U) _ _ _ cV ((l3.trans l4).trans l5) ⟨dV,k5.up (by dsimp only;rw[A2d];omega),rfl⟩ dV)
 obtain rfl:i=ss.length:=oV;refine G.lF ss.length ss.length ?_;have a0:L.take ss.length=L:=by rw[A1j oV]
 have Z:CFS (Iv (CF.num 1) L):=(Bhz g oV).cfs jV;rw[a0]at H;have V:2^ss.length<=2^12:=A10 oV oV;refine G.c call58 (Bo6 (ht.mono j) H Z oV) ?_;rintro v6 u6 l6 ⟨r,rfl,k6⟩;obtain⟨e1,f1,h1,e2,f2,h2,rfl⟩:=k6.opn;exact G.r (.tuple #[.agg #[.string (mkS (Ae (Iv (CF.num 1) L).c)),.slice e1 f1 h1,.slice e2 f2 h2],.int .i64 0]) ⟨rfl,_,rfl,k6.up oV⟩
theorem Bp2 {T:List (List UInt8×Nat)}{F:List Al}{lab:Int}{a:Nat}{z:Int}{x:List UInt8×Nat}{t:List UInt8}{j:Int}{J u:Bool}(hF:Da T F lab)(W:-1<=lab)(l2:∀ l:Nat,lab=(l:Int)->∃ n,T[l]?=some (n,2))
 (E:T[a]?=some x) (L:Bn1 x.2 t) (P:((a:Int)=lab/\z = -1)\/((a:Int)≠lab/\z = -2)) (h:Aro F a z F.length j J u) :
 (j = -2/\Bgq F lab a t=some none)\/(j≠-2/\((u=true/\Bgq F lab a t=some (some ((j,t),1)))\/(u=false/\t = []/\Bgq F lab a t=(if J then none else some none))\/(u=false/\t≠[]/\Dat (Bi6 t)/\Ae (Bi6 t)=t/\Bgq F lab a t=some (some ((j,[]),Bi6 t))))):=by
 rcases h with ⟨k,f,U,v,rfl,rfl,rfl,rfl⟩|⟨O,rfl,rfl,rfl⟩
 ·obtain⟨n,V,hT,d,C⟩:=hF.ok f (A1k v);rw[Bo5 hF.nodup v C];rw[hT]at E;cases E;refine .inr ⟨oV,?_⟩;unfold Bjj;rcases d with ⟨N,rfl,Q⟩|⟨N,rfl,Q⟩
  ·rw[N,if_neg oV];by_cases g:t = []
   ·grind
   obtain⟨H,I⟩:=Bg5 L g;exact .inr (.inr ⟨rfl,g,H,I,by rw[if_neg g]⟩)
  grind
 rcases P with ⟨m,rfl⟩|⟨m,rfl⟩
 ·refine .inr ⟨oV,.inr ?_⟩;obtain⟨n,K⟩:=l2 a m.symm;rw[E]at K;cases K;have e:Bgq F lab a t=Bow t:=by unfold Bgq;rw[if_pos m]
  rw[e];unfold Bow;by_cases g:t = []
  ·grind
  obtain⟨H,I⟩:=Bg5 L g;exact .inr ⟨rfl,g,H,I,by rw[if_neg g]⟩
 rcases Bjk (F:=F) (w:=t) m with e|⟨i,f,v,R,_⟩
 ·grind
 grind
def Bmd {u:PH}{v:Value}{T:List (List UInt8×Nat)}{R:List Br}{F:List Al}{lab:Int}{a:Nat}{x:List UInt8×Nat}{t:List UInt8}(h:H5 u v T R F lab)(ok:Bl u T R F lab)(hx:T[a]?=some x)(hv:Bn1 x.2 t) :
 Ag prog 65 [v,.int .i64 a,.string (mkS t)] u PH.mt fun v' u' m'=>Kk m' u' v' (Bgq F lab a t).cf 1:=by
 have ae:=ok.f2;have l1:=ok.l1;have t2:=ok.t2;have ad:a<T.length:=(A05.1 hx).1;obtain⟨pa,ca,pb,cb,pe,ce,rfl,hT,hR,hF⟩:=h;refine Ag.o func65<|G.joinF (ι:=Int) (fun st=>Ajn prog st [.bool false]) (fun z=>[(1,iV a),(2,tV t),(3,.p 0 0),(6,.p 1 0),(7,iV z),(8,bV true),(9,bV false)])
  (fun _=>[(0,⟨27,[sV pa T.length ca,sV pb R.length cb,sV pe F.length ce,iV lab]⟩),(1,⟨94,[bV false,sV none 0 0,bV false,sV none 0 0,.v (.map none),.v (.map none)]⟩)])
  (fun z u' m'=>u'=u/\m'=PH.mt/\(((a:Int)=lab/\z = -1)\/((a:Int)≠lab/\z = -2))) (fun _=>kV) kV ?tail ?way
 case way =>
  intro L;by_cases hl:(a:Int)=lab
  ·refine G.eT' a lab hl<|G.pastI ?_;exact L (-1) _ _ _ kV cV (PH.le_refl _) ⟨rfl,rfl,.inl ⟨hl,rfl⟩⟩
  refine G.eF' a lab hl ?_;exact L (-2) _ _ _ kV cV (PH.le_refl _) ⟨rfl,rfl,.inr ⟨hl,rfl⟩⟩
 rintro z _ _ _ ⟨rfl,rfl,hz⟩;refine G.l (ι:=Nat×Int×Bool×Bool) (fun i=>[(1,iV a),(2,tV t),(6,.p 1 0),(7,iV i.2.1),(8,bV i.2.2.1),(9,bV i.2.2.2),(20,sV pe F.length ce),(21,iV F.length),(22,iV i.1)])
  (fun _=>[(1,⟨94,[bV false,sV none 0 0,bV false,sV none 0 0,.v (.map none),.v (.map none)]⟩)])
  (fun i u' m'=>i.1<=F.length/\m'=PH.mt/\Aro F a z i.1 i.2.1 i.2.2.1 i.2.2.2) (fun i=>F.length-i.1) (0,z,true,false) ⟨oV,rfl,.inr ⟨fun k f hk=>by dsimp only at hk;omega,rfl,rfl,rfl⟩⟩ ?_
 rintro J ⟨i,d,dr,ho⟩ Z u2 m2 l2 ⟨hi,rfl,hI⟩;simp only at hi hI Z;by_cases a0:i<F.length
 ·refine G.lT i F.length ?_;obtain⟨f,Q⟩:∃ f,F[i]?=some f:=⟨_,A01 a0⟩;obtain⟨fb,fo,rfl,ef⟩:=Ac.at' (hF.mono l2) (j:=i) (e:=Cm f) (by simp[Q]);obtain⟨p1,X,p3⟩:=f;refine G.a fb fo F.length ce i 3 a0<|G.lU (some 3) fb (fo+i*3) (.agg #[.int .i64 p1,.int .i64 X,.int .i64 p3]) ef ?_;by_cases hp:(p1:Int)=(a:Int)
  ·refine G.eT' p1 a hp ?_;have O:=Aqe (z:=z) Q (show p1=a by omega);simp only at O;by_cases h3:p3=1
   ·refine G.eT p3 1 ?_;by_cases h2:X=2
    ·refine G.eT X 2<|G.i i ?_;rw[decide_eq_true h3,decide_eq_true h2]at O;exact G.b (Z (i+1,(i:Int),true,true) _ _ _ cV l2 ⟨dV,rfl,O⟩ dV)
    refine G.eF X 2<|G.i i ?_;rw[decide_eq_true h3,decide_eq_false h2]at O;exact G.b (Z (i+1,(i:Int),true,false) _ _ _ cV l2 ⟨dV,rfl,O⟩ dV)
   refine G.eF p3 1 ?_;by_cases h2:X=2
   ·refine G.eT X 2<|G.i i ?_;rw[decide_eq_false h3,decide_eq_true h2]at O;exact G.b (Z (i+1,(i:Int),false,true) _ _ _ cV l2 ⟨dV,rfl,O⟩ dV)
   refine G.eF X 2<|G.i i ?_;rw[decide_eq_false h3,decide_eq_false h2]at O;exact G.b (Z (i+1,(i:Int),false,false) _ _ _ cV l2 ⟨dV,rfl,O⟩ dV)
  exact G.eF' p1 a hp<|G.i i<|G.b (Z (i+1,d,dr,ho) _ _ _ cV l2 ⟨dV,rfl,An4 hI Q (show ¬ p1=a by omega)⟩ dV)
 obtain rfl:i=F.length:=oV;refine G.lF F.length F.length ?_;have n0:(⟨((0:Int):Rat),fun _=>0,fun _=>0⟩:CF)=CF.num 0:=by rw[show ((0:Int):Rat)=0 by decide +kernel];rfl
 have n1:(⟨((1:Int):Rat),fun _=>0,fun _=>0⟩:CF)=CF.num 1:=by rw[show ((1:Int):Rat)=1 by decide +kernel];rfl
 rcases Bp2 ok.feat l1 ok.l2 hx hv hz hI with ⟨rfl,e⟩|⟨a7,hc⟩
 ·rw[e];refine G.eT' (-2) (-2) rfl<|G.callO _ _ kV call63 (Jm (n:=1) oV oV) ?_;intro v3 u3 m3 l3 U _;obtain⟨b,E,n,c,b',C,K,H,g1,g2,rfl⟩:=Oe U;rw[By];exact G.r (.agg #[.bool b,.slice E n c,.bool b',.slice C K H,.map (some g1),.map (some g2)]) (U.congr n1 oV)
 refine G.eF' d (-2) a7<|G.callO _ _ kV call63 (Jm (n:=1) oV oV) ?_;intro v3 u3 m3 l3 U _;rw[By];rcases hc with ⟨rfl,e⟩|⟨rfl,ht,e⟩|⟨rfl,ht,Y,q2,e⟩
 ·rw[e];obtain⟨b,E,n,c,b',C,K,H,g1,g2,o1,o2,rfl,k1,m,rfl,s1,s2⟩:=U;have I:Ay (d,t) (d,t)=((d,t),(d,t)):=Ii (by rw[Et.refl];omega);refine G.c call120 (P6 (z:=1) oV oV) ?_;intro v4 u4 P N;rw[show ((1:Int):Rat)=1 by decide +kernel]at N;obtain⟨b4,a4,n4,c4,a2,a8,a3,rfl,_⟩:=N.opn;refine G.callG _ _ kV kV call122 (g:=g1) (o:=o1) (by rw[Ad _ _ m,Ab])
   (Oi (a:=(d,t)) (g2:=some g2) (y1:=b) (y2:=(E,n,c)) (y3:=b') (y4:=(C,K,H)) (s1.mono P) N Bio.sb SB.zero (by rw[Af1];exact Bio.sb)) ?_
  intro v5 u5 a9 V k5;refine G.c call120 (P6 (z:=1) oV oV) ?_;intro v6 u6 W k6;rw[show ((1:Int):Rat)=1 by decide +kernel]at k6;obtain⟨b6,a6,n6,c6,ab,af,ac,rfl,_⟩:=k6.opn;refine G.callG _ _ kV kV call123 (g:=g2) (o:=o2) (by rw[Ad _ _ m.symm,Ab])
   (H7 (p:=(d,t)) (r:=(d,t)) (g1:=some g1) (y1:=b) (y2:=(E,n,c)) (y3:=b') (y4:=(C,K,H)) (((s2.mono P).mono V).mono W) k6 Bio.sb (by rw[I];exact SB.zero) (by rw[I,Af1];exact Bio.sb)) ?_
  intro v7 u7 aa l7 k7;rw[Ale m];rw[I]at k7;exact G.r (.agg #[.bool b,.slice E n c,.bool b',.slice C K H,.map (some g1),.map (some g2)]) ⟨b,E,n,c,b',C,K,H,g1,g2,_,_,rfl,(((k1.mono P).mono V).mono W).mono l7,m,rfl,((k5.mono W).mono l7).congr fun k=>by rw[Af1];rfl,k7.congr fun k=>by
   rw[Af1];show (if k=((d,t),(d,t)) then (1:Rat) else 0)=if k=((d,t),(d,t)) then (1:Rat)*1 else 0
   rw[show (1:Rat)*1=1 by decide +kernel]⟩
 ·obtain⟨b,E,n,c,b',C,K,H,g1,g2,rfl⟩:=Oe U;refine G.q t [] ht ?_;rw[e];cases dr with
  |true =>
   refine G.drop PH.mt kV (PH.mt_le _)<|G.callO _ _ kV call63 (Jm (n:=0) oV oV) ?_;intro v4 u4 m4 P N _;obtain⟨b,E,n,c,b',C,K,H,g1,g2,rfl⟩:=Oe N;rw[By];exact G.r (.agg #[.bool b,.slice E n c,.bool b',.slice C K H,.map (some g1),.map (some g2)]) (N.congr n0 oV)
  |false =>
   exact G.r (.agg #[.bool b,.slice E n c,.bool b',.slice C K H,.map (some g1),.map (some g2)]) (U.congr n1 oV)
 rw[e];obtain⟨b,E,n,c,b',C,K,H,g1,g2,o1,o2,rfl,k1,m,rfl,s1,s2⟩:=U;refine G.w t [] ht ?_;have I:Ay (d,[]) (d,[])=((d,[]),(d,[])):=Ii (by rw[Et.refl];omega);have a1:=G8 (u:=u3) (q:=Bi6 t) (SB.tx Y.sb);rw[q2]at a1;refine G.c call125 a1 ?_;intro v4 u4 P N;obtain⟨b4,a4,n4,c4,a2,a8,a3,rfl,_⟩:=N.opn;refine G.callG _ _ kV kV call122 (g:=g1) (o:=o1) (by rw[Ad _ _ m,Ab])
  (Oi (a:=(d,[])) (g2:=some g2) (y1:=b) (y2:=(E,n,c)) (y3:=b') (y4:=(C,K,H)) (s1.mono P) N Y.sb SB.zero (by rw[Af1];exact Y.sb)) ?_
 intro v5 u5 a9 V k5;refine G.c call121 (Gh (N.mono V) (N.mono V) (SB.ten Y.sb) (SB.ten Y.sb)) ?_;intro v6 u6 W k6;refine G.callG _ _ kV kV call123 (g:=g2) (o:=o2) (by rw[Ad _ _ m.symm,Ab])
  (H7 (p:=(d,[])) (r:=(d,[])) (g1:=some g1) (y1:=b) (y2:=(E,n,c)) (y3:=b') (y4:=(C,K,H)) (((s2.mono P).mono V).mono W) k6 Y.sb2 (by rw[I];exact SB.zero) (by rw[I,Af1];exact Y.sb2)) ?_
 intro v7 u7 aa l7 k7;rw[Ale m];rw[I]at k7;exact G.r (.agg #[.bool b,.slice E n c,.bool b',.slice C K H,.map (some g1),.map (some g2)]) ⟨b,E,n,c,b',C,K,H,g1,g2,_,_,rfl,(((k1.mono P).mono V).mono W).mono l7,m,rfl,((k5.mono W).mono l7).congr fun k=>by rw[Af1];rfl,k7.congr fun k=>by rw[Af1];rfl⟩
def Bpw {u:PH}{v tv:Value}{T:List (List UInt8×Nat)}{R:List Br}{F:List Al}{lab:Int}{ss:List (List UInt8)}(h:Bg3 u v tv T R F lab ss) :
 Fn0 prog 36 [v,tv] u fun r u'=>R9 u' r (cfX F lab ss) 4095/\CFS (cfX F lab ss):=by
 have hX:=h.sch;obtain⟨⟨xa,xc,xb,xd,xe,xf,rfl,ah,af,ad⟩,ok,Y,hT,a6⟩:=h;obtain⟨ya,yc,rfl⟩:=Y.opn;rw[A03]at Y⊢;have g:=Bh3 ok hT;have a3:=hT.len;have ag:ss.length<=12:=by have:=ok.t2;omega
 obtain⟨L,H⟩:∃ L,L=Bja F lab ss:=⟨_,rfl⟩;have Z:cfX F lab ss=Iv (CF.num 1) L:=by rw[H];rfl
 rw[Z];rw[<-H]at g;have ae:L.length=ss.length:=by rw[H];exact Bhf
 refine Fn0.o func36<|G.c call63 (Kk.all (Jm (n:=1) oV oV)) ?_;intro v2 u2 l2 k2;have n1:(⟨((1:Int):Rat),fun _=>0,fun _=>0⟩:CF)=CF.num 1:=by rw[show ((1:Int):Rat)=1 by decide +kernel];rfl
 rw[n1]at k2;obtain⟨b,a,n,c,b',I,n',O,g1,g2,rfl⟩:=Sw k2;refine G.l (ι:=Nat×(Bool×SlI)×(Bool×SlI)×Nat×Nat) (fun i=>[(2,.p 0 0),(4,.p 1 0),(5,.p 1001 0),(9,sV ya ss.length yc),(10,iV ss.length),(11,iV i.1)])
  (fun i=>[(0,⟨27,[sV xa T.length xc,sV xb R.length xd,sV xe F.length xf,iV lab]⟩),(1,⟨94,[bV false,sV none 0 0,bV false,sV none 0 0,.v (.map none),.v (.map none)]⟩),(1001,⟨94,[bV i.2.1.1,sV i.2.1.2.1 i.2.1.2.2.1 i.2.1.2.2.2,bV i.2.2.1.1,sV i.2.2.1.2.1 i.2.2.1.2.2.1 i.2.2.1.2.2.2,.v (.map (some i.2.2.2.1)),.v (.map (some i.2.2.2.2))]⟩)])
  (fun i u' m'=>i.1<=ss.length/\R9 u' (.agg #[.bool i.2.1.1,.slice i.2.1.2.1 i.2.1.2.2.1 i.2.1.2.2.2,.bool i.2.2.1.1,.slice i.2.2.1.2.1 i.2.2.1.2.2.1 i.2.2.1.2.2.2,.map (some i.2.2.2.1),.map (some i.2.2.2.2)]) (Iv (CF.num 1) (L.take i.1)) (2^i.1-1)/\m'=PH.mt)
  (fun i=>ss.length-i.1) (0,(b,a,n,c),(b',I,n',O),g1,g2) ⟨oV,k2,rfl⟩ ?_
 rintro J ⟨i,⟨b,a,n,c⟩,⟨b',I,n',O⟩,g1,g2⟩ hJ u3 m3 l3 ⟨hi,E,rfl⟩;simp only at hi E hJ;have m:=l2.trans l3;by_cases d:i<ss.length
 ·refine G.lT i ss.length ?_;obtain⟨bb,off,rfl,e⟩:=M5 (Y.mono m) d;refine G.a bb off ss.length yc i 1 d<|G.lU none bb (off+i*1) (.string (mkS (ss.getD i []))) e ?_;have C:ss.getD i []=ss[i]:=by simp[A02,A01 d]
  have z:T[i]?=some T[i]:=A01 oV;have t:L[i]?=some (Bgq F lab i (ss.getD i [])):=by rw[H,C];exact Bjx (A01 d)
  have X:(Bgq F lab i (ss.getD i [])).Sml:=g _ (A1k t);have hv:=(hT.val i _ _ z (A01 d)).x;rw[<-C]at hv;refine G.c call65 (Kk.all (Bmd (hX.mono m) (ok.mono m) z hv)) ?_;intro v4 u4 l4 k4;obtain⟨b4,a4,n4,c4,a8,a7,ai,a9,aa,ab,rfl⟩:=Sw k4;have W:2^i<=2^11:=A10 oV oV;have ac:1<=2^i:=Nat.one_le_two_pow;have Q:=Bhz (L:=L.take i) (fun x hx=>g x (A27 hx)) (by rw[A1e];omega);have j:Iv (CF.num 1) (L.take (i+1))=(Iv (CF.num 1) (L.take i)).mul (Bgq F lab i (ss.getD i [])).cf:=by
   rw[A1n,t];exact Aa0 _ _ _
  refine G.c call64 (Kk.all (Arj (E.mono l4) k4 (Q.mulOK X.cfe jV jV))) ?_;intro v5 u5 l5 k5;obtain⟨b5,a5,n5,c5,N,K,a2,P,U,V,rfl⟩:=Sw k5;refine G.i i ?_;rw[<-j]at k5;exact G.b (hJ (i+1,(b5,a5,n5,c5),(N,K,a2,P),U,V) _ _ _ cV ((l3.trans l4).trans l5) ⟨dV,k5.up (by dsimp only;rw[A2d];omega),rfl⟩ dV)
 obtain rfl:i=ss.length:=oV;refine G.lF ss.length ss.length ?_;have a1:L.take ss.length=L:=by rw[A1j oV]
 have a0:CFS (Iv (CF.num 1) L):=(Bhz g oV).cfs jV;rw[a1]at E;have W:2^ss.length<=2^12:=A10 oV oV;exact G.r (.agg #[.bool b,.slice a n c,.bool b',.slice I n' O,.map (some g1),.map (some g2)]) ⟨rfl,E.up oV,a0⟩
def Bqt {u:PH}{v t:Value}{T:List (List UInt8×Nat)}{R:List Br}{F:List Al}{lab:Int}{ss:List (List UInt8)}(h:Bg3 u v t T R F lab ss) :
 Fn0 prog 11 [v,t] u fun r g=>Azl g r (cfX F lab ss) 4095:=by
 have e:=Bh7 h;have d:=fun (g:PH) (l:PH.le u g)=>Bpw (h.mono l);obtain⟨⟨xa,xc,xb,xd,xe,xf,rfl,N,L,K⟩,ok,j,hT,m⟩:=h;obtain⟨ya,yc,rfl⟩:=j.opn;rw[A03]at j e d⊢;refine Fn0.o func11<|G.c call25 e ?_;rintro Y U P rfl;refine G.nF 0 0<|G.c call36 (d U P) ?_;rintro Z W l2 ⟨O,Q⟩;refine G.callK _ _ kV call37 (Aod O.i Q oV) ?_;rintro v3 X V ⟨r,rfl,n⟩;obtain⟨z,E,I,C,H,J,rfl⟩:=n.opn;exact G.r (.tuple #[.agg #[.string (mkS (Ae (cfX F lab ss).c)),.slice z E I,.slice C H J],.int .i64 0]) ⟨rfl,_,rfl,n⟩
def Bo2 {u:PH}:Fn0 prog 29 [.agg #[.string (mkS []),.slice none 0 0,.slice none 0 0],.agg #[.string (mkS []),.slice none 0 0,.slice none 0 0]] u fun r _=>r=.bool true:=by
 refine Fn0.o func29<|G.y [] [] rfl<|G.nF 0 0<|G.nF 0 0<|G.l (ι:=Nat) (fun i=>[(2,.p 0 0),(3,.p 1 0),(32,iV 0),(33,iV i)])
  (fun _=>[(0,⟨33,[tV [],sV none 0 0,sV none 0 0]⟩),(1,⟨33,[tV [],sV none 0 0,sV none 0 0]⟩)])
  (fun i n e=>i=0/\e=PH.mt) (fun i=>0) 0 ⟨rfl,rfl⟩ ?_
 rintro J i d t j g ⟨rfl,rfl⟩;refine G.lF (0:Nat) 0 ?_;clear d;refine G.l (ι:=Nat) (fun i=>[(2,.p 0 0),(3,.p 1 0),(50,iV 0),(51,iV i)])
  (fun _=>[(0,⟨33,[tV [],sV none 0 0,sV none 0 0]⟩),(1,⟨33,[tV [],sV none 0 0,sV none 0 0]⟩)])
  (fun i n e=>i=0/\e=PH.mt) (fun i=>0) 0 ⟨rfl,rfl⟩ ?_
 rintro J i d v m h ⟨rfl,rfl⟩;refine G.lF (0:Nat) 0 ?_;clear d;exact G.r (.bool true) ⟨rfl,rfl⟩
def Bl5 {u:PH}{v tv:Value}{T:List (List UInt8×Nat)}{R:List Br}{F:List Al}{lab:Int}{ss:List (List UInt8)}(h:Bg3 u v tv T R F lab ss) :
 Fn0 prog 19 [v,tv] u fun r J=>∃ lv,r=.tuple #[lv,.int .i64 0]/\Ac J lv 3 ((B2 F ss F.length).map E3):=by
 have V:=Bhg h;have N:=fun (J:PH) (l:PH.le u J)=>Bkq (h.mono l);have Q:=h;have a4:=h.ok.f2;obtain⟨⟨xa,xc,xb,xd,xe,xf,rfl,aa,a9,a8⟩,ok,hS,hT,_⟩:=h;obtain⟨ya,yc,rfl⟩:=hS.opn;rw[A03]at hS V N Q⊢;refine Fn0.o func19<|G.c call24 V ?_;rintro v1 u1 l1 rfl;refine G.nF 0 0<|G.pastI<|G.pub 4000 30 [.slice none 0 0] kV kV ?_;intro b ab ac;refine G.c call51 (N u1 l1) ?_;rintro v2 u2 l2 ⟨b1,b2,rfl,e1,e2⟩;refine G.rangeF (rfG Tryz.f19) (A0v Tryz.f19) (rfX Tryz.f19) (rfY Tryz.f19) 95 [.pointer (some ⟨b1,0,none⟩),.pointer (some ⟨b2,0,none⟩)] (fun J t=>Y4 30 79 3 b PH.mt ((B2 F ss F.length).map E3) t) kV kV kV call95 ?_ ?_
 ·intro l r r1 r2 r3 r4 r5 r6 r7 O ad;have d:b≠l:=fun e=>by subst e;rw[Ab]at O;cases O
  have U:r.params = #[19,20]:=r3.trans kV;have hn:r.tmps.size=28:=r6.trans kV;have a6:r.tmps[7]?=some (.pointer (some ⟨b,0,none⟩)):=r7 7 _ kV;have H:∀ {es:List Value} {t:PH},Y4 30 79 3 b (Pj l (.loop r)) es t->t l=some (.loop r):=fun h=>h.see d (Ck _ _);refine Ag.weak (Bn2 (Q.mono (l1.trans l2)) e1 e2 (fun L _ t=>Y4 30 79 3 b (Pj l (.loop r)) (L.map E3) t) (fun _ _ _ _ _ h=>h) (fun i x J t hi hl I hx ae=>?_) ?_) ?_
  ·have a7:(B2 F ss i).length<=8:=A04 (Bh9 F ss i) a4;refine Amn (n:=28) (T:=[(7,.pointer (some ⟨b,0,none⟩)),(19,Ap x.1),(20,.string (mkS x.2))]) (H I) r1 r2 (by rw[U];rfl) hn (fun y W=>?_) ?_
   ·rw[U,Aje];simp only[A1g,A11,or_false]at W;rcases W with rfl|rfl|rfl
    ·rw[A2m mV,A2m mV];exact a6
    ·rw[A2m mV];simp[hn]
    simp[hn]
   rw[r4,r5];refine RW.seq' kV (RW.reg' Tryz.f19 kV fun z J' Z=>?_);refine G.b (Z _ _ _ (RW.reg' Tryz.f19 kV fun z J2 a0=>?_));refine G.b (a0 _ _ _ ⟨H I,RW.block' kV (RW.reg' Tryz.f19 kV fun z J3 a1=>?_)⟩);have a2:=I.base (o:=.loop (Vg r)) d (by rw[Ck];simp);obtain⟨a,c,C⟩:=a2;rw[A03]at C;have E:∀ {n c':Nat} {a':Option Addr},(((Pj l (.loop r)).upd l (.loop (Vg r))).upd b (.cells #[.slice a' n c'] 30 (0,0))) b=some (.cells [Value.slice a' n c'].toArray 30 (0,0)):=Ab _ _ _;refine G.lM none b 0 (.slice a (B2 F ss i).length c) (My (xs:=[.slice a (B2 F ss i).length c]) (C.see E) rfl)<|G.B 79 3 40 (.agg #[.int .i64 0,.string (mkS []),.string (mkS [])]) [.agg #[.int .i64 x.1.1,.string (mkS x.1.2),.string (mkS x.2)]] (Bjw x) ?_;intro g1 u4 l4 e4;refine G.k 79 3 40 (.agg #[.int .i64 0,.string (mkS []),.string (mkS [])]) _ ((B2 F ss i).map E3) [.agg #[.int .i64 x.1.1,.string (mkS x.1.2),.string (mkS x.2)]] (.slice a (B2 F ss i).length c) g1 0 1 1 C e4 (Bjw x) ?_;intro v5 m5 j;rw[show ((B2 F ss i).map E3)++[.agg #[.int .i64 x.1.1,.string (mkS x.1.2),.string (mkS x.2)]]=((B2 F ss i)++[x]).map E3 by rw[A1i];rfl]at j;obtain⟨X,Y,rfl⟩:=j.shape;refine G.storeM 1 b 0 30 [.slice a (B2 F ss i).length c] (.slice X (((B2 F ss i)++[x]).map E3).length Y) kV (j.see E) (fun y W=>by simp at W;subst W;rfl) mV rfl rfl ?_;have K:=j.base (b:=b) (o:=.cells #[.slice X (((B2 F ss i)++[x]).map E3).length Y] 30 (0,0)) (by rw[E];simp);rw[Dp]at K;have hB:Y4 30 79 3 b ((Pj l (.loop r)).upd l (.loop (Vg r))) (((B2 F ss i)++[x]).map E3) (m5.upd b (.cells #[.slice X (((B2 F ss i)++[x]).map E3).length Y] 30 (0,0))):=⟨X,Y,K⟩;refine G.b (a1 _ _ _ ⟨hB.see d (Ab _ _ _),?_⟩);have m:=hB.base (o:=.loop r) d (by rw[Ab];simp);rw[Dp]at m;unfold Pj at m⊢;rw[Dp]at m;exact m
  ·refine⟨none,0,?_⟩;unfold Pj;rw[Iq _ _ _ (fun e=>d e.symm)];exact Af.nil _ _ _
  rintro v' J t I;refine⟨r,by rw[r1];simp,r2,H I,t.del l,Ap6 _ _,Axu _ _,?_⟩;obtain⟨a,c,C⟩:=I;have:=C.del (l:=l) (by rw[Ad _ _ (fun e=>d e.symm),Ck];simp);rw[Alu d]at this;unfold Pj at this;rw[Rk rfl]at this;exact⟨a,c,this⟩
 rintro u3 m3 l3 ⟨a,c,C⟩;refine G.giveP (ma:=m3) (sm:=PH.mt) kV (by funext g;unfold PH.or;cases m3 g<;>rfl) (fun g=>.inr rfl) (fun g=>.inl rfl) ?_
 intro u4 l4 P;have a3:m3 b=some (.cells [Value.slice a ((B2 F ss F.length).map E3).length c].toArray 30 (0,0)):=C.see (Ab _ _ _);exact G.lU none b 0 (.slice a ((B2 F ss F.length).map E3).length c) ((My (xs:=[.slice a ((B2 F ss F.length).map E3).length c]) a3 rfl).mono P)<|G.r (.tuple #[.slice a ((B2 F ss F.length).map E3).length c,.int .i64 0]) ⟨rfl,_,rfl,C.list P⟩
section
variable {r:Value}
def Bog {u:PH}{v tv:Value}{T:List (List UInt8×Nat)}{R:List Br}{F:List Al}{lab:Int}{ss:List (List UInt8)}(h:Bg3 u v tv T R F lab ss) :
 Fn0 prog 22 [v,tv] u fun r _=>r=if lab<0\/ss.getD lab.toNat [] = [] then .tuple #[.string (mkS [48]),.bool false] else .tuple #[.string (mkS (ss.getD lab.toNat [])),.bool true]:=by
 have j:=Bh7 h;have t:=h.lt;obtain⟨⟨L,O,N,P,Q,U,rfl,H,E,C⟩,ok,n,hT,_⟩:=h;obtain⟨V,z,rfl⟩:=n.opn;rw[A03]at n j⊢;refine Fn0.o func22<|G.c call25 j ?_;rintro K J I rfl;refine G.nF 0 0 ?_;by_cases g:lab<0
 ·exact G.lT lab 0<|G.r (.tuple #[.string (mkS [48]),.bool false]) ⟨rfl,by rw[if_pos (.inl g)]⟩
 obtain⟨l,rfl⟩:∃ l:Nat,lab=(l:Int):=⟨lab.toNat,oV⟩;have d:=t l rfl;rw[A23];refine G.lF l 0 ?_;obtain⟨m,off,rfl,e⟩:=M5 (n.mono I) d;refine G.a m off ss.length z l 1 d<|G.lU none m (off+l*1) (.string (mkS (ss.getD l []))) e ?_;by_cases h0:ss.getD l [] = []
 ·exact G.q (ss.getD l []) [] h0<|G.r (.tuple #[.string (mkS [48]),.bool false]) ⟨rfl,by rw[if_pos (.inr h0)]⟩
 exact G.w (ss.getD l []) [] h0<|G.a m off ss.length z l 1 d<|G.lU none m (off+l*1) (.string (mkS (ss.getD l []))) e<|G.r (.tuple #[.string (mkS (ss.getD l [])),.bool true]) ⟨rfl,by rw[if_neg (fun e=>e.elim oV h0)]⟩
def Bk9 (u:PH)(r:Value)(A:List Hv)(R:List H2)(F:List C9)(lab:Int)(ss:List (List UInt8)):Prop :=
 H1 A R F lab ss=0/\Azl u r (cfX (F.map Bg2) lab ss) 4095\/H1 A R F lab ss≠0/\r=.tuple #[.agg #[.string (mkS []),.slice none 0 0,.slice none 0 0],.int .i64 (H1 A R F lab ss)]
section
variable {u:PH} {v tv:Value} {A:List Hv} {R:List H2} {F:List C9} {lab:Int} {ss:List (List UInt8)}
def Boh (j:R0 u v A R F lab)(ok:Tq u A R)(h:Ac u tv 1 (ss.map nmV))(d:∀ s∈ss,s.length<=9223372036854775807)(g:ss.length<=9223372036854775807) :
 Fn0 prog 22 [v,tv] u fun r _=>r=.tuple #[.string (mkS (Bk2 A R F lab ss).1),.bool (Bk2 A R F lab ss).2]:=by
 by_cases h0:H1 A R F lab ss=0
 ·refine Fn0.weak (Bog (Bg9 j ok h d h0)) fun r m e=>?_;unfold Bk2;rw[if_pos h0];rw[e];split<;>rfl
 refine Fn0.weak (Bnw j ok h d g h0) fun r m e=>?_;unfold Bk2;rw[if_neg h0];exact e
def Bna (j:R0 u v A R F lab)(ok:Tq u A R)(h:Ac u tv 1 (ss.map nmV))(d:∀ s∈ss,s.length<=9223372036854775807)(g:ss.length<=9223372036854775807) :
 Fn0 prog 19 [v,tv] u fun r n=>∃ m,r=.tuple #[m,.int .i64 (H1 A R F lab ss)]/\Ac n m 3 ((Biz A R F lab ss).map E3):=by
 by_cases h0:H1 A R F lab ss=0
 ·have e:Biz A R F lab ss=B2 (F.map Bg2) ss (F.map Bg2).length:=by unfold Biz;rw[if_pos h0]
  rw[e,h0];exact Bl5 (Bg9 j ok h d h0)
 have e:Biz A R F lab ss = []:=by unfold Biz;rw[if_neg h0]
 rw[e];exact Fn0.weak (Bme j ok h d g h0) fun r n t=>⟨_,t,Ac.nil _ _ _ _⟩
def Bql (n:Hx u)(m:R0 u v A R F lab)(ok:Tq u A R)(j:Ac u tv 1 (ss.map nmV))(d:∀ s∈ss,s.length<=9223372036854775807)(g:ss.length<=9223372036854775807) :
 Fn0 prog 23 [v,tv] u fun r h=>Bk9 h r A R F lab ss:=by
 by_cases h0:H1 A R F lab ss=0
 ·exact Fn0.weak (Bqn n (Bg9 m ok j d h0)) fun r h e=>.inl ⟨h0,e⟩
 exact Fn0.weak (Bq3 m ok j d g h0) fun r h e=>.inr ⟨h0,e⟩
def Bnk (m:R0 u v A R F lab)(ok:Tq u A R)(j:Ac u tv 1 (ss.map nmV))(d:∀ s∈ss,s.length<=9223372036854775807)(g:ss.length<=9223372036854775807) :
 Fn0 prog 11 [v,tv] u fun r h=>Bk9 h r A R F lab ss:=by
 by_cases h0:H1 A R F lab ss=0
 ·exact Fn0.weak (Bqt (Bg9 m ok j d h0)) fun r h e=>.inl ⟨h0,e⟩
 exact Fn0.weak (Bqq m ok j d g h0) fun r h e=>.inr ⟨h0,e⟩
def Bpo:(Biz A R F lab ss).length<=F.length:=by
 unfold Biz;split
 ·have:=Bh9 (F.map Bg2) ss (F.map Bg2).length;simpa using this
 simp
end
def Bp5 {u:PH}{r n:Value}{A:List Hv}{R:List H2}{F:List C9}{lab:Int}{ss:List (List UInt8)}(h:Bk9 u r A R F lab ss)(m:Bk9 u n A R F lab ss) :
 ∃ c d,r=.tuple #[c,.int .i64 (H1 A R F lab ss)]/\n=.tuple #[d,.int .i64 (H1 A R F lab ss)]/\Fn0 prog 29 [c,d] u fun r _=>r=.bool true:=by
 rcases h with ⟨e,c,rfl,t⟩|⟨e,rfl⟩
 ·rcases m with ⟨_,d,rfl,j⟩|⟨g,_⟩
  ·exact⟨c,d,by rw[e],by rw[e],Bn4 t j oV⟩
  exact absurd e g
 rcases m with ⟨g,_⟩|⟨_,rfl⟩
 ·exact absurd g e
 exact⟨_,_,rfl,rfl,Bo2⟩
def Bk9.mono {u d:PH}{r:Value}{A:List Hv}{R:List H2}{F:List C9}{lab:Int}{ss:List (List UInt8)}(h:Bk9 u r A R F lab ss)(m:PH.le u d):Bk9 d r A R F lab ss:=by
 rcases h with ⟨e,c,g,j⟩|h
 ·exact .inl ⟨e,c,g,j.mono m⟩
 exact .inr h
def Bks {u:PH}{A:List Hv}{R:List H2}{F:List C9}{lab:Int}{ss:List (List UInt8)}(h:Bk9 u r A R F lab ss) :
 ∃ (s:List UInt8) (a:Option Addr) (n c:Nat) (d:Option Addr) (m g:Nat),r=.tuple #[.agg #[.string (mkS s),.slice a n c,.slice d m g],.int .i64 (H1 A R F lab ss)]:=by
 rcases h with ⟨e,c,rfl,j⟩|⟨_,rfl⟩
 ·obtain⟨t,H,C,z,I,E,rfl⟩:=j.opn;exact⟨_,_,_,_,_,_,_,by rw[e]⟩
 exact⟨[],_,_,_,_,_,_,rfl⟩
end
end Go.Proofs.YtnjlhkppabfebaaGreatDoor
