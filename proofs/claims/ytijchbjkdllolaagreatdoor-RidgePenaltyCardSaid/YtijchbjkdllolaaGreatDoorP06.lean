/- Parts of one proof, joined by a program. -/
import Derived.Test.YtijchbjkdllolaaGreatDoorP05
import Derived.Lib.ConvBytes
set_option linter.defProp false
set_option linter.unusedVariables false
set_option linter.unusedSimpArgs false
set_option linter.unusedSectionVars false
set_option maxHeartbeats 16000000
namespace Go.Proofs.YtijchbjkdllolaaGreatDoor
open Go.Proofs.Tryz
open Go.RowKit
def Aza:=@List.map_append
def A3m:=@Option.isSome_iff_exists
def A3f:=@Nat.le_of_dvd
def Bax:=@Nat.one_dvd
def Baz:=@Nat.lcm_dvd
def A7g:=@Nat.dvd_trans
def A6e:=@Nat.dvd_lcm_left
def A6f:=@Nat.min_le_right
def A01:=@List.mem_iff_getElem
def A80:=@Int.tmod_lt_of_pos
def A81:=@Int.lt_tmod_of_pos
def A4g:=@List.getElem?_range
section
variable {c:UInt8}{l:List UInt8}{q:Rat}{u:PH}
def Aht (h:∀ b∈l,b≠c):Lib.indexByte l c = -1:=by
 induction l with
 |nil=>rfl
 |cons b l ih =>
  have e:(b==c)=false:=by rw[beq_eq_false_iff_ne];exact h b mV
  rw[Lib.indexByte,e,ih (fun x g=>h x (by simp[g]))];rfl
def Amo {l r:List UInt8}(h:∀ b∈l,b≠c):Lib.indexByte (l++c::r) c=l.length:=by
 induction l with
 |nil=>simp[Lib.indexByte]
 |cons b l ih =>
  have e:(b==c)=false:=by rw[beq_eq_false_iff_ne];exact h b mV
  have g:=ih (fun x m=>h x (by simp[m]));rw[A11,Lib.indexByte,e,g];have j:(((l.length:Nat):Int) == -1)=false:=by rw[beq_eq_false_iff_ne];omega
  simp[j]
def Aph :Fn0 prog 226 [.string (mkS l),.string (mkS [c])] u fun v _=>v=.int .i64 (Lib.indexByte l c) :=
 Fn0.ofW (fun v _=>v=.int .i64 (Lib.indexByte l c)) (fun w _=>(Tryz.stringslite_Index_one (mkS l) c w).mono fun _ _ ⟨e,h⟩=>⟨_,e,rfl,by rw[h];exact Ext.refl _⟩) (fun _ _ _ h _ _ _=>h)
def Axy {T:List UInt8}(h:∀ b∈T,b≠47):Fn0 prog 118 [.string (mkS T),.string (mkS [47])] u fun v _=>v=.tuple #[.string (mkS T),.string (mkS []),.bool false]:=by
 have e:Fn0 prog 185 [.string (mkS T),.string (mkS [47])] u fun v _=>v=.tuple #[.string (mkS T),.string (mkS []),.bool false]:=by
  refine Fn0.o func185<|G.c call226 (Aph (l:=T) (c:=47)) ?_;rintro m j g rfl;rw[Aht h];exact G.hF (-1) 0<|G.r (.tuple #[.string (mkS T),.string (mkS []),.bool false]) ⟨rfl,rfl⟩
 refine Fn0.o func118<|G.c call185 e ?_;rintro m j g rfl;exact G.r _ ⟨rfl,rfl⟩
def Ax6 {A B:List UInt8}(h:∀ b∈A,b≠47)(H:(A++47::B).length<=1000000):Fn0 prog 118 [.string (mkS (A++47::B)),.string (mkS [47])] u fun v _=>v=.tuple #[.string (mkS A),.string (mkS B),.bool true]:=by
 have t:(A++47::B).length=A.length+1+B.length:=gV
 have n:(A++47::B).take A.length=A:=mV
 have e:(A++47::B).drop (A.length+1)=B:=by rw[<-A5v];simp
 have j:=Amo (r:=B) h;generalize A++47::B=T at *
 have m:(mkS T).size=T.length:=Go.Lib.size_mk _;have g:Fn0 prog 185 [.string (mkS T),.string (mkS [47])] u fun v _=>v=.tuple #[.string (mkS A),.string (mkS B),.bool true]:=by
  refine Fn0.o func185<|G.c call226 (Aph (l:=T) (c:=47)) ?_;rintro F E C rfl;rw[j];refine G.hT A.length 0<|G.sliceSTo T A.length kV kV oV ?_;rw[n];refine G.p A.length 1 (A.length+1:Nat)<|G.sliceSFrom T (A.length+1) kV kV oV ?_;rw[e];exact G.r (.tuple #[.string (mkS A),.string (mkS B),.bool true]) ⟨rfl,rfl⟩
 refine Fn0.o func118<|G.c call185 g ?_;rintro F E C rfl;exact G.r _ ⟨rfl,rfl⟩
def Awj (h:Tx q):Fn0 prog 118 [.string (mkS (Ae q)),.string (mkS [47])] u fun v _=>v=.tuple #[.string (mkS (Lib.itoa q.num)),.string (mkS (if q.den=1 then [] else Lib.itoa (q.den:Int))),.bool (decide (q.den≠1))]:=by
 have g:=F2 h.1;have l2:=F2 h.den;unfold Ae;by_cases e:q.den=1
 ·rw[if_pos e,if_pos e,decide_eq_false (by simp[e])];exact Axy (Hn _)
 rw[if_neg e,if_neg e,decide_eq_true e];exact Ax6 (Hn _) gV
def Ax.mk {u:PH}{q:Rat}{y z:Int}{b b':Bool}{a g:Option Addr}{n c m h:Nat}(t:Bq u (.agg #[.bool b,.slice a n c]) y)(C:Bq u (.agg #[.bool b',.slice g m h]) z)(E:q.num=y)(F:(q.den:Int)=z) :
 Ax u (.agg #[.bool b,.slice a n c,.bool b',.slice g m h]) q:=by
 obtain⟨_,_,_,j,H⟩:=t;obtain⟨_,_,_,e,I⟩:=C;subst E F;rw[decide_eq_false oV]at e;simp only[Value.agg.injEq,A19,A0f,Value.bool.injEq,Value.slice.injEq,and_true]at j e;obtain⟨rfl,rfl,rfl,rfl⟩:=j;obtain⟨rfl,rfl,rfl,rfl⟩:=e;exact⟨_,_,_,_,_,_,rfl,H,I⟩
def Dr (h:Tx q):Fn0 prog 54 [.string (mkS (Ae q))] u fun v N=>Ax N v q:=by
 refine Fn0.o func54<|G.c call118 (Awj h) ?_;rintro U T R rfl;by_cases e:q.den=1
 ·rw[if_pos e,decide_eq_false (by simp[e])];refine G.c call119 (Jo h.1) ?_;intro P L l2 j;obtain⟨C,n,J,F,rfl⟩:=j.opn;have g:=Jo (u:=L) (z:=1) (by rw[Lib.nDigits_small fV];omega);rw[Gz]at g;refine G.c call119 g ?_;intro Q O I m;obtain⟨E,t,K,H,rfl⟩:=m.opn;exact G.r (.agg #[.bool C,.slice n J F,.bool E,.slice t K H]) ⟨rfl,Ax.mk (j.mono I) m rfl (by rw[e];rfl)⟩
 rw[if_neg e,decide_eq_true e];refine G.c call119 (Jo h.1) ?_;intro P L l2 j;obtain⟨C,n,J,F,rfl⟩:=j.opn;refine G.c call119 (Jo h.den) ?_;intro Q O I m;obtain⟨E,t,K,H,rfl⟩:=m.opn;exact G.r (.agg #[.bool C,.slice n J F,.bool E,.slice t K H]) ⟨rfl,Ax.mk (j.mono I) m rfl rfl⟩
end
section
variable {e v:Value}{es:List Value}{q:Rat}{qs:List Rat}{sz:Nat}{u:PH}
def D6 (ts:List (List UInt8)):List Value:=ts.map fun t=>Value.string (mkS t)
def Cr (ts:List (List UInt8)):(D6 ts).length=ts.length:=by simp[D6]
def Ag2 (ts:List (List UInt8))(t:List UInt8):D6 ts++[.string (mkS t)]=D6 (ts++[t]):=by simp[D6]
def Ci (ts:List (List UInt8)):Ba 1 (D6 ts):=by
 intro e g;simp only[D6,Ayx]at g;obtain⟨b,_,rfl⟩:=g;exact⟨rfl,fun x h=>by simp[Value.cells]at h;subst h;rfl⟩
def Dc (u:PH)(v:Value)(ts:List (List UInt8)):Prop:=Ac u v 1 (D6 ts)
def Dh (u:PH)(es:List Value)(qs:List Rat):Prop:=es.length=qs.length/\∀ (j:Nat) (q:Rat),qs[j]?=some q->∃ e,es[j]?=some e/\Ax u e q
def Dh.mono {u u':PH}{es:List Value}{qs:List Rat}(h:Dh u es qs)(hl:PH.le u u'):Dh u' es qs :=
 ⟨h.1,fun j q hj=>by obtain⟨e,h1,h2⟩:=h.2 j q hj;exact⟨e,h1,h2.mono hl⟩⟩
def Dh.snoc (h:Dh u es qs)(E:Ax u e q):Dh u (es++[e]) (qs++[q]):=by
 refine⟨by simp[h.1],fun j r g=>?_⟩;by_cases m:j<qs.length
 ·rw[Azi m]at g;obtain⟨n,t,C⟩:=h.2 j r g;exact⟨n,by rw[Azi (by rw[h.1];exact m)];exact t,C⟩
 rw[Azy oV]at g;have:j-qs.length=0:=by
  rcases Azx (j-qs.length) with h0|h0
  ·exact h0
  rw[Azo gV]at g;cases g
 rw[this]at g;simp at g;subst g;refine⟨e,?_,E⟩;rw[Azy (by rw[h.1];omega),h.1,this];rfl
def It (u:PH)(v:Value)(qs:List Rat):Prop:=∃ es,Ac u v 4 es/\Dh u es qs
def It.mono {u u':PH}{v:Value}{qs:List Rat}(h:It u v qs)(hl:PH.le u u'):It u' v qs:=by
 obtain⟨es,h1,h2⟩:=h;exact⟨es,h1.mono hl,h2.mono hl⟩
def Ax.ok (h:Ax u e q):Ba 4 [e]:=by
 obtain⟨b,a,n,c,b',m,C,t,rfl⟩:=h.opn;intro x g;simp at g;subst g;exact⟨rfl,fun y j=>by simp[Value.cells]at j;rcases j with rfl|rfl|rfl|rfl<;>rfl⟩
def Ac.opn (h:Ac u v sz es):∃ a c,v=.slice a es.length c:=by
 obtain⟨a,c,rfl,_⟩:=h;exact⟨a,c,rfl⟩
def Ac.at' {a:Option Addr}{n c sz:Nat}(h:Ac u (.slice a n c) sz es){j:Nat}(t:es[j]?=some e):∃ b off,a=some ⟨b,off,none⟩/\ElP u b (off+j*sz) e:=by
 obtain⟨C,E,g,F,m⟩:=h;simp only[Value.slice.injEq]at g;obtain⟨rfl,_,rfl⟩:=g;exact m j e t
def Sw (h:Dc u v (qs.map Ae))(hq:∀ q∈qs,Tx q)(hl:qs.length<=1000000):Fn0 prog 106 [v] u fun v' T=>It T v' qs:=by
 obtain⟨a,c,rfl⟩:=Ac.opn h;have H:(D6 (qs.map Ae)).length=qs.length:=by rw[Cr,Ayt]
 rw[H]at h⊢;refine Fn0.o func106<|G.l (ι:=Nat×List Value×(Option Addr×Nat×Nat)) (fun i=>[(3,sV i.2.2.1 i.2.2.2.1 i.2.2.2.2),(6,sV a qs.length c),(7,iV qs.length),(8,iV i.1)]) (fun _=>[])
  (fun i T m'=>i.1<=qs.length/\Dh T i.2.1 (qs.take i.1)/\Af PH.mt m' (.slice i.2.2.1 i.2.2.2.1 i.2.2.2.2) 118 4 i.2.1) (fun i=>qs.length-i.1) (0,[],(none,0,0)) ⟨mV,⟨mV,fun j q hj=>by simp at hj⟩,Af.nil _ _ _⟩ ?_
 rintro J ⟨k,es,⟨X,n1,Z⟩⟩ hJ T m' F ⟨hk,hF,U⟩;simp only at hk hF U hJ;have V:=hF.1;rw[Ay1]at V;by_cases I:k<qs.length
 ·refine G.lT k qs.length ?_;have K:qs[k]?=some qs[k]:=Ayr I;obtain⟨Y,oa,rfl,ea⟩:=Ac.at' (Ac.mono h F) (j:=k) (e:=.string (mkS (Ae qs[k]))) (by simp[D6,K]);have W:=hq qs[k] (Ay8 I);refine G.a Y oa qs.length c k 1 oV<|G.lU none Y (oa+k*1) (.string (mkS (Ae qs[k]))) ea<|G.c call54 (Dr W) ?_;intro v2 u2 l2 Q;obtain⟨O,N,R,P,n,m,C,t,rfl⟩:=Q.opn;refine G.B 118 4 64 (.agg #[.bool false,.slice none 0 0,.bool false,.slice none 0 0]) [.agg #[.bool O,.slice N R P,.bool n,.slice m C t]] Q.ok ?_;intro g u3 L e3;refine G.append 118 4 64 (.agg #[.bool false,.slice none 0 0,.bool false,.slice none 0 0]) PH.mt es [.agg #[.bool O,.slice N R P,.bool n,.slice m C t]] (.slice X n1 Z) g 0 1 1 kV rfl rfl oV U e3 Q.ok rfl oV oV oV ?_;intro v4 m4 E;obtain⟨a4,c4,rfl⟩:=E.shape;refine G.i k<|G.b (hJ (k+1,es++[Value.agg #[.bool O,.slice N R P,.bool n,.slice m C t]],(a4,(es++[Value.agg #[.bool O,.slice N R P,.bool n,.slice m C t]]).length,c4)) _ _ _ cV ((F.trans l2).trans L) ⟨dV,?_,E⟩ dV);dsimp only;rw[Aze,K];exact (hF.mono (l2.trans L)).snoc (Q.mono L)
 have:k=qs.length:=oV;subst this;refine G.lF qs.length qs.length<|G.give PH.mt es _ kV U (fun _=>.inl rfl) ?_;intro u3 L hL;rw[Azj]at hF;exact G.r (.slice X n1 Z) ⟨rfl,es,hL,hF.mono L⟩
def Vh (ht:Js u)(h:It u v qs)(hq:∀ q∈qs,Tx q)(hl:qs.length<=1000000):Fn0 prog 76 [v] u fun v' P=>∃ r,v'=.tuple #[r,.int .i64 0]/\Dc P r (qs.map Ae):=by
 obtain⟨es,t,hF⟩:=h;obtain⟨a,c,rfl⟩:=Ac.opn t;rw[hF.1]at t⊢;refine Fn0.o func76<|G.l (ι:=Nat×(Option Addr×Nat×Nat)) (fun i=>[(4,sV i.2.1 i.2.2.1 i.2.2.2),(9,sV a qs.length c),(10,iV qs.length),(11,iV i.1)]) (fun _=>[])
  (fun i P W=>i.1<=qs.length/\Af PH.mt W (.slice i.2.1 i.2.2.1 i.2.2.2) 32 1 (D6 ((qs.take i.1).map Ae))) (fun i=>qs.length-i.1) (0,(none,0,0)) ⟨mV,Af.nil _ _ _⟩ ?_
 rintro J ⟨k,⟨Q,X,T⟩⟩ U P W m ⟨hk,L⟩;simp only at hk L U;have a0:(D6 ((qs.take k).map Ae)).length=k:=by simp[D6];omega
 by_cases E:k<qs.length
 ·refine G.lT k qs.length ?_;have F:qs[k]?=some qs[k]:=Ayr E;obtain⟨e,he,C⟩:=hF.2 k _ F;obtain⟨R,Y,rfl,ea⟩:=Ac.at' (t.mono m) (j:=k) he;have N:=hq qs[k] (Ay8 E);obtain⟨b2,Z,n2,c2,I,H,O,K,rfl⟩:=C.opn;refine G.a R Y qs.length c k 4 oV<|G.lU (some 4) R (Y+k*4) (.agg #[.bool b2,.slice Z n2 c2,.bool I,.slice H O K]) ea<|G.c call56 (O1 (ht.mono m) (C.mono m) N) ?_;rintro v2 u2 l2 rfl;refine G.nF 0 0<|G.B 32 1 16 (.string (mkS [])) [.string (mkS (Ae qs[k]))] (Ci [Ae qs[k]]) ?_;intro g u3 V e3;refine G.append 32 1 16 (.string (mkS [])) PH.mt (D6 ((qs.take k).map Ae)) [.string (mkS (Ae qs[k]))] (.slice Q X T) g 0 1 1 kV rfl rfl oV L e3 (Ci [Ae qs[k]]) rfl oV oV oV ?_;intro v4 m4 n;rw[Ag2,show (qs.take k).map Ae++[Ae qs[k]]=(qs.take (k+1)).map Ae by rw[Aze,F,Aza];rfl]at n;obtain⟨a4,c4,rfl⟩:=n.shape;exact G.i k<|G.b (U (k+1,(a4,(D6 ((qs.take (k+1)).map Ae)).length,c4)) _ _ _ cV ((m.trans l2).trans V) ⟨dV,n⟩ dV)
 have:k=qs.length:=oV;subst this;refine G.lF qs.length qs.length<|G.give PH.mt _ _ kV L (fun _=>.inl rfl) ?_;intro u3 V t;rw[Azj]at t;exact G.r (.tuple #[.slice Q X T,.int .i64 0]) ⟨rfl,_,rfl,t⟩
end
def Agy {u:PH}{v:Value}{ts:List (List UInt8)}{fid:Nat}{cap:Array Value}(h:Dc u v ts)(R:ts.length<=1000000)
 (g:∀ args w,(callFunc fid args).run prog w=.ok (.enter fid args) w) (N:∀ t∈ts,∀ C,PH.le u C->Fn0 prog fid [.string (mkS t)] C fun v _=>v=.bool false) :
 Fn0 prog 202 [v,.func (.func fid) #[] #[]] u fun P _=>P=.int .i64 (-1):=by
 obtain⟨a,c,rfl⟩:=Ac.opn h;rw[Cr]at h⊢;refine Fn0.o func202<|G.l (ι:=Nat) (fun i=>[(0,sV a ts.length c),(1,.v (.func (.func fid) #[] #[])),(7,iV ts.length),(8,iV i)]) (fun _=>[])
  (fun i C H=>i<=ts.length/\H=PH.mt) (fun i=>ts.length-i) 0 ⟨oV,rfl⟩ ?_
 rintro J k L C H m ⟨Q,rfl⟩;by_cases n:k<ts.length
 ·refine G.lT k ts.length ?_;have E:ts[k]?=some ts[k]:=Ayr n;obtain⟨F,I,rfl,K⟩:=Ac.at' (Ac.mono h m) (j:=k) (e:=.string (mkS ts[k])) (by simp[D6,E]);refine G.a F I ts.length c k 1 oV<|G.lU none F (I+k*1) (.string (mkS ts[k])) K<|G.c g (N ts[k] (Ay8 n) C m) ?_;rintro U T O rfl;exact G.i k<|G.b (L (k+1) _ _ _ cV (m.trans O) ⟨oV,rfl⟩ oV)
 exact G.lF k ts.length<|G.r (.int .i64 (-1)) ⟨rfl,rfl⟩
def Kz {u:PH}{v:Value}{ts:List (List UInt8)}{fid:Nat}(h:Dc u v ts)(m:ts.length<=1000000)
 (e:∀ args w,(callFunc fid args).run prog w=.ok (.enter fid args) w) (j:∀ t∈ts,∀ g,PH.le u g->Fn0 prog fid [.string (mkS t)] g fun v _=>v=.bool false) :
 Fn0 prog 141 [v,.func (.func fid) #[] #[]] u fun n _=>n=.bool false:=by
 obtain⟨a,c,rfl⟩:=Ac.opn h;refine Fn0.o func141<|G.c call202 (Agy (cap:=#[]) h m e j) ?_;rintro F E C rfl;exact G.hF (-1) 0<|G.r (.bool false) ⟨rfl,rfl⟩
section
section rules
variable [Cc] {P:Program} [A5 P] {fn:Func} {Post:By} {st:List KI×S} {u m:PH}
def Bo.heap {w w':World}(h:Bo u m w)(e:∀ g:Nat,w'.heap[g]?=w.heap[g]?):Bo u m w' :=
 ⟨fun g o n=>by rw[e];exact h.pu g o n,fun g o n=>by rw[e];exact h.pm g o n,h.ap,fun g cs t fr j z n C=>h.cl g cs t fr j z (by rw[<-e];exact n) C⟩
def G.convSB (d:Option TypeDesc)(e:TypeId)(l:List UInt8)(h:Aj P (adv P st)=.conv d (some (.slice e)) (.string (mkS l)))(hd:d.isSome=true)(he:P.underlying e=some (.int .u8))
 (k:∀ v n,PH.le u n->Ac n v 1 (Bm l)->G P fn Post (nx (adv P st) v) n m):G P fn Post st u m:=by
 refine G.big (K:=fun V n U=>U=m/\Ac n V 1 (Bm l)) h mV (fun L op hv=>?_) (.inl fun v n U H=>by rw[H.1];exact PH.le_refl _) (fun L o t w Q=>?_) (fun V n U R H=>?_)
 ·obtain⟨s,W,X,rfl,_,_,J⟩:=Lk hv;exact Ab9 J mV
 ·obtain⟨s,W,X,Y,e2,e3,J⟩:=Lk t;obtain⟨a0,a1,Z,pos,after,N⟩:=o;simp only at Y;subst Y;obtain⟨dd,rfl⟩:=A3m.1 hd;have hr:=Lib.run_convert_string_bytes (P:=P) w s W e (mkS l) e3 J he;have T:(mkS l).size=l.length:=Go.Lib.size_mk l;obtain⟨g1,g2,g3,g4⟩:=Q.newU (.cells (Lib.bytesCells w e (mkS l)) e ((Lib.bytesCells w e (mkS l)).size,(Lib.bytesCells w e (mkS l)).size+1));have hh:∀ g:Nat,(Lib.bytesWorld w e (mkS l)).heap[g]?=(w.alloc (.cells (Lib.bytesCells w e (mkS l)) e ((Lib.bytesCells w e (mkS l)).size,(Lib.bytesCells w e (mkS l)).size+1))).heap[g]?:=by
   intro g;rcases A33 g w.heap.size with C|C|C
   ·rw[Lib.bytesWorld_at_old w e _ g C,Av _ _ C]
   ·subst C;rw[Lib.bytesWorld_at_new,Cf]
   rw[A1w (by rw[Lib.bytesWorld_size];omega),A1w (by rw[Bz];omega)]
  refine B0 (by simp[execOp,e2,hr];rfl) ⟨_,m,g1.heap hh,⟨by rw[Lib.bytesWorld_size];omega,fun g hg hm=>Lib.bytesWorld_at_old w e _ g hg,g2.us,g2.ms,⟨rfl,rfl⟩,fun _=>⟨rfl,by first|exact Ay2 _|exact Nat.le_succ _⟩⟩,rfl,?_⟩
  refine⟨some ⟨w.heap.size,0,none⟩,grownCap w l.length 0 e,by rw[Ay,T],by rw[Ay];exact grownCap_ge w _ _ e,fun j x E=>⟨_,0,rfl,fun i y I=>⟨_,_,_,Ab _ _ _,?_⟩⟩⟩;have F:j<l.length:=by
   rcases Az8 j l.length with O|O
   ·exact O
   rw[Azo (by rw[Ay];exact O)]at E;cases E
  rw[Hp F]at E;simp only[Ayz]at E;subst E;have:i=0/\y=.int .u8 ((l.getD j 0).toNat:Int):=by
   match i,I with
   |0,I=>simp[Value.cells]at I;simp[I]
  obtain⟨rfl,rfl⟩:=this;simp[Lib.bytesCells,Array.getElem?_append,F,List.getD]
 obtain⟨rfl,H⟩:=H;exact k V n R H
end rules
def Tl {u:PH}{s p:List UInt8}:Fn0 prog 241 [.string (mkS s),.string (mkS p)] u fun v _=>v=.string (mkS (Lib.trimPrefix s p)) :=
 Fn0.ofW (fun v _=>v=.string (mkS (Lib.trimPrefix s p))) (fun w _=>(Tryz.strings_TrimPrefix (mkS s) (mkS p) w).mono fun _ _ ⟨e,h⟩=>⟨_,e,rfl,by rw[h];exact Ext.refl _⟩) (fun _ _ _ h _ _ _=>h)
def I9 {u:PH}{z:Int}(h:Lib.nDigits z.natAbs<=400):Fn0 prog 203 [.string (mkS (Lib.itoa z))] u fun v _=>v=.bool true:=by
 refine Fn0.o func203 ?_;by_cases h0:z=0
 ·subst h0;exact G.q (Lib.itoa 0) [48] Es<|G.r (.bool true) ⟨rfl,rfl⟩
 refine G.w (Lib.itoa z) [48] (fun e=>h0 (Ih (e.trans Es.symm)))<|G.c call241 (Tl (s:=Lib.itoa z) (p:=[45])) ?_;rintro v1 u1 Y rfl;have t:=Lib.decDigits_length z.natAbs;have V:=Lib.nDigits_pos z.natAbs;have n:=Mv z.natAbs;obtain⟨I,g,T,U⟩:=P3 (z:=(z.natAbs:Int)) oV oV;rw[U6]at g;rw[Dw z,(Kh n (Ga _)).1];generalize W:Lib.decDigits z.natAbs=L at *
 have F:(mkS L).size=L.length:=Go.Lib.size_mk _;refine G.w L [] (by intro e;rw[e]at t;simp at t;omega)<|G.gF L.length 400<|G.idxS L 0 I kV g<|G.cmpG .eql .u8 (I.toNat:Int) 48 false kV rfl (by simp only[Cl,decide_eq_false_iff_not];omega)<|G.convSB (some .string) 5 L kV rfl kV ?_;intro v2 u2 l2 H;obtain⟨a,c,rfl⟩:=Ac.opn H;rw[Ay]at H⊢;refine G.l (ι:=Nat) (fun i=>[(23,sV a L.length c),(24,iV L.length),(25,iV i)]) (fun _=>[]) (fun i _ N=>i<=L.length/\N=PH.mt) (fun i=>L.length-i) 0 ⟨oV,rfl⟩ ?_;rintro J i R Z N C ⟨hi,rfl⟩;by_cases E:i<L.length
 ·refine G.lT i L.length ?_;have X:=Lg n E;obtain⟨K,O,rfl,Q⟩:=Ac.at' (Ac.mono H C) (j:=i) (Hp E);exact G.a K O L.length c i 1 oV<|G.lU none K (O+i*1) (.int .u8 ((L.getD i 0).toNat:Int)) Q<|G.cmpG .lss .u8 ((L.getD i 0).toNat:Int) 48 false kV rfl (by simp only[Cl,decide_eq_false_iff_not];omega)<|G.cmpG .gtr .u8 ((L.getD i 0).toNat:Int) 57 false kV rfl (by simp only[Cl,decide_eq_false_iff_not];omega)<|G.i i<|G.b (R (i+1) _ _ _ cV C ⟨oV,rfl⟩ oV)
 exact G.lF i L.length<|G.r (.bool true) ⟨rfl,rfl⟩
end
section
variable {q:Rat}{qs:List Rat}{u:PH}{v:Value}{z:Int}
def Wi (h:Lib.nDigits z.natAbs<=400):Fn0 prog 242 [.string (mkS (Lib.itoa z))] u fun v t=>Bq t v z:=by
 refine Fn0.o func242<|G.c call119 (Jo h) ?_;intro E C l2 e;obtain⟨j,g,n,m,rfl⟩:=e.opn;exact G.r (.agg #[.bool j,.slice g n m]) ⟨rfl,e⟩
def Afb {y z:Int}(h:Lib.nDigits y.natAbs<=400)(e:Lib.nDigits z.natAbs<=400):Fn0 prog 204 [.string (mkS (Lib.itoa y)),.string (mkS (Lib.itoa z))] u fun v _=>v=.int .i64 (sgn (y-z)):=by
 refine Fn0.o func204<|G.c call203 (I9 h) ?_;rintro U O I rfl;refine G.c call203 (I9 e) ?_;rintro V P l2 rfl;refine G.c call242 (Wi h) ?_;intro W Q J g;obtain⟨C,n,L,F,rfl⟩:=g.opn;refine G.c call242 (Wi e) ?_;intro X R m j;obtain⟨E,t,N,H,rfl⟩:=j.opn;refine G.c call174 (Kp (g.mono m) j (Ayv (Bi h) oV) (Ayv (Bi e) oV)) ?_;rintro Y T K rfl;exact G.r _ ⟨rfl,rfl⟩
def Eo (h:Tx q):Fn0 prog 143 [.string (mkS (Ae q))] u fun v _=>v=.bool true:=by
 refine Fn0.o func143<|G.c call118 (Awj h) ?_;rintro v1 u1 l1 rfl;refine G.c call203 (I9 h.1) ?_;rintro v2 u2 l2 rfl;by_cases g:q.den=1
 ·rw[if_pos g,decide_eq_false (by simp[g])];refine G.c call203 (I9 h.1) ?_;rintro L E I rfl;exact G.r (.bool true) ⟨rfl,rfl⟩
 rw[if_neg g,decide_eq_true g];have H:=Aqq g;have F:=q.den_nz;refine G.w (Lib.itoa q.num) [48] (fun e=>H (Ih (e.trans Es.symm)))<|G.c call203 (I9 h.den) ?_;rintro L E I rfl;have m:=Afb (u:=E) (y:=(q.den:Int)) (z:=1) h.den (by rw[Lib.nDigits_small fV];omega);rw[Gz]at m;refine G.c call204 m ?_;rintro v4 u4 l4 rfl;refine G.kF' (sgn ((q.den:Int)-1)) 0 (by rw[C7 oV];omega)<|G.c call119 (Jo h.1) ?_;intro v5 u5 l5 n;obtain⟨R,N,n5,W,rfl⟩:=n.opn;refine G.c call119 (Jo h.den) ?_;intro v6 u6 J t;obtain⟨T,O,n6,X,rfl⟩:=t.opn;refine G.c call182 (Aae (n.mono J) t (Ayv (Bi h.1) oV) (Ayv (Bi h.den) oV)) ?_;intro v7 u7 l7 j;rw[show Nat.gcd q.num.natAbs ((q.den:Int)).natAbs=1 from q.reduced]at j;obtain⟨U,P,n7,Y,rfl⟩:=j.opn;refine G.c call175 (N1 (z:=1) oV oV) ?_;intro v8 u8 K C;obtain⟨V,Q,n8,Z,rfl⟩:=C.opn;refine G.c call174 (Kp (j.mono K) C (Ayv Sf oV) (Ayv Sf oV)) ?_;rintro v9 u9 l9 rfl;exact G.eT' (sgn (((1:Nat):Int)-1)) 0 fV<|G.r (.bool true) ⟨rfl,rfl⟩
def Aq5 (h:Tx q):Fn0 prog 248 [.string (mkS (Ae q))] u fun v _=>v=.bool false:=by
 refine Fn0.o func248<|G.c call143 (Eo h) ?_;rintro j g e rfl;exact G.r (.bool false) ⟨rfl,rfl⟩
def Adb (h:Tx q):Fn0 prog 196 [.string (mkS (Ae q))] u fun v _=>v=.bool false:=by
 refine Fn0.o func196<|G.c call143 (Eo h) ?_;rintro j g e rfl;exact G.r (.bool false) ⟨rfl,rfl⟩
def Ahj (h:Dc u v (qs.map Ae))(j:∀ q∈qs,Tx q)(g:qs.length<=1000000):Fn0 prog 209 [v] u fun n _=>n=.bool true:=by
 obtain⟨a,c,rfl⟩:=Ac.opn h;refine Fn0.o func209<|G.c call141 (Kz (fid:=248) h (by simpa using g) call248 (fun t m E _=>?_)) ?_
 ·obtain⟨q,e,rfl⟩:=Ayx.1 m;exact Aq5 (j q e)
 rintro H F C rfl;exact G.r (.bool true) ⟨rfl,rfl⟩
def Ac5 (h:Dc u v (qs.map Ae))(j:∀ q∈qs,Tx q)(g:qs.length<=1000000):Fn0 prog 136 [v] u fun n _=>n=.bool true:=by
 obtain⟨a,c,rfl⟩:=Ac.opn h;refine Fn0.o func136<|G.c call141 (Kz (fid:=196) h (by simpa using g) call196 (fun t m E _=>?_)) ?_
 ·obtain⟨q,e,rfl⟩:=Ayx.1 m;exact Adb (j q e)
 rintro H F C rfl;exact G.r (.bool true) ⟨rfl,rfl⟩
end
section
variable {g j k:Nat}{x:SV}
variable [Cc] [Cm]
def SV.pub (k g:Nat):SV->SV
 |.p j off=>cond (Nat.beq j k) (.v (.pointer (some ⟨g,off,none⟩))) (.p j off)
 |x=>x
def Blk.pub (k g:Nat)(b:Blk):Blk:=⟨b.t,b.cells.map (SV.pub k g)⟩
def S.pub (s:S)(k g:Nat):S:={ n:=s.n,tm:=fun d=>(s.tm d).pub k g,hp:=fun j=>cond (Nat.beq j k) none ((s.hp j).map (Blk.pub k g)) }
def SV.pub_den (k:Nat)(ρ:Nat->Nat)(x:SV):(x.pub k (ρ k)).den ρ=x.den ρ:=by
 cases x with
 |junk=>rfl
 |v x=>rfl
 |p j off =>
  cases hb:Nat.beq j k with
  |true=>have:=Azp hb;subst this;simp[SV.pub,SV.den]
  |false=>simp[SV.pub,hb]
def SV.pub_junk :x.pub k g≠.junk↔x≠.junk:=by
 cases x with
 |junk=>simp[SV.pub]
 |v x=>simp[SV.pub]
 |p j off=>cases hb:Nat.beq j k<;>simp[SV.pub,hb]
def SV.pub_p {k g j off:Nat}(h:x.pub k g=.p j off):x=.p j off/\j≠k:=by
 cases x with
 |junk=>cases h
 |v x=>cases h
 |p j' off' =>
  cases hb:Nat.beq j' k with
  |true=>simp[SV.pub,hb]at h
  |false =>
   simp[SV.pub,hb]at h;obtain⟨rfl,rfl⟩:=h;exact⟨rfl,fun e=>by subst e;simp at hb⟩
def M8 (s:S)(k g:Nat):(s.pub k g).hp k=none:=by simp[S.pub]
def Ls (s:S)(h:j≠k):(s.pub k g).hp j=(s.hp j).map (Blk.pub k g):=by
 have:Nat.beq j k=false:=by rw[<-A7l];exact fun e=>h (Azp e)
 simp[S.pub,this]
section rules
variable {c:Cx} {s:S} {u m:PH} {ρ:Nat->Nat} {a:Act} {w:World}
def Rel.pub (h:Rel c s u m ρ a w){k:Nat}{t:TypeId}{xs:List Value}(hk:s.hp k=some ⟨t,xs.map SV.v⟩):Rel c (s.pub k (ρ k)) u (m.upd (ρ k) (.cells xs.toArray t (0,0))) ρ a w:=by
 obtain⟨⟨cs,Z,e2,e3⟩,e4,e5,e6⟩:=h.box k _ hk;have T:cs=xs.toArray:=by
  apply Array.ext
  ·simpa using e2
  intro i I J;have:=e3 i (.v xs[i]) (by simp at J;simp[J]) mV;rw[A0l I]at this;simpa[SV.den] using this
 subst T;have W:∀ j,s.hp j≠none->j≠k->ρ j≠ρ k:=fun j H n e=>n (h.inj j k H (by rw[hk];simp) e);refine⟨h.sz,fun d U=>?_,h.df.of fun r e _ hu K=>⟨e,hu,by rw[Ad _ _ (fun e'=>by rw[e',Z]at e;cases e)];exact K⟩,fun j b O=>?_,fun i j hi H he=>?_,⟨fun d j off U=>?_,fun i b j off hi K=>?_⟩,⟨h.gd.pu,fun g o F=>?_,fun g=>?_,h.gd.cl⟩,⟨h.gr.sz,h.gr.old,h.gr.us,fun g F K=>?_,h.gr.io,h.gr.dr⟩⟩
 ·have V:s.tm d≠.junk:=SV.pub_junk.1 U;show a.tmps[d]?=some (((s.tm d).pub k (ρ k)).den ρ);rw[SV.pub_den];exact h.tm d V
 ·by_cases n:j=k
  ·subst n;rw[M8]at O;cases O
  rw[Ls _ n]at O;obtain⟨Q,E,rfl⟩:=A3c.1 O;obtain⟨⟨R,f1,f2,f3⟩,f4,f5,f6⟩:=h.box j Q E;refine⟨⟨R,f1,by simp[Blk.pub,f2],fun i x hi hx=>?_⟩,f4,f5,?_⟩
  ·simp only[Blk.pub,Ayy]at hi;obtain⟨y,X,rfl⟩:=A3c.1 hi;rw[SV.pub_den];exact f3 i y X (SV.pub_junk.1 hx)
  rw[Ad _ _ (W j (by rw[E];simp) n)];exact f6
 ·have I:∀ j,(s.pub k (ρ k)).hp j≠none->s.hp j≠none:=by
   intro j H N;by_cases n:j=k
   ·subst n;exact H (M8 _ _ _)
   rw[Ls _ n,N]at H;exact H rfl
  exact h.inj i j (I i hi) (I j H) he
 ·obtain⟨I,J⟩:=SV.pub_p U;rw[Ls _ J];have:=h.lv.1 d j off I;intro N;exact this (by simpa using N)
 ·by_cases L:i=k
  ·subst L;rw[M8]at hi;cases hi
  rw[Ls _ L]at hi;obtain⟨Q,E,rfl⟩:=A3c.1 hi;simp only[Blk.pub,Ayx]at K;obtain⟨y,X,Y⟩:=K;obtain⟨rfl,J⟩:=SV.pub_p Y;rw[Ls _ J];have:=h.lv.2 i Q j off E X;intro N;exact this (by simpa using N)
 ·by_cases C:g=ρ k
  ·subst C;rw[Ab]at F;simp only[Ayz]at F;subst F;exact Z
  rw[Ad _ _ C]at F;exact h.gd.pm g o F
 ·by_cases C:g=ρ k
  ·subst C;exact .inl e5
  rw[Ad _ _ C];exact h.gd.ap g
 rw[Ad _ _ oV];exact h.gr.ms g F K
end rules
section rules2
variable {P:Program} [A5 P] {fn:Func} {Post:By} {st:List KI×S} {u m:PH}
def G.pub (k:Nat)(t:TypeId)(xs:List Value)(h:Fv (ctl P 100 st).1=true)(n:(ctl P 100 st).2.hp k=some ⟨t,xs.map SV.v⟩)
 (H:∀ g,u g=none->m g=none->G P fn Post ((ctl P 100 st).1,(ctl P 100 st).2.pub k g) u (m.upd g (.cells xs.toArray t (0,0)))):G P fn Post st u m:=by
 refine⟨Li 100 st ?_⟩;rw[Sym.ofNo h];intro c ρ a w e C;obtain⟨_,_,E,F⟩:=C.box k _ n;have:=(H (ρ k) E F).out;rw[Sym.ofNo (by exact h)]at this;exact this c ρ a w e (C.pub n)
end rules2
end
section
variable {g:Nat}{x y:PH}
variable [Cc] [Cm]
def PH.or (x y:PH):PH:=fun g=>match x g with|some o=>some o|none=>y g
def PH.or_l {o:Obj}(h:x g=some o):x.or y g=some o:=by simp[PH.or,h]
def PH.or_r (h:x g=none):x.or y g=y g:=by simp[PH.or,h]
def Bo.frameM {u mf mc E n:PH}{w w':World}(h:Bo u (mf.or mc) w)(I:Lp mf mc)(g1:Bo E n w')(g2:Br u mc w E n w'):Bo E (mf.or n) w'/\Br u (mf.or mc) w E (mf.or n) w':=by
 have C:∀ g o,mf g=some o->g<w.heap.size/\mc g=none/\w'.heap[g]?=some o/\E g=none:=by
  intro g o e;have F:=h.pm g o (PH.or_l e);have H:mc g=none:=(I g).resolve_left (by rw[e];simp);have t:=A3 F;refine⟨t,H,by rw[g2.old g t H];exact F,?_⟩;rw[g2.us g t];exact (h.ap g).resolve_right (by rw[PH.or_l e];simp)
 refine⟨⟨g1.pu,fun g o e=>?_,fun g=>?_,g1.cl⟩,⟨g2.sz,fun g e j=>?_,g2.us,fun g e j=>?_,g2.io,g2.dr⟩⟩
 ·cases hx:mf g with
  |some o'=>rw[PH.or_l hx]at e;cases e;exact (C g _ hx).2.2.1
  |none=>rw[PH.or_r hx]at e;exact g1.pm g o e
 ·cases hx:mf g with
  |some o'=>exact .inl (C g _ hx).2.2.2
  |none=>rw[PH.or_r hx];exact g1.ap g
 ·cases hx:mf g with
  |some o'=>rw[PH.or_l hx]at j;cases j
  |none=>rw[PH.or_r hx]at j;exact g2.old g e j
 cases hx:mf g with
 |some o'=>rw[PH.or_l hx]at j;cases j
 |none=>rw[PH.or_r hx]at j⊢;exact g2.ms g e j
section rules
variable {P:Program} [A5 P] {fn:Func} {Post:By} {st:List KI×S} {u m:PH}
def T6 (st:List KI×S):Bool:=match st.1 with
 |.reg _ _ false _::_=>true
 |.reg _ ops true (i::_)::_=>match ops[i]? with|some o=>M4 ops i o.op||Mr ops st.2|none=>false
 |_=>false
def Z8 {t:Nat}{e:Array Oper}{j:Bool}{i:Nat}{l:List Nat}{k:List KI}{s:S}{o:Oper}(n:e[i]?=some o)(h:T6 (.reg t e j (i::l)::k,s)=true):j=false\/M4 e i o.op=true\/Mr e s=true:=by
 cases j with
 |false=>exact .inl rfl
 |true=>right;simpa[T6,n] using h
def G.bigN {V:T9}{K:Value->PH->PH->Prop}(h:Aj P (adv P st)=V)(Q:V≠.other)(F:T6 (adv P st)=true)(T:∀ t L,Bg P t L=V->Fe L=false)
 (W:∀ t (o:Oper),Bg P t o.op=V->∀ w,Bo u m w->Eb P t o w fun v w'=>∃ n C,Bo n C w'/\Br u m w n C w'/\K v n C)
 (k:∀ v n C,PH.le u n->K v n C->G P fn Post (nx (adv P st) v) n C):G P fn Post st u m:=by
 refine G.stp ?_;obtain⟨id,Z,dr,i,l,kk,s,o,e,J,U,R,Y,X,j,I⟩:=Eg h Q;have E:=Z8 J (e▸F);rw[e];refine⟨?_⟩;refine Ob.big (K:=K) J U R Y X (T _ _ j) (fun v n C hK=>.inr E) (fun w H=>W _ o j w H) (fun v n C N O=>?_);have:=(k v n C N O).out;rw[I]at this;exact this
def G.callM (f:Nat)(args:List Value){mf mc:PH}{R:Value->PH->PH->Prop}(h:Aj P (adv P st)=.call f args)(E:T6 (adv P st)=true)(X:∀ args w,(callFunc f args).run P w=.ok (.enter f args) w)(Z:m=mf.or mc)(I:Lp mf mc)(c:Ag P f args u mc R)
 (k:∀ v n j,PH.le u n->R v n j->G P fn Post (nx (adv P st) v) n (mf.or j)):G P fn Post st u m:=by
 subst Z;refine G.bigN (K:=fun v n J=>∃ j,J=mf.or j/\R v n j) h mV E Dd (fun T o t w C=>?_) (fun v n J U V=>?_)
 ·have H:Bo u mc w:=C.less (fun g o F=>by
   cases hx:mf g with
   |some o'=>have:=(I g).resolve_left (by rw[hx];simp);rw[this]at F;cases F
   |none=>rw[PH.or_r hx];exact F)
  refine He t X w _ (Calls.mono (c w H) fun e w' Y=>?_);obtain⟨v,n,j,L,N,O,Q⟩:=Y;obtain⟨g1,g2⟩:=C.frameM I N O;exact⟨v,L,n,mf.or j,g1,g2,j,rfl,Q⟩
 obtain⟨j,rfl,W⟩:=V;exact k v n j U W
end rules
end
def M7 (u:PH)(es:List Value)(rs:List (List (List UInt8))):Prop:=es.length=rs.length/\∀ (j:Nat) (r:List (List UInt8)),rs[j]?=some r->∃ a c,es[j]?=some (.slice a r.length c)/\Dc u (.slice a r.length c) r
def M7.mono {u u':PH}{es:List Value}{rs:List (List (List UInt8))}(h:M7 u es rs)(hl:PH.le u u'):M7 u' es rs :=
 ⟨h.1,fun j r hj=>by obtain⟨a,c,h1,h2⟩:=h.2 j r hj;exact⟨a,c,h1,Ac.mono h2 hl⟩⟩
def J9 (u:PH)(v:Value)(rs:List (List (List UInt8))):Prop:=∃ es,Ac u v 1 es/\M7 u es rs
def J9.mono {u u':PH}{v:Value}{rs:List (List (List UInt8))}(h:J9 u v rs)(hl:PH.le u u'):J9 u' v rs:=by
 obtain⟨es,h1,h2⟩:=h;exact⟨es,h1.mono hl,h2.mono hl⟩
def J9.opn {u:PH}{v:Value}{rs:List (List (List UInt8))}(h:J9 u v rs):∃ a c,v=.slice a rs.length c:=by
 obtain⟨es,e,g⟩:=h;obtain⟨a,c,rfl⟩:=e.opn;exact⟨a,c,by rw[g.1]⟩
def J9.row {u:PH}{a:Option Addr}{n c j:Nat}{rs:List (List (List UInt8))}{r:List (List UInt8)}(h:J9 u (.slice a n c) rs)(H:rs[j]?=some r) :
 ∃ b off e g,a=some ⟨b,off,none⟩/\ElP u b (off+j*1) (.slice e r.length g)/\Dc u (.slice e r.length g) r:=by
 obtain⟨es,E,F⟩:=h;obtain⟨e,g,m,t⟩:=F.2 j r H;obtain⟨b,off,rfl,C⟩:=E.at' m;exact⟨b,off,e,g,rfl,C,t⟩
def Agf {u:PH}{v:Value}{rs:List (List (List UInt8))}{fid:Nat}{cap:List Value}(h:J9 u v rs)(Q:rs.length<=1000000)
 (e:∀ args w,(callFunc fid args).run prog w=.ok (.enter fid args) w) (L:∀ r∈rs,∀ j x,PH.le u j->Dc j x r->Fn0 prog fid (x::cap) j fun v _=>v=.bool false) :
 Fn0 prog 281 [v,.func (.func fid) #[] cap.toArray] u fun O _=>O=.int .i64 (-1):=by
 obtain⟨a,c,rfl⟩:=h.opn;refine Fn0.o func281<|G.l (ι:=Nat) (fun i=>[(0,sV a rs.length c),(1,.v (.func (.func fid) #[] cap.toArray)),(7,iV rs.length),(8,iV i)]) (fun _=>[])
  (fun i j F=>i<=rs.length/\F=PH.mt) (fun i=>rs.length-i) 0 ⟨oV,rfl⟩ ?_
 rintro J k K j F g ⟨P,rfl⟩;by_cases m:k<rs.length
 ·refine G.lT k rs.length ?_;have n:rs[k]?=some rs[k]:=Ayr m;obtain⟨C,H,t,E,rfl,I,es⟩:=(h.mono g).row n;refine G.a C H rs.length c k 1 oV<|G.lU none C (H+k*1) (.slice t rs[k].length E) I<|G.call0 fid (.slice t rs[k].length E::cap) kV e (L rs[k] (Ay8 m) j _ g es) ?_;rintro T R N rfl;exact G.i k<|G.b (K (k+1) _ _ _ cV (g.trans N) ⟨oV,rfl⟩ oV)
 exact G.lF k rs.length<|G.r (.int .i64 (-1)) ⟨rfl,rfl⟩
def Ky {u:PH}{v:Value}{rs:List (List (List UInt8))}{fid:Nat}{cap:List Value}(h:J9 u v rs)(m:rs.length<=1000000)
 (e:∀ args w,(callFunc fid args).run prog w=.ok (.enter fid args) w) (j:∀ r∈rs,∀ g x,PH.le u g->Dc g x r->Fn0 prog fid (x::cap) g fun v _=>v=.bool false) :
 Fn0 prog 237 [v,.func (.func fid) #[] cap.toArray] u fun n _=>n=.bool false:=by
 obtain⟨a,c,rfl⟩:=h.opn;refine Fn0.o func237<|G.c call281 (Agf h m e j) ?_;rintro E C t rfl;exact G.hF (-1) 0<|G.r (.bool false) ⟨rfl,rfl⟩
section
variable {es:List Value}{u:PH}
def Aa0 (h:∀ e∈es,∃ a n c,e=.slice a n c):Ba 1 es:=by
 intro e j;obtain⟨a,n,c,rfl⟩:=h e j;exact⟨rfl,fun x g=>by simp[Value.cells]at g;subst g;rfl⟩
def M7.snoc {rs:List (List (List UInt8))}{a:Option Addr}{c:Nat}{r:List (List UInt8)}(h:M7 u es rs)(E:Dc u (.slice a r.length c) r):M7 u (es++[.slice a r.length c]) (rs++[r]):=by
 refine⟨by simp[h.1],fun j r' e=>?_⟩;by_cases g:j<rs.length
 ·rw[Azi g]at e;obtain⟨m,n,t,C⟩:=h.2 j r' e;exact⟨m,n,by rw[Azi (by rw[h.1];exact g)];exact t,C⟩
 rw[Azy oV]at e;have:j-rs.length=0:=by
  rcases Azx (j-rs.length) with h0|h0
  ·exact h0
  rw[Azo gV]at e;cases e
 rw[this]at e;simp at e;subst e;refine⟨a,c,?_,E⟩;rw[Azy (by rw[h.1];omega),h.1,this];rfl
def Aid {v:Value}{ts:List (List UInt8)}(h:Dc u v ts)(hl:ts.length<=1000000):Fn0 prog 138 [v] u fun v' H=>J9 H v' (ts.map fun t=>[t]):=by
 obtain⟨a,c,rfl⟩:=Ac.opn h;rw[Cr]at h⊢;refine Fn0.o func138<|G.l (ι:=Nat×List Value×(Option Addr×Nat×Nat)) (fun i=>[(3,sV i.2.2.1 i.2.2.2.1 i.2.2.2.2),(6,sV a ts.length c),(7,iV ts.length),(8,iV i.1)]) (fun _=>[])
  (fun i H T=>i.1<=ts.length/\M7 H i.2.1 ((ts.take i.1).map fun t=>[t])/\Af PH.mt T (.slice i.2.2.1 i.2.2.2.1 i.2.2.2.2) 78 1 i.2.1) (fun i=>ts.length-i.1) (0,[],(none,0,0)) ⟨mV,⟨mV,fun j q L=>by simp at L⟩,Af.nil _ _ _⟩ ?_
 rintro J ⟨k,es,⟨O,U,Q⟩⟩ R H T C ⟨hk,hF,I⟩;simp only at hk hF I R;have K:=hF.1;rw[Ayt,Ay1]at K;by_cases N:k<ts.length
 ·refine G.lT k ts.length ?_;have E:ts[k]?=some ts[k]:=Ayr N;obtain⟨P,V,rfl,ea⟩:=Ac.at' (Ac.mono h C) (j:=k) (e:=.string (mkS ts[k])) (by simp[D6,E]);refine G.a P V ts.length c k 1 oV<|G.lU none P (V+k*1) (.string (mkS ts[k])) ea<|G.B 32 1 16 (.string (mkS [])) [.string (mkS ts[k])] (Ci [ts[k]]) ?_;intro g u2 l2 Y;have hS:Dc u2 (.slice (some ⟨g,0,none⟩) 1 1) [ts[k]]:=⟨_,1,rfl,Ay2 _,fun j e L=>⟨g,0,rfl,Y j e L⟩⟩;refine G.B 78 1 24 (.slice none 0 0) [.slice (some ⟨g,0,none⟩) 1 1] (Aa0 (by intro e n;simp at n;exact⟨_,_,_,n⟩)) ?_;intro g3 u3 F Z;refine G.append 78 1 24 (.slice none 0 0) PH.mt es [.slice (some ⟨g,0,none⟩) 1 1] (.slice O U Q) g3 0 1 1 kV rfl rfl oV I Z (Aa0 (by intro e n;simp at n;exact⟨_,_,_,n⟩)) rfl oV oV oV ?_;intro v4 m4 m;obtain⟨W,X,rfl⟩:=m.shape;refine G.i k<|G.b (R (k+1,es++[Value.slice (some ⟨g,0,none⟩) 1 1],(W,(es++[Value.slice (some ⟨g,0,none⟩) 1 1]).length,X)) _ _ _ cV ((C.trans l2).trans F) ⟨dV,?_,m⟩ dV);dsimp only;rw[Aze,E,Aza];exact (hF.mono (l2.trans F)).snoc (r:=[ts[k]]) (Ac.mono hS F)
 have:k=ts.length:=oV;subst this;refine G.lF ts.length ts.length<|G.give PH.mt es _ kV I (fun _=>.inl rfl) ?_;intro u3 F hL;rw[Azj]at hF;exact G.r (.slice O U Q) ⟨rfl,es,hL,hF.mono F⟩
end
section
variable {u:PH}{x:Value}
def K6 (A:List (List Rat)):List (List (List UInt8)):=A.map fun r=>r.map Ae
def D8:Ae 0 = [48]:=by rw[Ae,if_pos (by rfl)];exact Es
def W7:Ae 1 = [49]:=by rw[Ae,if_pos (by rfl)];exact Gz
def Ark {r:List (List UInt8)}(h:Dc u x r)(e:r.length<=12):Fn0 prog 238 [x] u fun v _=>v=.bool false:=by
 obtain⟨a,c,rfl⟩:=Ac.opn h;rw[Cr];exact Fn0.o func238<|G.gF r.length 12<|G.r (.bool false) ⟨rfl,rfl⟩
def Ai3 {e:List Rat}(h:Dc u x (e.map Ae))(j:∀ q∈e,Tx q)(g:e.length<=1000000):Fn0 prog 240 [x] u fun v _=>v=.bool false:=by
 obtain⟨a,c,rfl⟩:=Ac.opn h;refine Fn0.o func240<|G.c call136 (Ac5 h j g) ?_;rintro t n m rfl;exact G.r (.bool false) ⟨rfl,rfl⟩
end
def FnR (P:Program)(f:FuncId)(args:List Value)(u mc:PH)(R:Value->PH->Prop):Prop:=Ag P f args u mc (fun v u' m'=>m'=mc/\R v u')
def Bw (mc:PH):PH.mt.or mc=mc:=by funext g;rfl
def Jv (mc:PH):Lp PH.mt mc:=fun _=>.inl rfl
def Ai7 {u mc:PH}{x:Value}{r:List (List UInt8)}{g n:Nat}{t:TypeId}(h:Dc u x r)(m:r.length=n)(C:n<=12)(j:mc g=some (.cells #[.int .i64 n] t (0,0))) :
 FnR prog 239 [x,.pointer (some ⟨g,0,none⟩)] u mc fun v _=>v=.bool false:=by
 obtain⟨a,c,rfl⟩:=Ac.opn h;rw[Cr];refine Ag.o func239<|G.lM none g 0 (.int .i64 n) (fun i y e=>by
  match i,e with
  |0,e=>simp[Value.cells]at e;subst e;exact⟨_,_,_,j,rfl⟩) ?_
 exact G.nF r.length n<|G.r (.bool false) ⟨rfl,rfl⟩
def Ahb {u mc:PH}{v:Value}{rs:List (List (List UInt8))}{fid:Nat}{cap:List Value}(h:J9 u v rs)(R:rs.length<=1000000)
 (e:∀ args w,(callFunc fid args).run prog w=.ok (.enter fid args) w) (L:∀ r∈rs,∀ j x,PH.le u j->Dc j x r->FnR prog fid (x::cap) j mc fun v _=>v=.bool false) :
 FnR prog 281 [v,.func (.func fid) #[] cap.toArray] u mc fun P _=>P=.int .i64 (-1):=by
 obtain⟨a,c,rfl⟩:=h.opn;refine Ag.o func281<|G.l (ι:=Nat) (fun i=>[(0,sV a rs.length c),(1,.v (.func (.func fid) #[] cap.toArray)),(7,iV rs.length),(8,iV i)]) (fun _=>[])
  (fun i j F=>i<=rs.length/\F=mc) (fun i=>rs.length-i) 0 ⟨oV,rfl⟩ ?_
 rintro J k K j F g ⟨Q,rfl⟩;by_cases m:k<rs.length
 ·refine G.lT k rs.length ?_;have n:rs[k]?=some rs[k]:=Ayr m;obtain⟨C,H,t,E,rfl,I,es⟩:=(h.mono g).row n;refine G.a C H rs.length c k 1 oV<|G.lU none C (H+k*1) (.slice t rs[k].length E) I<|G.callM fid (.slice t rs[k].length E::cap) kV kV e (Bw _).symm (Jv _) (L rs[k] (Ay8 m) j _ g es) ?_;rintro U T O N ⟨rfl,rfl⟩;rw[Bw];exact G.i k<|G.b (K (k+1) _ _ _ cV (g.trans N) ⟨oV,rfl⟩ oV)
 exact G.lF k rs.length<|G.r (.int .i64 (-1)) ⟨rfl,rfl⟩
def Ph {u mc:PH}{v:Value}{rs:List (List (List UInt8))}{fid:Nat}{cap:List Value}(h:J9 u v rs)(m:rs.length<=1000000)
 (e:∀ args w,(callFunc fid args).run prog w=.ok (.enter fid args) w) (j:∀ r∈rs,∀ g x,PH.le u g->Dc g x r->FnR prog fid (x::cap) g mc fun v _=>v=.bool false) :
 FnR prog 237 [v,.func (.func fid) #[] cap.toArray] u mc fun t _=>t=.bool false:=by
 obtain⟨a,c,rfl⟩:=h.opn;refine Ag.o func237<|G.callM _ _ kV kV call281 (Bw _).symm (Jv _) (Ahb h m e j) ?_;rintro F E n C ⟨rfl,rfl⟩;rw[Bw];exact G.hF (-1) 0<|G.r (.bool false) ⟨rfl,rfl⟩
section
variable [Cc] [Cm]
section rules
variable {P:Program} [A5 P] {fn:Func} {Post:By} {st:List KI×S} {u m:PH}
def G.storeM (sz b off:Nat)(t:TypeId)(cs:List Value)(e:Value)(h:Aj P (adv P st)=.store (some sz) (.pointer (some ⟨b,off,none⟩)) e)(V:m b=some (.cells cs.toArray t (0,0)))(W:∀ x∈cs,Az x=true)(hl:off+sz<=cs.length)(N:e.cells.size=sz)(L:e.cells.toList.all Az=true)
 (k:G P fn Post (nx (adv P st) undef) u (m.upd b (.cells (cs.take off++e.cells.toList++cs.drop (off+sz)).toArray t (0,0)))):G P fn Post st u m:=by
 refine G.big (K:=fun v' u' Z=>u'=u/\v'=undef/\Z=m.upd b (.cells (cs.take off++e.cells.toList++cs.drop (off+sz)).toArray t (0,0))) h mV (fun j op R=>?_) (.inr fun j op R=>?_) (fun j o F w H=>?_) (fun v' u' Z _ hk=>?_)
 ·obtain⟨T,X,Y,rfl,_⟩:=Fc R;rfl
 ·obtain⟨T,X,Y,rfl,_⟩:=Fc R;rfl
 ·obtain⟨T,X,Y,U,e2,e3,ht⟩:=Fc F;obtain⟨J,a0,I,pos,after,n⟩:=o;simp only at U;subst U;rw[Azg]at L;have Q:=H.pm b _ V;have E:=run_storeCells_at P b off t e.cells.toList 0 cs.toArray w Q (by simp[N];omega) (fun x g=>F9 (L x g));simp only[A1r,A1m,N,A09]at E;have C:∀ x∈(cs.take off++e.cells.toList++cs.drop (off+sz)).toArray.toList,Az x=true:=by
   intro x g;simp only[A09,Ay5]at g;rcases g with (g|g)|g
   ·exact W x (A0o g)
   ·exact L x g
   exact W x (A1v g)
  obtain⟨g1,g2⟩:=H.setM V C;unfold Eb;have O:(execOp j ⟨J,.store T X Y,I,pos,after,n⟩).run P w=.ok .skip (w.setRow b (cs.take off++e.cells.toList++cs.drop (off+sz)).toArray):=by
   simp only[execOp,e2,e3];simp only[Azm]at E⊢;simp[Instr.storeAt,Instr.sureAddr,storeVar,Bj ht,N,E]
  rw[O];exact⟨u,_,g1,g2,rfl,rfl,rfl⟩
 obtain⟨rfl,rfl,rfl⟩:=hk;exact k
end rules
end
section
variable {a:Act}{c:Cx}{s:S}{w:World}{ρ:Nat->Nat}
variable [Cc]
section rules
variable {P:Program} [A5 P] {fn:Func} {Post:By} {st:List KI×S} {u m:PH}
section based
variable [Cm]
def Rel.less {c:Cx}{s:S}{ρ:Nat->Nat}{a:Act}{w:World}(h:Rel c s u m ρ a w){n:PH}(E:PH.le n m):Rel c s u n ρ a w:=by
 have C:∀ g,m g=none->n g=none:=fun g j=>by
  cases e:n g with
  |none=>rfl
  |some o=>rw[E g o e]at j;cases j
 refine⟨h.sz,h.tm,h.df.of fun r e _ L t=>⟨e,L,C _ t⟩,fun k b K=>?_,h.inj,h.lv,h.gd.less E,⟨h.gr.sz,h.gr.old,h.gr.us,fun g j t=>C g (h.gr.ms g j t),h.gr.io,h.gr.dr⟩⟩;obtain⟨F,H,I,J⟩:=h.box k b K;exact⟨F,H,I,C _ J⟩
def G.drop (j:PH)(h:Fv (ctl P 100 st).1=true)(n:PH.le j m)(k:G P fn Post (ctl P 100 st) u j):G P fn Post st u m:=by
 refine⟨Li 100 st ?_⟩;have g:=k.out;rw[Sym.ofNo h]at g⊢;intro c ρ a w e t;exact g c ρ a w e (t.less n)
def Anz (P:Program)(s:S)(m:PH)(r:ResultVar)(v:Value):Prop :=
 Vx P s r=some v\/∃ a t g off kd,r=.cell a t/\s.tm a=.v (.pointer (some ⟨g,off,none⟩))/\Ws P t=some kd/\W4 kd v=true/\ElP m g off v
def S6 (P:Program)(s:S)(m:PH):List ResultVar->List Value->Prop
 |[],[]=>True
 |r::rs,v::vs=>Anz P s m r v/\S6 P s m rs vs
 |_,_=>False
def Agt (e:Rel c s u m ρ a w){r:ResultVar}{x:Value}(h:Anz P s m r x):(Mg a.tmps r).run P w=.ok x w:=by
 rcases h with h|⟨p,t,g,off,F,rfl,j,n,C,E⟩
 ·exact Xa e h
 have:=e.tm p (by rw[j];simp);rw[j]at this;simp[Mg,this,SV.den,asAddr,Jg n C E e.gd.pm]
def Px (g:Rel c s u m ρ a w){l:List Value}(h:S6 P s m fn.results.toList l):(results fn a.tmps).run P w=.ok (Ok l) w:=by
 have key:∀ (rs:List ResultVar) (l:List Value),S6 P s m rs l->(rs.mapM (Mg a.tmps)).run P w=.ok l w:=by
  intro rs;induction rs with
  |nil=>intro l h;cases l with|nil=>simp|cons=>exact h.elim
  |cons r rs ih =>
   intro l h;cases l with
   |nil=>exact h.elim
   |cons x xs =>
    rw[A78];simp only[Sem.run_bind,Agt g h.1,Result.andThen_ok,ih xs h.2,Sem.run_pure]
 have e:results fn a.tmps=(do let vs <-fn.results.mapM (Mg a.tmps);pure (if h:vs.size=1 then vs[0] else .tuple vs)):=by
  unfold results;rfl
 rw[e,<-A35 (xs:=fn.results),A7h];simp only[Sem.run_bind,Sem.run_map,key _ l h,Result.andThen_ok,Sem.run_pure]
 congr 1
 match l with
 |[]=>rfl
 |[x]=>rfl
 |x::y::l=>rfl
def Akf (st:List KI×S):Bool:=match st.1 with
 |.code .ret::_=>true
 |[]=>true
 |_=>false
end based
def G.retM (l:List Value)(C:PH)(h:Akf (adv P st)=true)(t:S6 P (adv P st).2 m fn.results.toList l)(j:PH.le C m)(hp:Post.post (Ok l) u C):G P fn Post st u m:=by
 refine G.stp ?_;generalize adv P st=st' at h t;obtain⟨E,s⟩:=st';unfold Akf at h;simp only at h;split at h
 ·refine⟨?_⟩;intro c ρ a w n e;exact wp_ret (Jp (e.ends fun w' g=>⟨Px (a:=⟨a.tmps,[]⟩) g t,_,_,_,rfl,(g.less j).gd,(g.less j).gr,hp⟩).1 _)
 ·refine⟨?_⟩;intro c ρ a w n e;exact (e.ends fun w' g=>⟨Px (a:=⟨a.tmps,[]⟩) g t,_,_,_,rfl,(g.less j).gd,(g.less j).gr,hp⟩).2
 cases h
def PH.mt_le (m:PH):PH.le PH.mt m:=fun _ _ h=>by cases h
end rules
end
section
variable {A:List (List Rat)}
def C9 (A:List (List Rat)):(K6 A).length=A.length:=by simp[K6]
def Uo {j:Nat}{r:List Rat}(h:A[j]?=some r):(K6 A)[j]?=some (r.map Ae):=by simp[K6,h]
def R1 {r:List (List UInt8)}(h:r∈K6 A):∃ q∈A,r=q.map Ae:=by
 simp only[K6,Ayx]at h;obtain⟨q,e,rfl⟩:=h;exact⟨q,e,rfl⟩
def Up (m:PH)(g:Nat)(z:Int)(t:TypeId):ElP (m.upd g (.cells [Value.int .i64 z].toArray t (0,0))) g 0 (.int .i64 z):=fun i y e=>by
 match i,e with
 |0,e=>simp[Value.cells]at e;subst e;exact⟨_,_,_,Ab _ _ _,rfl⟩
def Au2 {u:PH}{v:Value}{k:Nat}(h:J9 u v (K6 A))(Z:A.length<=12)(L:k<=12)(C:∀ r∈A,r.length=k)(h0:A.length=0->k=0)(hT:∀ r∈A,∀ q∈r,Tx q) :
 Fn0 prog 195 [v] u fun W _=>W=.tuple #[.int .i64 A.length,.int .i64 k,.int .i64 0]:=by
 obtain⟨a,c,rfl⟩:=h.opn;rw[C9]at h⊢;refine Fn0.o func195<|G.gF A.length 12<|G.c call237 (Ky (fid:=238) (cap:=[]) h (by rw[C9];omega) call238 (fun r e F x _ j=>?_)) ?_
 ·obtain⟨q,m,rfl⟩:=R1 e;exact Ark j (by rw[Ayt,C q m];omega)
 rintro v1 u1 E rfl;have n:∀ r∈K6 A,r.length=k:=fun r e=>by
  obtain⟨q,m,rfl⟩:=R1 e;rw[Ayt,C q m]
 by_cases t:0<A.length
 ·refine G.gT A.length 0 ?_;have H:A[0]?=some A[0]:=Ayr t;obtain⟨J,N,O,P,rfl,K,es⟩:=(h.mono E).row (Uo H);rw[Ayt,C _ (Ay8 t)]at K;refine G.a J N A.length c 0 1 oV<|G.lU none J (N+0*1) (.slice O k P) K<|G.pub 1 3 [.int .i64 k] kV kV ?_;intro g R Q;refine G.callM _ _ kV kV call237 (Bw _).symm (Jv _) (Ph (fid:=239) (cap:=[.pointer (some ⟨g,0,none⟩)]) (h.mono E) (by rw[C9];omega) call239 (fun r e F x _ j=>Ai7 j (n r e) L (Ab _ _ _))) ?_;rintro X U I l2 ⟨rfl,rfl⟩;rw[Bw];refine G.c call237 (Ky (fid:=240) (cap:=[]) (h.mono (E.trans l2)) (by rw[C9];omega) call240 (fun r e F x _ j=>?_)) ?_
  ·obtain⟨q,m,rfl⟩:=R1 e;exact Ai3 j (hT q m) (by rw[C q m];omega)
  rintro Y V T rfl;exact G.lM none g 0 (.int .i64 k) (Up _ _ _ _)<|G.storeM 1 g 0 3 [.int .i64 k] (.int .i64 k) kV (Ab _ _ _) (fun x j=>by simp at j;subst j;rfl) mV rfl rfl<|G.retM [.int .i64 A.length,.int .i64 k,.int .i64 0] PH.mt kV ⟨.inl kV,.inr ⟨3,3,g,0,none,rfl,kV,kV,rfl,Up _ _ _ _⟩,.inl kV,trivial⟩ (PH.mt_le _) ⟨rfl,rfl⟩
 refine G.gF A.length 0 ?_;obtain rfl:k=0:=h0 oV;refine G.pub 1 3 [.int .i64 (0:Nat)] kV kV ?_;intro g R Q;refine G.callM _ _ kV kV call237 (Bw _).symm (Jv _) (Ph (fid:=239) (cap:=[.pointer (some ⟨g,0,none⟩)]) (h.mono E) (by rw[C9];omega) call239 (fun r e F x _ j=>Ai7 j (n r e) L (Ab _ _ _))) ?_;rintro X U I l2 ⟨rfl,rfl⟩;rw[Bw];refine G.c call237 (Ky (fid:=240) (cap:=[]) (h.mono (E.trans l2)) (by rw[C9];omega) call240 (fun r e F x _ j=>?_)) ?_
 ·obtain⟨q,m,rfl⟩:=R1 e;exact Ai3 j (hT q m) (by rw[C q m];omega)
 rintro Y V T rfl;exact G.lM none g 0 (.int .i64 (0:Nat)) (Up _ _ _ _)<|G.storeM 1 g 0 3 [.int .i64 (0:Nat)] (.int .i64 (0:Nat)) kV (Ab _ _ _) (fun x j=>by simp at j;subst j;rfl) mV rfl rfl<|G.retM [.int .i64 A.length,.int .i64 (0:Nat),.int .i64 0] PH.mt kV ⟨.inl kV,.inr ⟨3,3,g,0,none,rfl,kV,kV,rfl,Up _ _ _ _⟩,.inl kV,trivial⟩ (PH.mt_le _) ⟨rfl,rfl⟩
end
section
variable {A:List (List Rat)}{i j:Nat}{u:PH}
def J9.cell {a:Option Addr}{n c i j:Nat}(h:J9 u (.slice a n c) (K6 A))(hi:i<A.length)(hj:j<A[i].length) :
 ∃ b off b' off' c',a=some ⟨b,off,none⟩/\ElP u b (off+i*1) (.slice (some ⟨b',off',none⟩) A[i].length c')/\ElP u b' (off'+j*1) (.string (mkS (Ae A[i][j]))):=by
 obtain⟨b,off,a',c',rfl,e1,e2⟩:=h.row (Uo (Ayr hi));rw[Ayt]at e1 e2;obtain⟨b',off',rfl,e3⟩:=Ac.at' e2 (j:=j) (e:=.string (mkS (Ae A[i][j]))) (by simp[D6,Ayr hj]);exact⟨b,off,b',off',c',rfl,e1,e3⟩
structure Sq (A:List (List Rat)):Prop where
 le:A.length<=12
 row:∀ r∈A,r.length=A.length
 tx:∀ r∈A,∀ q∈r,Tx q
def Sq.len (h:Sq A)(hi:i<A.length):A[i].length=A.length:=h.row _ (Ay8 hi)
def Sq.tx' (h:Sq A)(hi:i<A.length)(e:j<A[i].length):Tx A[i][j]:=h.tx _ (Ay8 hi) _ (Ay8 e)
def Bde (A:List (List Rat)):Prop:=∀ (i k:Nat) (hi:i<A.length) (hk:k<A.length) (h1:k<A[i].length) (h2:i<A[k].length),A[i][k]=A[k][i]
def Ash {v:Value}(h:J9 u v (K6 A))(e:Sq A):Fn0 prog 195 [v] u fun g _=>g=.tuple #[.int .i64 A.length,.int .i64 A.length,.int .i64 0] :=
 Au2 h e.le e.le e.row (fun h=>h) e.tx
end
section
variable {c j n sz:Nat}{e v:Value}{es:List Value}
section lists
variable {α:Type} {R:PH->Value->α->Prop} {u u':PH}
def AtP (R:PH->Value->α->Prop)(u:PH)(es:List Value)(xs:List α):Prop:=es.length=xs.length/\∀ (j:Nat) (x:α),xs[j]?=some x->∃ e,es[j]?=some e/\R u e x
def AtP.nil:AtP R u [] []:=⟨rfl,fun j x h=>by simp at h⟩
def AtP.mono {xs:List α}(hR:∀ e x,R u e x->R u' e x)(h:AtP R u es xs):AtP R u' es xs :=
 ⟨h.1,fun j x hj=>by obtain⟨e,h1,h2⟩:=h.2 j x hj;exact⟨e,h1,hR e x h2⟩⟩
def AtP.snoc {xs:List α}{x:α}(h:AtP R u es xs)(F:R u e x):AtP R u (es++[e]) (xs++[x]):=by
 refine⟨by simp[h.1],fun j r g=>?_⟩;by_cases m:j<xs.length
 ·rw[Azi m]at g;obtain⟨t,C,E⟩:=h.2 j r g;exact⟨t,by rw[Azi (by rw[h.1];exact m)];exact C,E⟩
 rw[Azy oV]at g;have:j-xs.length=0:=by
  rcases Azx (j-xs.length) with h0|h0
  ·exact h0
  rw[Azo gV]at g;cases g
 rw[this]at g;simp at g;subst g;refine⟨e,?_,F⟩;rw[Azy (by rw[h.1];omega),h.1,this];rfl
def AtP.set {xs:List α}{x:α}(h:AtP R u es xs)(k:Nat)(m:R u e x):AtP R u (es.set k e) (xs.set k x):=by
 refine⟨by simp[h.1],fun j r g=>?_⟩;rw[A1g]at g⊢;split at g
 ·rename_i e';subst e';split at g
  ·rename_i hlt;simp only[Ayz]at g;subst g;exact⟨e,by rw[if_pos rfl,if_pos (by rw[h.1];exact hlt)],m⟩
  cases g
 rename_i e';rw[if_neg e'];exact h.2 j r g
def LP (R:PH->Value->α->Prop)(sz:Nat)(u:PH)(v:Value)(xs:List α):Prop:=∃ es,Ac u v sz es/\AtP R u es xs
def LP.mono {sz:Nat}{v:Value}{xs:List α}(hR:∀ e x,R u e x->R u' e x)(h:LP R sz u v xs)(hl:PH.le u u'):LP R sz u' v xs:=by
 obtain⟨es,h1,h2⟩:=h;exact⟨es,h1.mono hl,h2.mono hR⟩
def LP.opn {sz:Nat}{v:Value}{xs:List α}(h:LP R sz u v xs):∃ a c,v=.slice a xs.length c:=by
 obtain⟨es,g,m⟩:=h;obtain⟨a,c,rfl⟩:=g.opn;exact⟨a,c,by rw[m.1]⟩
def LP.at {a:Option Addr}{xs:List α}(h:LP R sz u (.slice a n c) xs){x:α}(F:xs[j]?=some x):∃ b off e,a=some ⟨b,off,none⟩/\ElP u b (off+j*sz) e/\R u e x:=by
 obtain⟨es,C,E⟩:=h;obtain⟨e,g,m⟩:=E.2 j x F;obtain⟨b,off,rfl,t⟩:=C.at' g;exact⟨b,off,e,rfl,t,m⟩
end lists
def Wf (u:PH)(v:Value)(zs:List Int):Prop:=LP Bq 2 u v zs
def L0 (u:PH)(v:Value)(zs:List (List Int)):Prop:=LP Wf 1 u v zs
def Aef (u:PH)(v:Value)(qs:List (List Rat)):Prop:=LP It 1 u v qs
def Wf.mono {u u':PH}{v:Value}{zs:List Int}(h:Wf u v zs)(hl:PH.le u u'):Wf u' v zs:=LP.mono (fun _ _ h=>h.mono hl) h hl
def L0.mono {u u':PH}{v:Value}{zs:List (List Int)}(h:L0 u v zs)(hl:PH.le u u'):L0 u' v zs:=LP.mono (fun _ _ h=>h.mono hl) h hl
def Aef.mono {u u':PH}{v:Value}{zs:List (List Rat)}(h:Aef u v zs)(hl:PH.le u u'):Aef u' v zs:=LP.mono (fun _ _ h=>h.mono hl) h hl
def It.lp {u:PH}{g:List Rat}(h:It u v g):LP Ax 4 u v g:=h
def Bq.ok {u:PH}{q:Int}(h:Bq u e q):Ba 2 [e]:=by
 obtain⟨b,a,n,c,rfl⟩:=h.opn;intro x g;simp at g;subst g;exact⟨rfl,fun y m=>by simp[Value.cells]at m;rcases m with rfl|rfl<;>rfl⟩
def D4 (a:Option Addr)(n c:Nat):Ba 1 [.slice a n c]:=Aa0 (by intro e g;simp at g;exact⟨_,_,_,g⟩)
def Af.some' {m0 m:PH}{t:TypeId}{a:Addr}(C:Af m0 m (.slice (some a) n c) t sz es):∃ g,a=⟨g,0,none⟩/\m0 g=none:=by
 rcases C.2 with ⟨h,_,_⟩|⟨g,cap,rest,h0,_,h,_⟩
 ·simp at h
 simp only[Value.slice.injEq,Ayz]at h;exact⟨g,h.1,h0⟩
def Aez {α:Type}{l:List α}{e z:α}(g:l.length=j)(h:j<n):(l++List.replicate (n-j) z).set j e=l++[e]++List.replicate (n-(j+1)) z:=by
 subst g;rw[show n-l.length=(n-(l.length+1))+1 by omega,A61];rw[A2j _ _ (Ay2 _)];simp
def Am2 (d e:Nat):((d:Int)/((Nat.gcd (d:Int).natAbs (e:Int).natAbs:Nat):Int)*(e:Int))=((Nat.lcm d e:Nat):Int):=by
 rw[Az6,Az6,Nat.lcm,<-Nat.div_mul_right_comm (Nat.gcd_dvd_left d e)]
 push_cast
 rfl
def Avt (u:PH)(v:Value)(D:Nat)(cs:List (List Int)):Prop:=∃ b a n c a' n' c',v=.agg #[.bool b,.slice a n c,.slice a' n' c']/\Bq u (.agg #[.bool b,.slice a n c]) (D:Int)/\L0 u (.slice a' n' c') cs
def Bn (D:Nat)(r:List Rat):List Int:=r.map fun q=>q.num*((D/q.den:Nat):Int)
structure DI where
 b:Bool
 a:Option Addr
 n:Nat
 c:Nat
 D:Nat
def Ax5 (d:DI):Value:=.agg #[.bool d.b,.slice d.a d.n d.c]
def Xw (u:PH)(d:DI)(L:Nat):Prop:=Bq u (Ax5 d) (d.D:Int)/\0<d.D/\d.D ∣ L
def Xw.mono {u u':PH}{d:DI}{L:Nat}(h:Xw u d L)(hl:PH.le u u'):Xw u' d L:=⟨h.1.mono hl,h.2⟩
def Ai4 {u:PH}{A:List (List Rat)}{L:Nat}(h:J9 u v (K6 A))(hT:∀ r∈A,∀ q∈r,Tx q)(hl:A.length<=1000000)(ad:∀ r∈A,r.length<=1000000)(hL:∀ r∈A,∀ q∈r,q.den ∣ L)(bb:0<L)(be:nl L<=1000000000) :
 Fn0 prog 139 [v] u fun v' u'=>∃ D,0<D/\D ∣ L/\(∀ r∈A,∀ q∈r,q.den ∣ D)/\Avt u' v' D (A.map (Bn D)):=by
 obtain⟨a,c,rfl⟩:=h.opn;rw[C9]at h⊢;have aa:∀ D:Nat,D ∣ L->nl (D:Int).natAbs<=1000000000:=fun D P=>Ayv (Cs (A3f bb P)) be;refine Fn0.o func139<|G.c call175 (N1 (z:=1) oV oV) ?_;intro v1 u1 l1 k1;obtain⟨b1,a1,n1,c1,rfl⟩:=k1.opn;refine G.l (ι:=Nat×List Value×(Option Addr×Nat×Nat)×DI)
  (fun i=>[(2,.p 0 0),(3,.p 1002 0),(4,sV i.2.2.1.1 i.2.2.1.2.1 i.2.2.1.2.2),(19,sV a A.length c),(20,iV A.length),(21,iV i.1)])
  (fun i=>[(0,⟨209,[bV false,sV none 0 0,sV none 0 0]⟩),(1002,⟨209,[bV i.2.2.2.b,sV i.2.2.2.a i.2.2.2.n i.2.2.2.c,sV none 0 0]⟩)])
  (fun i u' m'=>i.1<=A.length/\AtP It u' i.2.1 (A.take i.1)/\Af PH.mt m' (.slice i.2.2.1.1 i.2.2.1.2.1 i.2.2.1.2.2) 108 1 i.2.1/\Xw u' i.2.2.2 L/\∀ r∈A.take i.1,∀ q∈r,q.den ∣ i.2.2.2.D)
  (fun i=>A.length-i.1) (0,[],(none,0,0),⟨b1,a1,n1,c1,1⟩)
  ⟨Azh _,AtP.nil,Af.nil _ _ _,⟨k1,Nat.one_pos,Bax _⟩,fun r H=>by simp at H⟩ ?_
 rintro J ⟨k,J6,⟨a2,n2,c2⟩,⟨db,da,dn,dc,D⟩⟩ hJ u2 m2 l2 ⟨hk,hF,hA,P,U⟩;simp only at hk hF hA P U hJ;have bg:=hF.1;rw[Ay1]at bg;by_cases N:k<A.length
 ·refine G.lT k A.length ?_;have C:A[k]?=some A[k]:=Ayr N;have m:=Ay8 N;obtain⟨ba,oa,a3,c3,rfl,e3,s3⟩:=(h.mono (l1.trans l2)).row (Uo C);rw[Ayt]at e3 s3;refine G.a ba oa A.length c k 1 oV<|G.lU none ba (oa+k*1) _ e3<|G.c call106 (Sw s3 (hT _ m) (ad _ m)) ?_;intro v4 u4 l4 k4;obtain⟨a4,c4,rfl⟩:=k4.lp.opn;refine G.l (ι:=Nat×DI)
   (fun i=>[(2,.p 0 0),(3,.p 1002 0),(4,sV a2 n2 c2),(19,sV (some ⟨ba,oa,none⟩) A.length c),(20,iV A.length),(21,iV k),(7,sV a4 A[k].length c4),(27,sV a4 A[k].length c4),(28,iV (A[k].length)),(29,iV i.1)])
   (fun i=>[(0,⟨209,[bV false,sV none 0 0,sV none 0 0]⟩),(1002,⟨209,[bV i.2.b,sV i.2.a i.2.n i.2.c,sV none 0 0]⟩)])
   (fun i u' m'=>i.1<=A[k].length/\m'=m2/\Xw u' i.2 L/\(∀ r∈A.take k,∀ q∈r,q.den ∣ i.2.D)/\∀ q∈A[k].take i.1,q.den ∣ i.2.D)
   (fun i=>A[k].length-i.1) (0,⟨db,da,dn,dc,D⟩)
   ⟨Azh _,rfl,P.mono l4,U,fun q F=>by simp at F⟩ ?_
  rintro J2 ⟨j,⟨eb,ea,en,ec,E⟩⟩ I u5 m5 Q ⟨hj,rfl,hE,ac,W⟩;simp only at hj hE ac W I;by_cases g:j<A[k].length
  ·refine G.lT j (A[k].length:Int) ?_;have O:A[k][j]?=some A[k][j]:=Ayr g;have V:=Ay8 g;have X:=hT _ m _ V;obtain⟨b6,o6,e6,rfl,h6,f6⟩:=(k4.mono Q).lp.at O;obtain⟨x1,x2,x3,x4,x5,x6,x7,x8,rfl⟩:=f6.opn;refine G.a b6 o6 A[k].length c4 j 4 g<|G.lU (some 4) b6 (o6+j*4) _ h6<|G.c call199 (Rp f6) ?_;intro v7 u7 l7 k7;obtain⟨b7,a7,n7,c7,rfl⟩:=k7.opn;refine G.c call198 (Ajj ((hE.mono l7).1) k7 (Ayv (aa _ hE.2.2) oV) (Ayv (Bi X.den) oV) (by have:=hE.2.1;dsimp only at this⊢;omega)) ?_;intro v8 u8 l8 k8;rw[Am2]at k8;obtain⟨b8,a8,n8,c8,rfl⟩:=k8.opn;refine G.add (j:Int) 1 ((j+1:Nat):Int) kV oV oV (by have:=ad _ m;omega)<|G.b (I (j+1,⟨b8,a8,n8,c8,Nat.lcm E A[k][j].den⟩) _ _ _ cV ((Q.trans l7).trans l8) ⟨dV,rfl,⟨k8,?_,?_⟩,?_,?_⟩ dV)
   ·have:=hE.2.1;simp only at this⊢;exact Nat.lcm_pos this (A[k][j]).den_pos
   ·exact Baz hE.2.2 (hL _ m _ V)
   ·exact fun r H q F=>A7g (ac r H q F) (A6e _ _)
   intro q F;dsimp only at F⊢;rw[Aze,O]at F;rcases Ay5.1 F with F|F
   ·exact A7g (W q F) (A6e _ _)
   simp at F;subst F;exact Nat.dvd_lcm_right _ _
  have:j=A[k].length:=oV;subst this;rw[Azj]at W;refine G.lF (A[k].length:Int) (A[k].length:Int)<|G.B 108 1 24 (.slice none 0 0) [.slice a4 A[k].length c4] (D4 _ _ _) ?_;intro g6 u6 l6 e6;refine G.append 108 1 24 (.slice none 0 0) PH.mt J6 [.slice a4 A[k].length c4] (.slice a2 n2 c2) g6 0 1 1 kV rfl rfl oV hA e6 (D4 _ _ _) rfl oV oV oV ?_;intro v7 m7 am;obtain⟨a7,c7,rfl⟩:=am.shape;refine G.i k<|G.b (hJ (k+1,J6++[Value.slice a4 A[k].length c4],(a7,(J6++[Value.slice a4 A[k].length c4]).length,c7),⟨eb,ea,en,ec,E⟩) _ _ _ cV (((l2.trans l4).trans Q).trans l6) ⟨dV,?_,am,hE.mono l6,?_⟩ dV)
  ·dsimp only;rw[Aze,C];exact (hF.mono (fun _ _ h=>h.mono ((l4.trans Q).trans l6))).snoc (k4.mono (Q.trans l6))
  intro r H;dsimp only at H⊢;rw[Aze,C]at H;rcases Ay5.1 H with H|H
  ·exact ac r H
  simp at H;subst H;exact W
 have:k=A.length:=oV;subst this;rw[Azj]at hF U;refine G.lF A.length A.length<|G.give PH.mt J6 _ kV hA (fun _=>.inl rfl) ?_;intro u3 l3 ab;have bj:J6.length=A.length:=by rw[hF.1]
 obtain⟨_,_,e0⟩:=ab.opn;simp only[Value.slice.injEq]at e0;obtain⟨rfl,rfl,rfl⟩:=e0;rw[bj]at ab⊢;have b9:Aef u3 (.slice a2 A.length c2) A:=⟨J6,ab,hF.mono (fun _ _ h=>h.mono l3)⟩;refine G.l (ι:=Nat×List Value×(Option Addr×Nat×Nat))
  (fun i=>[(2,.p 0 0),(3,.p 1002 0),(45,sV a2 A.length c2),(46,iV A.length),(47,iV i.1)])
  (fun i=>[(0,⟨209,[bV false,sV none 0 0,sV none 0 0]⟩),(1002,⟨209,[bV db,sV da dn dc,sV i.2.2.1 i.2.2.2.1 i.2.2.2.2]⟩)])
  (fun i u' m'=>i.1<=A.length/\AtP Wf u' i.2.1 ((A.take i.1).map (Bn D))/\Af PH.mt m' (.slice i.2.2.1 i.2.2.2.1 i.2.2.2.2) 211 1 i.2.1)
  (fun i=>A.length-i.1) (0,[],(none,0,0))
  ⟨Azh _,AtP.nil,Af.nil _ _ _⟩ ?_
 rintro J2 ⟨k,cv,⟨a5,n5,c5⟩⟩ I u5 m5 Q ⟨bi,hN,a9⟩;simp only at bi hN a9 I;have aq:=hN.1;rw[Ayt,Ay1]at aq;by_cases N:k<A.length
 ·refine G.lT k A.length ?_;have C:A[k]?=some A[k]:=Ayr N;have m:=Ay8 N;have cc:=ad _ m;obtain⟨b6,o6,e6,rfl,h6,f6⟩:=LP.at (b9.mono Q) C;obtain⟨a7,c7,rfl⟩:=f6.lp.opn;refine G.a b6 o6 A.length c2 k 1 oV<|G.lU none b6 (o6+k*1) _ h6<|G.make 116 2 32 (.agg #[.bool false,.slice none 0 0]) A[k].length kV rfl rfl oV oV oV ?_;rintro v8 m8 an ⟨a8,rfl⟩;obtain⟨Y,rfl,ca⟩:=an.some';refine G.l (ι:=Nat×List Value)
   (fun i=>[(2,.p 0 0),(3,.p 1002 0),(45,sV (some ⟨b6,o6,none⟩) A.length c2),(46,iV A.length),(47,iV k),(12,sV (some ⟨Y,0,none⟩) A[k].length A[k].length),(54,sV a7 A[k].length c7),(55,iV (A[k].length)),(56,iV i.1)])
   (fun i=>[(0,⟨209,[bV false,sV none 0 0,sV none 0 0]⟩),(1002,⟨209,[bV db,sV da dn dc,sV a5 n5 c5]⟩)])
   (fun i u' m'=>i.1<=A[k].length/\AtP Bq u' i.2 (Bn D (A[k].take i.1))/\Af m5 m' (.slice (some ⟨Y,0,none⟩) A[k].length A[k].length) 116 2 (i.2++List.replicate (A[k].length-i.1) (.agg #[.bool false,.slice none 0 0])))
   (fun i=>A[k].length-i.1) (0,[])
   ⟨Azh _,AtP.nil,by simpa using an⟩ ?_
  rintro J3 ⟨j,done⟩ ao u9 m9 l9 ⟨bh,K,T⟩;simp only at bh K T ao;have ar:=K.1;rw[Bn,Ayt,Ay1]at ar;by_cases g:j<A[k].length
  ·refine G.lT j (A[k].length:Int) ?_;have O:A[k][j]?=some A[k][j]:=Ayr g;have V:=Ay8 g;have X:=hT _ m _ V;have cb:=(A[k][j]).den_pos;obtain⟨aj,az,c9,rfl,b5,a6⟩:=(f6.mono l9).lp.at O;obtain⟨x1,x2,x3,x4,x5,x6,x7,x8,rfl⟩:=a6.opn;refine G.a aj az A[k].length c7 j 4 g<|G.lU (some 4) aj (az+j*4) _ b5<|G.c call199 (Rp a6) ?_;intro co bl t au;obtain⟨br,bn,cg,bx,rfl⟩:=au.opn;refine G.c call183 (Ox ((P.mono (((l3.trans Q).trans l9).trans t)).1) au (Ayv (aa _ P.2.2) oV) (Ayv (Bi X.den) oV) oV) ?_;rintro bm cl ag ⟨cp,cq,rfl,ae,bk⟩;obtain⟨bt,bo,ch,bz,rfl⟩:=ae.opn;obtain⟨bu,bp,ci,c0,rfl⟩:=bk.opn;refine G.c call200 (Ae4 (a6.mono (t.trans ag))) ?_;intro cr cm ah av;obtain⟨bw,bq,cj,c6,rfl⟩:=av.opn;have bf:((D:Int)/(A[k][j].den:Int))=((D/A[k][j].den:Nat):Int):=by push_cast;rfl
   rw[bf]at ae;refine G.c call117 (Fq av (ae.mono ah) (Ayv (Bi X.1) oV) (by rw[Az6];exact Ayv (R8 _ _) (Ayv (aa _ P.2.2) oV))) ?_;intro cs cn ax aw;obtain⟨ak,ai,ay,al,rfl⟩:=aw.opn;refine G.a Y 0 A[k].length A[k].length j 2 g<|G.storeA 2 m5 _ Y A[k].length A[k].length j (.agg #[.bool ak,.slice ai ay al]) kV T gV rfl rfl ?_;intro ce a0;rw[Aez oV g]at a0;refine G.i j<|G.b (ao (j+1,done++[.agg #[.bool ak,.slice ai ay al]]) _ _ _ cV ((((l9.trans t).trans ag).trans ah).trans ax) ⟨dV,?_,a0⟩ dV);dsimp only;rw[Aze,O,Bn,Aza];exact (K.mono (fun _ _ h=>h.mono (((t.trans ag).trans ah).trans ax))).snoc aw
  have:j=A[k].length:=oV;subst this;rw[Azj]at K;rw[A20,A3t,Azl]at T;refine G.lF (A[k].length:Int) (A[k].length:Int)<|G.give m5 done _ kV T (fun _=>.inl rfl) ?_;intro ck af ap;refine G.B 211 1 24 (.slice none 0 0) [.slice (some ⟨Y,0,none⟩) A[k].length A[k].length] (D4 _ _ _) ?_;intro b4 bl t b3;refine G.append 211 1 24 (.slice none 0 0) PH.mt cv [.slice (some ⟨Y,0,none⟩) A[k].length A[k].length] (.slice a5 n5 c5) b4 0 1 1 kV rfl rfl oV a9 b3 (D4 _ _ _) rfl oV oV oV ?_;intro bm cd Z;obtain⟨b0,b2,rfl⟩:=Z.shape;refine G.i k<|G.b (I (k+1,cv++[.slice (some ⟨Y,0,none⟩) A[k].length A[k].length],(b0,(cv++[Value.slice (some ⟨Y,0,none⟩) A[k].length A[k].length]).length,b2)) _ _ _ cV (((Q.trans l9).trans af).trans t) ⟨dV,?_,Z⟩ dV);dsimp only;rw[Aze,C,Aza];exact (hN.mono (fun _ _ h=>h.mono ((l9.trans af).trans t))).snoc (x:=Bn D A[k]) ⟨done,ap.mono t,K.mono (fun _ _ h=>h.mono (af.trans t))⟩
 have:k=A.length:=oV;subst this;rw[Azj]at hN;refine G.lF A.length A.length<|G.give PH.mt cv _ kV a9 (fun _=>.inl rfl) ?_;intro u6 l6 bd;exact G.r (.agg #[.bool db,.slice da dn dc,.slice a5 n5 c5]) ⟨rfl,D,P.2.1,P.2.2,U,db,da,dn,dc,a5,n5,c5,rfl,(P.mono ((l3.trans Q).trans l6)).1,cv,bd,hN.mono (fun _ _ h=>h.mono l6)⟩
end
def L0.opn {u:PH}{v:Value}{cs:List (List Int)}(h:L0 u v cs):∃ a c,v=.slice a cs.length c:=LP.opn h
def Wf.opn {u:PH}{v:Value}{cs:List Int}(h:Wf u v cs):∃ a c,v=.slice a cs.length c:=LP.opn h
theorem Ato {u:PH}{v:Value}{D K:Nat}{cs:List (List Int)}(ht:Js u)(h:Avt u v D cs)(hK:K<=400)(hD:Lib.nDigits D<=K)(hc:∀ r∈cs,∀ z∈r,Lib.nDigits z.natAbs<=K)(hl:cs.length<=1000000)(hl2:∀ r∈cs,r.length<=1000000) :
 Fn0 prog 197 [v] u fun v' _=>∃ n:Nat,v'=.int .i64 (n:Int)/\n<=K:=by
 obtain⟨b,a,n,c,a',n',c',rfl,h1,h2⟩:=h;obtain⟨a'',c'',e⟩:=h2.opn;simp only[Value.slice.injEq]at e;obtain⟨rfl,rfl,rfl⟩:=e;refine Fn0.o func197 ?_;refine G.c call120 (Md ht h1 (by rw[Az6];exact Ayv (Bi oV) oV)) ?_;rintro v1 u1 l1 rfl;rw[Az6];refine G.l (ι:=Nat×Nat) (fun i=>[(1,.p 0 0),(3,iV i.2),(12,sV a' cs.length c'),(13,iV cs.length),(14,iV i.1)])
  (fun i=>[(0,⟨209,[bV b,sV a n c,sV a' cs.length c']⟩)])
  (fun i u' m'=>i.1<=cs.length/\i.2<=K/\m'=PH.mt) (fun i=>cs.length-i.1) (0,Lib.nDigits D) ⟨Azh _,hD,rfl⟩ ?_
 rintro J ⟨i,k⟩ hJ u2 m2 l2 ⟨hi,hk,rfl⟩;simp only at hi hk hJ;by_cases hlt:i<cs.length
 ·refine G.lT (i:Int) (cs.length:Int) ?_;have hti:cs[i]?=some cs[i]:=Ayr hlt;have hmem:=Ay8 hlt;obtain⟨b3,o3,e3,rfl,h3,f3⟩:=LP.at (h2.mono (l1.trans l2)) hti;obtain⟨a4,c4,rfl⟩:=f3.opn;refine G.a b3 o3 cs.length c' i 1 hlt ?_;refine G.lU none b3 (o3+i*1) _ h3 ?_;refine G.l (ι:=Nat×Nat) (fun j=>[(1,.p 0 0),(3,iV j.2),(12,sV (some ⟨b3,o3,none⟩) cs.length c'),(13,iV cs.length),(14,iV i),(18,sV a4 cs[i].length c4),(19,iV (cs[i].length)),(20,iV j.1)])
   (fun j=>[(0,⟨209,[bV b,sV a n c,sV (some ⟨b3,o3,none⟩) cs.length c']⟩)])
   (fun j u' m'=>j.1<=cs[i].length/\j.2<=K/\m'=PH.mt) (fun j=>cs[i].length-j.1) (0,k) ⟨Azh _,hk,rfl⟩ ?_
  rintro J2 ⟨j,k2⟩ hJ2 u5 m5 l5 ⟨hj,hk2,rfl⟩;simp only at hj hk2 hJ2;have hrl:=hl2 _ hmem;by_cases hlt2:j<cs[i].length
  ·refine G.lT (j:Int) (cs[i].length:Int) ?_;have htj:cs[i][j]?=some cs[i][j]:=Ayr hlt2;have hzm:=hc _ hmem _ (Ay8 hlt2);obtain⟨b6,o6,e6,rfl,h6,f6⟩:=LP.at (f3.mono l5) htj;obtain⟨b7,a7,n7,c7,rfl⟩:=f6.opn;refine G.a b6 o6 cs[i].length c4 j 2 hlt2 ?_;refine G.lU (some 2) b6 (o6+j*2) _ h6 ?_;refine G.c call120 (Md (ht.mono ((l1.trans l2).trans l5)) f6 (Ayv (Bi oV) oV)) ?_;rintro v8 u8 l8 rfl;generalize Lib.nDigits (cs[i][j]).natAbs=d at *
   refine G.maxI [3,3] (k2:Int) (d:Int) ((max k2 d:Nat):Int) kV oV ?_;refine G.i j ?_;exact G.b (hJ2 (j+1,max k2 d) _ _ _ cV (l5.trans l8) ⟨dV,dV,rfl⟩ dV)
  ·refine G.lF (j:Int) (cs[i].length:Int) ?_;refine G.i i ?_;exact G.b (hJ (i+1,k2) _ _ _ cV (l2.trans l5) ⟨dV,hk2,rfl⟩ dV)
 ·refine G.lF (i:Int) (cs.length:Int) ?_;exact G.r (.int .i64 (k:Int)) ⟨rfl,k,rfl,hk⟩
def Anr {u:PH}{v:Value}{A:List (List Rat)}{L K N:Nat}(ht:Js u)(h:J9 u v (K6 A))(hT:∀ r∈A,∀ q∈r,Tx q)(hl:A.length<=N)(I:∀ r∈A,r.length<=N)(hN:N<=12)(T:N*K<=600)(hK:K<=400)
 (hL:∀ r∈A,∀ q∈r,q.den ∣ L) (Q:0<L) (R:nl L<=1000000000) (hD:∀ D:Nat,D ∣ L->0<D->Lib.nDigits D<=K/\∀ r∈A,∀ q∈r,q.den ∣ D->Lib.nDigits (q.num*((D/q.den:Nat):Int)).natAbs<=K) :
 Fn0 prog 137 [v] u fun v' _=>v'=.bool false:=by
 have J:=fun (v:Value) (P:PH) (hv:J9 P v (K6 A))=>Ai4 hv hT oV (fun r O=>by have:=I r O;omega) hL Q R;obtain⟨a,c,rfl⟩:=h.opn;rw[C9]at h⊢;have t:=fun (P:PH) (x:Value) (D:Nat) (U:Js P) (hx:Avt P x D (A.map (Bn D))) (Z:D ∣ L) (h0:0<D) (h2:∀ r∈A,∀ q∈r,q.den ∣ D) =>
  Ato (K:=K) U hx hK (hD D Z h0).1 (fun r O z hz=>by
   obtain⟨j,m,rfl⟩:=Ayx.1 O;obtain⟨q,hq,rfl⟩:=Ayx.1 hz;exact (hD D Z h0).2 j m q hq (h2 j m q hq)) (by rw[Ayt];omega) (fun r O=>by
   obtain⟨j,m,rfl⟩:=Ayx.1 O;rw[Bn,Ayt];have:=I j m;omega)
 refine Fn0.o func137 ?_;by_cases C:0<A.length
 ·refine G.gT A.length 0 ?_;have V:A[0]?=some A[0]:=Ayr C;have a0:=I _ (Ay8 C);obtain⟨X,oa,a',c',rfl,Y,es⟩:=h.row (Uo V);rw[Ayt]at Y;generalize A[0].length=j at *
  refine G.a X oa A.length c 0 1 oV<|G.lU none X (oa+0*1) (.slice a' j c') Y<|G.maxI [3,3] (A.length:Int) (j:Int) ((max A.length j:Nat):Int) kV oV<|G.c call139 (J _ _ h) ?_;rintro v1 u1 W ⟨D,E,F,H,e⟩;have g:=e;obtain⟨x1,x2,x3,x4,x5,x6,x7,rfl,_,_⟩:=e;refine G.c call197 (t _ _ D (ht.mono W) g F E H) ?_;rintro v2 u2 l2 ⟨n,rfl,hn⟩;have hm:max A.length j*n<=600:=Ayv (A1u (by omega:max A.length j<=N) hn) T;exact G.mul ((max A.length j:Nat):Int) (n:Int) ((max A.length j*n:Nat):Int) kV (by push_cast;rfl) oV oV<|G.gF (max A.length j*n:Nat) 600<|G.r (.bool false) ⟨rfl,rfl⟩
 refine G.gF A.length 0<|G.c call139 (J _ _ h) ?_;rintro v1 u1 W ⟨D,E,F,H,e⟩;have g:=e;obtain⟨x1,x2,x3,x4,x5,x6,x7,rfl,_,_⟩:=e;refine G.c call197 (t _ _ D (ht.mono W) g F E H) ?_;rintro v2 u2 l2 ⟨n,rfl,hn⟩;have h0:A.length=0:=oV;exact G.mul (A.length:Int) (n:Int) 0 kV (by rw[h0];simp) oV oV<|G.gF 0 600<|G.r (.bool false) ⟨rfl,rfl⟩
structure Axj (A:List (List Rat))(L K:Nat):Prop where
 den:∀ r∈A,∀ q∈r,q.den ∣ L
 pos:0<L
 nl:nl L<=1000000000
 dig:∀ D:Nat,D ∣ L->0<D->Lib.nDigits D<=K/\∀ r∈A,∀ q∈r,q.den ∣ D->Lib.nDigits (q.num*((D/q.den:Nat):Int)).natAbs<=K
section
variable [Cc] [Cm]
structure Arr where
 v:Value
 t:TypeId
 sz:Nat
 es:List Value
def Arr.At (a:Arr)(m0 m:PH):Prop:=Af m0 m a.v a.t a.sz a.es
def Bag:PH->List Arr->Prop
 |_,[]=>True
 |m,a::l=>∃ m0,a.At m0 m/\Bag m0 l
def Ic (m:PH){g h:Nat}(o p:Obj)(n:g≠h):(m.upd g o).upd h p=(m.upd h p).upd g o:=by
 funext k
 unfold PH.upd;by_cases e:k=g
 ·subst e;simp[n]
 by_cases j:k=h
 ·subst j;simp[e]
 simp[e,j]
def At.swap {x y:Arr}{m0 m1 m:PH}(V:y.At m1 m)(U:x.At m0 m1):∃ W,y.At m0 W/\x.At W m/\∀ (T:Arr) L,T.At W L->∃ R,y.At R L/\T.At m0 R:=by
 obtain⟨I,V⟩:=V;rcases V with ⟨y1,y2,rfl⟩|⟨h,cap,rest,y1,rfl,y2,y3,y4,N⟩
 ·exact⟨m0,⟨I,.inl ⟨y1,y2,rfl⟩⟩,U,fun T L j=>⟨L,⟨I,.inl ⟨y1,y2,rfl⟩⟩,j⟩⟩
 obtain⟨ox,U⟩:=U;rcases U with ⟨X,Y,rfl⟩|⟨g,O,J,X,rfl,Y,x3,x4,x5⟩
 ·refine⟨_,⟨I,.inr ⟨h,cap,rest,y1,rfl,y2,y3,y4,N⟩⟩,⟨ox,.inl ⟨X,Y,rfl⟩⟩,fun T L j=>?_⟩;obtain⟨H,j⟩:=j;rcases j with ⟨E,K,rfl⟩|⟨Q,t,n,E,rfl,K,Z,z4,z5⟩
  ·exact⟨_,⟨I,.inr ⟨h,cap,rest,y1,rfl,y2,y3,y4,N⟩⟩,⟨H,.inl ⟨E,K,rfl⟩⟩⟩
  have C:Q≠h:=fun e=>by subst e;rw[Ab]at E;cases E
  rw[Ad _ _ C]at E;refine⟨_,⟨I,.inr ⟨h,cap,rest,?_,Ic _ _ _ C.symm,y2,y3,y4,N⟩⟩,⟨H,.inr ⟨Q,t,n,E,rfl,K,Z,z4,z5⟩⟩⟩;rw[Ad _ _ C.symm];exact y1
 have C:h≠g:=fun e=>by subst e;rw[Ab]at y1;cases y1
 rw[Ad _ _ C]at y1;refine⟨_,⟨I,.inr ⟨h,cap,rest,y1,rfl,y2,y3,y4,N⟩⟩,⟨ox,.inr ⟨g,O,J,?_,Ic _ _ _ C.symm,Y,x3,x4,x5⟩⟩,fun T L j=>?_⟩
 ·rw[Ad _ _ C.symm];exact X
 obtain⟨H,j⟩:=j;rcases j with ⟨E,K,rfl⟩|⟨Q,t,n,E,rfl,K,Z,z4,z5⟩
 ·exact⟨_,⟨I,.inr ⟨h,cap,rest,y1,rfl,y2,y3,y4,N⟩⟩,⟨H,.inl ⟨E,K,rfl⟩⟩⟩
 have F:Q≠h:=fun e=>by subst e;rw[Ab]at E;cases E
 rw[Ad _ _ F]at E;refine⟨_,⟨I,.inr ⟨h,cap,rest,?_,Ic _ _ _ F.symm,y2,y3,y4,N⟩⟩,⟨H,.inr ⟨Q,t,n,E,rfl,K,Z,z4,z5⟩⟩⟩;rw[Ad _ _ F.symm];exact y1
def Bag.focus:∀ {l:List Arr} {m:PH} (_:Bag m l) (i:Nat) {x:Arr},l[i]?=some x->∃ m0,x.At m0 m/\∀ (g:Arr) j,g.At m0 j->Bag j (l.set i g)
 |[],m,_,i,x,hi=>by simp at hi
 |y::l,m,⟨m1,hy,hl⟩,0,x,hi=>by
  simp at hi;subst hi;exact⟨m1,hy,fun g j e=>⟨m1,e,hl⟩⟩
 |y::l,m,⟨m1,hy,hl⟩,i+1,x,hi=>by
  simp at hi;obtain⟨m0,E,h⟩:=Bag.focus hl i hi;obtain⟨J,F,t,C⟩:=At.swap hy E;refine⟨J,t,fun g j e=>?_⟩;obtain⟨n,H,I⟩:=C g j e;exact⟨n,H,h g n I⟩
def Bag.take:∀ {l:List Arr} {m:PH} (_:Bag m l) (i:Nat) {x:Arr},l[i]?=some x->∃ m0,x.At m0 m/\Bag m0 (l.eraseIdx i)
 |[],m,_,i,x,hi=>by simp at hi
 |y::l,m,⟨m1,hy,hl⟩,0,x,hi=>by
  simp at hi;subst hi;exact⟨m1,hy,hl⟩
 |y::l,m,⟨m1,hy,hl⟩,i+1,x,hi=>by
  simp at hi;obtain⟨m0,j,e⟩:=Bag.take hl i hi;obtain⟨n,h,g,t⟩:=At.swap hy j;exact⟨n,g,m0,h,e⟩
def Bag.el {l:List Arr}{m:PH}(h:Bag m l)(i:Nat){x:Arr}(hi:l[i]?=some x){b n c j:Nat}{e:Value}(C:x.v=.slice (some ⟨b,0,none⟩) n c)(t:x.es[j]?=some e):ElP m b (0+j*x.sz) e:=by
 obtain⟨m0,g,_⟩:=h.focus i hi;unfold Arr.At at g;rw[C]at g;exact g.el t
def Bag.shape {l:List Arr}{m:PH}(h:Bag m l)(i:Nat){x:Arr}(hi:l[i]?=some x):∃ a c,x.v=.slice a x.es.length c:=by
 obtain⟨m0,e,_⟩:=h.focus i hi;exact e.shape
def Bag.ptr {l:List Arr}{m:PH}(h:Bag m l)(i:Nat){x:Arr}(hi:l[i]?=some x)(e:x.es≠[]):∃ b c,x.v=.slice (some ⟨b,0,none⟩) x.es.length c:=by
 obtain⟨m0,g,_⟩:=h.focus i hi;exact g.ptr e
section rules
variable {P:Program} [A5 P] {fn:Func} {Post:By} {st:List KI×S} {u m:PH}
def G.callO (f:Nat)(args:List Value){R:Value->PH->PH->Prop}(h:Aj P (adv P st)=.call f args)(Y:∀ args w,(callFunc f args).run P w=.ok (.enter f args) w)(c:Ag P f args u PH.mt R)
 (k:∀ v j mc,PH.le u j->R v j mc->(∀ g,mc g≠none->m g=none)->G P fn Post (nx (adv P st) v) j (m.or mc)):G P fn Post st u m:=by
 refine G.big (K:=fun v j J=>∃ mc,J=m.or mc/\R v j mc/\∀ g,mc g≠none->m g=none) h mV Dd (.inl fun v j J W=>?_) (fun T o t w n=>?_) (fun v j J U V=>?_)
 ·obtain⟨mc,rfl,_⟩:=W;exact fun g o F=>PH.or_l F
 ·refine He t Y w _ (Calls.mono (c w n.noM) fun e w' Z=>?_);obtain⟨v,j,mc,N,O,L,Q⟩:=Z;have C:m.or PH.mt=m:=by
   funext g;unfold PH.or;split
   ·rename_i o e;rw[e]
   rename_i e;rw[e];rfl
  have E:∀ g,mc g≠none->m g=none:=fun g F=>by
   rcases Az8 g w.heap.size with I|H
   ·exact absurd (L.ms g I rfl) F
   exact n.pm.none H
  obtain⟨g1,g2⟩:=Bo.frameM (mf:=m) (mc:=PH.mt) (by rw[C];exact n) (fun _=>.inr rfl) O L;rw[C]at g2;exact⟨v,N,j,m.or mc,g1,g2,mc,rfl,Q,E⟩
 obtain⟨mc,rfl,X,hf⟩:=V;exact k v j mc U X hf
def Y2 {e:Operand->Value}{o:Op}{ts:List TypeId}{xs:List Value}(h:Bg P e o=.blt .copy ts xs):M1 o=true/\Fe o=false:=by
 obtain⟨c,rfl,g,_⟩:=R4 h;obtain⟨j,a,t⟩:=c;simp only at g;subst g;exact⟨rfl,rfl⟩
def G.copyM (V sT e:TypeId)(sz g o n c:Nat)(a:Addr)(O sc:Nat)(t:TypeId)(C cs:List Value)(h:Aj P (adv P st)=.blt .copy [V,sT] [.slice (some ⟨g,o,none⟩) n c,.slice (some a) O sc])
 (hu:P.underlying V=some (.slice e)) (a0:szB P e=some sz) (hb:m g=some (.cells C.toArray t (0,0))) (Z:cs.length=Nat.min O n*sz)
 (T:∀ w,E5 u w->E5 m w->∀ (j:Nat) (v:Value),cs[j]?=some v->w.cell? (a.add j)=some v) (Q:o+cs.length<=C.length) (h1:∀ x∈cs,Az x=true) (h2:∀ x∈C,Az x=true)
 (k:G P fn Post (nx (adv P st) (.int .i64 (Nat.min O n:Nat))) u (m.upd g (.cells (C.take o++cs++C.drop (o+cs.length)).toArray t (0,0)))):G P fn Post st u m:=by
 refine G.big (K:=fun v' u' m'=>u'=u/\v'=.int .i64 (Nat.min O n:Nat)/\m'=m.upd g (.cells (C.take o++cs++C.drop (o+cs.length)).toArray t (0,0))) h mV (fun I op hv=>(Y2 hv).2) (.inr fun I op hv=>(Y2 hv).1) (fun I op N w F=>?_) (fun v' u' m' _ Z=>?_)
 ·obtain⟨cc,e1,e2,e3,e4⟩:=R4 N;obtain⟨W,a2,H,pos,after,J⟩:=op;obtain⟨a1,ar,ty⟩:=cc;simp only at e1 e2 e3 e4;subst e1 e2 e3;have Y:=F.pm g _ hb;have hl:=run_loadCells_list (P:=P) w a cs (T w F.pu F.pm);have U:=run_storeCells_at P g o t cs 0 C.toArray w Y (by simpa using Q) (fun x E=>F9 (h1 x E));have R:(Builtin.copy_ #[V,sT] H #[.slice (some ⟨g,o,none⟩) n c,.slice (some a) O sc]).run P w=.ok (.int .i64 (Nat.min O n:Nat)) (w.setRow g (C.take o++cs++C.drop (o+cs.length)).toArray):=by
   simp only[A1r,A09]at U;simp[Builtin.copy_,run_underlying hu,Builtin.lenOf,Builtin.firstCells,Bj a0,<-Z,hl];rw[U];simp[goInt]
  have L:∀ x∈(C.take o++cs++C.drop (o+cs.length)).toArray.toList,Az x=true:=by
   intro x E;simp only[A09,Ay5]at E;rcases E with (E|E)|E
   ·exact h2 x (A0o E)
   ·exact h1 x E
   exact h2 x (A1v E)
  obtain⟨g1,g2⟩:=F.setM hb L;unfold Eb;have X:(execOp I ⟨W,.call ⟨.builtin .copy,ar,#[V,sT]⟩,H,pos,after,J⟩).run P w=.ok (.value (.int .i64 (Nat.min O n:Nat))) (w.setRow g (C.take o++cs++C.drop (o+cs.length)).toArray):=by
   simp[execOp,resolve,invoke,builtin,e4,R]
  rw[X];exact⟨u,_,g1,g2,rfl,rfl,rfl⟩
 obtain⟨rfl,rfl,rfl⟩:=Z;exact k
end rules
end
section
variable {e z:Value}{es:List Value}{k n q sz:Nat}
def Akx (h:Ba sz es)(k:Nat):(A6 es).take (k*sz)=A6 (es.take k):=by
 by_cases t:k<=es.length
 ·have e:A6 es=A6 (es.take k)++A6 (es.drop k):=by rw[<-C8,A2i]
  have g:(A6 (es.take k)).length=k*sz:=by rw[Bb (sz:=sz) (fun x j=>h x (A0o j)),Ay1];congr 1;omega
  rw[e,A4z oV,<-g,Azj]
 rw[Ay6 (by rw[Bb h];exact Az7 _ oV),Ay6 oV]
def Aks (h:Ba sz es)(k:Nat):(A6 es).drop (k*sz)=A6 (es.drop k):=by
 by_cases t:k<=es.length
 ·have e:A6 es=A6 (es.take k)++A6 (es.drop k):=by rw[<-C8,A2i]
  have g:(A6 (es.take k)).length=k*sz:=by rw[Bb (sz:=sz) (fun x j=>h x (A0o j)),Ay1];congr 1;omega
  rw[e,<-g,A65]
 rw[Az1 (by rw[Bb h];exact Az7 _ oV),Az1 oV];rfl
def Ba.replicate (h:Ba sz [e])(n:Nat):Ba sz (List.replicate n e):=fun x g=>h x (by rw[A5k g];simp)
section rules
variable {P:Program} [A5 P] {fn:Func} {Post:By} {st:List KI×S} {u m:PH}
def G.copyA (N X e:TypeId)(sz g n k:Nat)(a:Addr)(H Y c:Nat)(t:TypeId)(m0:PH)(es xs:List Value)(h:Aj P (adv P st)=.blt .copy [N,X] [.slice (some ⟨g,0+k*sz,none⟩) (n-k) c,.slice (some a) H Y])
 (hu:P.underlying N=some (.slice e)) (Q:szB P e=some sz) (T:Af m0 m (.slice (some ⟨g,0,none⟩) n n) t sz es) (L:Ba sz xs) (J:xs.length=Nat.min H (n-k)) (a0:k<=n)
 (K:∀ w,E5 u w->E5 m w->∀ (j:Nat) (v:Value),(A6 xs)[j]?=some v->w.cell? (a.add j)=some v)
 (kk:∀ W,Af m0 W (.slice (some ⟨g,0,none⟩) n n) t sz (es.take k++xs++es.drop (k+xs.length))->G P fn Post (nx (adv P st) (.int .i64 ((Nat.min H (n-k):Nat):Int))) u W):G P fn Post st u m:=by
 have U:=T.len;obtain⟨C,Z⟩:=T;rcases Z with ⟨O,_,_⟩|⟨g',cap,rest,O,rfl,I,h3,R,h5⟩
 ·simp at O
 simp only[Value.slice.injEq,Ayz,Addr.mk.injEq,and_true]at I;obtain⟨rfl,I,rfl⟩:=I;have hr:rest = []:=by
  rw[Ay3,Bb C,<-I]at R;exact A0a oV
 subst hr;simp only[Azl]at R⊢;have V:Nat.min H (n-k)<=n-k:=A6f _ _;have E:(A6 xs).length=Nat.min H (n-k)*sz:=by rw[Bb L,J]
 refine G.copyM N X e sz g (0+k*sz) (n-k) c a H Y t (A6 es) (A6 xs) h hu Q (Ab _ _ _) E (by simpa using K) (by rw[E,Bb C,<-I,A0h,<-Azt];exact Az7 _ oV) (Fp L) (Fp C) ?_;rw[Cw];refine kk _ ⟨?_,.inr ⟨g,n,[],O,?_,?_,?_,?_,mV⟩⟩
 ·exact ((Ba.append (fun x F=>C x (A0o F)) L).append (fun x F=>C x (A1v F)))
 ·congr 3
  rw[A0h,Akx C,E,<-Azt,Aks C,<-C8,<-C8,Azl,J]
 ·congr 1
  simp only[Ay3,Ay1,A3h,J];omega
 ·simp only[Ay3,Ay1,A3h,J];omega
 rw[Azl,Bb (sz:=sz)]
 ·congr 1
  simp only[Ay3,Ay1,A3h,J];omega
 exact ((Ba.append (fun x F=>C x (A0o F)) L).append (fun x F=>C x (A1v F)))
end rules
def Aqo {u:PH}(g:n<=1000000):Fn0 prog 220 [.int .u64 1,.int .u64 (n:Int)] u fun v _=>v=.tuple #[.int .u64 0,.int .u64 (n:Int)]:=by
 refine Fn0.ofW (fun v _=>v=.tuple #[.int .u64 0,.int .u64 (n:Int)]) (fun w _=>(Tryz.bits_Mul 1 n oV oV w).mono fun _ _ ⟨e,h⟩=>⟨_,e,?_,by rw[h];exact Ext.refl _⟩) (fun _ _ _ h _ _ _=>h);rw[A1k,A2l oV,A3u oV];rfl
def Adm {z:Int}(g:0<=z)(h:z<18446744073709551616):IntKind.u64.wrap z=z:=by
 simp only[IntKind.wrap,IntKind.signed,IntKind.bits];simp;omega
def Ac0 (g:k+q<=n):(List.replicate k e++List.replicate (n-k) z).take k++List.replicate q e++(List.replicate k e++List.replicate (n-k) z).drop (k+(List.replicate q e).length)=List.replicate (k+q) e++List.replicate (n-(k+q)) z:=by
 rw[List.take_left' mV,A1a,List.drop_append,Az1 mV,A1a,A00,List.drop_replicate,List.replicate_append_replicate]
 congr 2;omega
def Aof {g q k r:Nat}{u m m0:PH}{t:TypeId}(I:Ba sz [e])(K:q<=k)(E:0<sz)(F:Af m0 m (.slice (some ⟨g,0,none⟩) n n) t sz (List.replicate k e++List.replicate r z)) :
 ∀ w,E5 u w->E5 m w->∀ (j:Nat) (v:Value),(A6 (List.replicate q e))[j]?=some v->w.cell? ((⟨g,0,none⟩:Addr).add j)=some v:=by
 intro w _ hp j v H;refine Fz.cells (u:=m) (b:=g) (off:=0) E (fun i x hi=>?_) (I.replicate q) hp j v H;have C:i<q:=by
  rcases Az8 i q with h|h
  ·exact h
  rw[Azo (by simpa using h)]at hi;cases hi
 have J:x=e:=by rw[A3r,if_pos C]at hi;exact (A0j hi).symm
 subst J;refine F.el ?_;rw[Azi gV,A3r,if_pos oV]
def Xd {u:PH}{v e:Value}(h:Ac u v 1 [e])(I:Ba 1 [e])(Z:n<=1000000) :
 Fn0 prog 169 [v,.int .i64 n] u fun v' R=>Ac R v' 1 (List.replicate n e):=by
 obtain⟨a,c,rfl⟩:=h.opn;have K:=Ac.at' h (j:=0) (e:=e) rfl;obtain⟨b,off,rfl,L⟩:=K;refine Fn0.o func169<|G.lF n 0<|G.convI .i64 .u64 .i64 1 1 kV (Adm oV oV)<|G.convI .i64 .u64 .i64 n (n:Int) kV (Adm oV oV)<|G.c call220 (Aqo Z) ?_;rintro v1 u1 l1 rfl;refine G.cmpG .gtr .u64 0 0 false kV rfl rfl<|G.cmpG .gtr .u64 (n:Int) 9223372036854775807 false kV rfl (by simp only[Cl,decide_eq_false_iff_not];omega)<|G.convI .u64 .i64 .u64 (n:Int) (n:Int) kV (E9 oV oV)<|G.make 32 1 16 (.string (mkS [])) n kV rfl rfl oV oV oV ?_;rintro v2 m2 O ⟨a2,rfl⟩;obtain⟨g,rfl,Q⟩:=O.some';have Y:Nat.min 1 (n-0)<=1:=Nat.min_le_left _ _;refine G.copyA 78 78 32 1 g n 0 ⟨b,off,none⟩ 1 c n 32 PH.mt (List.replicate n (.string (mkS []))) (List.replicate (Nat.min 1 (n-0)) e) kV kV kV O (I.replicate _) mV (Azh _) (fun w hp _ j x V=>?_) ?_
 ·refine Fz.cells (u:=u) (b:=b) (off:=off) (sz:=1) oV (fun i y hi=>?_) (I.replicate _) (fun g o Q=>hp g o (l1 g o Q)) j x V;have E:i<Nat.min 1 (n-0):=by
   rcases Az8 i (Nat.min 1 (n-0)) with h|h
   ·exact h
   rw[Azo (by simpa using h)]at hi;cases hi
  rw[A3r,if_pos E]at hi;have hy:y=e:=(A0j hi).symm;subst hy;have:i=0:=oV;subst this;exact L
 intro m3 C;have F:=Ac0 (e:=e) (z:=.string (mkS [])) (n:=n) (k:=0) (q:=Nat.min 1 (n-0)) (by have:Nat.min 1 (n-0)<=n-0:=A6f _ _;omega);simp only[A3t,A00,A43,A0h]at F C;rw[F]at C;clear F;refine G.l (ι:=Nat) (fun k=>[(7,sV (some ⟨g,0,none⟩) n n),(8,iV k)]) (fun _=>[])
  (fun k R m'=>k<=n/\(k=0->n=0)/\Af PH.mt m' (.slice (some ⟨g,0,none⟩) n n) 32 1 (List.replicate k e++List.replicate (n-k) (.string (mkS [])))) (fun k=>n-k) (Nat.min 1 n)
  ⟨A6f _ _,fun h=>by have h':min 1 n=0:=h;omega,C⟩ ?_
 rintro J k T u4 m4 l4 ⟨W,X,t⟩;by_cases E:k<n
 ·refine G.lT k n<|G.sliceFrom g 0 n n k 1 kV oV E<|G.sliceTo 1 (some ⟨g,0,none⟩) n n k kV oV ?_;have N:Nat.min k (n-k)<=k:=Nat.min_le_left _ _;have a0:Nat.min k (n-k)<=n-k:=A6f _ _;have a1:0<Nat.min k (n-k):=by show 0<min k (n-k);omega
  refine G.copyA 78 78 32 1 g n k ⟨g,0,none⟩ k n (n-k) 32 PH.mt _ (List.replicate (Nat.min k (n-k)) e) kV kV kV t (I.replicate _) mV W (Aof I N oV t) ?_;intro m5 H;rw[Ac0 oV]at H;generalize Nat.min k (n-k)=q at *
  exact G.p k q (k+q:Nat)<|G.b (T (k+q) _ _ _ cV l4 ⟨oV,oV,H⟩ oV)
 obtain rfl:k=n:=oV;refine G.lF k k ?_;rw[A20,A3t,Azl]at t;refine G.give PH.mt _ _ kV t (fun _=>.inl rfl) ?_;intro u5 l5 U;exact G.r (.slice (some ⟨g,0,none⟩) k k) ⟨rfl,U⟩
end
section
variable {q:Rat}
def sg (q:Rat):Int:=if q<0 then -1 else if 0<q then 1 else 0
def Awa (h:0<q):sg q=1:=by unfold sg;rw[if_neg (by grind),if_pos h]
def Av7 (h:q<0):sg q = -1:=by unfold sg;rw[if_pos h]
def Asv:sg 0=0:=by simp[sg]
def Vu (q:Rat):(q<0/\sg q = -1)\/(q=0/\sg q=0)\/(0<q/\sg q=1):=by
 by_cases h:q<0
 ·exact .inl ⟨h,Av7 h⟩
 by_cases e:0<q
 ·exact .inr (.inr ⟨e,Awa e⟩)
 have:q=0:=by grind
 exact .inr (.inl ⟨this,by rw[this];exact Asv⟩)
end
def gR (l:List Rat)(i:Nat):Rat:=l.getD i 0
def gM (M:List (List Rat))(i:Nat):List Rat:=M.getD i []


section
variable {es:List Value}{i j k:Nat}{l:List Rat}{q r:Rat}
section rules
variable {P:Program} [A5 P] {fn:Func} {Post:By} {st:List KI×S} {u m:PH}
end rules
def Ac.take' {u:PH}{a:Option Addr}{n c sz:Nat}(h:Ac u (.slice a n c) sz es)(k:Nat)(E:k<=es.length):Ac u (.slice a k c) sz (es.take k):=by
 obtain⟨F,H,t,I,C⟩:=h;simp only[Value.slice.injEq]at t;obtain⟨rfl,_,rfl⟩:=t;refine⟨a,c,by rw[Ay1,A2b E],by rw[Ay1];omega,fun j e g=>?_⟩;rw[A1x]at g;split at g
 ·exact C j e g
 cases g
def AtP.at {α:Type}{R:PH->Value->α->Prop}{u:PH}{xs:List α}(h:AtP R u es xs)(g:j<xs.length):∃ e,es[j]?=some e/\R u e xs[j]:=h.2 j _ (Ayr g)
def AtP.ok4 {u:PH}{t:List Rat}(h:AtP Ax u es t):Ba 4 es:=by
 intro e E;obtain⟨j,n,rfl⟩:=A01.1 E;obtain⟨F,g,C⟩:=h.2 j (t[j]'(by rw[<-h.1];exact n)) (Ayr _);rw[Ayr n]at g;rw[A0j g];exact C.ok _ mV
def M3 (h:i<l.length):gR l i=l[i]:=by simp[gR,h]
def Ab7 (h:i<l.length):gR l i∈l:=by rw[M3 h];exact Ay8 h
def Acc (q:Rat):sgn q.num=sg q:=by
 rcases Vu q with ⟨h,e⟩|⟨h,e⟩|⟨h,e⟩
 ·rw[e];refine Ej ?_;have:¬ (0<=q.num):=fun g=>by have:=Rat.num_nonneg.1 g;grind
  omega
 ·subst h;rw[e];rfl
 rw[e];refine C7 ?_;have n:0<=q.num:=Rat.num_nonneg.2 (by grind);have t:q.num≠0:=fun g=>by have:=A4s.1 g;grind
 omega
def Awi {z:Int}(h:z.natAbs<1000000000):Sz (z:Rat) 1:=⟨Bc (by simpa using h),Bc mV⟩
def Gy (h:Sz q j)(e:Sz r k):Sz (q+r) (j+k+1):=by
 rw[<-Rt q r];have n:=In q.num.natAbs r.den;have t:=In r.num.natAbs q.den;have C:=In q.den r.den;have E:=Am9 (q.num.natAbs*r.den) (r.num.natAbs*q.den);have g:(q.num*(r.den:Int)+r.num*(q.den:Int)).natAbs<=q.num.natAbs*r.den+r.num.natAbs*q.den:=by
  refine Ayv (Int.natAbs_add_le _ _) ?_;rw[A15,A15];simp
 have F:=Cs g;have:=h.1;have:=h.2;have:=e.1;have:=e.2;exact Oz (Q6 q r) oV (by rw[A15];simp only[Az6];omega)
def Amy (h:Sz q k):Sz (-q) k:=⟨by rw[A76,A1p];exact h.1,by rw[A77];exact h.2⟩
def Uh (h:Sz q j)(e:Sz r k):Sz (q-r) (j+k+1):=by
 rw[A5n];exact Gy h (Amy e)
def Di (h:Sz q j)(e:Sz r k):Sz (q*r) (j+k):=by
 rw[<-Aax q r];have g:=In q.num.natAbs r.num.natAbs;have n:=In q.den r.den;have:=h.1;have:=h.2;have:=e.1;have:=e.2;exact Oz (Q6 q r) (by rw[A15];omega) (by rw[A15];simp only[Az6];omega)
end
section
variable {M:List (List Rat)}{q:Rat}
structure F4 where
 b:Bool
 a:Option Addr
 n:Nat
 c:Nat
 b':Bool
 a':Option Addr
 n':Nat
 c':Nat
def fv (f:F4):Value:=.agg #[.bool f.b,.slice f.a f.n f.c,.bool f.b',.slice f.a' f.n' f.c']
def fc (f:F4):List SV:=[.v (.bool f.b),.v (.slice f.a f.n f.c),.v (.bool f.b'),.v (.slice f.a' f.n' f.c')]
def Ax.opF {u:PH}{v:Value}(h:Ax u v q):∃ f,v=fv f:=by
 obtain⟨b,a,n,c,b',e,m,g,rfl⟩:=h.opn;exact⟨⟨b,a,n,c,b',e,m,g⟩,rfl⟩
def Bag.perm {l t:List Arr}(h:l.Perm t):∀ {m:PH},Bag m l->Bag m t:=by
 induction h with
 |nil=>exact fun h=>h
 |cons x _ ih=>exact fun⟨m0,e,g⟩=>⟨m0,e,ih g⟩
 |swap x y l =>
  rintro m ⟨J,E,m0,C,u⟩;obtain⟨I,F,H,_⟩:=At.swap E C;exact⟨I,H,m0,F,u⟩
 |trans _ _ e g=>exact fun h=>g (e h)
section bag
variable {o:Arr} {rows:List (Value×List Value)} {rest:List Arr} {i j n:Nat} {r r':Value×List Value} {x x':Arr}
end bag
def Ao9 {i j:Nat}{q:List Rat}(hi:i<M.length):gM (M.set i q) j=if i=j then q else gM M j:=by
 unfold gM;simp only[Ays,A1g];split
 ·rename_i e;subst e;simp
 rfl
def Aw0 {l:List Rat}{i j:Nat}(hi:i<l.length):gR (l.set i q) j=if i=j then q else gR l j:=by
 unfold gR;simp only[Ays,A1g];split
 ·rename_i e;subst e;simp
 rfl
def Jx {i:Nat}(h:i<M.length):gM M i=M[i]:=by simp[gM,h]
def Bdp {q r:Rat}{j k:Nat}(h:Sz q j)(u:Sz r k)(H:r≠0):Sz (q/r) (j+k):=by
 rw[<-Bch q r];have I:=In q.num.natAbs r.den;have J:=In q.den r.num.natAbs;have K:=h.1;have L:=h.2;have N:=u.1;have O:=u.2;have F:r.num≠0:=fun e=>H (A4s.1 e);have C:(q.den:Int)≠0:=by have:=q.den_pos;omega
 have m:nl (q.num*(r.den:Int)).natAbs<=j+k:=by rw[A15];simp only[Az6];omega
 have t:nl ((q.den:Int)*r.num).natAbs<=j+k:=by rw[A15];simp only[Az6];omega
 rcases Int.lt_or_lt_of_ne (A9x C F) with E|g
 ·have e:Rat.divInt (q.num*(r.den:Int)) ((q.den:Int)*r.num)=Rat.divInt (-(q.num*(r.den:Int))) (-((q.den:Int)*r.num)):=(Rat.neg_divInt_neg _ _).symm;rw[e];exact Oz oV (by rw[A1p];exact m) (by rw[A1p];exact t)
 exact Oz g m t
end
section
def Bbe:Value×List Value:=(.slice none 0 0,[])
def Ai1:Sz 0 1:=Awi (z:=0) fV
section steps
variable {fn:Func} {Post:By} {u m:PH}
end steps
end
def N0 (q:Rat):Bool:=decide (q.num.natAbs<10^100)&&decide (q.den<10^100)
def D9:∀ {k n:Nat} (_:0<k) (_:n<10^k),Lib.nDigits n<=k
 |0,n,hk,h=>oV
 |k+1,n,hk,h=>by
  by_cases g:n<10
  ·rw[Lib.nDigits_small g];omega
  rw[Lib.nDigits_big g];have e:0<k:=by
   rcases Azx k with h0|h0
   ·subst h0;simp at h;omega
   exact h0
  have:=D9 (k:=k) (n:=n/10) e (by rw[A05 oV,<-A0d];exact h);omega
def Tg {q:Rat}(h:N0 q=true):Tx q/\Sz q 12:=by
 simp only[N0,Azb,decide_eq_true_eq]at h;have g:=D9 oV h.1;have j:=D9 oV h.2;have e:(10:Nat)^100<=1000000000^12:=fV
 exact⟨⟨oV,oV⟩,Bc (A0k h.1 e),Bc (A0k h.2 e)⟩
section
section rules
variable {P:Program} [A5 P] {fn:Func} {Post:By} {st:List KI×S} {u m:PH}
def G.buildM (e:TypeId)(sz Z:Nat)(z:Value)(es:List Value)(h:Aj P (adv P st)=.buildS (some (e,sz,Z,z)) es.length (es.zipIdx.map fun p=>(p.2,p.1)))(F:Ba sz es)(a2:z.cells.size=sz)(T:0<sz)(Q:0<es.length)(hb:es.length*sz<=16777216)
 (k:∀ g n,Af m n (.slice (some ⟨g,0,none⟩) es.length es.length) e sz es->G P fn Post (nx (adv P st) (.slice (some ⟨g,0,none⟩) es.length es.length)) u n):G P fn Post st u m:=by
 refine G.big (K:=fun Y U n=>U=u/\PH.le m n/\∃ g,Y=.slice (some ⟨g,0,none⟩) es.length es.length/\Af m n (.slice (some ⟨g,0,none⟩) es.length es.length) e sz es) h mV (fun H op hv=>?_) (.inl fun v U n E=>E.2.1) (fun H o C w L=>?_) (fun Y U n a1 E=>?_)
 ·obtain⟨t,qs,rfl,_⟩:=Ee hv;rfl
 ·obtain⟨t,qs,V,e2,hi⟩:=Ee C;obtain⟨a0,a3,X,pos,after,I⟩:=o;simp only at V;subst V;obtain⟨hu,i,N,O,rfl,rfl⟩:=Dx hi;obtain⟨g1,g2,W,g4⟩:=L.newM (cs:=(A6 es).toArray) (t:=e) (by simpa using Fp F);have J:=Bb F;have R:es.length*i.size≠0:=by have:=A24 Q T;omega
  have j:=Nk es 0 ((Array.range (es.length*i.size)).map (z.cells[· % z.cells.size]!)) F mV;have e0:((Array.range (es.length*i.size)).map (z.cells[· % z.cells.size]!)).toList.drop (es.length*i.size) = []:=by
   apply A3w;simp
  simp only[A22,A14,A00,A0h,e0,Azl]at j;refine B0 (w':=w.alloc (.cells (A6 es).toArray e (0,0))) (v:=.slice (some ⟨w.heap.size,0,none⟩) es.length es.length) ?_ ⟨u,_,g1,g2,rfl,Kx _ W,_,rfl,F,.inr ⟨w.heap.size,es.length,[],W,by rw[Azl],rfl,Ay2 _,by rw[Azl,J],mV⟩⟩;simp only[execOp,e2];simp[Instr.buildSlice,run_underlying hu,sizeOf,typeInfo,zeroValue,N,O,R,j,newRow,show ¬ 16777216<es.length*i.size by omega]
 obtain⟨rfl,_,g,rfl,E⟩:=E;exact k g n E
end rules
end
section
variable [Cc] [Cm]
section rules
variable {P:Program} [A5 P] {fn:Func} {Post:By} {st:List KI×S} {u m:PH}
def Aec {e:Operand->Value}{o:Op}{t:TypeId}{x:Value}{f:Nat}(h:Bg P e o=.fieldA t x f):∃ X,o=.fieldAddr t X f/\e X=x:=by
 cases o<;>simp only[Bg]at h<;>try cases h
 any_goals ((repeat' split at h)<;>cases h;done)
 exact⟨_,rfl,rfl⟩
def G.fieldA (t:TypeId)(b off f E:Nat)(h:Aj P (adv P st)=.fieldA t (.pointer (some ⟨b,off,none⟩)) f)(g:No P t f=some E)(k:G P fn Post (nx (adv P st) (.pointer (some ⟨b,off+E,none⟩))) u m):G P fn Post st u m:=by
 refine G.ask h mV (fun J o j w _=>?_) k;obtain⟨X,e,I⟩:=Aec j;obtain⟨H,K,F,pos,after,C⟩:=o;simp only at e;subst e;unfold No at g;split at g
 ·rename_i fs hfs;split at g
  ·rename_i fd hfd;split at g
   ·rename_i n hn;simp only[Ayz]at g;subst g;simp[execOp,Instr.fieldAt,run_underlying hfs,hfd,Instr.sureAddr,I,fieldPlace,Bj hn,D5]
   cases g
  cases g
 cases g
def G.remZ (x y z:Int)(h:Aj P (adv P st)=.bin .rem (.int .i64 x) (.int .i64 y))(e:0<y)(E:y<=9223372036854775807)(g:x.tmod y=z)
 (k:G P fn Post (nx (adv P st) (.int .i64 z)) u m):G P fn Post st u m:=by
 refine G.bin _ h Cp (fun t w=>?_) k;have C:¬ y=0:=oV
 have F:-y<z/\z<y:=by
  rw[<-g];have j:=A80 x e;have n:=A81 x e;exact⟨n,j⟩
 simp[binOp,Op.intDiv,C,g]
end rules
end
section
variable [Cc] [Cm]
variable {P:Program} [A5 P] {fn:Func} {Post:By} {st:List KI×S} {u m:PH}
def G.f (t:TypeId)(b off f fo:Nat)(k:G P fn Post (nx (adv P st) (.pointer (some ⟨b,off+fo,none⟩))) u m)(h:Aj P (adv P st)=.fieldA t (.pointer (some ⟨b,off,none⟩)) f:=by kernel_rfl)(hf:No P t f=some fo:=by kernel_rfl):G P fn Post st u m:=G.fieldA t b off f fo h hf k
end
section
variable {k:Nat}{m0:PH}
def Ajl (m:PH):m.or PH.mt=m:=by
 funext g;unfold PH.or;split
 ·rename_i o e;rw[e]
 rename_i e;rw[e];rfl
def Ag0 (m0 m:PH){g:Nat}(o:Obj)(h:m0 g=none):m0.or (m.upd g o)=(m0.or m).upd g o:=by
 funext k
 by_cases e:k=g
 ·subst e;rw[PH.or_r h,Ab,Ab]
 rw[Ad _ _ e];unfold PH.or;split
 ·rfl
 rw[Ad _ _ e]
def Bag.or {I:List Arr}{j:PH}(t:Bag j I):∀ {l:List Arr} {m:PH},Bag m l->(∀ g,m g≠none->j g=none)->Bag (j.or m) (l++I)
 |[],m,h,hd=>by
  exact Bag.or_junk t hd
 |x::l,m,⟨m0,E,hl⟩,hd=>by
  obtain⟨J,E⟩:=E;rcases E with ⟨n,F,rfl⟩|⟨g,cap,rest,n,rfl,F,K,L,N⟩
  ·exact⟨_,⟨J,.inl ⟨n,F,rfl⟩⟩,Bag.or t hl hd⟩
  have H:j g=none:=hd g (by rw[Ab];simp);refine⟨j.or m0,⟨J,.inr ⟨g,cap,rest,by rw[PH.or_r H];exact n,Ag0 _ _ _ H,F,K,L,N⟩⟩,Bag.or t hl (fun k C=>hd k ?_)⟩;by_cases e:k=g
  ·subst e;rw[n]at C;exact absurd rfl C
  rw[Ad _ _ e];exact C
where
 Bag.or_junk {l':List Arr} {m' m:PH} (h':Bag m' l') (hd:∀ g,m g≠none->m' g=none):Bag (m'.or m) (l'):=by
  induction l' generalizing m' with
  |nil=>trivial
  |cons x l ih =>
   obtain⟨m0,⟨ox,hx⟩,hl⟩:=h';rcases hx with ⟨x1,x2,rfl⟩|⟨g,cap,rest,x1,rfl,x2,x3,x4,x5⟩
   ·exact⟨_,⟨ox,.inl ⟨x1,x2,rfl⟩⟩,ih hl hd⟩
   ·have hg:m g=none:=by
     cases e:m g with
     |none=>rfl
     |some o=>have:=hd g (by rw[e];simp);rw[Ab]at this;cases this
    refine⟨m0.or m,⟨ox,.inr ⟨g,cap,rest,by rw[PH.or_r x1];exact hg,?_,x2,x3,x4,x5⟩⟩,ih hl (fun k hk=>?_)⟩
    ·funext k
     by_cases e:k=g
     ·subst e;rw[Ab,PH.or_l (Ab _ _ _)]
     ·rw[Ad _ _ e];unfold PH.or;rw[Ad _ _ e]
    ·have:=hd k hk;by_cases e:k=g
     ·subst e;rw[Ab]at this;cases this
     ·rw[Ad _ _ e]at this;exact this
def Af.list {m0 m u:PH}{v:Value}{t:TypeId}{sz:Nat}{es:List Value}(h:Af m0 m v t sz es)(F:PH.le m u):Ac u v sz es:=by
 obtain⟨H,h⟩:=h;rcases h with ⟨rfl,rfl,_⟩|⟨g,cap,rest,_,rfl,rfl,n,C,_⟩
 ·exact Ac.nil _ _ _ _
 refine⟨_,_,rfl,n,fun j e E=>⟨g,0,rfl,fun i x I=>⟨_,_,_,F _ _ (Ab _ _ _),?_⟩⟩⟩;rw[A06,A0h];have:=Ib H E I;rw[Azi (by obtain⟨h,_⟩:=Ayu.1 this;exact h)];exact this
def Bag.list {l:List Arr}{m u:PH}(h:Bag m l)(e:PH.le m u)(i:Nat){x:Arr}(hi:l[i]?=some x):Ac u x.v x.sz x.es:=by
 obtain⟨m0,g,_⟩:=h.focus i hi;exact Af.list g e
section rules
variable [Cc] [Cm] {P:Program} [A5 P] {fn:Func} {Post:By} {st:List KI×S} {u m:PH}
def G.callA (f:Nat)(args:List Value){mf mc:PH}{R:Value->PH->PH->Prop}(h:Aj P (adv P st)=.call f args)(F:T6 (adv P st)=true)(Z:∀ args w,(callFunc f args).run P w=.ok (.enter f args) w)(hm:m=mf.or mc)(E:Lp mf mc)(c:Ag P f args u mc R)
 (k:∀ v n j,PH.le u n->R v n j->Lp mf j->G P fn Post (nx (adv P st) v) n (mf.or j)):G P fn Post st u m:=by
 subst hm;refine G.bigN (K:=fun v n N=>∃ j,N=mf.or j/\R v n j/\Lp mf j) h mV F Dd (fun U o C w t=>?_) (fun v n N V W=>?_)
 ·have I:Bo u mc w:=t.less (fun g o H=>by
   cases hx:mf g with
   |some o'=>have:=(E g).resolve_left (by rw[hx];simp);rw[this]at H;cases H
   |none=>rw[PH.or_r hx];exact H)
  refine He C Z w _ (Calls.mono (c w I) fun e w' he=>?_);obtain⟨v,n,j,O,Q,L,T⟩:=he;obtain⟨g1,g2⟩:=t.frameM E Q L;refine⟨v,O,n,mf.or j,g1,g2,j,rfl,T,fun g=>?_⟩;cases hx:mf g with
  |none=>exact .inl rfl
  |some o =>
   right;have J:=A3 (t.pm g o (PH.or_l hx));exact L.ms g J ((E g).resolve_left (by rw[hx];simp))
 obtain⟨j,rfl,Y,X⟩:=W;exact k v n j V Y X
def G.giveP {ma sm:PH}(h:Fv (ctl P 100 st).1=true)(H:m=ma.or sm)(W:Lp ma sm)(h0:∀ g,Post.m0 g=none\/sm g≠none)(k:∀ V,PH.le u V->PH.le ma V->G P fn Post (ctl P 100 st) V sm):G P fn Post st u m:=by
 subst H;refine⟨Li 100 st ?_⟩;rw[Sym.ofNo h];intro c ρ a w J E;have N:∀ g o,ma g=some o->u g=none:=fun g o n=>(E.gd.ap g).resolve_right (by rw[PH.or_l n];simp);have K:∀ g o,sm g=some o->ma g=none:=fun g o n=>(W g).resolve_right (by rw[n];simp);have I:∀ g o,ma g=some o->c.w0.heap.size<=g:=by
  intro g o n;rcases Az8 g c.w0.heap.size with R|O
  ·have T:c.m0 g=none:=by
    rw[J];rcases h0 g with e|e
    ·exact e
    cases hs:sm g with
    |none=>exact absurd hs e
    |some o'=>have:=K g o' hs;rw[this]at n;cases n
   have:=E.gr.ms g R T;rw[PH.or_l n]at this;cases this
  exact O
 have Q:PH.le u (ma.or u):=fun g o n=>by
  cases t:ma g with
  |none=>rw[PH.or_r t];exact n
  |some o'=>have:=N g o' t;rw[this]at n;cases n
 have X:=(k (ma.or u) Q (fun g o n=>PH.or_l n)).out;rw[Sym.ofNo h]at X;refine X c ρ a w J ⟨E.sz,E.tm,E.df.of fun r e _ hu H=>(by
  have F:ma r=none:=(by
   cases t:ma r with
   |none=>rfl
   |some o=>rw[PH.or_l t]at H;cases H)
  rw[PH.or_r F]at H;exact⟨e,by rw[PH.or_r F];exact hu,H⟩),fun U b hb=>?_,E.inj,E.lv,⟨fun C o n=>?_,fun C o n=>?_,fun C=>?_,fun C cs t' fr j z n hj=>?_⟩,⟨E.gr.sz,E.gr.old,fun C n=>?_,fun C n H=>?_,E.gr.io,E.gr.dr⟩⟩
 ·obtain⟨Y,Z,e3,L⟩:=E.box U b hb;have F:ma (ρ U)=none:=by
   cases t:ma (ρ U) with
   |none=>rfl
   |some o=>rw[PH.or_l t]at L;cases L
  rw[PH.or_r F]at L;exact⟨Y,Z,by rw[PH.or_r F];exact e3,L⟩
 ·cases t:ma C with
  |some o'=>rw[PH.or_l t]at n;cases n;exact E.gd.pm C _ (PH.or_l t)
  |none=>rw[PH.or_r t]at n;exact E.gd.pu C o n
 ·exact E.gd.pm C o (by rw[PH.or_r (K C o n)];exact n)
 ·cases t:ma C with
  |some o'=>right;exact (W C).resolve_left (by rw[t];simp)
  |none =>
   rw[PH.or_r t];have:=E.gd.ap C;rw[PH.or_r t]at this;exact this
 ·cases t:ma C with
  |some o' =>
   rw[PH.or_l t,<-n];exact (E.gd.pm C _ (PH.or_l t)).symm
  |none=>rw[PH.or_r t];exact E.gd.cl C cs t' fr j z n hj
 ·have t:ma C=none:=by
   cases t:ma C with
   |none=>rfl
   |some o=>have:=I C o t;omega
  rw[PH.or_r t];exact E.gr.us C n
 have:=E.gr.ms C n H;cases t:ma C with
 |some o=>have:=I C o t;omega
 |none=>rw[PH.or_r t]at this;exact this
end rules
structure Src where
 g:Nat
 a:Option Addr
 n:Nat
 c:Nat
def Src.ptr (s:Src):Value:=.pointer (some ⟨s.g,0,none⟩)
def Src.el (s:Src)(k:Nat):Value:=.agg #[.slice s.a s.n s.c,.int .i64 k]
def Src.M (s:Src)(k:Nat):PH:=PH.mt.upd s.g (.cells #[.slice s.a s.n s.c,.int .i64 k] 99 (0,0))
def Src.arr (s:Src)(k:Nat):Arr:=⟨.slice (some ⟨s.g,0,none⟩) 1 1,99,2,[s.el k]⟩
def Src.el_ok (s:Src)(k:Nat):Ba 2 [s.el k]:=by
 intro x e;simp at e;subst e;exact⟨rfl,fun y g=>by simp[Src.el,Value.cells]at g;rcases g with rfl|rfl<;>rfl⟩
def Src.at {s:Src}(h:m0 s.g=none):(s.arr k).At m0 (m0.or (s.M k)):=by
 refine⟨s.el_ok k,.inr ⟨s.g,1,[],h,?_,rfl,Ay2 _,rfl,mV⟩⟩;unfold Src.M;rw[Ag0 _ _ _ h,Ajl];rfl
def Src.split {s:Src}{m0 m:PH}(h:(s.arr k).At m0 m):m=m0.or (s.M k)/\m0 s.g=none:=by
 obtain⟨_,h⟩:=h;rcases h with ⟨h,_,_⟩|⟨g,cap,rest,e,rfl,j,C,n,E⟩
 ·simp[Src.arr]at h
 simp only[Src.arr,Value.slice.injEq,Ayz,Addr.mk.injEq,and_true]at j;obtain⟨rfl,_,rfl⟩:=j;have t:rest = []:=by
  simp[Src.arr,A6,Src.el,Value.cells]at n;exact n
 subst t;refine⟨?_,e⟩;unfold Src.M;rw[Ag0 _ _ _ e,Ajl];rfl
def Src.apart {s:Src}(h:m0 s.g=none):Lp m0 (s.M k):=fun g=>by
 by_cases e:g=s.g
 ·subst e;exact .inl h
 right;unfold Src.M;rw[Ad _ _ e];rfl
structure Ig (u:PH)(s:Src)(ts:List Int):Prop where
 list:Ac u (.slice s.a s.n s.c) 1 (Dj ts)
 n:s.n=ts.length
 le:ts.length<=600
 lo:∀ t∈ts,-9223372036854775808<=t
 hi:∀ t∈ts,t<=9223372036854775807
def Ig.mono {u u':PH}{s:Src}{ts:List Int}(h:Ig u s ts)(hl:PH.le u u'):Ig u' s ts:=⟨h.list.mono hl,h.n,h.le,h.lo,h.hi⟩
def Src.cell0 (s:Src)(k:Nat):ElP (s.M k) s.g (0+0) (.slice s.a s.n s.c):=fun i y e=>by
 match i,e with
 |0,e=>simp[Value.cells]at e;subst e;exact⟨_,_,_,Ab _ _ _,rfl⟩
def Src.cell1 (s:Src)(k:Nat):ElP (s.M k) s.g (0+1) (.int .i64 k):=fun i y e=>by
 match i,e with
 |0,e=>simp[Value.cells]at e;subst e;exact⟨_,_,_,Ab _ _ _,rfl⟩
end
section
variable [Cc] [Cm]
variable {P:Program} [A5 P] {fn:Func} {Post:By} {st:List KI×S} {u m:PH}
def G.A {f:Nat}{args:List Value}{R:Value->PH->PH->Prop}(hc:∀ args w,(callFunc f args).run P w=.ok (.enter f args) w)(c:Ag P f args u m R)(k:∀ v u' mc',PH.le u u'->R v u' mc'->Lp PH.mt mc'->G P fn Post (nx (adv P st) v) u' (PH.mt.or mc'))(h:Aj P (adv P st)=.call f args:=by kernel_rfl)(hdr:T6 (adv P st)=true:=by kernel_rfl):G P fn Post st u m:=G.callA f args h hdr hc (Bw _).symm (Jv _) c k
def G.D {f:Nat}{args:List Value}{mf mc:PH}{R:Value->PH->PH->Prop}(hc:∀ args w,(callFunc f args).run P w=.ok (.enter f args) w)(hd:Lp mf mc)(c:Ag P f args u mc R)(k:∀ v u' mc',PH.le u u'->R v u' mc'->Lp mf mc'->G P fn Post (nx (adv P st) v) u' (mf.or mc'))(h:Aj P (adv P st)=.call f args:=by kernel_rfl)(hdr:T6 (adv P st)=true:=by kernel_rfl):G P fn Post st u (mf.or mc):=G.callA f args h hdr hc rfl hd c k
end
section
variable {k n:Nat}{q:Rat}{s:Src}{ts:List Int}{u:PH}
def Ayc {x:Int}(t:-9223372036854775808<=x)(C:x<=9223372036854775807)(e:0<n)(g:n<=1000000) :
 Fn0 prog 104 [.int .i64 x,.int .i64 n] u fun v _=>∃ r:Nat,v=.int .i64 r/\r<n:=by
 refine Fn0.o func104<|G.lF n 1 ?_;have j:=A80 x (show (0:Int)<n by omega);have m:=A81 x (show (0:Int)<n by omega);refine G.remZ x (n:Int) (x.tmod n) kV oV oV rfl<|G.add (x.tmod n) (n:Int) (x.tmod n+n) kV rfl oV oV ?_;obtain⟨y,h⟩:∃ y:Nat,x.tmod n+n=(y:Int):=⟨(x.tmod n+n).toNat,oV⟩;exact G.remZ (x.tmod n+n) (n:Int) ((y%n:Nat):Int) kV oV oV (by rw[h,A2o oV];rfl)<|G.r _ ⟨rfl,y%n,rfl,A0z _ e⟩
def Axo (s:Src)(n:Nat)(v:Value)(m':PH):Prop:=∃ r k:Nat,v=.int .i64 r/\r<n/\k<=s.n/\m'=s.M k
def Jd (h:Ig u s ts)(H:k<=s.n)(I:0<n)(C:n<=1000000) :
 Ag prog 48 [s.ptr,.int .i64 n] u (s.M k) fun v _ O=>Axo s n v O:=by
 have E:=h.n;have L:=h.le;refine Ag.o func48<|G.f 99 s.g 0 1 1<|G.lM none s.g (0+1) (.int .i64 k) (s.cell1 k)<|G.f 99 s.g 0 0 0<|G.lM none s.g (0+0) (.slice s.a s.n s.c) (s.cell0 k) ?_;by_cases t:k<s.n
 ·refine G.hF k s.n<|G.f 99 s.g 0 1 1<|G.lM none s.g (0+1) (.int .i64 k) (s.cell1 k)<|G.i k<|G.f 99 s.g 0 1 1<|G.storeM 1 s.g (0+1) 99 [.slice s.a s.n s.c,.int .i64 k] (.int .i64 (k+1:Nat)) kV (Ab _ _ _) (fun x J=>by simp at J;rcases J with rfl|rfl<;>rfl) mV rfl rfl ?_
  have e:(s.M k).upd s.g (.cells (([Value.slice s.a s.n s.c,.int .i64 k].take (0+1))++(Value.int .i64 (k+1:Nat)).cells.toList++([Value.slice s.a s.n s.c,.int .i64 k].drop (0+1+1))).toArray 99 (0,0))=s.M (k+1):=by
   unfold Src.M;rw[Cw];rfl
  rw[e];refine G.f 99 s.g 0 0 0<|G.lM none s.g (0+0) (.slice s.a s.n s.c) (s.cell0 (k+1))<|G.f 99 s.g 0 1 1<|G.lM none s.g (0+1) (.int .i64 (k+1:Nat)) (s.cell1 (k+1))<|G.s (k+1:Nat) 1 k ?_;have m:k<ts.length:=oV;obtain⟨b,off,F,K⟩:=Ac.at' h.list (j:=k) (e:=.int .i64 ts[k]) (by simp[Dj,Ayr m]);obtain⟨g,a,P,c⟩:=s;simp only at F t H E;subst F;refine G.a b off P c k 1 t<|G.lU none b (off+k*1) (.int .i64 ts[k]) K<|G.c call104 (Ayc (h.lo _ (Ay8 m)) (h.hi _ (Ay8 m)) I C) ?_;rintro T R Q ⟨r,rfl,N⟩;exact G.r _ ⟨r,k+1,rfl,N,dV,rfl⟩
 exact G.hT k s.n<|G.r (.int .i64 0) ⟨0,k,rfl,I,H,rfl⟩
def Aaa {lo hi:Int}(h:Ig u s ts)(C:k<=s.n)(E:-1000000<=lo)(t:lo<=1000000)(F:hi-lo+1=(n:Int))(j:0<n)(m:n<=1000000) :
 Ag prog 103 [s.ptr,.int .i64 lo,.int .i64 hi] u (s.M k) fun v _ I=>∃ (r:Nat) (e:Nat),v=.int .i64 (lo+(r:Int))/\r<n/\e<=s.n/\I=s.M e:=by
 refine Ag.o func103<|G.sub hi lo (hi-lo) kV rfl oV oV<|G.add (hi-lo) 1 (n:Int) kV F oV oV<|G.A call48 (Jd h C j m) ?_;rintro N L K J ⟨r,e,rfl,H,g,rfl⟩ _;rw[Bw];exact G.add lo (r:Int) (lo+(r:Int)) kV rfl oV oV<|G.r _ ⟨r,e,rfl,H,g,rfl⟩
def W1 {v:Value}{L:List Int}(h:Ig u s ts)(H:k<=s.n)(m:Ac u v 1 (Dj L))(C:0<L.length)(E:L.length<=1000000) :
 Ag prog 99 [s.ptr,v] u (s.M k) fun v _ J=>∃ z∈L,∃ g:Nat,v=.int .i64 z/\g<=s.n/\J=s.M g:=by
 obtain⟨a,c,rfl⟩:=m.opn;rw[B4]at m⊢;refine Ag.o func99<|G.A call48 (Jd h H C E) ?_;rintro O N K I ⟨r,g,rfl,F,t,rfl⟩ _;rw[Bw];obtain⟨b,off,rfl,e⟩:=Ac.at' (m.mono I) (j:=r) (e:=.int .i64 L[r]) (by simp[Dj,Ayr F]);exact G.a b off L.length c r 1 F<|G.lU none b (off+r*1) (.int .i64 L[r]) e<|G.r _ ⟨L[r],Ay8 F,g,rfl,t,rfl⟩
structure SmR (q:Rat):Prop where
 num:q.num.natAbs<=9
 den:q.den ∣ 12
def SmR.le (h:SmR q):q.den<=12:=A3f oV h.den
def SmR.tx (h:SmR q):Tx q:=⟨Ayv (D9 (k:=2) oV (by have:=h.num;omega)) oV,Ayv (D9 (k:=2) oV (by have:=h.le;omega)) oV⟩
def SmR.sz (h:SmR q):Sz q 1:=⟨Bc (by have:=h.num;omega),Bc (by have:=h.le;omega)⟩
structure SmW (q:Rat):Prop where
 num:q.num.natAbs<=1545
 den:q.den ∣ 12
def SmR.w (h:SmR q):SmW q:=⟨Ayv h.num oV,h.den⟩
def SmW.le (h:SmW q):q.den<=12:=A3f oV h.den
def SmW.tx (h:SmW q):Tx q:=⟨Ayv (D9 (k:=4) oV (by have:=h.num;omega)) oV,Ayv (D9 (k:=2) oV (by have:=h.le;omega)) oV⟩
def SmW.sz (h:SmW q):Sz q 1:=⟨Bc (by have:=h.num;omega),Bc (by have:=h.le;omega)⟩
end
section
section rules
variable [Cc] {P:Program} [A5 P] {fn:Func} {Post:By} {st:List KI×S} {u m:PH}
def G.appendM (e:TypeId)(sz T:Nat)(z:Value)(m0:PH)(es xs:List Value)(v:Value)(b off n c:Nat)(h:Aj P (adv P st)=.app (some (e,sz,T,z)) true [v,.slice (some ⟨b,off,none⟩) n c])(hz:z.cells.toList.all Az=true)(Q:z.cells.size=sz)(H:0<sz)
 (ha:Af m0 m v e sz es) (hx:Fz m b off sz xs) (U:Ba sz xs) (hn:xs.length=n) (N:0<n) (hb:(es.length+n)*T<=140737488355328) (I:es.length+n<=9223372036854775807)
 (k:∀ j g,Af m0 g j e sz (es++xs)->G P fn Post (nx (adv P st) j) u g):G P fn Post st u m:=by
 refine G.big (K:=fun j V g=>V=u/\Af m0 g j e sz (es++xs)) h mV (fun E R O=>(Ek (P:=P) (o:=⟨none,R,0, "",#[],none⟩) O).2.1) (.inr fun E R O=>(Ek (P:=P) (o:=⟨none,R,0, "",#[],none⟩) O).1) (fun E o C w F=>?_) (fun j V g _ L=>?_)
 ·obtain⟨_,_,t,hi,J⟩:=Ek (P:=P) C;obtain⟨j,w',g,W,X,Y,Z⟩:=Ri (P:=P) m0 es xs v b off n c o.type hi hz Q H ha U hn N hb I F (hx.cells H U F.pm);refine B0 (w':=w') (v:=j) ?_ ⟨u,g,X,Y,rfl,Z⟩;rw[J w,W];rfl
 obtain⟨rfl,L⟩:=L;exact k j g L
end rules
def Src.h0 (s:Src)(k k':Nat)(g:Nat):s.M k g=none\/s.M k' g≠none:=by
 by_cases e:g=s.g
 ·subst e;right;unfold Src.M;rw[Ab];simp
 left;unfold Src.M;rw[Ad _ _ e];rfl
def Abz {u:PH}{v:Value}{ts:List Int}(h:Ac u v 1 (Dj ts))(F:ts.length<=600)(C:∀ t∈ts,-9223372036854775808<=t)(E:∀ t∈ts,t<=9223372036854775807) :
 Ag prog 9 [v] u PH.mt fun J I H=>∃ s:Src,J=s.ptr/\H=s.M 0/\Ig I s ts:=by
 have e:∃ a c,v=.slice a ts.length c/\ts.length<=c:=by
  obtain⟨a,c,j,n,_⟩:=h;rw[B4]at j n;exact⟨a,c,j,n⟩
 obtain⟨a,c,rfl,e⟩:=e;refine Ag.o func9<|G.minI [3,3] (ts.length:Int) 600 (ts.length:Int) kV oV<|G.sliceTo 1 a ts.length c ts.length kV e<|G.pub 1006 99 [.slice a ts.length c,.int .i64 0] kV kV ?_;intro g L K;exact G.r (.pointer (some ⟨g,0,none⟩)) ⟨⟨g,a,ts.length,c⟩,rfl,rfl,h,rfl,F,C,E⟩
def Src.bag0 (s:Src)(k:Nat){l:List Arr}(h:Bag PH.mt l):Bag (s.M k) (s.arr k::l):=by
 have:=Src.at (s:=s) (k:=k) (m0:=PH.mt) rfl;rw[Bw]at this;exact⟨PH.mt,this,h⟩
def Aqh {o l:Arr}{e:List Arr}:(l::o::e).Perm (o::(e++[l])):=by
 refine (List.Perm.swap _ _ _).trans (List.Perm.cons _ ?_);exact (List.perm_append_singleton l e).symm
def Bc6 {M:List (List Rat)}{q:List Rat}(i:Nat):gM (M++[q]) i=if i<M.length then gM M i else if i=M.length then q else []:=by
 unfold gM;rw[Ays];by_cases e:i<M.length
 ·rw[if_pos e,Azi e,Ays]
 rw[if_neg e,Azy oV];by_cases g:i=M.length
 ·rw[if_pos g,g,A20];rfl
 rw[if_neg g,Azo gV];rfl
end
section
variable {l o s:Arr}{rows:List Arr}
def Apk (z:Int):Ae (z:Rat)=Lib.itoa z:=by
 have e:((z:Int):Rat).den=1:=mV
 have g:((z:Int):Rat).num=z:=mV
 rw[Ae,if_pos e,g]
def Alz :(s::l::o::rows).Perm (s::o::(rows++[l])):=List.Perm.cons _ Aqh
def Alh :(l::s::o::rows).Perm (s::o::(rows++[l])):=(List.Perm.swap _ _ _).trans Alz
def Aei {rows:List (Value×List Value)}{i:Nat}{r r':Value×List Value}(h:rows[i]?=some r)(e:r'.1=r.1):(rows.set i r').map (·.1)=rows.map (·.1):=by
 rw[A1d];apply A2f;intro j;rw[A1g];split
 ·rename_i e';subst e';have m:i<rows.length:=by
   rcases Az8 i rows.length with g|g
   ·exact g
   rw[Azo g]at h;cases h
  rw[if_pos (by simpa using m),Ayy,h,e];rfl
 rfl
end
def Adf:Ae 2 = [50]:=by
 have:Ae ((2:Int):Rat)=Lib.itoa 2:=Apk 2;rw[show ((2:Int):Rat)=2 from by decide]at this;rw[this,Du oV];exact Lib.decDigits_one oV
def Avy {n:Nat}(f:Nat->Rat){j:Nat}(e:j<n):gR ((List.range n).map f) j=f j:=by
 unfold gR;rw[Ays,Ayy,A4g e];rfl
def Rec (n w:Nat)(X:List (List Rat)):Prop:=X.length=n/\∀ i,i<n->(gM X i).length=w
def en (X:List (List Rat))(i j:Nat):Rat:=gR (gM X i) j
def Aq8 {n w i:Nat}{X:List (List Rat)}{r:List Rat}(h:Rec n w X)(hi:i<n)(g:r.length=w):Rec n w (X.set i r):=by
 refine⟨by simp[h.1],fun j e=>?_⟩;rw[Ao9 (by rw[h.1];exact hi)];split
 ·exact g
 exact h.2 j e
end Go.Proofs.YtijchbjkdllolaaGreatDoor
