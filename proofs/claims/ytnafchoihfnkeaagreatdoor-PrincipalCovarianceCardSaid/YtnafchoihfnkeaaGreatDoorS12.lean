/- Parts of one proof, joined by a program. -/
import Derived.Test.YtnafchoihfnkeaaGreatDoorS11
set_option linter.defProp false
set_option linter.unusedVariables false
set_option linter.unusedSimpArgs false
set_option linter.unusedSectionVars false
set_option maxHeartbeats 16000000
namespace Go.Proofs.YtnafchoihfnkeaaGreatDoor
open Go.Proofs.Tryz
open Go.RowKit Go.MapKept
section
variable {C:CF}{N:Nat}{P:List Par}
theorem Agd (g:Lb N C)(I:0<C.c):∃ L:Nat,0<L/\L<=N*N/\∀ p q,∃ z:Int,Er C p q*(L:Rat)=z/\z.natAbs<=2*(N*N):=by
 obtain⟨d,U,h⟩:=g.c none none;have m:C.c*((12^2:Nat):Rat)=(d:Rat):=U;have X:0<d:=by
  have j:(0:Rat)<C.c*((12^2:Nat):Rat):=Azv I jV;rw[m]at j;exact Rat.intCast_pos.1 j
 have Y:(d:Rat)≠0:=fun e=>by
  have:=Rat.intCast_inj.1 (show (d:Rat)=((0:Int):Rat) by rw[e];rfl);omega
 have hD:((12^2:Nat):Rat)≠0:=jV;refine⟨d.natAbs*d.natAbs,Axa oV oV,Aut h h,fun p q=>?_⟩;obtain⟨O,j,u⟩:=g.c (some p) (some q);obtain⟨J,R,E⟩:=g.c none (some p);obtain⟨K,T,H⟩:=g.c none (some q);have n:C.t (A5 p q)*((12^2:Nat):Rat)=(O:Rat):=j;have v:C.s p*((12^2:Nat):Rat)=(J:Rat):=R;have F:C.s q*((12^2:Nat):Rat)=(K:Rat):=T;clear j R T U g;generalize ((12^2:Nat):Rat)=D at *
 have V:((d.natAbs*d.natAbs:Nat):Rat)=(d:Rat)*(d:Rat):=by
  have e:((d.natAbs:Nat):Int)=d:=oV;have Q:((d.natAbs:Nat):Rat)=(d:Rat):=by
   have:=congrArg (fun z:Int=>(z:Rat)) e;simpa only[Au6] using this
  rw[Awt,Q]
 refine⟨O*d-J*K,?_,?_⟩
 ·rw[V,Rat.intCast_sub,Av9,Av9,<-n,<-v,<-F,<-m];have W:C.c≠0:=fun e=>by rw[e]at I;exact absurd I fV
  unfold Er;generalize C.t (A5 p q)=t;generalize C.s p=a;generalize C.s q=b;generalize C.c=c at *
  grind
 have Z:(O*d).natAbs<=N*N:=by rw[Au7];exact Aut u h
 have Q:(J*K).natAbs<=N*N:=by rw[Au7];exact Aut E H
 omega
def Ah1 (d:Lb N C)(e:N<=33000000000)(n:0<C.c):∃ L,So (Cs C P) L 22:=by
 obtain⟨L,h0,E,h⟩:=Agd d n;have m:N*N<=33000000000*33000000000:=Aut e e;refine⟨L,Aku h0 oV oV (As9 (A0 (k:=3) oV) oV) fun r g q t=>?_⟩;unfold Cs at g;obtain⟨p,_,rfl⟩:=Ate.1 g;obtain⟨u,_,rfl⟩:=Ate.1 t;obtain⟨z,j,v⟩:=h p u;exact⟨z,j,oV⟩
def Amx (d:Lb N C)(e:N<=33000000000)(n:0<C.c)(p q:Par):De 22 22 (Er C p q)/\Tx (Er C p q):=by
 obtain⟨L,h0,u,h⟩:=Agd d n;have m:N*N<=33000000000*33000000000:=Aut e e;obtain⟨z,j,t⟩:=h p q;have g:De 22 22 (Er C p q):=⟨z,L,j,h0,oV,oV⟩;exact⟨g,g.tx oV oV oV oV⟩
theorem Aon {n:Nat}{A:Nat->Nat->Rat}(h:Pd n A){i:Nat}(hi:i<n):0<=A i i:=by
 have e:=h (idq i);have j:∀ t,Ak n (fun k=>A t k*idq i k)=A t i:=fun t=>by
  rw[D8 hi fun k _ d=>by unfold idq;rw[if_neg d];grind,show idq i i=1 from if_pos rfl];grind
 unfold rfm at e;rw[Af (g:=fun t=>idq i t*A t i) fun t _=>by rw[j],D8 hi fun t _ d=>by unfold idq;rw[if_neg d];grind,show idq i i=1 from if_pos rfl]at e;grind
def Aop (d:P.Nodup)(g:0<C.c)(hp:∀ z,0<=Is z P C){p:Par}(h:p∈P):0<=Er C p p:=by
 obtain⟨i,hi,rfl⟩:=Ayx.1 h;have e:=Aon (Afo d g hp) hi;rw[Nv hi hi]at e;rwa[show P.getD i Cd=P[i] by rw[As7,As5 hi];rfl]at e
end
section
variable {B B' d:Nat}{f g:Rat->Rat}
def Gp:Nat->(Nat->Nat)->Nat
 |0,_=>0
 |n+1,f=>Gp n f+f n
def Pn {f g:Nat->Nat}:∀ {n:Nat},(∀ j,j<n->f j<=g j)->Gp n f<=Gp n g
 |0,_=>Atb _
 |n+1,h=>Nat.add_le_add (Pn fun j e=>h j oV) (h n oV)
def Aa8 (f g:Nat->Nat):∀ n:Nat,Gp n (fun j=>f j+g j)=Gp n f+Gp n g
 |0=>rfl
 |n+1=>by rw[Gp,Aa8 f g n,Gp,Gp];omega
def Abo (k:Nat)(f:Nat->Nat):∀ n:Nat,Gp n (fun j=>k*f j)=k*Gp n f
 |0=>rfl
 |n+1=>by rw[Gp,Abo k f n,Gp,Aui]
def Afy {f:Nat->Nat}:∀ {n j:Nat},j<n->f j<=Gp n f
 |0,j,h=>oV
 |n+1,j,h=>by
  rw[Gp];by_cases e:j=n
  ·subst e;omega
  have:=Afy (f:=f) (n:=n) (j:=j) oV;omega
def Ui (f:Nat->Nat):∀ n:Nat,Gp (n+1) (fun j=>if j=0 then 0 else f (j-1))=Gp n f
 |0=>rfl
 |n+1=>by rw[Gp,Ui f n,Gp,if_neg oV,Avv]
def Wk:∀ n:Nat,Gp n (fun _=>0)=0
 |0=>rfl
 |n+1=>by rw[Gp,Wk n]
def ZP (d B:Nat)(f:Rat->Rat):Prop:=∃ c:Nat->Int,(∀ x,f x=evP d (fun j=>(c j:Rat)) x)/\Gp d (fun j=>(c j).natAbs)<=B
def ZP.congr (h:ZP d B f)(e:∀ x,g x=f x):ZP d B g:=by
 obtain⟨c,j,m⟩:=h;exact⟨c,fun x=>by rw[e,j],m⟩
def ZP.mono (h:ZP d B f)(m:B<=B'):ZP d B' f:=by
 obtain⟨c,e,j⟩:=h;exact⟨c,e,As9 j m⟩
theorem ZP.add (h:ZP d B f)(m:ZP d B' g):ZP d (B+B') fun x=>f x+g x:=by
 obtain⟨c,n,u⟩:=h;obtain⟨c',e,t⟩:=m;refine⟨fun j=>c j+c' j,fun x=>?_,?_⟩
 ·show f x+g x=_;rw[n,e];unfold evP;rw[<-B2];exact Af fun j _=>by dsimp only;rw[Az9];grind
 exact As9 (Pn (g:=fun j=>(c j).natAbs+(c' j).natAbs) fun j _=>Int.natAbs_add_le _ _) (by rw[Aa8];omega)
theorem ZP.smul (a:Int)(h:ZP d B f):ZP d (a.natAbs*B) fun x=>(a:Rat)*f x:=by
 obtain⟨c,e,m⟩:=h;refine⟨fun j=>a*c j,fun x=>?_,?_⟩
 ·show (a:Rat)*f x=_;rw[e];unfold evP;rw[<-Bk];exact Af fun j _=>by dsimp only;rw[Av9];grind
 refine As9 (Pn (g:=fun j=>a.natAbs*(c j).natAbs) fun j _=>Nat.le_of_eq (Au7 _ _)) ?_;rw[Abo];exact Aul _ m
theorem ZP.up (h:ZP d B f):ZP (d+1) B f:=by
 obtain⟨c,m,t⟩:=h;refine⟨fun j=>if j=d then 0 else c j,fun x=>?_,?_⟩
 ·rw[m];have e:Ak d (fun j=>((if j=d then (0:Int) else c j:Int):Rat)*pwR x j)=Ak d (fun j=>(c j:Rat)*pwR x j):=Af fun j n=>by rw[if_neg oV]
  show _=Ak d (fun j=>((if j=d then (0:Int) else c j:Int):Rat)*pwR x j)+((if d=d then (0:Int) else c d:Int):Rat)*pwR x d;rw[e,if_pos rfl,show ((0:Int):Rat)=0 from rfl];unfold evP;grind
 have e:Gp d (fun j=>(if j=d then (0:Int) else c j).natAbs)<=Gp d (fun j=>(c j).natAbs):=Pn fun j n=>by rw[if_neg oV];exact Atb _
 show Gp d (fun j=>(if j=d then (0:Int) else c j).natAbs)+(if d=d then (0:Int) else c d).natAbs<=B;rw[if_pos rfl];omega
def ZP.mulx (h:ZP d B f):ZP (d+1) B fun x=>x*f x:=by
 obtain⟨c,m,n⟩:=h;refine⟨fun j=>if j=0 then 0 else c (j-1),fun x=>?_,?_⟩
 ·show x*f x=_;rw[m];unfold evP;rw[<-Ms];exact Af fun j _=>by
   dsimp only;by_cases e:j=0
   ·rw[if_pos e,if_pos e];rfl
   rw[if_neg e,if_neg e]
 have t:=Ui (fun j=>(c j).natAbs) d;refine As9 (Pn (g:=fun j=>if j=0 then 0 else (c (j-1)).natAbs) fun j _=>?_) (by rw[t];exact n);dsimp only;by_cases e:j=0
 ·rw[if_pos e,if_pos e];exact Atb _
 rw[if_neg e,if_neg e];exact Atb _
theorem ZP.mulLin {d B m:Nat}(h:ZP d B f)(a b:Int)(e:a.natAbs+b.natAbs<=m):ZP (d+1) (m*B) fun x=>((a:Rat)+(b:Rat)*x)*f x :=
 (((h.up.smul a).add (h.mulx.smul b)).congr fun x=>by grind).mono (by rw[<-At2];exact Ats _ e)
theorem ZP.sum {d B:Nat}{f:Nat->Rat->Rat}:∀ n:Nat,(∀ k,k<n->ZP d B (f k))->ZP d (n*B) fun x=>Ak n fun k=>f k x
 |0,_=>⟨fun _=>0,fun x=>by unfold evP;exact (B5 fun j _=>by dsimp only;rw[show ((0:Int):Rat)=0 from rfl];grind).symm,by show Gp d (fun _=>0)<=_;rw[Wk];omega⟩
 |n+1,h=>((ZP.sum n fun k e=>h k oV).add (h n oV)).mono (by rw[Nat.succ_mul];omega)
def fcN:Nat->Nat
 |0=>1
 |n+1=>(n+1)*fcN n
def Aij:Nat->Int
 |0=>1
 |n+1=>-Aij n
def Af3:∀ n,qsg n=(Aij n:Rat)/\(Aij n).natAbs=1
 |0=>⟨rfl,rfl⟩
 |n+1=>by
  obtain⟨e,h⟩:=Af3 n;exact⟨by rw[qsg,e,Aij,Ayf],by rw[Aij,Avp,h]⟩
theorem ZP.det {m:Nat}:∀ (r:Nat) {C:Rat->Nat->Nat->Rat},(∀ t i,∃ a b:Int,a.natAbs+b.natAbs<=m/\∀ x,C x t i=(a:Rat)+(b:Rat)*x)->ZP (r+1) (fcN r*m^r) fun x=>qdt r (C x)
 |0,C,_=>⟨fun _=>1,fun x=>by unfold evP;simp only[Ak,pwR];show (1:Rat)=0+((1:Int):Rat)*1;rw[show ((1:Int):Rat)=1 from rfl];grind,by simp[Gp,fcN]⟩
 |r+1,C,h=>by
  have v:∀ j,j<r+1->ZP (r+1+1) (m*(fcN r*m^r)) fun x=>qsg (r+j)*C x j r*qdt r (B7 j (C x)):=fun j _=>by
   obtain⟨a,b,n,e⟩:=h j r;have u:=ZP.det r (C:=fun x=>B7 j (C x)) fun t i=>by
    unfold B7;split
    ·exact h t i
    exact h (t+1) i
   obtain⟨z,E⟩:=Af3 (r+j);exact (((u.mulLin a b n).smul (Aij (r+j))).congr fun x=>by rw[e,z];grind).mono (by rw[E,Avm];exact Atb _)
  refine (ZP.sum (r+1) v).mono (Nat.le_of_eq ?_);rw[fcN,Auc,Atz,At7 (m^r) m,Nat.mul_left_comm (fcN r) m]
theorem Afe (k:Rat):∀ (r:Nat) (C:Nat->Nat->Rat),qdt r (fun t i=>k*C t i)=pwR k r*qdt r C
 |0,_=>by show (1:Rat)=1*1;grind
 |r+1,C=>by
  rw[qdt,qdt,<-Bk];refine Af fun j _=>?_;have e:B7 j (fun t i=>k*C t i)=fun t i=>k*B7 j C t i:=by
   funext t i
   unfold B7;split<;>rfl
  rw[e,Afe k r (B7 j C),pwR];grind
theorem Ap8 {n M:Nat}{A:Nat->Nat->Rat}{c:Nat->Rat}{L:Nat}(N:0<L)(I:∀ i k,∃ z:Int,A i k*(L:Rat)=z/\z.natAbs<=M)(J:∀ x,Ez n noS A x=evP (n+1) c x){j:Nat}(v:j<n+1) :
 ∃ z:Int,c j*pwR (L:Rat) n=(z:Rat)*pwR (L:Rat) j/\z.natAbs<=fcN n*(M+1)^n:=by
 have K:ZP (n+1) (fcN n*(M+1)^n) fun y=>qdt n (fun t i=>y*idq t i+A i t*(L:Rat)):=ZP.det n fun t i=>by
  obtain⟨z,m,u⟩:=I i t;by_cases e:i=t
  ·exact⟨z,1,gV,fun x=>by rw[m,show idq t i=1 from if_pos e,show ((1:Int):Rat)=1 from rfl];grind⟩
  exact⟨z,0,gV,fun x=>by rw[m,show idq t i=0 from if_neg e,show ((0:Int):Rat)=0 from rfl];grind⟩
 obtain⟨z,m,u⟩:=K;refine⟨z j,?_,As9 (Afy (f:=fun j=>(z j).natAbs) v) u⟩;have F:=Agk (d:=n+1) (c:=fun j=>c j*pwR (L:Rat) n) (c':=fun j=>(z j:Rat)*pwR (L:Rat) j) (fun x=>?_) v
 ·exact F
 have H:=m ((L:Rat)*x);have C:qdt n (fun t i=>(L:Rat)*x*idq t i+A i t*(L:Rat))=pwR (L:Rat) n*Ez n noS A x:=by
  unfold Ez;rw[<-Afe]
  congr 1
  funext t i
  unfold dgS noS;rw[if_neg mV];grind
 have h:qdt n (fun t i=>(L:Rat)*x*idq t i+A i t*(L:Rat))=evP (n+1) (fun j=>(z j:Rat)) ((L:Rat)*x):=H;rw[C,J]at h;have E:evP (n+1) (fun j=>c j*pwR (L:Rat) n) x=pwR (L:Rat) n*evP (n+1) c x:=by
  unfold evP;rw[<-Bk];exact Af fun j _=>by grind
 rw[E,h];unfold evP;exact Af fun j _=>by rw[Rw];grind
end
section
variable {C:CF}{N:Nat}{P:List Par}
def Xw (L:Nat):∀ m,pwR (L:Rat) m=((L^m:Nat):Rat)
 |0=>by simp[pwR]
 |m+1=>by rw[pwR,Xw L m,Auc,Awt]
theorem Agc (x:Rat)(m:Nat):∀ k,pwR x (m+k)=pwR x m*pwR x k
 |0=>by simp only[pwR,Avb];grind
 |k+1=>by
  show pwR x (m+k)*x=_;rw[Agc x m k,pwR];grind
def Aqq:∀ n,n<=6->fcN n<=720:=fV
theorem Aj2 (v:Lb N C)(O:N<=33000000000)(Y:0<C.c)(J:P.length<=6):∀ q∈Ao (Cs C P),De 138 133 q:=by
 obtain⟨L,h0,W,h⟩:=Agd v Y;have u:N*N<=33000000000*33000000000:=Aut O O;obtain⟨c,b,K⟩:=Agl P.length (fun i k=>-(en (Cs C P) i k));have E:=Ab9 (R3 (C:=C) (P:=P)) K;intro q R;rw[E]at R;obtain⟨j,Z,rfl⟩:=Ate.1 R;have F:=Axf.1 Z;obtain⟨z,T,U⟩:=Ap8 (M:=2*(N*N)) h0 (fun i k=>by
  by_cases g:i<P.length/\k<P.length
  ·obtain⟨z,m,t⟩:=h (P.getD i Cd) (P.getD k Cd);refine⟨-z,?_,by rw[Avp];exact t⟩;rw[Nv g.1 g.2,Ayf,<-m];grind
  refine⟨0,?_,mV⟩;have:en (Cs C P) i k=0:=by
   unfold en;by_cases hi:i<P.length
   ·have Q:¬ k<P.length:=fun Q=>g ⟨hi,Q⟩;have hl:=(R3 (C:=C) (P:=P)).2 i hi;unfold gR;rw[As7,Att oV];rfl
   have e:gM (Cs C P) i = []:=by
    unfold gM;rw[As7,Att (by rw[(R3 (C:=C) (P:=P)).1];omega)];rfl
   rw[e];rfl
  rw[this,show ((0:Int):Rat)=0 from rfl];grind) K.det F
 have hp:pwR (L:Rat) P.length=pwR (L:Rat) j*pwR (L:Rat) (P.length-j):=by
  rw[<-Agc,show j+(P.length-j)=P.length by omega]
 have H:pwR (L:Rat) j≠0:=by rw[Xw];exact Nq (Aym h0)
 have V:c j*((L^(P.length-j):Nat):Rat)=(z:Rat):=by
  rw[<-Xw];rw[hp]at T;generalize pwR (L:Rat) j=a at *
  generalize pwR (L:Rat) (P.length-j)=d at *
  have:a*(c j*d-(z:Rat))=0:=by grind
  rcases A0a.1 this with I|I
  ·exact absurd I H
  grind
 have n:L<=10^22:=As9 W (As9 u fV);refine⟨z,L^(P.length-j),V,Aym h0,?_,?_⟩
 ·have X:2*(N*N)+1<=10^22:=oV;have m:(2*(N*N)+1)^P.length<=(10^22)^6:=As9 (Nat.pow_le_pow_left X _) (Atq fV J);have t:=Aut (Aqq _ J) m;exact Aum (As9 U t) fV
 have m:L^(P.length-j)<=(10^22)^6:=As9 (Nat.pow_le_pow_left n _) (Atq fV oV);exact Aum m fV
def Aht (d:Lb N C)(m:N<=33000000000)(n:0<C.c)(j:P.length<=6):∀ q∈Ao (Cs C P),Tx q/\Sz q 16:=fun q t=>by
 have h:=Aj2 d m n j q t;obtain⟨e,g⟩:=h.frac;exact⟨h.tx oV oV oV oV,A0 (Auf e fV),A0 (Auf g fV)⟩
end
section
section
variable {u:PH} {v cv:Value} {T:List (List UInt8×Nat)} {R:List Ch} {F:List Aq} {lab:Int} {C:CF} {K k:Nat} {P:List Par}
def Air (h:Anz u v cv T R F lab C K k P)(h0:k=0):Fn0 prog 9 [v,cv] u fun r _=>r=.tuple #[.slice none 0 0,.int .i64 12]:=by
 have e:=N6 h.sch h.ok h.cof h.sC h.vC (As9 h.K oV) h.bel;have j:=h.p24;have g:=h.mom;obtain⟨xa,xc,xb,xd,xe,xf,rfl,_⟩:=id h.sch;obtain⟨t,N,E,z,O,H,rfl⟩:=id h.cof.opn;refine Fn0.o func9<|G.c call35 e ?_;intro Y W J hp;obtain⟨V,n,rfl,m,_,d⟩:=hp.resolve_left fun⟨_,L,I,d⟩=>by have:=congrArg List.length (h.prm.eq d);omega
 obtain⟨Q,U,rfl⟩:=m.opn;refine G.nF 0 0<|G.c call36 (Ue g.tx) ?_;rintro Z X l2 rfl;refine G.leqT (sgn C.c.num) 0 kV (by
  have:C.c=0:=by rw[g.c,h0];rfl
  rw[As4.2 this];exact Int.le_refl _) ?_
 exact G.r (.tuple #[.slice none 0 0,.int .i64 12]) ⟨rfl,rfl⟩
def Ais (h:Anz u v cv T R F lab C K k P)(h0:k≠0)(n:12<P.length):Fn0 prog 9 [v,cv] u fun r _=>r=.tuple #[.slice none 0 0,.int .i64 3]:=by
 have e:=N6 h.sch h.ok h.cof h.sC h.vC (As9 h.K oV) h.bel;have t:=h.p24;have m:=h.mom;obtain⟨xa,xc,xb,xd,xe,xf,rfl,_⟩:=id h.sch;obtain⟨E,O,I,H,Q,J,rfl⟩:=id h.cof.opn;refine Fn0.o func9<|G.c call35 e ?_;intro Z X N hp;obtain⟨W,z,rfl,j,_,d⟩:=hp.resolve_left fun⟨_,L,g,d⟩=>by have:=congrArg List.length (h.prm.eq d);omega
 cases h.prm.eq d;obtain⟨U,V,rfl⟩:=j.opn;rw[Ata]at j⊢;refine G.nF 0 0<|G.c call36 (Ue m.tx) ?_;rintro v2 Y l2 rfl;refine G.leqF (sgn C.c.num) 0 kV (by
  have g:C.c.num=(k:Int):=by rw[m.c];exact Rat.num_natCast k
  rw[g,Cg oV];omega) ?_
 exact G.gT P.length 12<|G.r (.tuple #[.slice none 0 0,.int .i64 3]) ⟨rfl,rfl⟩
def Ajr (ht:D1 u)(h:Anz u v cv T R F lab C K k P)(h0:k≠0)(cy:P.length<=12):Fn0 prog 9 [v,cv] u fun r u'=>∃ a,r=.tuple #[a,.int .i64 0]/\Bw u' a (Bq (Cs C P)):=by
 have ad:=N6 h.sch h.ok h.cof h.sC h.vC (As9 h.K oV) h.bel;have cz:=h.p24;have m:=h.mom;have b4:=fun (u':PH) (l:PH.le u u')=>Fn0.weak (Aj.giveAll (of0 (h.cof.mono l) h.sC (As9 h.K oV))) fun v u' ⟨u1,m1,l1,l2,h⟩=>h.give l1 l2;obtain⟨xa,xc,xb,xd,xe,xf,rfl,_⟩:=id h.sch;obtain⟨a1,n1,c1,a2,n2,c2,rfl⟩:=id h.cof.opn;have csz:Sz C.c 1000000000000:=m.csz.mono oV;have aw:∀ p,Sz (C.s p) 1000000000000:=fun p=>(m.s p).s1000 oV oV oV oV;have bh:∀ p,Sz (C.t p) 1000000000000:=fun p=>(m.t p).s1000 oV oV oV oV;have V:=m.cne h0;refine Fn0.o func9<|G.c call35 ad ?_;intro v1 u1 l1 hp;obtain⟨ps,P',rfl,hL,_,Q⟩:=hp.resolve_left fun⟨_,L,h1,Q⟩=>by have:=congrArg List.length (h.prm.eq Q);omega
 cases h.prm.eq Q;clear hp;obtain⟨pa,pc,rfl⟩:=hL.opn;rw[Ata]at hL⊢;refine G.nF 0 0<|G.c call36 (Ue m.tx) ?_;rintro v2 u2 l2 rfl;refine G.leqF (sgn C.c.num) 0 kV (by
  have h1:C.c.num=(k:Int):=by rw[m.c];exact Rat.num_natCast k
  rw[h1,Cg oV];omega) ?_
 refine G.gF P.length 12<|G.c call37 (b4 u2 (l1.trans l2)) ?_;intro v3 u3 l3 k3;have hc:∃ b a n c b' N Z c' g1 g2,v3=.agg #[.bool b,.slice a n c,.bool b',.slice N Z c',.map (some g1),.map (some g2)]/\An u3 (.agg #[.bool b,.slice a n c,.bool b',.slice N Z c']) C.c:=by
  obtain⟨b,a,n,c,b',N,Z,c',g1,g2,o1,o2,e,h1,_⟩:=id k3;exact⟨b,a,n,c,b',N,Z,c',g1,g2,e,h1⟩
 obtain⟨b,a,n,c,b',N,Z,c',g1,g2,rfl,U⟩:=hc;have bg:=(l1.trans l2).trans l3;have a4:=hL.mono (l2.trans l3);have b5:=ht.mono bg;clear hL;refine G.l (ι:=Nat×(Option Addr×Nat)×List Value) (fun i=>[(6,sV pa P.length pc),(8,.p 8002 0),(9,sV i.2.1.1 i.2.2.length i.2.1.2),(39,sV pa P.length pc),(40,iV P.length),(41,iV i.1)])
  (fun _=>[(8002,⟨107,[bV b,sV a n c,bV b',sV N Z c',.v (.map (some g1)),.v (.map (some g2))]⟩)])
  (fun i u' m'=>i.1<=P.length/\Hh u' i.2.2 (Bq ((P.take i.1).map fun p=>P.map fun q=>Er C p q))/\Ae PH.mt m' (.slice i.2.1.1 i.2.2.length i.2.1.2) 60 1 i.2.2) (fun i=>P.length-i.1)
  (0,(none,0),[]) ⟨oV,⟨rfl,fun j r hj=>by simp[Bq]at hj⟩,Ae.nil _ _ _⟩ ?_
 rintro J ⟨i,⟨ya,yc⟩,es⟩ hJ u4 m4 l4 ⟨hi,hR,hA⟩;simp only at hi hR hA hJ;have d0:es.length=i:=by rw[hR.1];simp[Bq];omega
 by_cases ab:i<P.length
 ·refine G.lT i P.length ?_;obtain⟨p,ac⟩:∃ p,P[i]?=some p:=⟨_,As5 ab⟩;have bb:P.take (i+1)=P.take i++[p]:=by rw[At0,ac];rfl
  obtain⟨O,op,rfl,ep⟩:=Ad.at' (a4.mono l4) (j:=i) (e:=A3 p) (by simp[ac]);refine G.a O op P.length pc i 2 ab<|G.lU (some 2) O (op+i*2) (.agg #[.int .i64 p.1,.string (mkS p.2)]) ep<|G.l (ι:=Nat×(Option Addr×Nat)) (fun j=>[(6,sV (some ⟨O,op,none⟩) P.length pc),(8,.p 8002 0),(9,sV ya es.length yc),(11,.p 12002 0),(12,sV j.2.1 j.1 j.2.2),(39,sV (some ⟨O,op,none⟩) P.length pc),(40,iV P.length),(41,iV i),(45,sV (some ⟨O,op,none⟩) P.length pc),(46,iV P.length),(47,iV j.1)])
   (fun _=>[(8002,⟨107,[bV b,sV a n c,bV b',sV N Z c',.v (.map (some g1)),.v (.map (some g2))]⟩),(12002,⟨110,[iV p.1,tV p.2]⟩)])
   (fun j u' m'=>j.1<=P.length/\Ae m4 m' (.slice j.2.1 j.1 j.2.2) 34 1 (Bo (((P.take j.1).map fun q=>Er C p q).map Ap))) (fun j=>P.length-j.1)
   (0,none,0) ⟨oV,Ae.nil _ _ _⟩ ?_
  rintro J2 ⟨j,ra,rc⟩ a3 u5 m5 l5 ⟨hj,hB⟩;simp only at hj hB a3;have H:=l4.trans l5;have a5:(Bo (((P.take j).map fun q=>Er C p q).map Ap)).length=j:=by rw[Bm];simp;omega
  by_cases aa:j<P.length
  ·refine G.lT j P.length ?_;obtain⟨q,ae⟩:∃ q,P[j]?=some q:=⟨_,As5 aa⟩;have ba:P.take (j+1)=P.take j++[q]:=by rw[At0,ae];rfl
   obtain⟨bq,oq,e0,eq⟩:=Ad.at' (a4.mono H) (j:=j) (e:=A3 q) (by simp[ae]);cases e0;have ah:=m.mean h0 p;have ai:=m.mean h0 q;have bc:=m.tn h0 (A5 p q);have b3:De 150 40 (C.s p/C.c*(C.s q/C.c)):=ah.mul ai;have b2:De 171 60 (Er C p q):=m.cov h0 p q;refine G.a O op P.length pc j 2 aa<|G.lU (some 2) O (op+j*2) (.agg #[.int .i64 q.1,.string (mkS q.2)]) eq<|G.c call38 (Aj8 p q (k3.mono H)) ?_;intro v6 u6 Y k6;obtain⟨b6,a6,n6,c6,cl,cc,d6,ct,rfl⟩:=k6.opn;have aq:=H.trans Y;refine G.c call39 (Ih k6 (U.mono aq) (bh _) csz V) ?_;intro v7 u7 l7 k7;obtain⟨b7,a7,n7,c7,cm,cd,d7,cu,rfl⟩:=k7.opn;have ar:=aq.trans l7;refine G.c call41 (Afg p (k3.mono ar)) ?_;intro v8 u8 l8 k8;obtain⟨b8,a8,n8,c8,cn,ce,d8,cw,rfl⟩:=k8.opn;have au:=ar.trans l8;refine G.c call39 (Ih k8 (U.mono au) (aw _) csz V) ?_;intro v9 u9 l9 k9;obtain⟨b9,a9,n9,c9,co,cg,d9,cx,rfl⟩:=k9.opn;have av:=au.trans l9;refine G.c call41 (Afg q (k3.mono av)) ?_;intro dh da z aj;obtain⟨ch,c3,d2,cp,bm,bi,bw,bs,rfl⟩:=aj.opn;have I:=av.trans z;refine G.c call39 (Ih aj (U.mono I) (aw _) csz V) ?_;intro di db E ak;obtain⟨ci,c4,d3,cq,bn,bj,bx,bt,rfl⟩:=ak.opn;have ao:=I.trans E;refine G.c call42 (L5 (k9.mono (z.trans E)) ak (ah.s1000 oV oV oV oV) (ai.s1000 oV oV oV oV)) ?_;intro dj dc X al;obtain⟨cj,c5,d4,cr,bo,bk,bz,bu,rfl⟩:=al.opn;refine G.c call40 (Abc (k7.mono ((((l8.trans l9).trans z).trans E).trans X)) al (bc.s1000 oV oV oV oV) (b3.s1000 oV oV oV oV)) ?_;intro dk dd an am;obtain⟨ck,ca,d5,cs,br,bl,c0,bv,rfl⟩:=am.opn;have ap:=(ao.trans X).trans an;refine G.c call43 (Qu (b5.mono ap) am (show Tx (Er C p q) from b2.tx oV oV oV oV)) ?_;rintro dl df be rfl;refine G.nF 0 0<|G.B 34 1 16 (.string (mkS [])) [.string (mkS (Ap (Er C p q)))] (Dp [Ap (Er C p q)]) ?_;intro b1 dg bf az;refine G.append 34 1 16 (.string (mkS [])) m4 (Bo (((P.take j).map fun q=>Er C p q).map Ap)) [.string (mkS (Ap (Er C p q)))] (.slice ra j rc) b1 0 1 1 kV rfl rfl oV hB az (Dp [Ap (Er C p q)]) rfl oV (by rw[a5];omega) (by rw[a5];omega) ?_;intro dm d1 d;have b0:Bo (((P.take j).map fun q=>Er C p q).map Ap)++[.string (mkS (Ap (Er C p q)))]=Bo (((P.take (j+1)).map fun q=>Er C p q).map Ap):=by rw[ba,Atk,Atk,Sw];rfl
   rw[b0]at d;obtain⟨ax,ay,rfl⟩:=d.shape;rw[show (Bo (((P.take (j+1)).map fun q=>Er C p q).map Ap)).length=j+1 by rw[Bm];simp;omega]at d⊢;exact G.i j<|G.b (a3 (j+1,ax,ay) _ _ _ cV (((((((((l5.trans Y).trans l7).trans l8).trans l9).trans z).trans E).trans X).trans an).trans (be.trans bf)) ⟨dV,d⟩ dV)
  obtain rfl:j=P.length:=oV;refine G.lF P.length P.length ?_;rw[At9]at hB;refine G.give m4 _ _ kV hB (fun g=>.inl rfl) ?_;intro u6 Y ag;have af:((P.map fun q=>Er C p q).map Ap).length=P.length:=mV;refine G.B 60 1 24 (.slice none 0 0) [.slice ra P.length rc] (G5 _ _ _) ?_;intro g7 u7 l7 e7;refine G.append 60 1 24 (.slice none 0 0) PH.mt es [.slice ra P.length rc] _ g7 0 1 1 kV rfl rfl oV hA e7 (G5 _ _ _) rfl oV oV oV ?_;intro v8 m8 a0;obtain⟨a8,c8,rfl⟩:=a0.shape;refine G.i i<|G.b (hJ (i+1,(a8,c8),es++[.slice ra P.length rc]) _ _ _ cV ((H.trans Y).trans l7) ⟨dV,?_,a0⟩ dV);dsimp only;have e9:Bq ((P.take (i+1)).map fun p=>P.map fun q=>Er C p q)=Bq ((P.take i).map fun p=>P.map fun q=>Er C p q)++[(P.map fun q=>Er C p q).map Ap]:=by rw[bb];simp[Bq]
  rw[e9];have W:=Ad.mono ag l7;have:=(hR.mono ((l5.trans Y).trans l7)).snoc1 (a:=ra) (c:=rc) (r:=(P.map fun q=>Er C p q).map Ap) (by rw[af];exact W);rw[af]at this;exact this
 obtain rfl:i=P.length:=oV;refine G.lF P.length P.length ?_;rw[At9]at hR;refine G.give _ _ _ kV hA (fun g=>.inl rfl) ?_;intro u6 Y hF;exact G.r (.tuple #[.slice ya es.length yc,.int .i64 0]) ⟨rfl,_,rfl,es,hF,hR.mono Y⟩
end
end
def Aci {u:PH}{v:Value}{A:List (List Rat)}(h:Bw u v (Bq A))(t:Sq A)(hy:Aan A):Fn0 prog 11 [v] u fun v' _=>v'=.bool true:=by
 obtain⟨a,c,rfl⟩:=h.opn;rw[Ba]at h⊢;have a0:=t.le;refine Fn0.o func11<|G.c call45 (Ag1 h t) ?_;rintro v1 u1 U rfl;refine G.nF 0 0<|G.nF A.length A.length<|G.l (ι:=Nat) (fun i=>[(0,sV a A.length c),(22,iV A.length),(23,iV i)]) (fun _=>[])
  (fun i u' P=>i<=A.length/\P=PH.mt) (fun i=>A.length-i) 0 ⟨oV,rfl⟩ ?_
 rintro J i hJ u2 m2 l2 ⟨hi,rfl⟩;by_cases d:i<A.length
 ·refine G.lT i A.length ?_;have N:=h.mono (U.trans l2);have C:0<A[i].length:=by rw[t.len d];omega
  obtain⟨e,n,b2,o2,c2,rfl,R,e2⟩:=N.cell d C;refine G.a e n A.length c i 1 oV<|G.lU none e (n+i*1) _ R ?_;rw[t.len d]at R⊢;refine G.l (ι:=Nat) (fun k=>[(0,sV (some ⟨e,n,none⟩) A.length c),(22,iV A.length),(23,iV i),(6,iV i),(30,iV A.length),(31,iV k)]) (fun _=>[])
   (fun k u' P=>k<=A.length/\P=PH.mt) (fun k=>A.length-k) 0 ⟨oV,rfl⟩ ?_
  rintro J2 k L u3 m3 O ⟨hk,rfl⟩;by_cases m:k<A.length
  ·refine G.lT k A.length ?_;have j:k<A[i].length:=by rw[t.len d];omega
   have g:i<A[k].length:=by rw[t.len m];omega
   have T:=h.mono (U.trans (l2.trans O));obtain⟨W,a1,z,E,F,H,I,K⟩:=T.cell d j;cases H;refine G.a e n A.length c i 1 oV<|G.lU none e (n+i*1) _ I<|G.a z E A[i].length F k 1 j<|G.lU none z (E+k*1) _ K ?_;obtain⟨b3,o3,Q,V,X,H,Y,Z⟩:=T.cell m g;cases H;exact G.a e n A.length c k 1 oV<|G.lU none e (n+k*1) _ Y<|G.a Q V A[k].length X i 1 g<|G.lU none Q (V+i*1) _ Z<|G.y (Ap A[i][k]) (Ap A[k][i]) (by rw[hy i k d m j g])<|G.i k<|G.b (L (k+1) _ _ _ cV O ⟨oV,rfl⟩ oV)
  exact G.lF k A.length<|G.i i<|G.b (hJ (i+1) _ _ _ cV (l2.trans O) ⟨oV,rfl⟩ oV)
 exact G.lF i A.length<|G.r (.bool true) ⟨rfl,rfl⟩
section
variable {F:List Aq}{L:List G7}{R:List Ch}{T:List (List UInt8×Nat)}{lab:Int}{u:PH}
def Ald (ok:By u T R F lab):∀ l:Nat,lab=(l:Int)->l<T.length:=fun l d=>by
 obtain⟨n,e⟩:=ok.l2 l d;exact (Atc.1 e).1
def Apt (ok:By u T R F lab)(v:T.length<=8)(hT:∀ y∈L,Dv T y.1/\y.2.1<=7)(t:L.length<=6):CFD 16 (10^75) (Fs F lab L):=by
 obtain⟨d,_⟩:=Ym ok hT;refine d.to oV ?_;have e:12^(16-2*T.length)=144^(8-T.length):=by
  rw[show 16-2*T.length=2*(8-T.length) by omega,Nat.pow_mul]
 have h:144^(8-T.length)<=1374926400^(8-T.length):=Nat.pow_le_pow_left oV _;have j:1374926400^T.length*1374926400^(8-T.length)=1374926400^8:=by rw[<-Aww];congr 1;omega
 have m:1374926400^8*42<=10^75:=jV
 rw[e];have g:L.length*(1374926400^T.length*7)*144^(8-T.length)<=6*(1374926400^T.length*7)*1374926400^(8-T.length):=Aut (Ats _ t) h;have n:6*(1374926400^T.length*7)*1374926400^(8-T.length)=(1374926400^T.length*1374926400^(8-T.length))*42:=by
  generalize 1374926400^T.length=a;generalize 1374926400^(8-T.length)=b;rw[At7 6,Atz a 7 6,Atz a b 42,Atz a (7*6) b,At7 (7*6) b]
 rw[n,j]at g;exact As9 g m
def Alu (ok:By u T R F lab)(m:T.length<=8)(hT:∀ y∈L,Dv T y.1/\y.2.1<=7)(j:L.length<=6):∃ k,M6 (Fs F lab L) k:=by
 obtain⟨k,z,C⟩:=Aqe ok.feat ok.l1 (Ald ok) hT;have d:=Apt ok m hT j;have n:12^16<10^18:=jV
 obtain⟨e,_⟩:=Ym ok hT;have g:L.length*(1374926400^T.length*7)<10^75:=by
  have v:1374926400^T.length<=1374926400^8:=Atq oV m;have E:1374926400^8*42<10^75:=jV
  have H:=Aut j (Ats 7 v);omega
 have h:12^(2*T.length)<10^18:=Aum (Atq oV oV) n;exact⟨k,z,oV,fun p=>(e.s p).de g h,fun p=>(e.t p).de g h⟩
def Am3 {u:PH}{T:List (List UInt8×Nat)}{R:List Ch}{F:List Aq}{lab:Int}{L:List G7}{m h:Value}{P:List Par}(v:In u m T R F lab)(ok:By u T R F lab)(e:T.length<=8)(hT:∀ y∈L,Dv T y.1/\y.2.1<=7)(j:L.length<=6)
 (n:Lp u h (Fs F lab L) 1530) (t:Uy F (Fs F lab L) P) (g:P.length<=24) (d:0<=lab):∃ k,Anz u m h T R F lab (Fs F lab L) 1530 k P:=by
 obtain⟨k,z⟩:=Alu ok e hT j;obtain⟨C,E⟩:=Vc ok e hT oV;exact⟨k,v,ok,n,C,E,oV,Afs,z,t,g,d,Apt ok e hT j⟩
end
section
variable {u:PH}{v:Value}
section
variable {C:CF} {N:Nat} {P:List Par}
def Ab1 {r:List Rat}{q:Rat}(e:r∈Cs C P)(g:q∈r):∃ p d,q=Er C p d:=by
 unfold Cs at e;obtain⟨p,_,rfl⟩:=Ate.1 e;obtain⟨d,_,rfl⟩:=Ate.1 g;exact⟨p,d,rfl⟩
def E8:(Cs C P).length=P.length:=by simp[Cs]
def Ajl (g:Lb N C)(h:N<=33000000000)(j:0<C.c)(e:P.length<=12):Sq (Cs C P) where
 le:=by rw[E8];exact e
 row:=fun r d=>by
  rw[E8];unfold Cs at d;obtain⟨p,_,rfl⟩:=Ate.1 d;simp
 tx:=fun r d q m=>by
  obtain⟨p,n,rfl⟩:=Ab1 d m;exact (Amx g h j p n).2
def Ta:Aan (Cs C P):=fun i k hi g j m=>by
 have d:i<P.length:=by rw[E8]at hi;exact hi
 have h:k<P.length:=by rw[E8]at g;exact g
 have e:=Ae5 (C:=C) (P:=P) i k d h;unfold en at e;rwa[Rd hi,Rd g,Gd j,Gd m]at e
def Yr (d:Lb N C)(h:N<=33000000000)(j:0<C.c):∀ r∈Cs C P,SzL r 3:=fun r n q m=>by
 obtain⟨p,t,rfl⟩:=Ab1 n m;obtain⟨e,g⟩:=(Amx d h j p t).1.frac;exact⟨A0 (Auf e fV),A0 (Auf g fV)⟩
def Amz (d:Lb N C)(e:N<=33000000000)(g:0<C.c)(h:P.length<=6):Abg (Cs C P) 3 where
 sq:=Ajl d e g oV
 sym:=Ta
 le:=by rw[E8];exact h
 tle:=.inl oV
 sz:=Yr d e g
 light:=by
  obtain⟨L,j⟩:=Ah1 (P:=P) d e g;exact⟨L,22,oV,j⟩
theorem Ajx {A:List (List Rat)}{L:Nat}{M:Nat}(h:∀ i,i<A.length->∃ z:Int,gR (gM A i) i*(L:Rat)=z/\z.natAbs<=M):∀ (f i:Nat) (s:Rat),i+f<=A.length->(∃ z:Int,s*(L:Rat)=z/\z.natAbs<=i*M)->∃ z:Int,Vo A f i s*(L:Rat)=z/\z.natAbs<=(i+f)*M
 |0,i,s,_,hs=>hs
 |f+1,i,s,hi,⟨z,h1,h2⟩=>by
  obtain⟨y,d,e⟩:=h i oV;rw[Vo,show i+(f+1)=i+1+f by omega];refine Ajx h f (i+1) _ oV ⟨z+y,by rw[Az9,<-h1,<-d];grind,?_⟩;rw[Nat.succ_mul];omega
theorem Aje (g:Lb N C)(j:N<=33000000000)(t:0<C.c)(H:P.length<=6):Tx (trL (Cs C P)):=by
 obtain⟨L,h0,I,h⟩:=Agd g t;have n:N*N<=33000000000*33000000000:=Aut j j;obtain⟨z,m,E⟩:=Ajx (A:=Cs C P) (L:=L) (M:=2*(N*N)) (fun i hi=>by
  have d:i<P.length:=by rw[E8]at hi;exact hi
  have e:=Nv (C:=C) (P:=P) d d;unfold en at e;rw[e];exact h _ _) (Cs C P).length 0 0 oV ⟨0,by rw[show ((0:Int):Rat)=0 from rfl];grind,oV⟩
 have F:(0+(Cs C P).length)*(2*(N*N))<=6*(2*(N*N)):=Ats _ (by rw[E8];omega);exact De.tx (a:=23) (b:=22) ⟨z,L,m,h0,oV,oV⟩ oV oV oV oV
end
def Aor {g:Value}{T:List (List UInt8×Nat)}{F:List Aq}{lab:Int}{C:CF}{K:Nat}(h:Lp u g C K)(hF:Ef T F lab):∃ P,Uy F C P:=by
 obtain⟨A,Q,m,z,t,E,rfl,I,J,e,H,L,O⟩:=h;exact⟨F8 F A F.length,Qh e.srt _,fun p=>Zq e fun f j=>by
  obtain⟨n,k,_,d,_⟩:=hF.ok f j;rcases d with ⟨d,_⟩|⟨d,_⟩
  ·exact .inl d
  exact .inr d⟩
def Aq9 (n:Nat):Na 0 n 12:=R5 (Je jV) n
def Asc {n:Nat}(h:n<=6):bd 16 12 (Lx (n+1) (n+1))<=1000000000000 :=
 As9 (Zv 16 12 (Rz (n:=n+1) oV).1) jV
def Ahy {C:CF}{N:Nat}{P:List Par}(H:D1 u)(h:Bw u v (Bq (Cs C P)))(d:Lb N C)(n:N<=33000000000)(j:0<C.c)(g:P.length<=6)(m:P.Nodup)(hp:∀ z,0<=Is z P C) :
 Fn0 prog 12 [v,.string (mkS [48])] u fun E _=>∃ e:Nat,E=.tuple #[.int .i64 0,.int .i64 e,.int .i64 0]:=by
 have t:=Ad6 (S:=16) (T':=12) (x:=0) H h (Amz d n j g) (Aq9 _) (fun _ q F=>(Aht d n j g q F).2) (by rw[E8];exact Asc g) oV;rw[P4]at t;refine Fn0.weak t ?_;rintro E I rfl;rw[Akd R3 Ae5 (Afo m j hp)];exact⟨_,rfl⟩
def Aab {ts:List Int}(ht:D1 u)(hv:Ad u v 1 (Ei ts))(b5:∀ t∈ts,-9223372036854775808<=t)(b0:∀ t∈ts,t<=9223372036854775807) :
 Fn0 prog 3 [v] u fun v' _=>v'=.bool true:=by
 obtain⟨a,c,rfl⟩:=hv.opn;rw[B4]at hv⊢;refine Fn0.o func3 ?_;by_cases bi:400<ts.length
 ·refine G.gT ts.length 400<|G.c call4 (Tz ht) ?_;rintro v1 u1 l1 rfl;exact G.r (.bool true) ⟨rfl,rfl⟩
 refine G.gF ts.length 400<|G.callO _ _ kV call5 (Aow hv oV b5 b0) ?_;rintro v1 u1 m1 l1 ⟨s,rfl,rfl,hs⟩ _;rw[C3];refine G.A call6 (Ys 4 oV oV hs (Atu _)) ?_;rintro v2 u2 m2 l2 ⟨T,R,F,lab,k1,hX,ok,a0,ah,bq,b3,rfl,br⟩ _;rw[C3];obtain⟨xa,xc,xb,xd,xe,xf,rfl,_⟩:=id hX;refine G.A call7 (Ad3 (most:=5) (hs.mono l2) b3 hX ok oV) ?_;rintro v3 u3 m3 l3 ⟨L,k2,hL,bs,hW,h9,bt,rfl⟩ _;rw[C3];obtain⟨la,lc,rfl⟩:=hL.opn;rw[Ata]at hL⊢;refine G.c call8 (X3 (hX.mono l3) (ok.mono l3) a0 hL hW oV) ?_;rintro v4 u4 l4 ⟨cv,rfl,k4⟩;have e:=hW.tup;have ab:-1<=lab:=ok.l1;have ad:=Ald ok;have j:=ok.feat;have n:=Ah6 (L:=L) ok ab ad e;have hN:L.length*2406121200<=33000000000:=oV;have W:=fun (P:List Par) (z:Option Par->Rat)=>Aj5 j ab ad z P (L:=L) fun y hy=>(e y hy).1;obtain⟨sC,vC⟩:=Vc ok a0 e oV;have bk:=Vg (hX.mono (l3.trans l4)) (ok.mono (l3.trans l4)) k4 sC vC oV Afs;have ak:∀ P,Uy F (Fs F lab L) P->P.length<=16:=fun P Y=>by
  have:=Aph j (fun y hy=>(e y hy).1) h9.c9 Y;omega
 obtain⟨P,Y⟩:∃ P,Uy F (Fs F lab L) P:=Aor k4 j;have bj:=ak P Y;obtain⟨k,d⟩:=Am3 (hX.mono (l3.trans l4)) (ok.mono (l3.trans l4)) a0 e oV k4 Y oV ah;obtain⟨e1,f1,g1,e2,f2,g2,rfl⟩:=k4.opn;have O:=ht.mono (((l1.trans l2).trans l3).trans l4);have hS:=d.mom;generalize bp:Fs F lab L=C at *
 refine G.drop PH.mt kV (PH.mt_le _) ?_;by_cases h0:k=0
 ·have ay:C.c=0:=by rw[hS.c,h0];rfl
  refine G.c call9 (Air d h0) ?_;rintro v5 u5 X rfl;refine G.nT 12 0<|G.eT' 12 12 rfl<|G.q (Ap C.c) [48] (by rw[ay,P4])<|G.c call4 (Tz (O.mono X)) ?_;rintro v6 u6 l6 rfl;exact G.r (.bool true) ⟨rfl,rfl⟩
 by_cases ax:12<P.length
 ·refine G.c call9 (Ais d h0 ax) ?_;rintro v5 u5 X rfl;refine G.nT 3 0<|G.eF 3 12<|G.eT' 3 3 rfl<|G.c call4 (Tz (O.mono X)) ?_;rintro v6 u6 l6 rfl;exact G.r (.bool true) ⟨rfl,rfl⟩
 have aj:P.Nodup:=Y.1.nodup Fr;have hc:=hS.cpos h0;refine G.c call9 (Ajr O d h0 oV) ?_;rintro v5 u5 X ⟨av,rfl,k5⟩;have E:=Ajl (P:=P) n hN hc oV;have a3:=fun (v:Value) (h:Bw u5 v (Bq (Cs C P)))=>Aci h E Ta;refine G.nF 0 0<|G.c call10 (Vg (d.sch.mono X) (d.ok.mono X) (d.cof.mono X) sC vC oV d.bel) ?_;intro v6 u6 l6 hp;obtain⟨ps,P',rfl,ae,_,Z⟩:=hp.resolve_left fun⟨_,L',h1,Z⟩=>by have:=congrArg List.length (Y.eq Z);omega
 cases Y.eq Z;obtain⟨pa,pc,rfl⟩:=ae.opn;rw[Ata]at ae⊢;have af:=fun (h6:P.length<=6) (u':PH) (ht:D1 u') (v:Value) (h:Bw u' v (Bq (Cs C P)))=>Ahy ht h n hN hc h6 aj (W P);have b7:=fun (h6:P.length<=6) (u':PH) (ht:D1 u') (v:Value) (h:Bw u' v (Bq (Cs C P)))=>Ap4 ht h E (fun r hr q hq=>(Yr n hN hc r hr q hq).mono oV) (Aje (P:=P) n hN hc h6);have k6:=k5.mono l6;have a3:=Aci k6 E Ta;obtain⟨aa,ac,rfl⟩:=k5.opn;have b4:(Bq (Cs C P)).length=P.length:=by rw[Ba,E8]
 rw[b4]at k6 a3⊢;refine G.c call11 a3 ?_;rintro v7 u7 l7 rfl;refine G.nF P.length P.length ?_;have Q:=O.mono ((X.trans l6).trans l7);have k7:=k6.mono l7;by_cases h6:6<P.length
 ·refine G.gT P.length 6<|G.c call4 (Tz Q) ?_;rintro v8 u8 l8 rfl;exact G.r (.bool true) ⟨rfl,rfl⟩
 refine G.gF P.length 6<|G.c call12 (af oV u7 Q _ k7) ?_;rintro v8 u8 l8 ⟨eq,rfl⟩;refine G.c call13 (b7 oV u8 (Q.mono l8) _ (k7.mono l8)) ?_;rintro v9 u9 l9 rfl;have k9:=k7.mono (l8.trans l9);refine G.c call14 (Uo (z:=0) oV oV) ?_;intro c0 bw ap a5;rw[show ((0:Int):Rat)=0 from rfl]at a5;obtain⟨b,a1,n1,c1,a2,n2,c2,rfl,_⟩:=a5.opn;refine G.l (ι:=Nat×Rat×Bool×(Option Addr×Nat×Nat)×(Option Addr×Nat×Nat)) (fun i=>[(8,sV aa P.length ac),(12,iV 0),(14,iV 0),(15,tV (Ap (trL (Cs C P)))),(16,iV 0),(17,.p 17001 0),(93,iV P.length),(94,iV i.1)])
  (fun i=>[(17001,⟨57,[bV i.2.2.1,sV i.2.2.2.1.1 i.2.2.2.1.2.1 i.2.2.2.1.2.2,bV false,sV i.2.2.2.2.1 i.2.2.2.2.2.1 i.2.2.2.2.2.2]⟩)])
  (fun i u' m'=>i.1<=P.length/\Vo (Cs C P) (P.length-i.1) i.1 i.2.1=trL (Cs C P)/\Sz i.2.1 (1+4*i.1)/\QP u' (.agg #[.bool i.2.2.1,.slice i.2.2.2.1.1 i.2.2.2.1.2.1 i.2.2.2.1.2.2,.bool false,.slice i.2.2.2.2.1 i.2.2.2.2.2.1 i.2.2.2.2.2.2]) i.2.1/\m'=PH.mt) (fun i=>P.length-i.1)
  (0,0,b,(a1,n1,c1),(a2,n2,c2)) ⟨Atu _,by unfold trL;rw[E8];rfl,Mn.mono oV,a5,rfl⟩ ?_
 rintro J ⟨i,sm,b,⟨a1,n1,c1⟩,⟨a2,n2,c2⟩⟩ hJ bx bu a6 ⟨hi,U,a4,hq,rfl⟩;simp only at hi U a4 hq hJ;have b8:=k9.mono (ap.trans a6);by_cases g:i<P.length
 ·refine G.lT i P.length ?_;have m:i<(Cs C P).length:=by rw[E8];exact g
  have K:i<(Cs C P)[i].length:=by rw[E.len m];exact m
  obtain⟨b1,o1,b2,o2,c3,rfl,e1,e2⟩:=b8.cell m K;have az:(Cs C P)[i].length=P.length:=by rw[E.len m,E8]
  have I:gR (gM (Cs C P) i) i=(Cs C P)[i][i]:=by rw[Rd m,Gd K]
  have ag:(Cs C P)[i][i]=Er C (P.getD i Cd) (P.getD i Cd):=by rw[<-I];exact Nv g g
  have ai:P.getD i Cd∈P:=by rw[As7,As5 g];exact Ath g
  have b6:0<=(Cs C P)[i][i]:=by rw[ag];exact Aop aj hc (W P) ai
  have al:Sz (Cs C P)[i][i] 3:=Yr n hN hc _ (Ath m) _ (Ath K);have am:Tx (Cs C P)[i][i]:=E.tx' m K;rw[az]at e1;have V:i<P.length:=g;refine G.a b1 o1 P.length ac i 1 g<|G.lU none b1 (o1+i*1) _ e1<|G.a b2 o2 P.length c3 i 1 V<|G.lU none b2 (o2+i*1) _ e2<|G.c call15 (Alr am) ?_;rintro be bb H rfl;refine G.lF' (sgn (Cs C P)[i][i].num) 0 (by have:=Ak3 (Rat.num_nonneg.2 b6);omega)<|G.a b1 o1 P.length ac i 1 g<|G.lU none b1 (o1+i*1) _ (e1.mono H)<|G.a b2 o2 P.length c3 i 1 V<|G.lU none b2 (o2+i*1) _ (e2.mono H)<|G.c call17 (T4 am) ?_;intro bf bc a7 an;obtain⟨bn,bm,bv,bo,bg,bl,bh,rfl,_⟩:=an.opn;refine G.c call16 (Mt (hq.mono (H.trans a7)) an (a4.mono oV) (al.mono oV)) ?_;intro c4 bz b9 ao;obtain⟨au,ar,ba,aw,a8,aq,a9,rfl,_⟩:=ao.opn;refine G.i i<|G.b (hJ (i+1,sm+(Cs C P)[i][i],au,(ar,ba,aw),(a8,aq,a9)) _ _ _ cV (((a6.trans H).trans a7).trans b9) ⟨dV,?_,(Fx a4 al).mono dV,ao,rfl⟩ dV);dsimp only;rw[<-U,show P.length-i=(P.length-(i+1))+1 by omega,Vo,I]
 obtain rfl:i=P.length:=oV;refine G.lF P.length P.length ?_;rw[Avc,Vo]at U;subst U;refine G.c call18 (O1 hq (Aje n hN hc oV)) ?_;rintro be bb H rfl;refine G.eT' 0 0 rfl<|G.eT' 0 0 rfl<|G.eT' 0 0 rfl<|G.q (Ap (trL (Cs C P))) (Ap (trL (Cs C P))) rfl<|G.c call4 (Tz (Q.mono ((((l8.trans l9).trans ap).trans a6).trans H))) ?_;rintro bf bc a7 rfl;exact G.r (.bool true) ⟨rfl,rfl⟩
end
end Go.Proofs.YtnafchoihfnkeaaGreatDoor
