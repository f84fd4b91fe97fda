/- Parts of one proof, joined by a program. -/
import Derived.Test.YtnafchoihfnkeaaGreatDoorS11
set_option linter.defProp false
set_option linter.unusedVariables false
set_option linter.unusedSimpArgs false
set_option linter.unusedSectionVars false
set_option maxHeartbeats 16000000
namespace Go.Proofs.YtnafchoihfnkeaaGreatDoor
open Go.Proofs.Tryz
open Go.RowKit Go.MapKept
open Int renaming natAbs_mul -> Au7, natAbs_neg -> Avp
open List renaming getD_eq_getElem?_getD -> As7, getElem?_eq_getElem -> As5, getElem?_eq_none -> Att, getElem_mem -> Ath, length -> Av5, length_map -> Ata, map_append -> Atk, mem_map -> Ate, take_add_one -> At0, take_length -> At9
open Nat renaming le_refl -> Atb, le_trans -> As9, lt_of_le_of_lt -> Aum, lt_of_lt_of_le -> Auf, mul_assoc -> Atz, mul_comm -> At7, mul_le_mul -> Aut, mul_le_mul_right -> Ats, pow_le_pow_right -> Atq, pow_pos -> Aym, pow_succ -> Auc, zero_le -> Atu
open Rat renaming intCast_add -> Az9, intCast_mul -> Av9, intCast_neg -> Ayf, natCast_mul -> Awt
section
variable {C:CF}{N:Nat}{P:List Par}
theorem Af6 (hcd:Le N C)(hc:0<C.c):∃ L:Nat,0<L/\L<=N*N/\∀ p q,∃ z:Int,Ev C p q*(L:Rat)=z/\z.natAbs<=2*(N*N):=by
 obtain⟨zc,hz,hzN⟩:=hcd.c none none;have hz':C.c*((12^2:Nat):Rat)=(zc:Rat):=hz;have hzp:0<zc:=by
  have h1:(0:Rat)<C.c*((12^2:Nat):Rat):=Rat.mul_pos hc jV;rw[hz']at h1;exact Rat.intCast_pos.1 h1
 have hzr:(zc:Rat)≠0:=fun e=>by
  have:=Rat.intCast_inj.1 (show (zc:Rat)=((0:Int):Rat) by rw[e];rfl);omega
 have hD:((12^2:Nat):Rat)≠0:=jV
 refine⟨zc.natAbs*zc.natAbs,Nat.mul_pos oV oV,Aut hzN hzN,fun p q=>?_⟩;obtain⟨zt,h1,h1N⟩:=hcd.c (some p) (some q);obtain⟨zp,h2,h2N⟩:=hcd.c none (some p);obtain⟨zq,h3,h3N⟩:=hcd.c none (some q);have h1':C.t (A5 p q)*((12^2:Nat):Rat)=(zt:Rat):=h1;have h2':C.s p*((12^2:Nat):Rat)=(zp:Rat):=h2;have h3':C.s q*((12^2:Nat):Rat)=(zq:Rat):=h3;clear h1 h2 h3 hz hcd;generalize ((12^2:Nat):Rat)=D at *
 have hL:((zc.natAbs*zc.natAbs:Nat):Rat)=(zc:Rat)*(zc:Rat):=by
  have e:((zc.natAbs:Nat):Int)=zc:=oV
  have e2:((zc.natAbs:Nat):Rat)=(zc:Rat):=by
   have:=congrArg (fun z:Int=>(z:Rat)) e;simpa only[Rat.intCast_natCast] using this
  rw[Awt,e2]
 refine⟨zt*zc-zp*zq,?_,?_⟩
 ·rw[hL,Rat.intCast_sub,Av9,Av9,<-h1',<-h2',<-h3',<-hz'];have hc0:C.c≠0:=fun e=>by rw[e]at hc;exact absurd hc fV
  unfold Ev;generalize C.t (A5 p q)=t;generalize C.s p=a;generalize C.s q=b;generalize C.c=c at *
  grind
 ·have e1:(zt*zc).natAbs<=N*N:=by rw[Au7];exact Aut h1N hzN
  have e2:(zp*zq).natAbs<=N*N:=by rw[Au7];exact Aut h2N h3N
  omega
theorem Aid (hcd:Le N C)(hN:N<=33000000000)(hc:0<C.c):∃ L,Vi (Cs C P) L 22:=by
 obtain⟨L,h0,hL,h⟩:=Af6 hcd hc;have hNN:N*N<=33000000000*33000000000:=Aut hN hN;refine⟨L,Amf h0 oV oV (A0 (by
  have:L<1000000000^3:=oV
  exact Auf this (Atq oV oV))) fun r hr q hq=>?_⟩
 unfold Cs at hr;obtain⟨p,_,rfl⟩:=Ate.1 hr;obtain⟨p',_,rfl⟩:=Ate.1 hq;obtain⟨z,e1,e2⟩:=h p p';exact⟨z,e1,oV⟩
theorem Alm (hcd:Le N C)(hN:N<=33000000000)(hc:0<C.c)(p q:Par):De 22 22 (Ev C p q)/\Tx (Ev C p q):=by
 obtain⟨L,h0,hL,h⟩:=Af6 hcd hc;have hNN:N*N<=33000000000*33000000000:=Aut hN hN;obtain⟨z,e1,e2⟩:=h p q;have hd:De 22 22 (Ev C p q):=⟨z,L,e1,h0,oV,oV⟩;exact⟨hd,hd.tx oV oV oV oV⟩
theorem Aom {n:Nat}{A:Nat->Nat->Rat}(h:O4 n A){i:Nat}(hi:i<n):0<=A i i:=by
 have h1:=h (idq i);have e1:∀ t,Aj n (fun k=>A t k*idq i k)=A t i:=fun t=>by
  rw[D5 hi fun k _ hne=>by unfold idq;rw[if_neg hne];grind,show idq i i=1 from if_pos rfl];grind
 unfold rfm at h1;rw[Af (g:=fun t=>idq i t*A t i) fun t _=>by rw[e1],D5 hi fun t _ hne=>by unfold idq;rw[if_neg hne];grind,show idq i i=1 from if_pos rfl]at h1;grind
theorem An4 (hnd:P.Nodup)(hc:0<C.c)(hp:∀ z,0<=Iv z P C){p:Par}(h:p∈P):0<=Ev C p p:=by
 obtain⟨i,hi,rfl⟩:=List.mem_iff_getElem.1 h;have h1:=Aom (Afk hnd hc hp) hi;rw[N9 hi hi]at h1;rwa[show P.getD i Cd=P[i] by rw[As7,As5 hi];rfl]at h1
end
section
variable {B B' d:Nat}{f g:Rat->Rat}
def Gm:Nat->(Nat->Nat)->Nat
 |0,_=>0
 |n+1,f=>Gm n f+f n
theorem Po {f g:Nat->Nat}:∀ {n:Nat},(∀ j,j<n->f j<=g j)->Gm n f<=Gm n g
 |0,_=>Atb _
 |n+1,h=>Nat.add_le_add (Po fun j hj=>h j oV) (h n oV)
theorem Z3 (f g:Nat->Nat):∀ n:Nat,Gm n (fun j=>f j+g j)=Gm n f+Gm n g
 |0=>rfl
 |n+1=>by rw[Gm,Z3 f g n,Gm,Gm];omega
theorem Aba (k:Nat)(f:Nat->Nat):∀ n:Nat,Gm n (fun j=>k*f j)=k*Gm n f
 |0=>rfl
 |n+1=>by rw[Gm,Aba k f n,Gm,Nat.mul_add]
theorem Ae2 {f:Nat->Nat}:∀ {n j:Nat},j<n->f j<=Gm n f
 |0,j,h=>oV
 |n+1,j,h=>by
  rw[Gm];by_cases e:j=n
  ·subst e;omega
  ·have:=Ae2 (f:=f) (n:=n) (j:=j) oV;omega
theorem So (f:Nat->Nat):∀ n:Nat,Gm (n+1) (fun j=>if j=0 then 0 else f (j-1))=Gm n f
 |0=>rfl
 |n+1=>by rw[Gm,So f n,Gm,if_neg oV,Nat.add_sub_cancel]
theorem Xa:∀ n:Nat,Gm n (fun _=>0)=0
 |0=>rfl
 |n+1=>by rw[Gm,Xa n]
def ZP (d B:Nat)(f:Rat->Rat):Prop:=∃ c:Nat->Int,(∀ x,f x=evP d (fun j=>(c j:Rat)) x)/\Gm d (fun j=>(c j).natAbs)<=B
theorem ZP.congr (h:ZP d B f)(e:∀ x,g x=f x):ZP d B g:=by
 obtain⟨c,h1,h2⟩:=h;exact⟨c,fun x=>by rw[e,h1],h2⟩
theorem ZP.mono (h:ZP d B f)(hB:B<=B'):ZP d B' f:=by
 obtain⟨c,h1,h2⟩:=h;exact⟨c,h1,As9 h2 hB⟩
theorem ZP.add (h:ZP d B f)(h':ZP d B' g):ZP d (B+B') fun x=>f x+g x:=by
 obtain⟨c,h1,h2⟩:=h;obtain⟨c',h1',h2'⟩:=h';refine⟨fun j=>c j+c' j,fun x=>?_,?_⟩
 ·show f x+g x=_;rw[h1,h1'];unfold evP;rw[<-B2];exact Af fun j _=>by dsimp only;rw[Az9];grind
 ·exact As9 (Po (g:=fun j=>(c j).natAbs+(c' j).natAbs) fun j _=>Int.natAbs_add_le _ _) (by rw[Z3];omega)
theorem ZP.smul (a:Int)(h:ZP d B f):ZP d (a.natAbs*B) fun x=>(a:Rat)*f x:=by
 obtain⟨c,h1,h2⟩:=h;refine⟨fun j=>a*c j,fun x=>?_,?_⟩
 ·show (a:Rat)*f x=_;rw[h1];unfold evP;rw[<-Bj];exact Af fun j _=>by dsimp only;rw[Av9];grind
 ·refine As9 (Po (g:=fun j=>a.natAbs*(c j).natAbs) fun j _=>Nat.le_of_eq (Au7 _ _)) ?_;rw[Aba];exact Nat.mul_le_mul_left _ h2
theorem ZP.up (h:ZP d B f):ZP (d+1) B f:=by
 obtain⟨c,h1,h2⟩:=h;refine⟨fun j=>if j=d then 0 else c j,fun x=>?_,?_⟩
 ·rw[h1];have hz:Aj d (fun j=>((if j=d then (0:Int) else c j:Int):Rat)*pwR x j)=Aj d (fun j=>(c j:Rat)*pwR x j):=Af fun j hj=>by rw[if_neg oV]
  show _=Aj d (fun j=>((if j=d then (0:Int) else c j:Int):Rat)*pwR x j)+((if d=d then (0:Int) else c d:Int):Rat)*pwR x d;rw[hz,if_pos rfl,show ((0:Int):Rat)=0 from rfl];unfold evP;grind
 ·have hz:Gm d (fun j=>(if j=d then (0:Int) else c j).natAbs)<=Gm d (fun j=>(c j).natAbs):=Po fun j hj=>by rw[if_neg oV];exact Atb _
  show Gm d (fun j=>(if j=d then (0:Int) else c j).natAbs)+(if d=d then (0:Int) else c d).natAbs<=B;rw[if_pos rfl];omega
theorem ZP.mulx (h:ZP d B f):ZP (d+1) B fun x=>x*f x:=by
 obtain⟨c,h1,h2⟩:=h;refine⟨fun j=>if j=0 then 0 else c (j-1),fun x=>?_,?_⟩
 ·show x*f x=_;rw[h1];unfold evP;rw[<-Mx];exact Af fun j _=>by
   dsimp only;by_cases e:j=0
   ·rw[if_pos e,if_pos e];rfl
   ·rw[if_neg e,if_neg e]
 ·have hs:=So (fun j=>(c j).natAbs) d;refine As9 (Po (g:=fun j=>if j=0 then 0 else (c (j-1)).natAbs) fun j _=>?_) (by rw[hs];exact h2);dsimp only;by_cases e:j=0
  ·rw[if_pos e,if_pos e];exact Atb _
  ·rw[if_neg e,if_neg e];exact Atb _
theorem ZP.mulLin {d B m:Nat}(h:ZP d B f)(a b:Int)(hm:a.natAbs+b.natAbs<=m):ZP (d+1) (m*B) fun x=>((a:Rat)+(b:Rat)*x)*f x :=
 (((h.up.smul a).add (h.mulx.smul b)).congr fun x=>by grind).mono (by rw[<-Nat.add_mul];exact Ats _ hm)
theorem ZP.sum {d B:Nat}{f:Nat->Rat->Rat}:∀ n:Nat,(∀ k,k<n->ZP d B (f k))->ZP d (n*B) fun x=>Aj n fun k=>f k x
 |0,_=>⟨fun _=>0,fun x=>by unfold evP;exact (B6 fun j _=>by dsimp only;rw[show ((0:Int):Rat)=0 from rfl];grind).symm,by show Gm d (fun _=>0)<=_;rw[Xa];omega⟩
 |n+1,h=>((ZP.sum n fun k hk=>h k oV).add (h n oV)).mono (by rw[Nat.succ_mul];omega)
def fcN:Nat->Nat
 |0=>1
 |n+1=>(n+1)*fcN n
def Ahu:Nat->Int
 |0=>1
 |n+1=>-Ahu n
theorem Af1:∀ n,qsg n=(Ahu n:Rat)/\(Ahu n).natAbs=1
 |0=>⟨rfl,rfl⟩
 |n+1=>by
  obtain⟨h1,h2⟩:=Af1 n;exact⟨by rw[qsg,h1,Ahu,Ayf],by rw[Ahu,Avp,h2]⟩
theorem ZP.det {m:Nat}:∀ (r:Nat) {C:Rat->Nat->Nat->Rat},(∀ t i,∃ a b:Int,a.natAbs+b.natAbs<=m/\∀ x,C x t i=(a:Rat)+(b:Rat)*x)->ZP (r+1) (fcN r*m^r) fun x=>qdt r (C x)
 |0,C,_=>⟨fun _=>1,fun x=>by unfold evP;simp only[Aj,pwR];show (1:Rat)=0+((1:Int):Rat)*1;rw[show ((1:Int):Rat)=1 from rfl];grind,by simp[Gm,fcN]⟩
 |r+1,C,h=>by
  have hk:∀ j,j<r+1->ZP (r+1+1) (m*(fcN r*m^r)) fun x=>qsg (r+j)*C x j r*qdt r (B9 j (C x)):=fun j _=>by
   obtain⟨a,b,hab,e⟩:=h j r;have hd:=ZP.det r (C:=fun x=>B9 j (C x)) fun t i=>by
    unfold B9;split
    ·exact h t i
    ·exact h (t+1) i
   obtain⟨s1,s2⟩:=Af1 (r+j);exact (((hd.mulLin a b hab).smul (Ahu (r+j))).congr fun x=>by rw[e,s1];grind).mono (by rw[s2,Nat.one_mul];exact Atb _)
  refine (ZP.sum (r+1) hk).mono (Nat.le_of_eq ?_);rw[fcN,Auc,Atz,At7 (m^r) m,Nat.mul_left_comm (fcN r) m]
theorem Afj (k:Rat):∀ (r:Nat) (C:Nat->Nat->Rat),qdt r (fun t i=>k*C t i)=pwR k r*qdt r C
 |0,_=>by show (1:Rat)=1*1;grind
 |r+1,C=>by
  rw[qdt,qdt,<-Bj];refine Af fun j _=>?_;have e:B9 j (fun t i=>k*C t i)=fun t i=>k*B9 j C t i:=by
   funext t i
   unfold B9;split<;>rfl
  rw[e,Afj k r (B9 j C),pwR];grind
theorem Aru {n M:Nat}{A:Nat->Nat->Rat}{c:Nat->Rat}{L:Nat}(hL:0<L)(hZ:∀ i k,∃ z:Int,A i k*(L:Rat)=z/\z.natAbs<=M)(hc:∀ x,E2 n noS A x=evP (n+1) c x){j:Nat}(hj:j<n+1) :
 ∃ z:Int,c j*pwR (L:Rat) n=(z:Rat)*pwR (L:Rat) j/\z.natAbs<=fcN n*(M+1)^n:=by
 have hd:ZP (n+1) (fcN n*(M+1)^n) fun y=>qdt n (fun t i=>y*idq t i+A i t*(L:Rat)):=ZP.det n fun t i=>by
  obtain⟨z,h1,h2⟩:=hZ i t;by_cases e:i=t
  ·exact⟨z,1,gV,fun x=>by rw[h1,show idq t i=1 from if_pos e,show ((1:Int):Rat)=1 from rfl];grind⟩
  ·exact⟨z,0,gV,fun x=>by rw[h1,show idq t i=0 from if_neg e,show ((0:Int):Rat)=0 from rfl];grind⟩
 obtain⟨z,h1,h2⟩:=hd;refine⟨z j,?_,As9 (Ae2 (f:=fun j=>(z j).natAbs) hj) h2⟩;have h3:=Ae0 (d:=n+1) (c:=fun j=>c j*pwR (L:Rat) n) (c':=fun j=>(z j:Rat)*pwR (L:Rat) j) (fun x=>?_) hj
 ·exact h3
 ·have h4:=h1 ((L:Rat)*x);have e1:qdt n (fun t i=>(L:Rat)*x*idq t i+A i t*(L:Rat))=pwR (L:Rat) n*E2 n noS A x:=by
   unfold E2;rw[<-Afj]
   congr 1
   funext t i
   unfold dgS noS;rw[if_neg mV];grind
  have h4':qdt n (fun t i=>(L:Rat)*x*idq t i+A i t*(L:Rat))=evP (n+1) (fun j=>(z j:Rat)) ((L:Rat)*x):=h4;rw[e1,hc]at h4';have e2:evP (n+1) (fun j=>c j*pwR (L:Rat) n) x=pwR (L:Rat) n*evP (n+1) c x:=by
   unfold evP;rw[<-Bj];exact Af fun j _=>by grind
  rw[e2,h4'];unfold evP;exact Af fun j _=>by rw[Sc];grind
end
section
variable {C:CF}{N:Nat}{P:List Par}
theorem Zm (L:Nat):∀ m,pwR (L:Rat) m=((L^m:Nat):Rat)
 |0=>by simp[pwR]
 |m+1=>by rw[pwR,Zm L m,Auc,Awt]
theorem Ae4 (x:Rat)(m:Nat):∀ k,pwR x (m+k)=pwR x m*pwR x k
 |0=>by simp only[pwR,Nat.add_zero];grind
 |k+1=>by
  show pwR x (m+k)*x=_;rw[Ae4 x m k,pwR];grind
theorem Aq0:∀ n,n<=6->fcN n<=720:=fV
theorem Amp (hcd:Le N C)(hN:N<=33000000000)(hc:0<C.c)(h6:P.length<=6):∀ q∈Ao (Cs C P),De 138 133 q:=by
 obtain⟨L,h0,hL,h⟩:=Af6 hcd hc;have hNN:N*N<=33000000000*33000000000:=Aut hN hN;obtain⟨c,b,hA⟩:=Agv P.length (fun i k=>-(en (Cs C P) i k));have hcl:=Aax (Rz (C:=C) (P:=P)) hA;intro q hq;rw[hcl]at hq;obtain⟨j,hj,rfl⟩:=Ate.1 hq;have hj':=List.mem_range.1 hj;obtain⟨z,h1,h2⟩:=Aru (M:=2*(N*N)) h0 (fun i k=>by
  by_cases hik:i<P.length/\k<P.length
  ·obtain⟨z,e1,e2⟩:=h (P.getD i Cd) (P.getD k Cd);refine⟨-z,?_,by rw[Avp];exact e2⟩;rw[N9 hik.1 hik.2,Ayf,<-e1];grind
  ·refine⟨0,?_,mV⟩;have:en (Cs C P) i k=0:=by
    unfold en;by_cases hi:i<P.length
    ·have hk:¬ k<P.length:=fun hk=>hik ⟨hi,hk⟩;have hl:=(Rz (C:=C) (P:=P)).2 i hi;unfold gR;rw[As7,Att oV];rfl
    ·have e:gM (Cs C P) i = []:=by
      unfold gM;rw[As7,Att (by rw[(Rz (C:=C) (P:=P)).1];omega)];rfl
     rw[e];rfl
   rw[this,show ((0:Int):Rat)=0 from rfl];grind) hA.det hj'
 have hp:pwR (L:Rat) P.length=pwR (L:Rat) j*pwR (L:Rat) (P.length-j):=by
  rw[<-Ae4,show j+(P.length-j)=P.length by omega]
 have hne:pwR (L:Rat) j≠0:=by rw[Zm];exact N7 (Aym h0)
 have h3:c j*((L^(P.length-j):Nat):Rat)=(z:Rat):=by
  rw[<-Zm];rw[hp]at h1;generalize pwR (L:Rat) j=a at *
  generalize pwR (L:Rat) (P.length-j)=d at *
  have:a*(c j*d-(z:Rat))=0:=by grind
  rcases Rat.mul_eq_zero.1 this with h5|h5
  ·exact absurd h5 hne
  ·grind
 have hL22:L<=10^22:=As9 hL (As9 hNN fV);refine⟨z,L^(P.length-j),h3,Aym h0,?_,?_⟩
 ·have hM:2*(N*N)+1<=10^22:=oV
  have e1:(2*(N*N)+1)^P.length<=(10^22)^6:=As9 (Nat.pow_le_pow_left hM _) (Atq fV h6);have e2:=Aut (Aq0 _ h6) e1;exact Aum (As9 h2 e2) fV
 ·have e1:L^(P.length-j)<=(10^22)^6:=As9 (Nat.pow_le_pow_left hL22 _) (Atq fV oV);exact Aum e1 fV
theorem Aim (hcd:Le N C)(hN:N<=33000000000)(hc:0<C.c)(h6:P.length<=6):∀ q∈Ao (Cs C P),Tx q/\Sz q 16:=fun q hq=>by
 have h:=Amp hcd hN hc h6 q hq;obtain⟨h1,h2⟩:=h.frac;exact⟨h.tx oV oV oV oV,A0 (Auf h1 fV),A0 (Auf h2 fV)⟩
end
section
section
variable {u:PH} {v cv:Value} {T:List (List UInt8×Nat)} {R:List Ch} {F:List Aq} {lab:Int} {C:CF} {K k:Nat} {P:List Par}
theorem Ah1 (h:Ang u v cv T R F lab C K k P)(h0:k=0):Fn0 prog 9 [v,cv] u fun r _=>r=.tuple #[.slice none 0 0,.int .i64 12]:=by
 have hprm:=Ny h.sch h.ok h.cof h.sC h.vC (As9 h.K oV) h.bel;have h24:=h.p24;have hS:=h.mom;obtain⟨xa,xc,xb,xd,xe,xf,rfl,_⟩:=id h.sch;obtain⟨a1,n1,c1,a2,n2,c2,rfl⟩:=id h.cof.opn;refine Fn0.o func9 ?_;refine G.c call35 hprm ?_;intro v1 u1 l1 hp;obtain⟨ps,P',rfl,hL,_,hPL⟩:=hp.resolve_left fun⟨_,L,h1,hPL⟩=>by have:=congrArg Av5 (h.prm.eq hPL);omega
 obtain⟨pa,pc,rfl⟩:=hL.opn;refine G.nF 0 0 ?_;refine G.c call36 (S4 hS.tx) ?_;rintro v2 u2 l2 rfl;refine G.leqT (sgn C.c.num) 0 kV (by
  have:C.c=0:=by rw[hS.c,h0];rfl
  rw[As0.2 this];exact Int.le_refl _) ?_
 exact G.r (.tuple #[.slice none 0 0,.int .i64 12]) ⟨rfl,rfl⟩
theorem Ag1 (h:Ang u v cv T R F lab C K k P)(h0:k≠0)(h12:12<P.length):Fn0 prog 9 [v,cv] u fun r _=>r=.tuple #[.slice none 0 0,.int .i64 3]:=by
 have hprm:=Ny h.sch h.ok h.cof h.sC h.vC (As9 h.K oV) h.bel;have h24:=h.p24;have hS:=h.mom;obtain⟨xa,xc,xb,xd,xe,xf,rfl,_⟩:=id h.sch;obtain⟨a1,n1,c1,a2,n2,c2,rfl⟩:=id h.cof.opn;refine Fn0.o func9 ?_;refine G.c call35 hprm ?_;intro v1 u1 l1 hp;obtain⟨ps,P',rfl,hL,_,hPL⟩:=hp.resolve_left fun⟨_,L,h1,hPL⟩=>by have:=congrArg Av5 (h.prm.eq hPL);omega
 cases h.prm.eq hPL;obtain⟨pa,pc,rfl⟩:=hL.opn;rw[Ata]at hL⊢;refine G.nF 0 0 ?_;refine G.c call36 (S4 hS.tx) ?_;rintro v2 u2 l2 rfl;refine G.leqF (sgn C.c.num) 0 kV (by
  have h1:C.c.num=(k:Int):=by rw[hS.c];exact Rat.num_natCast k
  rw[h1,Cf oV];omega) ?_
 refine G.gT (P.length:Int) 12 ?_;exact G.r (.tuple #[.slice none 0 0,.int .i64 3]) ⟨rfl,rfl⟩
theorem Akr (ht:D1 u)(h:Ang u v cv T R F lab C K k P)(h0:k≠0)(h12:P.length<=12):Fn0 prog 9 [v,cv] u fun r u'=>∃ a,r=.tuple #[a,.int .i64 0]/\Bx u' a (Br (Cs C P)):=by
 have hprm:=Ny h.sch h.ok h.cof h.sC h.vC (As9 h.K oV) h.bel;have h24:=h.p24;have hS:=h.mom;have hof:=fun (u':PH) (l:PH.le u u')=>Fn0.weak (Ak.giveAll (of0 (h.cof.mono l) h.sC (As9 h.K oV))) fun v u' ⟨u1,m1,l1,l2,h⟩=>h.give l1 l2;obtain⟨xa,xc,xb,xd,xe,xf,rfl,_⟩:=id h.sch;obtain⟨a1,n1,c1,a2,n2,c2,rfl⟩:=id h.cof.opn;have csz:Sz C.c 1000000000000:=hS.csz.mono oV;have ssz:∀ p,Sz (C.s p) 1000000000000:=fun p=>(hS.s p).s1000 oV oV oV oV;have tsz:∀ p,Sz (C.t p) 1000000000000:=fun p=>(hS.t p).s1000 oV oV oV oV;have hne:=hS.cne h0;refine Fn0.o func9 ?_;refine G.c call35 hprm ?_;intro v1 u1 l1 hp;obtain⟨ps,P',rfl,hL,_,hPL⟩:=hp.resolve_left fun⟨_,L,h1,hPL⟩=>by have:=congrArg Av5 (h.prm.eq hPL);omega
 cases h.prm.eq hPL;clear hp;obtain⟨pa,pc,rfl⟩:=hL.opn;rw[Ata]at hL⊢;refine G.nF 0 0 ?_;refine G.c call36 (S4 hS.tx) ?_;rintro v2 u2 l2 rfl;refine G.leqF (sgn C.c.num) 0 kV (by
  have h1:C.c.num=(k:Int):=by rw[hS.c];exact Rat.num_natCast k
  rw[h1,Cf oV];omega) ?_
 refine G.gF (P.length:Int) 12 ?_;refine G.c call37 (hof u2 (l1.trans l2)) ?_;intro v3 u3 l3 k3;have hc:∃ b a n c b' a' n' c' g1 g2,v3=.agg #[.bool b,.slice a n c,.bool b',.slice a' n' c',.map (some g1),.map (some g2)]/\An u3 (.agg #[.bool b,.slice a n c,.bool b',.slice a' n' c']) C.c:=by
  obtain⟨b,a,n,c,b',a',n',c',g1,g2,o1,o2,e,h1,_⟩:=id k3;exact⟨b,a,n,c,b',a',n',c',g1,g2,e,h1⟩
 obtain⟨b,a,n,c,b',a',n',c',g1,g2,rfl,hcn⟩:=hc;have le3:=(l1.trans l2).trans l3;have hL3:=hL.mono (l2.trans l3);have ht3:=ht.mono le3;clear hL;refine G.l (ι:=Nat×(Option Addr×Nat)×List Value) (fun i=>[(6,sV pa P.length pc),(8,.p 8002 0),(9,sV i.2.1.1 i.2.2.length i.2.1.2),(39,sV pa P.length pc),(40,iV P.length),(41,iV i.1)])
  (fun _=>[(8002,⟨107,[bV b,sV a n c,bV b',sV a' n' c',.v (.map (some g1)),.v (.map (some g2))]⟩)])
  (fun i u' m'=>i.1<=P.length/\Hj u' i.2.2 (Br ((P.take i.1).map fun p=>P.map fun q=>Ev C p q))/\Ae PH.mt m' (.slice i.2.1.1 i.2.2.length i.2.1.2) 60 1 i.2.2) (fun i=>P.length-i.1)
  (0,(none,0),[]) ⟨oV,⟨rfl,fun j r hj=>by simp[Br]at hj⟩,Ae.nil _ _ _⟩ ?_
 rintro J ⟨i,⟨ya,yc⟩,es⟩ hJ u4 m4 l4 ⟨hi,hR,hA⟩;simp only at hi hR hA hJ;have hel:es.length=i:=by rw[hR.1];simp[Br];omega
 by_cases hlt:i<P.length
 ·refine G.lT (i:Int) (P.length:Int) ?_;obtain⟨p,hpi⟩:∃ p,P[i]?=some p:=⟨_,As5 hlt⟩;have htk:P.take (i+1)=P.take i++[p]:=by rw[At0,hpi];rfl
  obtain⟨bp,op,rfl,ep⟩:=Ad.at' (hL3.mono l4) (j:=i) (e:=A3 p) (by simp[hpi]);refine G.a bp op P.length pc i 2 hlt ?_;refine G.lU (some 2) bp (op+i*2) (.agg #[.int .i64 p.1,.string (mkS p.2)]) ep ?_;refine G.l (ι:=Nat×(Option Addr×Nat)) (fun j=>[(6,sV (some ⟨bp,op,none⟩) P.length pc),(8,.p 8002 0),(9,sV ya es.length yc),(11,.p 12002 0),(12,sV j.2.1 j.1 j.2.2),(39,sV (some ⟨bp,op,none⟩) P.length pc),(40,iV P.length),(41,iV i),(45,sV (some ⟨bp,op,none⟩) P.length pc),(46,iV P.length),(47,iV j.1)])
   (fun _=>[(8002,⟨107,[bV b,sV a n c,bV b',sV a' n' c',.v (.map (some g1)),.v (.map (some g2))]⟩),(12002,⟨110,[iV p.1,tV p.2]⟩)])
   (fun j u' m'=>j.1<=P.length/\Ae m4 m' (.slice j.2.1 j.1 j.2.2) 34 1 (Bo (((P.take j.1).map fun q=>Ev C p q).map Ap))) (fun j=>P.length-j.1)
   (0,none,0) ⟨oV,Ae.nil _ _ _⟩ ?_
  rintro J2 ⟨j,ra,rc⟩ hJ2 u5 m5 l5 ⟨hj,hB⟩;simp only at hj hB hJ2;have le5:=l4.trans l5;have hbl:(Bo (((P.take j).map fun q=>Ev C p q).map Ap)).length=j:=by rw[Bm];simp;omega
  by_cases hjl:j<P.length
  ·refine G.lT (j:Int) (P.length:Int) ?_;obtain⟨q,hqj⟩:∃ q,P[j]?=some q:=⟨_,As5 hjl⟩;have htj:P.take (j+1)=P.take j++[q]:=by rw[At0,hqj];rfl
   obtain⟨bq,oq,e0,eq⟩:=Ad.at' (hL3.mono le5) (j:=j) (e:=A3 q) (by simp[hqj]);cases e0;have hsp:=hS.mean h0 p;have hsq:=hS.mean h0 q;have htn:=hS.tn h0 (A5 p q);have hmm:De 150 40 (C.s p/C.c*(C.s q/C.c)):=hsp.mul hsq;have hcv:De 171 60 (Ev C p q):=hS.cov h0 p q;refine G.a bp op P.length pc j 2 hjl ?_;refine G.lU (some 2) bp (op+j*2) (.agg #[.int .i64 q.1,.string (mkS q.2)]) eq ?_;refine G.c call38 (Ajd p q (k3.mono le5)) ?_;intro v6 u6 l6 k6;obtain⟨b6,a6,n6,c6,b6',a6',n6',c6',rfl⟩:=k6.opn;have le6:=le5.trans l6;refine G.c call39 (Ib k6 (hcn.mono le6) (tsz _) csz hne) ?_;intro v7 u7 l7 k7;obtain⟨b7,a7,n7,c7,b7',a7',n7',c7',rfl⟩:=k7.opn;have le7:=le6.trans l7;refine G.c call41 (Afq p (k3.mono le7)) ?_;intro v8 u8 l8 k8;obtain⟨b8,a8,n8,c8,b8',a8',n8',c8',rfl⟩:=k8.opn;have le8:=le7.trans l8;refine G.c call39 (Ib k8 (hcn.mono le8) (ssz _) csz hne) ?_;intro v9 u9 l9 k9;obtain⟨b9,a9,n9,c9,b9',a9',n9',c9',rfl⟩:=k9.opn;have le9:=le8.trans l9;refine G.c call41 (Afq q (k3.mono le9)) ?_;intro v10 u10 l10 k10;obtain⟨b10,a10,n10,c10,b10',a10',n10',c10',rfl⟩:=k10.opn;have le10:=le9.trans l10;refine G.c call39 (Ib k10 (hcn.mono le10) (ssz _) csz hne) ?_;intro v11 u11 l11 k11;obtain⟨b11,a11,n11,c11,b11',a11',n11',c11',rfl⟩:=k11.opn;have le11:=le10.trans l11;refine G.c call42 (L6 (k9.mono (l10.trans l11)) k11 (hsp.s1000 oV oV oV oV) (hsq.s1000 oV oV oV oV)) ?_;intro v12 u12 l12 k12;obtain⟨b12,a12,n12,c12,b12',a12',n12',c12',rfl⟩:=k12.opn;refine G.c call40 (Aby (k7.mono ((((l8.trans l9).trans l10).trans l11).trans l12)) k12 (htn.s1000 oV oV oV oV) (hmm.s1000 oV oV oV oV)) ?_;intro v13 u13 l13 k13;obtain⟨b13,a13,n13,c13,b13',a13',n13',c13',rfl⟩:=k13.opn;have le13:=(le11.trans l12).trans l13;refine G.c call43 (Qn (ht3.mono le13) k13 (show Tx (Ev C p q) from hcv.tx oV oV oV oV)) ?_;rintro v14 u14 l14 rfl;refine G.nF 0 0 ?_;refine G.B 34 1 16 (.string (mkS [])) [.string (mkS (Ap (Ev C p q)))] (Dv [Ap (Ev C p q)]) ?_;intro g15 u15 l15 e15;refine G.append 34 1 16 (.string (mkS [])) m4 (Bo (((P.take j).map fun q=>Ev C p q).map Ap)) [.string (mkS (Ap (Ev C p q)))] (.slice ra j rc) g15 0 1 1 kV rfl rfl oV hB e15 (Dv [Ap (Ev C p q)]) rfl oV (by rw[hbl];omega) (by rw[hbl];omega) ?_;intro v16 m16 hB16;have e16:Bo (((P.take j).map fun q=>Ev C p q).map Ap)++[.string (mkS (Ap (Ev C p q)))]=Bo (((P.take (j+1)).map fun q=>Ev C p q).map Ap):=by rw[htj,Atk,Atk,Ss];rfl
   rw[e16]at hB16;obtain⟨a16,c16,rfl⟩:=hB16.shape;rw[show (Bo (((P.take (j+1)).map fun q=>Ev C p q).map Ap)).length=j+1 by rw[Bm];simp;omega]at hB16⊢;refine G.i j ?_;exact G.b (hJ2 (j+1,a16,c16) _ _ _ cV (((((((((l5.trans l6).trans l7).trans l8).trans l9).trans l10).trans l11).trans l12).trans l13).trans (l14.trans l15)) ⟨dV,hB16⟩ dV)
  obtain rfl:j=P.length:=oV
  refine G.lF (P.length:Int) (P.length:Int) ?_;rw[At9]at hB;refine G.give m4 _ _ kV hB (fun g=>.inl rfl) ?_;intro u6 l6 hrow;have hrl:((P.map fun q=>Ev C p q).map Ap).length=P.length:=mV
  refine G.B 60 1 24 (.slice none 0 0) [.slice ra P.length rc] (G3 _ _ _) ?_;intro g7 u7 l7 e7;refine G.append 60 1 24 (.slice none 0 0) PH.mt es [.slice ra P.length rc] _ g7 0 1 1 kV rfl rfl oV hA e7 (G3 _ _ _) rfl oV oV oV ?_;intro v8 m8 hA8;obtain⟨a8,c8,rfl⟩:=hA8.shape;refine G.i i ?_;refine G.b (hJ (i+1,(a8,c8),es++[.slice ra P.length rc]) _ _ _ cV ((le5.trans l6).trans l7) ⟨dV,?_,hA8⟩ dV);dsimp only;have e9:Br ((P.take (i+1)).map fun p=>P.map fun q=>Ev C p q)=Br ((P.take i).map fun p=>P.map fun q=>Ev C p q)++[(P.map fun q=>Ev C p q).map Ap]:=by rw[htk];simp[Br]
  rw[e9];have hrow':=Ad.mono hrow l7;have:=(hR.mono ((l5.trans l6).trans l7)).snoc1 (a:=ra) (c:=rc) (r:=(P.map fun q=>Ev C p q).map Ap) (by rw[hrl];exact hrow');rw[hrl]at this;exact this
 ·obtain rfl:i=P.length:=oV
  refine G.lF (P.length:Int) (P.length:Int) ?_;rw[At9]at hR;refine G.give _ _ _ kV hA (fun g=>.inl rfl) ?_;intro u6 l6 hF;exact G.r (.tuple #[.slice ya es.length yc,.int .i64 0]) ⟨rfl,_,rfl,es,hF,hR.mono l6⟩
end
end
section
theorem Acl {u:PH}{v:Value}{A:List (List Rat)}(h:Bx u v (Br A))(hs:Sq A)(hy:Aaw A):Fn0 prog 11 [v] u fun v' _=>v'=.bool true:=by
 obtain⟨a,c,rfl⟩:=h.opn;rw[Ba]at h⊢;have hle:=hs.le;refine Fn0.o func11 ?_;refine G.c call45 (Ah3 h hs) ?_;rintro v1 u1 l1 rfl;refine G.nF 0 0 ?_;refine G.nF (A.length:Int) (A.length:Int) ?_;refine G.l (ι:=Nat) (fun i=>[(0,sV a A.length c),(22,iV A.length),(23,iV i)]) (fun _=>[])
  (fun i u' m'=>i<=A.length/\m'=PH.mt) (fun i=>A.length-i) 0 ⟨oV,rfl⟩ ?_
 rintro J i hJ u2 m2 l2 ⟨hi,rfl⟩;by_cases hlt:i<A.length
 ·refine G.lT (i:Int) (A.length:Int) ?_;have hM2:=h.mono (l1.trans l2);have hki0:0<A[i].length:=by rw[hs.len hlt];omega
  obtain⟨b1,o1,b2,o2,c2,rfl,e1,e2⟩:=hM2.cell hlt hki0;refine G.a b1 o1 A.length c i 1 oV ?_;refine G.lU none b1 (o1+i*1) _ e1 ?_;rw[hs.len hlt]at e1⊢;refine G.l (ι:=Nat) (fun k=>[(0,sV (some ⟨b1,o1,none⟩) A.length c),(22,iV A.length),(23,iV i),(6,iV i),(30,iV A.length),(31,iV k)]) (fun _=>[])
   (fun k u' m'=>k<=A.length/\m'=PH.mt) (fun k=>A.length-k) 0 ⟨oV,rfl⟩ ?_
  rintro J2 k hJ2 u3 m3 l3 ⟨hk,rfl⟩;by_cases hkl:k<A.length
  ·refine G.lT (k:Int) (A.length:Int) ?_;have hki:k<A[i].length:=by rw[hs.len hlt];omega
   have hik:i<A[k].length:=by rw[hs.len hkl];omega
   have hM:=h.mono (l1.trans (l2.trans l3));obtain⟨b1',o1',b2',o2',c2',e0,e1',e2'⟩:=hM.cell hlt hki;cases e0;refine G.a b1 o1 A.length c i 1 oV ?_;refine G.lU none b1 (o1+i*1) _ e1' ?_;refine G.a b2' o2' A[i].length c2' k 1 hki ?_;refine G.lU none b2' (o2'+k*1) _ e2' ?_;obtain⟨b3,o3,b4,o4,c4,e0,e3,e4⟩:=hM.cell hkl hik;cases e0;refine G.a b1 o1 A.length c k 1 oV ?_;refine G.lU none b1 (o1+k*1) _ e3 ?_;refine G.a b4 o4 A[k].length c4 i 1 hik ?_;refine G.lU none b4 (o4+i*1) _ e4 ?_;refine G.y (Ap A[i][k]) (Ap A[k][i]) (by rw[hy i k hlt hkl hki hik]) ?_;refine G.i k ?_;exact G.b (hJ2 (k+1) _ _ _ cV l3 ⟨oV,rfl⟩ oV)
  ·refine G.lF (k:Int) (A.length:Int) ?_;refine G.i i ?_;exact G.b (hJ (i+1) _ _ _ cV (l2.trans l3) ⟨oV,rfl⟩ oV)
 ·refine G.lF (i:Int) (A.length:Int) ?_;exact G.r (.bool true) ⟨rfl,rfl⟩
section
variable {x y:Arr} {rows:List (Value×List Value)} {rest:List Arr}
end
end
section
variable {F:List Aq}{L:List G7}{R:List Ch}{T:List (List UInt8×Nat)}{lab:Int}{u:PH}
theorem Al3 (ok:Bz u T R F lab):∀ l:Nat,lab=(l:Int)->l<T.length:=fun l hl=>by
 obtain⟨n,hn⟩:=ok.l2 l hl;exact (List.getElem?_eq_some_iff.1 hn).1
theorem Apq (ok:Bz u T R F lab)(h8:T.length<=8)(hT:∀ y∈L,Do T y.1/\y.2.1<=7)(h6:L.length<=6):CFD 16 (10^75) (Fq F lab L):=by
 obtain⟨d,_⟩:=Xz ok hT;refine d.to oV ?_;have e:12^(16-2*T.length)=144^(8-T.length):=by
  rw[show 16-2*T.length=2*(8-T.length) by omega,Nat.pow_mul]
 have h1:144^(8-T.length)<=1374926400^(8-T.length):=Nat.pow_le_pow_left oV _;have h2:1374926400^T.length*1374926400^(8-T.length)=1374926400^8:=by rw[<-Nat.pow_add];congr 1;omega
 have h3:1374926400^8*42<=10^75:=jV
 rw[e];have h4:L.length*(1374926400^T.length*7)*144^(8-T.length)<=6*(1374926400^T.length*7)*1374926400^(8-T.length):=Aut (Ats _ h6) h1;have h5:6*(1374926400^T.length*7)*1374926400^(8-T.length)=(1374926400^T.length*1374926400^(8-T.length))*42:=by
  generalize 1374926400^T.length=a;generalize 1374926400^(8-T.length)=b;rw[At7 6,Atz a 7 6,Atz a b 42,Atz a (7*6) b,At7 (7*6) b]
 rw[h5,h2]at h4;exact As9 h4 h3
theorem Ajw (ok:Bz u T R F lab)(h8:T.length<=8)(hT:∀ y∈L,Do T y.1/\y.2.1<=7)(h6:L.length<=6):∃ k,M5 (Fq F lab L) k:=by
 obtain⟨k,hk,hk7⟩:=Aqg ok.feat ok.l1 (Al3 ok) hT;have d:=Apq ok h8 hT h6;have e2:12^16<10^18:=jV
 obtain⟨d',_⟩:=Xz ok hT;have e1:L.length*(1374926400^T.length*7)<10^75:=by
  have h1:1374926400^T.length<=1374926400^8:=Atq oV h8;have h2:1374926400^8*42<10^75:=jV
  have h3:=Aut h6 (Ats 7 h1);omega
 have e3:12^(2*T.length)<10^18:=Aum (Atq oV oV) e2;exact⟨k,hk,oV,fun p=>(d'.s p).de e1 e3,fun p=>(d'.t p).de e1 e3⟩
theorem Am4 {u:PH}{T:List (List UInt8×Nat)}{R:List Ch}{F:List Aq}{lab:Int}{L:List G7}{xv cv:Value}{P:List Par}(hX:Ir u xv T R F lab)(ok:Bz u T R F lab)(h8:T.length<=8)(hT:∀ y∈L,Do T y.1/\y.2.1<=7)(h6:L.length<=6)
 (hC:Lw u cv (Fq F lab L) 1530) (hP:Uf F (Fq F lab L) P) (p24:P.length<=24) (lab0:0<=lab):∃ k,Ang u xv cv T R F lab (Fq F lab L) 1530 k P:=by
 obtain⟨k,hk⟩:=Ajw ok h8 hT h6;obtain⟨sC,vC⟩:=Td ok h8 hT oV;exact⟨k,hX,ok,hC,sC,vC,oV,Ae3,hk,hP,p24,lab0,Apq ok h8 hT h6⟩
end
section
variable {u:PH}{v:Value}
section
variable {C:CF} {N:Nat} {P:List Par}
theorem Abt {r:List Rat}{q:Rat}(hr:r∈Cs C P)(hq:q∈r):∃ p p',q=Ev C p p':=by
 unfold Cs at hr;obtain⟨p,_,rfl⟩:=Ate.1 hr;obtain⟨p',_,rfl⟩:=Ate.1 hq;exact⟨p,p',rfl⟩
theorem E8:(Cs C P).length=P.length:=by simp[Cs]
theorem Alz (hcd:Le N C)(hN:N<=33000000000)(hc:0<C.c)(h12:P.length<=12):Sq (Cs C P) where
 le:=by rw[E8];exact h12
 row:=fun r hr=>by
  rw[E8];unfold Cs at hr;obtain⟨p,_,rfl⟩:=Ate.1 hr;simp
 tx:=fun r hr q hq=>by
  obtain⟨p,p',rfl⟩:=Abt hr hq;exact (Alm hcd hN hc p p').2
theorem U5:Aaw (Cs C P):=fun i k hi hk h1 h2=>by
 have hi':i<P.length:=by rw[E8]at hi;exact hi
 have hk':k<P.length:=by rw[E8]at hk;exact hk
 have e:=Afm (C:=C) (P:=P) i k hi' hk';unfold en at e;rwa[Q5 hi,Q5 hk,F3 h1,F3 h2]at e
theorem X6 (hcd:Le N C)(hN:N<=33000000000)(hc:0<C.c):∀ r∈Cs C P,SzL r 3:=fun r hr q hq=>by
 obtain⟨p,p',rfl⟩:=Abt hr hq;obtain⟨h1,h2⟩:=(Alm hcd hN hc p p').1.frac;exact⟨A0 (Auf h1 fV),A0 (Auf h2 fV)⟩
theorem Aj2 (hcd:Le N C)(hN:N<=33000000000)(hc:0<C.c)(h6:P.length<=6):Aa2 (Cs C P) 3 where
 sq:=Alz hcd hN hc oV
 sym:=U5
 le:=by rw[E8];exact h6
 tle:=.inl oV
 sz:=X6 hcd hN hc
 light:=by
  obtain⟨L,hL⟩:=Aid (P:=P) hcd hN hc;exact⟨L,22,oV,hL⟩
theorem Aj0 {A:List (List Rat)}{L:Nat}{M:Nat}(h:∀ i,i<A.length->∃ z:Int,gR (gM A i) i*(L:Rat)=z/\z.natAbs<=M):∀ (f i:Nat) (s:Rat),i+f<=A.length->(∃ z:Int,s*(L:Rat)=z/\z.natAbs<=i*M)->∃ z:Int,Vl A f i s*(L:Rat)=z/\z.natAbs<=(i+f)*M
 |0,i,s,_,hs=>hs
 |f+1,i,s,hi,⟨z,h1,h2⟩=>by
  obtain⟨y,h3,h4⟩:=h i oV;rw[Vl,show i+(f+1)=i+1+f by omega];refine Aj0 h f (i+1) _ oV ⟨z+y,by rw[Az9,<-h1,<-h3];grind,?_⟩;rw[Nat.succ_mul];omega
theorem Ajr (hcd:Le N C)(hN:N<=33000000000)(hc:0<C.c)(h6:P.length<=6):Tx (trL (Cs C P)):=by
 obtain⟨L,h0,hL,h⟩:=Af6 hcd hc;have hNN:N*N<=33000000000*33000000000:=Aut hN hN;obtain⟨z,h1,h2⟩:=Aj0 (A:=Cs C P) (L:=L) (M:=2*(N*N)) (fun i hi=>by
  have hi':i<P.length:=by rw[E8]at hi;exact hi
  have e:=N9 (C:=C) (P:=P) hi' hi';unfold en at e;rw[e];exact h _ _) (Cs C P).length 0 0 oV ⟨0,by rw[show ((0:Int):Rat)=0 from rfl];grind,oV⟩
 have h3:(0+(Cs C P).length)*(2*(N*N))<=6*(2*(N*N)):=Ats _ (by rw[E8];omega);exact De.tx (a:=23) (b:=22) ⟨z,L,h1,h0,oV,oV⟩ oV oV oV oV
end
theorem Aox {cv:Value}{T:List (List UInt8×Nat)}{F:List Aq}{lab:Int}{C:CF}{K:Nat}(hC:Lw u cv C K)(hF:Ef T F lab):∃ P,Uf F C P:=by
 obtain⟨A,Q,a1,c1,a2,c2,rfl,hA,hQ,cA,cQ,kA,kQ⟩:=hC;exact⟨Fv F A F.length,P8 cA.srt _,fun p=>Zw cA fun f hf=>by
  obtain⟨n,k,_,h2,_⟩:=hF.ok f hf;rcases h2 with ⟨h2,_⟩|⟨h2,_⟩
  ·exact .inl h2
  ·exact .inr h2⟩
theorem Aqo (n:Nat):Nj 0 n 12:=R6 (Jx jV) n
theorem Asf {n:Nat}(h:n<=6):bd 16 12 (N4 (n+1) (n+1))<=1000000000000 :=
 As9 (Aan 16 12 (R7 (n:=n+1) oV).1) jV
theorem Aip {C:CF}{N:Nat}{P:List Par}(ht:D1 u)(h:Bx u v (Br (Cs C P)))(hcd:Le N C)(hN:N<=33000000000)(hc:0<C.c)(h6:P.length<=6)(hnd:P.Nodup)(hp:∀ z,0<=Iv z P C) :
 Fn0 prog 12 [v,.string (mkS [48])] u fun v' _=>∃ e:Nat,v'=.tuple #[.int .i64 0,.int .i64 (e:Int),.int .i64 0]:=by
 have hb:=Adh (S:=16) (T':=12) (x:=0) ht h (Aj2 hcd hN hc h6) (Aqo _) (fun _ q hq=>(Aim hcd hN hc h6 q hq).2) (by rw[E8];exact Asf h6) oV;rw[Qi]at hb;refine Fn0.weak hb ?_;rintro v' u' rfl;rw[Am0 Rz Afm (Afk hnd hc hp)];exact⟨_,rfl⟩
theorem Abq {ts:List Int}(ht:D1 u)(hv:Ad u v 1 (Ei ts))(hlo:∀ t∈ts,-9223372036854775808<=t)(hhi:∀ t∈ts,t<=9223372036854775807) :
 Fn0 prog 3 [v] u fun v' _=>v'=.bool true:=by
 obtain⟨a,c,rfl⟩:=hv.opn;rw[B3]at hv⊢;refine Fn0.o func3 ?_;by_cases h400:400<ts.length
 ·refine G.gT (ts.length:Int) 400 ?_;refine G.c call4 (Sy ht) ?_;rintro v1 u1 l1 rfl;exact G.r (.bool true) ⟨rfl,rfl⟩
 refine G.gF (ts.length:Int) 400 ?_;refine G.callO _ _ kV call5 (Anw hv oV hlo hhi) ?_;rintro v1 u1 m1 l1 ⟨s,rfl,rfl,hs⟩ _;rw[C6];refine G.A call6 (Y8 4 oV oV hs (Atu _)) ?_;rintro v2 u2 m2 l2 ⟨T,R,F,lab,k1,hX,ok,hT8,hlab,hF0,hk1,rfl,hF4⟩ _;rw[C6];obtain⟨xa,xc,xb,xd,xe,xf,rfl,_⟩:=id hX;refine G.A call7 (Aeg (most:=5) (hs.mono l2) hk1 hX ok oV) ?_;rintro v3 u3 m3 l3 ⟨L,k2,hL,hL5,hW,h9,hk2,rfl⟩ _;rw[C6];obtain⟨la,lc,rfl⟩:=hL.opn;rw[Ata]at hL⊢;refine G.c call8 (Ys (hX.mono l3) (ok.mono l3) hT8 hL hW oV) ?_;rintro v4 u4 l4 ⟨cv,rfl,k4⟩;have hTup:=hW.tup;have h1l:-1<=lab:=ok.l1;have h2l:=Al3 ok;have hfeat:=ok.feat;have hcd:=Ahi (L:=L) ok h1l h2l hTup;have hN:L.length*2406121200<=33000000000:=oV
 have hpsd:=fun (P:List Par) (z:Option Par->Rat)=>Al9 hfeat h1l h2l z P (L:=L) fun y hy=>(hTup y hy).1;obtain⟨sC,vC⟩:=Td ok hT8 hTup oV;have hprm:=Uc (hX.mono (l3.trans l4)) (ok.mono (l3.trans l4)) k4 sC vC oV Ae3;have hprl:∀ P,Uf F (Fq F lab L) P->P.length<=16:=fun P hP=>by
  have:=Aok hfeat (fun y hy=>(hTup y hy).1) h9.c9 hP;omega
 obtain⟨P,hP⟩:∃ P,Uf F (Fq F lab L) P:=Aox k4 hfeat;have hP16:=hprl P hP;obtain⟨k,hMe⟩:=Am4 (hX.mono (l3.trans l4)) (ok.mono (l3.trans l4)) hT8 hTup oV k4 hP oV hlab;obtain⟨e1,f1,g1,e2,f2,g2,rfl⟩:=k4.opn;have ht4:=ht.mono (((l1.trans l2).trans l3).trans l4);have hS:=hMe.mom;generalize hCF:Fq F lab L=C at *
 refine G.drop PH.mt kV (PH.mt_le _) ?_;by_cases h0:k=0
 ·have hc0:C.c=0:=by rw[hS.c,h0];rfl
  refine G.c call9 (Ah1 hMe h0) ?_;rintro v5 u5 l5 rfl;refine G.nT 12 0 ?_;refine G.eT' 12 12 rfl ?_;refine G.q (Ap C.c) [48] (by rw[hc0,Qi]) ?_;refine G.c call4 (Sy (ht4.mono l5)) ?_;rintro v6 u6 l6 rfl;exact G.r (.bool true) ⟨rfl,rfl⟩
 by_cases h12:12<P.length
 ·refine G.c call9 (Ag1 hMe h0 h12) ?_;rintro v5 u5 l5 rfl;refine G.nT 3 0 ?_;refine G.eF 3 12 ?_;refine G.eT' 3 3 rfl ?_;refine G.c call4 (Sy (ht4.mono l5)) ?_;rintro v6 u6 l6 rfl;exact G.r (.bool true) ⟨rfl,rfl⟩
 have hnd:P.Nodup:=hP.1.nodup Fr;have hc:=hS.cpos h0;refine G.c call9 (Akr ht4 hMe h0 oV) ?_;rintro v5 u5 l5 ⟨av,rfl,k5⟩;have hsq:=Alz (P:=P) hcd hN hc oV;have hsy:=fun (v:Value) (h:Bx u5 v (Br (Cs C P)))=>Acl h hsq U5;refine G.nF 0 0 ?_;refine G.c call10 (Uc (hMe.sch.mono l5) (hMe.ok.mono l5) (hMe.cof.mono l5) sC vC oV hMe.bel) ?_;intro v6 u6 l6 hp;obtain⟨ps,P',rfl,hPL,_,hP'⟩:=hp.resolve_left fun⟨_,L',h1,hP'⟩=>by have:=congrArg Av5 (hP.eq hP');omega
 cases hP.eq hP';obtain⟨pa,pc,rfl⟩:=hPL.opn;rw[Ata]at hPL⊢;have hbel:=fun (h6:P.length<=6) (u':PH) (ht:D1 u') (v:Value) (h:Bx u' v (Br (Cs C P)))=>Aip ht h hcd hN hc h6 hnd (hpsd P);have htr:=fun (h6:P.length<=6) (u':PH) (ht:D1 u') (v:Value) (h:Bx u' v (Br (Cs C P)))=>Aqv ht h hsq (fun r hr q hq=>(X6 hcd hN hc r hr q hq).mono oV) (Ajr (P:=P) hcd hN hc h6);have k6:=k5.mono l6;have hsy:=Acl k6 hsq U5;obtain⟨aa,ac,rfl⟩:=k5.opn;have hle:(Br (Cs C P)).length=P.length:=by rw[Ba,E8]
 rw[hle]at k6 hsy⊢;refine G.c call11 hsy ?_;rintro v7 u7 l7 rfl;refine G.nF (P.length:Int) (P.length:Int) ?_;have ht7:=ht4.mono ((l5.trans l6).trans l7);have k7:=k6.mono l7;by_cases h6:6<P.length
 ·refine G.gT (P.length:Int) 6 ?_;refine G.c call4 (Sy ht7) ?_;rintro v8 u8 l8 rfl;exact G.r (.bool true) ⟨rfl,rfl⟩
 refine G.gF (P.length:Int) 6 ?_;refine G.c call12 (hbel oV u7 ht7 _ k7) ?_;rintro v8 u8 l8 ⟨eq,rfl⟩;refine G.c call13 (htr oV u8 (ht7.mono l8) _ (k7.mono l8)) ?_;rintro v9 u9 l9 rfl;have k9:=k7.mono (l8.trans l9);refine G.c call14 (Uk (z:=0) oV oV) ?_;intro v10 u10 l10 k10;rw[show ((0:Int):Rat)=0 from rfl]at k10;obtain⟨b,a1,n1,c1,a2,n2,c2,rfl,_⟩:=k10.opn;refine G.l (ι:=Nat×Rat×Bool×(Option Addr×Nat×Nat)×(Option Addr×Nat×Nat)) (fun i=>[(8,sV aa P.length ac),(12,iV 0),(14,iV 0),(15,tV (Ap (trL (Cs C P)))),(16,iV 0),(17,.p 17001 0),(93,iV P.length),(94,iV i.1)])
  (fun i=>[(17001,⟨57,[bV i.2.2.1,sV i.2.2.2.1.1 i.2.2.2.1.2.1 i.2.2.2.1.2.2,bV false,sV i.2.2.2.2.1 i.2.2.2.2.2.1 i.2.2.2.2.2.2]⟩)])
  (fun i u' m'=>i.1<=P.length/\Vl (Cs C P) (P.length-i.1) i.1 i.2.1=trL (Cs C P)/\Sz i.2.1 (1+4*i.1)/\QP u' (.agg #[.bool i.2.2.1,.slice i.2.2.2.1.1 i.2.2.2.1.2.1 i.2.2.2.1.2.2,.bool false,.slice i.2.2.2.2.1 i.2.2.2.2.2.1 i.2.2.2.2.2.2]) i.2.1/\m'=PH.mt) (fun i=>P.length-i.1)
  (0,0,b,(a1,n1,c1),(a2,n2,c2)) ⟨Atu _,by unfold trL;rw[E8];rfl,Mt.mono oV,k10,rfl⟩ ?_
 rintro J ⟨i,sm,b,⟨a1,n1,c1⟩,⟨a2,n2,c2⟩⟩ hJ u11 m11 l11 ⟨hi,htg,hsz,hq,rfl⟩;simp only at hi htg hsz hq hJ;have k11:=k9.mono (l10.trans l11);by_cases hlt:i<P.length
 ·refine G.lT (i:Int) (P.length:Int) ?_;have hiA:i<(Cs C P).length:=by rw[E8];exact hlt
  have hii:i<(Cs C P)[i].length:=by rw[hsq.len hiA];exact hiA
  obtain⟨b1,o1,b2,o2,c3,rfl,e1,e2⟩:=k11.cell hiA hii;have hcl:(Cs C P)[i].length=P.length:=by rw[hsq.len hiA,E8]
  have hcell:gR (gM (Cs C P) i) i=(Cs C P)[i][i]:=by rw[Q5 hiA,F3 hii]
  have hcov:(Cs C P)[i][i]=Ev C (P.getD i Cd) (P.getD i Cd):=by rw[<-hcell];exact N9 hlt hlt
  have hmem:P.getD i Cd∈P:=by rw[As7,As5 hlt];exact Ath hlt
  have hnn:0<=(Cs C P)[i][i]:=by rw[hcov];exact An4 hnd hc (hpsd P) hmem
  have hqs:Sz (Cs C P)[i][i] 3:=X6 hcd hN hc _ (Ath hiA) _ (Ath hii);have hqt:Tx (Cs C P)[i][i]:=hsq.tx' hiA hii;rw[hcl]at e1;have hii':i<P.length:=hlt;refine G.a b1 o1 P.length ac i 1 hlt ?_;refine G.lU none b1 (o1+i*1) _ e1 ?_;refine G.a b2 o2 P.length c3 i 1 hii' ?_;refine G.lU none b2 (o2+i*1) _ e2 ?_;refine G.c call15 (Amk hqt) ?_;rintro v12 u12 l12 rfl;refine G.lF' (sgn (Cs C P)[i][i].num) 0 (by have:=Ajf (Rat.num_nonneg.2 hnn);omega) ?_;refine G.a b1 o1 P.length ac i 1 hlt ?_;refine G.lU none b1 (o1+i*1) _ (e1.mono l12) ?_;refine G.a b2 o2 P.length c3 i 1 hii' ?_;refine G.lU none b2 (o2+i*1) _ (e2.mono l12) ?_;refine G.c call17 (Tk hqt) ?_;intro v13 u13 l13 k13;obtain⟨b13,a13,n13,c13,a13',n13',c13',rfl,_⟩:=k13.opn;refine G.c call16 (Mk (hq.mono (l12.trans l13)) k13 (hsz.mono oV) (hqs.mono oV)) ?_;intro v14 u14 l14 k14;obtain⟨b14,a14,n14,c14,a14',n14',c14',rfl,_⟩:=k14.opn;refine G.i i ?_;refine G.b (hJ (i+1,sm+(Cs C P)[i][i],b14,(a14,n14,c14),(a14',n14',c14')) _ _ _ cV (((l11.trans l12).trans l13).trans l14) ⟨dV,?_,(F6 hsz hqs).mono dV,k14,rfl⟩ dV);dsimp only;rw[<-htg,show P.length-i=(P.length-(i+1))+1 by omega,Vl,hcell]
 ·obtain rfl:i=P.length:=oV
  refine G.lF (P.length:Int) (P.length:Int) ?_;rw[Nat.sub_self,Vl]at htg;subst htg;refine G.c call18 (Ov hq (Ajr hcd hN hc oV)) ?_;rintro v12 u12 l12 rfl;refine G.eT' 0 0 rfl ?_;refine G.eT' 0 0 rfl ?_;refine G.eT' 0 0 rfl ?_;refine G.q (Ap (trL (Cs C P))) (Ap (trL (Cs C P))) rfl ?_;refine G.c call4 (Sy (ht7.mono ((((l8.trans l9).trans l10).trans l11).trans l12))) ?_;rintro v13 u13 l13 rfl;exact G.r (.bool true) ⟨rfl,rfl⟩
end
end Go.Proofs.YtnafchoihfnkeaaGreatDoor
