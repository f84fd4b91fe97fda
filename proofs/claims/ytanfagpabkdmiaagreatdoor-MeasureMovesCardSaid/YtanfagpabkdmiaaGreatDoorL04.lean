/- Parts of one proof, joined by a program. -/
import Derived.Test.YtanfagpabkdmiaaGreatDoorL03
import Derived.Lib.ItoaNum
set_option linter.unusedVariables false
set_option linter.unusedSimpArgs false
set_option linter.unusedSectionVars false
set_option maxHeartbeats 16000000
namespace Go.Proofs.YtanfagpabkdmiaaGreatDoor
open Go.Proofs.Tryz
section
open Go.RowKit
variable {la ys:List Nat}
def Gz (l:List Nat):List Int:=l.map fun (n:Nat)=>(n:Int)
def Zl (la ys:List Nat)(c:Nat):List Int:=Gz ys++(match la.drop ys.length with | []=>[] | x::r=>((x:Int) - c)::Gz r)
theorem Ah1 (la:List Nat):Zl la [] 0=Gz la:=by
 unfold Zl; cases la <;> simp [Gz]
theorem Q7 (c:Nat)(h:ys.length < la.length):Zl la ys c=Gz ys++((la.getD ys.length 0:Nat) - (c:Int))::Gz (la.drop (ys.length+1)):=by
 unfold Zl; rw [B2 la ys.length h]
theorem Ll (c:Nat)(h:ys.length≤la.length):(Zl la ys c).length=la.length:=by
 rcases Nat.lt_or_ge ys.length la.length with h1 | h1
 ·rw [Q7 c h1]; simp [Gz]; omega
 ·unfold Zl; rw [List.drop_of_length_le h1]; simp [Gz]; omega
theorem Amw (c:Nat)(h:ys.length < la.length):(Zl la ys c)[ys.length]?=some ((la.getD ys.length 0:Nat) - (c:Int)):=by
 rw [Q7 c h,List.getElem?_append_right (by simp [Gz])]; simp [Gz]
theorem Akb (c:Nat)(d:Int)(h:ys.length < la.length):(Zl la ys c).set ys.length d=Gz ys++d::Gz (la.drop (ys.length+1)):=by
 rw [Q7 c h,List.set_append_right _ _ (by simp [Gz])]; simp [Gz]
theorem Q8 (c n:Nat)(h:ys.length < la.length):(Zl la ys c).set ys.length (n:Int)=Zl la (ys++[n]) 0:=by
 rw [Akb c _ h];unfold Zl;simp only [List.length_append,List.length_singleton];cases la.drop (ys.length+1) <;> simp [Gz]
theorem Aak (c n:Nat)(h:ys.length+1 < la.length):((Zl la ys c).set ys.length (n:Int)).set (ys.length+1) ((la.getD (ys.length+1) 0:Nat) - 1)=Zl la (ys++[n]) 1:=by
 rw [Q8 c n (by omega)];have h1:(ys++[n]).length < la.length:=by simpa using h
 have:=Akb (la:=la) (ys:=ys++[n]) 0 ((la.getD (ys.length+1) 0:Nat) - 1) h1;rw [List.length_append,List.length_singleton] at this;rw [this,Q7 1 h1];simp
theorem Adj (c n:Nat)(h:ys.length+1 < la.length):((Zl la ys c).set ys.length (n:Int))[ys.length+1]?=some ((la.getD (ys.length+1) 0:Nat):Int):=by
 rw [Q8 c n (by omega)];have:=Amw (la:=la) (ys:=ys++[n]) 0 (by simpa using h);rw [List.length_append,List.length_singleton] at this;simpa using this
theorem Alf (c:Nat)(h:ys.length=la.length):Zl la ys c=Gz ys:=by
 unfold Zl; rw [List.drop_of_length_le (by omega)]; simp
theorem It.last {a b ys:List Nat}{c:Nat}(h:It a b a.length ys c)(hb:b.length≤a.length)(hle:val b≤val a):c=0:=by
 have hs:=h.sum;rw [List.take_of_length_le (Nat.le_refl _),List.take_of_length_le hb] at hs;have h1:=Ip h.low;rw [h.len] at h1;rcases Nat.eq_zero_or_pos c with h0 | h0
 ·exact h0
 ·have:1000000000 ^ a.length*1≤1000000000 ^ a.length*c:=Nat.mul_le_mul_left _ h0;omega
theorem elZ {l:List Int}{j:Nat}{d:Int}(h:l[j]?=some d):(Dx l)[j]?=some (.int .i64 d):=by simp [Dx,h]
theorem Iz {u:PH}{va vb:Value}{la lb:List Nat}(ha:B7 u va la)(hb:B7 u vb lb)(lla:Low la)(llb:Low lb)(sa:la.length≤1000000000000)(hlen:lb.length≤la.length)(hval:val lb≤val la) :
  Fn0 prog 173 [va,vb] u fun v u'=>∃ l,B7 u' v l∧Low l∧val l=val la - val lb∧l.length=la.length:=by
 obtain ⟨a,ca,rfl,hca⟩:=ha.opn;obtain ⟨b,cb,rfl,hcb⟩:=hb.opn;refine Fn0.o func173 ?_;rcases Nat.eq_zero_or_pos la.length with h0 | h0
 ·have e1:la = []:=List.eq_nil_of_length_eq_zero h0;have e2:lb = []:=List.eq_nil_of_length_eq_zero (by omega);subst e1 e2;refine G.appendNil 3 1 8 (.int .i64 0) a ca (by kernel_rfl) ?_;refine G.l (ι:=Unit) (fun _=>[(5,.v (.slice none 0 0)),(6,.v (.int .i64 0))]) (fun _=>[]) (fun _ _ m'=>m'=PH.mt) (fun _=>0) () rfl ?_;rintro J _ hJ u' m' hle rfl;refine G.lF 0 ((0:Nat):Int) ?_;exact G.r (.slice none 0 0) ⟨rfl,[],Ab.nil _ _ _ _,Low.nil,by simp [val],rfl⟩
 ·obtain ⟨ba,oa,rfl,_⟩:=ha.at (j:=0) h0;refine G.append 3 1 8 (.int .i64 0) PH.mt [] (Ag la) (.slice none 0 0) ba oa la.length ca (by kernel_rfl) rfl rfl (by omega) (Ae.nil _ _ _) ha.els (Ax la) (Ah la) h0 (by simp; omega) (by simp; omega) ?_;intro vo m1 hA;rw [List.nil_append,← Pe] at hA;obtain ⟨bo,co,rfl⟩:=hA.ptr (by intro e; have:=congrArg List.length e; rw [B1,List.length_map,List.length_nil] at this; omega);have hA0:Ae PH.mt m1 (.slice (some ⟨bo,0,none⟩) la.length co) 3 1 (Dx (Zl la [] 0)):=by
   have:=hA;rw [B1,List.length_map] at this;rw [Ah1]; exact this
  rw [B1,List.length_map];refine G.l (ι:=Nat×List Nat×Nat) (fun i=>[(1,.v (.slice b lb.length cb)),(5,.v (.slice (some ⟨bo,0,none⟩) la.length co)),(6,.v (.int .i64 (i.1:Int)))]) (fun _=>[])
   (fun i _ m'=>i.1≤la.length∧It la lb i.1 i.2.1 i.2.2∧Ae PH.mt m' (.slice (some ⟨bo,0,none⟩) la.length co) 3 1 (Dx (Zl la i.2.1 i.2.2))) (fun i=>la.length - i.1) (0,[],0)
   ⟨by simp,It.start _ _,hA0⟩ ?_
  clear hA hA0 m1;rintro J ⟨k,ys,c⟩ hJ u' m' hle ⟨hk,hst,hA⟩;simp only at hk hst hA hJ;have hc1:=hst.carry;have hyl:=hst.len;have hal:=lla.getD k;have hbl:=llb.getD k;by_cases hlt:k < la.length
  ·refine G.lT (k:Int) (la.length:Int) ?_;have hky:ys.length < la.length:=by omega
   have hat:=Amw (la:=la) (ys:=ys) c hky;rw [hyl] at hat;by_cases hkb:k < lb.length
   ·obtain ⟨bb,ob,rfl,eb⟩:=(hb.mono hle).at (j:=k) hkb;refine G.lT (k:Int) (lb.length:Int) ?_;refine G.a bo 0 la.length co k 1 hlt ?_;refine G.lM none bo (0+k*1) (.int .i64 ((la.getD k 0:Nat) - (c:Int))) (hA.el (elZ hat)) ?_;refine G.a bb ob lb.length cb k 1 hkb ?_;refine G.lU none bb (ob+k*1) (.int .i64 (lb.getD k 0:Nat)) eb ?_;obtain ⟨d,hd⟩:∃ d:Int,d=(la.getD k 0:Nat) - (c:Int) - (lb.getD k 0:Nat):=⟨_,rfl⟩;refine G.s ((la.getD k 0:Nat) - (c:Int)) (lb.getD k 0:Nat) d ?_;refine G.a bo 0 la.length co k 1 hlt ?_;refine G.storeA 1 PH.mt _ bo la.length co k (.int .i64 d) (by kernel_rfl) hA (by rw [B1,Ll c (by omega)]; exact hlt) rfl rfl ?_;intro m2 hA2;rw [Ix] at hA2;have hd2:((Zl la ys c).set k d)[k]?=some d:=by rw [List.getElem?_set_self (by rw [Ll c (by omega)]; exact hlt)]
    refine G.a bo 0 la.length co k 1 hlt ?_;refine G.lM none bo (0+k*1) (.int .i64 d) (hA2.el (elZ hd2)) ?_;by_cases hneg:d < 0
    ·refine G.lT' d 0 hneg ?_;have hstep:=hst.step lla llb (x:=la.getD k 0) (y:=lb.getD k 0) rfl rfl;obtain ⟨n,hn⟩:∃ n:Nat,n=(la.getD k 0+1000000000 - lb.getD k 0 - c) % 1000000000:=⟨_,rfl⟩;have hc':1 - (la.getD k 0+1000000000 - lb.getD k 0 - c) / 1000000000=1:=by omega
     rw [← hn,hc'] at hstep;have hk1:k+1 < la.length:=by
      rcases Nat.lt_or_ge (k+1) la.length with h | h
      ·exact h
      ·have:k+1=la.length:=by omega
       rw [this] at hstep;have:=hstep.last hlen hval;omega
     refine G.a bo 0 la.length co k 1 hlt ?_;refine G.lM none bo (0+k*1) (.int .i64 d) (hA2.el (elZ hd2)) ?_;refine G.p d 1000000000 (n:Int) ?_;refine G.a bo 0 la.length co k 1 hlt ?_;refine G.storeA 1 PH.mt _ bo la.length co k (.int .i64 (n:Int)) (by kernel_rfl) hA2 (by rw [B1,List.length_set,Ll c (by omega)]; exact hlt) rfl rfl ?_;intro m3 hA3;rw [Ix,List.set_set] at hA3;refine G.i k ?_;have hg1:=Adj (la:=la) (ys:=ys) c n (by omega);rw [hyl] at hg1;have hal1:=lla.getD (k+1);refine G.a bo 0 la.length co (k+1) 1 hk1 ?_;refine G.lM none bo (0+(k+1)*1) (.int .i64 ((la.getD (k+1) 0:Nat):Int)) (hA3.el (elZ hg1)) ?_;refine G.sub ((la.getD (k+1) 0:Nat):Int) 1 ((la.getD (k+1) 0:Nat) - 1) (by kernel_rfl) rfl (by omega) (by omega) ?_;refine G.a bo 0 la.length co (k+1) 1 hk1 ?_;refine G.storeA 1 PH.mt _ bo la.length co (k+1) (.int .i64 ((la.getD (k+1) 0:Nat) - 1)) (by kernel_rfl) hA3 (by rw [B1,List.length_set,Ll c (by omega)]; exact hk1) rfl rfl ?_;intro m4 hA4;have e4:=Aak (la:=la) (ys:=ys) c n (by omega);rw [hyl] at e4;rw [Ix,e4] at hA4;refine G.i k ?_;exact G.b (hJ (k+1,ys++[n],1) _ _ _ cv hle ⟨by omega,hstep,hA4⟩ (by dsimp only; omega))
    ·refine G.lF' d 0 hneg ?_;have hstep:=hst.step lla llb (x:=la.getD k 0) (y:=lb.getD k 0) rfl rfl;obtain ⟨n,hn⟩:∃ n:Nat,n=(la.getD k 0+1000000000 - lb.getD k 0 - c) % 1000000000:=⟨_,rfl⟩;have hc':1 - (la.getD k 0+1000000000 - lb.getD k 0 - c) / 1000000000=0:=by omega
     rw [← hn,hc'] at hstep;have hdn:d=(n:Int):=by omega
     have e4:=Q8 (la:=la) (ys:=ys) c n (by omega);rw [hyl] at e4;rw [hdn,e4] at hA2;refine G.i k ?_;exact G.b (hJ (k+1,ys++[n],0) _ _ _ cv hle ⟨by omega,hstep,hA2⟩ (by dsimp only; omega))
   ·have hz:=Hh hkb;refine G.lF (k:Int) (lb.length:Int) ?_;obtain ⟨d,hd⟩:∃ d:Int,d=(la.getD k 0:Nat) - (c:Int) - (lb.getD k 0:Nat):=⟨_,rfl⟩;have hA2:Ae PH.mt m' (.slice (some ⟨bo,0,none⟩) la.length co) 3 1 (Dx ((Zl la ys c).set k d)):=by
     have e:(Zl la ys c).set k d=Zl la ys c:=by
      have:(la.getD k 0:Nat) - (c:Int)=d:=by omega
      rw [this] at hat;refine List.ext_getElem? fun j=>?_;by_cases hj:k=j
      ·subst hj; rw [List.getElem?_set_self (by rw [Ll c (by omega)]; exact hlt),hat]
      ·rw [List.getElem?_set_ne hj]
     rw [e]; exact hA
    have hd2:((Zl la ys c).set k d)[k]?=some d:=by rw [List.getElem?_set_self (by rw [Ll c (by omega)]; exact hlt)]
    refine G.a bo 0 la.length co k 1 hlt ?_;refine G.lM none bo (0+k*1) (.int .i64 d) (hA2.el (elZ hd2)) ?_;by_cases hneg:d < 0
    ·refine G.lT' d 0 hneg ?_;have hstep:=hst.step lla llb (x:=la.getD k 0) (y:=lb.getD k 0) rfl rfl;obtain ⟨n,hn⟩:∃ n:Nat,n=(la.getD k 0+1000000000 - lb.getD k 0 - c) % 1000000000:=⟨_,rfl⟩;have hc':1 - (la.getD k 0+1000000000 - lb.getD k 0 - c) / 1000000000=1:=by omega
     rw [← hn,hc'] at hstep;have hk1:k+1 < la.length:=by
      rcases Nat.lt_or_ge (k+1) la.length with h | h
      ·exact h
      ·have:k+1=la.length:=by omega
       rw [this] at hstep;have:=hstep.last hlen hval;omega
     refine G.a bo 0 la.length co k 1 hlt ?_;refine G.lM none bo (0+k*1) (.int .i64 d) (hA2.el (elZ hd2)) ?_;refine G.p d 1000000000 (n:Int) ?_;refine G.a bo 0 la.length co k 1 hlt ?_;refine G.storeA 1 PH.mt _ bo la.length co k (.int .i64 (n:Int)) (by kernel_rfl) hA2 (by rw [B1,List.length_set,Ll c (by omega)]; exact hlt) rfl rfl ?_;intro m3 hA3;rw [Ix,List.set_set] at hA3;refine G.i k ?_;have hg1:=Adj (la:=la) (ys:=ys) c n (by omega);rw [hyl] at hg1;have hal1:=lla.getD (k+1);refine G.a bo 0 la.length co (k+1) 1 hk1 ?_;refine G.lM none bo (0+(k+1)*1) (.int .i64 ((la.getD (k+1) 0:Nat):Int)) (hA3.el (elZ hg1)) ?_;refine G.sub ((la.getD (k+1) 0:Nat):Int) 1 ((la.getD (k+1) 0:Nat) - 1) (by kernel_rfl) rfl (by omega) (by omega) ?_;refine G.a bo 0 la.length co (k+1) 1 hk1 ?_;refine G.storeA 1 PH.mt _ bo la.length co (k+1) (.int .i64 ((la.getD (k+1) 0:Nat) - 1)) (by kernel_rfl) hA3 (by rw [B1,List.length_set,Ll c (by omega)]; exact hk1) rfl rfl ?_;intro m4 hA4;have e4:=Aak (la:=la) (ys:=ys) c n (by omega);rw [hyl] at e4;rw [Ix,e4] at hA4;refine G.i k ?_;exact G.b (hJ (k+1,ys++[n],1) _ _ _ cv hle ⟨by omega,hstep,hA4⟩ (by dsimp only; omega))
    ·refine G.lF' d 0 hneg ?_;have hstep:=hst.step lla llb (x:=la.getD k 0) (y:=lb.getD k 0) rfl rfl;obtain ⟨n,hn⟩:∃ n:Nat,n=(la.getD k 0+1000000000 - lb.getD k 0 - c) % 1000000000:=⟨_,rfl⟩;have hc':1 - (la.getD k 0+1000000000 - lb.getD k 0 - c) / 1000000000=0:=by omega
     rw [← hn,hc'] at hstep;have hdn:d=(n:Int):=by omega
     have e4:=Q8 (la:=la) (ys:=ys) c n (by omega);rw [hyl] at e4;rw [hdn,e4] at hA2;refine G.i k ?_;exact G.b (hJ (k+1,ys++[n],0) _ _ _ cv hle ⟨by omega,hstep,hA2⟩ (by dsimp only; omega))
  ·obtain rfl:k=la.length:=by omega
   refine G.lF (la.length:Int) (la.length:Int) ?_;have hc0:=hst.last hlen hval;rw [Alf c hyl,show Dx (Gz ys)=Ag ys from Pe ys] at hA;refine G.give PH.mt (Ag ys) _ (by kernel_rfl) hA (fun _=>.inl rfl) ?_;intro u1 l1 hL;exact G.r (.slice (some ⟨bo,0,none⟩) la.length co) ⟨rfl,ys,hL,hst.low,hst.done hlen hval,hyl⟩
end
section
open Go.RowKit
variable {a:Option Addr}{c n:Nat}{l:List Nat}{u:PH}{x x':Value}{y z:Int}
def Cn (u:PH)(v:Value)(z:Int):Prop:=∃ a n c,v=.agg #[.bool (decide (z < 0)),.slice a n c]∧B7 u (.slice a n c) (Aa z.natAbs)
theorem Cn.mono {u u':PH}{v:Value}{z:Int}(h:Cn u v z)(hl:PH.le u u'):Cn u' v z:=by
 obtain ⟨a,n,c,h1,h2⟩:=h; exact ⟨a,n,c,h1,h2.mono hl⟩
theorem Cn.opn {v:Value}(h:Cn u v z):∃ b a n c,v=.agg #[.bool b,.slice a n c]∧b=decide (z < 0)∧B7 u (.slice a n c) (Aa z.natAbs):=by
 obtain ⟨a,n,c,rfl,h2⟩:=h; exact ⟨_,a,n,c,rfl,rfl,h2⟩
theorem Agj (hl:Low l):0 < Bj l l.length↔0 < val l:=by
 have:=Hl hl;rw [← Ce (n:=val l),this,List.length_take];have:=I9 l l.length;omega
theorem Yu (b:Bool)(h:B7 u (.slice a n c) l)(hl:Low l):Cn u (.agg #[.bool (b && decide (0 < Bj l l.length)),.slice a (Bj l l.length) c]) (Bp b (val l)):=by
 refine ⟨a,Bj l l.length,c,?_,?_⟩
 ·rw [Tr,decide_eq_decide.2 (Agj hl)]
 ·rw [Ik,Hl hl];exact h.take _ (I9 _ _)
theorem C7 {b:Bool}(h:B7 u (.slice a n c) l)(hl:Low l)(hs:l.length≤1000000000000000000) :
  Fn0 prog 168 [.agg #[.bool b,.slice a n c]] u fun v u'=>Cn u' v (Bp b (val l)):=by
 intro w hg;refine Calls.mono (Aig (b:=b) h hs w hg) fun e w' he=>?_;obtain ⟨v,u',m',e1,e2,e3,e4,rfl⟩:=he;exact ⟨_,u',m',e1,e2,e3,e4,Yu b (h.mono (e3.le hg.pu)) hl⟩
theorem Pn (h:Cn u x z)(hs:nl z.natAbs≤1000000000000000000):Fn0 prog 170 [x] u fun v u'=>Cn u' v (-z):=by
 obtain ⟨b,a,n,c,rfl,hb,hi⟩:=h.opn;obtain ⟨rfl,hc⟩:=hi.len;have hs':(Aa z.natAbs).length≤1000000000000000000:=hs;refine Fn0.o func170 ?_;have hp:=Ce (n:=z.natAbs);have fin:∀ b':Bool,b'=decide (-z < 0)→Cn u (.agg #[.bool b',.slice a (Aa z.natAbs).length c]) (-z):=fun b' hb'=>⟨a,(Aa z.natAbs).length,c,by rw [hb'],by rw [Int.natAbs_neg]; exact hi⟩;cases b
 ·have hz:0≤z:=by simpa using hb.symm
  by_cases h0:0 < (Aa z.natAbs).length
  ·refine G.gT ((Aa z.natAbs).length:Int) 0 ?_;exact G.r (.agg #[.bool true,.slice a (Aa z.natAbs).length c]) ⟨rfl,fin true (by have:=hp.1 h0; simp; omega)⟩
  ·refine G.gF ((Aa z.natAbs).length:Int) 0 ?_;exact G.r (.agg #[.bool false,.slice a (Aa z.natAbs).length c]) ⟨rfl,fin false (by have:¬ 0 < z.natAbs:=fun h=>h0 (hp.2 h); simp; omega)⟩
 ·have hz:z < 0:=by simpa using hb.symm
  exact G.r (.agg #[.bool false,.slice a (Aa z.natAbs).length c]) ⟨rfl,fin false (by simp; omega)⟩
theorem D5 {m n:Nat}(h:n≤m):(Aa n).length≤(Aa m).length:=C6 h
theorem Adg (hx:Cn u x y)(hx':Cn u x' z)(sy:nl y.natAbs≤1000000000000)(sz:nl z.natAbs≤1000000000000):Fn0 prog 87 [x,x'] u fun v u'=>Cn u' v (y+z):=by
 obtain ⟨b,a,n,c,rfl,hb,hi⟩:=hx.opn;obtain ⟨b',a',n',c',rfl,hb',hi'⟩:=hx'.opn;have sy':(Aa y.natAbs).length≤1000000000000:=sy;have sz':(Aa z.natAbs).length≤1000000000000:=sz;refine Fn0.o func87 ?_;refine G.eqB b b' (by kernel_rfl) ?_;by_cases hbb:b=b'
 ·have hs:=Zq (y:=y) (z:=z) (by rw [← hb,← hb',hbb]);rw [← hb] at hs;rw [show (b == b')=true by rw [hbb]; simp];refine G.c call171 (Agr hi hi' (Am _) (Am _) sy' sz') ?_;rintro v1 u1 l1 ⟨l,h1,h2,h3,h4⟩;obtain ⟨a1,c1,rfl,hc1⟩:=h1.opn;refine G.c call168 (C7 (b:=b) h1 h2 (by omega)) ?_;intro v2 u2 l2 h5;rw [h3,Aj,Aj,hs] at h5;obtain ⟨b5,a5,n5,c5,rfl,_,_⟩:=h5.opn;exact G.r (.agg #[.bool b5,.slice a5 n5 c5]) ⟨rfl,h5⟩
 ·rw [show (b == b')=false by simpa using hbb];have hne:decide (y < 0)≠decide (z < 0):=by rw [← hb,← hb']; exact hbb
  refine G.c call172 (Jb hi hi' (by omega) (by omega)) ?_;rintro v1 u1 l1 rfl;by_cases hle:z.natAbs≤y.natAbs
  ·have hs:=Ve (y:=y) (z:=z) hne hle;rw [← hb] at hs;refine G.hT' (sgn ((y.natAbs:Int) - z.natAbs)) 0 (by rcases Int.lt_trichotomy ((y.natAbs:Int) - z.natAbs) 0 with h | h | h <;> first | omega | (rw [h]; decide) | (rw [B9 h]; decide)) ?_
   refine G.c call173 (Iz (hi.mono l1) (hi'.mono l1) (Am _) (Am _) sy' (D5 hle) (by rw [Aj,Aj]; exact hle)) ?_;rintro v1 u2 l2 ⟨l,h1,h2,h3,h4⟩;obtain ⟨a1,c1,rfl,hc1⟩:=h1.opn;refine G.c call168 (C7 (b:=b) h1 h2 (by omega)) ?_;intro v2 u2 l2 h5;rw [h3,Aj,Aj,hs] at h5;obtain ⟨b5,a5,n5,c5,rfl,_,_⟩:=h5.opn;exact G.r (.agg #[.bool b5,.slice a5 n5 c5]) ⟨rfl,h5⟩
  ·have hs:=Uq (y:=y) (z:=z) hne (by omega);rw [← hb'] at hs;refine G.hF' (sgn ((y.natAbs:Int) - z.natAbs)) 0 (by rw [C0 (by omega)]; decide) ?_;refine G.c call173 (Iz (hi'.mono l1) (hi.mono l1) (Am _) (Am _) sz' (D5 (by omega)) (by rw [Aj,Aj]; omega)) ?_;rintro v1 u2 l2 ⟨l,h1,h2,h3,h4⟩;obtain ⟨a1,c1,rfl,hc1⟩:=h1.opn;refine G.c call168 (C7 (b:=b') h1 h2 (by omega)) ?_;intro v2 u2 l2 h5;rw [h3,Aj,Aj,hs] at h5;obtain ⟨b5,a5,n5,c5,rfl,_,_⟩:=h5.opn;exact G.r (.agg #[.bool b5,.slice a5 n5 c5]) ⟨rfl,h5⟩
theorem Ala (hx:Cn u x y)(hx':Cn u x' z)(sy:nl y.natAbs≤1000000000000)(sz:nl z.natAbs≤1000000000000):Fn0 prog 86 [x,x'] u fun v u'=>Cn u' v (y - z):=by
 obtain ⟨b,a,n,c,rfl,hb,hi⟩:=hx.opn;obtain ⟨b',a',n',c',rfl,hb',hi'⟩:=hx'.opn;refine Fn0.o func86 ?_;refine G.c call170 (Pn hx' (by omega)) ?_;intro v1 u1 l1 h1;obtain ⟨b1,a1,n1,c1,rfl,_,_⟩:=h1.opn;refine G.c call87 (Adg (hx.mono l1) h1 sy (by rw [Int.natAbs_neg]; exact sz)) ?_;intro v5 u5 l5 h5;rw [← Int.sub_eq_add_neg] at h5;obtain ⟨b5,a5,n5,c5,rfl,_,_⟩:=h5.opn;exact G.r (.agg #[.bool b5,.slice a5 n5 c5]) ⟨rfl,h5⟩
end
section
open Go.RowKit
variable {j:Nat}{l:List Nat}
theorem Je (l:List Nat)(j n:Nat):(Ag l).set j (.int .i64 (n:Int))=Ag (l.set j n):=by simp [Ag,List.map_set]
theorem Un (h:j < l.length):(Ag l)[j]?=some (.int .i64 (l.getD j 0:Nat)):=by simp [Ag,h]
theorem Qk (n:Nat):List.replicate n (Value.int .i64 0)=Ag (List.replicate n 0):=by simp [Ag]
theorem Zm (h:j < l.length)(r:List Nat):(l++r).getD j 0=l.getD j 0:=by
 rw [List.getD_eq_getElem?_getD,List.getD_eq_getElem?_getD,List.getElem?_append_left h]
theorem Adb (h:j < l.length)(r:List Nat)(d:Nat):(l++r).set j d=l.set j d++r:=List.set_append_left _ _ h
theorem Aj7 (h:j < l.length)(h0:l.getD j 0=0):l.set j 0=l:=by
 refine List.ext_getElem? fun i=>?_;by_cases hi:j=i
 ·subst hi;rw [List.getElem?_set_self h,List.getElem?_eq_getElem h];rw [List.getD_eq_getElem?_getD,List.getElem?_eq_getElem h] at h0;simpa using h0.symm
 ·rw [List.getElem?_set_ne hi]
def Apt (la lb:List Nat)(i k:Nat)(o:List Nat)(c:Nat):Prop:=(k≤lb.length∧Ey la lb i k o c)∨(k=lb.length+1∧c=0∧Ey la lb (i+1) 0 o 0)
theorem En {u:PH}{x x':Value}{y z:Int}(hx:Cn u x y)(hx':Cn u x' z)(sy:nl y.natAbs≤1000000000000)(sz:nl z.natAbs≤1000000000000):Fn0 prog 85 [x,x'] u fun v u'=>Cn u' v (y*z):=by
 obtain ⟨b,a,n,c,rfl,hb,hi⟩:=hx.opn;obtain ⟨b',a',n',c',rfl,hb',hi'⟩:=hx'.opn;obtain ⟨rfl,_⟩:=hi.len;obtain ⟨rfl,_⟩:=hi'.len;have hll:=Am y.natAbs;have hll':=Am z.natAbs;have sy':(Aa y.natAbs).length≤1000000000000:=sy;have sz':(Aa z.natAbs).length≤1000000000000:=sz;have hfin:∀ l:List Nat,Low l→val l=y.natAbs*z.natAbs→Bp (!(b == b')) (val l)=y*z:=by
  intro l _ hv;rw [hv,hb,hb']; exact Aaa y z
 have hvy:=Aj y.natAbs;have hvz:=Aj z.natAbs;rw [← hvy,← hvz] at hfin;generalize Aa y.natAbs=la at *
 generalize Aa z.natAbs=lb at *
 refine Fn0.o func85 ?_;refine G.p (la.length:Int) (lb.length:Int) ((la.length+lb.length:Nat):Int) ?_;refine G.p ((la.length+lb.length:Nat):Int) 1 ((la.length+lb.length+1:Nat):Int) ?_;refine G.make 3 1 8 (.int .i64 0) (la.length+lb.length+1) (by kernel_rfl) rfl rfl (by omega) (by omega) (by omega) ?_;intro vo m1 hA _;rw [Qk] at hA;obtain ⟨bo,co,rfl⟩:=hA.ptr (by intro e; have:=congrArg List.length e; rw [Ah,List.length_replicate,List.length_nil] at this; omega);rw [Ah,List.length_replicate] at hA ⊢;rw [show List.replicate (la.length+lb.length+1) 0=List.replicate (la.length+lb.length) 0++[0] from List.replicate_succ' ..] at hA;refine G.l (ι:=Nat×List Nat) (fun i=>[(2,.p 0 0),(3,.p 1 0),(4,.p 2 0),(5,.v (.slice (some ⟨bo,0,none⟩) (la.length+lb.length+1) co)),(6,.v (.int .i64 (i.1:Int)))])
  (fun _=>[(0,⟨66,[.v (.bool b),.v (.slice a la.length c)]⟩),(1,⟨66,[.v (.bool b'),.v (.slice a' lb.length c')]⟩),(2,⟨66,[.v (.bool false),.v (.slice none 0 0)]⟩)])
  (fun i _ m'=>i.1≤la.length∧Ey la lb i.1 0 i.2 0∧Ae PH.mt m' (.slice (some ⟨bo,0,none⟩) (la.length+lb.length+1) co) 3 1 (Ag (i.2++[0]))) (fun i=>la.length - i.1) (0,List.replicate (la.length+lb.length) 0)
  ⟨by simp,Ey.start _ _,hA⟩ ?_
 clear hA m1;rintro J ⟨i,o⟩ hJ u' m' hle ⟨hk,hst,hA⟩;simp only at hk hst hA hJ;by_cases hlt:i < la.length
 ·refine G.lT (i:Int) (la.length:Int) ?_;obtain ⟨ba,oa,rfl,ea⟩:=(hi.mono hle).at (j:=i) hlt;have hal:=hll.getD i;refine G.l (ι:=Nat×List Nat×Nat) (fun q=>[(2,.p 0 0),(3,.p 1 0),(4,.p 2 0),(5,.v (.slice (some ⟨bo,0,none⟩) (la.length+lb.length+1) co)),(6,.v (.int .i64 (i:Int))),(7,.v (.int .i64 (q.2.2:Int))),(8,.v (.int .i64 (q.1:Int)))])
   (fun _=>[(0,⟨66,[.v (.bool b),.v (.slice (some ⟨ba,oa,none⟩) la.length c)]⟩),(1,⟨66,[.v (.bool b'),.v (.slice a' lb.length c')]⟩),(2,⟨66,[.v (.bool false),.v (.slice none 0 0)]⟩)])
   (fun q _ m'=>Apt la lb i q.1 q.2.1 q.2.2∧Ae PH.mt m' (.slice (some ⟨bo,0,none⟩) (la.length+lb.length+1) co) 3 1 (Ag (q.2.1++[0]))) (fun q=>lb.length+1 - q.1) (0,o,0)
   ⟨.inl ⟨by simp,hst⟩,hA⟩ ?_
  clear hA hst m';rintro J2 ⟨k,o,cc⟩ hJ2 u2 m' hle2 ⟨hin,hA⟩;simp only at hin hA hJ2;have hlo:o.length=la.length+lb.length:=by rcases hin with ⟨_,h⟩ | ⟨_,_,h⟩ <;> exact h.len
  have hcc:cc < 1000000000:=by rcases hin with ⟨_,h⟩ | ⟨_,h,_⟩; exact h.carry; omega
  have hol:=(show Low o by rcases hin with ⟨_,h⟩ | ⟨_,_,h⟩ <;> exact h.low).getD (i+k)
  by_cases hkb:k < lb.length
  ·have hst:Ey la lb i k o cc:=by rcases hin with ⟨_,h⟩ | ⟨h,_⟩; exact h; omega
   obtain ⟨bb,ob,rfl,eb⟩:=(hi'.mono (hle.trans hle2)).at (j:=k) hkb;have hbl:=hll'.getD k;have hikl:i+k < (o++[0]).length:=by simp; omega
   refine G.lT (k:Int) (lb.length:Int) ?_;refine G.p (i:Int) (k:Int) ((i+k:Nat):Int) ?_;refine G.a bo 0 (la.length+lb.length+1) co (i+k) 1 (by omega) ?_;refine G.lM none bo (0+(i+k)*1) (.int .i64 ((o++[0]).getD (i+k) 0:Nat)) (hA.el (Un hikl)) ?_;rw [Zm (by omega)];refine G.p (cc:Int) (o.getD (i+k) 0:Nat) ((cc+o.getD (i+k) 0:Nat):Int) ?_;refine G.lT (k:Int) (lb.length:Int) ?_;refine G.a ba oa la.length c i 1 hlt ?_;refine G.lU none ba (oa+i*1) (.int .i64 (la.getD i 0:Nat)) (ea.mono hle2) ?_;refine G.a bb ob lb.length c' k 1 hkb ?_;refine G.lU none bb (ob+k*1) (.int .i64 (lb.getD k 0:Nat)) eb ?_;have hp:la.getD i 0*lb.getD k 0≤999999999*999999999:=Nat.mul_le_mul (by omega) (by omega);refine G.mul (la.getD i 0:Nat) (lb.getD k 0:Nat) ((la.getD i 0*lb.getD k 0:Nat):Int) (by kernel_rfl) (Int.natCast_mul _ _).symm (by omega) (by omega) ?_;obtain ⟨t,ht⟩:∃ t,t=o.getD (i+k) 0+la.getD i 0*lb.getD k 0+cc:=⟨_,rfl⟩;refine G.p ((cc+o.getD (i+k) 0:Nat):Int) ((la.getD i 0*lb.getD k 0:Nat):Int) (t:Int) ?_;refine G.p (i:Int) (k:Int) ((i+k:Nat):Int) ?_;refine G.rem (t:Int) 1000000000 ((t % 1000000000:Nat):Int) (by kernel_rfl) (by omega) (by omega) (by omega) (by omega) ?_;refine G.a bo 0 (la.length+lb.length+1) co (i+k) 1 (by omega) ?_;refine G.storeA 1 PH.mt _ bo (la.length+lb.length+1) co (i+k) (.int .i64 ((t % 1000000000:Nat):Int)) (by kernel_rfl) hA (by rw [Ah]; exact hikl) rfl rfl ?_;intro m2 hA2;rw [Je,Adb (by omega)] at hA2;refine G.quo (t:Int) 1000000000 ((t / 1000000000:Nat):Int) (by kernel_rfl) (by omega) (by omega) (by omega) (by omega) ?_;refine G.i k ?_;exact G.b (hJ2 (k+1,o.set (i+k) (t % 1000000000),t / 1000000000) _ _ _ cv hle2 ⟨.inl ⟨by omega,hst.step hll hll' hkb hlt rfl rfl rfl ht⟩,hA2⟩ (by dsimp only; omega))
  ·refine G.lF (k:Int) (lb.length:Int) ?_;by_cases hc0:0 < cc
   ·have hst:Ey la lb i lb.length o cc∧k=lb.length:=by
     rcases hin with ⟨h1,h⟩ | ⟨_,h,_⟩
     ·obtain rfl:k=lb.length:=by omega
      exact ⟨h,rfl⟩
     ·omega
    obtain ⟨hst,rfl⟩:=hst;obtain ⟨hz0,hnext⟩:=hst.next hlt;have hikl:i+lb.length < (o++[0]).length:=by simp; omega
    refine G.gT (cc:Int) 0 ?_;refine G.p (i:Int) (lb.length:Int) ((i+lb.length:Nat):Int) ?_;refine G.a bo 0 (la.length+lb.length+1) co (i+lb.length) 1 (by omega) ?_;refine G.lM none bo (0+(i+lb.length)*1) (.int .i64 ((o++[0]).getD (i+lb.length) 0:Nat)) (hA.el (Un hikl)) ?_;rw [Zm (by omega)];refine G.p (cc:Int) (o.getD (i+lb.length) 0:Nat) (cc:Int) ?_;refine G.lF (lb.length:Int) (lb.length:Int) ?_;refine G.p (i:Int) (lb.length:Int) ((i+lb.length:Nat):Int) ?_;refine G.rem (cc:Int) 1000000000 (cc:Int) (by kernel_rfl) (by omega) (by omega) (by omega) (by omega) ?_;refine G.a bo 0 (la.length+lb.length+1) co (i+lb.length) 1 (by omega) ?_;refine G.storeA 1 PH.mt _ bo (la.length+lb.length+1) co (i+lb.length) (.int .i64 (cc:Int)) (by kernel_rfl) hA (by rw [Ah]; exact hikl) rfl rfl ?_;intro m2 hA2;rw [Je,Adb (by omega)] at hA2;refine G.quo (cc:Int) 1000000000 0 (by kernel_rfl) (by omega) (by omega) (by omega) (by omega) ?_;refine G.p (lb.length:Int) 1 ((lb.length+1:Nat):Int) ?_;exact G.b (hJ2 (lb.length+1,o.set (i+lb.length) cc,0) _ _ _ cv hle2 ⟨.inr ⟨rfl,rfl,hnext⟩,hA2⟩ (by dsimp only; omega))
   ·refine G.gF (cc:Int) 0 ?_;have hst:Ey la lb (i+1) 0 o 0:=by
     rcases hin with ⟨h1,h⟩ | ⟨_,_,h⟩
     ·obtain rfl:k=lb.length:=by omega
      obtain rfl:cc=0:=by omega
      obtain ⟨hz0,hnext⟩:=h.next hlt;rw [Aj7 (by omega) hz0] at hnext;exact hnext
     ·exact h
    refine G.i i ?_;exact G.b (hJ (i+1,o) _ _ _ cv (hle.trans hle2) ⟨by omega,hst,hA⟩ (by dsimp only; omega))
 ·obtain rfl:i=la.length:=by omega
  refine G.lF (la.length:Int) (la.length:Int) ?_;refine G.give PH.mt (Ag (o++[0])) _ (by kernel_rfl) hA (fun _=>.inl rfl) ?_;intro u1 l1 hL;have hlow:Low (o++[0]):=hst.low.append (Low.cons (by omega) Low.nil);have hval:val (o++[0])=val la*val lb:=by rw [Hp,Nat.mul_zero,Nat.add_zero]; exact hst.done
  have hlo:=hst.len;refine G.neB b b' (by kernel_rfl) ?_;refine G.c call168 (C7 (b:=!(b == b')) hL hlow (by simp; omega)) ?_;intro v2 u2 l2 h5;rw [hfin _ hlow hval] at h5;obtain ⟨b5,a5,n5,c5,rfl,_,_⟩:=h5.opn;exact G.r (.agg #[.bool b5,.slice a5 n5 c5]) ⟨rfl,h5⟩
end
section
variable {R Y c k n:Nat}{a ys:List Nat}
structure Ha (a:List Nat)(n k:Nat)(ys:List Nat)(c:Nat):Prop where
 len:ys.length=k
 low:Low ys
 carry:c < 1000000000
 sum:val ys+1000000000 ^ k*c=val (a.take k)*n
theorem Ha.start (a:List Nat)(n:Nat):Ha a n 0 [] 0:=⟨rfl,Low.nil,by omega,by simp [val]⟩
theorem Ha.step {n k c t:Nat}(h:Ha a n k ys c)(ha:Low a)(hn:n < 1000000000)(ht:t=c+a.getD k 0*n):Ha a n (k+1) (ys++[t % 1000000000]) (t / 1000000000):=by
 have h1:=ha.getD k;have h2:=h.carry;have hp:a.getD k 0*n≤999999999*999999999:=Nat.mul_le_mul (by omega) (by omega);refine ⟨by simp [h.len],h.low.append (Low.cons (by omega) Low.nil),by omega,?_⟩;rw [Hp,A0,h.len,Nat.pow_succ,Nat.add_assoc,Gy,Nat.add_mul];have:=h.sum;rw [ht,Nat.mul_add,← Nat.add_assoc,this,Nat.mul_assoc]
theorem Ha.over (h:Ha a n k ys c)(hk:¬ k < a.length)(hc:c=0):val ys=val a*n:=by
 have:=h.sum;rw [List.take_of_length_le (by omega),hc] at this;simpa using this
structure Qc (lx:List Nat)(Y k:Nat)(qs:List Nat)(R:Nat):Prop where
 len:qs.length=lx.length
 low:Low qs
 quo:val (qs.drop k)=val (lx.drop k) / Y
 rest:R=val (lx.drop k) % Y
theorem Qc.start (lx:List Nat)(Y:Nat):Qc lx Y lx.length (List.replicate lx.length 0) 0:=by
 refine ⟨by simp,Low.zeros _,?_,?_⟩
 ·rw [List.drop_of_length_le (by simp),List.drop_of_length_le (by omega)]; simp [val]
 ·rw [List.drop_of_length_le (by omega)]; simp [val]
theorem Vs {R Y x:Nat}(hR:R < Y)(hx:x < 1000000000):(x+1000000000*R) / Y < 1000000000:=by
 rw [Nat.div_lt_iff_lt_mul (by omega)];have:1000000000*(R+1)≤1000000000*Y:=Nat.mul_le_mul_left _ hR;omega
theorem Qc.step {lx qs:List Nat}(h:Qc lx Y (k+1) qs R)(hx:Low lx)(hk:k < lx.length)(hY:0 < Y) :
  Qc lx Y k (qs.set k ((lx.getD k 0+1000000000*R) / Y)) ((lx.getD k 0+1000000000*R) % Y):=by
 have hR:R < Y:=by rw [h.rest]; exact Nat.mod_lt _ hY
 have hl:=h.len;have e1:(qs.set k ((lx.getD k 0+1000000000*R) / Y)).drop k=(lx.getD k 0+1000000000*R) / Y::qs.drop (k+1):=by
  rw [B2 _ k (by simp; omega),List.drop_set_of_lt (by omega)]
  congr 1
  rw [List.getD_eq_getElem?_getD,List.getElem?_set_self (by omega)]; rfl
 have e2:=B2 lx k hk;have e3:val (lx.drop k)=lx.getD k 0+1000000000*R+Y*(1000000000*(val (lx.drop (k+1)) / Y)):=by
  rw [e2]; simp only [val];have:=Nat.div_add_mod (val (lx.drop (k+1))) Y;rw [← h.rest] at this;have e4:1000000000*val (lx.drop (k+1))=1000000000*(Y*(val (lx.drop (k+1)) / Y))+1000000000*R:=by rw [← Nat.mul_add,this]
  rw [e4,Nat.mul_left_comm Y 1000000000]; omega
 refine ⟨by simpa using hl,h.low.set _ (Vs hR (hx.getD k)),?_,?_⟩
 ·rw [e1,e3,Nat.add_mul_div_left _ _ hY]; simp only [val]; rw [h.quo]
 ·rw [e3,Nat.add_mul_mod_self_left]
theorem All {Y R y1 p yl top rl:Nat}(hY:Y=y1*p+yl)(hyl:yl < p)(hy1:0 < y1)(hR:R=top*p+rl)(hrl:rl < p):top / (y1+1)≤R / Y∧R / Y≤top / y1:=by
 have hp:0 < p:=by omega
 have hY0:0 < Y:=by have:=Nat.mul_pos hy1 hp; omega
 constructor
 ·rw [Nat.le_div_iff_mul_le hY0];have h1:Y≤(y1+1)*p:=by rw [Nat.add_mul]; omega
  have h2:top / (y1+1)*(y1+1)≤top:=Nat.div_mul_le_self _ _
  calc top / (y1+1)*Y≤top / (y1+1)*((y1+1)*p):=Nat.mul_le_mul_left _ h1
   _=top / (y1+1)*(y1+1)*p:=by rw [Nat.mul_assoc]
   _≤top*p:=Nat.mul_le_mul_right _ h2
   _≤R:=by omega
 ·rw [Nat.le_div_iff_mul_le hy1];have h1:R / Y*Y≤R:=Nat.div_mul_le_self _ _;have h2:R / Y*(y1*p)≤R / Y*Y:=Nat.mul_le_mul_left _ (by omega);have h3:R / Y*y1*p < (top+1)*p:=by rw [Nat.mul_assoc,Nat.add_mul]; omega
  exact Nat.le_of_lt_succ (Nat.lt_of_mul_lt_mul_right h3)
theorem Anr (R n:Nat)(hn:0 < n)(hl:(Aa R).length≤n+1)(hl2:n≤(Aa R).length) :
  ∃ rl,R=((Aa R).getD (n - 1) 0+(Aa R).getD n 0*1000000000)*1000000000 ^ (n - 1)+rl∧rl < 1000000000 ^ (n - 1):=by
 refine ⟨val ((Aa R).take (n - 1)),?_,?_⟩
 ·have h:=E5 (Aa R) (n - 1) (by omega);rw [Aj] at h;have hd:=B2 (Aa R) (n - 1) (by omega);rw [show n - 1+1=n by omega] at hd;rcases Nat.lt_or_ge n (Aa R).length with h1 | h1
  ·have hd2:=B2 (Aa R) n h1;rw [List.drop_of_length_le (show (Aa R).length≤n+1 by omega)] at hd2;rw [hd,hd2] at h;simp only [val,Nat.mul_zero,Nat.add_zero] at h;rw [Nat.mul_comm _ (1000000000 ^ (n - 1)),Nat.mul_comm ((Aa R).getD n 0)];omega
  ·rw [List.drop_of_length_le h1] at hd;rw [hd] at h;simp only [val] at h;have h0:(Aa R).getD n 0=0:=by rw [List.getD_eq_getElem?_getD,List.getElem?_eq_none h1]; rfl
   rw [h0,Nat.mul_comm _ (1000000000 ^ (n - 1))];simp only [Nat.zero_mul,Nat.mul_zero,Nat.add_zero] at h ⊢;omega
 ·have:=Ip ((Am R).take (n - 1));rwa [List.length_take,Nat.min_eq_left (by omega)] at this
end
section
open Go.RowKit
variable {n:Nat}{u:PH}
theorem Cn.lim {b:Bool}{a:Option Addr}{n c k:Nat}(h:Cn u (.agg #[.bool b,.slice a n c]) (Bp false k)):B7 u (.slice a n c) (Aa k):=by
 obtain ⟨_,_,_,h1,h2⟩:=h;simp only [Value.agg.injEq,Array.mk.injEq,List.cons.injEq,Value.bool.injEq,Value.slice.injEq,and_true] at h1;obtain ⟨_,rfl,rfl,rfl⟩:=h1;rw [Ik] at h2; exact h2
theorem Hj {va:Value}{la:List Nat}(ha:B7 u va la)(lla:Low la)(sa:la.length≤1000000000000)(hn:n < 1000000000) :
  Fn0 prog 231 [va,.int .i64 (n:Int)] u fun v u'=>B7 u' v (Aa (val la*n)):=by
 obtain ⟨a,ca,rfl,hca⟩:=ha.opn;refine Fn0.o func231 ?_;refine G.l (ι:=Nat×List Nat×Nat×Value) (fun i=>[(0,.v (.slice a la.length ca)),(1,.v (.int .i64 (n:Int))),(5,.v i.2.2.2),(6,.v (.int .i64 (i.2.2.1:Int))),(7,.v (.int .i64 (i.1:Int)))]) (fun _=>[])
  (fun i _ m'=>(i.1≤la.length+1∧(la.length+1≤i.1→i.2.2.1=0))∧Ae PH.mt m' i.2.2.2 3 1 (Ag i.2.1)∧Ha la n i.1 i.2.1 i.2.2.1) (fun i=>la.length+2 - i.1) (0,[],0,.slice none 0 0)
  ⟨⟨by simp,fun _=>rfl⟩,Ae.nil _ _ _,Ha.start _ _⟩ ?_
 rintro J ⟨k,ys,c,vo⟩ hJ u' m' hle ⟨hk,hA,hst⟩;simp only at hk hA hst hJ;have hc1:=hst.carry;have hal:=lla.getD k;have hp:la.getD k 0*n≤999999999*999999999:=Nat.mul_le_mul (by omega) (by omega);obtain ⟨ao,co,rfl⟩:=hA.shape;obtain ⟨vo,hvo⟩:∃ vo,vo=Value.slice ao (Ag ys).length co:=⟨_,rfl⟩;rw [← hvo] at hA ⊢;obtain ⟨t,ht⟩:∃ t,t=c+la.getD k 0*n:=⟨_,rfl⟩;have hstep:=hst.step lla hn ht;by_cases hka:k < la.length
 ·refine G.lT (k:Int) (la.length:Int) ?_;refine G.lT (k:Int) (la.length:Int) ?_;obtain ⟨ba,oa,rfl,ea⟩:=(ha.mono hle).at (j:=k) hka;refine G.a ba oa la.length ca k 1 hka ?_;refine G.lU none ba (oa+k*1) (.int .i64 (la.getD k 0:Nat)) ea ?_;refine G.mul (la.getD k 0:Nat) (n:Int) ((la.getD k 0*n:Nat):Int) (by kernel_rfl) (Int.natCast_mul _ _).symm (by omega) (by omega) ?_;refine G.p (c:Int) ((la.getD k 0*n:Nat):Int) (t:Int) ?_;refine G.rem (t:Int) 1000000000 ((t % 1000000000:Nat):Int) (by kernel_rfl) (by omega) (by omega) (by omega) (by omega) ?_;refine G.B 3 1 8 (.int .i64 0) [.int .i64 ((t % 1000000000:Nat):Int)] (Ax [t % 1000000000]) ?_;intro g u1 l1 e1;refine G.append 3 1 8 (.int .i64 0) PH.mt (Ag ys) [.int .i64 ((t % 1000000000:Nat):Int)] vo g 0 1 1 (by kernel_rfl) rfl rfl (by omega) hA e1 (Ax [t % 1000000000]) rfl (by omega) (by rw [Ah,hst.len]; omega) (by rw [Ah,hst.len]; omega) ?_;intro v2 m2 hA2;rw [Cj] at hA2;refine G.quo (t:Int) 1000000000 ((t / 1000000000:Nat):Int) (by kernel_rfl) (by omega) (by omega) (by omega) (by omega) ?_;refine G.i k ?_;exact G.b (hJ (k+1,ys++[t % 1000000000],t / 1000000000,v2) _ _ _ cv (hle.trans l1) ⟨⟨by omega,by dsimp only; omega⟩,hA2,hstep⟩ (by dsimp only; omega))
 ·have hz:=Hh hka;rw [hz,Nat.zero_mul,Nat.add_zero] at ht;subst ht;refine G.lF (k:Int) (la.length:Int) ?_;by_cases hc0:0 < t
  ·refine G.gT (t:Int) 0 ?_;refine G.lF (k:Int) (la.length:Int) ?_;refine G.rem (t:Int) 1000000000 ((t % 1000000000:Nat):Int) (by kernel_rfl) (by omega) (by omega) (by omega) (by omega) ?_;refine G.B 3 1 8 (.int .i64 0) [.int .i64 ((t % 1000000000:Nat):Int)] (Ax [t % 1000000000]) ?_;intro g u1 l1 e1;refine G.append 3 1 8 (.int .i64 0) PH.mt (Ag ys) [.int .i64 ((t % 1000000000:Nat):Int)] vo g 0 1 1 (by kernel_rfl) rfl rfl (by omega) hA e1 (Ax [t % 1000000000]) rfl (by omega) (by rw [Ah,hst.len]; omega) (by rw [Ah,hst.len]; omega) ?_;intro v2 m2 hA2;rw [Cj] at hA2;refine G.quo (t:Int) 1000000000 ((t / 1000000000:Nat):Int) (by kernel_rfl) (by omega) (by omega) (by omega) (by omega) ?_;refine G.i k ?_;exact G.b (hJ (k+1,ys++[t % 1000000000],t / 1000000000,v2) _ _ _ cv (hle.trans l1) ⟨⟨by omega,by dsimp only; omega⟩,hA2,hstep⟩ (by dsimp only; omega))
  ·refine G.gF (t:Int) 0 ?_;refine G.give PH.mt (Ag ys) vo (by kernel_rfl) hA (fun _=>.inl rfl) ?_;intro u1 l1 hL;have hyl:=hst.len;subst hvo;refine G.c call168 (C7 (b:=false) hL hst.low (by omega)) ?_;intro v2 u2 l2 h5;rw [hst.over hka (by omega)] at h5;obtain ⟨b5,a5,n5,c5,rfl,_,_⟩:=h5.opn;exact G.r (.slice a5 n5 c5) ⟨rfl,h5.lim⟩
end
section
open Go.RowKit
variable {R Y hi lo mid:Nat}{z:Int}
theorem I7 (m n:Nat):((m:Int)).tdiv n=((m / n:Nat):Int):=rfl
theorem Lh (m n:Nat):((m:Int)).tmod n=((m % n:Nat):Int):=rfl
theorem Af9 (y z:Int):Bp (!(decide (y < 0) == decide (z < 0))) (y.natAbs / z.natAbs)=y.tdiv z:=by
 unfold Bp;rcases Int.lt_or_le y 0 with hy | hy <;> rcases Int.lt_or_le z 0 with hz | hz
 ·rw [decide_eq_true hy,decide_eq_true hz];obtain ⟨m,rfl⟩:∃ m:Nat,y = -(m:Int):=⟨y.natAbs,by omega⟩;obtain ⟨n,rfl⟩:∃ n:Nat,z = -(n:Int):=⟨z.natAbs,by omega⟩;rw [Int.neg_tdiv,Int.tdiv_neg,Int.neg_neg,I7,Int.natAbs_neg,Int.natAbs_neg]; rfl
 ·rw [decide_eq_true hy,decide_eq_false (show ¬ z < 0 by omega)];obtain ⟨m,rfl⟩:∃ m:Nat,y = -(m:Int):=⟨y.natAbs,by omega⟩;obtain ⟨n,rfl⟩:∃ n:Nat,z=(n:Int):=⟨z.natAbs,by omega⟩;rw [Int.neg_tdiv,I7,Int.natAbs_neg]; rfl
 ·rw [decide_eq_false (show ¬ y < 0 by omega),decide_eq_true hz];obtain ⟨m,rfl⟩:∃ m:Nat,y=(m:Int):=⟨y.natAbs,by omega⟩;obtain ⟨n,rfl⟩:∃ n:Nat,z = -(n:Int):=⟨z.natAbs,by omega⟩;rw [Int.tdiv_neg,I7,Int.natAbs_neg]; rfl
 ·rw [decide_eq_false (show ¬ y < 0 by omega),decide_eq_false (show ¬ z < 0 by omega)];obtain ⟨m,rfl⟩:∃ m:Nat,y=(m:Int):=⟨y.natAbs,by omega⟩;obtain ⟨n,rfl⟩:∃ n:Nat,z=(n:Int):=⟨z.natAbs,by omega⟩;rw [I7]; rfl
theorem Aex (y z:Int):Bp (decide (y < 0)) (y.natAbs % z.natAbs)=y.tmod z:=by
 unfold Bp;have hn:∀ m:Nat,((m:Int)).tmod z=((m % z.natAbs:Nat):Int):=by
  intro m;rcases Int.lt_or_le z 0 with hz | hz
  ·obtain ⟨n,rfl⟩:∃ n:Nat,z = -(n:Int):=⟨z.natAbs,by omega⟩;rw [Int.tmod_neg,Lh,Int.natAbs_neg]; rfl
  ·obtain ⟨n,rfl⟩:∃ n:Nat,z=(n:Int):=⟨z.natAbs,by omega⟩;rw [Lh]; rfl
 rcases Int.lt_or_le y 0 with hy | hy
 ·rw [decide_eq_true hy];obtain ⟨m,rfl⟩:∃ m:Nat,y = -(m:Int):=⟨y.natAbs,by omega⟩;rw [Int.neg_tmod,hn,Int.natAbs_neg]; rfl
 ·rw [decide_eq_false (show ¬ y < 0 by omega)];obtain ⟨m,rfl⟩:∃ m:Nat,y=(m:Int):=⟨y.natAbs,by omega⟩;rw [hn]; rfl
theorem An4 {n:Nat}(h:n≠0):0 < (Aa n).getD ((Aa n).length - 1) 0:=by
 have h1:=Hl (Am n);rw [Aj] at h1;have h2:=congrArg List.length h1;rw [List.length_take] at h2;have hp:0 < (Aa n).length:=Ce.2 (by omega);have h3:=I9 (Aa n) (Aa n).length;have h4:=Qo (Aa n) (Aa n).length (by omega);rw [show Bj (Aa n) (Aa n).length=(Aa n).length by omega] at h4;omega
theorem Ab6 (h:z≤0):sgn z≤0:=by
 rcases Int.lt_trichotomy z 0 with h1 | h1 | h1
 ·rw [C0 h1]; decide
 ·rw [h1]; decide
 ·omega
theorem Ao3 (h:0≤z):0≤sgn z:=by
 rcases Int.lt_trichotomy z 0 with h1 | h1 | h1
 ·omega
 ·rw [h1]; decide
 ·rw [B9 h1]; decide
theorem Al7 (g:Nat)(u:PH)(x:Nat)(e:El u g 0 1 [.int .i64 (x:Int)]):Ab u (.slice (some ⟨g,0,none⟩) 1 1) 1 (Ag [x]):=⟨_,1,rfl,by simp [Ag],fun j v hj=>⟨g,0,rfl,e j v hj⟩⟩
theorem Aav (x:Nat)(l:List Nat):Ag [x]++Ag l=Ag (x::l):=rfl
structure Rg (Y R lo hi:Nat):Prop where
 a:lo≤R / Y
 b:R / Y≤hi
 c:hi≤999999999
theorem Rg.up (h:Rg Y R lo hi)(hY:0 < Y)(hm:Y*mid≤R):Rg Y R mid hi:=⟨by rw [Nat.le_div_iff_mul_le hY,Nat.mul_comm]; exact hm,h.b,h.c⟩
theorem Rg.down (h:Rg Y R lo hi)(hY:0 < Y)(hm:¬ Y*mid≤R)(h0:0 < mid)(hc:mid≤hi):Rg Y R lo (mid - 1):=by
 have:R / Y < mid:=by rw [Nat.div_lt_iff_lt_mul hY,Nat.mul_comm]; omega
 exact ⟨h.a,by omega,by have:=h.c; omega⟩
theorem Nn {u:PH}{x x':Value}{y z:Int}(hx:Cn u x y)(hx':Cn u x' z)(sy:nl y.natAbs≤100000000000)(sz:nl z.natAbs≤100000000000)(hz0:z≠0) :
  Fn0 prog 169 [x,x'] u fun v u'=>∃ a b,v=.tuple #[a,b]∧Cn u' a (y.tdiv z)∧Cn u' b (y.tmod z):=by
 obtain ⟨b,a,n,c,rfl,hb,hi⟩:=hx.opn;obtain ⟨b',a',n',c',rfl,hb',hi'⟩:=hx'.opn;obtain ⟨rfl,_⟩:=hi.len;obtain ⟨rfl,_⟩:=hi'.len;have hll:=Am y.natAbs;have sy':(Aa y.natAbs).length≤100000000000:=sy;have sz':(Aa z.natAbs).length≤100000000000:=sz;have hYp:0 < z.natAbs:=by omega
 have hn1:0 < (Aa z.natAbs).length:=Ce.2 hYp;have hquo:Bp (!(b == b')) (y.natAbs / z.natAbs)=y.tdiv z:=by rw [hb,hb']; exact Af9 y z
 have hrem:Bp b (y.natAbs % z.natAbs)=y.tmod z:=by rw [hb]; exact Aex y z
 have hvy:=Aj y.natAbs;rw [← hvy] at hquo hrem;generalize Aa y.natAbs=lx at *
 have hY:=Aj z.natAbs;have hly:=Am z.natAbs;have htop:=An4 (n:=z.natAbs) (by omega);generalize z.natAbs=Y at *
 clear hb hb' hx hx' sy sz;refine Fn0.o func169 ?_;refine G.make 3 1 8 (.int .i64 0) lx.length (by kernel_rfl) rfl rfl (by omega) (by omega) (by omega) ?_;rintro vq m1 hA ⟨aq,rfl⟩;rw [Qk] at hA;refine G.sub (lx.length:Int) 1 ((lx.length:Int) - 1) (by kernel_rfl) rfl (by omega) (by omega) ?_;refine G.l (ι:=Int×Nat×List Nat×Value) (fun i=>[(2,.p 0 0),(3,.p 1 0),(4,.p 2 0),(5,.p 3 0),(6,.v i.2.2.2),(7,.v (.slice (some aq) lx.length lx.length)),(8,.v (.int .i64 i.1))])
  (fun _=>[(0,⟨66,[.v (.bool b),.v (.slice a lx.length c)]⟩),(1,⟨66,[.v (.bool b'),.v (.slice a' (Aa Y).length c')]⟩),(2,⟨66,[.v (.bool false),.v (.slice none 0 0)]⟩),(3,⟨66,[.v (.bool false),.v (.slice none 0 0)]⟩)])
  (fun i u' m'=>(-1≤i.1∧i.1 < lx.length)∧Qc lx Y (i.1+1).toNat i.2.2.1 i.2.1∧B7 u' i.2.2.2 (Aa i.2.1)∧Ae PH.mt m' (.slice (some aq) lx.length lx.length) 3 1 (Ag i.2.2.1)) (fun i=>(i.1+1).toNat) ((lx.length:Int) - 1,0,List.replicate lx.length 0,.slice none 0 0)
  ⟨⟨by simp; omega,by simp; omega⟩,by rw [show (((lx.length:Int) - 1)+1).toNat=lx.length by omega]; exact Qc.start _ _,by rw [Bd]; exact Ab.nil _ _ _ _,hA⟩ ?_
 clear hA m1;rintro J ⟨zi,R,qs,vr⟩ hJ u' m' hle ⟨hzi,hst,hR,hA⟩;simp only at hzi hst hR hA hJ;obtain ⟨ar,cr,rfl,hcr⟩:=hR.opn;by_cases hneg:0≤zi
 ·obtain ⟨k,rfl⟩:=Int.eq_ofNat_of_zero_le hneg;rw [show ((k:Int)+1).toNat=k+1 by omega] at hst;have hk:k < lx.length:=by omega
  have hRY:R < Y:=by rw [hst.rest]; exact Nat.mod_lt _ hYp
  have hxk:=hll.getD k;have hstep:=hst.step hll hk hYp;have hdig:=Vs hRY hxk;obtain ⟨baq,caq,e⟩:=hA.ptr (by intro e; have:=congrArg List.length e; rw [Ah,hst.len,List.length_nil] at this; omega);simp only [Value.slice.injEq,Option.some.injEq] at e;obtain ⟨rfl,_,_⟩:=e;obtain ⟨ba,oa,rfl,ea⟩:=(hi.mono hle).at (j:=k) hk;refine G.hT (k:Int) 0 ?_;refine G.a ba oa lx.length c k 1 hk ?_;refine G.lU none ba (oa+k*1) (.int .i64 (lx.getD k 0:Nat)) ea ?_;refine G.B 3 1 8 (.int .i64 0) [.int .i64 (lx.getD k 0:Nat)] (Ax [lx.getD k 0]) ?_;intro g u1 l1 e1;have hRlen:(Aa R).length≤(Aa Y).length:=D5 (by omega);refine G.appendV 3 1 8 (.int .i64 0) (Ag [lx.getD k 0]) (Ag (Aa R)) (some ⟨g,0,none⟩) 1 ar (Aa R).length cr (by kernel_rfl) (by omega) (Al7 g u1 _ e1) (Ax _) (hR.mono l1) (Ax _) (by rw [Ah,Ah]; simp; omega) (by rw [Ah,Ah]; simp; omega) ?_;intro v2 u2 l2 h2;rw [Aav] at h2;obtain ⟨a2,c2,rfl,hc2⟩:=B7.opn h2;refine G.c call168 (C7 (b:=false) (l:=lx.getD k 0::Aa R) h2 (Low.cons hxk (Am R)) (by simp; omega)) ?_;intro v3 u3 l3 h3;rw [show val (lx.getD k 0::Aa R)=lx.getD k 0+1000000000*R by simp only [val]; rw [Aj]] at h3;generalize lx.getD k 0+1000000000*R=R' at *
  obtain ⟨b3,a3,n3,c3,rfl,_,_⟩:=h3.opn;have hR':=h3.lim;obtain ⟨rfl,hc3⟩:=hR'.len;have hR'len:(Aa R').length≤(Aa Y).length+1:=by
   have h5:=hdig;rw [Nat.div_lt_iff_lt_mul hYp] at h5;refine A4 ?_;have h6:=Cd Y;rw [Nat.pow_succ];have h7:1000000000*Y < 1000000000*1000000000 ^ nl Y:=Nat.mul_lt_mul_of_pos_left h6 (by omega);have h8:(1000000000:Nat) ^ (Aa Y).length=1000000000 ^ nl Y:=rfl;rw [h8,Nat.mul_comm (1000000000 ^ nl Y)]; omega
  have hiy:=hi'.mono (((hle.trans l1).trans l2).trans l3);refine G.c call172 (Jb hR' hiy (by show (Aa R').length≤_; omega) (by show (Aa Y).length≤_; omega)) ?_;rintro v4 u4 l4 rfl;have hR4:=hR'.mono l4;have hiy4:=hiy.mono l4;have hle4:PH.le u u4:=(((hle.trans l1).trans l2).trans l3).trans l4;by_cases hge:Y≤R'
  ·refine G.hT' (sgn ((R':Int) - Y)) 0 (Ao3 (by omega)) ?_;have hlen2:(Aa Y).length≤(Aa R').length:=D5 hge;obtain ⟨rl,hr1,hr2⟩:=Anr R' (Aa Y).length hn1 hR'len hlen2;obtain ⟨br,orr,rfl,er⟩:=hR4.at (j:=(Aa Y).length - 1) (by omega);have hr1l:=(Am R').getD ((Aa Y).length - 1);have hr2l:=(Am R').getD (Aa Y).length;have hy1l:=hly.getD ((Aa Y).length - 1);obtain ⟨by_,oy,rfl,ey⟩:=hiy4.at (j:=(Aa Y).length - 1) (by omega);have hYsplit:Y=(Aa Y).getD ((Aa Y).length - 1) 0*1000000000 ^ ((Aa Y).length - 1)+val ((Aa Y).take ((Aa Y).length - 1)):=by
    have h5:=E5 (Aa Y) ((Aa Y).length - 1) (by omega);rw [hY,B2 _ _ (show (Aa Y).length - 1 < (Aa Y).length by omega),List.drop_of_length_le (by omega)] at h5;simp only [val,Nat.mul_zero,Nat.add_zero] at h5;rw [Nat.mul_comm]; omega
   have hyl:val ((Aa Y).take ((Aa Y).length - 1)) < 1000000000 ^ ((Aa Y).length - 1):=by
    have:=Ip (hly.take ((Aa Y).length - 1));rwa [List.length_take,Nat.min_eq_left (by omega)] at this
   have hest:=All hYsplit hyl htop hr1 hr2;refine G.s ((Aa Y).length:Int) 1 (((Aa Y).length - 1:Nat):Int) ?_;refine G.a br orr (Aa R').length c3 ((Aa Y).length - 1) 1 (by omega) ?_;refine G.lU none br (orr+((Aa Y).length - 1)*1) (.int .i64 ((Aa R').getD ((Aa Y).length - 1) 0:Nat)) er ?_;obtain ⟨top,htp⟩:∃ top,top=(Aa R').getD ((Aa Y).length - 1) 0+(Aa R').getD (Aa Y).length 0*1000000000:=⟨_,rfl⟩;rw [← htp] at hest;have hmm:∀ k:Nat,((min (999999999:Int) (k:Int)))=((min 999999999 k:Nat):Int):=fun k=>by omega
   obtain ⟨h1,hh1⟩:∃ h1,h1=min 999999999 (top / (Aa Y).getD ((Aa Y).length - 1) 0):=⟨_,rfl⟩;obtain ⟨l0,hl0⟩:∃ l0,l0=min h1 (top / ((Aa Y).getD ((Aa Y).length - 1) 0+1)):=⟨_,rfl⟩;have hfind:Rg Y R' l0 h1:=⟨by omega,by omega,by omega⟩;by_cases hlong:(Aa Y).length < (Aa R').length
   ·refine G.gT ((Aa R').length:Int) ((Aa Y).length:Int) ?_;obtain ⟨_,_,e9,er2⟩:=hR4.at (j:=(Aa Y).length) hlong;simp only [Option.some.injEq,Addr.mk.injEq,and_true] at e9;obtain ⟨rfl,rfl⟩:=e9;refine G.a br orr (Aa R').length c3 (Aa Y).length 1 hlong ?_;refine G.lU none br (orr+(Aa Y).length*1) (.int .i64 ((Aa R').getD (Aa Y).length 0:Nat)) er2 ?_;refine G.mul ((Aa R').getD (Aa Y).length 0:Nat) 1000000000 (((Aa R').getD (Aa Y).length 0*1000000000:Nat):Int) (by kernel_rfl) (by omega) (by omega) (by omega) ?_;refine G.p ((Aa R').getD ((Aa Y).length - 1) 0:Nat) (((Aa R').getD (Aa Y).length 0*1000000000:Nat):Int) (top:Int) ?_;obtain ⟨y1,hy1e⟩:∃ y1,y1=(Aa Y).getD ((Aa Y).length - 1) 0:=⟨_,rfl⟩;rw [← hy1e] at ey hh1 hl0 htop hy1l;refine G.s ((Aa Y).length:Int) 1 (((Aa Y).length - 1:Nat):Int) ?_;refine G.a by_ oy (Aa Y).length c' ((Aa Y).length - 1) 1 (by omega) ?_;refine G.lU none by_ (oy+((Aa Y).length - 1)*1) (.int .i64 (y1:Nat)) ey ?_;refine G.quo (top:Int) (y1:Int) ((top / y1:Nat):Int) (by kernel_rfl) (by omega) (by omega) (by omega) (Int.natCast_ediv _ _).symm ?_;refine G.minI [3,3] 999999999 ((top / y1:Nat):Int) (h1:Int) (by kernel_rfl) (by rw [hmm,hh1]) ?_;refine G.s ((Aa Y).length:Int) 1 (((Aa Y).length - 1:Nat):Int) ?_;refine G.a by_ oy (Aa Y).length c' ((Aa Y).length - 1) 1 (by omega) ?_;refine G.lU none by_ (oy+((Aa Y).length - 1)*1) (.int .i64 (y1:Nat)) ey ?_;refine G.i y1 ?_;refine G.quo (top:Int) ((y1+1:Nat):Int) ((top / (y1+1):Nat):Int) (by kernel_rfl) (by omega) (by omega) (by omega) (Int.natCast_ediv _ _).symm ?_;refine G.minI [3,3] (h1:Int) ((top / (y1+1):Nat):Int) (l0:Int) (by kernel_rfl) (by rw [hl0]; omega) ?_;refine G.l (ι:=Nat×Nat) (fun i=>[(2,.p 0 0),(3,.p 1 0),(4,.p 2 0),(5,.p 3 0),(6,.v (.slice (some ⟨br,orr,none⟩) (Aa R').length c3)),(7,.v (.slice (some ⟨baq,0,none⟩) lx.length lx.length)),(8,.v (.int .i64 (k:Int))),(9,.v (.int .i64 (i.1:Int))),(10,.v (.int .i64 (i.2:Int)))])
     (fun _=>[(0,⟨66,[.v (.bool b),.v (.slice (some ⟨ba,oa,none⟩) lx.length c)]⟩),(1,⟨66,[.v (.bool b'),.v (.slice (some ⟨by_,oy,none⟩) (Aa Y).length c')]⟩),(2,⟨66,[.v (.bool false),.v (.slice none 0 0)]⟩),(3,⟨66,[.v (.bool false),.v (.slice none 0 0)]⟩)])
     (fun i _ m'=>Rg Y R' i.1 i.2∧Ae PH.mt m' (.slice (some ⟨baq,0,none⟩) lx.length lx.length) 3 1 (Ag qs)) (fun i=>i.2 - i.1) (l0,h1) ⟨hfind,hA⟩ ?_
    clear hfind hA hl0 hh1;rintro J2 ⟨lo,hi2⟩ hJ2 u5 m' hle5 ⟨hf,hA⟩;simp only at hf hA hJ2;have hf1:=hf.a;have hf2:=hf.b;have hf3:=hf.c;by_cases hlt:lo < hi2
    ·refine G.lT (lo:Int) (hi2:Int) ?_;refine G.p (lo:Int) (hi2:Int) ((lo+hi2:Nat):Int) ?_;refine G.p ((lo+hi2:Nat):Int) 1 ((lo+hi2+1:Nat):Int) ?_;obtain ⟨mid,hmid⟩:∃ mid,mid=(lo+hi2+1) / 2:=⟨_,rfl⟩;refine G.quo ((lo+hi2+1:Nat):Int) 2 (mid:Int) (by kernel_rfl) (by omega) (by omega) (by omega) (by omega) ?_;refine G.c call231 (Hj (n:=mid) (hiy4.mono hle5) hly (by omega) (by omega)) ?_;intro v6 u6 l6 h6;rw [hY] at h6;obtain ⟨a6,c6,rfl,hc6⟩:=h6.opn;have hs6:(Aa (Y*mid)).length≤200000000002:=by
      have h5:=Fp Y mid;have h7:nl mid≤1:=A4 (by omega);have h8:nl Y=(Aa Y).length:=rfl;have h9:nl (Y*mid)=(Aa (Y*mid)).length:=rfl;omega
     refine G.c call172 (Jb h6 ((hR4.mono hle5).mono l6) (by show (Aa (Y*mid)).length≤_; omega) (by show (Aa R').length≤_; omega)) ?_;rintro v7 u7 l7 rfl;by_cases hle7:Y*mid≤R'
     ·refine G.kT' (sgn (((Y*mid:Nat):Int) - R')) 0 (Ab6 (by omega)) ?_;exact G.b (hJ2 (mid,hi2) _ _ _ cv ((hle5.trans l6).trans l7) ⟨hf.up hYp hle7,hA⟩ (by dsimp only; omega))
     ·refine G.kF' (sgn (((Y*mid:Nat):Int) - R')) 0 (by rw [B9 (by omega)]; decide) ?_;refine G.s (mid:Int) 1 ((mid - 1:Nat):Int) ?_;exact G.b (hJ2 (lo,mid - 1) _ _ _ cv ((hle5.trans l6).trans l7) ⟨hf.down hYp hle7 (by omega) (by omega),hA⟩ (by dsimp only; omega))
    ·obtain rfl:lo=R' / Y:=by omega
     refine G.lF ((R' / Y:Nat):Int) (hi2:Int) ?_;refine G.a baq 0 lx.length lx.length k 1 hk ?_;refine G.storeA 1 PH.mt _ baq lx.length lx.length k (.int .i64 ((R' / Y:Nat):Int)) (by kernel_rfl) hA (by rw [Ah,hst.len]; exact hk) rfl rfl ?_;intro m2 hA2;rw [Je] at hA2;by_cases hq0:0 < R' / Y
     ·refine G.gT ((R' / Y:Nat):Int) 0 ?_;refine G.c call231 (Hj (n:=R' / Y) (hiy4.mono hle5) hly (by omega) (by omega)) ?_;intro v6 u6 l6 h6;rw [hY] at h6;have hmul:Y*(R' / Y)≤R':=Nat.mul_div_le R' Y;obtain ⟨a6,c6,rfl,hc6⟩:=h6.opn;refine G.c call173 (Iz ((hR4.mono hle5).mono l6) h6 (Am _) (Am _) (by omega) (D5 hmul) (by rw [Aj,Aj]; exact hmul)) ?_;rintro v7 u7 l7 ⟨l,g1,g2,g3,g4⟩;obtain ⟨a7,c7,rfl,hc7⟩:=g1.opn;refine G.c call168 (C7 (b:=false) g1 g2 (by omega)) ?_;intro v8 u8 l8 h8;rw [g3,Aj,Aj,show R' - Y*(R' / Y)=R' % Y by have:=Nat.div_add_mod R' Y; omega] at h8;obtain ⟨b8,a8,n8,c8,rfl,_,_⟩:=h8.opn;refine G.sub (k:Int) 1 ((k:Int) - 1) (by kernel_rfl) rfl (by omega) (by omega) ?_;refine G.b (hJ ((k:Int) - 1,R' % Y,qs.set k (R' / Y),.slice a8 n8 c8) _ _ _ cv ((((hle4.trans hle5).trans l6).trans l7).trans l8) ⟨⟨by dsimp only; omega,by dsimp only; omega⟩,?_,h8.lim,hA2⟩ (by dsimp only; omega));rw [show (((k:Int) - 1)+1).toNat=k by omega]; exact hstep
     ·refine G.gF ((R' / Y:Nat):Int) 0 ?_;refine G.sub (k:Int) 1 ((k:Int) - 1) (by kernel_rfl) rfl (by omega) (by omega) ?_;have hm0:R' % Y=R':=by have:=Nat.div_add_mod R' Y; rw [show R' / Y=0 by omega,Nat.mul_zero] at this; omega
      rw [hm0] at hstep;refine G.b (hJ ((k:Int) - 1,R',qs.set k (R' / Y),.slice (some ⟨br,orr,none⟩) (Aa R').length c3) _ _ _ cv (hle4.trans hle5) ⟨⟨by dsimp only; omega,by dsimp only; omega⟩,?_,hR4.mono hle5,hA2⟩ (by dsimp only; omega));rw [show (((k:Int) - 1)+1).toNat=k by omega]; exact hstep
   ·refine G.gF ((Aa R').length:Int) ((Aa Y).length:Int) ?_;have h0:=Hh (l:=Aa R') (k:=(Aa Y).length) (by omega);rw [h0,Nat.zero_mul,Nat.add_zero] at htp;rw [← htp];obtain ⟨y1,hy1e⟩:∃ y1,y1=(Aa Y).getD ((Aa Y).length - 1) 0:=⟨_,rfl⟩;rw [← hy1e] at ey hh1 hl0 htop hy1l;refine G.s ((Aa Y).length:Int) 1 (((Aa Y).length - 1:Nat):Int) ?_;refine G.a by_ oy (Aa Y).length c' ((Aa Y).length - 1) 1 (by omega) ?_;refine G.lU none by_ (oy+((Aa Y).length - 1)*1) (.int .i64 (y1:Nat)) ey ?_;refine G.quo (top:Int) (y1:Int) ((top / y1:Nat):Int) (by kernel_rfl) (by omega) (by omega) (by omega) (Int.natCast_ediv _ _).symm ?_;refine G.minI [3,3] 999999999 ((top / y1:Nat):Int) (h1:Int) (by kernel_rfl) (by rw [hmm,hh1]) ?_;refine G.s ((Aa Y).length:Int) 1 (((Aa Y).length - 1:Nat):Int) ?_;refine G.a by_ oy (Aa Y).length c' ((Aa Y).length - 1) 1 (by omega) ?_;refine G.lU none by_ (oy+((Aa Y).length - 1)*1) (.int .i64 (y1:Nat)) ey ?_;refine G.i y1 ?_;refine G.quo (top:Int) ((y1+1:Nat):Int) ((top / (y1+1):Nat):Int) (by kernel_rfl) (by omega) (by omega) (by omega) (Int.natCast_ediv _ _).symm ?_;refine G.minI [3,3] (h1:Int) ((top / (y1+1):Nat):Int) (l0:Int) (by kernel_rfl) (by rw [hl0]; omega) ?_;refine G.l (ι:=Nat×Nat) (fun i=>[(2,.p 0 0),(3,.p 1 0),(4,.p 2 0),(5,.p 3 0),(6,.v (.slice (some ⟨br,orr,none⟩) (Aa R').length c3)),(7,.v (.slice (some ⟨baq,0,none⟩) lx.length lx.length)),(8,.v (.int .i64 (k:Int))),(9,.v (.int .i64 (i.1:Int))),(10,.v (.int .i64 (i.2:Int)))])
     (fun _=>[(0,⟨66,[.v (.bool b),.v (.slice (some ⟨ba,oa,none⟩) lx.length c)]⟩),(1,⟨66,[.v (.bool b'),.v (.slice (some ⟨by_,oy,none⟩) (Aa Y).length c')]⟩),(2,⟨66,[.v (.bool false),.v (.slice none 0 0)]⟩),(3,⟨66,[.v (.bool false),.v (.slice none 0 0)]⟩)])
     (fun i _ m'=>Rg Y R' i.1 i.2∧Ae PH.mt m' (.slice (some ⟨baq,0,none⟩) lx.length lx.length) 3 1 (Ag qs)) (fun i=>i.2 - i.1) (l0,h1) ⟨hfind,hA⟩ ?_
    clear hfind hA hl0 hh1;rintro J2 ⟨lo,hi2⟩ hJ2 u5 m' hle5 ⟨hf,hA⟩;simp only at hf hA hJ2;have hf1:=hf.a;have hf2:=hf.b;have hf3:=hf.c;by_cases hlt:lo < hi2
    ·refine G.lT (lo:Int) (hi2:Int) ?_;refine G.p (lo:Int) (hi2:Int) ((lo+hi2:Nat):Int) ?_;refine G.p ((lo+hi2:Nat):Int) 1 ((lo+hi2+1:Nat):Int) ?_;obtain ⟨mid,hmid⟩:∃ mid,mid=(lo+hi2+1) / 2:=⟨_,rfl⟩;refine G.quo ((lo+hi2+1:Nat):Int) 2 (mid:Int) (by kernel_rfl) (by omega) (by omega) (by omega) (by omega) ?_;refine G.c call231 (Hj (n:=mid) (hiy4.mono hle5) hly (by omega) (by omega)) ?_;intro v6 u6 l6 h6;rw [hY] at h6;obtain ⟨a6,c6,rfl,hc6⟩:=h6.opn;have hs6:(Aa (Y*mid)).length≤200000000002:=by
      have h5:=Fp Y mid;have h7:nl mid≤1:=A4 (by omega);have h8:nl Y=(Aa Y).length:=rfl;have h9:nl (Y*mid)=(Aa (Y*mid)).length:=rfl;omega
     refine G.c call172 (Jb h6 ((hR4.mono hle5).mono l6) (by show (Aa (Y*mid)).length≤_; omega) (by show (Aa R').length≤_; omega)) ?_;rintro v7 u7 l7 rfl;by_cases hle7:Y*mid≤R'
     ·refine G.kT' (sgn (((Y*mid:Nat):Int) - R')) 0 (Ab6 (by omega)) ?_;exact G.b (hJ2 (mid,hi2) _ _ _ cv ((hle5.trans l6).trans l7) ⟨hf.up hYp hle7,hA⟩ (by dsimp only; omega))
     ·refine G.kF' (sgn (((Y*mid:Nat):Int) - R')) 0 (by rw [B9 (by omega)]; decide) ?_;refine G.s (mid:Int) 1 ((mid - 1:Nat):Int) ?_;exact G.b (hJ2 (lo,mid - 1) _ _ _ cv ((hle5.trans l6).trans l7) ⟨hf.down hYp hle7 (by omega) (by omega),hA⟩ (by dsimp only; omega))
    ·obtain rfl:lo=R' / Y:=by omega
     refine G.lF ((R' / Y:Nat):Int) (hi2:Int) ?_;refine G.a baq 0 lx.length lx.length k 1 hk ?_;refine G.storeA 1 PH.mt _ baq lx.length lx.length k (.int .i64 ((R' / Y:Nat):Int)) (by kernel_rfl) hA (by rw [Ah,hst.len]; exact hk) rfl rfl ?_;intro m2 hA2;rw [Je] at hA2;by_cases hq0:0 < R' / Y
     ·refine G.gT ((R' / Y:Nat):Int) 0 ?_;refine G.c call231 (Hj (n:=R' / Y) (hiy4.mono hle5) hly (by omega) (by omega)) ?_;intro v6 u6 l6 h6;rw [hY] at h6;have hmul:Y*(R' / Y)≤R':=Nat.mul_div_le R' Y;obtain ⟨a6,c6,rfl,hc6⟩:=h6.opn;refine G.c call173 (Iz ((hR4.mono hle5).mono l6) h6 (Am _) (Am _) (by omega) (D5 hmul) (by rw [Aj,Aj]; exact hmul)) ?_;rintro v7 u7 l7 ⟨l,g1,g2,g3,g4⟩;obtain ⟨a7,c7,rfl,hc7⟩:=g1.opn;refine G.c call168 (C7 (b:=false) g1 g2 (by omega)) ?_;intro v8 u8 l8 h8;rw [g3,Aj,Aj,show R' - Y*(R' / Y)=R' % Y by have:=Nat.div_add_mod R' Y; omega] at h8;obtain ⟨b8,a8,n8,c8,rfl,_,_⟩:=h8.opn;refine G.sub (k:Int) 1 ((k:Int) - 1) (by kernel_rfl) rfl (by omega) (by omega) ?_;refine G.b (hJ ((k:Int) - 1,R' % Y,qs.set k (R' / Y),.slice a8 n8 c8) _ _ _ cv ((((hle4.trans hle5).trans l6).trans l7).trans l8) ⟨⟨by dsimp only; omega,by dsimp only; omega⟩,?_,h8.lim,hA2⟩ (by dsimp only; omega));rw [show (((k:Int) - 1)+1).toNat=k by omega]; exact hstep
     ·refine G.gF ((R' / Y:Nat):Int) 0 ?_;refine G.sub (k:Int) 1 ((k:Int) - 1) (by kernel_rfl) rfl (by omega) (by omega) ?_;have hm0:R' % Y=R':=by have:=Nat.div_add_mod R' Y; rw [show R' / Y=0 by omega,Nat.mul_zero] at this; omega
      rw [hm0] at hstep;refine G.b (hJ ((k:Int) - 1,R',qs.set k (R' / Y),.slice (some ⟨br,orr,none⟩) (Aa R').length c3) _ _ _ cv (hle4.trans hle5) ⟨⟨by dsimp only; omega,by dsimp only; omega⟩,?_,hR4.mono hle5,hA2⟩ (by dsimp only; omega));rw [show (((k:Int) - 1)+1).toNat=k by omega]; exact hstep
  ·refine G.hF' (sgn ((R':Int) - Y)) 0 (by rw [C0 (by omega)]; decide) ?_;obtain ⟨l0,hl0⟩:∃ l0:Nat,l0=0:=⟨_,rfl⟩;obtain ⟨h1,hh1⟩:∃ h1:Nat,h1=0:=⟨_,rfl⟩;have hfind:Rg Y R' 0 0:=by
    have:R' / Y=0:=Nat.div_eq_of_lt (by omega);exact ⟨by omega,by omega,by omega⟩
   refine G.l (ι:=Nat×Nat) (fun i=>[(2,.p 0 0),(3,.p 1 0),(4,.p 2 0),(5,.p 3 0),(6,.v (.slice a3 (Aa R').length c3)),(7,.v (.slice (some ⟨baq,0,none⟩) lx.length lx.length)),(8,.v (.int .i64 (k:Int))),(9,.v (.int .i64 (i.1:Int))),(10,.v (.int .i64 (i.2:Int)))])
    (fun _=>[(0,⟨66,[.v (.bool b),.v (.slice (some ⟨ba,oa,none⟩) lx.length c)]⟩),(1,⟨66,[.v (.bool b'),.v (.slice a' (Aa Y).length c')]⟩),(2,⟨66,[.v (.bool false),.v (.slice none 0 0)]⟩),(3,⟨66,[.v (.bool false),.v (.slice none 0 0)]⟩)])
    (fun i _ m'=>Rg Y R' i.1 i.2∧Ae PH.mt m' (.slice (some ⟨baq,0,none⟩) lx.length lx.length) 3 1 (Ag qs)) (fun i=>i.2 - i.1) (0,0) ⟨hfind,hA⟩ ?_
   clear hfind hA hl0 hh1;rintro J2 ⟨lo,hi2⟩ hJ2 u5 m' hle5 ⟨hf,hA⟩;simp only at hf hA hJ2;have hf1:=hf.a;have hf2:=hf.b;have hf3:=hf.c;by_cases hlt:lo < hi2
   ·refine G.lT (lo:Int) (hi2:Int) ?_;refine G.p (lo:Int) (hi2:Int) ((lo+hi2:Nat):Int) ?_;refine G.p ((lo+hi2:Nat):Int) 1 ((lo+hi2+1:Nat):Int) ?_;obtain ⟨mid,hmid⟩:∃ mid,mid=(lo+hi2+1) / 2:=⟨_,rfl⟩;refine G.quo ((lo+hi2+1:Nat):Int) 2 (mid:Int) (by kernel_rfl) (by omega) (by omega) (by omega) (by omega) ?_;refine G.c call231 (Hj (n:=mid) (hiy4.mono hle5) hly (by omega) (by omega)) ?_;intro v6 u6 l6 h6;rw [hY] at h6;obtain ⟨a6,c6,rfl,hc6⟩:=h6.opn;have hs6:(Aa (Y*mid)).length≤200000000002:=by
     have h5:=Fp Y mid;have h7:nl mid≤1:=A4 (by omega);have h8:nl Y=(Aa Y).length:=rfl;have h9:nl (Y*mid)=(Aa (Y*mid)).length:=rfl;omega
    refine G.c call172 (Jb h6 ((hR4.mono hle5).mono l6) (by show (Aa (Y*mid)).length≤_; omega) (by show (Aa R').length≤_; omega)) ?_;rintro v7 u7 l7 rfl;by_cases hle7:Y*mid≤R'
    ·refine G.kT' (sgn (((Y*mid:Nat):Int) - R')) 0 (Ab6 (by omega)) ?_;exact G.b (hJ2 (mid,hi2) _ _ _ cv ((hle5.trans l6).trans l7) ⟨hf.up hYp hle7,hA⟩ (by dsimp only; omega))
    ·refine G.kF' (sgn (((Y*mid:Nat):Int) - R')) 0 (by rw [B9 (by omega)]; decide) ?_;refine G.s (mid:Int) 1 ((mid - 1:Nat):Int) ?_;exact G.b (hJ2 (lo,mid - 1) _ _ _ cv ((hle5.trans l6).trans l7) ⟨hf.down hYp hle7 (by omega) (by omega),hA⟩ (by dsimp only; omega))
   ·obtain rfl:lo=R' / Y:=by omega
    refine G.lF ((R' / Y:Nat):Int) (hi2:Int) ?_;refine G.a baq 0 lx.length lx.length k 1 hk ?_;refine G.storeA 1 PH.mt _ baq lx.length lx.length k (.int .i64 ((R' / Y:Nat):Int)) (by kernel_rfl) hA (by rw [Ah,hst.len]; exact hk) rfl rfl ?_;intro m2 hA2;rw [Je] at hA2;by_cases hq0:0 < R' / Y
    ·refine G.gT ((R' / Y:Nat):Int) 0 ?_;refine G.c call231 (Hj (n:=R' / Y) (hiy4.mono hle5) hly (by omega) (by omega)) ?_;intro v6 u6 l6 h6;rw [hY] at h6;have hmul:Y*(R' / Y)≤R':=Nat.mul_div_le R' Y;obtain ⟨a6,c6,rfl,hc6⟩:=h6.opn;refine G.c call173 (Iz ((hR4.mono hle5).mono l6) h6 (Am _) (Am _) (by omega) (D5 hmul) (by rw [Aj,Aj]; exact hmul)) ?_;rintro v7 u7 l7 ⟨l,g1,g2,g3,g4⟩;obtain ⟨a7,c7,rfl,hc7⟩:=g1.opn;refine G.c call168 (C7 (b:=false) g1 g2 (by omega)) ?_;intro v8 u8 l8 h8;rw [g3,Aj,Aj,show R' - Y*(R' / Y)=R' % Y by have:=Nat.div_add_mod R' Y; omega] at h8;obtain ⟨b8,a8,n8,c8,rfl,_,_⟩:=h8.opn;refine G.sub (k:Int) 1 ((k:Int) - 1) (by kernel_rfl) rfl (by omega) (by omega) ?_;refine G.b (hJ ((k:Int) - 1,R' % Y,qs.set k (R' / Y),.slice a8 n8 c8) _ _ _ cv ((((hle4.trans hle5).trans l6).trans l7).trans l8) ⟨⟨by dsimp only; omega,by dsimp only; omega⟩,?_,h8.lim,hA2⟩ (by dsimp only; omega));rw [show (((k:Int) - 1)+1).toNat=k by omega]; exact hstep
    ·refine G.gF ((R' / Y:Nat):Int) 0 ?_;refine G.sub (k:Int) 1 ((k:Int) - 1) (by kernel_rfl) rfl (by omega) (by omega) ?_;have hm0:R' % Y=R':=by have:=Nat.div_add_mod R' Y; rw [show R' / Y=0 by omega,Nat.mul_zero] at this; omega
     rw [hm0] at hstep;refine G.b (hJ ((k:Int) - 1,R',qs.set k (R' / Y),.slice a3 (Aa R').length c3) _ _ _ cv (hle4.trans hle5) ⟨⟨by dsimp only; omega,by dsimp only; omega⟩,?_,hR4.mono hle5,hA2⟩ (by dsimp only; omega));rw [show (((k:Int) - 1)+1).toNat=k by omega]; exact hstep
 ·obtain rfl:zi = -1:=by omega
  refine G.hF (-1) 0 ?_;refine G.give PH.mt (Ag qs) _ (by kernel_rfl) hA (fun _=>.inl rfl) ?_;intro u1 l1 hL;have hst:Qc lx Y 0 qs R:=hst;have hq:=hst.quo;have hr:=hst.rest;rw [List.drop_zero,List.drop_zero] at hq;rw [List.drop_zero] at hr;have hRY:R < Y:=by rw [hr]; exact Nat.mod_lt _ hYp
  have hRlen:(Aa R).length≤(Aa Y).length:=D5 (by omega);refine G.neB b b' (by kernel_rfl) ?_;refine G.c call168 (C7 (b:=!(b == b')) hL hst.low (by rw [hst.len]; omega)) ?_;intro v2 u2 l2 h2;rw [hq,hquo] at h2;obtain ⟨b2,a2,n2,c2,rfl,_,_⟩:=h2.opn;refine G.c call168 (C7 (b:=b) (hR.mono (l1.trans l2)) (Am R) (by omega)) ?_;intro v3 u3 l3 h3;rw [Aj,hr,hrem] at h3;obtain ⟨b3,a3,n3,c3,rfl,_,_⟩:=h3.opn;exact G.r (.tuple #[.agg #[.bool b2,.slice a2 n2 c2],.agg #[.bool b3,.slice a3 n3 c3]]) ⟨rfl,_,_,rfl,h2.mono l3,h3⟩
end
section
open Go.RowKit
variable {k n:Nat}{y z:Int}{ys:List Nat}
section rules
variable {P:Program} [Ba P] {fn:Func} {Post:B0} {st:List KI×S} {u m:PH}
theorem Amf {x y z:Int}(hx:-9223372036854775807≤x)(hx2:x≤9223372036854775807)(hy:0 < y)(hz:x.tdiv y=z):-9223372036854775808≤z∧z≤9223372036854775807:=by
 rw [← hz];rcases Int.lt_or_le x 0 with h | h
 ·obtain ⟨k,rfl⟩:∃ k:Int,x = -k:=⟨-x,by omega⟩;rw [Int.neg_tdiv,Int.tdiv_eq_ediv_of_nonneg (by omega)];have h1:=Int.ediv_nonneg (a:=k) (b:=y) (by omega) (by omega);have h2:=Int.ediv_le_self (a:=k) y (by omega);omega
 ·rw [Int.tdiv_eq_ediv_of_nonneg h];have h1:=Int.ediv_nonneg (a:=x) (b:=y) h (by omega);have h2:=Int.ediv_le_self (a:=x) y h;omega
theorem G.quoT (x y z:Int)(h:Al P (adv P st)=.bin .quo (.int .i64 x) (.int .i64 y))(hx:-9223372036854775807≤x)(hx2:x≤9223372036854775807)(hy:0 < y)(hz:x.tdiv y=z)
  (k:G P fn Post (nx (adv P st) (.int .i64 z)) u m):G P fn Post st u m:=by
 refine G.bin _ h Cy (fun t w=>?_) k;have hb:=Amf hx hx2 hy hz;have h4:¬ y=0:=by omega
 simp [binOp,Op.intDiv,h4,hz,Cl hb.1 hb.2]
theorem G.remT (x y z:Int)(h:Al P (adv P st)=.bin .rem (.int .i64 x) (.int .i64 y))(hy:0 < y)(hz:x.tmod y=z)(h1:-9223372036854775808≤z)(h2:z≤9223372036854775807)
  (k:G P fn Post (nx (adv P st) (.int .i64 z)) u m):G P fn Post st u m:=by
 refine G.bin _ h Cy (fun t w=>?_) k;have h4:¬ y=0:=by omega
 simp [binOp,Op.intDiv,h4,hz,Cl h1 h2]
end rules
theorem Cn.nonneg {u:PH}{v:Value}(h:Cn u v (k:Int)):∃ a n c,v=.agg #[.bool false,.slice a n c]∧B7 u (.slice a n c) (Aa k):=by
 obtain ⟨a,n,c,h1,h2⟩:=h;rw [decide_eq_false (by omega)] at h1;exact ⟨a,n,c,h1,h2⟩
theorem V2 {u:PH}{x x':Value}(hx:Cn u x y)(hx':Cn u x' z)(sy:nl y.natAbs≤100000000000)(sz:nl z.natAbs≤100000000000) :
  Fn0 prog 167 [x,x'] u fun v u'=>Cn u' v (Nat.gcd y.natAbs z.natAbs:Nat):=by
 obtain ⟨b,a,n,c,rfl,hb,hi⟩:=hx.opn;obtain ⟨b',a',n',c',rfl,hb',hi'⟩:=hx'.opn;refine Fn0.o func167 ?_;refine G.l (ι:=(Nat×Nat)×(Option Addr×Nat×Nat)×(Option Addr×Nat×Nat)) (fun _=>[(2,.p 0 0),(3,.p 1 0),(4,.p 2 0)])
  (fun i=>[(0,⟨66,[.v (.bool false),.v (.slice i.2.1.1 i.2.1.2.1 i.2.1.2.2)]⟩),(1,⟨66,[.v (.bool false),.v (.slice i.2.2.1 i.2.2.2.1 i.2.2.2.2)]⟩),(2,⟨66,[.v (.bool false),.v (.slice none 0 0)]⟩)])
  (fun i u' m'=>(Nat.gcd i.1.1 i.1.2=Nat.gcd y.natAbs z.natAbs∧nl i.1.1≤100000000000∧nl i.1.2≤100000000000)∧B7 u' (.slice i.2.1.1 i.2.1.2.1 i.2.1.2.2) (Aa i.1.1)∧B7 u' (.slice i.2.2.1 i.2.2.2.1 i.2.2.2.2) (Aa i.1.2)∧m'=PH.mt) (fun i=>i.1.2)
  ((y.natAbs,z.natAbs),(a,n,c),(a',n',c')) ⟨⟨rfl,sy,sz⟩,hi,hi',rfl⟩ ?_
 clear hi hi' hx hx';rintro J ⟨⟨p,q⟩,⟨a,n,c⟩,⟨a',n',c'⟩⟩ hJ u' m' hle ⟨⟨hg,sp,sq⟩,hi,hi',rfl⟩;simp only at hg sp sq hi hi' hJ;obtain ⟨rfl,_⟩:=hi.len;obtain ⟨rfl,_⟩:=hi'.len;have sp':(Aa p).length≤100000000000:=sp;have sq':(Aa q).length≤100000000000:=sq;by_cases h0:0 < (Aa q).length
 ·have hq:=Ce.1 h0;refine G.gT ((Aa q).length:Int) 0 ?_;have hP:Cn u' (.agg #[.bool false,.slice a (Aa p).length c]) (p:Int):=⟨_,_,_,by rw [decide_eq_false (by omega)],hi⟩;have hQ:Cn u' (.agg #[.bool false,.slice a' (Aa q).length c']) (q:Int):=⟨_,_,_,by rw [decide_eq_false (by omega)],hi'⟩;refine G.c call169 (Nn hP hQ sp sq (by omega)) ?_;rintro v1 u1 l1 ⟨va,vb,rfl,h1,h2⟩;rw [Lh] at h2;obtain ⟨b1,a1,n1,c1,rfl,_,_⟩:=h1.opn;obtain ⟨a2,n2,c2,rfl,h3⟩:=h2.nonneg;exact G.b (hJ ((q,p % q),(a',(Aa q).length,c'),(a2,n2,c2)) _ _ _ cv (hle.trans l1) ⟨⟨by dsimp only; rw [Nat.gcd_comm q,← Nat.gcd_rec,Nat.gcd_comm]; exact hg,sq,Nat.le_trans (C6 (Nat.le_of_lt (Nat.mod_lt _ hq))) sq⟩,hi'.mono l1,h3,rfl⟩ (Nat.mod_lt _ hq))
 ·have hq:q=0:=by
   rcases Nat.eq_zero_or_pos q with h | h
   ·exact h
   ·exact absurd (Ce.2 h) h0
  subst hq;refine G.gF ((Aa 0).length:Int) 0 ?_;rw [Nat.gcd_zero_right] at hg;exact G.r (.agg #[.bool false,.slice a (Aa p).length c]) ⟨rfl,by rw [← hg]; exact ⟨_,_,_,by rw [decide_eq_false (by omega)],hi⟩⟩
structure Wa (n k:Nat)(ys:List Nat):Prop where
 low:Low ys
 sum:n=val ys+1000000000 ^ ys.length*k
 top:ys≠[]→k=0→0 < ys.getD (ys.length - 1) 0
theorem Wa.start (n:Nat):Wa n n []:=⟨Low.nil,by simp [val],fun h=>absurd rfl h⟩
theorem Wa.step (h:Wa n k ys)(hk:k≠0):Wa n (k / 1000000000) (ys++[k % 1000000000]):=by
 refine ⟨h.low.append (Low.cons (by omega) Low.nil),?_,fun _ h0=>?_⟩
 ·have:=h.sum;rw [Hp,List.length_append,List.length_singleton,Nat.pow_succ,Nat.add_assoc,Gy]; exact this
 ·rw [List.length_append,List.length_singleton,Nat.add_sub_cancel,List.getD_eq_getElem?_getD,List.getElem?_append_right (Nat.le_refl _)];simp; omega
theorem Ajd {l:List Nat}(h:l = []∨0 < l.getD (l.length - 1) 0):Bj l l.length=l.length:=by
 rcases h with rfl | h
 ·rfl
 ·cases hl:l.length with
  | zero=>rfl
  | succ n=>rw [hl] at h; simp only [Nat.add_sub_cancel] at h; simp only [Bj]; rw [if_neg (by omega)]
theorem Wa.done (h:Wa n 0 ys):ys=Aa n:=by
 have hs:=h.sum;rw [Nat.mul_zero,Nat.add_zero] at hs;rw [hs,Hl h.low,Ajd,List.take_length];by_cases he:ys = []
 ·exact .inl he
 ·exact .inr (h.top he rfl)
theorem Vp (b:Bool)(k:Nat):(Bp b k).tmod 1000000000=Bp b (k % 1000000000):=by
 unfold Bp; cases b
 ·exact Lh k 1000000000
 ·show (-(k:Int)).tmod 1000000000 = -((k % 1000000000:Nat):Int);rw [Int.neg_tmod]; exact congrArg _ (Lh k 1000000000)
theorem Ut (b:Bool)(k:Nat):(Bp b k).tdiv 1000000000=Bp b (k / 1000000000):=by
 unfold Bp; cases b
 ·exact I7 k 1000000000
 ·show (-(k:Int)).tdiv 1000000000 = -((k / 1000000000:Nat):Int);rw [Int.neg_tdiv]; exact congrArg _ (I7 k 1000000000)
theorem Te {u:PH}{n:Int}(h1:-9223372036854775807≤n)(h2:n≤9223372036854775807) :
  Fn0 prog 79 [.int .i64 n] u fun v u'=>Cn u' v n:=by
 refine Fn0.o func79 ?_;have key:∀ b:Bool,b=decide (n < 0)→G prog Tryz.f79 ⟨fun v u' m'=>m'=PH.mt∧Cn u' v n,PH.mt⟩ (nx (adv prog (st0 Tryz.f79 [.int .i64 n])) (.bool b)) u PH.mt:=by
  intro b hb;have hn:=Po n;rw [← hb] at hn;refine G.loop (ι:=Nat×List Nat×(Option Addr×Nat×Nat)) (fun i=>[(2,.p 0 0),(3,.p 1003 0),(0,.v (.int .i64 (Bp b i.1)))])
   (fun i=>[(0,⟨66,[.v (.bool false),.v (.slice none 0 0)]⟩),(1003,⟨66,[.v (.bool b),.v (.slice i.2.2.1 i.2.2.2.1 i.2.2.2.2)]⟩)])
   (fun i u' m'=>(i.1≤9223372036854775807∧(i.1≠0→i.2.1.length≤3)∧i.2.1.length≤4∧i.1*1000000000 ^ i.2.1.length≤9223372036854775807)∧Wa n.natAbs i.1 i.2.1∧Ae PH.mt m' (.slice i.2.2.1 i.2.2.2.1 i.2.2.2.2) 3 1 (Ag i.2.1)) (fun i=>i.1) (n.natAbs,[],(none,0,0)) (by kernel_rfl) (fun _=>by kernel_rfl) ⟨by kernel_rfl,by rw [hn]; kernel_rfl,by kernel_rfl⟩ ⟨⟨by dsimp only; omega,by simp,by simp,by simp; omega⟩,Wa.start _,Ae.nil _ _ _⟩ ?_
  rintro J ⟨k,ys,⟨a,ny,c⟩⟩ hJ u' m' hle ⟨⟨hk,hk2,hk3,hk4⟩,hst,hA⟩;simp only at hk hk2 hk3 hk4 hst hA hJ;have hys:=hA.len;rw [Ah] at hys;have hsk:-9223372036854775807≤Bp b k∧Bp b k≤9223372036854775807:=by unfold Bp; split <;> omega
  by_cases h0:k=0
  ·subst h0;refine G.nF' (Bp b 0) 0 (by unfold Bp; split <;> simp) ?_
   refine G.give PH.mt (Ag ys) _ (by kernel_rfl) hA (fun _=>.inl rfl) ?_;intro u1 l1 hL;refine G.r (.agg #[.bool b,.slice a ny c]) ⟨rfl,a,ny,c,by rw [hb],?_⟩;rw [← hst.done]; exact hL
  ·have hlt3:=hk2 h0;refine G.nT' (Bp b k) 0 (by unfold Bp; split <;> omega) ?_
   have hnext:(k / 1000000000≤9223372036854775807∧(k / 1000000000≠0→(ys++[k % 1000000000]).length≤3)∧(ys++[k % 1000000000]).length≤4∧k / 1000000000*1000000000 ^ (ys++[k % 1000000000]).length≤9223372036854775807):=by
    have e4:k / 1000000000*1000000000 ^ (ys.length+1)≤9223372036854775807:=by
     rw [Nat.pow_succ,Nat.mul_comm (1000000000 ^ ys.length),← Nat.mul_assoc];exact Nat.le_trans (Nat.mul_le_mul_right _ (Nat.div_mul_le_self _ _)) hk4
    refine ⟨by omega,fun hne=>?_,by simp; omega,by simpa using e4⟩;rcases Nat.lt_or_ge ys.length 3 with h | h
    ·simp; omega
    ·exfalso;have:ys.length=3:=by omega
     rw [this] at e4;have h1:1*1000000000 ^ (3+1)≤k / 1000000000*1000000000 ^ (3+1):=Nat.mul_le_mul_right _ (by omega);have h2:(9223372036854775807:Nat) < 1*1000000000 ^ (3+1):=by decide
     omega
   by_cases hb2:b=true∧k % 1000000000≠0
   ·obtain ⟨hbt,hm⟩:=hb2;refine G.remT (Bp b k) 1000000000 (-((k % 1000000000:Nat):Int)) (by kernel_rfl) (by omega) (by rw [Vp,hbt]; rfl) (by omega) (by omega) ?_;refine G.lT (-((k % 1000000000:Nat):Int)) 0 ?_;refine G.neg (-((k % 1000000000:Nat):Int)) ((k % 1000000000:Nat):Int) (by kernel_rfl) (by omega) (by omega) (by omega) ?_;refine G.B 3 1 8 (.int .i64 0) [.int .i64 ((k % 1000000000:Nat):Int)] (Ax [k % 1000000000]) ?_;intro g u1 l1 e1;refine G.append 3 1 8 (.int .i64 0) PH.mt (Ag ys) [.int .i64 ((k % 1000000000:Nat):Int)] (.slice a ny c) g 0 1 1 (by kernel_rfl) rfl rfl (by omega) hA e1 (Ax [k % 1000000000]) rfl (by omega) (by rw [Ah]; omega) (by rw [Ah]; omega) ?_;intro v2 m2 hA2;rw [Cj] at hA2;obtain ⟨a2,c2,rfl⟩:=hA2.shape;refine G.quoT (Bp b k) 1000000000 (Bp b (k / 1000000000)) (by kernel_rfl) (by omega) (by omega) (by omega) (Ut b k) ?_;exact G.b (hJ (k / 1000000000,ys++[k % 1000000000],(a2,(Ag (ys++[k % 1000000000])).length,c2)) _ _ _ cv (hle.trans l1) ⟨hnext,hst.step h0,hA2⟩ (by dsimp only; omega))
   ·refine G.remT (Bp b k) 1000000000 ((k % 1000000000:Nat):Int) (by kernel_rfl) (by omega) (by rw [Vp]; unfold Bp; split <;> simp_all) (by omega) (by omega) ?_
    refine G.lF ((k % 1000000000:Nat):Int) 0 ?_;refine G.B 3 1 8 (.int .i64 0) [.int .i64 ((k % 1000000000:Nat):Int)] (Ax [k % 1000000000]) ?_;intro g u1 l1 e1;refine G.append 3 1 8 (.int .i64 0) PH.mt (Ag ys) [.int .i64 ((k % 1000000000:Nat):Int)] (.slice a ny c) g 0 1 1 (by kernel_rfl) rfl rfl (by omega) hA e1 (Ax [k % 1000000000]) rfl (by omega) (by rw [Ah]; omega) (by rw [Ah]; omega) ?_;intro v2 m2 hA2;rw [Cj] at hA2;obtain ⟨a2,c2,rfl⟩:=hA2.shape;refine G.quoT (Bp b k) 1000000000 (Bp b (k / 1000000000)) (by kernel_rfl) (by omega) (by omega) (by omega) (Ut b k) ?_;exact G.b (hJ (k / 1000000000,ys++[k % 1000000000],(a2,(Ag (ys++[k % 1000000000])).length,c2)) _ _ _ cv (hle.trans l1) ⟨hnext,hst.step h0,hA2⟩ (by dsimp only; omega))
 by_cases hneg:n < 0
 ·exact G.lssT n 0 (by kernel_rfl) hneg (key true (by simpa using hneg))
 ·exact G.lssF n 0 (by kernel_rfl) hneg (key false (by simpa using hneg))
end
section
open Go.RowKit
variable {k:Nat}{q r:Rat}{u:PH}{x x':Value}{y z:Int}
def QP (u:PH)(v:Value)(q:Rat):Prop :=
 ∃ a n c a' n' c',v=.agg #[.bool (decide (q.num < 0)),.slice a n c,.bool false,.slice a' n' c']∧B7 u (.slice a n c) (Aa q.num.natAbs)∧B7 u (.slice a' n' c') (Aa q.den)
theorem QP.mono {u u':PH}{v:Value}{q:Rat}(h:QP u v q)(hl:PH.le u u'):QP u' v q:=by
 obtain ⟨a,n,c,a',n',c',h1,h2,h3⟩:=h; exact ⟨a,n,c,a',n',c',h1,h2.mono hl,h3.mono hl⟩
theorem QP.opn {v:Value}(h:QP u v q):∃ b a n c a' n' c',v=.agg #[.bool b,.slice a n c,.bool false,.slice a' n' c']∧b=decide (q.num < 0)∧Cn u (.agg #[.bool b,.slice a n c]) q.num∧Cn u (.agg #[.bool false,.slice a' n' c']) (q.den:Int):=by
 obtain ⟨a,n,c,a',n',c',rfl,h2,h3⟩:=h;exact ⟨_,a,n,c,a',n',c',rfl,rfl,⟨a,n,c,rfl,h2⟩,⟨a',n',c',by rw [decide_eq_false (by omega)],h3⟩⟩
theorem QP.mk {u:PH}{q:Rat}{y z:Int}{b b':Bool}{a a':Option Addr}{n c n' c':Nat}(h1:Cn u (.agg #[.bool b,.slice a n c]) y)(h2:Cn u (.agg #[.bool b',.slice a' n' c']) z)(hy:q.num=y)(hz:(q.den:Int)=z) :
  QP u (.agg #[.bool b,.slice a n c,.bool b',.slice a' n' c']) q:=by
 obtain ⟨_,_,_,e1,i1⟩:=h1;obtain ⟨_,_,_,e2,i2⟩:=h2;subst hy hz;rw [decide_eq_false (by omega)] at e2;simp only [Value.agg.injEq,Array.mk.injEq,List.cons.injEq,Value.bool.injEq,Value.slice.injEq,and_true] at e1 e2;obtain ⟨rfl,rfl,rfl,rfl⟩:=e1;obtain ⟨rfl,rfl,rfl,rfl⟩:=e2;exact ⟨_,_,_,_,_,_,rfl,i1,i2⟩
theorem Sw (y:Int)(z:Nat):y.tdiv (Nat.gcd y.natAbs z:Nat)=y / (Nat.gcd y.natAbs z:Nat):=by
 apply Int.tdiv_eq_ediv_of_dvd;exact Int.ofNat_dvd_left.2 (Nat.gcd_dvd_left _ _)
theorem Ab0 (y:Nat)(z:Int):z.tdiv (Nat.gcd y z.natAbs:Nat)=z / (Nat.gcd y z.natAbs:Nat):=by
 apply Int.tdiv_eq_ediv_of_dvd;exact Int.ofNat_dvd_left.2 (Nat.gcd_dvd_right _ _)
theorem Ju (hz:0 < z):(Rat.divInt y z).num=y.tdiv (Nat.gcd y.natAbs z.natAbs:Nat)∧((Rat.divInt y z).den:Int)=z.tdiv (Nat.gcd y.natAbs z.natAbs:Nat)∧0 < z.tdiv (Nat.gcd y.natAbs z.natAbs:Nat):=by
 have h:=Rz (y:=y) hz rfl;have e:z=((z.natAbs:Nat):Int):=by omega
 have h3:((Rat.divInt y z).den:Int)=z.tdiv (Nat.gcd y.natAbs z.natAbs:Nat):=by
  rw [h.2,Ab0,Int.natCast_ediv]; congr 1; exact e.symm
 refine ⟨by rw [h.1,Sw],h3,?_⟩;rw [← h3]; have:=(Rat.divInt y z).den_pos; omega
theorem Alo (hz:z < 0):(Rat.divInt y z).num = -(y.tdiv (Nat.gcd y.natAbs z.natAbs:Nat))∧((Rat.divInt y z).den:Int) = -(z.tdiv (Nat.gcd y.natAbs z.natAbs:Nat))∧z.tdiv (Nat.gcd y.natAbs z.natAbs:Nat) < 0:=by
 have h:=Ju (y:=-y) (z:=-z) (by omega);rw [K1,Int.natAbs_neg,Int.natAbs_neg,Int.neg_tdiv,Int.neg_tdiv] at h;exact ⟨h.1,h.2.1,by omega⟩
theorem Q3 {g k:Nat}(h:nl y.natAbs≤k):nl (y.tdiv g).natAbs≤k:=by
 refine Nat.le_trans (C6 ?_) h;rw [Int.natAbs_tdiv]; exact Nat.div_le_self _ _
theorem Pq (h1:-9223372036854775807≤z)(h2:z≤9223372036854775807):Fn0 prog 27 [.int .i64 z] u fun v u'=>QP u' v (z:Rat):=by
 refine Fn0.o func27 ?_;refine G.c call79 (Te h1 h2) ?_;intro v1 u1 l1 k1;obtain ⟨b1,a1,n1,c1,rfl,_,_⟩:=k1.opn;refine G.c call79 (Te (n:=1) (by omega) (by omega)) ?_;intro v2 u2 l2 k2;obtain ⟨b2,a2,n2,c2,rfl,_,_⟩:=k2.opn;exact G.r (.agg #[.bool b1,.slice a1 n1 c1,.bool b2,.slice a2 n2 c2]) ⟨rfl,QP.mk (k1.mono l2) k2 rfl rfl⟩
theorem Q1 (hx:Cn u x y)(hx':Cn u x' z)(sy:nl y.natAbs≤100000000000)(sz:nl z.natAbs≤100000000000)(hz:z≠0) :
  Fn0 prog 84 [x,x'] u fun v u'=>QP u' v (Rat.divInt y z):=by
 obtain ⟨b,a,n,c,rfl,_,_⟩:=hx.opn;obtain ⟨b',a',n',c',rfl,_,hi'⟩:=hx'.opn;obtain ⟨rfl,_⟩:=hi'.len;have sz':(Aa z.natAbs).length≤100000000000:=sz;have hzp:0 < (Aa z.natAbs).length:=Ce.2 (by omega);have hg0:0 < Nat.gcd y.natAbs z.natAbs:=Nat.gcd_pos_of_pos_right _ (by omega);have hgs:nl (Nat.gcd y.natAbs z.natAbs)≤100000000000:=Nat.le_trans (C6 (Nat.gcd_le_right _ (by omega))) sz;refine Fn0.o func84 ?_;refine G.eF ((Aa z.natAbs).length:Int) 0 ?_;refine G.c call167 (V2 hx hx' sy sz) ?_;intro v1 u1 l1 k1;obtain ⟨b1,a1,n1,c1,rfl,_,_⟩:=k1.opn;refine G.c call169 (Nn (hx.mono l1) k1 sy (by simpa using hgs) (by omega)) ?_;rintro v2 u2 l2 ⟨va,vb,rfl,k2,k2'⟩;obtain ⟨b2,a2,n2,c2,rfl,_,_⟩:=k2.opn;obtain ⟨b3,a3,n3,c3,rfl,_,_⟩:=k2'.opn;refine G.c call169 (Nn (hx'.mono (l1.trans l2)) (k1.mono l2) sz (by simpa using hgs) (by omega)) ?_;rintro v4 u4 l4 ⟨va,vb,rfl,k4,k4'⟩;obtain ⟨b4,a4,n4,c4,rfl,hb4,_⟩:=k4.opn;obtain ⟨b5,a5,n5,c5,rfl,_,_⟩:=k4'.opn;have k2:=k2.mono l4;rcases Int.lt_or_gt_of_ne hz with hn | hp
 ·obtain ⟨e1,e2,e3⟩:=Alo (y:=y) hn;rw [decide_eq_true e3] at hb4;subst hb4;refine G.c call170 (Pn k2 (Nat.le_trans (Q3 sy) (by omega))) ?_;intro v6 u6 l6 k6;obtain ⟨b6,a6,n6,c6,rfl,_,_⟩:=k6.opn;refine G.c call170 (Pn (k4.mono l6) (Nat.le_trans (Q3 sz) (by omega))) ?_;intro v7 u7 l7 k7;obtain ⟨b7,a7,n7,c7,rfl,_,_⟩:=k7.opn;exact G.r (.agg #[.bool b6,.slice a6 n6 c6,.bool b7,.slice a7 n7 c7]) ⟨rfl,QP.mk (k6.mono l7) k7 e1 e2⟩
 ·obtain ⟨e1,e2,e3⟩:=Ju (y:=y) hp;rw [decide_eq_false (by omega)] at hb4;subst hb4;exact G.r (.agg #[.bool b2,.slice a2 n2 c2,.bool false,.slice a4 n4 c4]) ⟨rfl,QP.mk k2 k4 e1 e2⟩
theorem Lm (h:QP u x q)(hs:nl q.num.natAbs≤100000000000):Fn0 prog 141 [x] u fun v u'=>v=.bool (decide (q.num=0)):=by
 obtain ⟨b,a,n,c,a',n',c',rfl,hb,h1,h2⟩:=h.opn;obtain ⟨_,_,_,e1,hi⟩:=h1;simp only [Value.agg.injEq,Array.mk.injEq,List.cons.injEq,Value.bool.injEq,Value.slice.injEq,and_true] at e1;obtain ⟨_,rfl,rfl,rfl⟩:=e1;obtain ⟨rfl,_⟩:=hi.len;have hs':(Aa q.num.natAbs).length≤100000000000:=hs;have hp:=Ce (n:=q.num.natAbs);refine Fn0.o func141 ?_;by_cases h0:q.num=0
 ·refine G.eT' ((Aa q.num.natAbs).length:Int) 0 (by rw [h0]; simp [Bd]) ?_;exact G.r (.bool true) ⟨rfl,by simp [h0]⟩
 ·have h3:0 < (Aa q.num.natAbs).length:=hp.2 (by omega);refine G.eF ((Aa q.num.natAbs).length:Int) 0 ?_;exact G.r (.bool false) ⟨rfl,by simp [h0]⟩
theorem Yn (h:QP u x q)(hs:nl q.num.natAbs≤100000000000):Fn0 prog 94 [x] u fun v u'=>v=.int .i64 (sgn q.num):=by
 obtain ⟨b,a,n,c,a',n',c',rfl,hb,h1,h2⟩:=h.opn;refine Fn0.o func94 ?_;by_cases hn:q.num < 0
 ·rw [decide_eq_true hn] at hb;subst hb;exact G.r (.int .i64 (-1)) ⟨rfl,by simp [sgn,hn]⟩
 ·rw [decide_eq_false hn] at hb;subst hb;refine G.c call141 (Lm h hs) ?_;rintro v1 u1 l1 rfl;by_cases h0:q.num=0
  ·rw [decide_eq_true h0];exact G.r (.int .i64 0) ⟨rfl,by simp [sgn,h0]⟩
  ·rw [decide_eq_false h0];exact G.r (.int .i64 1) ⟨rfl,by simp [sgn,hn]; omega⟩
theorem Wg (q r:Rat):Rat.divInt (q.num*(r.den:Int) - r.num*(q.den:Int)) ((q.den:Int)*(r.den:Int))=q - r:=by
 have h:=Nx q (-r);rw [Rat.neg_num,Rat.neg_den,Int.neg_mul,← Int.sub_eq_add_neg] at h;rw [h,Rat.sub_eq_add_neg]
theorem Ac9 (h1:nl y.natAbs≤k)(h2:nl z.natAbs≤k):nl (y - z).natAbs≤k+1:=by
 rw [Int.sub_eq_add_neg]; exact Nq h1 (by rw [Int.natAbs_neg]; exact h2)
theorem Eo (hx:QP u x q)(hx':QP u x' r)(s1:Sz q 10000000000)(s2:Sz r 10000000000) :
  Fn0 prog 34 [x,x'] u fun v u'=>QP u' v (q*r):=by
 obtain ⟨b,a,n,c,a',n',c',rfl,_,hn,hd⟩:=hx.opn;obtain ⟨b2,a2,n2,c2,a2',n2',c2',rfl,_,hn2,hd2⟩:=hx'.opn;refine Fn0.o func34 ?_;refine G.c call85 (En hn hn2 (Nat.le_trans s1.1 (by omega)) (Nat.le_trans s2.1 (by omega))) ?_;intro v3 u3 l3 k3;obtain ⟨b3,a3,n3,c3,rfl,_,_⟩:=k3.opn;refine G.c call85 (En (hd.mono l3) (hd2.mono l3) (Nat.le_trans s1.2 (by omega)) (Nat.le_trans s2.2 (by omega))) ?_;intro v4 u4 l4 k4;obtain ⟨b4,a4,n4,c4,rfl,_,_⟩:=k4.opn;refine G.c call84 (Q1 (k3.mono l4) k4 (Nat.le_trans (Bl s1.1 s2.1) (by omega)) (Nat.le_trans (Bl (k:=10000000000) (by simpa using s1.2) (by simpa using s2.2)) (by omega)) (Tf q r)) ?_;intro v5 u5 l5 k5;rw [Wf] at k5;obtain ⟨b5,a5,n5,c5,a5',n5',c5',rfl,_⟩:=k5.opn;exact G.r (.agg #[.bool b5,.slice a5 n5 c5,.bool false,.slice a5' n5' c5']) ⟨rfl,k5⟩
theorem Lw (hx:QP u x q)(hx':QP u x' r)(s1:Sz q 10000000000)(s2:Sz r 10000000000) :
  Fn0 prog 33 [x,x'] u fun v u'=>QP u' v (q+r):=by
 obtain ⟨b,a,n,c,a',n',c',rfl,_,hn,hd⟩:=hx.opn;obtain ⟨b2,a2,n2,c2,a2',n2',c2',rfl,_,hn2,hd2⟩:=hx'.opn;have d1:nl ((q.den:Int)).natAbs≤10000000000:=by simpa using s1.2
 have d2:nl ((r.den:Int)).natAbs≤10000000000:=by simpa using s2.2
 refine Fn0.o func33 ?_;refine G.c call85 (En hn hd2 (Nat.le_trans s1.1 (by omega)) (Nat.le_trans d2 (by omega))) ?_;intro v3 u3 l3 k3;obtain ⟨b3,a3,n3,c3,rfl,_,_⟩:=k3.opn;refine G.c call85 (En (hn2.mono l3) (hd.mono l3) (Nat.le_trans s2.1 (by omega)) (Nat.le_trans d1 (by omega))) ?_;intro v4 u4 l4 k4;obtain ⟨b4,a4,n4,c4,rfl,_,_⟩:=k4.opn;refine G.c call87 (Adg (k3.mono l4) k4 (Nat.le_trans (Bl s1.1 d2) (by omega)) (Nat.le_trans (Bl s2.1 d1) (by omega))) ?_;intro v6 u6 l6 k6;obtain ⟨b6,a6,n6,c6,rfl,_,_⟩:=k6.opn;refine G.c call85 (En (hd.mono ((l3.trans l4).trans l6)) (hd2.mono ((l3.trans l4).trans l6)) (Nat.le_trans d1 (by omega)) (Nat.le_trans d2 (by omega))) ?_;intro v7 u7 l7 k7;obtain ⟨b7,a7,n7,c7,rfl,_,_⟩:=k7.opn;refine G.c call84 (Q1 (k6.mono l7) k7 (Nat.le_trans (Nq (Bl s1.1 d2) (Bl s2.1 d1)) (by omega)) (Nat.le_trans (Bl d1 d2) (by omega)) (Tf q r)) ?_;intro v5 u5 l5 k5;rw [Nx] at k5;obtain ⟨b5,a5,n5,c5,a5',n5',c5',rfl,_⟩:=k5.opn;exact G.r (.agg #[.bool b5,.slice a5 n5 c5,.bool false,.slice a5' n5' c5']) ⟨rfl,k5⟩
theorem Wu (hx:QP u x q)(hx':QP u x' r)(s1:Sz q 10000000000)(s2:Sz r 10000000000) :
  Fn0 prog 32 [x,x'] u fun v u'=>QP u' v (q - r):=by
 obtain ⟨b,a,n,c,a',n',c',rfl,_,hn,hd⟩:=hx.opn;obtain ⟨b2,a2,n2,c2,a2',n2',c2',rfl,_,hn2,hd2⟩:=hx'.opn;have d1:nl ((q.den:Int)).natAbs≤10000000000:=by simpa using s1.2
 have d2:nl ((r.den:Int)).natAbs≤10000000000:=by simpa using s2.2
 refine Fn0.o func32 ?_;refine G.c call85 (En hn hd2 (Nat.le_trans s1.1 (by omega)) (Nat.le_trans d2 (by omega))) ?_;intro v3 u3 l3 k3;obtain ⟨b3,a3,n3,c3,rfl,_,_⟩:=k3.opn;refine G.c call85 (En (hn2.mono l3) (hd.mono l3) (Nat.le_trans s2.1 (by omega)) (Nat.le_trans d1 (by omega))) ?_;intro v4 u4 l4 k4;obtain ⟨b4,a4,n4,c4,rfl,_,_⟩:=k4.opn;refine G.c call86 (Ala (k3.mono l4) k4 (Nat.le_trans (Bl s1.1 d2) (by omega)) (Nat.le_trans (Bl s2.1 d1) (by omega))) ?_;intro v6 u6 l6 k6;obtain ⟨b6,a6,n6,c6,rfl,_,_⟩:=k6.opn;refine G.c call85 (En (hd.mono ((l3.trans l4).trans l6)) (hd2.mono ((l3.trans l4).trans l6)) (Nat.le_trans d1 (by omega)) (Nat.le_trans d2 (by omega))) ?_;intro v7 u7 l7 k7;obtain ⟨b7,a7,n7,c7,rfl,_,_⟩:=k7.opn;refine G.c call84 (Q1 (k6.mono l7) k7 (Nat.le_trans (Ac9 (Bl s1.1 d2) (Bl s2.1 d1)) (by omega)) (Nat.le_trans (Bl d1 d2) (by omega)) (Tf q r)) ?_;intro v5 u5 l5 k5;rw [Wg] at k5;obtain ⟨b5,a5,n5,c5,a5',n5',c5',rfl,_⟩:=k5.opn;exact G.r (.agg #[.bool b5,.slice a5 n5 c5,.bool false,.slice a5' n5' c5']) ⟨rfl,k5⟩
theorem Alb (hx:QP u x q)(hx':QP u x' r)(s1:Sz q 10000000000)(s2:Sz r 10000000000)(hr:r≠0) :
  Fn0 prog 183 [x,x'] u fun v u'=>QP u' v (q / r):=by
 obtain ⟨b,a,n,c,a',n',c',rfl,_,hn,hd⟩:=hx.opn;obtain ⟨b2,a2,n2,c2,a2',n2',c2',rfl,_,hn2,hd2⟩:=hx'.opn;have d1:nl ((q.den:Int)).natAbs≤10000000000:=by simpa using s1.2
 have d2:nl ((r.den:Int)).natAbs≤10000000000:=by simpa using s2.2
 have hz:(q.den:Int)*r.num≠0:=Int.mul_ne_zero (by have:=q.den_nz; omega) (fun h=>hr (Rat.num_eq_zero.1 h));refine Fn0.o func183 ?_;refine G.c call85 (En hn hd2 (Nat.le_trans s1.1 (by omega)) (Nat.le_trans d2 (by omega))) ?_;intro v3 u3 l3 k3;obtain ⟨b3,a3,n3,c3,rfl,_,_⟩:=k3.opn;refine G.c call85 (En (hd.mono l3) (hn2.mono l3) (Nat.le_trans d1 (by omega)) (Nat.le_trans s2.1 (by omega))) ?_;intro v4 u4 l4 k4;obtain ⟨b4,a4,n4,c4,rfl,_,_⟩:=k4.opn;refine G.c call84 (Q1 (k3.mono l4) k4 (Nat.le_trans (Bl s1.1 d2) (by omega)) (Nat.le_trans (Bl d1 s2.1) (by omega)) hz) ?_;intro v5 u5 l5 k5;rw [Xh] at k5;obtain ⟨b5,a5,n5,c5,a5',n5',c5',rfl,_⟩:=k5.opn;exact G.r (.agg #[.bool b5,.slice a5 n5 c5,.bool false,.slice a5' n5' c5']) ⟨rfl,k5⟩
end
section
open Go.Lib
variable {j k n:Nat}
def ld (n k:Nat):List UInt8:=(List.range k).map (dg n)
theorem Q2 (n k:Nat):ld n (k+1)=ld n k++[dg n k]:=by simp [ld,List.range_succ]
theorem Cf (n k:Nat):(ld n k).length=k:=by simp [ld]
theorem W1 (h:j < k):(ld n k)[j]?=some (dg n j):=by simp [ld,h]
theorem Al5 (h:j≤k):(ld n k).take j=ld n j:=by
 apply List.ext_getElem?;intro i;rw [List.getElem?_take];split
 ·rw [W1 (by omega),W1 (by omega)]
 ·rw [List.getElem?_eq_none (by rw [Cf]; omega)]
theorem Wv (n:Nat):(ld n (nDigits n)).reverse=decDigits n:=by
 rw [decDigits_eq];apply List.ext_getElem?;intro i;by_cases h:i < nDigits n
 ·rw [List.getElem?_reverse (by rw [Cf]; exact h),Cf,W1 (by omega)];simp [h]
 ·rw [List.getElem?_eq_none (by simp [Cf]; omega),List.getElem?_eq_none (by simp; omega)]
theorem Mt (n i:Nat):(Aa n).getD i 0=n / 1000000000 ^ i % 1000000000:=by
 induction i generalizing n with
 | zero =>
  by_cases h:n=0
  ·subst h; simp [Bd]
  ·rw [Ex h]; simp
 | succ i ih =>
  by_cases h:n=0
  ·subst h; simp [Bd]
  ·rw [Ex h,List.getD_cons_succ,ih,Nat.pow_succ,Nat.mul_comm,Nat.div_div_eq_div_mul]
theorem Aat (i:Nat):(1000000000:Nat) ^ i=10 ^ (9*i):=by rw [Nat.pow_mul]
theorem Ak3 (n i t:Nat)(ht:t < 9):dg n (9*i+t)=UInt8.ofNat (48+(Aa n).getD i 0 / 10 ^ t % 10):=by
 rw [Mt,Aat];have e:(1000000000:Nat)=10 ^ t*10 ^ (9 - t):=by rw [← Nat.pow_add,show t+(9 - t)=9 by omega]
 rw [e,Nat.mod_mul_right_div_self,Nat.mod_mod_of_dvd _ (by rw [show 9 - t=(8 - t)+1 by omega,Nat.pow_succ]; exact Nat.dvd_mul_left _ _),Nat.div_div_eq_div_mul,← Nat.pow_add];rfl
theorem Ns (h:k < 256):(UInt8.ofNat k).toNat=k:=by simp; omega
theorem N5 (n j:Nat):(dg n j).toNat=48+n / 10 ^ j % 10:=by
 unfold dg;have:n / 10 ^ j % 10 < 10:=Nat.mod_lt _ (by omega);exact Ns (by omega)
theorem Yz (h:n < 10 ^ (k+1)):n / 10 ^ k % 10=0↔n < 10 ^ k:=by
 have hp:0 < 10 ^ k:=Nat.pow_pos (by omega);have h1:n / 10 ^ k < 10:=by rw [Nat.div_lt_iff_lt_mul hp,Nat.mul_comm,← Nat.pow_succ]; exact h
 rw [Nat.mod_eq_of_lt h1,Nat.div_eq_zero_iff];constructor
 ·rintro (h | h)
  ·omega
  ·exact h
 ·exact .inr
theorem N2 (n:Nat):n < 10 ^ (9*(Aa n).length):=by rw [← Aat]; exact Cd n
theorem Ml (h:10 ^ j≤n):nDigits n=j+nDigits (n / 10 ^ j):=by
 induction j generalizing n with
 | zero=>simp
 | succ j ih =>
  have hp:0 < 10 ^ j:=Nat.pow_pos (by omega);rw [Nat.pow_succ] at h;rw [nDigits_big (by omega),ih (n:=n / 10) (by rw [Nat.le_div_iff_mul_le (by omega)]; exact h),Nat.pow_succ,Nat.mul_comm (10 ^ j),← Nat.div_div_eq_div_mul]; omega
theorem Qe (h:n≠0):nDigits n=9*((Aa n).length - 1)+nDigits ((Aa n).getD ((Aa n).length - 1) 0):=by
 have h1:=O0 h;rw [Aat] at h1;rw [Mt,Ml h1,Aat,Nat.mod_eq_of_lt]; rfl;rw [Nat.div_lt_iff_lt_mul (Nat.pow_pos (by omega))];have h2:=Cd n;have h3:0 < nl n:=by
  rcases Nat.eq_zero_or_pos (nl n) with h0 | h0
  ·rw [h0] at h2; simp at h2; omega
  ·exact h0
 have e:(1000000000:Nat)*10 ^ (9*((Aa n).length - 1))=1000000000 ^ nl n:=by
  rw [← Aat,Nat.mul_comm,← Nat.pow_succ]; congr 1; show nl n - 1+1=nl n; omega
 rw [e]; exact h2
def Gk (l:List UInt8):Prop:=∀ b∈l,48≤b.toNat∧b.toNat≤57
def rdA (a:Nat)(l:List UInt8):Nat:=l.foldl (fun a b=>10*a+(b.toNat - 48)) a
def rd (l:List UInt8):Nat:=rdA 0 l
theorem Ab8 (a:Nat)(l l':List UInt8):rdA a (l++l')=rdA (rdA a l) l':=by simp [rdA]
theorem Acy (a:Nat)(l:List UInt8):rdA a l=a*10 ^ l.length+rd l:=by
 induction l generalizing a with
 | nil=>simp [rdA,rd]
 | cons b l ih =>
  have e1:rdA a (b::l)=rdA (10*a+(b.toNat - 48)) l:=rfl;have e2:rd (b::l)=rdA (10*0+(b.toNat - 48)) l:=rfl;rw [e1,e2,ih,ih (10*0+(b.toNat - 48)),List.length_cons,Nat.pow_succ,Nat.mul_zero,Nat.zero_add,← Nat.add_assoc]
  congr 1
  rw [Nat.add_mul]; congr 1;rw [Nat.mul_comm 10 a,Nat.mul_assoc,Nat.mul_comm 10]
theorem U0 (l l':List UInt8):rd (l++l')=rd l*10 ^ l'.length+rd l':=by rw [rd,Ab8,Acy]; rfl
theorem Vz {l:List UInt8}(h:Gk l):rd l < 10 ^ l.length:=by
 induction l with
 | nil=>simp [rd,rdA]
 | cons b l ih =>
  have e2:rd (b::l)=rdA (10*0+(b.toNat - 48)) l:=rfl;have hb:=h b (by simp);have:=ih fun x hx=>h x (by simp [hx]);rw [e2,Acy,List.length_cons,Nat.pow_succ];have h2:(10*0+(b.toNat - 48))*10 ^ l.length≤9*10 ^ l.length:=Nat.mul_le_mul_right _ (by omega);omega
theorem Mc (n:Nat):Gk (decDigits n):=by
 rw [decDigits_eq];intro b hb;simp only [List.mem_map] at hb;obtain ⟨t,_,rfl⟩:=hb;rw [N5]; have:=Nat.mod_lt (n / 10 ^ (nDigits n - 1 - t)) (show 0 < 10 by omega); omega
theorem Abj (n:Nat):rd (decDigits n)=n:=by
 induction n using Nat.strongRecOn with
 | ind n ih =>
  rw [decDigits];by_cases h:n < 10
  ·rw [dif_pos h];have:(UInt8.ofNat (48+n)).toNat=48+n:=Ns (by omega);show 10*0+((UInt8.ofNat (48+n)).toNat - 48)=n;omega
  ·rw [dif_neg h,U0,ih _ (by omega)];have:(UInt8.ofNat (48+n % 10)).toNat=48+n % 10:=Ns (by omega);show n / 10*10 ^ 1+(10*0+((UInt8.ofNat (48+n % 10)).toNat - 48))=n;omega
theorem Hy (n:Nat):decDigits n≠[]:=by
 intro h; have:=decDigits_length n; rw [h] at this; have:=nDigits_pos n; simp at *; omega
theorem Y6 (n:Nat):(decDigits n)[0]?=some (dg n (nDigits n - 1)):=by
 rw [decDigits_eq]; have h:0 < nDigits n:=nDigits_pos n; simp [h]
theorem Fo (h:n≠0):10 ^ (nDigits n - 1)≤n:=by
 induction n using Nat.strongRecOn with
 | ind n ih =>
  by_cases h1:n < 10
  ·rw [nDigits_small h1]; simp; omega
  ·rw [nDigits_big h1];have h2:=ih (n / 10) (by omega) (by omega);have h3:=nDigits_pos (n / 10);rw [show nDigits (n / 10)+1 - 1=(nDigits (n / 10) - 1)+1 by omega,Nat.pow_succ];omega
theorem Af3 (h:n≠0):49≤(dg n (nDigits n - 1)).toNat:=by
 rw [N5];have h1:=nDigits_pos n;have h2:=lt_pow_nDigits n;rw [show nDigits n=(nDigits n - 1)+1 by omega] at h2;have h3:¬ _:=fun h0=>absurd ((Yz h2).1 h0) (by have:=Fo h; omega);omega
end
section
open Go.RowKit
variable {R l:List UInt8}{i:Nat}{u:PH}{x:Value}{z:Int}
theorem Ng (h:Cn u x z)(hs:nl z.natAbs≤100000000000):Fn0 prog 174 [x] u fun v _=>v=.int .i64 (Lib.nDigits z.natAbs:Nat):=by
 obtain ⟨b,a,n,c,rfl,hb,hi⟩:=h.opn;obtain ⟨rfl,_⟩:=hi.len;have hs':(Aa z.natAbs).length≤100000000000:=hs;refine Fn0.o func174 ?_;by_cases h0:z.natAbs=0
 ·refine G.eT' ((Aa z.natAbs).length:Int) 0 (by rw [h0,Bd]; rfl) ?_;exact G.r (.int .i64 1) ⟨rfl,by rw [h0,Lib.nDigits_small (by omega)]; rfl⟩
 ·have hp:0 < (Aa z.natAbs).length:=Ce.2 (by omega);have htop:=Qe h0;have hnz:=Mp h0;have hlow:=(Am z.natAbs).getD ((Aa z.natAbs).length - 1);generalize Aa z.natAbs=l at *
  generalize hN:Lib.nDigits z.natAbs=N at *
  have hle9:∀ k,k < 1000000000→Lib.nDigits k≤9:=by
   intro k hk;rcases Nat.eq_zero_or_pos k with h | h
   ·subst h; rw [Lib.nDigits_small (by omega)]; omega
   ·have h1:=Fo (n:=k) (by omega);have h2:10 ^ (Lib.nDigits k - 1) < 10 ^ 9:=Nat.lt_of_le_of_lt h1 (by omega);have h3:=(Nat.pow_lt_pow_iff_right (by omega:1 < 10)).1 h2;omega
  refine G.eF (l.length:Int) 0 ?_;refine G.s (l.length:Int) 1 ((l.length - 1:Nat):Int) ?_;refine G.mul 9 ((l.length - 1:Nat):Int) ((9*(l.length - 1):Nat):Int) (by kernel_rfl) (by omega) (by omega) (by omega) ?_;refine G.s (l.length:Int) 1 ((l.length - 1:Nat):Int) ?_;obtain ⟨bb,off,rfl,he⟩:=hi.at (j:=l.length - 1) (by omega);refine G.a bb off l.length c (l.length - 1) 1 (by omega) ?_;refine G.lU none bb (off+(l.length - 1)*1) (.int .i64 (l.getD (l.length - 1) 0:Nat)) he ?_;have h9:=hle9 _ hlow;refine G.l (ι:=Nat×Nat) (fun i=>[(3,.v (.int .i64 (i.1:Int))),(4,.v (.int .i64 (i.2:Int)))]) (fun _=>[])
   (fun i _ m'=>(i.1+(if i.2=0 then 0 else Lib.nDigits i.2)=N∧i.2 < 1000000000)∧m'=PH.mt) (fun i=>i.2) (9*(l.length - 1),l.getD (l.length - 1) 0) ⟨⟨by dsimp only; rw [if_neg hnz]; omega,hlow⟩,rfl⟩ ?_
  rintro J ⟨cn,k⟩ hJ u' m' hle ⟨⟨h1,h2⟩,rfl⟩;simp only at h1 h2 hJ;by_cases hk:k=0
  ·subst hk;refine G.gF ((0:Nat):Int) 0 ?_;exact G.r (.int .i64 (cn:Int)) ⟨rfl,by simp at h1; rw [h1]⟩
  ·rw [if_neg hk] at h1;refine G.gT (k:Int) 0 ?_;have hcn:cn+1≤1000000000001:=by omega
   refine G.i cn ?_;refine G.quo (k:Int) 10 ((k / 10:Nat):Int) (by kernel_rfl) (by omega) (by omega) (by omega) (by omega) ?_;refine G.b (hJ (cn+1,k / 10) _ _ _ cv hle ⟨⟨?_,by dsimp only; omega⟩,rfl⟩ (by dsimp only; omega));dsimp only;by_cases hs:k < 10
   ·rw [Lib.nDigits_small hs] at h1; rw [if_pos (by omega)]; omega
   ·rw [Lib.nDigits_big hs] at h1; rw [if_neg (by omega)]; omega
structure Lo (R l:List UInt8)(i:Nat):Prop where
 len:l.length=R.length
 at_:∀ k,k < R.length→l[k]?=if k < i∨R.length - i≤k then R[R.length - 1 - k]? else R[k]?
theorem Lo.start (R:List UInt8):Lo R R 0:=⟨rfl,fun k hk=>by rw [if_neg (by omega)]⟩
theorem Lo.step (h:Lo R l i)(hi:i < R.length - 1 - i):Lo R ((l.set i (l.getD (R.length - 1 - i) 0)).set (R.length - 1 - i) (l.getD i 0)) (i+1):=by
 have hl:=h.len;have e1:l.getD (R.length - 1 - i) 0=R.getD (R.length - 1 - i) 0:=by
  rw [List.getD_eq_getElem?_getD,h.at_ _ (by omega),if_neg (by omega),List.getD_eq_getElem?_getD]
 have e2:l.getD i 0=R.getD i 0:=by
  rw [List.getD_eq_getElem?_getD,h.at_ _ (by omega),if_neg (by omega),List.getD_eq_getElem?_getD]
 refine ⟨by simp [hl],fun k hk=>?_⟩;rw [List.getElem?_set];split
 ·rename_i hk2;subst hk2;rw [if_pos (by simp; omega),if_pos (by omega),e2,show R.length - 1 - (R.length - 1 - i)=i by omega,List.getElem?_eq_getElem (by omega)];rw [List.getD_eq_getElem?_getD,List.getElem?_eq_getElem (by omega)]; rfl
 ·rename_i hk2;rw [List.getElem?_set];split
  ·rename_i hk3;subst hk3;rw [if_pos (by omega),if_pos (by omega),e1];rw [List.getD_eq_getElem?_getD,List.getElem?_eq_getElem (by omega)]; rfl
  ·rename_i hk3;rw [h.at_ k hk];by_cases hc:k < i∨R.length - i≤k
   ·rw [if_pos hc,if_pos (by omega)]
   ·rw [if_neg hc,if_neg (by omega)]
theorem Lo.done (h:Lo R l i)(hi:¬ i < R.length - 1 - i):l=R.reverse:=by
 apply List.ext_getElem?;intro k;by_cases hk:k < R.length
 ·rw [h.at_ k hk,List.getElem?_reverse hk];split
  ·rfl
  ·rename_i hc
   congr 1; omega
 ·rw [List.getElem?_eq_none (by rw [h.len]; omega),List.getElem?_eq_none (by simp; omega)]
theorem F6 {j:Nat}(h:j < l.length):(Bc l)[j]?=some (.int .u8 ((l.getD j 0).toNat:Int)):=by
 rw [Bc,List.getElem?_map,List.getElem?_eq_getElem h,List.getD_eq_getElem?_getD,List.getElem?_eq_getElem h]; rfl
theorem Jt (l:List UInt8)(j:Nat)(b:UInt8):(Bc l).set j (.int .u8 (b.toNat:Int))=Bc (l.set j b):=by simp [Bc,List.map_set]
theorem Ts (h:z < 0):Lib.itoa z=45::Lib.decDigits z.natAbs:=by rw [Lib.itoa,if_pos h]
theorem Cz (h:¬ z < 0):Lib.itoa z=Lib.decDigits z.natAbs:=by rw [Lib.itoa,if_neg h]; congr 1; omega
theorem S4 (h:Cn u x z)(hs:nl z.natAbs≤100000000000):Fn0 prog 113 [x] u fun v _=>v=.string (mkS (Lib.itoa z)):=by
 obtain ⟨b,a,n,c,rfl,hb,hi⟩:=h.opn;obtain ⟨rfl,_⟩:=hi.len;have hs':(Aa z.natAbs).length≤100000000000:=hs;refine Fn0.o func113 ?_;by_cases h0:z.natAbs=0
 ·refine G.eT' ((Aa z.natAbs).length:Int) 0 (by rw [h0,Bd]; rfl) ?_;exact G.r (.string (mkS [48])) ⟨rfl,by rw [Cz (by omega),h0,Lib.decDigits_one (by omega)]; rfl⟩
 have hp:0 < (Aa z.natAbs).length:=Ce.2 (by omega);refine G.eF ((Aa z.natAbs).length:Int) 0 ?_;have hbd:=N2 z.natAbs;generalize hN:z.natAbs=N at *
 generalize hL:Aa N=l at *
 refine G.l (ι:=Nat×(Option Addr×Nat×Nat)) (fun i=>[(1,.p 0 0),(3,.v (.slice i.2.1 i.2.2.1 i.2.2.2)),(4,.v (.int .i64 (i.1:Int)))]) (fun _=>[(0,⟨66,[.v (.bool b),.v (.slice a l.length c)]⟩)])
  (fun i _ m'=>i.1≤l.length∧Ae PH.mt m' (.slice i.2.1 i.2.2.1 i.2.2.2) 5 1 (Bc (ld N (9*i.1)))) (fun i=>l.length - i.1) (0,(none,0,0)) ⟨by simp,Ae.nil _ _ _⟩ ?_
 rintro J ⟨i,a1,n1,c1⟩ hJ u1 m1 hle ⟨hil,hA⟩;simp only at hil hA hJ;by_cases hlt:i < l.length
 ·refine G.lT (i:Int) (l.length:Int) ?_;obtain ⟨bb,off,rfl,he⟩:=(hi.mono hle).at (j:=i) (by omega);refine G.a bb off l.length c i 1 (by omega) ?_;refine G.lU none bb (off+i*1) (.int .i64 (l.getD i 0:Nat)) he ?_;have hlow:l.getD i 0 < 1000000000:=by rw [← hL]; exact (Am N).getD i
  refine G.loop (ι:=Nat×(Option Addr×Nat×Nat)) (fun q=>[(1,.p 0 0),(3,.v (.slice q.2.1 q.2.2.1 q.2.2.2)),(4,.v (.int .i64 (i:Int))),(5,.v (.int .i64 ((l.getD i 0 / 10 ^ q.1:Nat):Int))),(6,.v (.int .i64 (q.1:Int)))]) (fun _=>[(0,⟨66,[.v (.bool b),.v (.slice (some ⟨bb,off,none⟩) l.length c)]⟩)])
   (fun q _ m'=>q.1≤9∧Ae PH.mt m' (.slice q.2.1 q.2.2.1 q.2.2.2) 5 1 (Bc (ld N (9*i+q.1)))) (fun q=>9 - q.1) (0,(a1,n1,c1)) (by kernel_rfl) (fun _=>by kernel_rfl) ⟨by kernel_rfl,by rw [Nat.pow_zero,Nat.div_one]; kernel_rfl,by kernel_rfl⟩ ⟨by simp,hA⟩ ?_
  clear hA;rintro J2 ⟨t,a2,n2,c2⟩ hJ2 u2 m2 hle2 ⟨ht,hA⟩;simp only at ht hA hJ2;have hl2:=hA.len;rw [Aw,Cf] at hl2;by_cases ht9:t < 9
  ·refine G.lT (t:Int) 9 ?_;have hdv:l.getD i 0 / 10 ^ t < 1000000000:=Nat.lt_of_le_of_lt (Nat.div_le_self _ _) hlow;have hdg:(Lib.dg N (9*i+t)).toNat=48+l.getD i 0 / 10 ^ t % 10:=by
    rw [Ak3 N i t ht9,hL]; exact Ns (by omega)
   generalize hD:l.getD i 0 / 10 ^ t=D at hdv hdg ⊢;refine G.rem ((D:Nat):Int) 10 ((D % 10:Nat):Int) (by kernel_rfl) (by omega) (by omega) (by omega) (by omega) ?_;refine G.p 48 ((D % 10:Nat):Int) ((Lib.dg N (9*i+t)).toNat:Int) ?_;refine G.convI .i64 .u8 .i64 ((Lib.dg N (9*i+t)).toNat:Int) ((Lib.dg N (9*i+t)).toNat:Int) (by kernel_rfl) (Ad8 (by omega) (by omega)) ?_;refine G.B 5 1 1 (.int .u8 0) [.int .u8 ((Lib.dg N (9*i+t)).toNat:Int)] (Jh [Lib.dg N (9*i+t)]) ?_;intro g u3 l3 e3;refine G.append 5 1 1 (.int .u8 0) PH.mt (Bc (ld N (9*i+t))) [.int .u8 ((Lib.dg N (9*i+t)).toNat:Int)] (.slice a2 n2 c2) g 0 1 1 (by kernel_rfl) rfl rfl (by omega) hA e3 (Jh [Lib.dg N (9*i+t)]) rfl (by omega) (by rw [Aw,Cf]; omega) (by rw [Aw,Cf]; omega) ?_;intro v4 m4 hA4;rw [show Bc (ld N (9*i+t))++[.int .u8 ((Lib.dg N (9*i+t)).toNat:Int)]=Bc (ld N (9*i+(t+1))) by rw [show 9*i+(t+1)=9*i+t+1 by omega,Q2,Mo]; rfl] at hA4;obtain ⟨a4,c4,rfl⟩:=hA4.shape;refine G.quo ((D:Nat):Int) 10 ((l.getD i 0 / 10 ^ (t+1):Nat):Int) (by kernel_rfl) (by omega) (by omega) (by omega) (by rw [Nat.pow_succ,← Nat.div_div_eq_div_mul,hD]; omega) ?_;refine G.i t ?_;exact G.b (hJ2 (t+1,(a4,(Bc (ld N (9*i+(t+1)))).length,c4)) _ _ _ cv (hle2.trans l3) ⟨by dsimp only; omega,hA4⟩ (by dsimp only; omega))
  ·have:t=9:=by omega
   subst this;refine G.lF ((9:Nat):Int) 9 ?_;refine G.i i ?_;exact G.b (hJ (i+1,(a2,n2,c2)) _ _ _ cv (hle.trans hle2) ⟨by dsimp only; omega,hA⟩ (by dsimp only; omega))
 ·have:i=l.length:=by omega
  subst this;refine G.lF (l.length:Int) (l.length:Int) ?_;obtain ⟨bo,co,e⟩:=hA.ptr (by intro e; have:=congrArg List.length e; rw [Aw,Cf,List.length_nil] at this; omega);rw [Aw,Cf] at e;simp only [Value.slice.injEq] at e;obtain ⟨rfl,rfl,rfl⟩:=e;refine G.loop (ι:=Nat) (fun k=>[(1,.p 0 0),(3,.v (.slice (some ⟨bo,0,none⟩) (k+1) c1))]) (fun _=>[(0,⟨66,[.v (.bool b),.v (.slice a l.length c)]⟩)])
   (fun k _ m'=>(N < 10 ^ (k+1)∧k+1≤9*l.length)∧Ae PH.mt m' (.slice (some ⟨bo,0,none⟩) (k+1) c1) 5 1 (Bc (ld N (k+1)))) (fun k=>k) (9*l.length - 1) (by kernel_rfl) (fun _=>by kernel_rfl) ⟨by kernel_rfl,by rw [show 9*l.length - 1+1=9*l.length by omega]; kernel_rfl,by kernel_rfl⟩ (by rw [show 9*l.length - 1+1=9*l.length by omega]; exact ⟨⟨hbd,Nat.le_refl _⟩,hA⟩) ?_
  clear hA hJ;rintro J3 k hJ3 u3 m3 hle3 ⟨⟨hk,hk2⟩,hA⟩;refine G.s ((k+1:Nat):Int) 1 (k:Int) ?_;refine G.a bo 0 (k+1) c1 k 1 (by omega) ?_;refine G.lM none bo (0+k*1) (.int .u8 ((Lib.dg N k).toNat:Int)) (hA.el (by rw [Bc,List.getElem?_map,W1 (by omega)]; rfl)) ?_;have htz:=Yz hk;have hdn:=N5 N k;by_cases hz:N < 10 ^ k
  ·refine G.cmpG .eql .u8 ((Lib.dg N k).toNat:Int) 48 true (by kernel_rfl) rfl (by simp only [B4,decide_eq_true_eq]; have:=htz.2 hz; omega) ?_;refine G.s ((k+1:Nat):Int) 1 (k:Int) ?_;have hco:k+1≤c1:=hA.cap;refine G.sliceTo 1 (some ⟨bo,0,none⟩) (k+1) c1 k (by kernel_rfl) (by omega) ?_;have hA':=hA.take (k:=k) (by rw [Aw,Cf]; omega);rw [show (Bc (ld N (k+1))).take k=Bc (ld N k) by rw [Bc,← List.map_take,Al5 (by omega)]; rfl] at hA';rcases k with _ | k
   ·simp at hz; omega
   ·exact G.b (hJ3 k _ _ _ cv hle3 ⟨⟨hz,by omega⟩,hA'⟩ (by omega))
  ·refine G.cmpG .eql .u8 ((Lib.dg N k).toNat:Int) 48 false (by kernel_rfl) rfl (by simp only [B4,decide_eq_false_iff_not]; intro h; exact hz (htz.1 (by omega))) ?_;have hkd:Lib.nDigits N=k+1:=Lib.nDigits_unique k N (by omega) hk;clear hJ3;have hdr:=Wv N;rw [hkd] at hdr;cases b
   ·have hzn:¬ z < 0:=by simpa using hb.symm
    have hrev:(ld N (k+1)).reverse=Lib.itoa z:=by rw [hdr,Cz hzn,hN]
    generalize hR:ld N (k+1)=R at *
    generalize hnR:k+1=nR at *
    have hnb:nR≤1000000000000:=by omega
    have hn1:1≤nR:=by omega
    have hRl:=hA.len;rw [Aw] at hRl;refine G.s (nR:Int) 1 ((nR - 1:Nat):Int) ?_;refine G.l (ι:=Nat×List UInt8) (fun i=>[(3,.v (.slice (some ⟨bo,0,none⟩) nR c1)),(7,.v (.int .i64 (i.1:Int))),(8,.v (.int .i64 ((nR - 1 - i.1:Nat):Int)))]) (fun _=>[])
     (fun i _ m'=>i.1≤nR - 1∧Lo R i.2 i.1∧Ae PH.mt m' (.slice (some ⟨bo,0,none⟩) nR c1) 5 1 (Bc i.2)) (fun i=>nR - i.1) (0,R) ⟨by simp,Lo.start R,hA⟩ ?_
    clear hA;rintro J5 ⟨i,l⟩ hJ5 u5 m5 hle5 ⟨hi5,hst,hA⟩;simp only at hi5 hst hA hJ5;have hll:=hst.len;by_cases hij:i < nR - 1 - i
    ·refine G.lT (i:Int) ((nR - 1 - i:Nat):Int) ?_;refine G.a bo 0 nR c1 (nR - 1 - i) 1 (by omega) ?_;refine G.lM none bo (0+(nR - 1 - i)*1) (.int .u8 ((l.getD (nR - 1 - i) 0).toNat:Int)) (hA.el (F6 (by omega))) ?_;refine G.a bo 0 nR c1 i 1 (by omega) ?_;refine G.lM none bo (0+i*1) (.int .u8 ((l.getD i 0).toNat:Int)) (hA.el (F6 (by omega))) ?_;refine G.a bo 0 nR c1 i 1 (by omega) ?_;refine G.storeA 1 PH.mt (Bc l) bo nR c1 i (.int .u8 ((l.getD (nR - 1 - i) 0).toNat:Int)) (by kernel_rfl) hA (by rw [Aw]; omega) rfl rfl ?_;intro m6 hA6;rw [Jt] at hA6;refine G.a bo 0 nR c1 (nR - 1 - i) 1 (by omega) ?_;refine G.storeA 1 PH.mt _ bo nR c1 (nR - 1 - i) (.int .u8 ((l.getD i 0).toNat:Int)) (by kernel_rfl) hA6 (by rw [Aw,List.length_set]; omega) rfl rfl ?_;intro m7 hA7;rw [Jt] at hA7;refine G.i i ?_;refine G.s ((nR - 1 - i:Nat):Int) 1 ((nR - 1 - (i+1):Nat):Int) ?_;exact G.b (hJ5 (i+1,(l.set i (l.getD (nR - 1 - i) 0)).set (nR - 1 - i) (l.getD i 0)) _ _ _ cv hle5 ⟨by dsimp only; omega,by dsimp only; rw [hRl] at hij ⊢; exact hst.step hij,hA7⟩ (by dsimp only; omega))
    ·refine G.lF (i:Int) ((nR - 1 - i:Nat):Int) ?_;have hlR:=hst.done (by rw [← hRl]; exact hij);refine G.convB PH.mt 5 5 l bo nR c1 (by kernel_rfl) (by kernel_rfl) hA ?_;refine G.give PH.mt (Bc l) _ (by kernel_rfl) hA (fun _=>.inl rfl) ?_;intro u8 l8 _;refine G.r (.string (mkS l)) ⟨rfl,?_⟩;rw [hlR,hrev]
   ·have hzn:z < 0:=by simpa using hb.symm
    refine G.B 5 1 1 (.int .u8 0) [.int .u8 45] (Jh [45]) ?_;intro g u4 l4 e4;refine G.append 5 1 1 (.int .u8 0) PH.mt (Bc (ld N (k+1))) [.int .u8 45] (.slice (some ⟨bo,0,none⟩) (k+1) c1) g 0 1 1 (by kernel_rfl) rfl rfl (by omega) hA e4 (Jh [45]) rfl (by omega) (by rw [Aw,Cf]; omega) (by rw [Aw,Cf]; omega) ?_;intro v5 m5 hA5;rw [show Bc (ld N (k+1))++[.int .u8 45]=Bc (ld N (k+1)++[45]) by rw [Mo]; rfl] at hA5;obtain ⟨bR,cR,rfl⟩:=hA5.ptr (by simp [Bc]);rw [Aw,List.length_append,Cf,List.length_singleton] at hA5 ⊢;have hrev:(ld N (k+1)++[45]).reverse=Lib.itoa z:=by rw [List.reverse_append,hdr,Ts hzn,hN]; rfl
    clear hA;have hA:=hA5;clear hA5;have hlR:(ld N (k+1)++[45]).length=k+1+1:=by rw [List.length_append,Cf]; rfl
    generalize hR:ld N (k+1)++[45]=R at *
    generalize hnR:k+1+1=nR at *
    have hnb:nR≤1000000000000:=by omega
    have hn1:1≤nR:=by omega
    have hRl:=hA.len;rw [Aw] at hRl;refine G.s (nR:Int) 1 ((nR - 1:Nat):Int) ?_;refine G.l (ι:=Nat×List UInt8) (fun i=>[(3,.v (.slice (some ⟨bR,0,none⟩) nR cR)),(7,.v (.int .i64 (i.1:Int))),(8,.v (.int .i64 ((nR - 1 - i.1:Nat):Int)))]) (fun _=>[])
     (fun i _ m'=>i.1≤nR - 1∧Lo R i.2 i.1∧Ae PH.mt m' (.slice (some ⟨bR,0,none⟩) nR cR) 5 1 (Bc i.2)) (fun i=>nR - i.1) (0,R) ⟨by simp,Lo.start R,hA⟩ ?_
    clear hA;rintro J5 ⟨i,l⟩ hJ5 u5 m5 hle5 ⟨hi5,hst,hA⟩;simp only at hi5 hst hA hJ5;have hll:=hst.len;by_cases hij:i < nR - 1 - i
    ·refine G.lT (i:Int) ((nR - 1 - i:Nat):Int) ?_;refine G.a bR 0 nR cR (nR - 1 - i) 1 (by omega) ?_;refine G.lM none bR (0+(nR - 1 - i)*1) (.int .u8 ((l.getD (nR - 1 - i) 0).toNat:Int)) (hA.el (F6 (by omega))) ?_;refine G.a bR 0 nR cR i 1 (by omega) ?_;refine G.lM none bR (0+i*1) (.int .u8 ((l.getD i 0).toNat:Int)) (hA.el (F6 (by omega))) ?_;refine G.a bR 0 nR cR i 1 (by omega) ?_;refine G.storeA 1 PH.mt (Bc l) bR nR cR i (.int .u8 ((l.getD (nR - 1 - i) 0).toNat:Int)) (by kernel_rfl) hA (by rw [Aw]; omega) rfl rfl ?_;intro m6 hA6;rw [Jt] at hA6;refine G.a bR 0 nR cR (nR - 1 - i) 1 (by omega) ?_;refine G.storeA 1 PH.mt _ bR nR cR (nR - 1 - i) (.int .u8 ((l.getD i 0).toNat:Int)) (by kernel_rfl) hA6 (by rw [Aw,List.length_set]; omega) rfl rfl ?_;intro m7 hA7;rw [Jt] at hA7;refine G.i i ?_;refine G.s ((nR - 1 - i:Nat):Int) 1 ((nR - 1 - (i+1):Nat):Int) ?_;exact G.b (hJ5 (i+1,(l.set i (l.getD (nR - 1 - i) 0)).set (nR - 1 - i) (l.getD i 0)) _ _ _ cv hle5 ⟨by dsimp only; omega,by dsimp only; rw [hRl] at hij ⊢; exact hst.step hij,hA7⟩ (by dsimp only; omega))
    ·refine G.lF (i:Int) ((nR - 1 - i:Nat):Int) ?_;have hlR:=hst.done (by rw [← hRl]; exact hij);refine G.convB PH.mt 5 5 l bR nR cR (by kernel_rfl) (by kernel_rfl) hA ?_;refine G.give PH.mt (Bc l) _ (by kernel_rfl) hA (fun _=>.inl rfl) ?_;intro u8 l8 _;refine G.r (.string (mkS l)) ⟨rfl,?_⟩;rw [hlR,hrev]
theorem Yi (h:Cn u x z)(hs:nl z.natAbs≤100000000000)(hd:Lib.nDigits z.natAbs≤400):Fn0 prog 88 [x] u fun v _=>v=.tuple #[.string (mkS (Lib.itoa z)),.int .i64 0]:=by
 obtain ⟨b,a,n,c,rfl,hb,hi⟩:=h.opn;refine Fn0.o func88 ?_;refine G.c call174 (Ng h hs) ?_;rintro v1 u1 l1 rfl;refine G.gF ((Lib.nDigits z.natAbs:Nat):Int) 400 ?_;refine G.c call113 (S4 (h.mono l1) hs) ?_;rintro v2 u2 l2 rfl;exact G.r _ ⟨rfl,rfl⟩
theorem Ao1 (h1:-9223372036854775807≤z)(h2:z≤9223372036854775807):nl z.natAbs≤100000000000:=Nat.le_trans (A4 (k:=3) (by omega)) (by omega)
theorem Ag4 (h1:-9223372036854775807≤z)(h2:z≤9223372036854775807):Fn0 prog 51 [.int .i64 z] u fun v _=>v=.string (mkS (Lib.itoa z)):=by
 refine Fn0.o func51 ?_;refine G.c call79 (Te h1 h2) ?_;intro v1 u1 l1 k1;obtain ⟨b1,a1,n1,c1,rfl,_,_⟩:=k1.opn;refine G.c call113 (S4 k1 (Ao1 h1 h2)) ?_;rintro v2 u2 l2 rfl;exact G.r _ ⟨rfl,rfl⟩
theorem P3 (h1:-9223372036854775807≤z)(h2:z≤9223372036854775807):Fn0 prog 14 [.int .i64 z] u fun v _=>v=.string (mkS (Lib.itoa z)):=by
 refine Fn0.o func14 ?_;refine G.c call51 (Ag4 h1 h2) ?_;rintro v2 u2 l2 rfl;exact G.r _ ⟨rfl,rfl⟩
end
section
open Go.RowKit
variable {k:Nat}{l:List UInt8}
theorem Gk.drop (h:Gk l)(k:Nat):Gk (l.drop k):=fun b hb=>h b (List.mem_of_mem_drop hb)
theorem Gk.take (h:Gk l)(k:Nat):Gk (l.take k):=fun b hb=>h b (List.mem_of_mem_take hb)
theorem C9 {k j:Nat}(h:k+j < l.length):(l.drop k).take (j+1)=(l.drop k).take j++[l.getD (k+j) 0]:=by
 rw [List.take_add_one]
 congr 1
 rw [List.getElem?_drop,List.getElem?_eq_getElem h,List.getD_eq_getElem?_getD,List.getElem?_eq_getElem h]; rfl
theorem Ma (l:List UInt8)(b:UInt8):rd (l++[b])=10*rd l+(b.toNat - 48):=by simp [rd,rdA]
theorem Jc (h:Gk l)(hk:k < l.length):48≤(l.getD k 0).toNat∧(l.getD k 0).toNat≤57:=by
 rw [List.getD_eq_getElem?_getD,List.getElem?_eq_getElem hk]; exact h _ (List.getElem_mem hk)
theorem C1 (hk:k < l.length):l[k]?=some (l.getD k 0):=by
 rw [List.getD_eq_getElem?_getD,List.getElem?_eq_getElem hk]; rfl
def Bh (b:Bool)(l:List UInt8):List UInt8:=if b then 45::l else l
structure O9 (N:Nat)(s:List UInt8)(ys:List Nat):Prop where
 low:Low ys
 dig:Gk s
 sum:N=val ys+1000000000 ^ ys.length*rd s
theorem O9.step {N:Nat}{s:List UInt8}{ys:List Nat}(h:O9 N s ys):O9 N (s.take (s.length - 9)) (ys++[rd (s.drop (s.length - 9))]):=by
 have hl:rd (s.drop (s.length - 9)) < 1000000000:=by
  have:=Vz (h.dig.drop (s.length - 9));rw [List.length_drop] at this;exact Nat.lt_of_lt_of_le this (by rw [show (1000000000:Nat)=10 ^ 9 from rfl]; exact Nat.pow_le_pow_right (by omega) (by omega))
 refine ⟨h.low.append (Low.cons hl Low.nil),h.dig.take _,?_⟩;have e:rd s=rd (s.take (s.length - 9))*1000000000+rd (s.drop (s.length - 9)):=by
  have:=U0 (s.take (s.length - 9)) (s.drop (s.length - 9));rw [List.take_append_drop] at this;rw [this];by_cases h9:9≤s.length
  ·rw [List.length_drop,show s.length - (s.length - 9)=9 by omega]
  ·rw [show s.length - 9=0 by omega]; simp [rd,rdA]
 rw [Hp,List.length_append,List.length_singleton,Nat.pow_succ,h.sum,e,Nat.mul_add,Nat.mul_assoc,Nat.mul_comm (rd _) 1000000000];omega
theorem Ahb {b:Bool}(hd:Gk l)(hl:l≠[])(h:¬ b=true):(Bh b l).getD 0 0≠45:=by
 cases b
 ·have h1:0 < l.length:=by cases l; exact absurd rfl hl; simp
  have:=Jc hd h1;intro h2;rw [show Bh false l=l from rfl] at h2;rw [h2] at this;simp at this
 ·exact absurd rfl h
theorem Ago {u:PH}(b:Bool)(l:List UInt8)(hd:Gk l)(hl:l≠[])(hlen:l.length≤1000000000):Fn0 prog 83 [.string (mkS (Bh b l))] u fun v u'=>Cn u' v (Bp b (rd l)):=by
 have hl0:0 < l.length:=by cases l; exact absurd rfl hl; simp
 refine Fn0.o func83 ?_;have hne:Bh b l≠[]:=by cases b <;> simp [Bh,hl]
 refine G.x (Bh b l) [] hne ?_;have h00:(Bh b l)[0]?=some ((Bh b l).getD 0 0):=C1 (by cases b <;> simp [Bh]; omega)
 refine G.idxS (Bh b l) 0 _ (by kernel_rfl) h00 ?_;cases b
 ·have hne:=Ahb (b:=false) hd hl (by simp);refine G.cmpG .eql .u8 (((Bh false l).getD 0 0).toNat:Int) 45 false (by kernel_rfl) rfl (by simp only [B4,decide_eq_false_iff_not]; intro h; exact hne (UInt8.toNat_inj.1 (by simpa using (by omega:((Bh false l).getD 0 0).toNat=45)))) ?_;refine G.l (ι:=List UInt8×List Nat×(Option Addr×Nat×Nat)) (fun i=>[(2,.p 0 0),(3,.v (.string (mkS i.1))),(4,.p 2001 0)])
   (fun i=>[(0,⟨66,[.v (.bool false),.v (.slice none 0 0)]⟩),(2001,⟨66,[.v (.bool false),.v (.slice i.2.2.1 i.2.2.2.1 i.2.2.2.2)]⟩)])
   (fun i _ m'=>i.1.length+i.2.1.length≤l.length∧O9 (rd l) i.1 i.2.1∧Ae PH.mt m' (.slice i.2.2.1 i.2.2.2.1 i.2.2.2.2) 3 1 (Ag i.2.1)) (fun i=>i.1.length) (l,[],(none,0,0)) ⟨by simp,⟨Low.nil,hd,by simp [val]⟩,Ae.nil _ _ _⟩ ?_
  rintro J ⟨s,ys,⟨a,ny,c⟩⟩ hJ u' m' hle ⟨hsz,hst,hA⟩;simp only at hsz hst hA hJ;have hys:=hA.len;rw [Ah] at hys;have hsd:=hst.dig;have hss:(mkS s).size=s.length:=Go.Lib.size_mk s;by_cases h0:0 < s.length
  ·refine G.gT (s.length:Int) 0 ?_;refine G.sub (s.length:Int) 9 ((s.length:Int) - 9) (by kernel_rfl) rfl (by omega) (by omega) ?_;refine G.maxI [3,3] 0 ((s.length:Int) - 9) ((s.length - 9:Nat):Int) (by kernel_rfl) (by omega) ?_;refine G.loop (ι:=Nat) (fun i=>[(2,.p 0 0),(3,.v (.string (mkS s))),(4,.p 2001 0),(5,.v (.int .i64 ((s.length - 9:Nat):Int))),(6,.v (.int .i64 ((rd ((s.drop (s.length - 9)).take i):Nat):Int))),(7,.v (.int .i64 ((s.length - 9+i:Nat):Int)))])
    (fun _=>[(0,⟨66,[.v (.bool false),.v (.slice none 0 0)]⟩),(2001,⟨66,[.v (.bool false),.v (.slice a ny c)]⟩)])
    (fun i _ m'=>s.length - 9+i≤s.length∧Ae PH.mt m' (.slice a ny c) 3 1 (Ag ys)) (fun i=>s.length - i) 0 (by kernel_rfl) (fun _=>by kernel_rfl) ⟨by kernel_rfl,by rw [List.take_zero]; kernel_rfl,by kernel_rfl⟩ ⟨by omega,hA⟩ ?_
   clear hA;rintro J2 i hJ2 u2 m2 hle2 ⟨hi,hA⟩;by_cases hlt:s.length - 9+i < s.length
   ·refine G.lT ((s.length - 9+i:Nat):Int) (s.length:Int) ?_;have hb9:rd ((s.drop (s.length - 9)).take (i+1)) < 1000000000:=by
     have:=Vz ((hsd.drop (s.length - 9)).take (i+1));refine Nat.lt_of_lt_of_le this ?_;rw [show (1000000000:Nat)=10 ^ 9 from rfl];exact Nat.pow_le_pow_right (by omega) (by simp; omega)
    have hdg:=Jc hsd hlt;rw [C9 hlt,Ma] at hb9;refine G.mul 10 ((rd ((s.drop (s.length - 9)).take i):Nat):Int) ((10*rd ((s.drop (s.length - 9)).take i):Nat):Int) (by kernel_rfl) (by omega) (by omega) (by omega) ?_;refine G.idxS s (s.length - 9+i) _ (by kernel_rfl) (C1 hlt) ?_;refine G.sub8 ((s.getD (s.length - 9+i) 0).toNat:Int) 48 (((s.getD (s.length - 9+i) 0).toNat - 48:Nat):Int) (by kernel_rfl) (by omega) (by omega) (by omega) ?_;refine G.convI .u8 .i64 .u8 (((s.getD (s.length - 9+i) 0).toNat - 48:Nat):Int) (((s.getD (s.length - 9+i) 0).toNat - 48:Nat):Int) (by kernel_rfl) (Cl (by omega) (by omega)) ?_;refine G.add ((10*rd ((s.drop (s.length - 9)).take i):Nat):Int) (((s.getD (s.length - 9+i) 0).toNat - 48:Nat):Int) ((rd ((s.drop (s.length - 9)).take (i+1)):Nat):Int) (by kernel_rfl) (by rw [C9 hlt,Ma]; omega) (by omega) (by rw [C9 hlt,Ma]; omega) ?_;refine G.p ((s.length - 9+i:Nat):Int) 1 ((s.length - 9+(i+1):Nat):Int) ?_;exact G.b (hJ2 (i+1) _ _ _ cv hle2 ⟨by omega,hA⟩ (by omega))
   ·refine G.lF ((s.length - 9+i:Nat):Int) (s.length:Int) ?_;have htk:(s.drop (s.length - 9)).take i=s.drop (s.length - 9):=List.take_of_length_le (by simp; omega);rw [htk];have hstep:=hst.step;have hsl:(s.take (s.length - 9)).length=s.length - 9:=by simp
    generalize rd (s.drop (s.length - 9))=d at hstep ⊢;refine G.B 3 1 8 (.int .i64 0) [.int .i64 (d:Int)] (Ax [d]) ?_;intro g u3 l3 e3;refine G.append 3 1 8 (.int .i64 0) PH.mt (Ag ys) [.int .i64 (d:Int)] (.slice a ny c) g 0 1 1 (by kernel_rfl) rfl rfl (by omega) hA e3 (Ax [d]) rfl (by omega) (by rw [Ah]; omega) (by rw [Ah]; omega) ?_;intro v4 m4 hA4;rw [Cj] at hA4;obtain ⟨a4,c4,rfl⟩:=hA4.shape;refine G.sliceSTo s (s.length - 9) (by kernel_rfl) (by kernel_rfl) (by omega) ?_;exact G.b (hJ (s.take (s.length - 9),ys++[d],(a4,(Ag (ys++[d])).length,c4)) _ _ _ cv ((hle.trans hle2).trans l3) ⟨by dsimp only; rw [hsl,List.length_append,List.length_singleton]; omega,hstep,hA4⟩ (by dsimp only; rw [hsl]; omega))
  ·have hs0:s = []:=List.eq_nil_of_length_eq_zero (by omega);subst hs0;refine G.gF ((0:Nat):Int) 0 ?_;refine G.give PH.mt (Ag ys) _ (by kernel_rfl) hA (fun _=>.inl rfl) ?_;intro u3 l3 hL;refine G.c call168 (C7 (b:=false) (a:=a) (n:=ny) (c:=c) (l:=ys) hL hst.low (by omega)) ?_;intro v5 u5 l5 k5;have hv:val ys=rd l:=by have:=hst.sum; simpa [rd,rdA] using this.symm
   rw [hv] at k5;obtain ⟨b5,a5,n5,c5,rfl,_,_⟩:=k5.opn;exact G.r (.agg #[.bool b5,.slice a5 n5 c5]) ⟨rfl,k5⟩
 ·refine G.cmpG .eql .u8 (((Bh true l).getD 0 0).toNat:Int) 45 true (by kernel_rfl) rfl (by simp [B4,Bh]) ?_;refine G.sliceSFrom (Bh true l) 1 (by kernel_rfl) (by kernel_rfl) (by simp [Bh]) ?_;rw [show (Bh true l).drop 1=l from rfl];refine G.l (ι:=List UInt8×List Nat×(Option Addr×Nat×Nat)) (fun i=>[(2,.p 0 0),(3,.v (.string (mkS i.1))),(4,.p 2001 0)])
   (fun i=>[(0,⟨66,[.v (.bool false),.v (.slice none 0 0)]⟩),(2001,⟨66,[.v (.bool true),.v (.slice i.2.2.1 i.2.2.2.1 i.2.2.2.2)]⟩)])
   (fun i _ m'=>i.1.length+i.2.1.length≤l.length∧O9 (rd l) i.1 i.2.1∧Ae PH.mt m' (.slice i.2.2.1 i.2.2.2.1 i.2.2.2.2) 3 1 (Ag i.2.1)) (fun i=>i.1.length) (l,[],(none,0,0)) ⟨by simp,⟨Low.nil,hd,by simp [val]⟩,Ae.nil _ _ _⟩ ?_
  rintro J ⟨s,ys,⟨a,ny,c⟩⟩ hJ u' m' hle ⟨hsz,hst,hA⟩;simp only at hsz hst hA hJ;have hys:=hA.len;rw [Ah] at hys;have hsd:=hst.dig;have hss:(mkS s).size=s.length:=Go.Lib.size_mk s;by_cases h0:0 < s.length
  ·refine G.gT (s.length:Int) 0 ?_;refine G.sub (s.length:Int) 9 ((s.length:Int) - 9) (by kernel_rfl) rfl (by omega) (by omega) ?_;refine G.maxI [3,3] 0 ((s.length:Int) - 9) ((s.length - 9:Nat):Int) (by kernel_rfl) (by omega) ?_;refine G.loop (ι:=Nat) (fun i=>[(2,.p 0 0),(3,.v (.string (mkS s))),(4,.p 2001 0),(5,.v (.int .i64 ((s.length - 9:Nat):Int))),(6,.v (.int .i64 ((rd ((s.drop (s.length - 9)).take i):Nat):Int))),(7,.v (.int .i64 ((s.length - 9+i:Nat):Int)))])
    (fun _=>[(0,⟨66,[.v (.bool false),.v (.slice none 0 0)]⟩),(2001,⟨66,[.v (.bool true),.v (.slice a ny c)]⟩)])
    (fun i _ m'=>s.length - 9+i≤s.length∧Ae PH.mt m' (.slice a ny c) 3 1 (Ag ys)) (fun i=>s.length - i) 0 (by kernel_rfl) (fun _=>by kernel_rfl) ⟨by kernel_rfl,by rw [List.take_zero]; kernel_rfl,by kernel_rfl⟩ ⟨by omega,hA⟩ ?_
   clear hA;rintro J2 i hJ2 u2 m2 hle2 ⟨hi,hA⟩;by_cases hlt:s.length - 9+i < s.length
   ·refine G.lT ((s.length - 9+i:Nat):Int) (s.length:Int) ?_;have hb9:rd ((s.drop (s.length - 9)).take (i+1)) < 1000000000:=by
     have:=Vz ((hsd.drop (s.length - 9)).take (i+1));refine Nat.lt_of_lt_of_le this ?_;rw [show (1000000000:Nat)=10 ^ 9 from rfl];exact Nat.pow_le_pow_right (by omega) (by simp; omega)
    have hdg:=Jc hsd hlt;rw [C9 hlt,Ma] at hb9;refine G.mul 10 ((rd ((s.drop (s.length - 9)).take i):Nat):Int) ((10*rd ((s.drop (s.length - 9)).take i):Nat):Int) (by kernel_rfl) (by omega) (by omega) (by omega) ?_;refine G.idxS s (s.length - 9+i) _ (by kernel_rfl) (C1 hlt) ?_;refine G.sub8 ((s.getD (s.length - 9+i) 0).toNat:Int) 48 (((s.getD (s.length - 9+i) 0).toNat - 48:Nat):Int) (by kernel_rfl) (by omega) (by omega) (by omega) ?_;refine G.convI .u8 .i64 .u8 (((s.getD (s.length - 9+i) 0).toNat - 48:Nat):Int) (((s.getD (s.length - 9+i) 0).toNat - 48:Nat):Int) (by kernel_rfl) (Cl (by omega) (by omega)) ?_;refine G.add ((10*rd ((s.drop (s.length - 9)).take i):Nat):Int) (((s.getD (s.length - 9+i) 0).toNat - 48:Nat):Int) ((rd ((s.drop (s.length - 9)).take (i+1)):Nat):Int) (by kernel_rfl) (by rw [C9 hlt,Ma]; omega) (by omega) (by rw [C9 hlt,Ma]; omega) ?_;refine G.p ((s.length - 9+i:Nat):Int) 1 ((s.length - 9+(i+1):Nat):Int) ?_;exact G.b (hJ2 (i+1) _ _ _ cv hle2 ⟨by omega,hA⟩ (by omega))
   ·refine G.lF ((s.length - 9+i:Nat):Int) (s.length:Int) ?_;have htk:(s.drop (s.length - 9)).take i=s.drop (s.length - 9):=List.take_of_length_le (by simp; omega);rw [htk];have hstep:=hst.step;have hsl:(s.take (s.length - 9)).length=s.length - 9:=by simp
    generalize rd (s.drop (s.length - 9))=d at hstep ⊢;refine G.B 3 1 8 (.int .i64 0) [.int .i64 (d:Int)] (Ax [d]) ?_;intro g u3 l3 e3;refine G.append 3 1 8 (.int .i64 0) PH.mt (Ag ys) [.int .i64 (d:Int)] (.slice a ny c) g 0 1 1 (by kernel_rfl) rfl rfl (by omega) hA e3 (Ax [d]) rfl (by omega) (by rw [Ah]; omega) (by rw [Ah]; omega) ?_;intro v4 m4 hA4;rw [Cj] at hA4;obtain ⟨a4,c4,rfl⟩:=hA4.shape;refine G.sliceSTo s (s.length - 9) (by kernel_rfl) (by kernel_rfl) (by omega) ?_;exact G.b (hJ (s.take (s.length - 9),ys++[d],(a4,(Ag (ys++[d])).length,c4)) _ _ _ cv ((hle.trans hle2).trans l3) ⟨by dsimp only; rw [hsl,List.length_append,List.length_singleton]; omega,hstep,hA4⟩ (by dsimp only; rw [hsl]; omega))
  ·have hs0:s = []:=List.eq_nil_of_length_eq_zero (by omega);subst hs0;refine G.gF ((0:Nat):Int) 0 ?_;refine G.give PH.mt (Ag ys) _ (by kernel_rfl) hA (fun _=>.inl rfl) ?_;intro u3 l3 hL;refine G.c call168 (C7 (b:=true) (a:=a) (n:=ny) (c:=c) (l:=ys) hL hst.low (by omega)) ?_;intro v5 u5 l5 k5;have hv:val ys=rd l:=by have:=hst.sum; simpa [rd,rdA] using this.symm
   rw [hv] at k5;obtain ⟨b5,a5,n5,c5,rfl,_,_⟩:=k5.opn;exact G.r (.agg #[.bool b5,.slice a5 n5 c5]) ⟨rfl,k5⟩
end
end Go.Proofs.YtanfagpabkdmiaaGreatDoor
