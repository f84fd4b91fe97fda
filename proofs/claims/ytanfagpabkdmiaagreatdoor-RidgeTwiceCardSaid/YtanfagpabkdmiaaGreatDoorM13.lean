/- Parts of one proof, joined by a program. -/
import Derived.Test.YtanfagpabkdmiaaGreatDoorM12
set_option linter.unusedVariables false
set_option linter.unusedSimpArgs false
set_option linter.unusedSectionVars false
set_option maxHeartbeats 16000000
namespace Go.Proofs.YtanfagpabkdmiaaGreatDoor
open Go.Proofs.Tryz
open Go.RowKit Go.MapKept
open _root_.Array renaming length_toList -> A29, mk.injEq -> A3z
open Instr renaming sureAddr -> A3x
open List renaming all_eq_true -> A08, append_assoc -> A1j, append_nil -> A1i, cons.injEq -> A18, cons_append -> A39, drop_of_length_le -> A1u, erase_cons_head -> A2v, getD_eq_getElem?_getD -> A0o, getElem?_cons_succ -> A38, getElem?_eq_getElem -> A0n, getElem?_eq_some_iff -> A0s, getElem?_map -> A0v, getElem?_range -> A52, getElem_of_mem -> A19, getElem_take -> A4t, length_append -> A0z, length_cons -> A2n, length_map -> A0p, length_take -> A00, length_zip -> Bby, map_set -> A27, mem_append -> A01, mem_cons -> A02, mem_iff_getElem -> A2u, mem_map -> A0u, mem_of_getElem? -> A1b, mem_of_mem_take -> A2r, mem_singleton -> A1t, nil_append -> A2t, not_mem_nil -> A14, range -> A1q, set_cons_succ -> A2c, set_cons_zero -> A2k, take_add_one -> A1c, take_length -> A1k, take_of_length_le -> A03, take_zero -> A3y, toList_toArray -> A2z
open Nat renaming le_refl -> A0w, lt_of_le_of_lt -> A2q, zero_le -> A1m
open Option renaming map_some -> A3h, toList_some -> Ba1
open Prod renaming mk.injEq -> A1r
open Rat renaming add_zero -> Bco, intCast_add -> A48, intCast_mul -> A23
open Value renaming cells -> A1e, int.injEq -> A8b, slice -> A06, slice.injEq -> A09, tuple.injEq -> Ba8
section
variable [Cc] [Dy]
section
variable {P:Program} [Ba P] {id:Nat} {ops:Array Oper} {Fin:S->PH->PH->Prop} {a d:Nat} {kk:List KI} {s:S} {u m:PH}
theorem Ob.loadO (kd:Option Nat)(b off:Nat)(e:Value)(h:Al P (.reg id ops true [a]::kk,s)=.load (some kd) (.pointer (some ⟨b,off,none⟩)))(hd:(ops[a]?).bind (·.dst)=some d)(hs:Aby kd e=true)(he:ElP m b off e)(k:Fin (s.put (some d) (.v e)) u m):Ob P id ops true Fin [a] s u m:=by
 obtain⟨id',ops',dr',i',l',kk',s'',o,e1,ho',hg,hdo,hv,hns,hview,hnx⟩:=Ho h mV;simp only[A1r,A18,KI.reg.injEq]at e1;obtain⟨⟨⟨rfl,rfl,rfl,rfl,rfl⟩,rfl⟩,rfl⟩:=e1;have hdst:o.dst=some d:=by rw[ho']at hd;simpa using hd
 refine Ob.ask (v:=e) ho' hg hdo hv hns (Adw hview mV) (fun w hp=>?_) ?_
 ·obtain⟨t,X,e1,e2,e3⟩:=Ul hview;obtain⟨dst,opp,type,pos,after,guard⟩:=o;simp only at e1;subst e1;simp[execOp,Instr.loadAt,A3x,e2,Tt e3 hs he (hp rfl).2]
 ·rw[hdst];exact .nil k
theorem Ob.storeO (sz b off:Nat)(t:TypeId)(cs:List Value)(e:Value)(h:Al P (.reg id ops true [a]::kk,s)=.store (some sz) (.pointer (some ⟨b,off,none⟩)) e)(hd:(ops[a]?).bind (·.dst)=none)(hw:Oo ops a ((ops[a]?.getD default).op)=true)(hb:m b=some (.cells cs.toArray t (0,0)))(ho:∀ x∈cs,Be x=true)(hl:off+sz<=cs.length)(he:e.cells.size=sz)(hc:e.cells.toList.all Be=true)
 (k:Fin s u (m.upd b (.cells (cs.take off++e.cells.toList++cs.drop (off+sz)).toArray t (0,0)))):Ob P id ops true Fin [a] s u m:=by
 obtain⟨id',ops',dr',i',l',kk',s'',o,e1,ho',hg,hdo,hv,hns,hview,hnx⟩:=Ho h mV;simp only[A1r,A18,KI.reg.injEq]at e1;obtain⟨⟨⟨rfl,rfl,rfl,rfl,rfl⟩,rfl⟩,rfl⟩:=e1;have hdst:o.dst=none:=by rw[ho']at hd;simpa using hd
 have hop:(ops[a]?.getD default).op=o.op:=by rw[ho'];rfl
 rw[hop]at hw;refine Ob.big (K:=fun v' u' m'=>u'=u/\m'=m.upd b (.cells (cs.take off++e.cells.toList++cs.drop (off+sz)).toArray t (0,0))) ho' hg hdo hv hns (by
  obtain⟨t',X,Y,e2,_⟩:=Gc hview;rw[e2];rfl) (fun v u' m' hK=>.inr (.inr (.inl hw))) (fun w hgd=>?_) (fun v u' m' hle hK=>?_)
 ·obtain⟨t',X,Y,e1,e2,e3,ht⟩:=Gc hview;obtain⟨dst,opp,type,pos,after,guard⟩:=o;simp only at e1;subst e1;rw[A08]at hc;have hgw:=hgd.pm b _ hb;have hst:=run_storeCells_at P b off t e.cells.toList 0 cs.toArray w hgw (by simp[he];omega) (fun x hx=>Aqt (hc x hx));simp only[Nat.add_zero,A29,he,A2z]at hst;have hcell:∀ x∈(cs.take off++e.cells.toList++cs.drop (off+sz)).toArray.toList,Be x=true:=by
   intro x hx;simp only[A2z,A01]at hx;rcases hx with (hx|hx)|hx
   ·exact ho x (A2r hx)
   ·exact hc x hx
   ·exact ho x (List.mem_of_mem_drop hx)
  obtain⟨g1,g2⟩:=hgd.setM hb hcell;unfold D3;have hex:(execOp (Kg s) ⟨dst,.store t' X Y,type,pos,after,guard⟩).run P w=.ok .skip (w.setRow b (cs.take off++e.cells.toList++cs.drop (off+sz)).toArray):=by
   simp only[execOp,e2,e3];simp only[A1j]at hst⊢;simp[Instr.storeAt,A3x,storeVar,Bf ht,he,hst]
  rw[hex];exact⟨u,_,g1,g2,rfl,rfl⟩
 ·obtain⟨rfl,rfl⟩:=hK;rw[hdst];exact .nil k
end
theorem Azi {m:PH}{g:Nat}{o:Obj}(h:m g=some o):m.upd g o=m:=by
 funext k
 by_cases e:k=g
 ·subst e;rw[Ac,h]
 ·rw[Ad _ _ e]
def Axk (st:List KI×S)(d0 d1:Nat):Bool:=match st with
 |(.code (.region _ ops true)::_,s)=>Av0 ops s [] [0,1,2,3] []&&bef ops ops.size 2 0&&bef ops ops.size 3 0&&bef ops ops.size 3 1&&bef ops ops.size 3 2&&decide ((ops[0]?).bind (·.dst)=some d0/\(ops[1]?).bind (·.dst)=some d1/\(ops[2]?).bind (·.dst)=none/\(ops[3]?).bind (·.dst)=none)&&decide (d0≠d1) &&
  Oo ops 2 ((ops[2]?.getD default).op)&&Oo ops 3 ((ops[3]?.getD default).op)
 |_=>false
def atS (l:List Nat)(st:List KI×S)(f:S->S):List KI×S:=match st with
 |(.code (.region id ops true)::k,s)=>(.reg id ops true l::k,f s)
 |_=>st
section rules
variable {P:Program} [Ba P] {fn:Func} {Post:B0} {st:List KI×S} {u m:PH}
theorem G.back2 (d0 d1:Nat)(k0 k1:Option Nat)(b0 b1:Nat)(t0 t1:TypeId)(e0 e1:Value)(n0 n1:Nat)(h:Axk (adv P st) d0 d1=true)
 (H0:∀ x,Al P (atS [0] (adv P st) (fun s=>s.put (some d1) x))=.load (some k0) (.pointer (some ⟨b0,0,none⟩))) (H1:∀ x,Al P (atS [1] (adv P st) (fun s=>s.put (some d0) x))=.load (some k1) (.pointer (some ⟨b1,0,none⟩)))
 (H2:∀ x,Al P (atS [2] (adv P st) (fun s=>(s.put (some d0) (.v e0)).put (some d1) x))=.store (some n0) (.pointer (some ⟨b0,0,none⟩)) e0) (H3:Al P (atS [3] (adv P st) (fun s=>(s.put (some d0) (.v e0)).put (some d1) (.v e1)))=.store (some n1) (.pointer (some ⟨b1,0,none⟩)) e1)
 (ok0:Aby k0 e0=true) (ok1:Aby k1 e1=true) (hm0:m b0=some (.cells e0.cells t0 (0,0))) (hm1:m b1=some (.cells e1.cells t1 (0,0))) (hz0:e0.cells.size=n0) (hz1:e1.cells.size=n1) (hc0:e0.cells.toList.all Be=true) (hc1:e1.cells.toList.all Be=true)
 (k:G P fn Post (atS [] (adv P st) (fun s=>(s.put (some d0) (.v e0)).put (some d1) (.v e1))) u m):G P fn Post st u m:=by
 refine G.stp ⟨?_⟩;generalize adv P st=st' at h H0 H1 H2 H3 k;unfold Axk at h;split at h
 ·rename_i id ops kk s;simp only[Bool.and_eq_true]at h;obtain⟨⟨⟨⟨⟨⟨⟨⟨h1,b20⟩,b30⟩,b31⟩,b32⟩,hd⟩,hne⟩,w2⟩,w3⟩:=h;obtain⟨e0',e1',e2',e3'⟩:=of_decide_eq_true hd;have hne:=of_decide_eq_true hne;simp only[atS]at H0 H1 H2 H3 k;have hel:∀ (b:Nat) (t:TypeId) (e:Value),m b=some (.cells e.cells t (0,0))->ElP m b 0 e:=fun b t e hb i x hi=>⟨_,_,_,hb,by simpa using hi⟩;have hall:∀ e:Value,e.cells.toList.all Be=true->∀ x∈e.cells.toList,Be x=true:=fun e h=>by rwa[A08]at h
  have hupd:∀ (b:Nat) (t:TypeId) (e:Value) (n:Nat),e.cells.size=n->m b=some (.cells e.cells t (0,0))->m.upd b (.cells (e.cells.toList.take 0++e.cells.toList++e.cells.toList.drop (0+n)).toArray t (0,0))=m:=fun b t e n hn hb=>by
   rw[A1u (by rw[A29,hn];omega)];simp only[A3y,A2t,A1i,Array.toArray_toList];exact Azi hb
  have ps0:∀ s:S,s=s.put (some d1) (s.tm d1):=fun s=>S.ext' rfl (funext fun t=>by
   by_cases e:t=d1
   ·subst e;rw[B5]
   ·rw[Px _ _ _ e]) rfl
  have ps1:∀ s:S,s=s.put (some d0) (s.tm d0):=fun s=>S.ext' rfl (funext fun t=>by
   by_cases e:t=d0
   ·subst e;rw[B5]
   ·rw[Px _ _ _ e]) rfl
  have pc:∀ (s:S) (x y:SV),(s.put (some d1) y).put (some d0) x=(s.put (some d0) x).put (some d1) y:=fun s x y=>Aid s y x (fun j hj=>by cases hj;intro e;cases e;exact hne rfl);have pp:∀ (s:S) (x y:SV),(s.put (some d1) x).put (some d1) y=s.put (some d1) y:=fun s x y=>S.ext' rfl (funext fun t=>by
   by_cases e:t=d1
   ·subst e;rw[B5,B5]
   ·rw[Px _ _ _ e,Px _ _ _ e,Px _ _ _ e]) rfl
  have pp0:∀ (s:S) (x y:SV),(s.put (some d0) x).put (some d0) y=s.put (some d0) y:=fun s x y=>S.ext' rfl (funext fun t=>by
   by_cases e:t=d0
   ·subst e;rw[B5,B5]
   ·rw[Px _ _ _ e,Px _ _ _ e,Px _ _ _ e]) rfl
  have s2:∀ {Fin:S->PH->PH->Prop} (x:SV),Fin ((s.put (some d0) (.v e0)).put (some d1) x) u m->Ob P id ops true Fin [2] ((s.put (some d0) (.v e0)).put (some d1) x) u m:=fun {Fin} x hk =>
   Ob.storeO n0 b0 0 t0 e0.cells.toList e0 (H2 x) e2' w2 (by simpa using hm0) (hall e0 hc0) (by rw[A29];omega) hz0 hc0 (by rw[hupd b0 t0 e0 n0 hz0 hm0];exact hk)
  have n3:Ar4 P id ops [] (Oq P fn Post kk) 1 [3] ((s.put (some d0) (.v e0)).put (some d1) (.v e1)) u m:=fun a ha _=>by
   simp only[A02,A14,or_false]at ha;subst ha;rw[A2v];refine Ob.storeO n1 b1 0 t1 e1.cells.toList e1 H3 e3' w3 (by simpa using hm1) (hall e1 hc1) (by rw[A29];omega) hz1 hc1 ?_;rw[hupd b1 t1 e1 n1 hz1 hm1];exact k.out
  have n23:Ar4 P id ops [] (Oq P fn Post kk) 2 [2,3] ((s.put (some d0) (.v e0)).put (some d1) (.v e1)) u m:=fun a ha hcd=>by
   simp only[A02,A14,or_false]at ha;rcases ha with rfl|rfl
   ·rw[A2v];exact s2 _ n3
   ·have:=hcd 2 mV fV;rw[b32]at this;cases this
  have n13:Ar4 P id ops [] (Oq P fn Post kk) 2 [1,3] (s.put (some d0) (.v e0)) u m:=fun a ha hcd=>by
   simp only[A02,A14,or_false]at ha;rcases ha with rfl|rfl
   ·rw[A2v];exact Ob.loadO k1 b1 0 e1 (H1 _) e1' ok1 (hel b1 t1 e1 hm1) n3
   ·have:=hcd 1 mV fV;rw[b31]at this;cases this
  refine Sym.reg_tree Ba.mx h1 (.nil ?_);show Ar4 P id ops [] (Oq P fn Post kk) 4 [0,1,2,3] s u m;intro a ha hcd;simp only[A02,A14,or_false]at ha;rcases ha with rfl|rfl|rfl|rfl
  ·rw[show [0,1,2,3].erase 0 = [1,2,3] from rfl,ps0 s];refine Ob.loadO k0 b0 0 e0 (H0 _) e0' ok0 (hel b0 t0 e0 hm0) ?_;rw[<-ps0 s];intro a ha hcd;simp only[A02,A14,or_false]at ha;rcases ha with rfl|rfl|rfl
   ·rw[show [1,2,3].erase 1 = [2,3] from rfl];exact Ob.loadO k1 b1 0 e1 (H1 _) e1' ok1 (hel b1 t1 e1 hm1) n23
   ·rw[show [1,2,3].erase 2 = [1,3] from rfl,ps0 (s.put (some d0) (.v e0))];refine s2 _ ?_;rw[<-ps0 (s.put (some d0) (.v e0))];exact n13
   ·have:=hcd 2 mV fV;rw[b32]at this;cases this
  ·rw[show [0,1,2,3].erase 1 = [0,2,3] from rfl,ps1 s];refine Ob.loadO k1 b1 0 e1 (H1 _) e1' ok1 (hel b1 t1 e1 hm1) ?_;rw[<-ps1 s];intro a ha hcd;simp only[A02,A14,or_false]at ha;rcases ha with rfl|rfl|rfl
   ·rw[show [0,2,3].erase 0 = [2,3] from rfl];refine Ob.loadO k0 b0 0 e0 (H0 _) e0' ok0 (hel b0 t0 e0 hm0) ?_;rw[pc];exact n23
   ·have:=hcd 0 mV fV;rw[b20]at this;cases this
   ·have:=hcd 2 mV fV;rw[b32]at this;cases this
  ·have:=hcd 0 mV fV;rw[b20]at this;cases this
  ·have:=hcd 2 mV fV;rw[b32]at this;cases this
 ·cases h
end rules
end
section
variable {es:List Value}{g i:Nat}{l:List Arr}{t:TypeId}
def Asc (g:Nat)(t:TypeId)(es:List Value):Arr:=⟨.slice (some ⟨g,0,none⟩) es.length es.length,t,1,es⟩
def Asu (es:List Value):Prop:=∀ x∈es,Be x=true/\x.cells = #[x]
theorem At8 {m:PH}(hg:m g=none)(ho:Asu es):(Asc g t es).At m (m.upd g (.cells es.toArray t (0,0))):=by
 refine⟨Axp ho,.inr ⟨g,es.length,[],hg,?_,rfl,A0w _,?_,mV⟩⟩
 ·show _=m.upd g (.cells (Az es++[]).toArray t (0,0));rw[Ark fun x hx=>(ho x hx).2,A1i]
 ·show (Az es++[]).length=es.length*1;rw[Ark fun x hx=>(ho x hx).2,A1i,Nat.mul_one]
theorem Awk {m0 m:PH}(h:(Asc g t es).At m0 m)(ho:Asu es)(hn:es≠[]):m0 g=none/\m=m0.upd g (.cells es.toArray t (0,0)):=by
 rcases h.2 with ⟨h,_,_⟩|⟨g',cap,rest,e1,e2,e3,e4,e5,_⟩
 ·cases h
 ·simp only[Asc,A09,Option.some.injEq,Addr.mk.injEq]at e3;obtain⟨⟨rfl,_,_⟩,_,rfl⟩:=e3;simp only[Asc]at e2 e5;rw[Ark fun x hx=>(ho x hx).2]at e2 e5;have:rest = []:=by
   refine List.eq_nil_of_length_eq_zero ?_;rw[A0z]at e5;omega
  subst this;rw[A1i]at e2;exact⟨e1,e2⟩
theorem Ars {m:PH}(h:Bag m l)(hi:l[i]?=some (Asc g t es))(ho:Asu es)(hn:es≠[]):m g=some (.cells es.toArray t (0,0)):=by
 obtain⟨m0,h1,_⟩:=h.focus i hi;rw[(Awk h1 ho hn).2,Ac]
theorem Ari {m:PH}{i g j:Nat}{x:Value}(h:Bag m l)(hi:l[i]?=some (Asc g t es))(hj:es[j]?=some x):ElP m g (0+j*1) x:=h.el i hi rfl hj
theorem At9 {m:PH}(h:Bag m l)(hi:l[i]?=some (Asc g t es))(ho:Asu es)(hn:es≠[]):ElP m g 0 (.agg es.toArray):=fun j x hj=>by
 refine⟨_,_,_,Ars h hi ho hn,?_⟩;simpa[A1e] using hj
section
variable [Cc] [Dy] {P:Program} [Ba P] {fn:Func} {Post:B0} {st:List KI×S} {u m:PH}
theorem G.storeOne {l:List Arr}(i g:Nat)(t:TypeId)(n:Nat)(es:List Value)(e:Value)(h:Al P (adv P st)=.store (some n) (.pointer (some ⟨g,0,none⟩)) e)(hb:Bag m l)(hi:l[i]?=some (Asc g t es))(ho:Asu es)(hn:es≠[])(hl:es.length=n)(he:e.cells.size=n)(hc:Asu e.cells.toList)
 (k:∀ m',Bag m' (l.set i (Asc g t e.cells.toList))->G P fn Post (nx (adv P st) undef) u m'):G P fn Post st u m:=by
 obtain⟨m0,h1,hput⟩:=hb.focus i hi;obtain⟨e1,e2⟩:=Awk h1 ho hn;refine G.storeM n g 0 t es e h (by rw[e2,Ac]) (fun x hx=>(ho x hx).1) oV he (A08.2 fun x hx=>(hc x hx).1) ?_;have e3:m.upd g (.cells (es.take 0++e.cells.toList++es.drop (0+n)).toArray t (0,0))=m0.upd g (.cells e.cells.toList.toArray t (0,0)):=by
  rw[e2,Dh,A1u oV];simp
 rw[e3];exact k _ (hput _ _ (At8 e1 hc))
end
def Aw6:Value:=.agg #[.slice none 0 0,.slice none 0 0,.slice none 0 0]
def Ay9 (F:List Ao)(C:CF)(k:Nat)(q:Rat)(r:Value)(u m:PH):Prop :=
 (∃ e:Int,r=.tuple #[Aw6,.int .i64 e]/\(e=12/\k=0\/e=3/\k≠0/\∃ P,R1 F C P/\11<P.length)) \/
 (k≠0/\∃ (P:List Par) (pa:Option Addr) (pc:Nat) (xa:Option Addr) (xc:Nat) (ra:Option Addr) (rc:Nat) (rows:List (Value×List Value)),R1 F C P/\P.length<=11 /\
  r=.tuple #[.agg #[.slice pa P.length pc,.slice xa (P.length+1) xc,.slice ra (P.length+1) rc],.int .i64 0]/\Ab u (.slice pa P.length pc) 2 (P.map An)/\rows.map (·.2)=(Gl q (M8 C P) (P.length+1)).map txV /\
  Bag m (E8 (.slice ra (P.length+1) rc,txV ((Ak P).map (Ay C)))::oT (.slice xa (P.length+1) xc) rows::rows.map E8))
theorem Aqw {a b c:Option Addr}{n1 c1 n2 c2 n3 c3:Nat}:Asu [.slice a n1 c1,.slice b n2 c2,.slice c n3 c3]:=fun x hx=>by
 simp only[A02,A14,or_false]at hx;rcases hx with rfl|rfl|rfl<;>exact⟨rfl,rfl⟩
theorem Aqs {z:Int}:Asu [.int .i64 z]:=fun x hx=>by
 simp only[A02,A14,or_false]at hx;subst hx;exact⟨rfl,rfl⟩
theorem Avx {m:PH}{gn ge:Nat}{e:Int}(hne:ge≠gn)(he:e≠0)(hm:m ge=some (.cells #[.int .i64 e] 43 (0,0))):ElP (Arh m gn e) gn 0 Aw6/\ElP (Arh m gn e) ge 0 (.int .i64 e):=by
 unfold Arh;rw[if_neg he];refine⟨fun i x hi=>⟨_,_,_,Ac _ _ _,by simpa[Aw6,A1e] using hi⟩,fun i x hi=>⟨#[.int .i64 e],_,_,by rw[Ad _ _ hne,hm],by simpa[A1e] using hi⟩⟩
section
variable {u:PH} {v cv:Value} {T:List (List UInt8×Nat)} {R:List Bk} {F:List Ao} {lab:Int} {C:CF} {K k:Nat} {q:Rat}
theorem Arn.cellDe (h:Arn u v cv T R F lab C K k)(e f:Option Par):De 39 18 (As C e f):=by
 cases e<;>cases f
 ·show De 39 18 C.c;rw[h.mom.c];exact (De.nat (a:=2) (by have:=h.mom.lt;omega)).mono oV oV
 ·exact h.mom.s _
 ·exact h.mom.s _
 ·exact h.mom.t _
theorem Au4 (ht:Lb u)(h:Arn u v cv T R F lab C K k)(hq:Avj q) :
 Ai prog 68 [v,cv,.string (mkS (Af q))] u PH.mt fun r u' m'=>Ay9 F C k q r u' m':=by
 have hbg:=Atm h hq;have hcd:=h.cellDe;obtain⟨xa,xc,xb,xd,xe,xf,rfl,_⟩:=id h.sch;obtain⟨a1,n1,c1,a2,n2,c2,rfl⟩:=id h.cof.opn;have h24:=h.p24;refine Ai.o func68 ?_;refine G.go 7 ?_;refine G.pub 2 103 [.slice none 0 0,.slice none 0 0,.slice none 0 0] kV kV ?_;intro gn hgu hgm;refine G.pub 3 43 [.int .i64 0] kV kV ?_;intro ge hgeu hgem;have hb1:Bag ((PH.mt.upd gn (.cells #[.slice none 0 0,.slice none 0 0,.slice none 0 0] 103 (0,0))).upd ge (.cells #[.int .i64 0] 43 (0,0))) [Asc ge 43 [.int .i64 0],Asc gn 103 [.slice none 0 0,.slice none 0 0,.slice none 0 0]] :=
  ⟨_,At8 hgem Aqs,PH.mt,At8 hgm Aqw,trivial⟩
 have hne:ge≠gn:=fun e=>by rw[e,Ac]at hgem;cases hgem
 refine G.go 1 ?_;refine G.off (d:=9) (fn:=.func 143) (vs:=[.pointer (some ⟨ge,0,none⟩),.pointer (some ⟨gn,0,none⟩)]) kV kV kV ?_;obtain⟨B,hB⟩:∃ B:Dy,B=⟨[Ath (.func 143) [.pointer (some ⟨ge,0,none⟩),.pointer (some ⟨gn,0,none⟩)]]⟩:=⟨_,rfl⟩;rw[<-hB];have hdl:B.dl = [Ath (.func 143) [.pointer (some ⟨ge,0,none⟩),.pointer (some ⟨gn,0,none⟩)]]:=by subst hB;rfl
 clear hB;have hinv:∀ w,(invoke (Ath (.func 143) [.pointer (some ⟨ge,0,none⟩),.pointer (some ⟨gn,0,none⟩)]).target (Ath (.func 143) [.pointer (some ⟨ge,0,none⟩),.pointer (some ⟨gn,0,none⟩)]).args).run prog w=.ok (.enter 143 [Value.pointer (some ⟨ge,0,none⟩),.pointer (some ⟨gn,0,none⟩)].toArray) w:=fun w=>by
  simp[invoke,Ath]
 refine G.callO _ _ kV call144 hbg ?_;rintro v1 u1 mc l1 ⟨P,pa,pc,ya,yc,ra,rc,rows,hPL,rfl,hL,hrows,hbag⟩ hdis;have hP24:=h24 P hPL;have hb2:=Bag.perm (List.perm_append_comm) (Bag.or hb1 hbag hdis);rw[A39,A39,A2t]at hb2;clear hb1 hbag hdis;refine G.storeOne 1 gn 103 3 [.slice none 0 0,.slice none 0 0,.slice none 0 0] (.agg #[.slice pa P.length pc,.slice ya (P.length+1) yc,.slice ra (P.length+1) rc]) kV hb2 rfl Aqw mV rfl rfl Aqw ?_;intro m3 hb3;refine G.storeOne 0 ge 43 1 [.int .i64 0] (.int .i64 (if k=0 then 12 else 0)) kV hb3 rfl Aqs mV rfl rfl Aqs ?_;intro m4 hb4;clear hb2 hb3;simp only[A2c,A2k,A1e]at hb4;refine G.loadM none ge 0 (.int .i64 (if k=0 then 12 else 0)) kV rfl (Ari (j:=0) hb4 (i:=0) rfl rfl) ?_;by_cases h0:k=0
 ·rw[if_pos h0]at hb4⊢;refine G.nT 12 0 ?_;have hmn:=Ars hb4 (i:=1) rfl Aqw mV;have hme:=Ars hb4 (i:=0) rfl Aqs mV;refine G.back2 19 20 (some 3) none gn ge 103 43 (.agg #[.slice pa P.length pc,.slice ya (P.length+1) yc,.slice ra (P.length+1) rc]) (.int .i64 12) 3 1 kV (fun _=>kV) (fun _=>kV) (fun _=>kV) kV rfl rfl hmn hme rfl rfl rfl rfl ?_;refine G.retD hdl (K:=fun u' m'=>u'=u1/\m'=Arh m4 gn 12) rfl hinv kV (Au8 hme hmn rfl rfl rfl) ?_;rintro u' m' _ ⟨rfl,rfl⟩;obtain⟨q1,q2⟩:=Avx (e:=12) hne fV hme;exact⟨[Aw6,.int .i64 12],PH.mt,⟨.inr ⟨6,103,gn,0,some 3,rfl,kV,kV,rfl,q1⟩,.inr ⟨7,43,ge,0,none,rfl,kV,kV,rfl,q2⟩,trivial⟩,PH.mt_le _,.inl ⟨12,rfl,.inl ⟨rfl,h0⟩⟩⟩
 rw[if_neg h0]at hb4⊢;refine G.nF 0 0 ?_;refine G.f 103 gn 0 1 1 ?_;refine G.loadM none gn (0+1) (.slice ya (P.length+1) yc) kV rfl (Ari (j:=1) hb4 (i:=1) rfl rfl) ?_;by_cases h12:P.length+1>12
 ·refine G.gT ((P.length+1:Nat):Int) 12 ?_;refine G.loadM (some 3) gn 0 (.agg #[.slice pa P.length pc,.slice ya (P.length+1) yc,.slice ra (P.length+1) rc]) kV rfl (At9 hb4 (i:=1) rfl Aqw mV) ?_;refine G.storeOne 1 gn 103 3 _ (.agg #[.slice pa P.length pc,.slice ya (P.length+1) yc,.slice ra (P.length+1) rc]) kV hb4 rfl Aqw mV rfl rfl Aqw ?_;intro m5 hb5;refine G.storeOne 0 ge 43 1 [.int .i64 0] (.int .i64 3) kV hb5 rfl Aqs mV rfl rfl Aqs ?_;intro m6 hb6;simp only[A2c,A2k,A1e]at hb6;have hmn:=Ars hb6 (i:=1) rfl Aqw mV;have hme:=Ars hb6 (i:=0) rfl Aqs mV;refine G.retD hdl (K:=fun u' m'=>u'=u1/\m'=Arh m6 gn 3) rfl hinv kV (Au8 hme hmn rfl rfl rfl) ?_;rintro u' m' _ ⟨rfl,rfl⟩;obtain⟨q1,q2⟩:=Avx (e:=3) hne fV hme;exact⟨[Aw6,.int .i64 3],PH.mt,⟨.inr ⟨6,103,gn,0,some 3,rfl,kV,kV,rfl,q1⟩,.inr ⟨7,43,ge,0,none,rfl,kV,kV,rfl,q2⟩,trivial⟩,PH.mt_le _,.inl ⟨3,rfl,.inr ⟨rfl,h0,P,hPL,oV⟩⟩⟩
 refine G.gF ((P.length+1:Nat):Int) 12 ?_;refine G.f 103 gn 0 0 0 ?_;refine G.loadM none gn (0+0) (.slice pa P.length pc) kV rfl (Ari (j:=0) hb4 (i:=1) rfl rfl) ?_;have hX:=Rt C P;generalize hXe:M8 C P=X at hrows hX;have hXc:∀ i j,i<P.length+1->j<P.length+1->De 39 18 (en X i j):=fun i j hi hj=>by rw[<-hXe,Adr C P hi hj];exact hcd _ _
 refine G.l (ι:=Nat×List (Value×List Value)) (fun i=>[(2,tV (Af q)),(6,.v (.pointer (some ⟨gn,0,none⟩))),(7,.v (.pointer (some ⟨ge,0,none⟩))),(28,iV P.length),(29,iV i.1)]) (fun _=>[])
  (fun i u' m'=>i.1<=P.length/\i.2.map (·.2)=(Gl q X (i.1+1)).map txV/\Bag m' (Asc ge 43 [.int .i64 0]::Asc gn 103 [.slice pa P.length pc,.slice ya (P.length+1) yc,.slice ra (P.length+1) rc]::E8 (.slice ra (P.length+1) rc,txV ((Ak P).map (Ay C)))::oT (.slice ya (P.length+1) yc) i.2::i.2.map E8)) (fun i=>P.length-i.1)
  (0,rows) ⟨A1m _,hrows,hb4⟩ ?_
 clear hb4 hrows;rintro J ⟨i,rows⟩ hJ u5 m5 l5 ⟨hi,hrows,hbag⟩;simp only at hi hrows hbag hJ;obtain⟨mE,hE,mN,hN,hR⟩:=id hbag;have hle:PH.le mN m5:=(Apn hN).trans (Apn hE);have hXi:=Asg (q:=q) hX (i+1) oV;by_cases hlt:i<P.length
 ·refine G.lT (i:Int) (P.length:Int) ?_;have hrl:rows.length=P.length+1:=by have:=congrArg List.length hrows;rw[A0p,A0p,hXi.1]at this;exact this
  obtain⟨go,co,eo⟩:=hR.ptr 1 rfl (fun e=>by
   have:(rows.map (·.1)).length=0:=by rw[show rows.map (·.1) = [] from e];rfl
   rw[A0p]at this;omega)
  have eo2:(A06 ya (P.length+1) yc)=.slice (some ⟨go,0,none⟩) (P.length+1) co:=by
   have e1:(oT (.slice ya (P.length+1) yc) rows).v=A06 ya (P.length+1) yc:=rfl;rw[e1]at eo;rw[eo];have:(oT (.slice ya (P.length+1) yc) rows).es.length=P.length+1:=by show (rows.map (·.1)).length=_;rw[A0p,hrl]
   rw[this]
  cases eo2;obtain⟨gi,ci,hri,e1,e2⟩:=Ap3 hR hrows hXi (show i+1<P.length+1 by omega);have hen:gR (gM (Gl q X (i+1)) (i+1)) (i+1)=en X (i+1) (i+1):=by
   have:=Xd (q:=q) hX (i+1) oV (i+1) (i+1) oV oV;rw[if_neg oV]at this;show en (Gl q X (i+1)) (i+1) (i+1)=_;rw[this];grind
  have hd:=hXc (i+1) (i+1) oV oV;have e2':=e2 (i+1) oV;rw[hen]at e2';have hload:ElP m5 gn (0+1) (.slice (some ⟨go,0,none⟩) (P.length+1) yc):=Ari (j:=1) hbag (i:=1) rfl rfl;refine G.f 103 gn 0 1 1 ?_;refine G.loadM none gn (0+1) (.slice (some ⟨go,0,none⟩) (P.length+1) yc) kV rfl hload ?_;refine G.i i ?_;refine G.a go 0 (P.length+1) yc (i+1) 1 oV ?_;refine G.loadM none go (0+(i+1)*1) (.slice (some ⟨gi,0,none⟩) (P.length+1) ci) kV rfl (e1.mono hle) ?_;refine G.i i ?_;refine G.f 103 gn 0 1 1 ?_;refine G.loadM none gn (0+1) (.slice (some ⟨go,0,none⟩) (P.length+1) yc) kV rfl hload ?_;refine G.i i ?_;refine G.a go 0 (P.length+1) yc (i+1) 1 oV ?_;refine G.loadM none go (0+(i+1)*1) (.slice (some ⟨gi,0,none⟩) (P.length+1) ci) kV rfl (e1.mono hle) ?_;refine G.i i ?_;refine G.a gi 0 (P.length+1) ci (i+1) 1 oV ?_;refine G.loadM none gi (0+(i+1)*1) (.string (mkS (Af (en X (i+1) (i+1))))) kV rfl (e2'.mono hle) ?_;have ha:=hd.add hq.de (f:=42) oV oV;refine G.c call145 (Ayq ((ht.mono l1).mono l5) (hd.tx oV oV oV oV) hq.tx (ha.tx oV oV oV oV)) ?_;rintro v6 u6 l6 rfl;refine G.a gi 0 (P.length+1) ci (i+1) 1 oV ?_;obtain⟨m0,hx0,hput⟩:=hbag.focus (i+5) (x:=E8 (.slice (some ⟨gi,0,none⟩) (P.length+1) ci,txV (gM (Gl q X (i+1)) (i+1)))) (by simp[hri]);rw[Mb]at hx0;have hel:(txV (gM (Gl q X (i+1)) (i+1))).length=P.length+1:=by rw[Fu,hXi.2 (i+1) oV]
  refine G.storeA 1 m0 (txV (gM (Gl q X (i+1)) (i+1))) gi (P.length+1) ci (i+1) (.string (mkS (Af (en X (i+1) (i+1)+q)))) kV hx0 oV rfl rfl ?_;intro m7 hA7;have es:(txV (gM (Gl q X (i+1)) (i+1))).set (i+1) (.string (mkS (Af (en X (i+1) (i+1)+q))))=txV ((gM (Gl q X (i+1)) (i+1)).set (i+1) (gR (gM (Gl q X (i+1)) (i+1)) (i+1)+q)):=by
   rw[hen];unfold txV;rw[A27]
  rw[es]at hA7;have hb7:=hput (E8 (.slice (some ⟨gi,0,none⟩) (P.length+1) ci,txV ((gM (Gl q X (i+1)) (i+1)).set (i+1) (gR (gM (Gl q X (i+1)) (i+1)) (i+1)+q)))) m7 hA7;have hb7':Bag m7 (Asc ge 43 [.int .i64 0]::Asc gn 103 [.slice pa P.length pc,.slice (some ⟨go,0,none⟩) (P.length+1) yc,.slice ra (P.length+1) rc]::E8 (.slice ra (P.length+1) rc,txV ((Ak P).map (Ay C))) ::
   oT (.slice (some ⟨go,0,none⟩) (P.length+1) yc) (rows.set (i+1) (.slice (some ⟨gi,0,none⟩) (P.length+1) ci,txV ((gM (Gl q X (i+1)) (i+1)).set (i+1) (gR (gM (Gl q X (i+1)) (i+1)) (i+1)+q))))::(rows.set (i+1) (.slice (some ⟨gi,0,none⟩) (P.length+1) ci,txV ((gM (Gl q X (i+1)) (i+1)).set (i+1) (gR (gM (Gl q X (i+1)) (i+1)) (i+1)+q)))).map E8):=by
   rw[Aoe hri,A27];simpa using hb7
  refine G.storeOne 0 ge 43 1 [.int .i64 0] (.int .i64 0) kV hb7' rfl Aqs mV rfl rfl Aqs ?_;intro m8 hb8;simp only[A2k,A1e]at hb8;refine G.loadM none ge 0 (.int .i64 0) kV rfl (Ari (j:=0) hb8 (i:=0) rfl rfl) ?_;refine G.nF 0 0 ?_;refine G.i i ?_;refine G.b (hJ (i+1,rows.set (i+1) (.slice (some ⟨gi,0,none⟩) (P.length+1) ci,txV ((gM (Gl q X (i+1)) (i+1)).set (i+1) (gR (gM (Gl q X (i+1)) (i+1)) (i+1)+q)))) _ _ _ cV (l5.trans l6) ⟨dV,?_,hb8⟩ dV);dsimp only;rw[A27,hrows,<-A27];rfl
 obtain rfl:i=P.length:=oV
 refine G.lF (P.length:Int) (P.length:Int) ?_;refine G.loadM (some 3) gn 0 (.agg #[.slice pa P.length pc,.slice ya (P.length+1) yc,.slice ra (P.length+1) rc]) kV rfl (At9 hbag (i:=1) rfl Aqw mV) ?_;refine G.storeOne 1 gn 103 3 _ (.agg #[.slice pa P.length pc,.slice ya (P.length+1) yc,.slice ra (P.length+1) rc]) kV hbag rfl Aqw mV rfl rfl Aqw ?_;intro m6 hb6;refine G.storeOne 0 ge 43 1 [.int .i64 0] (.int .i64 0) kV hb6 rfl Aqs mV rfl rfl Aqs ?_;intro m7 hb7;simp only[A2c,A2k,A1e]at hb7;have hmn:=Ars hb7 (i:=1) rfl Aqw mV;have hme:=Ars hb7 (i:=0) rfl Aqs mV;refine G.retD hdl (K:=fun u' m'=>u'=u5/\m'=Arh m7 gn 0) rfl hinv kV (Au8 hme hmn rfl rfl rfl) ?_;intro u' m' _ hK;have hm2:m'=m7:=hK.2.trans (if_pos rfl);rw[hK.1,hm2];obtain⟨mE',hE',mN',hN',hR'⟩:=id hb7;have q1:=At9 hb7 (i:=1) rfl Aqw mV;have q2:=Ari (j:=0) hb7 (i:=0) rfl rfl;exact⟨[.agg #[.slice pa P.length pc,.slice ya (P.length+1) yc,.slice ra (P.length+1) rc],.int .i64 0],mN',⟨.inr ⟨6,103,gn,0,some 3,rfl,kV,kV,rfl,q1⟩,.inr ⟨7,43,ge,0,none,rfl,kV,kV,rfl,q2⟩,trivial⟩,(Apn hN').trans (Apn hE'),
  .inr ⟨h0,P,pa,pc,ya,yc,ra,rc,rows,hPL,oV,rfl,hL.mono l5,by rw[hXe];exact hrows,hR'⟩⟩
end
end
section
variable {m0:Rat}{qs:List Rat}
theorem Awt {u:PH}{q:Rat}(h:Tx q):Fn0 prog 153 [.string (mkS (Af q))] u fun v _=>v=.bool false:=by
 refine Fn0.o func153 ?_;refine G.c call154 (Aqm h) ?_;rintro v1 u1 l1 rfl;exact G.r (.bool false) ⟨rfl,rfl⟩
theorem Aws {u:PH}{pv lv:Value}{P:List Par}(hP:Ab u pv 2 (P.map An))(hL:Fe u lv ((m0::qs).map Af))(hs:Ef A8 P)(hlen:qs.length=P.length)(hl:P.length<=1000)(h0:Tx m0)(hT:∀ q∈qs,Tx q) :
 Fn0 prog 70 [pv,lv] u fun r u'=>∃ mv,r=.tuple #[mv,.int .i64 0]/\Ar9 u' mv m0 (P.zip qs):=by
 have hasc:=Wq hP hs oV;obtain⟨a,c,rfl⟩:=hP.opn;obtain⟨la,lc,rfl⟩:=Ab.opn hL;have hn:(Cs ((m0::qs).map Af)).length=P.length+1:=by rw[J7,A0p,A2n,hlen]
 rw[A0p]at hP hasc⊢;rw[hn]at hL⊢;have hTx:∀ i q,(m0::qs)[i]?=some q->Tx q:=fun i q hq=>by
  rcases A02.1 (A1b hq) with rfl|h
  ·exact h0
  ·exact hT q h
 refine Fn0.o func70 ?_;refine G.c call131 hasc ?_;rintro v1 u1 l1 rfl;refine G.p (P.length:Int) 1 ((P.length+1:Nat):Int) ?_;refine G.nF ((P.length+1:Nat):Int) ((P.length+1:Nat):Int) ?_;refine G.c call152 (Arg (fid:=153) (Ab.mono hL l1) (by rw[A0p,A2n,hlen];omega) call153 (fun t ht u' _=>?_)) ?_
 ·obtain⟨q,hq',rfl⟩:=A0u.1 ht;obtain⟨i,hi⟩:=List.mem_iff_getElem?.1 hq';exact Awt (hTx i q hi)
 rintro v2 u2 l2 rfl;have le2:=l1.trans l2;obtain⟨b,o,rfl,e⟩:=Ab.at' (Ab.mono hL le2) (j:=0) (e:=.string (mkS (Af m0))) rfl;refine G.a b o (P.length+1) lc 0 1 oV ?_;refine G.lU none b (o+0*1) (.string (mkS (Af m0))) e ?_;refine G.l (ι:=Nat×(Option Addr×Nat)) (fun i=>[(1,sV (some ⟨b,o,none⟩) (P.length+1) lc),(4,.p 0 0),(6,.p 7004 0),(30,sV a P.length c),(31,iV P.length),(32,iV i.1)]) (fun i=>[(0,⟨42,[tV [],sV none 0 0]⟩),(7004,⟨42,[tV (Af m0),sV i.2.1 i.1 i.2.2]⟩)])
  (fun i u' m'=>i.1<=P.length/\Ae PH.mt m' (.slice i.2.1 i.1 i.2.2) 81 3 (((P.zip qs).take i.1).map A5)) (fun i=>P.length-i.1) (0,none,0) ⟨oV,Ae.nil _ _ _⟩ ?_
 rintro J ⟨i,pa,pc⟩ hJ u3 m3 l3 ⟨hi3,hA⟩;simp only at hi3 hA hJ;have le3:=le2.trans l3;have hzl:(P.zip qs).length=P.length:=by rw[Bby];omega
 by_cases hlt:i<P.length
 ·refine G.lT (i:Int) (P.length:Int) ?_;obtain⟨p,hpi⟩:∃ p,P[i]?=some p:=⟨_,A0n hlt⟩;obtain⟨q,hqi⟩:∃ q,qs[i]?=some q:=⟨_,A0n oV⟩;have hz:(P.zip qs)[i]?=some (p,q):=by rw[List.getElem?_zip_eq_some];exact⟨hpi,hqi⟩
  have htk:(P.zip qs).take (i+1)=(P.zip qs).take i++[(p,q)]:=by rw[A1c,hz];rfl
  obtain⟨bp,op,rfl,ep⟩:=Ab.at' (hP.mono le3) (j:=i) (e:=An p) (by simp[hpi]);obtain⟨p1,p2⟩:=p;refine G.a bp op P.length c i 2 hlt ?_;refine G.lU (some 2) bp (op+i*2) (.agg #[.int .i64 p1,.string (mkS p2)]) ep ?_;obtain⟨b2,o2,e0,e2⟩:=Ab.at' (Ab.mono hL le3) (j:=i+1) (e:=.string (mkS (Af q))) (by unfold Cs;rw[A0v,A0v,A38,hqi];rfl);cases e0;refine G.i i ?_;refine G.a b o (P.length+1) lc (i+1) 1 oV ?_;refine G.lU none b (o+(i+1)*1) (.string (mkS (Af q))) e2 ?_;refine G.B 81 3 40 (.agg #[.int .i64 0,.string (mkS []),.string (mkS [])]) [A5 ((p1,p2),q)] (Ot _) ?_;intro g4 u4 l4 e4;refine G.k 81 3 40 (.agg #[.int .i64 0,.string (mkS []),.string (mkS [])]) PH.mt (((P.zip qs).take i).map A5) [A5 ((p1,p2),q)] (.slice pa i pc) g4 0 1 1 hA e4 (Ot _) ?_;intro v5 m5 hA5;have e6:((P.zip qs).take i).map A5++[A5 ((p1,p2),q)]=((P.zip qs).take (i+1)).map A5:=by rw[htk];simp
  rw[e6]at hA5;obtain⟨a5,c5,rfl⟩:=hA5.shape;have el:(((P.zip qs).take (i+1)).map A5).length=i+1:=by rw[A0p,A00];omega
  rw[el]at hA5⊢;refine G.i i ?_;exact G.b (hJ (i+1,a5,c5) _ _ _ cV (l3.trans l4) ⟨dV,hA5⟩ dV)
 ·obtain rfl:i=P.length:=oV
  refine G.lF (P.length:Int) (P.length:Int) ?_;rw[A03 oV]at hA;refine G.give _ _ _ kV hA (fun g=>.inl rfl) ?_;intro u6 l6 hF;exact G.r (.tuple #[.agg #[.string (mkS (Af m0)),.slice pa P.length pc],.int .i64 0]) ⟨rfl,_,rfl,⟨pa,pc,by rw[hzl],by rw[hzl];exact hF⟩⟩
section
variable {P:List Par} {C:CF} {q:Rat}
theorem Ayl (hnd:P.Nodup)(hc:0<C.c)(hq:0<q)(hpsd:∀ z,0<=Bm z P C)(y:Nat->Rat)(h:∀ i,i<(Pu C P q).length->Dm (Pu C P q).length (fun j=>en (Pu C P q) i j*y j)=0):∀ j,j<(Pu C P q).length->y j=0:=by
 have hA:=N4 (P:=P) (C:=C) (q:=q);have hb:∀ j,j<P.length+1->cfE (y 0) (P.zip ((A1q P.length).map fun j=>y (j+1))) ((Ak P).getD j none)=y j:=fun j hj=>by
  rw[Ag6 hnd mV j hj];cases j with
  |zero=>rfl
  |succ j=>exact Ads (by rw[A38,A0v,A52 oV];rfl)
 generalize cfE (y 0) (P.zip ((A1q P.length).map fun j=>y (j+1)))=bE at hb;have hz:∀ e∈Ak P,bE e=0:=Aji hq hc hpsd fun e he=>by
  obtain⟨i,hi,rfl⟩:=A2u.1 he;have hei:(Ak P)[i]=(Ak P).getD i none:=by rw[A0o,A0n hi];rfl
  rw[hei];rw[Bo]at hi;have h1:=h i (by rw[hA.1];exact hi);rw[hA.1,Er (g:=fun j=>As C ((Ak P).getD i none) ((Ak P).getD j none)*bE ((Ak P).getD j none)+(if i=j/\0<i then q else 0)*y j) (fun j hj=>by
   rw[Air hi hj,hb j hj];grind),Y4,Aac]at h1
  have hpen:Kp q bE ((Ak P).getD i none)=if i<P.length+1/\0<i then q*y i else 0:=by
   cases i with
   |zero=>rw[if_neg oV];rfl
   |succ j =>
    rw[if_pos ⟨hi,oV⟩,<-hb _ hi];unfold Ak;rw[List.getD_cons_succ,A0o,A0v,A0n oV];rfl
  rw[R3 _ (Ak P) none,Bo,hpen];exact h1
 intro j hj;rw[hA.1]at hj;rw[<-hb j hj];exact hz _ (Akj hj)
structure Ax1 (F:List Ao)(C:CF)(q:Rat):Prop where
 a:∀ P,R1 F C P->∀ r∈Pu C P q,∀ x∈r,Th x
 b:∀ P,R1 F C P->∀ x∈Y0 C P,Th x
 psd:∀ P z,0<=Bm z P C
 sol:∀ P,R1 F C P->P.length<=11->0<C.c->∀ y:Nat->Rat,Abv (Pu C P q).length (Nh (Pu C P q) (Y0 C P)) y->∀ i,i<(Pu C P q).length->Tx (y i)
theorem Av3 (h:∀ r∈Pu C P q,∀ x∈r,Th x)(hP:P.length<=11):Sq (Pu C P q):=by
 have hA:=N4 (P:=P) (C:=C) (q:=q);refine⟨by rw[hA.1];omega,fun r hr=>?_,fun r hr x hx=>(h r hr x hx).tx⟩;obtain⟨i,hi,rfl⟩:=A2u.1 hr;have:=hA.2 i (by have:=hA.1;omega);rw[N6 hi]at this;rw[this,hA.1]
theorem Ays (hs:Ef A8 P)(hl:qs.length=P.length)(h0:Tx m0)(hT:∀ x∈qs,Tx x):Ew P m0 (P.zip qs):=by
 have e:(P.zip qs).map (·.1)=P:=List.map_fst_zip oV;refine⟨h0,fun x hx=>hT _ (List.of_mem_zip (show (x.1,x.2)∈P.zip qs from hx)).2,by rw[e];exact hs,fun x hx=>?_,gV⟩;rw[<-e];exact List.mem_map_of_mem hx
end
section
variable {u:PH} {v cv:Value} {T:List (List UInt8×Nat)} {R:List Bk} {F:List Ao} {lab:Int} {C:CF} {K k:Nat} {q:Rat}
def Aw7:Value:=.agg #[.string (mkS []),.slice none 0 0]
def Azz (F:List Ao)(C:CF)(k:Nat)(q:Rat)(r:Value)(u:PH):Prop :=
 (∃ e:Int,r=.tuple #[Aw7,.int .i64 e]/\(e=12/\k=0\/e=3/\k≠0/\∃ P,R1 F C P/\11<P.length)) \/
 (k≠0/\∃ P mv m0 qs,R1 F C P/\P.length<=11/\qs.length=P.length/\r=.tuple #[mv,.int .i64 0]/\Ar9 u mv m0 (P.zip qs)/\Ew P m0 (P.zip qs)/\Fv P C q (cfE m0 (P.zip qs)))
theorem Asp (ht:Lb u)(h:Arn u v cv T R F lab C K k)(hq:Avj q)(ho:Ax1 F C q) :
 Fn0 prog 22 [v,cv,.string (mkS (Af q))] u fun r u'=>Azz F C k q r u':=by
 have hsy:=(Au4 ht h hq).giveAll;have hmom:=h.mom;obtain⟨xa,xc,xb,xd,xe,xf,rfl,_⟩:=id h.sch;obtain⟨a1,n1,c1,a2,n2,c2,rfl⟩:=id h.cof.opn;refine Fn0.o func22 ?_;refine G.c call68 hsy ?_;rintro v1 u1 l1 ⟨u0,m0',hl0,hlm,⟨e,rfl,he⟩|⟨hk,P,pa,pc,ya,yc,ra,rc,rows,hPL,hP11,rfl,hL,hrows,hbag⟩⟩
 ·refine G.nT' e 0 (by rcases he with ⟨h,_⟩|⟨h,_⟩<;>omega) ?_
  exact G.r (.tuple #[Aw7,.int .i64 e]) ⟨rfl,.inl ⟨e,rfl,he⟩⟩
 refine G.nF 0 0 ?_;have hM:N7 u1 (.slice ya (P.length+1) yc) (Jx (Pu C P q)):=Aku (v:=.bool true) hbag hrows hlm;obtain⟨m0,hx0,_⟩:=hbag.focus 0 rfl;rw[Mb]at hx0;have hR:Fe u1 (.slice ra (P.length+1) rc) ((Y0 C P).map Af):=by
  unfold Fe Y0;rw[<-Zk];exact hx0.list hlm
 have hA:=N4 (P:=P) (C:=C) (q:=q);have hss:=hPL.1;have hnd:=hss.nodup Dp;have hcp:=hmom.cpos hk;have hsQ:=Av3 (ho.a P hPL) hP11;refine G.c call69 (Azf (A:=Pu C P q) (b:=Y0 C P) (ht.mono l1) hM hR hsQ (by rw[Ah6,hA.1]) (by rw[hA.1];omega) (ho.a P hPL) (ho.b P hPL) (Ayl hnd hcp hq.pos (ho.psd P)) (ho.sol P hPL hP11 hcp)) ?_;rintro v2 u2 l2 ⟨qs,lv,rfl,hql,hsol,hS⟩;rw[hA.1]at hql;cases qs with
 |nil=>simp at hql
 |cons c0 qs =>
  have hlen:qs.length=P.length:=by simpa using hql
  have hT:∀ x∈c0::qs,Tx x:=fun x hx=>by
   obtain⟨j,hj,rfl⟩:=A2u.1 hx;rw[<-Mj hj];exact ho.sol P hPL hP11 hcp _ hsol j (by rw[hA.1];simp at hj;omega)
  have hn:=Qb hsQ hsol (Ag6 hnd hlen);have hok:=Ays hss hlen (hT c0 mV) (fun x hx=>hT x (by simp[hx]));obtain⟨la,lc,hlv⟩:=Ab.opn hS;subst hlv;refine G.nF 0 0 ?_;refine G.c call70 (Aws (hL.mono (hl0.trans l2)) hS hss hlen oV (hT c0 mV) (fun x hx=>hT x (by simp[hx]))) ?_;rintro v3 u3 l3 ⟨mv,rfl,hmv⟩;obtain⟨ma,mc,rfl,_⟩:=id hmv.val;exact G.r (.tuple #[.agg #[.string (mkS (Af c0)),.slice ma (P.zip qs).length mc],.int .i64 0]) ⟨rfl,.inr ⟨hk,P,_,c0,qs,hPL,hP11,hlen,rfl,hmv,hok,hn⟩⟩
end
end
section
end
section
def Aqr (V M:List (Par×Rat))(m0:Rat)(i:Nat):Rat:=m0+Au (fun t=>t.2*Bi t.1 M) (V.take i)
theorem Awo {V:List (Par×Rat)}(hV:(V.map (·.1)).Nodup){j:Nat}{x:Par×Rat}(hj:V[j]?=some x)(p:Par):Bi p (V.take (j+1))=if x.1=p then x.2 else Bi p (V.take j):=by
 have e:V.take (j+1)=V.take j++[x]:=by rw[A1c,hj];rfl
 have hnew:x.1∉(V.take j).map (·.1):=by
  intro hm;obtain⟨y,hy,hye⟩:=A0u.1 hm;obtain⟨i,hi,rfl⟩:=A19 hy;rw[A00]at hi;have:=Og hV (i:=i) (j:=j) (x:=x.1) (by rw[A0v,A0n oV];simp only[A3h];rw[<-hye,A4t]) (by rw[A0v,hj];rfl);omega
 rw[e,R4 hnew];by_cases h:p=x.1
 ·rw[if_pos h,if_pos h.symm]
 ·rw[if_neg h,if_neg (fun e=>h e.symm)]
theorem Ayi {T:List (List UInt8×Nat)}{F:List Ao}{lab:Int}{ss:List (List UInt8)}(hF:Dk T F lab)(ht:Cr T ss):∀ x∈Aqk F ss F.length,SmR x.2:=fun x hx=>by
 obtain⟨j,f,hj,hf,hv⟩:=Au0.1 hx;unfold Asa at hv;split at hv
 ·cases hv;exact Ih
 ·rename_i h2;split at hv
  ·cases hv
  ·rename_i h0;cases hv;exact (Auf hF ht (A1b hf) h2 (fun e=>h0 (.inl e))).1
end
section
section
variable {V M:List (Par×Rat)} {m0:Rat}
theorem Auu (hM:∀ x∈M,Tx x.2)(p:Par):Sz (Bi p M) 400:=by
 by_cases hp:p∈M.map (·.1)
 ·induction M with
  |nil=>simp at hp
  |cons y l ih =>
   obtain⟨b,q⟩:=y;unfold Bi;split
   ·exact (hM (b,q) mV).sz
   ·rename_i hne;refine ih (fun x hx=>hM x (by simp[hx])) ?_;simp at hp;rcases hp with h|⟨r,h⟩
    ·exact absurd h hne
    ·exact A0u.2 ⟨_,h,rfl⟩
 ·rw[Kc hp];exact Xv.mono oV
theorem Aux (h0:Tx m0)(hM:∀ x∈M,Tx x.2)(hV:∀ x∈V,SmR x.2):∀ i,Sz (Aqr V M m0 i) (500*(i+1))
 |0=>by
  unfold Aqr;rw[A3y];have:m0+Au (fun t:Par×Rat=>t.2*Bi t.1 M) []=m0:=by rw[show Au (fun t:Par×Rat=>t.2*Bi t.1 M) []=0 from rfl];grind
  rw[this];exact h0.sz.mono oV
 |i+1=>by
  have ih:=Aux h0 hM hV i;by_cases hi:i<V.length
  ·have e:Aqr V M m0 (i+1)=Aqr V M m0 i+V[i].2*Bi V[i].1 M:=by
    unfold Aqr;rw[A1c,A0n hi];simp only[Ba1];rw[Iu];grind
   rw[e];exact (Ly ih (In (hV _ (List.getElem_mem hi)).sz (Auu hM _))).mono oV
  ·have e:Aqr V M m0 (i+1)=Aqr V M m0 i:=by
    unfold Aqr;rw[A03 oV,A03 oV]
   rw[e];exact ih.mono oV
end
theorem Aum {u:PH}{v tv mv:Value}{T:List (List UInt8×Nat)}{R:List Bk}{F:List Ao}{lab:Int}{ss:List (List UInt8)}{P:List Par}{m0:Rat}{M:List (Par×Rat)}(ht:Lb u)(h:Af5 u v tv T R F lab ss)(hM:Ar9 u mv m0 M)(hm:Ew P m0 M)(hP:P.length<=10000)(hpar:∀ p∈P,Adv F p)(hres:Tx (Atc m0 M (Aqk F ss F.length))) :
 Fn0 prog 29 [v,mv,tv] u fun r _=>r=.tuple #[.string (mkS (Af (Atc m0 M (Aqk F ss F.length)))),.int .i64 0]:=by
 have hvc:=Avr h;have hvl:=fun (u':PH) (l:PH.le u u')=>Agi (h.sch.mono l) (h.ok.mono l) (hM.mono l) hm hP hpar;have f2:=h.ok.f2;have hfeat:=h.ok.feat;have hfit:=h.fit;have hl:=Auy F ss F.length;have hVs:∀ x∈Aqk F ss F.length,SmR x.2:=Ayi hfeat hfit;obtain⟨⟨xa,xc,xb,xd,xe,xf,rfl,hTL,hRL,hFL⟩,ok,hS,hT⟩:=h;obtain⟨ya,yc,rfl⟩:=hS.opn;obtain⟨a,c,rfl,hMl⟩:=id hM.val;rw[A0p]at hvc⊢;generalize Aqk F ss F.length=V at *
 have hml:=hm.len;have hnd:=hm.srt.nodup Dp;refine Fn0.o func29 ?_;refine G.c call80 hvc ?_;rintro _ u1 l1 ⟨lv,rfl,hv⟩;obtain⟨la,lc,rfl⟩:=Ab.opn hv;rw[A0p]at hv⊢;refine G.nF 0 0 ?_;refine G.c call61 (hvl u1 l1) ?_;rintro v2 u2 l2 rfl;refine G.c call77 (Iy hm.c) ?_;intro v3 u3 l3 k3;obtain⟨f3,rfl⟩:=k3.opF;refine G.l (ι:=Nat×F4) (fun i=>[(3,.p 0 0),(4,.p 1 0),(10,.p 6003 0),(31,sV la V.length lc),(32,iV V.length),(33,iV i.1)])
  (fun i=>[(0,⟨31,[sV xa T.length xc,sV xb R.length xd,sV xe F.length xf,iV lab]⟩),(1,⟨42,[tV (Af m0),sV a M.length c]⟩),(6003,⟨116,fc i.2⟩)])
  (fun i u' m'=>i.1<=V.length/\Av u' (fv i.2) (Aqr V M m0 i.1)/\m'=PH.mt) (fun i=>V.length-i.1) (0,f3)
  ⟨A1m _,by
   have:Aqr V M m0 0=m0:=by unfold Aqr;rw[A3y,show Au (fun t:Par×Rat=>t.2*Bi t.1 M) []=0 from rfl];grind
   rw[this];exact k3,rfl⟩ ?_
 rintro J ⟨i,f⟩ hJ u4 m4 l4 ⟨hi,hf,rfl⟩;simp only at hi hf hJ;have le4:=((l1.trans l2).trans l3).trans l4;have hps:=Aux (V:=V) hm.c hm.t hVs i;by_cases hlt:i<V.length
 ·refine G.lT (i:Int) (V.length:Int) ?_;obtain⟨x,hxi⟩:∃ x,V[i]?=some x:=⟨_,A0n hlt⟩;have hxs:=hVs x (A1b hxi);obtain⟨bx,ox,rfl,ex⟩:=Ab.at' (hv.mono ((l2.trans l3).trans l4)) (j:=i) (e:=A5 x) (by simp[hxi]);refine G.a bx ox V.length lc i 3 hlt ?_;refine G.lU (some 3) bx (ox+i*3) (.agg #[.int .i64 x.1.1,.string (mkS x.1.2),.string (mkS (Af x.2))]) ex ?_;refine G.l (ι:=Nat×F4) (fun j=>[(3,.p 0 0),(4,.p 1 0),(10,.p 6003 0),(12,.p 9002 0),(31,sV (some ⟨bx,ox,none⟩) V.length lc),(32,iV V.length),(33,iV i),(38,sV a M.length c),(39,iV M.length),(40,iV j.1)])
   (fun j=>[(0,⟨31,[sV xa T.length xc,sV xb R.length xd,sV xe F.length xf,iV lab]⟩),(1,⟨42,[tV (Af m0),sV a M.length c]⟩),(6003,⟨116,fc j.2⟩),(9002,⟨81,[iV x.1.1,tV x.1.2,tV (Af x.2)]⟩)])
   (fun j u' m'=>j.1<=M.length/\Av u' (fv j.2) (Aqr V M m0 i+x.2*Bi x.1 (M.take j.1))/\m'=PH.mt) (fun j=>M.length-j.1) (0,f)
   ⟨A1m _,by rw[A3y,show Bi x.1 ([]:List (Par×Rat))=0 from rfl,show Aqr V M m0 i+x.2*0=Aqr V M m0 i by grind];exact hf,rfl⟩ ?_
  rintro J2 ⟨j,f5⟩ hJ2 u5 m5 l5 ⟨hj,hf5,rfl⟩;simp only at hj hf5 hJ2;have le5:=le4.trans l5;by_cases hjl:j<M.length
  ·refine G.lT (j:Int) (M.length:Int) ?_;obtain⟨y,hyj⟩:∃ y,M[j]?=some y:=⟨_,A0n hjl⟩;have hyt:=hm.t y (A1b hyj);have htk:=Awo hnd hyj x.1;obtain⟨by',oy,rfl,ey⟩:=Ab.at' (hMl.mono le5) (j:=j) (e:=A5 y) (by simp[hyj]);refine G.a by' oy M.length c j 3 hjl ?_
   refine G.lU (some 3) by' (oy+j*3) (.agg #[.int .i64 y.1.1,.string (mkS y.1.2),.string (mkS (Af y.2))]) ey ?_
   by_cases he:y.1=x.1
   ·refine G.eqAgg 79 #[.int .i64 y.1.1,.string (mkS y.1.2)] #[.int .i64 x.1.1,.string (mkS x.1.2)] true kV kV kV (fun w=>by rw[<-decide_eq_true he];exact Bt.eq y.1 x.1 w) ?_;refine G.c call77 (Iy hyt) ?_;intro v6 u6 l6 k6;obtain⟨f6,rfl⟩:=k6.opF;refine G.c call77 (Iy hxs.tx) ?_;intro v7 u7 l7 k7;obtain⟨f7,rfl⟩:=k7.opF;refine G.c call78 (Le (k6.mono l7) k7 (hyt.sz.mono oV) (hxs.sz.mono oV)) ?_;intro v8 u8 l8 k8;obtain⟨f8,rfl⟩:=k8.opF;have hz:=In hyt.sz hxs.sz;have hz5:Sz (Aqr V M m0 i+x.2*Bi x.1 (M.take j)) 1000000:=(Ly hps (In hxs.sz (Auu (fun z hz=>hm.t z (A2r hz)) _))).mono oV;refine G.c call76 (O2 (hf5.mono ((l6.trans l7).trans l8)) k8 (hz5.mono oV) (hz.mono oV)) ?_;intro v9 u9 l9 k9;obtain⟨f9,rfl⟩:=k9.opF;refine G.i j ?_;refine G.b (hJ2 (j+1,f9) _ _ _ cV ((((l5.trans l6).trans l7).trans l8).trans l9) ⟨dV,?_,rfl⟩ dV);dsimp only;have h0:Bi x.1 (M.take j)=0:=by
     refine Kc fun hmem=>?_;obtain⟨z,hz,hze⟩:=A0u.1 hmem;obtain⟨i',hi',rfl⟩:=A19 hz;rw[A00]at hi';have:=Og hnd (i:=i') (j:=j) (x:=y.1) (by rw[A0v,A0n oV];simp only[A3h];rw[he,<-hze,A4t]) (by rw[A0v,hyj];rfl);omega
    rw[htk,if_pos he];rw[h0]at k9;have e:Aqr V M m0 i+x.2*0+y.2*x.2=Aqr V M m0 i+x.2*y.2:=by grind
    rw[e]at k9;exact k9
   ·refine G.eqAgg 79 #[.int .i64 y.1.1,.string (mkS y.1.2)] #[.int .i64 x.1.1,.string (mkS x.1.2)] false kV kV kV (fun w=>by rw[<-decide_eq_false he];exact Bt.eq y.1 x.1 w) ?_;refine G.i j ?_;exact G.b (hJ2 (j+1,f5) _ _ _ cV l5 ⟨dV,by dsimp only;rw[htk,if_neg he];exact hf5,rfl⟩ dV)
  obtain rfl:j=M.length:=oV
  refine G.lF (M.length:Int) (M.length:Int) ?_;rw[A03 (A0w _)]at hf5;refine G.i i ?_;refine G.b (hJ (i+1,f5) _ _ _ cV (l4.trans l5) ⟨dV,?_,rfl⟩ dV);dsimp only;have e:Aqr V M m0 (i+1)=Aqr V M m0 i+x.2*Bi x.1 M:=by
   unfold Aqr;rw[A1c,hxi];simp only[Ba1];rw[Iu];grind
  rw[e];exact hf5
 obtain rfl:i=V.length:=oV
 refine G.lF (V.length:Int) (V.length:Int) ?_;have e:Aqr V M m0 V.length=Atc m0 M V:=by unfold Aqr Atc;rw[A1k]
 rw[e]at hf;refine G.c call55 (Jj (ht.mono le4) hf hres) ?_;rintro v5 u5 l5 rfl;exact G.r (.tuple #[.string (mkS (Af (Atc m0 M V))),.int .i64 0]) ⟨rfl,rfl⟩
end
section
variable {b:Option Par->Rat}
section
variable {u:PH} {v cv mv:Value} {T:List (List UInt8×Nat)} {R:List Bk} {F:List Ao} {lab:Int} {C:CF} {K k:Nat} {q:Rat} {P:List Par} {m0:Rat} {M:List (Par×Rat)}
theorem Au1 (hP:R1 F C P)(hv:CFV C):∀ p∈P,Adv F p:=fun p hp=>by
 rcases (hP.2 p).1 hp with ⟨i,f,rfl,hf,_⟩|⟨hne,i,f,h1,hf,h2⟩
 ·exact⟨i,f,rfl,hf,.inl rfl⟩
 ·refine⟨i,f,h1,hf,?_⟩;rcases (hv.s p hne).cat with h3|h3
  ·exact .inl h3
  ·exact .inr ⟨h2,h3⟩
theorem Iq.cells (h:Iq C k)(hb:∀ e,Sz (b e) 1000):QOK b C:=by
 have s1:∀ p,Sz (C.s p) 1000:=fun p=>((h.s p).szn oV oV oV oV).mono oV;have t1:∀ p,Sz (C.t p) 1000:=fun p=>((h.t p).szn oV oV oV oV).mono oV;refine⟨hb,fun e f=>?_,fun e=>?_,t1 _⟩
 ·cases e<;>cases f
  ·exact h.csz
  ·exact s1 _
  ·exact s1 _
  ·exact t1 _
 ·cases e
  ·exact s1 _
  ·exact t1 _
theorem Iq.qok (h:Iq C k)(hm:Ew P m0 M):QOK (cfE m0 M) C:=h.cells fun e=>(Rw hm e).sz.mono oV
def Azc (F:List Ao)(C:CF)(k:Nat)(P:List Par)(b:Option Par->Rat)(r:Value)(u:PH):Prop :=
 (∃ e:Int,r=.tuple #[.agg #[.slice none 0 0,.slice none 0 0],.int .i64 e]/\(e=12/\k=0\/e=3/\k≠0/\11<P.length)) \/
 (k≠0/\P.length<=11/\∃ lv,r=.tuple #[lv,.int .i64 0]/\Nj u lv P b)
theorem Ax5 (h:Arn u v cv T R F lab C K k)(hq:Avj q)(hPL:R1 F C P)(hmv:Ar9 u mv m0 M)(hm:Ew P m0 M) :
 Fn0 prog 74 [v,cv,mv,.string (mkS (Af q))] u fun r u'=>Azc F C k P (cfE m0 M) r u':=by
 have hbg:=(Atm h hq).giveAll;have hP24:=h.p24 P hPL;have hpar:=Au1 hPL h.vC;have hX:=h.sch;have ok:=h.ok;obtain⟨xa,xc,xb,xd,xe,xf,rfl,_⟩:=id h.sch;obtain⟨a1,n1,c1,a2,n2,c2,rfl⟩:=id h.cof.opn;obtain⟨na,nc,rfl,_⟩:=id hmv.val;refine Fn0.o func74 ?_;refine G.c call144 hbg ?_;rintro v1 u1 l1 ⟨u0,m0',hl0,hlm,P',pa,pc,ya,yc,ra,rc,rows,hPL',rfl,hL,hrows,hbag⟩;obtain rfl:=hPL.eq hPL';have hL1:=hL.mono hl0;by_cases h0:k=0
 ·rw[if_pos h0];refine G.nT 12 0 ?_;exact G.r (.tuple #[.agg #[.slice none 0 0,.slice none 0 0],.int .i64 12]) ⟨rfl,.inl ⟨12,rfl,.inl ⟨rfl,h0⟩⟩⟩
 rw[if_neg h0];refine G.nF 0 0 ?_;refine G.c call116 (Aj9 hL1 hPL.1 oV (hmv.mono l1) hm) ?_;rintro v4 u4 l4 ⟨lv,rfl,hlv⟩;obtain⟨la,lc,rfl⟩:=Ab.opn hlv;refine G.nF 0 0 ?_;refine G.c call61 (Agi (hX.mono (l1.trans l4)) (ok.mono (l1.trans l4)) (hmv.mono (l1.trans l4)) hm oV hpar) ?_;rintro v5 u5 l5 rfl;by_cases h12:P.length+1>12
 ·refine G.gT ((P.length+1:Nat):Int) 12 ?_;exact G.r (.tuple #[.agg #[.slice none 0 0,.slice none 0 0],.int .i64 3]) ⟨rfl,.inl ⟨3,rfl,.inr ⟨rfl,h0,oV⟩⟩⟩
 refine G.gF ((P.length+1:Nat):Int) 12 ?_;refine G.c call117 (Aep (hlv.mono l5) (fun q hq=>?_) (by rw[A0p,Bo];omega)) ?_
 ·obtain⟨e,_,rfl⟩:=A0u.1 hq;exact Rw hm e
 intro v6 u6 l6 k6;obtain⟨es6,hL6,hF6⟩:=id k6;obtain⟨fa,fc,rfl⟩:=hL6.opn;have hel:es6.length=P.length+1:=by rw[hF6.1,A0p,Bo]
 rw[hel]at k6⊢;exact G.r (.tuple #[.agg #[.slice pa P.length pc,.slice fa (P.length+1) fc],.int .i64 0]) ⟨rfl,.inr ⟨h0,oV,_,rfl,pa,pc,fa,fc,rfl,hL1.mono ((l4.trans l5).trans l6),k6⟩⟩
def As3 (q:Rat)(b:Option Par->Rat)(P:List Par)(C:CF):Rat:=sqC b P C+q*G9 P b
def Asj (q:Rat)(b:Option Par->Rat)(P:List Par)(C:CF)(i:Nat):Rat:=sqC b P C+Au (fun p=>q*b (some p)*b (some p)) (P.take i)
theorem Avn (q:Rat)(b:Option Par->Rat)(P:List Par)(C:CF):Asj q b P C 0=sqC b P C:=by
 show sqC b P C+0=_;grind
theorem Au5 {q:Rat}{P:List Par}{C:CF}{i:Nat}{p:Par}(h:P[i]?=some p):Asj q b P C (i+1)=Asj q b P C i+q*b (some p)*b (some p):=by
 unfold Asj;rw[E6 h,Iu];grind
theorem Aw2 (q:Rat)(b:Option Par->Rat)(P:List Par)(C:CF):Asj q b P C P.length=As3 q b P C:=by
 unfold Asj As3 G9;rw[A1k,<-Dr]
 congr 1
 exact Bb fun p _=>by grind
theorem Axm (hq:QOK b C)(hP:P.length<=60)(hs:Sz q 1000)(i:Nat):Sz (Asj q b P C i) 40000000:=by
 unfold Asj;have h1:=hq.sqS hP;have h2:Sz (Au (fun p=>q*b (some p)*b (some p)) (P.take i)) (60*(3000+1)+1):=V7 (s:=3000) (Om fun p _=>(In (In hs (hq.b _)) (hq.b _)).mono oV) (by rw[A00];omega);exact (Ly h1 h2).mono oV
theorem Axz (ht:Lb u)(h:Arn u v cv T R F lab C K k)(hq:Avj q)(hPL:R1 F C P)(hmv:Ar9 u mv m0 M)(hm:Ew P m0 M)(hT:k≠0->P.length<=11->Tx (As3 q (cfE m0 M) P C)) :
 Fn0 prog 26 [v,cv,mv,.string (mkS (Af q))] u fun r _=>(∃ e:Int,r=.tuple #[.string (mkS []),.int .i64 e]/\(e=12/\k=0\/e=3/\k≠0/\11<P.length))\/(k≠0/\P.length<=11/\r=.tuple #[.string (mkS (Af (As3 q (cfE m0 M) P C))),.int .i64 0]):=by
 have hop:=Ax5 h hq hPL hmv hm;have hof:=fun (u':PH) (l:PH.le u u')=>A0i (h.cof.mono l) h.sC (by have:=h.K;omega);have hqok:=h.mom.qok hm;obtain⟨xa,xc,xb,xd,xe,xf,rfl,_⟩:=id h.sch;obtain⟨a1,n1,c1,a2,n2,c2,rfl⟩:=id h.cof.opn;obtain⟨na,nc,rfl,_⟩:=id hmv.val;have hqs:Sz q 1000:=hq.tx.sz.mono oV;generalize cfE m0 M=b at *
 refine Fn0.o func26 ?_;refine G.c call74 hop ?_;rintro v1 u1 l1 (⟨e,rfl,he⟩|⟨hk,hP11,lv,rfl,hlv⟩)
 ·refine G.nT' e 0 (by rcases he with ⟨h,_⟩|⟨h,_⟩<;>omega) ?_
  exact G.r (.tuple #[.string (mkS []),.int .i64 e]) ⟨rfl,.inl ⟨e,rfl,he⟩⟩
 have hT:=hT hk hP11;obtain⟨pa,pc,fa,fc,rfl,hPl,es,hL,hF⟩:=id hlv.val;have hes:es.length=P.length+1:=by rw[hF.1,A0p,Bo]
 refine G.nF 0 0 ?_;refine G.c call75 (hof u1 l1) ?_;intro v2 u2 l2 k2;obtain⟨b0,a0,n0,c0,b0',a0',n0',c0',g1,g2,rfl⟩:=S3 k2;refine G.c call53 (sq0 (hlv.mono l2) k2 oV hqok) ?_;intro v3 u3 l3 k3;obtain⟨f3,rfl⟩:=k3.opF;have hcap:P.length+1<=fc:=by
  obtain⟨_,_,h1,h2,_⟩:=hL;simp only[A09]at h1;obtain⟨_,h3,rfl⟩:=h1;omega
 obtain⟨bf,of',rfl,_⟩:=Ab.at' hL (j:=0) (e:=es[0]'oV) (A0n oV);refine G.sliceFromG (some ⟨bf,of',none⟩) (P.length+1) fc 1 4 kV oV hcap ?_;obtain⟨sa,hse,hsa⟩:∃ sa:Option Addr,(if fc=1 then some (⟨bf,of',none⟩:Addr) else (some (⟨bf,of',none⟩:Addr)).map (·.add (1*4)))=sa/\(P.length≠0->sa=some ⟨bf,of'+1*4,none⟩):=by
  refine⟨_,rfl,fun hn=>?_⟩;rw[if_neg oV];rfl
 rw[hse,show P.length+1-1=P.length from rfl];refine G.l (ι:=Nat×F4) (fun i=>[(3,tV (Af q)),(12,.p 4004 0),(32,sV sa P.length (fc-1)),(33,iV P.length),(34,iV i.1)])
  (fun i=>[(4004,⟨116,Go.Proofs.YtanfagpabkdmiaaGreatDoor.fc i.2⟩)])
  (fun i u' m'=>i.1<=P.length/\Av u' (fv i.2) (Asj q b P C i.1)/\m'=PH.mt) (fun i=>P.length-i.1) (0,f3)
  ⟨A1m _,by rw[Avn];exact k3,rfl⟩ ?_
 rintro J ⟨i,f⟩ hJ u4 m4 l4 ⟨hi,hf,rfl⟩;simp only at hi hf hJ;have le4:=((l1.trans l2).trans l3).trans l4;have hps:=Axm (P:=P) hqok oV hqs i;by_cases hlt:i<P.length
 ·refine G.lT (i:Int) (P.length:Int) ?_;obtain⟨p,hpi⟩:∃ p,P[i]?=some p:=⟨_,A0n hlt⟩;have hstep:=Au5 (q:=q) (b:=b) (C:=C) hpi;obtain rfl:=hsa oV;obtain⟨x,hx,hfx⟩:=hF.2 (i+1) (b (some p)) (by unfold Ak;rw[List.map_cons,A38,List.map_map,A0v,hpi];rfl);obtain⟨_,_,e0,ef⟩:=Ab.at' (hL.mono ((l2.trans l3).trans l4)) (j:=i+1) (e:=x) hx;cases e0;have hfx:=hfx.mono ((l2.trans l3).trans l4);obtain⟨fx,rfl⟩:=hfx.opF;refine G.a bf (of'+1*4) P.length (fc-1) i 4 hlt ?_;have ef2:ElP u4 bf (of'+1*4+i*4) (fv fx):=by rw[show of'+1*4+i*4=of'+(i+1)*4 by omega];exact ef
  refine G.lU (some 4) bf (of'+1*4+i*4) (fv fx) ef2 ?_;refine G.c call77 (Iy hq.tx) ?_;intro v5 u5 l5 k5;obtain⟨f5,rfl⟩:=k5.opF;refine G.c call78 (Le k5 (hfx.mono l5) (hqs.mono oV) ((hqok.b _).mono oV)) ?_;intro v6 u6 l6 k6;obtain⟨f6,rfl⟩:=k6.opF;have hz6:=In hqs (hqok.b (some p));refine G.c call78 (Le k6 (hfx.mono (l5.trans l6)) (hz6.mono oV) ((hqok.b _).mono oV)) ?_;intro v7 u7 l7 k7;obtain⟨f7,rfl⟩:=k7.opF;have hz7:=In hz6 (hqok.b (some p));refine G.c call76 (O2 (hf.mono ((l5.trans l6).trans l7)) k7 (hps.mono oV) (hz7.mono oV)) ?_;intro v8 u8 l8 k8;obtain⟨f8,rfl⟩:=k8.opF;rw[<-hstep]at k8;refine G.i i ?_;exact G.b (hJ (i+1,f8) _ _ _ cV ((((l4.trans l5).trans l6).trans l7).trans l8) ⟨dV,k8,rfl⟩ dV)
 ·obtain rfl:i=P.length:=oV
  refine G.lF (P.length:Int) (P.length:Int) ?_;rw[Aw2]at hf;refine G.c call55 (Jj (ht.mono le4) hf hT) ?_;rintro v5 u5 l5 rfl;exact G.r (.tuple #[.string (mkS (Af (As3 q b P C))),.int .i64 0]) ⟨rfl,.inr ⟨hk,hP11,rfl⟩⟩
end
end
section
variable {b:Option Par->Rat}{x:Rat}
theorem Az2 {q:Rat}{z:Int}(h:q*((4320:Nat):Rat)=(z:Rat))(hz:z.natAbs<=30000000):Th q:=by
 obtain⟨h1,h2⟩:=Ag7 h oV;exact⟨De.tx (a:=8) (b:=4) ⟨z,4320,h,oV,oV,oV⟩ oV oV oV oV,h1,oV⟩
theorem Ay5 {x t:Rat}{N:Nat}(h:Dn 2 N x)(hN:N<=979776)(ht:∃ p:Int,t*30=p/\p.natAbs<=180):Th (x+t):=by
 obtain⟨z,h1,h2⟩:=h;obtain⟨p,h3,h4⟩:=ht;refine Az2 (z:=z*30+p*144) ?_ oV;have e:((12^2:Nat):Rat)=144:=jV
 have e2:((4320:Nat):Rat)=4320:=jV
 have e3:((30:Int):Rat)=30:=jV
 have e4:((144:Int):Rat)=144:=jV
 rw[e]at h1;rw[A48,A23,A23,<-h1,<-h3,e2,e3,e4];grind
theorem Atw {N:Nat}(h:Dn 2 N x)(hN:N<=979776):De 39 18 x:=by
 obtain⟨z,h1,h2⟩:=h;exact⟨z,144,by rw[<-h1],oV,A2q h2 (A2q hN jV),jV⟩
section
variable {P:List Par} {C:CF} {q:Rat} {N k:Nat}
theorem Ax6 (hcd:G5 N C)(hN:N<=979776)(hq:∃ p:Int,q*30=p/\p.natAbs<=180):∀ r∈Pu C P q,∀ x∈r,Th x:=by
 intro r hr x hx;have hA:=N4 (P:=P) (C:=C) (q:=q);obtain⟨i,hi,rfl⟩:=A2u.1 hr;obtain⟨j,hj,rfl⟩:=A2u.1 hx;have hi':i<P.length+1:=by have:=hA.1;omega
 have hj':j<P.length+1:=by have:=hA.2 i hi';rw[N6 hi]at this;omega
 have e:=Air (P:=P) (C:=C) (q:=q) hi' hj';unfold en at e;rw[N6 hi,Mj hj]at e;rw[e];refine Ay5 (hcd.c _ _) hN ?_;split
 ·exact hq
 ·exact⟨0,jV,fV⟩
theorem Avu (hcd:G5 N C)(hN:N<=979776):∀ x∈Y0 C P,Th x:=by
 intro x hx;obtain⟨e,_,rfl⟩:=A0u.1 hx;have h:=Ay5 (t:=0) (hcd.r e) hN ⟨0,jV,fV⟩;rwa[Bco]at h
theorem At7 (hcd:G5 N C)(hN:N<=979776)(hv:CFV C)(hc:C.c=(k:Rat))(hk:k<100):Iq C k:=by
 refine⟨hc,hk,fun p=>Atw (hcd.c none (some p)) hN,fun p=>?_⟩;by_cases h:C.t p=0
 ·rw[h];exact Atw (Dn.zero 2 0) oV
 ·have h3:=(hv.t p h).2.2;have e:Ap p.1 p.2=p:=by unfold Ap;rw[if_neg h3]
  have:=Atw (hcd.c (some p.1) (some p.2)) hN;rw[show As C (some p.1) (some p.2)=C.t (Ap p.1 p.2) from rfl,e]at this;exact this
theorem Kl.sixty (h:Kl q):∃ p:Int,q*30=p/\p.natAbs<=180:=by
 obtain⟨p,h1,h2⟩:=h.thirty;exact⟨p,h1,oV⟩
theorem Kl.two (h:Kl q):Avj (q+q)/\∃ p:Int,(q+q)*30=p/\p.natAbs<=180:=by
 obtain⟨p,h1,h2⟩:=h.thirty;have e:(q+q)*30=((p+p:Int):Rat):=by rw[A48,<-h1];grind
 have hd:De 3 2 (q+q):=⟨p+p,30,by rw[<-e];rfl,oV,oV,oV⟩;exact⟨⟨hd.tx oV oV oV oV,by have:=h.pos;grind,hd⟩,p+p,e,oV⟩
theorem Atq {b b':Option Par->Rat}(h:Fv P C q b)(h':Fv P C q b')(hq:0<q)(hc:0<C.c)(hp:∀ z,0<=Bm z P C):∀ e∈Ak P,b e=b' e:=fun e he=>by
 have:=Aji (P:=P) (C:=C) (z:=fun e=>b e-b' e) hq hc hp (fun e he=>by
  have h1:=h e he;have h2:=h' e he;have h3:Au (fun f=>As C e f*(b f-b' f)) (Ak P)=Au (fun f=>As C e f*b f) (Ak P)-Au (fun f=>As C e f*b' f) (Ak P):=by
   have:Au (fun f=>As C e f*b f) (Ak P)=Au (fun f=>As C e f*(b f-b' f)+As C e f*b' f) (Ak P):=Bb fun f _=>by grind
   rw[this,D1];grind
  have h4:Kp q (fun e=>b e-b' e) e=Kp q b e-Kp q b' e:=by
   cases e with
   |none=>show (0:Rat)=0-0;grind
   |some p=>show q*(b (some p)-b' (some p))=q*b (some p)-q*b' (some p);grind
  rw[h3,h4];grind) e he
 grind
theorem Atl (hnd:P.Nodup){m0 m0':Rat}{qs qs':List Rat}(hl:qs.length=P.length)(hl':qs'.length=P.length)(h:∀ e∈Ak P,cfE m0 (P.zip qs) e=cfE m0' (P.zip qs') e):m0=m0'/\qs=qs':=by
 refine⟨h none (by unfold Ak;simp),List.ext_getElem oV fun j h1 h2=>?_⟩;have e:=h _ (Akj (P:=P) (i:=j+1) oV);rw[Ag6 hnd hl _ oV,Ag6 hnd hl' _ oV]at e;rw[show gR (m0::qs) (j+1)=gR qs j from rfl,show gR (m0'::qs') (j+1)=gR qs' j from rfl,Mj h1,Mj h2]at e;exact e
theorem Az8 (e f:Option Par):As (C.add C) e f=As C e f+As C e f:=by cases e<;>cases f<;>rfl
theorem Azb (e:Option Par):Ay (C.add C) e=Ay C e+Ay C e:=by cases e<;>rfl
theorem Att (h:Fv P (C.add C) (q+q) b):Fv P C q b:=fun e he=>by
 have h1:=h e he;have h2:Au (fun f=>As (C.add C) e f*b f) (Ak P)=Au (fun f=>As C e f*b f) (Ak P)+Au (fun f=>As C e f*b f) (Ak P):=by
  rw[<-D1];exact Bb fun f _=>by rw[Az8];grind
 have h3:Kp (q+q) b e=Kp q b e+Kp q b e:=by
  cases e with
  |none=>show (0:Rat)=0+0;grind
  |some p=>show (q+q)*b (some p)=q*b (some p)+q*b (some p);grind
 rw[h2,h3,Azb]at h1;grind
theorem As8 {F:List Ao}(h:R1 F (C.add C) P):R1 F C P:=⟨h.1,fun p=>by
 have e:(C.add C).s p≠0↔C.s p≠0:=by
  show C.s p+C.s p≠0↔C.s p≠0;constructor
  ·intro h1 h2;exact h1 (by rw[h2];grind)
  ·intro h1 h2;exact h1 (by grind)
 have:=h.2 p;rwa[e]at this⟩
theorem Arw {F:List Ao}{lab:Int}(L:List E7):∀ {L':List E7},C8 F lab (L++L')=(C8 F lab L).add (C8 F lab L'):=by
 intro L';induction L' using Iv with
 |h0 =>
  rw[A1i];show _=CF.mk ((C8 F lab L).c+0) (fun p=>(C8 F lab L).s p+0) (fun p=>(C8 F lab L).t p+0);simp only[Bco]
 |h1 L' y ih =>
  rw[<-A1j,F5,F5,ih];simp only[CF.add,Rat.add_assoc]
end
section
variable {u:PH} {v cv:Value} {T:List (List UInt8×Nat)} {R:List Bk} {F:List Ao} {lab:Int} {L:List E7} {q:Rat} {K:Nat}
theorem As9 (hX:F1 u v T R F lab)(ok:Bn u T R F lab)(h8:T.length<=8)(hT:∀ y∈L,Cr T y.1/\y.2.1<=7)(h12:L.length<=12)(f5:F.length<=5)(lab0:0<=lab)(hC:H7 u cv (C8 F lab L) K)(hK:K<=10000):∃ k,Arn u v cv T R F lab (C8 F lab L) K k:=by
 obtain⟨k,hk,hk7⟩:=An2 ok.feat ok.l1 (Xi ok) hT;obtain⟨sC,vC⟩:=S9 ok h8 hT oV;have hcd:=Ae2 ok ok.l1 (Xi ok) hT;exact⟨k,hX,ok,hC,sC,vC,hK,Aec,At7 hcd oV vC hk oV,fun P hP=>by
  have:=Al6 ok.feat (fun y hy=>(hT y hy).1) hP;omega,lab0⟩
theorem Axv {C:CF}{k:Nat}(h:Iq C k)(hc:0<C.c):1<=C.c:=by
 rw[h.c]at hc⊢;have h1:((0:Nat):Rat)<(k:Rat):=hc;have h2:0<k:=Rat.natCast_lt_natCast.1 h1;have:((1:Nat):Rat)<=(k:Rat):=Rat.natCast_le_natCast.2 h2;simpa using this
theorem Axh (ok:Bn u T R F lab)(h8:T.length<=8)(hT:∀ y∈L,Cr T y.1/\y.2.1<=7)(h6:L.length<=6)(hq:Kl q):Ax1 F (C8 F lab L) q:=by
 obtain⟨k,hk,hk7⟩:=An2 ok.feat ok.l1 (Xi ok) hT;obtain⟨sC,vC⟩:=S9 ok h8 hT oV;have hcd:=Ae2 ok ok.l1 (Xi ok) hT;have hm:=At7 hcd oV vC hk oV;have hpsd:=fun P z=>Ahu ok.feat ok.l1 (Xi ok) z P fun y hy=>(hT y hy).1;refine⟨fun P _=>Ax6 hcd oV hq.sixty,fun P _=>Avu hcd oV,hpsd,fun P hP h11 hc=>Aot (hP.1.nodup Dp) hcd oV hq h11 (Axv hm hc) (hpsd P) fun z=>Aoh ok.feat ok.l1 (Xi ok) z P fun y hy=>(hT y hy).1⟩
theorem Ayc (ok:Bn u T R F lab)(h8:T.length<=8)(hT:∀ y∈L,Cr T y.1/\y.2.1<=7)(h6:L.length<=6)(hq:Kl q):Ax1 F (C8 F lab (L++L)) (q+q):=by
 obtain⟨k,hk,hk7⟩:=An2 ok.feat ok.l1 (Xi ok) hT;obtain⟨sC,vC⟩:=S9 ok h8 hT oV;have hT2:∀ y∈L++L,Cr T y.1/\y.2.1<=7:=fun y hy=>by
  rcases A01.1 hy with h|h<;>exact hT y h
 have hcd:=Ae2 ok ok.l1 (Xi ok) hT;have hcd2:=Ae2 ok ok.l1 (Xi ok) hT2;have hm:=At7 hcd oV vC hk oV;have hpsd:=fun P z=>Ahu ok.feat ok.l1 (Xi ok) z P fun y hy=>(hT y hy).1;have hpsd2:=fun P z=>Ahu ok.feat ok.l1 (Xi ok) z P fun y hy=>(hT2 y hy).1;have hl2:(L++L).length<=12:=by rw[A0z];omega
 have hth:∀ P,R1 F (C8 F lab (L++L)) P->∀ r∈Pu (C8 F lab (L++L)) P (q+q),∀ x∈r,Th x:=fun P _=>Ax6 hcd2 oV hq.two.2;refine⟨hth,fun P _=>Avu hcd2 oV,hpsd2,fun P hP h11 hc y hy i hi=>?_⟩;have hnd:=hP.1.nodup Dp;have hA:=N4 (P:=P) (C:=C8 F lab (L++L)) (q:=q+q);have hi':i<P.length+1:=by have:=hA.1;omega
 have hb:∀ j,j<P.length+1->cfE (y 0) (P.zip ((A1q P.length).map fun j=>y (j+1))) ((Ak P).getD j none)=y j:=fun j hj=>by
  rw[Ag6 hnd mV j hj];cases j with
  |zero=>rfl
  |succ j=>exact Ads (by rw[A38,A0v,A52 oV];rfl)
 have hn:=Qb (Av3 (hth P hP) h11) hy hb;rw[Arw]at hn hc;have hc1:0<(C8 F lab L).c:=by
  have:(0:Rat)<(C8 F lab L).c+(C8 F lab L).c:=hc;grind
 have hd:=Ac7 hcd oV hq h11 (Axv hm hc1) (hpsd P) (fun z=>Aoh ok.feat ok.l1 (Xi ok) z P fun y hy=>(hT y hy).1) (Att hn) _ (Akj hi');rw[hb i hi']at hd;exact hd.tx oV oV oV oV
end
end
section
theorem Arf {u:PH}{v:Value}{T:List (List UInt8×Nat)}{R:List Bk}{F:List Ao}{lab:Int}{a:Option Addr}{c:Nat}{L:List E7}(hX:F1 u v T R F lab)(ok:Bn u T R F lab)(hT8:T.length<=8)(hL:Ab u (.slice a L.length c) 2 (L.map Id))(hW:WOK u T L)(hl:L.length<=12) :
 Fn0 prog 21 [v,.slice a L.length c] u fun r u'=>Apm u' r (C8 F lab L) (255*L.length):=by
 have hck:=fun (u':PH) (l:PH.le u u')=>Pf (hX.mono l) (ok.mono l);obtain⟨xa,xc,xb,xd,xe,xf,rfl,hTL,hRL,hFL⟩:=id hX;have hp8:=Ana hT8;have hall:∀ n,∀ y∈L.take n,Cr T y.1/\y.2.1<=7:=fun n y hy=>by
  obtain⟨_,q1,_,q2⟩:=hW y (A2r hy);exact⟨q1,q2⟩
 have hcfs:∀ n,CFS (C8 F lab (L.take n)):=fun n=>(S9 ok hT8 (hall n) (by rw[A00];omega)).1;refine Fn0.o func21 ?_;refine G.c call62 (hck u (PH.le_refl _)) ?_;rintro v1 u1 l1 rfl;refine G.nF 0 0 ?_;refine G.gF (L.length:Int) 2000 ?_;refine G.callO _ _ kV call63 (Hi (n:=0) oV oV) ?_;intro v2 u2 m2 l2 k2 _;rw[C2];have n0:(⟨((0:Int):Rat),fun _=>0,fun _=>0⟩:CF)=CF.num 0:=by rw[show ((0:Int):Rat)=0 by decide +kernel];rfl
 rw[n0]at k2;obtain⟨b,a2,n,c2,b',a',n',c',g1,g2,rfl⟩:=Ln k2;refine G.l (ι:=Nat×(Bool×SlI)×(Bool×SlI)×Nat×Nat) (fun i=>[(2,.p 0 0),(4,.p 1 0),(7,.p 6001 0),(22,sV a L.length c),(23,iV L.length),(24,iV i.1)])
  (fun i=>[(0,⟨31,[sV xa T.length xc,sV xb R.length xd,sV xe F.length xf,iV lab]⟩),(1,⟨37,[tV [],sV none 0 0,sV none 0 0]⟩),(6001,⟨136,[bV i.2.1.1,sV i.2.1.2.1 i.2.1.2.2.1 i.2.1.2.2.2,bV i.2.2.1.1,sV i.2.2.1.2.1 i.2.2.1.2.2.1 i.2.2.1.2.2.2,.v (.map (some i.2.2.2.1)),.v (.map (some i.2.2.2.2))]⟩)])
  (fun i u' m'=>i.1<=L.length/\H6 m' u' (.agg #[.bool i.2.1.1,.slice i.2.1.2.1 i.2.1.2.2.1 i.2.1.2.2.2,.bool i.2.2.1.1,.slice i.2.2.1.2.1 i.2.2.1.2.2.1 i.2.2.1.2.2.2,.map (some i.2.2.2.1),.map (some i.2.2.2.2)]) (C8 F lab (L.take i.1)) (255*i.1))
  (fun i=>L.length-i.1) (0,(b,a2,n,c2),(b',a',n',c'),g1,g2) ⟨oV,k2⟩ ?_
 rintro J ⟨i,⟨b,a2,n,c2⟩,⟨b',a',n',c'⟩,g1,g2⟩ hJ u3 m3 l3 ⟨hi,hC⟩;simp only at hi hC hJ;have le3:=(l1.trans l2).trans l3;by_cases hlt:i<L.length
 ·refine G.lT (i:Int) (L.length:Int) ?_;obtain⟨y,hLi⟩:∃ y,L[i]?=some y:=⟨_,A0n hlt⟩;obtain⟨hS,hT,hw1,hw2⟩:=hW y (A1b hLi);obtain⟨ba,oa,rfl,ea⟩:=Ab.at' (hL.mono le3) (j:=i) (e:=Id y) (by simp[hLi]);obtain⟨ss,w,ya,yc⟩:=y;simp only at hS hT hw1 hw2;have htk:L.take (i+1)=L.take i++[(ss,w,ya,yc)]:=by rw[A1c,hLi];rfl
  have hP:Af5 u (.agg #[.slice xa T.length xc,.slice xb R.length xd,.slice xe F.length xf,.int .i64 lab]) (.slice ya ss.length yc) T R F lab ss:=⟨hX,ok,hS,hT⟩;have hlen:=hT.len;obtain⟨d1,d2⟩:=Ag1 ok hT;have sK:CFS ((cfT F lab ss).scale (w:Rat)):=(d1.scale (Akk hw2)).cfs oV oV;have hsum:C8 F lab (L.take (i+1))=(C8 F lab (L.take i)).add ((cfT F lab ss).scale (w:Rat)):=by rw[htk,F5]
  refine G.a ba oa L.length c i 2 hlt ?_;refine G.lU (some 2) ba (oa+i*2) (.agg #[.slice ya ss.length yc,.int .i64 (w:Int)]) ea ?_;refine G.c call64 (Afu (hP.mono le3)) ?_;rintro v4 u4 l4 rfl;refine G.nF 0 0 ?_;refine G.lF (w:Int) (-1000000000000) ?_;refine G.gF (w:Int) 1000000000000 ?_;refine G.c call66 (Ajz (hP.mono (le3.trans l4)) oV) ?_;rintro v5 u5 l5 ⟨k5,sF⟩;obtain⟨b5,a5,n5,c5,b5',a5',n5',c5',g51,g52,rfl⟩:=No k5;refine G.c call27 (Pq (z:=(w:Int)) oV oV) ?_;intro v6 u6 l6 k6;rw[Rat.intCast_natCast]at k6;obtain⟨b6,a6,n6,c6,a6',n6',c6',rfl,_⟩:=k6.opn;have hwb:SB (w:Rat):=(Akk hw2).small oV oV;refine G.callA _ _ kV kV call65 (C2 m3).symm (Sj m3)
   (Ahp (((hC.grow l4).grow l5).grow l6) (k5.mono l6) k6 hwb (hcfs i) sF sK (by rw[<-hsum];exact hcfs (i+1))) ?_
  intro v7 u7 m7 l7 k7 _;rw[<-hsum]at k7;rw[C2];obtain⟨b7,a7,n7,c7,b7',a7',n7',c7',g71,g72,rfl⟩:=Ln k7;refine G.i i ?_;exact G.b (hJ (i+1,(b7,a7,n7,c7),(b7',a7',n7',c7'),g71,g72) _ _ _ cV ((((l3.trans l4).trans l5).trans l6).trans l7) ⟨dV,k7.congr rfl dV⟩ dV)
 ·obtain rfl:i=L.length:=oV
  refine G.lF (L.length:Int) (L.length:Int) ?_;have hc:=hcfs L.length;rw[A1k]at hC hc;refine G.callK _ _ kV call67 (Agc hC.i hc oV) ?_;rintro v7 u7 l7 ⟨r,rfl,k7⟩;obtain⟨e1,f1,h1,e2,f2,h2,rfl⟩:=k7.opn;refine G.drop PH.mt kV (PH.mt_le _) ?_;exact G.r (.tuple #[.agg #[.string (mkS (Af (C8 F lab L).c)),.slice e1 f1 h1,.slice e2 f2 h2],.int .i64 0]) ⟨rfl,_,rfl,k7⟩
end
section
variable {u:PH}
theorem Atr {v v':Value}{m0:Rat}{M:List (Par×Rat)}(h:Ar9 u v m0 M)(h':Ar9 u v' m0 M)(hl:M.length<=1000000) :
 Fn0 prog 23 [v,v'] u fun r _=>r=.bool true:=by
 obtain⟨a,c,rfl,hL⟩:=h.val;obtain⟨a',c',rfl,hL'⟩:=h'.val;refine Fn0.o func23 ?_;refine G.q (Af m0) (Af m0) rfl ?_;refine G.c call37 (Awv hL hL' hl) ?_;rintro v1 u1 l1 rfl;exact G.r (.bool true) ⟨rfl,rfl⟩
structure Ay1 (u:PH)(T:List (List UInt8×Nat))(R:List Bk)(F:List Ao)(lab:Int)(L:List E7)(xv lv cv:Value):Prop where
 sch:F1 u xv T R F lab
 ok:Bn u T R F lab
 t8:T.length<=8
 lab0:0<=lab
 f5:F.length<=5
 rows:Ab u lv 2 (L.map Id)
 wok:WOK u T L
 l6:L.length<=6
 cof:H7 u cv (C8 F lab L) (255*L.length)
theorem Ayx {s:Src}{ts:List Int}{k:Nat}(h:Aq7 u s ts)(hk:k<=s.n) :
 Ai prog 20 [s.ptr] u (s.M k) fun r u' m'=>∃ (T:List (List UInt8×Nat)) (R:List Bk) (F:List Ao) (lab:Int) (L:List E7) (xv lv cv:Value) (k':Nat),r=.tuple #[xv,lv,cv]/\Ay1 u' T R F lab L xv lv cv/\k'<=s.n/\m'=s.M k':=by
 refine Ai.o func20 ?_;refine G.A call45 (Wy 5 oV oV h hk) ?_;rintro v1 u1 m1 l1 ⟨T,R,F,lab,k1,hX,ok,hT8,hlab,hF0,hk1,rfl,hF5⟩ _;rw[C2];obtain⟨xa,xc,xb,xd,xe,xf,rfl,hTL,hRL,hFL⟩:=id hX;refine G.A call46 (Acr (most:=6) (h.mono l1) hk1 hX ok oV) ?_;rintro v2 u2 m2 l2 ⟨L,k2,hL,hL6,hW,hk2,rfl⟩ _;rw[C2];obtain⟨la,lc,rfl⟩:=hL.opn;rw[A0p]at hL⊢;refine G.c call21 (Arf (hX.mono l2) (ok.mono l2) hT8 hL hW oV) ?_;rintro v3 u3 l3 ⟨x3,rfl,k3⟩;obtain⟨e1,f1,g1,e2,f2,g2,rfl⟩:=k3.opn;have l23:=l2.trans l3;exact G.r (.tuple #[.agg #[.slice xa T.length xc,.slice xb R.length xd,.slice xe F.length xf,.int .i64 lab],.slice la L.length lc,.agg #[.string (mkS (Af (C8 F lab L).c)),.slice e1 f1 g1,.slice e2 f2 g2]])
  ⟨T,R,F,lab,L,_,_,_,k2,rfl,⟨hX.mono l23,ok.mono l23,hT8,hlab,hF5,hL.mono l3,hW.mono l3,hL6,k3⟩,hk2,rfl⟩
def Asq:List (List UInt8×Nat):=[([120],2),([121],2)]
def Asw (g:Nat):List Bk:=[([114],[0,1],(some ⟨g,0,none⟩,2))]
def Aro:List Ao:=[(0,1,0)]
theorem Az7 {g:Nat}(h:Ab u (.slice (some ⟨g,0,none⟩) 2 2) 1 (Ag [0,1])):Bn u Asq (Asw g) Aro 1 where
 att:=⟨Nw jV,fun a ha=>by simp[Asq]at ha;rcases ha with rfl|rfl<;>decide⟩
 rel:=⟨Nw (by show (([[114]]:List (List UInt8)).all Gw&&decide ([[114]]:List (List UInt8)).Nodup)=true;decide +kernel),fun r hr=>by simp[Asw]at hr;subst hr;simp,fun r hr a ha=>by simp[Asw]at hr;subst hr;simp at ha;show a<2;omega,fun r hr=>by simp[Asw]at hr;subst hr;simp,fun r hr k x y h1 h2=>by
  simp[Asw]at hr;subst hr
  match k,h1,h2 with
  |0,h1,h2=>simp at h1 h2;omega
  |k+1,h1,h2=>simp at h2,fun a ha=>⟨_,A1t.2 rfl,by
  have:a<2:=ha;simp;omega⟩,fun r hr=>by simp[Asw]at hr;subst hr;exact h⟩
 feat:=⟨fun f hf=>by
  simp[Aro]at hf;subst hf;exact⟨[120],2,rfl,.inl ⟨rfl,rfl,fV⟩,fV⟩,fV⟩
 t1:=fV
 t2:=fV
 r1:=by show 0<1;omega
 r2:=by show 1<=6;omega
 f2:=fV
 l1:=fV
 l2:=fun l hl=>by
  have:l=1:=oV
  subst this;exact⟨[121],rfl⟩
theorem Ast :Fn0 prog 60 [] u fun r u'=>∃ g,F1 u' r Asq (Asw g) Aro 1/\Bn u' Asq (Asw g) Aro 1:=by
 refine Fn0.o func60 ?_;refine G.buildU 92 2 24 (.agg #[.string (mkS []),.int .i64 0]) [.agg #[.string (mkS [120]),.int .i64 ((2:Nat):Int)],.agg #[.string (mkS [121]),.int .i64 ((2:Nat):Int)]] kV (fun x hx=>by
  simp only[A02,A14,or_false]at hx;rcases hx with rfl|rfl<;>exact⟨rfl,A08.1 rfl⟩) rfl oV mV mV ?_
 intro g1 u1 l1 e1;refine G.B 3 1 8 (.int .i64 0) [.int .i64 ((0:Nat):Int),.int .i64 ((1:Nat):Int)] (Ax [0,1]) ?_;intro g2 u2 l2 e2;refine G.buildU 94 2 40 (.agg #[.string (mkS []),.slice none 0 0]) [.agg #[.string (mkS [114]),.slice (some ⟨g2,0,none⟩) 2 2]] kV (fun x hx=>by
  simp only[A02,A14,or_false]at hx;subst hx;exact⟨rfl,A08.1 rfl⟩) rfl oV mV mV ?_
 intro g3 u3 l3 e3;refine G.buildU 144 3 24 (.agg #[.int .i64 0,.int .i64 0,.int .i64 0]) [.agg #[.int .i64 ((0:Nat):Int),.int .i64 ((1:Nat):Int),.int .i64 ((0:Nat):Int)]] kV (fun x hx=>by
  simp only[A02,A14,or_false]at hx;subst hx;exact⟨rfl,A08.1 rfl⟩) rfl oV mV mV ?_
 intro g4 u4 l4 e4;exact G.r (.agg #[.slice (some ⟨g1,0,none⟩) 2 2,.slice (some ⟨g3,0,none⟩) 1 1,.slice (some ⟨g4,0,none⟩) 1 1,.int .i64 1])
  ⟨rfl,g2,⟨_,_,_,_,_,_,rfl,e1.listP.mono ((l2.trans l3).trans l4),e3.listP.mono l4,e4.listP⟩,Az7 (e2.listP.mono (l3.trans l4))⟩
end
section
def Asb (g:Nat):List E7:=[([[49],[50]],1,(some ⟨g,0,none⟩,2))]
def Atg:List Par:=[((0:Int),[])]
theorem Azw:SmR (K6 [50])/\K6 [50]=2:=by
 obtain⟨h1,h2⟩:=P4 (t:=[50]) ⟨2,Alj,jV⟩;exact⟨h1,Am7 [50] 2 jV h1 h2⟩
theorem Avd:Cr Asq [[49],[50]]:=⟨rfl,fun i x t hx ht=>by
 match i,hx,ht with
 |0,hx,ht=>cases hx;cases ht;exact .inr (.inr (.inr ⟨rfl,1,Ih,jV⟩))
 |1,hx,ht=>cases hx;cases ht;exact .inr (.inr (.inr ⟨rfl,2,Alj,jV⟩))
 |i+2,hx,ht=>simp[Asq]at hx⟩
theorem Ayu:Cr Asq [[55],[]]:=⟨rfl,fun i x t hx ht=>by
 match i,hx,ht with
 |0,hx,ht=>cases hx;cases ht;exact .inr (.inr (.inr ⟨rfl,7,⟨jV,jV⟩,jV⟩))
 |1,hx,ht=>cases hx;cases ht;exact .inl rfl
 |i+2,hx,ht=>simp[Asq]at hx⟩
theorem Atz:Dk Asq Aro 1:=⟨fun f hf=>by
 simp[Aro]at hf;subst hf;exact⟨[120],2,rfl,.inl ⟨rfl,rfl,fV⟩,fV⟩,fV⟩
theorem Az0:Ws (cfT Aro 1 [[49],[50]])/\(cfT Aro 1 [[49],[50]]).s Aq=2:=by
 have hl:∀ l:Nat,(1:Int)=(l:Int)->l<([[49],[50]]:List (List UInt8)).length:=fun l hl=>by
  have:l=1:=oV
  subst this;decide
 have hc:T4 Aro 1 [[49],[50]]=true:=jV
 refine⟨?_,?_⟩
 ·rcases L9 Atz Avd oV hl with ⟨_,h⟩|⟨h,_⟩
  ·exact h
  ·rw[h]at hc;cases hc
 ·rw[Ajr Atz Avd oV hl hc (a:=1) (p:=Aq) (q:=K6 [50]) (by
   rw[Gq (w:=[50]) rfl];unfold Fg O7;rw[if_pos (show ((1:Nat):Int)=1 from rfl),if_neg fV];rfl),Azw.2]
theorem Azd (g:Nat):C8 Aro 1 (Asb g)=(CF.num 0).add ((cfT Aro 1 [[49],[50]]).scale ((1:Nat):Rat)):=rfl
theorem Atb (C:CF):R1 Aro C Atg:=⟨List.pairwise_singleton _ _,fun p=>by
 constructor
 ·intro h;have:p=(0,[]):=by simpa[Atg] using h
  subst this;exact .inl ⟨0,(0,1,0),rfl,rfl,rfl⟩
 ·rintro (⟨i,f,rfl,hf,_⟩|⟨_,i,f,_,hf,h2⟩)
  ·have:i<1:=(A0s.1 hf).1;have:i=0:=oV
   subst this;exact A1t.2 rfl
  ·have:i<1:=(A0s.1 hf).1;have:i=0:=oV
   subst this;cases hf;simp at h2⟩
theorem Au3 (e:Option Par):cfE 2 [(((0:Int),[]),0)] e=match e with|none=>2|some _=>0:=by
 cases e with
 |none=>rfl
 |some p =>
  show Bi p [(((0:Int),[]),0)]=0;unfold Bi;split
  ·rfl
  ·rfl
theorem Axf (g:Nat):(C8 Aro 1 (Asb g)).c=1/\Fv Atg (C8 Aro 1 (Asb g)) 1 (cfE 2 [(((0:Int),[]),0)])/\As3 1 (cfE 2 [(((0:Int),[]),0)]) Atg (C8 Aro 1 (Asb g))=0:=by
 obtain⟨ho,hl⟩:=Az0;rw[Azd];generalize cfT Aro 1 [[49],[50]]=H at ho hl;have h1:((1:Nat):Rat)=1:=rfl;refine⟨?_,?_,?_⟩
 ·show 0+H.c*((1:Nat):Rat)=1;rw[ho.c];decide +kernel
 ·intro e he;show As ((CF.num 0).add (H.scale ((1:Nat):Rat))) e none*cfE 2 [(((0:Int),[]),0)] none+(As ((CF.num 0).add (H.scale ((1:Nat):Rat))) e (some (0,[]))*cfE 2 [(((0:Int),[]),0)] (some (0,[]))+0)+Kp 1 (cfE 2 [(((0:Int),[]),0)]) e=Ay ((CF.num 0).add (H.scale ((1:Nat):Rat))) e;have hp:Kp 1 (cfE 2 [(((0:Int),[]),0)]) e=0:=by
   cases e with
   |none=>rfl
   |some p=>show 1*cfE 2 [(((0:Int),[]),0)] (some p)=0;rw[Au3];show (1:Rat)*0=0;decide +kernel
  have hr:Ay (CF.num 0) e=0:=by cases e<;>rfl
  rw[hp,Au3,Au3,Vv,Vv,T2,Ans.cell,Ans.cell,hr,ho.cell,ho.cell,ho.right,hl,h1];show (0+Afw H.s e*1*1)*2+((0+Afw H.s e*H.s (0,[])*1)*0+0)+0=0+2*Afw H.s e*1;grind
 ·unfold As3;rw[Alu,Ans.sq,ho.sq,hl,h1];have hs:G9 Atg (cfE 2 [(((0:Int),[]),0)])=0:=by
   show cfE 2 [(((0:Int),[]),0)] (some (0,[]))*cfE 2 [(((0:Int),[]),0)] (some (0,[]))+0=0;rw[Au3];show (0:Rat)*0+0=0;decide +kernel
  have hv:Ua (cfE 2 [(((0:Int),[]),0)]) Atg H.s=2:=by
   show cfE 2 [(((0:Int),[]),0)] none+(cfE 2 [(((0:Int),[]),0)] (some (0,[]))*H.s (0,[])+0)=2;rw[Au3,Au3];show 2+(0*H.s (0,[])+0)=2;grind
  rw[hs,hv];decide +kernel
theorem Awl (V:List (Par×Rat)):Atc 2 [(((0:Int),[]),0)] V=2:=by
 unfold Atc;rw[Bv fun t _=>by
  have:=Au3 (some t.1);rw[show cfE 2 [(((0:Int),[]),0)] (some t.1)=Bi t.1 [(((0:Int),[]),0)] from rfl]at this;rw[this];show t.2*0=0;grind]
 decide +kernel
theorem At2:Kl 1:=⟨jV,⟨30,jV,fV⟩,Ih.tx⟩
theorem Avm {u:PH}(ht:Lb u):Fn0 prog 19 [] u fun r _=>r=.bool true:=by
 refine Fn0.o func19 ?_;refine G.c call60 Ast ?_;rintro v1 u1 l1 ⟨g1,hX1,ok1⟩;obtain⟨xa,xc,xb,xd,xe,xf,rfl,_⟩:=id hX1;refine G.B 9 1 16 (.string (mkS [])) [.string (mkS [49]),.string (mkS [50])] (G4 [[49],[50]]) ?_;intro g2 u2 l2 e2;refine G.buildU 72 2 32 (.agg #[.slice none 0 0,.int .i64 0]) [.agg #[.slice (some ⟨g2,0,none⟩) 2 2,.int .i64 1]] kV (fun x hx=>by
  simp only[A02,A14,or_false]at hx;subst hx;exact⟨rfl,A08.1 rfl⟩) rfl oV mV mV ?_
 intro g3 u3 l3 e3;have hrows:Ab u3 (.slice (some ⟨g3,0,none⟩) (Asb g2).length 1) 2 ((Asb g2).map Id):=e3.listP;have hW:WOK u3 Asq (Asb g2):=fun y hy=>by
  have:y=([[49],[50]],1,(some ⟨g2,0,none⟩,2)):=by simpa[Asb] using hy
  subst this;exact⟨e2.listP.mono l3,Avd,A0w 1,by show 1<=7;omega⟩
 refine G.c call21 (Arf (hX1.mono (l2.trans l3)) (ok1.mono (l2.trans l3)) fV hrows hW (by simp[Asb])) ?_;rintro v4 u4 l4 ⟨x,rfl,k4⟩;have l14:=(l2.trans l3).trans l4;obtain⟨k,hMe⟩:=As9 (hX1.mono l14) (ok1.mono l14) fV hW.tup (by simp[Asb]) fV oV k4 (by simp[Asb]);have hto:=Axh (R:=Asw g1) (ok1.mono l14) fV hW.tup (by simp[Asb]) At2;have hpsd:=fun P z=>Ahu (L:=Asb g2) Atz oV (Xi ok1) z P fun y hy=>(hW.tup y hy).1;obtain⟨hc1,hno,hlo⟩:=Axf g2;have ht4:=ht.mono (l1.trans l14);generalize C8 Aro 1 (Asb g2)=C at hMe hc1 hno hlo k4 hto hpsd;have h0:k≠0:=by
  rintro rfl;have:=hMe.mom.c;rw[hc1]at this;exact absurd this jV
 have hre:∀ {u':PH} {v':Value} {g':Nat},PH.le u4 u'->F1 u' v' Asq (Asw g') Aro 1->Bn u' Asq (Asw g') Aro 1->Arn u' v' x Asq (Asw g') Aro 1 C (255*(Asb g2).length) k:=fun l hX ok=>⟨hX,ok,hMe.cof.mono l,hMe.sC,hMe.vC,hMe.K,hMe.bel,hMe.mom,hMe.p24,hMe.lab0⟩;obtain⟨a1,n1,c1,a2,n2,c2,rfl⟩:=k4.opn;refine G.c call60 Ast ?_;rintro v5 u5 l5 ⟨g5,hX5,ok5⟩;obtain⟨ya,yc,yb,yd,ye,yf,rfl,_⟩:=id hX5;have htr:=Asp (ht4.mono l5) (hre l5 hX5 ok5) At2.w hto;rw[Yw]at htr;refine G.c call22 htr ?_;rintro v6 u6 l6 (⟨e,rfl,⟨_,h⟩|⟨_,_,P,hP,h⟩⟩|⟨_,P,mv,m0,qs,hPL,_,hql,rfl,hmv,hm,hn⟩)
 ·exact absurd h h0
 ·rw[hP.eq (Atb C)]at h;exact absurd h fV
 obtain rfl:=hPL.eq (Atb C);have hc0:0<C.c:=by rw[hc1];decide +kernel
 obtain⟨rfl,rfl⟩:=Atl (P:=Atg) fV hql (qs':=[0]) (m0':=2) rfl (Atq hn hno At2.pos hc0 (hpsd Atg));have hzip:Atg.zip [0]=([(((0:Int),[]),0)]:List (Par×Rat)):=rfl;rw[hzip]at hmv hm hn;obtain⟨na,nc,rfl,_⟩:=id hmv.val;have le6:=l5.trans l6;have ht6:=ht4.mono le6;refine G.both [1] 0 2 [3,4,5,6,7,8] kV ?wa ?wb
 case' wa =>
  refine G.c call60 Ast ?_;rintro v7 u7 l7 ⟨g7,hX7,ok7⟩;refine G.B 9 1 16 (.string (mkS [])) [.string (mkS [55]),.string (mkS [])] (G4 [[55],[]]) ?_;intro g8 u8 l8 e8;have hX8:=hX7.mono l8;have ok8:=ok7.mono l8;have hL8:Ab u8 (.slice (some ⟨g8,0,none⟩) 2 2) 1 (([[55],[]]:List (List UInt8)).map nmV):=e8.listP
 case' wb =>
  refine G.B 9 1 16 (.string (mkS [])) [.string (mkS [55]),.string (mkS [])] (G4 [[55],[]]) ?_;intro g8 u7 l7 e8;refine G.c call60 Ast ?_;rintro v7 u8 l8 ⟨g7,hX8,ok8⟩;have hL8:Ab u8 (.slice (some ⟨g8,0,none⟩) 2 2) 1 (([[55],[]]:List (List UInt8)).map nmV):=(e8.mono l8).listP
 all_goals
  obtain⟨za,zc,zb,zd,ze,zf,rfl,_⟩:=id hX8;have l68:=l7.trans l8;have hpr:=Aum (P:=Atg) (ht6.mono l68) ⟨hX8,ok8,hL8,Ayu⟩ (hmv.mono l68) hm fV (Au1 (Atb C) hMe.vC) (by rw[Awl];exact Alj.tx);rw[Awl,Ahw]at hpr;refine G.c call29 hpr ?_;rintro v9 u9 l9 rfl;refine G.c call60 Ast ?_;rintro v10 u10 l10 ⟨g10,hX10,ok10⟩;obtain⟨wa,wc,wb,wd,we,wf,rfl,_⟩:=id hX10;have l610:=(l68.trans l9).trans l10;have hls:=Axz (ht6.mono l610) (hre (le6.trans l610) hX10 ok10) At2.w (Atb C) (hmv.mono l610) hm (fun _ _=>by rw[hlo];exact W4);rw[hlo,Hf,Yw]at hls;refine G.c call26 hls ?_;rintro v11 u11 l11 (⟨e,rfl,⟨_,h⟩|⟨_,_,h⟩⟩|⟨_,_,rfl⟩)
  ·exact absurd h h0
  ·exact absurd h fV
  refine G.eT' 0 0 rfl ?_;refine G.buildU 81 3 40 (.agg #[.int .i64 0,.string (mkS []),.string (mkS [])]) [.agg #[.int .i64 0,.string (mkS []),.string (mkS [48])]] kV (fun x hx=>by
   simp only[A02,A14,or_false]at hx;subst hx;exact⟨rfl,A08.1 rfl⟩) rfl oV mV mV ?_
  intro g12 u12 l12 e12;have hm2:Ar9 u12 (.agg #[.string (mkS [50]),.slice (some ⟨g12,0,none⟩) 1 1]) 2 [(((0:Int),[]),0)]:=⟨some ⟨g12,0,none⟩,1,by rw[Ahw];rfl,by
   have:=e12.listP;rwa[show [Value.agg #[.int .i64 0,.string (mkS []),.string (mkS [48])]]=([(((0:Int),[]),0)]:List (Par×Rat)).map A5 by simp[A5,Hf]]at this⟩
  have l612:=(l610.trans l11).trans l12;refine G.c call23 (Atr (hmv.mono l612) hm2 mV) ?_;rintro v13 u13 l13 rfl;refine G.eT' 0 0 rfl ?_;refine G.q [50] [50] rfl ?_;refine G.eT' 0 0 rfl ?_;refine G.q [48] [48] rfl ?_;refine G.c call60 Ast ?_;rintro v14 u14 l14 ⟨g14,hX14,ok14⟩;obtain⟨ta,tc,tb,td,te,tf,rfl,_⟩:=id hX14;refine G.c call61 (Agi hX14 ok14 (hmv.mono ((l612.trans l13).trans l14)) hm fV (Au1 (Atb C) hMe.vC)) ?_;rintro v15 u15 l15 rfl;exact G.r (.bool true) ⟨rfl,rfl⟩
end
section
variable {w:World}
variable [Cc] [Dy]
section
variable {P:Program} [Ba P] {fn:Func} {Post:B0} {st:List KI×S} {u m:PH}
theorem PH.or_le {x y z:PH}(h:PH.le x z)(h':PH.le y z):PH.le (x.or y) z:=fun g o hg=>by
 cases hx:x g with
 |none=>rw[PH.or_r hx]at hg;exact h' g o hg
 |some p=>rw[PH.or_l hx]at hg;cases hg;exact h g _ hx
theorem Bx.both (h:Bx u m w):PH.le u (m.or u)/\Bx (m.or u) PH.mt w:=by
 have hle:PH.le u (m.or u):=fun g o hg=>by
  cases hx:m g with
  |none=>rw[PH.or_r hx];exact hg
  |some p=>have:=(h.ap g).resolve_right (by rw[hx];simp);rw[this]at hg;cases hg
 refine⟨hle,⟨fun g o hg=>?_,Eb.mt w,fun _=>.inr rfl,fun g cs t fr j z hg hj=>hle g _ (h.cl g cs t fr j z hg hj)⟩⟩;cases hx:m g with
 |none=>rw[PH.or_r hx]at hg;exact h.pu g o hg
 |some p=>rw[PH.or_l hx]at hg;cases hg;exact h.pm g _ hx
theorem Bx.apart {w w':World}{u'':PH}(h:Bx u m w)(g:Bx u'' PH.mt w')(gr:Bz (m.or u) PH.mt w u'' PH.mt w'):∃ u',m.or u'=u''/\Bx u' m w'/\Bz u m w u' m w':=by
 have hm:∀ b o,m b=some o->u'' b=some o:=fun b o hb=>by
  rw[gr.us b (h.pm.lt hb)];exact PH.or_l hb
 refine⟨fun b=>if (m b).isNone then u'' b else none,?_,⟨fun b o hb=>?_,fun b o hb=>?_,fun b=>?_,fun b cs t fr j z hb hj=>?_⟩,⟨gr.sz,fun b hb _=>gr.old b hb rfl,fun b hb=>?_,fun b _ hb=>hb,gr.io,gr.dr⟩⟩
 ·funext b
  cases hx:m b with
  |none=>rw[PH.or_r hx];simp[hx]
  |some p=>rw[PH.or_l hx,hm b p hx]
 ·have hb:(if (m b).isNone then u'' b else none)=some o:=hb;split at hb
  ·exact g.pu b o hb
  ·cases hb
 ·exact g.pu b o (hm b o hb)
 ·cases hx:m b with
  |none=>exact .inr rfl
  |some p=>left;simp[hx]
 ·have h1:=g.cl b cs t fr j z hb hj;cases hx:m b with
  |none=>simp[hx,h1]
  |some p =>
   have h2:=hm b p hx;rw[h1]at h2;cases h2;have h3:=h.cl b cs t fr j z (h.pm b _ hx) hj;have:=(h.ap b).resolve_right (by rw[hx];simp);rw[this]at h3;cases h3
 ·show (if (m b).isNone then u'' b else none)=u b;cases hx:m b with
  |none=>simp only[Option.isNone_none,if_true];rw[gr.us b hb,PH.or_r hx]
  |some p=>simp only[Option.isNone_some,Bool.false_eq_true,if_false];exact ((h.ap b).resolve_right (by rw[hx];simp)).symm
theorem G.callJ (f:Nat)(args:List Value){R:Value->PH->Prop}(h:Al P (adv P st)=.call f args)(hc:∀ args w,(callFunc f args).run P w=.ok (.enter f args) w)(c:PH.le u (m.or u)->PH.le m (m.or u)->Fn0 P f args (m.or u) R)
 (k:∀ v u',PH.le u u'->R v (m.or u')->G P fn Post (nx (adv P st) v) u' m):G P fn Post st u m:=by
 refine G.big (K:=fun v u' m'=>m'=m/\R v (m.or u')) h mV Fm (.inl fun v u' m' hK=>by rw[hK.1];exact PH.le_refl _) (fun env o hview w hgd=>?_) (fun v u' m' h1 h2=>?_)
 ·refine Lz hview hc w _ (Calls.mono (c hgd.both.1 (fun g o hg=>PH.or_l hg) w hgd.both.2) fun e w' he=>?_);obtain⟨v,u'',m',e1,e2,e3,rfl,e4⟩:=he;obtain⟨u',eu,g1,g2⟩:=hgd.apart e2 e3;exact⟨v,e1,u',m,g1,g2,rfl,by rw[eu];exact e4⟩
 ·obtain⟨rfl,hR⟩:=h2;exact k v u' h1 hR
end
end
section
theorem Auo:∀ L:List E7,A3 2 (L.map Id):=fun L e he=>by
 obtain⟨y,_,rfl⟩:=A0u.1 he;exact Z0 y _ mV
theorem Ay7 {u:PH}{v:Value}{ts:List Int}(ht:Lb u)(hv:Ab u v 1 (Dx ts))(hlo:∀ t∈ts,-9223372036854775808<=t)(hhi:∀ t∈ts,t<=9223372036854775807) :
 Fn0 prog 4 [v] u fun v' _=>v'=.bool true:=by
 obtain⟨a,c,rfl⟩:=hv.opn;rw[Aqg]at hv⊢;refine Fn0.o func4 ?_;by_cases h400:400<ts.length
 ·refine G.gT (ts.length:Int) 400 ?_;refine G.c call19 (Avm ht) ?_;rintro v1 u1 l1 rfl;exact G.r (.bool true) ⟨rfl,rfl⟩
 refine G.gF (ts.length:Int) 400 ?_;refine G.callO _ _ kV call9 (Alv hv oV hlo hhi) ?_;rintro v1 u1 m1 l1 ⟨s,rfl,rfl,hs⟩ _;rw[C2];refine G.A call20 (Ayx hs (A1m _)) ?_;rintro v2 u2 m2 l2 ⟨T,R,F,lab,L,xv,lv,cv,k2,rfl,w,hk2,rfl⟩ _;rw[C2];have ht2:=ht.mono (l1.trans l2);have hl6:=w.l6;have hT:=w.wok.tup;obtain⟨k,hMe⟩:=As9 w.sch w.ok w.t8 hT oV w.f5 w.lab0 w.cof oV;have hpsd:=fun P z=>Ahu w.ok.feat w.ok.l1 (Xi w.ok) z P fun y hy=>(hT y hy).1;obtain⟨xa,xc,xb,xd,xe,xf,rfl,_⟩:=id w.sch;obtain⟨a1,n1,c1,a2,n2,c2,rfl⟩:=id w.cof.opn;have hrows:=w.rows;obtain⟨la,lc,rfl⟩:=hrows.opn;rw[A0p]at hrows⊢;refine G.A call12 (Y7 (hs.mono l2) hk2) ?_;rintro v3 u3 m3 l3 ⟨q,k3,rfl,hq,hk3,rfl⟩ _;rw[C2];refine G.c call13 (Wm hq.tx hq.tx hq.two.1.tx) ?_;rintro v4 u4 l4 rfl;have l24:=l3.trans l4;refine G.appendL 72 2 32 (.agg #[.slice none 0 0,.int .i64 0]) (s.M k3) [] (L.map Id) (.slice none 0 0) la L.length lc kV rfl rfl oV (Ae.nil _ _ _) (hrows.mono l24) (Auo L) gV gV ?_;intro v5 m5 hA5;rw[A2t]at hA5;obtain⟨a5,c5,rfl⟩:=hA5.shape;refine G.appendL 72 2 32 (.agg #[.slice none 0 0,.int .i64 0]) (s.M k3) (L.map Id) (L.map Id) (.slice a5 (L.map Id).length c5) la L.length lc kV rfl rfl oV hA5 (hrows.mono l24) (Auo L) gV gV ?_;intro v6 m6 hA6;rw[<-List.map_append]at hA6;obtain⟨a6,c6,rfl⟩:=hA6.shape;have hll:((L++L).map Id).length=(L++L).length:=A0p ..;rw[hll]at hA6⊢;have hl12:(L++L).length<=12:=by rw[A0z];omega
 have hT2:∀ y∈L++L,Cr T y.1/\y.2.1<=7:=fun y hy=>by
  rcases A01.1 hy with h|h<;>exact hT y h
 have hW2:WOK u2 T (L++L):=fun y hy=>by
  rcases A01.1 hy with h|h<;>exact w.wok y h
 refine G.callJ (R:=fun r u'=>Apm u' r (C8 F lab (L++L)) (255*(L++L).length)) _ _ kV call21 (fun hl hm=>Arf (w.sch.mono (l24.trans hl)) (w.ok.mono (l24.trans hl)) w.t8 (hA6.list hm) (hW2.mono (l24.trans hl)) hl12) ?_;rintro v7 u7 l7 ⟨x7,rfl,k7⟩;obtain⟨e1,f1,g1,e2,f2,g2,rfl⟩:=k7.opn;refine G.giveP (ma:=m6) (sm:=PH.mt) kV (Aii m6).symm (fun g=>.inr rfl) (fun g=>.inl rfl) ?_;intro u8 l8 hm8;have k8:=k7.mono (PH.or_le hm8 l8);have l28:=(l24.trans l7).trans l8;obtain⟨k',hMe2⟩:=As9 (w.sch.mono l28) (w.ok.mono l28) w.t8 hT2 hl12 w.f5 w.lab0 k8 oV;have hkk:k'=k+k:=by
  have h1:=hMe2.mom.c;have h2:(C8 F lab (L++L)).c=(C8 F lab L).c+(C8 F lab L).c:=by rw[Arw];rfl
  rw[h2,hMe.mom.c,<-Rat.natCast_add]at h1;exact (Rat.natCast_inj.1 h1).symm
 refine G.c call22 (Asp (ht2.mono l28) (hMe.mono l28) hq.w (Axh w.ok w.t8 hT hl6 hq)) ?_;intro v9 u9 l9 hO1;obtain⟨mv,e9,rfl,hmv⟩:∃ (mv:Value) (e:Int),v9=.tuple #[mv,.int .i64 e]/\∃ y a n c,mv=.agg #[.string y,.slice a n c]:=by
  rcases hO1 with ⟨e,rfl,_⟩|⟨_,P,mv,m0,qs,_,_,_,rfl,hmv,_⟩
  ·exact⟨Aw7,e,rfl,_,_,_,_,rfl⟩
  ·obtain⟨a,c,rfl,_⟩:=hmv.val;exact⟨_,0,rfl,_,_,_,_,rfl⟩
 obtain⟨y9,b9,n9,c9,rfl⟩:=hmv;refine G.c call22 (Asp (ht2.mono (l28.trans l9)) (hMe2.mono l9) hq.two.1 (Ayc w.ok w.t8 hT hl6 hq)) ?_;intro v10 u10 l10 hO2;have hsn:=Avm (ht2.mono ((l28.trans l9).trans l10));rcases hO1 with ⟨e,he,h1⟩|⟨h0,P,mv,m0,qs,hPL,hP11,hql,he,hmv,hm,hn⟩
 ·simp only[Aw7,Ba8,A3z,A18,Value.agg.injEq,Value.string.injEq,A09,A8b,true_and,and_true]at he;obtain⟨⟨rfl,rfl,rfl,rfl⟩,rfl⟩:=he;have hO3:v10=.tuple #[Aw7,.int .i64 e9]:=by
   rcases hO2 with ⟨e',rfl,h2⟩|⟨h0',P',_,_,_,hPL',hP11',_⟩
   ·have:e'=e9:=by
     rcases h1 with ⟨rfl,h1⟩|⟨rfl,h1,_⟩<;>rcases h2 with ⟨rfl,h2⟩|⟨rfl,h2,_⟩<;>omega
    rw[this]
   ·exfalso;rcases h1 with ⟨_,h1⟩|⟨_,h1,P,hP,h3⟩
    ·omega
    ·rw[Arw]at hPL';rw[hP.eq (As8 hPL')]at h3;omega
  subst hO3;have he0:e9≠0:=by rcases h1 with ⟨rfl,_⟩|⟨rfl,_⟩<;>decide
  refine G.nF 0 0 ?_;refine G.nF' e9 e9 (fun h=>h rfl) ?_;refine G.nT' e9 0 he0 ?_;refine G.c call19 hsn ?_;rintro v11 u11 l11 rfl;exact G.r (.bool true) ⟨rfl,rfl⟩
 ·simp only[Ba8,A3z,A18,A8b,true_and,and_true]at he;obtain⟨rfl,rfl⟩:=he;rcases hO2 with ⟨e',rfl,h2⟩|⟨h0',P',mv',m0',qs',hPL',hP11',hql',rfl,hmv',hm',hn'⟩
  ·exfalso;rcases h2 with ⟨_,h2⟩|⟨_,h2,P',hP',h3⟩
   ·omega
   ·rw[Arw]at hP';rw[(As8 hP').eq hPL]at h3;omega
  rw[Arw]at hPL' hn';obtain rfl:=hPL.eq (As8 hPL');obtain⟨rfl,rfl⟩:=Atl (hPL.1.nodup Dp) hql hql' (Atq hn (Att hn') hq.pos (hMe.mom.cpos h0) (hpsd P));obtain⟨ma,mc,rfl,_⟩:=id hmv'.val;refine G.nF 0 0 ?_;refine G.nF 0 0 ?_;refine G.nF 0 0 ?_;refine G.nF 0 0 ?_;refine G.c call23 (Atr (hmv.mono l10) hmv' (by rw[Bby];omega)) ?_;rintro v11 u11 l11 rfl;refine G.c call19 (Avm (ht2.mono (((l28.trans l9).trans l10).trans l11))) ?_;rintro v12 u12 l12 rfl;exact G.r (.bool true) ⟨rfl,rfl⟩
end
end Go.Proofs.YtanfagpabkdmiaaGreatDoor
