/- Parts of one proof, joined by a program. -/
import Derived.Test.YtanfagpabkdmiaaGreatDoorN09
set_option linter.unusedVariables false
set_option linter.unusedSimpArgs false
set_option linter.unusedSectionVars false
set_option maxHeartbeats 16000000
namespace Go.Proofs.YtanfagpabkdmiaaGreatDoor
open Go.Proofs.Tryz
open Go.RowKit Go.MapKept
open Classical renaming byContradiction -> A44
open Int renaming lt_or_le -> A5n
open Lib renaming itoa -> A1a
open List renaming append_assoc -> A1j, drop_of_length_le -> A1u, getD_eq_getElem?_getD -> A0o, getElem?_eq_getElem -> A0n, getElem?_eq_none -> A1g, getElem?_eq_some_iff -> A0s, getElem?_map -> A0v, getElem?_set -> A25, getElem_map -> A4r, length -> A35, length_append -> A0z, length_cons -> A2n, length_map -> A0p, length_nil -> A3i, map_append -> A07, map_cons -> A1y, map_drop -> Bcd, map_nil -> A5o, map_take -> A57, mem_append -> A01, mem_map -> A0u, mem_of_getElem? -> A1b, mem_singleton -> A1t, pairwise_append -> A3a, pairwise_iff_getElem -> A3q, take_add_one -> A1c, take_append_drop -> A37, take_length -> A1k
open Nat renaming add_assoc -> A28, add_mul -> A1o, le_refl -> A0w, lt_or_ge -> A11, pow_le_pow_right -> A1l, zero_add -> A2b
open Rat renaming add_comm -> A4y, zero_add -> A9d
open Value renaming bool -> A6a, cells -> A1e, int -> A15, slice.injEq -> A09
section
theorem Ajm {u:PH}{F H:CF}{N M:Nat}{v w:Value}(hv:Ov u v F N)(hw:Ov u w H M)(ok:Am4 F H) :
 Ai prog 139 [v,w] u PH.mt fun v' u' m'=>H6 m' u' v' (F.mul H) (M+N+N*M):=by
 obtain⟨vb,va,vn,vc,vb',va',vn',vc',v1,v2,q1,q2,rfl,hvc,f1,f2,s1,s2⟩:=id hv;obtain⟨wb,wa,wn,wc,wb',wa',wn',wc',w1,w2,p1,p2,rfl,hwc,e1,e2,t1,t2⟩:=id hw;obtain⟨lv,⟨esv,clv,rfl,hkv,hsv⟩,hlv,hzv,hnv⟩:=s1.at;obtain⟨lw,⟨esw,clw,rfl,hkw,hsw⟩,hlw,hzw,hnw⟩:=t1.at;obtain⟨kv,⟨fsv,dlv,rfl,hkv2,hsv2⟩,hlv2,hzv2,hnv2⟩:=s2.at;obtain⟨kw,⟨fsw,dlw,rfl,hkw2,hsw2⟩,hlw2,hzw2,hnw2⟩:=t2.at;have hndv:(lv.map (·.1)).Nodup:=Ec.nodup (enc:=An) ⟨esv,clv,rfl,hkv,hsv⟩;have hndw:(lw.map (·.1)).Nodup:=Ec.nodup (enc:=An) ⟨esw,clw,rfl,hkw,hsw⟩;have hndv2:(kv.map (·.1)).Nodup:=Ec.nodup (enc:=prV) ⟨fsv,dlv,rfl,hkv2,hsv2⟩;have hndw2:(kw.map (·.1)).Nodup:=Ec.nodup (enc:=prV) ⟨fsw,dlw,rfl,hkw2,hsw2⟩;refine Ai.o func139 ?_;refine G.callO _ _ kV call63 (Hi (n:=0) oV oV) ?_;rintro v3 u3 m3 l3 ⟨b,a,n,c,b',a',n',c',g1,g2,o1,o2,rfl,_,ne3,rfl,h1,h2⟩ _;rw[C2];refine G.c call34 (Eo (hvc.mono l3) (hwc.mono l3) (SB.ten ok.a.c) (SB.ten ok.b.c)) ?_;intro v5 u5 l5 r5;obtain⟨b2,a2,x2,c2,a2',x2',c2',rfl,_⟩:=r5.opn;have le5:=l3.trans l5;obtain⟨m5,hm5,hg5,hh5⟩:∃ m5:PH,m5=(PH.mt.upd g1 o1).upd g2 o2/\m5 g1=some o1/\m5 g2=some o2:=⟨_,rfl,by rw[Ad _ _ ne3,Ac],Ac _ _ _⟩;rw[<-hm5];have hc1:CFS (F.scale H.c):=ok.d;have hc2:CFS (H.scale F.c):=ok.c;have hsum:∀ k,SB ((F.scale H.c).s k+H.s k*F.c):=fun k=>by rw[A4y];exact ok.e.s k
 have hsumt:∀ k,SB ((F.scale H.c).t k+H.t k*F.c):=fun k=>by rw[A4y];exact ok.e.t k
 have hz1:∀ k:Par,SB ((fun _:Par=>(0:Rat)) k+F.s k*H.c):=fun k=>by show SB (0+F.s k*H.c);rw[A9d];exact hc1.s k
 have hz2:∀ k:Par×Par,SB ((fun _:Par×Par=>(0:Rat)) k+F.t k*H.c):=fun k=>by show SB (0+F.t k*H.c);rw[A9d];exact hc1.t k
 have hS0:C5 An KT u5 o1 (fun _=>0) 0:=h1.mono l5;have hP0:C5 prV KO u5 o2 (fun _=>0) 0:=h2.mono l5;have le0:=le5;refine G.mapRange v1 esv clv 79 68 kV (.inl (le5 _ _ f1)) ?_;intro itA himA hiuA;have i1A:g1≠itA:=fun e=>by subst e;rw[himA]at hg5;cases hg5
 have i2A:g2≠itA:=fun e=>by subst e;rw[himA]at hh5;cases hh5
 refine G.l (ι:=List MapEntry×List ((Par)×Value)) (fun _=>[(2,.p 0 0),(3,.p 1 0),(4,.p 2 0),(5,.p 1001 0),(28,.v (.pointer (some ⟨itA,0,none⟩)))])
  (fun _=>[(0,⟨136,[bV vb,sV va vn vc,bV vb',sV va' vn' vc',.v (.map (some v1)),.v (.map (some v2))]⟩),(1,⟨136,[bV wb,sV wa wn wc,bV wb',sV wa' wn' wc',.v (.map (some w1)),.v (.map (some w2))]⟩),(2,⟨136,[bV false,sV none 0 0,bV false,sV none 0 0,.v (.map none),.v (.map none)]⟩),(1001,⟨136,[bV b2,sV a2 x2 c2,bV false,sV a2' x2' c2',.v (.map (some g1)),.v (.map (some g2))]⟩)])
  (fun i u' m'=>Eq An esv lv i.1 i.2/\m' itA=some (.mapIter (some v1) clv (Ar i.1) clv)/\m' g2=some o2/\∃ oo,m' g1=some oo/\C5 An KT u' oo (Dd (fun _=>0) F.s H.c (i.2.map (·.1))) (0+i.2.length))
  (fun i=>lv.length-i.2.length) ([],[])
  ⟨Eq.nil _ _,Ac _ _ _,by rw[Ad _ _ i2A];exact hh5,_,by rw[Ad _ _ i1A];exact hg5,by
   have:Dd (fun _=>0) F.s H.c (([]:List ((Par)×Value)).map (·.1))=(fun _=>0):=by funext k;simp[Dd]
   dsimp only;rw[this];exact hS0⟩ ?_
 rintro JA ⟨D,LA⟩ hJA uA mA lA ⟨hS,hit,hothA,oA,hooA,hRA⟩;simp only at hS hit hothA hooA hRA hJA;have leA:=le5.trans lA;refine G.mapNextL Bt.inj itA v1 esv clv lv D LA kV kV hit (.inl (leA _ _ f1)) hsv hkv hndv hS ?doneA ?nextA
 case nextA =>
  rintro⟨k,xv⟩ e hp hkn he hek hev hS';simp only at hkn hek hev;obtain⟨hx,hko⟩:=hlv _ hp;simp only at hx hko;obtain⟨yb,ya,yn,yc,ya',yn',yc',rfl,_⟩:=hx.opn;refine G.mapEntry itA v1 esv clv D e kV (Ac _ _ _) (.inl (leA _ _ f1)) hsv he ?_;rw[hek,hev];refine G.c call34 (Eo (hx.mono leA) (hwc.mono leA) (SB.ten (ok.a.s k)) (SB.ten ok.b.c)) ?_;intro v4 u4 le4 r4;obtain⟨b4,a4,x4,c4,a4',x4',c4',rfl,_⟩:=r4.opn;refine G.callG _ _ kV kV call137 (g:=g1) (o:=oA) (by rw[Ad _ _ i1A];exact hooA)
   (Lp (g2:=some g2) (y1:=b2) (y2:=(a2,x2,c2)) (y3:=false) (y4:=(a2',x2',c2')) (hRA.mono le4) r4 (hc1.s k) (Md (fun _=>SB.zero) hz1 k) (by
    have:Dd (fun _=>0) F.s H.c (LA.map (·.1)) k=(fun _=>0) k:=by unfold Dd;rw[if_neg hkn]
    rw[this,A4y];exact hz1 k)) ?_
  intro v5 u5 o5 le5' r5';rw[He _ _ _ hkn]at r5';refine G.b (hJA (D++[e],LA++[(k,_)]) _ _ _ cV ((lA.trans le4).trans le5')
   ⟨hS',by rw[Ad _ _ (Ne.symm i1A),Ac],by rw[Ad _ _ (Ne.symm ne3),Ad _ _ i2A];exact hothA,o5,Ac _ _ _,by
    simpa[A28] using r5'⟩ (by have:=hS'.len;simp at this;dsimp only;simp;omega))
 case doneA =>
 intro hall;rw[I4 _ _ _ fun k hk=>hzv k fun hm=>hk (by
  obtain⟨p,hp,rfl⟩:=A0u.1 hm;exact A0u.2 ⟨p,hall p hp,rfl⟩)]at hRA
 have hLlA:=hS.len;have hSA:=hRA.congr (f':=(F.scale H.c).s) (fun k=>by show 0+F.s k*H.c=F.s k*H.c;rw[A9d]);have hPA:=hP0.mono lA;clear hJA hS hit hall hRA;refine G.mapRange w1 esw clw 79 68 kV (.inl (leA _ _ e1)) ?_;intro itB himB hiuB;have i1B:g1≠itB:=fun e=>by subst e;rw[himB]at hooA;cases hooA
 have i2B:g2≠itB:=fun e=>by subst e;rw[himB]at hothA;cases hothA
 refine G.l (ι:=List MapEntry×List ((Par)×Value)) (fun _=>[(2,.p 0 0),(3,.p 1 0),(4,.p 2 0),(5,.p 1001 0),(43,.v (.pointer (some ⟨itB,0,none⟩)))])
  (fun _=>[(0,⟨136,[bV vb,sV va vn vc,bV vb',sV va' vn' vc',.v (.map (some v1)),.v (.map (some v2))]⟩),(1,⟨136,[bV wb,sV wa wn wc,bV wb',sV wa' wn' wc',.v (.map (some w1)),.v (.map (some w2))]⟩),(2,⟨136,[bV false,sV none 0 0,bV false,sV none 0 0,.v (.map none),.v (.map none)]⟩),(1001,⟨136,[bV b2,sV a2 x2 c2,bV false,sV a2' x2' c2',.v (.map (some g1)),.v (.map (some g2))]⟩)])
  (fun i u' m'=>Eq An esw lw i.1 i.2/\m' itB=some (.mapIter (some w1) clw (Ar i.1) clw)/\m' g2=some o2/\∃ oo,m' g1=some oo/\C5 An KT u' oo (Dd (F.scale H.c).s H.s F.c (i.2.map (·.1))) (0+LA.length+i.2.length))
  (fun i=>lw.length-i.2.length) ([],[])
  ⟨Eq.nil _ _,Ac _ _ _,by rw[Ad _ _ i2B];exact hothA,_,by rw[Ad _ _ i1B];exact hooA,by
   have:Dd (F.scale H.c).s H.s F.c (([]:List ((Par)×Value)).map (·.1))=(F.scale H.c).s:=by funext k;simp[Dd]
   dsimp only;rw[this];exact hSA⟩ ?_
 rintro JB ⟨D,LB⟩ hJB uB mB lB ⟨hS,hit,hothB,oB,hooB,hRB⟩;simp only at hS hit hothB hooB hRB hJB;have leB:=leA.trans lB;refine G.mapNextL Bt.inj itB w1 esw clw lw D LB kV kV hit (.inl (leB _ _ e1)) hsw hkw hndw hS ?doneB ?nextB
 case nextB =>
  rintro⟨k,xv⟩ e hp hkn he hek hev hS';simp only at hkn hek hev;obtain⟨hx,hko⟩:=hlw _ hp;simp only at hx hko;obtain⟨yb,ya,yn,yc,ya',yn',yc',rfl,_⟩:=hx.opn;refine G.mapEntry itB w1 esw clw D e kV (Ac _ _ _) (.inl (leB _ _ e1)) hsw he ?_;rw[hek,hev];refine G.c call34 (Eo (hx.mono leB) (hvc.mono leB) (SB.ten (ok.b.s k)) (SB.ten ok.a.c)) ?_;intro v4 u4 le4 r4;obtain⟨b4,a4,x4,c4,a4',x4',c4',rfl,_⟩:=r4.opn;refine G.callG _ _ kV kV call137 (g:=g1) (o:=oB) (by rw[Ad _ _ i1B];exact hooB)
   (Lp (g2:=some g2) (y1:=b2) (y2:=(a2,x2,c2)) (y3:=false) (y4:=(a2',x2',c2')) (hRB.mono le4) r4 (hc2.s k) (Md hc1.s hsum k) (by
    have:Dd (F.scale H.c).s H.s F.c (LB.map (·.1)) k=(F.scale H.c).s k:=by unfold Dd;rw[if_neg hkn]
    rw[this,A4y];exact hsum k)) ?_
  intro v5 u5 o5 le5' r5';rw[He _ _ _ hkn]at r5';refine G.b (hJB (D++[e],LB++[(k,_)]) _ _ _ cV ((lB.trans le4).trans le5')
   ⟨hS',by rw[Ad _ _ (Ne.symm i1B),Ac],by rw[Ad _ _ (Ne.symm ne3),Ad _ _ i2B];exact hothB,o5,Ac _ _ _,by
    simpa[A28] using r5'⟩ (by have:=hS'.len;simp at this;dsimp only;simp;omega))
 case doneB =>
 intro hall;rw[I4 _ _ _ fun k hk=>hzw k fun hm=>hk (by
  obtain⟨p,hp,rfl⟩:=A0u.1 hm;exact A0u.2 ⟨p,hall p hp,rfl⟩)]at hRB
 have hLlB:=hS.len;have hSB:=hRB.congr (f':=(F.mul H).s) (fun k=>by show F.s k*H.c+H.s k*F.c=H.s k*F.c+F.s k*H.c;rw[A4y]);have hPB:=hPA.mono lB;clear hJB hS hit hall hRB;refine G.mapRange v2 fsv dlv 206 68 kV (.inl (leB _ _ f2)) ?_;intro itC himC hiuC;have i1C:g1≠itC:=fun e=>by subst e;rw[himC]at hooB;cases hooB
 have i2C:g2≠itC:=fun e=>by subst e;rw[himC]at hothB;cases hothB
 refine G.l (ι:=List MapEntry×List ((Par×Par)×Value)) (fun _=>[(2,.p 0 0),(3,.p 1 0),(4,.p 2 0),(5,.p 1001 0),(58,.v (.pointer (some ⟨itC,0,none⟩)))])
  (fun _=>[(0,⟨136,[bV vb,sV va vn vc,bV vb',sV va' vn' vc',.v (.map (some v1)),.v (.map (some v2))]⟩),(1,⟨136,[bV wb,sV wa wn wc,bV wb',sV wa' wn' wc',.v (.map (some w1)),.v (.map (some w2))]⟩),(2,⟨136,[bV false,sV none 0 0,bV false,sV none 0 0,.v (.map none),.v (.map none)]⟩),(1001,⟨136,[bV b2,sV a2 x2 c2,bV false,sV a2' x2' c2',.v (.map (some g1)),.v (.map (some g2))]⟩)])
  (fun i u' m'=>Eq prV fsv kv i.1 i.2/\m' itC=some (.mapIter (some v2) dlv (Ar i.1) dlv)/\m' g1=some oB/\∃ oo,m' g2=some oo/\C5 prV KO u' oo (Dd (fun _=>0) F.t H.c (i.2.map (·.1))) (0+i.2.length))
  (fun i=>kv.length-i.2.length) ([],[])
  ⟨Eq.nil _ _,Ac _ _ _,by rw[Ad _ _ i1C];exact hooB,_,by rw[Ad _ _ i2C];exact hothB,by
   have:Dd (fun _=>0) F.t H.c (([]:List ((Par×Par)×Value)).map (·.1))=(fun _=>0):=by funext k;simp[Dd]
   dsimp only;rw[this];exact hPB⟩ ?_
 rintro JC ⟨D,LC⟩ hJC uC mC lC ⟨hS,hit,hothC,oC,hooC,hRC⟩;simp only at hS hit hothC hooC hRC hJC;have leC:=leB.trans lC;refine G.mapNextL G1.inj itC v2 fsv dlv kv D LC kV kV hit (.inl (leC _ _ f2)) hsv2 hkv2 hndv2 hS ?doneC ?nextC
 case nextC =>
  rintro⟨k,xv⟩ e hp hkn he hek hev hS';simp only at hkn hek hev;obtain⟨hx,hko⟩:=hlv2 _ hp;simp only at hx hko;obtain⟨yb,ya,yn,yc,ya',yn',yc',rfl,_⟩:=hx.opn;refine G.mapEntry itC v2 fsv dlv D e kV (Ac _ _ _) (.inl (leC _ _ f2)) hsv2 he ?_;rw[hek,hev];have hfix:=hko.fix;refine G.pub 13003 206 [.int .i64 k.1.1,.string (mkS k.1.2),.int .i64 k.2.1,.string (mkS k.2.2)] kV kV ?_;intro bq hq1 hq2;have q1:g1≠bq:=fun e=>by subst e;rw[Ad _ _ i1C,hothC]at hq2;cases hq2
  have q2:g2≠bq:=fun e=>by subst e;rw[Ad _ _ i2C,hooC]at hq2;cases hq2
  have q3:itC≠bq:=fun e=>by subst e;rw[Ac]at hq2;cases hq2
  obtain⟨pe1,pe2⟩:=Aej (m:=(mC.upd itC (.mapIter (some v2) dlv (Ar (D++[e])) dlv)).upd bq (.cells [A15 .i64 k.1.1,.string (mkS k.1.2),.int .i64 k.2.1,.string (mkS k.2.2)].toArray 206 (0,0))) (Ac _ _ _);refine G.addrA 206 79 2 bq 0 0 2 kV kV kV kV oV ?_;refine G.lM (some 2) bq (0+0*2) (.agg #[.int .i64 k.1.1,.string (mkS k.1.2)]) pe1 ?_;refine G.addrA 206 79 2 bq 0 1 2 kV kV kV kV oV ?_;refine G.lM (some 2) bq (0+1*2) (.agg #[.int .i64 k.2.1,.string (mkS k.2.2)]) pe2 ?_;refine G.c call34 (Eo (hx.mono leC) (hwc.mono leC) (SB.ten (ok.a.t k)) (SB.ten ok.b.c)) ?_;intro v4 u4 le4 r4;obtain⟨b4,a4,x4,c4,a4',x4',c4',rfl,_⟩:=r4.opn;refine G.callG _ _ kV kV call138 (g:=g2) (o:=oC) (by rw[Ad _ _ q2,Ad _ _ i2C];exact hooC)
   (F7 (g1:=some g1) (y1:=b2) (y2:=(a2,x2,c2)) (y3:=false) (y4:=(a2',x2',c2')) (p:=k.1) (r:=k.2) (hRC.mono le4) r4 (hc1.t k) (by rw[hfix];exact Md (fun _=>SB.zero) hz2 k) (by
    have:Dd (fun _=>0) F.t H.c (LC.map (·.1)) k=(fun _=>0) k:=by unfold Dd;rw[if_neg hkn]
    rw[hfix,this,A4y];exact hz2 k)) ?_
  intro v5 u5 o5 le5' r5';rw[hfix,He _ _ _ hkn]at r5';refine G.b (hJC (D++[e],LC++[(k,_)]) _ _ _ cV ((lC.trans le4).trans le5')
   ⟨hS',by rw[Ad _ _ (Ne.symm i2C),Ad _ _ q3,Ac],by rw[Ad _ _ ne3,Ad _ _ q1,Ad _ _ i1C];exact hothC,o5,Ac _ _ _,by
    simpa[A28] using r5'⟩ (by have:=hS'.len;simp at this;dsimp only;simp;omega))
 case doneC =>
 intro hall;rw[I4 _ _ _ fun k hk=>hzv2 k fun hm=>hk (by
  obtain⟨p,hp,rfl⟩:=A0u.1 hm;exact A0u.2 ⟨p,hall p hp,rfl⟩)]at hRC
 have hLlC:=hS.len;have hPC:=hRC.congr (f':=(F.scale H.c).t) (fun k=>by show 0+F.t k*H.c=F.t k*H.c;rw[A9d]);have hSC:=hSB.mono lC;clear hJC hS hit hall hRC;refine G.mapRange w2 fsw dlw 206 68 kV (.inl (leC _ _ e2)) ?_;intro itD himD hiuD;have i1D:g1≠itD:=fun e=>by subst e;rw[himD]at hothC;cases hothC
 have i2D:g2≠itD:=fun e=>by subst e;rw[himD]at hooC;cases hooC
 refine G.l (ι:=List MapEntry×List ((Par×Par)×Value)) (fun _=>[(2,.p 0 0),(3,.p 1 0),(4,.p 2 0),(5,.p 1001 0),(76,.v (.pointer (some ⟨itD,0,none⟩)))])
  (fun _=>[(0,⟨136,[bV vb,sV va vn vc,bV vb',sV va' vn' vc',.v (.map (some v1)),.v (.map (some v2))]⟩),(1,⟨136,[bV wb,sV wa wn wc,bV wb',sV wa' wn' wc',.v (.map (some w1)),.v (.map (some w2))]⟩),(2,⟨136,[bV false,sV none 0 0,bV false,sV none 0 0,.v (.map none),.v (.map none)]⟩),(1001,⟨136,[bV b2,sV a2 x2 c2,bV false,sV a2' x2' c2',.v (.map (some g1)),.v (.map (some g2))]⟩)])
  (fun i u' m'=>Eq prV fsw kw i.1 i.2/\m' itD=some (.mapIter (some w2) dlw (Ar i.1) dlw)/\m' g1=some oB/\∃ oo,m' g2=some oo/\C5 prV KO u' oo (Dd (F.scale H.c).t H.t F.c (i.2.map (·.1))) (0+LC.length+i.2.length))
  (fun i=>kw.length-i.2.length) ([],[])
  ⟨Eq.nil _ _,Ac _ _ _,by rw[Ad _ _ i1D];exact hothC,_,by rw[Ad _ _ i2D];exact hooC,by
   have:Dd (F.scale H.c).t H.t F.c (([]:List ((Par×Par)×Value)).map (·.1))=(F.scale H.c).t:=by funext k;simp[Dd]
   dsimp only;rw[this];exact hPC⟩ ?_
 rintro JD ⟨D,LD⟩ hJD uD mD lD ⟨hS,hit,hothD,oD,hooD,hRD⟩;simp only at hS hit hothD hooD hRD hJD;have leD:=leC.trans lD;refine G.mapNextL G1.inj itD w2 fsw dlw kw D LD kV kV hit (.inl (leD _ _ e2)) hsw2 hkw2 hndw2 hS ?doneD ?nextD
 case nextD =>
  rintro⟨k,xv⟩ e hp hkn he hek hev hS';simp only at hkn hek hev;obtain⟨hx,hko⟩:=hlw2 _ hp;simp only at hx hko;obtain⟨yb,ya,yn,yc,ya',yn',yc',rfl,_⟩:=hx.opn;refine G.mapEntry itD w2 fsw dlw D e kV (Ac _ _ _) (.inl (leD _ _ e2)) hsw2 he ?_;rw[hek,hev];have hfix:=hko.fix;refine G.pub 17003 206 [.int .i64 k.1.1,.string (mkS k.1.2),.int .i64 k.2.1,.string (mkS k.2.2)] kV kV ?_;intro bq hq1 hq2;have q1:g1≠bq:=fun e=>by subst e;rw[Ad _ _ i1D,hothD]at hq2;cases hq2
  have q2:g2≠bq:=fun e=>by subst e;rw[Ad _ _ i2D,hooD]at hq2;cases hq2
  have q3:itD≠bq:=fun e=>by subst e;rw[Ac]at hq2;cases hq2
  obtain⟨pe1,pe2⟩:=Aej (m:=(mD.upd itD (.mapIter (some w2) dlw (Ar (D++[e])) dlw)).upd bq (.cells [A15 .i64 k.1.1,.string (mkS k.1.2),.int .i64 k.2.1,.string (mkS k.2.2)].toArray 206 (0,0))) (Ac _ _ _);refine G.addrA 206 79 2 bq 0 0 2 kV kV kV kV oV ?_;refine G.lM (some 2) bq (0+0*2) (.agg #[.int .i64 k.1.1,.string (mkS k.1.2)]) pe1 ?_;refine G.addrA 206 79 2 bq 0 1 2 kV kV kV kV oV ?_;refine G.lM (some 2) bq (0+1*2) (.agg #[.int .i64 k.2.1,.string (mkS k.2.2)]) pe2 ?_;refine G.c call34 (Eo (hx.mono leD) (hvc.mono leD) (SB.ten (ok.b.t k)) (SB.ten ok.a.c)) ?_;intro v4 u4 le4 r4;obtain⟨b4,a4,x4,c4,a4',x4',c4',rfl,_⟩:=r4.opn;refine G.callG _ _ kV kV call138 (g:=g2) (o:=oD) (by rw[Ad _ _ q2,Ad _ _ i2D];exact hooD)
   (F7 (g1:=some g1) (y1:=b2) (y2:=(a2,x2,c2)) (y3:=false) (y4:=(a2',x2',c2')) (p:=k.1) (r:=k.2) (hRD.mono le4) r4 (hc2.t k) (by rw[hfix];exact Md hc1.t hsumt k) (by
    have:Dd (F.scale H.c).t H.t F.c (LD.map (·.1)) k=(F.scale H.c).t k:=by unfold Dd;rw[if_neg hkn]
    rw[hfix,this,A4y];exact hsumt k)) ?_
  intro v5 u5 o5 le5' r5';rw[hfix,He _ _ _ hkn]at r5';refine G.b (hJD (D++[e],LD++[(k,_)]) _ _ _ cV ((lD.trans le4).trans le5')
   ⟨hS',by rw[Ad _ _ (Ne.symm i2D),Ad _ _ q3,Ac],by rw[Ad _ _ ne3,Ad _ _ q1,Ad _ _ i1D];exact hothD,o5,Ac _ _ _,by
    simpa[A28] using r5'⟩ (by have:=hS'.len;simp at this;dsimp only;simp;omega))
 case doneD =>
 intro hall;rw[I4 _ _ _ fun k hk=>hzw2 k fun hm=>hk (by
  obtain⟨p,hp,rfl⟩:=A0u.1 hm;exact A0u.2 ⟨p,hall p hp,rfl⟩)]at hRD
 have hLlD:=hS.len;have hPD:=hRD.congr (f':=((H.scale F.c).add (F.scale H.c)).t) (fun k=>by show F.t k*H.c+H.t k*F.c=H.t k*F.c+F.t k*H.c;rw[A4y]);have hSD:=hSC.mono lD;clear hJD hS hit hall hRD;obtain⟨base,hbase⟩:∃ base:Par×Par->Rat,base=((H.scale F.c).add (F.scale H.c)).t:=⟨_,rfl⟩;have hacc:=ok.acc;rw[<-hbase]at hPD hacc;have okp:=ok.pr;have okc:=ok.con;refine G.mapRange v1 esv clv 79 68 kV (.inl (leD _ _ f1)) ?_;intro it him hiu;have i1:g1≠it:=fun e=>by subst e;rw[him]at hothD;cases hothD
 have i2:g2≠it:=fun e=>by subst e;rw[him]at hooD;cases hooD
 refine G.l (ι:=List MapEntry×List (Par×Value)) (fun _=>[(2,.p 0 0),(3,.p 1 0),(4,.p 2 0),(5,.p 1001 0),(94,.v (.pointer (some ⟨it,0,none⟩)))])
  (fun _=>[(0,⟨136,[bV vb,sV va vn vc,bV vb',sV va' vn' vc',.v (.map (some v1)),.v (.map (some v2))]⟩),(1,⟨136,[bV wb,sV wa wn wc,bV wb',sV wa' wn' wc',.v (.map (some w1)),.v (.map (some w2))]⟩),(2,⟨136,[bV false,sV none 0 0,bV false,sV none 0 0,.v (.map none),.v (.map none)]⟩),(1001,⟨136,[bV b2,sV a2 x2 c2,bV false,sV a2' x2' c2',.v (.map (some g1)),.v (.map (some g2))]⟩)])
  (fun i u' m'=>Eq An esv lv i.1 i.2/\m' it=some (.mapIter (some v1) clv (Ar i.1) clv)/\m' g1=some oB/\∃ Ps:List (Par×Par),Ps.Nodup/\(∀ x:Par×Par,x∈Ps↔x.1∈i.2.map (·.1)/\x.2∈lw.map (·.1))/\∃ o2',m' g2=some o2'/\C5 prV KO u' o2' (fun k=>base k+Dj F H Ps k) (0+LC.length+LD.length+i.2.length*lw.length))
  (fun i=>lv.length-i.2.length) ([],[])
  ⟨Eq.nil _ _,Ac _ _ _,by rw[Ad _ _ i1];exact hothD,[],mV,mV,oD,by rw[Ad _ _ i2];exact hooD,(hPD.congr fun k=>by simp only[Dj];grind).up mV⟩ ?_
 rintro J ⟨D,L⟩ hJ u6 m6 l6 ⟨hS,hit,hm1g,Ps,hPn,hPm,o2',hg2,hR⟩;simp only at hS hit hm1g hPm hg2 hR hJ;have le6:=leD.trans l6;refine G.mapNextL Bt.inj it v1 esv clv lv D L kV kV hit (.inl (le6 _ _ f1)) hsv hkv hndv hS ?done1 ?next1
 case next1 =>
  rintro⟨p,xv⟩ e hp hpn he hek hev hS';simp only at hpn hek hev;have hx:=(hlv _ hp).1;simp only at hx;obtain⟨yb,ya,yn,yc,ya',yn',yc',rfl,_⟩:=hx.opn;refine G.mapEntry it v1 esv clv D e kV (Ac _ _ _) (.inl (le6 _ _ f1)) hsv he ?_;rw[hek,hev];refine G.mapRange w1 esw clw 79 68 kV (.inl (le6 _ _ e1)) ?_;intro it2 him2 hiu2;have j1:g1≠it2:=fun e=>by subst e;rw[Ad _ _ i1,hm1g]at him2;cases him2
  have j2:g2≠it2:=fun e=>by subst e;rw[Ad _ _ i2,hg2]at him2;cases him2
  have k1:it≠it2:=fun e=>by subst e;rw[Ac]at him2;cases him2
  refine G.l (ι:=List MapEntry×List (Par×Value)) (fun _=>[(2,.p 0 0),(3,.p 1 0),(4,.p 2 0),(5,.p 1001 0),(14,.p 21003 0),(15,.p 21004 0),(94,.v (.pointer (some ⟨it,0,none⟩))),(102,.v (.pointer (some ⟨it2,0,none⟩)))])
   (fun _=>[(0,⟨136,[bV vb,sV va vn vc,bV vb',sV va' vn' vc',.v (.map (some v1)),.v (.map (some v2))]⟩),(1,⟨136,[bV wb,sV wa wn wc,bV wb',sV wa' wn' wc',.v (.map (some w1)),.v (.map (some w2))]⟩),(2,⟨136,[bV false,sV none 0 0,bV false,sV none 0 0,.v (.map none),.v (.map none)]⟩),(1001,⟨136,[bV b2,sV a2 x2 c2,bV false,sV a2' x2' c2',.v (.map (some g1)),.v (.map (some g2))]⟩),(21003,⟨79,[iV p.1,tV p.2]⟩),(21004,⟨68,[bV yb,sV ya yn yc,bV false,sV ya' yn' yc']⟩)])
   (fun i u' m'=>Eq An esw lw i.1 i.2/\m' it2=some (.mapIter (some w1) clw (Ar i.1) clw)/\m' it=some (.mapIter (some v1) clv (Ar (D++[e])) clv)/\m' g1=some oB/\∃ Qs:List (Par×Par),Qs.Nodup/\(∀ x:Par×Par,x∈Qs↔(x.1∈L.map (·.1)/\x.2∈lw.map (·.1))\/(x.1=p/\x.2∈i.2.map (·.1)))/\∃ oi,m' g2=some oi/\C5 prV KO u' oi (fun k=>base k+Dj F H Qs k) (0+LC.length+LD.length+L.length*lw.length+i.2.length))
   (fun i=>lw.length-i.2.length) ([],[])
   ⟨Eq.nil _ _,Ac _ _ _,by rw[Ad _ _ k1,Ac],by rw[Ad _ _ j1,Ad _ _ i1];exact hm1g,Ps,hPn,by intro x;rw[hPm];simp,o2',by rw[Ad _ _ j2,Ad _ _ i2];exact hg2,hR⟩ ?_
  rintro J2 ⟨D2,L2⟩ iJ ui mi ile ⟨iS,iit2,iit,ig1,Qs,hQn,hQm,oi,ig2,iR⟩;simp only at iS iit2 iit ig1 hQm ig2 iR iJ;have lei:=le6.trans ile;refine G.mapNextL Bt.inj it2 w1 esw clw lw D2 L2 kV kV iit2 (.inl (lei _ _ e1)) hsw hkw hndw iS ?done2 ?next2
  case next2 =>
   rintro⟨k,yv⟩ e2 hk hkn he2 hek2 hev2 iS';simp only at hkn hek2 hev2;have hy:=(hlw _ hk).1;simp only at hy;obtain⟨zb,za,zn,zc,za',zn',zc',rfl,_⟩:=hy.opn;have hnew:(p,k)∉Qs:=fun h=>by
    rcases (hQm _).1 h with h|h
    ·exact hpn h.1
    ·exact hkn h.2
   have hQn':(Qs++[(p,k)]).Nodup:=by
    rw[List.nodup_append];exact⟨hQn,mV,fun a ha b hb e'=>hnew (by simp at hb;rw[<-hb,<-e'];exact ha)⟩
   have hQm':∀ x:Par×Par,x∈Qs++[(p,k)]↔(x.1∈L.map (·.1)/\x.2∈lw.map (·.1))\/(x.1=p/\x.2∈(L2++[(k,Value.agg #[.bool zb,.slice za zn zc,.bool false,.slice za' zn' zc'])]).map (·.1)):=fun x=>by
    obtain⟨x1,x2⟩:=x;rw[A01,hQm];simp only[A07,A01,A1y,A5o,A1t,Prod.mk.injEq];constructor
    ·rintro ((h|⟨h1,h2⟩)|⟨h1,h2⟩)
     ·exact .inl h
     ·exact .inr ⟨h1,.inl h2⟩
     ·exact .inr ⟨h1,.inr h2⟩
    ·rintro (h|⟨h1,h2|h2⟩)
     ·exact .inl (.inl h)
     ·exact .inl (.inr ⟨h1,h2⟩)
     ·exact .inr ⟨h1,h2⟩
   refine G.mapEntry it2 w1 esw clw D2 e2 kV (Ac _ _ _) (.inl (lei _ _ e1)) hsw he2 ?_;rw[hek2,hev2];refine G.c call34 (Eo (hx.mono lei) (hy.mono lei) (SB.ten (ok.a.s p)) (SB.ten (ok.b.s k))) ?_;intro v9 u9 l9 r9;obtain⟨b9,a9,n9,c9,a9',n9',c9',rfl,_⟩:=r9.opn;by_cases hpk:p=k
   ·have hcon:con F H (p,k)=F.s p*H.s k+F.s p*H.s k:=by unfold con;rw[if_pos hpk]
    refine G.eqAgg 79 #[.int .i64 p.1,.string (mkS p.2)] #[.int .i64 k.1,.string (mkS k.2)] true kV kV kV (fun w=>by rw[<-decide_eq_true hpk];exact Bt.eq p k w) ?_;refine G.c call33 (Lw r9 r9 (SB.ten (okp p k)) (SB.ten (okp p k))) ?_;intro v10 u10 l10 r10;obtain⟨b10,a10,n10,c10,a10',n10',c10',rfl,_⟩:=r10.opn;refine G.callG _ _ kV kV call138 (g:=g2) (o:=oi) (by rw[Ad _ _ j2];exact ig2)
     (F7 (g1:=some g1) (y1:=b2) (y2:=(a2,x2,c2)) (y3:=false) (y4:=(a2',x2',c2')) (p:=p) (r:=k) (iR.mono (l9.trans l10)) r10 (by have:=okc (p,k);rw[hcon]at this;exact this) (hacc Qs hQn _) (by
      have:=hacc (Qs++[(p,k)]) hQn' (Ap p k);rw[Ht,if_pos rfl,hcon]at this;rw[show (F.s p*H.s k+F.s p*H.s k)+(base (Ap p k)+Dj F H Qs (Ap p k))=base (Ap p k)+((F.s p*H.s k+F.s p*H.s k)+Dj F H Qs (Ap p k)) by grind];exact this)) ?_
    intro v8 u8 o8 l8 r8;refine G.b (iJ (D2++[e2],L2++[(k,_)]) _ _ _ cV ((ile.trans (l9.trans l10)).trans l8)
     ⟨iS',by rw[Ad _ _ (Ne.symm j2),Ac],by rw[Ad _ _ (Ne.symm i2),Ad _ _ k1];exact iit,by rw[Ad _ _ ne3,Ad _ _ j1];exact ig1,Qs++[(p,k)],hQn',hQm',o8,Ac _ _ _,?_⟩ (by have:=iS'.len;simp at this;dsimp only;simp;omega))
    refine (r8.congr fun j=>?_).up (by simp[A28]);rw[Ht,hcon];unfold Hb;by_cases e:j=Ap p k
    ·rw[if_pos e,if_pos e,e];grind
    ·rw[if_neg e,if_neg e]
   ·have hcon:con F H (p,k)=F.s p*H.s k:=by unfold con;rw[if_neg hpk]
    refine G.eqAgg 79 #[.int .i64 p.1,.string (mkS p.2)] #[.int .i64 k.1,.string (mkS k.2)] false kV kV kV (fun w=>by rw[<-decide_eq_false hpk];exact Bt.eq p k w) ?_;refine G.callG _ _ kV kV call138 (g:=g2) (o:=oi) (by rw[Ad _ _ j2];exact ig2)
     (F7 (g1:=some g1) (y1:=b2) (y2:=(a2,x2,c2)) (y3:=false) (y4:=(a2',x2',c2')) (p:=p) (r:=k) (iR.mono (l9)) r9 (by have:=okc (p,k);rw[hcon]at this;exact this) (hacc Qs hQn _) (by
      have:=hacc (Qs++[(p,k)]) hQn' (Ap p k);rw[Ht,if_pos rfl,hcon]at this;rw[show (F.s p*H.s k)+(base (Ap p k)+Dj F H Qs (Ap p k))=base (Ap p k)+((F.s p*H.s k)+Dj F H Qs (Ap p k)) by grind];exact this)) ?_
    intro v8 u8 o8 l8 r8;refine G.b (iJ (D2++[e2],L2++[(k,_)]) _ _ _ cV ((ile.trans (l9)).trans l8)
     ⟨iS',by rw[Ad _ _ (Ne.symm j2),Ac],by rw[Ad _ _ (Ne.symm i2),Ad _ _ k1];exact iit,by rw[Ad _ _ ne3,Ad _ _ j1];exact ig1,Qs++[(p,k)],hQn',hQm',o8,Ac _ _ _,?_⟩ (by have:=iS'.len;simp at this;dsimp only;simp;omega))
    refine (r8.congr fun j=>?_).up (by simp[A28]);rw[Ht,hcon];unfold Hb;by_cases e:j=Ap p k
    ·rw[if_pos e,if_pos e,e];grind
    ·rw[if_neg e,if_neg e]
  case done2 =>
  intro hall2;refine G.b (hJ (D++[e],L++[(p,_)]) _ _ _ cV (l6.trans ile) ⟨hS',iit,ig1,Qs,hQn,fun x=>?_,oi,ig2,iR.up ?_⟩ (by have:=hS'.len;simp at this;dsimp only;simp;omega))
  ·rw[hQm];simp only[A07,A01,A1y,A5o,A1t];constructor
   ·rintro (h|⟨h1,h2⟩)
    ·exact⟨.inl h.1,h.2⟩
    ·obtain⟨y,hy,e'⟩:=A0u.1 h2;exact⟨.inr h1,A0u.2 ⟨y,iS.sub y hy,e'⟩⟩
   ·rintro⟨h1|h1,h2⟩
    ·exact .inl ⟨h1,h2⟩
    ·obtain⟨y,hy,e'⟩:=A0u.1 h2;exact .inr ⟨h1,A0u.2 ⟨y,hall2 y hy,e'⟩⟩
  ·have:=iS.len;simp only[A0z,A2n,A3i,A1o];omega
 case done1 =>
 intro hall;refine G.drop ((PH.mt.upd g1 oB).upd g2 o2') kV (fun g o hg=>?_) ?_
 ·by_cases e:g=g2
  ·subst e;rw[Ac]at hg;cases hg;exact hg2
  ·rw[Ad _ _ e]at hg;by_cases e:g=g1
   ·subst e;rw[Ac]at hg;cases hg;exact hm1g
   ·rw[Ad _ _ e]at hg;cases hg
 refine G.r (.agg #[.bool b2,.slice a2 x2 c2,.bool false,.slice a2' x2' c2',.map (some g1),.map (some g2)]) ⟨b2,a2,x2,c2,false,a2',x2',c2',g1,g2,oB,o2',rfl,r5.mono ((((lA.trans lB).trans lC).trans lD).trans l6),ne3,rfl,(hSD.mono l6).up oV,(hR.congr fun k=>?_).up ?_⟩
 ·rw[Aev F H hPn (fun p q h1 h2=>(hPm _).2 ⟨?_,?_⟩) k,hbase]
  ·rfl
  ·have:p∈lv.map (·.1):=A44 fun h=>h1 (hzv p h);obtain⟨y,hy,e'⟩:=A0u.1 this;exact A0u.2 ⟨y,hall y hy,e'⟩
  ·exact A44 fun h=>h2 (hzw q h)
 ·have h1:=hS.len;have h2:L.length*lw.length<=N*M:=Nat.mul_le_mul oV hnw;omega
end
section
variable {p q:Par×Par}{κ:Type}
theorem Ai1 {κ:Type}{c:κ->κ->Int}(hc:Ord c){S:List (κ×Rat)}{k:κ}{q:Rat}{n:Nat}(hS:Ef c (S.map (·.1)))(hk:k∉S.map (·.1))
 (h1:∀ j x,j<n->S[j]?=some x->c x.1 k<0) (h2:∀ x,S[n]?=some x->¬ c x.1 k<0):Ef c ((S.take n++[(k,q)]++S.drop n).map (·.1)):=by
 have hS':Ef c ((S.take n).map (·.1)++(S.drop n).map (·.1)):=by rw[<-A07,A37];exact hS
 unfold Ef at hS'⊢;rw[A3a]at hS';obtain⟨p1,p2,p3⟩:=hS';have hA:∀ a∈(S.take n).map (·.1),c a k<0:=fun a ha=>by
  obtain⟨x,hx,rfl⟩:=A0u.1 ha;obtain⟨j,hj,rfl⟩:=List.getElem_of_mem hx;rw[List.length_take]at hj;refine h1 j _ oV ?_;rw[List.getElem_take,A0n oV]
 have hB:∀ b∈(S.drop n).map (·.1),c k b<0:=by
  cases hd:S.drop n with
  |nil=>intro b hb;simp at hb
  |cons x B =>
   rw[hd,A1y,List.pairwise_cons]at p2;have hx:S[n]?=some x:=by
    have:=congrArg (fun l=>l[0]?) hd;simpa using this
   have hne:x.1≠k:=fun e=>hk (A0u.2 ⟨x,A1b hx,e⟩);have h3:=h2 x hx;have h0:c k x.1<0:=by
    have hs:=hc.sym k x.1;have hz:c x.1 k≠0:=fun e=>hne (hc.eq _ _ e);rw[hs];omega
   intro b hb;rw[A1y,List.mem_cons]at hb;rcases hb with rfl|hb
   ·exact h0
   ·exact hc.trans _ _ _ h0 (p2.1 b hb)
 rw[A07,A07,A3a,A3a];refine⟨⟨p1,mV,fun a ha b hb=>?_⟩,p2,fun a ha b hb=>?_⟩
 ·simp at hb;subst hb;exact hA a ha
 ·rcases A01.1 ha with ha|ha
  ·exact p3 a ha b hb
  ·simp at ha;subst ha;exact hB b hb
theorem Qz {α:Type}{S:List α}{x y:α}{n:Nat}:y∈S.take n++[x]++S.drop n↔y∈S\/y=x:=by
 have h:y∈S↔y∈S.take n\/y∈S.drop n:=by rw[<-A01,A37]
 rw[h];simp only[A01,A1t];constructor
 ·rintro ((a|a)|a)
  ·exact .inl (.inl a)
  ·exact .inr a
  ·exact .inl (.inr a)
 ·rintro ((a|a)|a)
  ·exact .inl (.inl a)
  ·exact .inr a
  ·exact .inl (.inr a)
structure Ox {κ:Type}(c:κ->κ->Int)(f:κ->Rat)(L:List κ)(S:List (κ×Rat)):Prop where
 srt:Ef c (S.map (·.1))
 val:∀ p∈S,p.2=f p.1/\p.2≠0
 mem:∀ k,k∈S.map (·.1)↔k∈L/\f k≠0
theorem Ox.nil {κ:Type}{c:κ->κ->Int}{f:κ->Rat}:Ox c f [] []:=⟨List.Pairwise.nil,fun p hp=>by simp at hp,fun k=>mV⟩
theorem Ox.skip {c:κ->κ->Int}{f:κ->Rat}{L:List κ}{S:List (κ×Rat)}{k:κ}(h:Ox c f L S)(h0:f k=0):Ox c f (L++[k]) S:=⟨h.srt,h.val,fun j=>by
 rw[h.mem,A01,A1t];constructor
 ·rintro⟨a,b⟩;exact⟨.inl a,b⟩
 ·rintro⟨a|rfl,b⟩
  ·exact⟨a,b⟩
  ·exact absurd h0 b⟩
theorem Ox.put {κ:Type}{c:κ->κ->Int}(hc:Ord c){f:κ->Rat}{L:List κ}{S:List (κ×Rat)}{k:κ}{n:Nat}(h:Ox c f L S)(h0:f k≠0)(hk:k∉L)
 (h1:∀ j x,j<n->S[j]?=some x->c x.1 k<0) (h2:∀ x,S[n]?=some x->¬ c x.1 k<0):Ox c f (L++[k]) (S.take n++[(k,f k)]++S.drop n) :=
 ⟨Ai1 hc h.srt (fun e=>hk ((h.mem k).1 e).1) h1 h2,fun p hp=>by
  rcases Qz.1 hp with e|rfl
  ·exact h.val p e
  ·exact⟨rfl,h0⟩,fun j=>by
  have:=h.mem j;constructor
  ·intro hj;obtain⟨p,hp,rfl⟩:=A0u.1 hj;rcases Qz.1 hp with e|rfl
   ·obtain⟨a,b⟩:=this.1 (A0u.2 ⟨p,e,rfl⟩);exact⟨List.mem_append_left _ a,b⟩
   ·exact⟨mV,h0⟩
  ·rintro⟨a,b⟩;rcases A01.1 a with e|e
   ·obtain⟨p,hp,e2⟩:=A0u.1 (this.2 ⟨e,b⟩);exact A0u.2 ⟨p,Qz.2 (.inl hp),e2⟩
   ·rw[A1t]at e;exact A0u.2 ⟨(k,f k),Qz.2 (.inr rfl),e.symm⟩⟩
theorem Ox.can {c:κ->κ->Int}{f:κ->Rat}{L:List κ}{S:List (κ×Rat)}(h:Ox c f L S)(hL:∀ k,k∉L->f k=0):Can c f S:=⟨h.srt,h.val,fun k hk=>by
 rcases Classical.em (k∈L) with e|e
 ·exact A44 fun hn=>hk ((h.mem k).2 ⟨e,hn⟩)
 ·exact hL k e⟩
theorem Akz (h:A8 p.1 q.1<0):Lg p q<0:=by unfold Lg;rw[if_pos oV];exact h
theorem Akv (h:¬ A8 p.1 q.1<0)(h':p.1≠q.1):¬ Lg p q<0:=by
 have hz:A8 p.1 q.1≠0:=fun e=>h' (Dp.eq _ _ e);unfold Lg;rw[if_pos hz];exact h
theorem Amm (h:p.1=q.1):Lg p q=A8 p.2 q.2:=by unfold Lg;rw[h,Dp.refl,if_neg mV]
theorem Mw {u:PH}(x y:(Par×Par)×Rat)(r:Bool)(h:decide (Lg x.1 y.1<0)=r):Fn0 prog 142 [Da x,Da y] u fun v _=>v=.bool r:=by
 obtain⟨⟨⟨a1,a2⟩,b1,b2⟩,q⟩:=x;obtain⟨⟨⟨c1,c2⟩,d1,d2⟩,q'⟩:=y;refine Fn0.o func142 ?_;by_cases h1:A8 (a1,a2) (c1,c2)<0
 ·rw[decide_eq_true (Akz h1)]at h;subst h;refine G.c call93 (Dq (a1,a2) (c1,c2) true (decide_eq_true h1)) ?_;rintro v1 u1 l1 rfl;exact G.r (.bool true) ⟨rfl,rfl⟩
 ·refine G.c call93 (Dq (a1,a2) (c1,c2) false (decide_eq_false h1)) ?_;rintro v1 u1 l1 rfl;by_cases h2:((a1,a2):Par)=(c1,c2)
  ·refine G.eqAgg 79 #[.int .i64 a1,.string (mkS a2)] #[.int .i64 c1,.string (mkS c2)] true kV kV kV (fun w=>by rw[<-decide_eq_true h2];exact Bt.eq (a1,a2) (c1,c2) w) ?_;rw[Amm h2]at h;refine G.c call93 (Dq (b1,b2) (d1,d2) r h) ?_;rintro v2 u2 l2 rfl;cases r with
   |true=>exact G.r (.bool true) ⟨rfl,rfl⟩
   |false=>exact G.r (.bool false) ⟨rfl,rfl⟩
  ·rw[decide_eq_false (Akv h1 h2)]at h;subst h;refine G.eqAgg 79 #[.int .i64 a1,.string (mkS a2)] #[.int .i64 c1,.string (mkS c2)] false kV kV kV (fun w=>by rw[<-decide_eq_false h2];exact Bt.eq (a1,a2) (c1,c2) w) ?_;exact G.r (.bool false) ⟨rfl,rfl⟩
section
variable {P:Program} [Ba P] {fn:Func} {Post:B0} {st:List KI×S} {u m:PH}
theorem G.sliceFromG (a:Option Addr)(n c k sz:Nat)(h:Al P (adv P st)=.slice (some sz) (.slice a n c) (some (.int .i64 (k:Int))) none none)(hk:k<=n)(hn:n<=c)
 (g:G P fn Post (nx (adv P st) (.slice (if c=k then a else a.map (·.add (k*sz))) (n-k) (c-k))) u m):G P fn Post st u m:=by
 refine G.ask h mV (fun env o hview w hp=>?_) g;obtain⟨t,X,L,H,M,e1,e2,e3,e4,e5,hsz⟩:=Aq5 hview;obtain⟨dst,opp,type,pos,after,guard⟩:=o;simp only at e1;subst e1;unfold Kq at hsz;split at hsz
 ·rename_i e hu;have h1:(0:Int)<=k/\(k:Int)<=n:=oV
  simp only[execOp,e2,e3,e4,e5];simp only[Instr.sliceAt,Sem.run_bind,run_underlying hu,Result.andThen_ok,Instr.slice,Instr.sliceBounds,Instr.sliceBound,asIntOf,Sem.run_pure,if_true,Option.isSome,Sem.run_ite,Bf hsz,h1,and_self,Int.toNat_natCast]
 ·cases hsz
end
end
section
theorem ElP.fld {u:PH}{b off j:Nat}{xs:Array Value}{x:Value}(h:ElP u b off (.agg xs))(hx:xs[j]?=some x)(hc:x.cells = #[x]):ElP u b (off+j) x:=h.sub fun i y hy=>by
 rw[hc]at hy
 match i,hy with
 |0,hy=>simp at hy;subst hy;exact hx
 |i+1,hy=>simp at hy
def Xy (P:Program):List KI×S->List Value->List KI×S
 |st,[]=>st
 |st,v::l=>Xy P (nx (adv P st) v) l
section
variable {P:Program} [Ba P] {fn:Func} {Post:B0} {st:List KI×S} {u m:PH}
theorem G.joinF {ι:Type}(f:List KI×S->List KI×S)(T:ι->List (Nat×SV))(B:ι->List (Nat×Blk))(Inv:ι->PH->PH->Prop)(hl:∀ i,Qm (T i) (B i)=true)(hn:Fd (Aqo P 200 (f st)).1=true)
 (tail:∀ i u' m',PH.le u u'->Inv i u' m'->G P fn Post ((Aqo P 200 (f st)).1,S.of (Aqo P 200 (f st)).2.n (T i) (B i)) u' m')
 (k:(∀ i st' u' m',(Aqo P 200 st').1=(Aqo P 200 (f st)).1->Cov (Aqo P 200 (f st)).2.n (Aqo P 200 st').2 (T i) (B i)->PH.le u u'->Inv i u' m'->G P fn Post st' u' m')->G P fn Post st u m):G P fn Post st u m:=by
 refine k fun i st' u' m' h1 h2 h3 h4=>?_;have hc:Cov (Aqo P 200 st').2.n (Aqo P 200 st').2 (T i) (B i):=⟨rfl,h2.t,h2.b⟩;refine G.canon (T i) (B i) (by rw[h1];exact hn) (hl i) hc ?_;rw[h1,h2.n];exact tail i u' m' h3 h4
end
theorem Aam {L:List (List UInt8)}(h:L.Nodup){i k:Nat}{x y:List UInt8}(hx:L[i]?=some x)(hy:L[k]?=some y)(hne:k≠i):y≠x:=fun e=>by
 subst e;obtain⟨a1,a2⟩:=A0s.1 hx;obtain⟨b1,b2⟩:=A0s.1 hy;rcases Nat.lt_or_gt_of_ne hne with e|e
 ·exact absurd (b2.trans a2.symm) (A3q.1 h k i b1 a1 e)
 ·exact absurd (a2.trans b2.symm) (A3q.1 h i k a1 b1 e)
theorem Nt {u:PH}{s:List UInt8}(h:Gw s=true):Fn0 prog 135 [.string (mkS s)] u fun v _=>v=.bool true:=by
 obtain⟨hl1,hl2⟩:=Ux h;obtain⟨c0,hc0⟩:∃ c,s[0]?=some c:=⟨_,A0n oV⟩;have hw0:=Rj h hc0;refine Fn0.o func135 ?_;refine G.eF (s.length:Int) 0 ?_;refine G.gF (s.length:Int) 12 ?_;refine G.idxS s 0 c0 kV hc0 ?_;refine G.cmpG .lss .u8 (c0.toNat:Int) 97 false kV rfl (by simp only[B4,decide_eq_false_iff_not];omega) ?_;refine G.idxS s 0 c0 kV hc0 ?_;refine G.cmpG .gtr .u8 (c0.toNat:Int) 122 false kV rfl (by simp only[B4,decide_eq_false_iff_not];omega) ?_;refine G.l (ι:=Nat) (fun i=>[(0,tV s),(3,iV i)]) (fun _=>[])
  (fun i u' m'=>i<=s.length/\m'=PH.mt) (fun i=>s.length-i) 0 ⟨oV,rfl⟩ ?_
 rintro J i hJ u2 m2 l2 ⟨hi,rfl⟩;by_cases hlt:i<s.length
 ·refine G.lT (i:Int) (s.length:Int) ?_;obtain⟨b,hsi⟩:∃ b,s[i]?=some b:=⟨_,A0n hlt⟩;have hw:=Rj h hsi;refine G.idxS s i b kV hsi ?_;by_cases h97:97<=b.toNat
  ·refine G.cmpG .geq .u8 (b.toNat:Int) 97 true kV rfl (by simp only[B4,decide_eq_true_eq];omega) ?_;refine G.idxS s i b kV hsi ?_;refine G.cmpG .leq .u8 (b.toNat:Int) 122 true kV rfl (by simp only[B4,decide_eq_true_eq];omega) ?_;refine G.i i ?_;exact G.b (hJ (i+1) _ _ _ cV l2 ⟨oV,rfl⟩ oV)
  ·refine G.cmpG .geq .u8 (b.toNat:Int) 97 false kV rfl (by simp only[B4,decide_eq_false_iff_not];omega) ?_;refine G.idxS s i b kV hsi ?_;by_cases h48:48<=b.toNat
   ·refine G.cmpG .geq .u8 (b.toNat:Int) 48 true kV rfl (by simp only[B4,decide_eq_true_eq];omega) ?_;refine G.idxS s i b kV hsi ?_;refine G.cmpG .leq .u8 (b.toNat:Int) 57 true kV rfl (by simp only[B4,decide_eq_true_eq];omega) ?_;refine G.i i ?_;exact G.b (hJ (i+1) _ _ _ cV l2 ⟨oV,rfl⟩ oV)
   ·refine G.cmpG .geq .u8 (b.toNat:Int) 48 false kV rfl (by simp only[B4,decide_eq_false_iff_not];omega) ?_;refine G.idxS s i b kV hsi ?_;refine G.cmpG .eql .u8 (b.toNat:Int) 45 true kV rfl (by simp only[B4,decide_eq_true_eq];omega) ?_;refine G.i i ?_;exact G.b (hJ (i+1) _ _ _ cV l2 ⟨oV,rfl⟩ oV)
 ·obtain rfl:i=s.length:=oV
  refine G.lF (s.length:Int) (s.length:Int) ?_;exact G.r (.bool true) ⟨rfl,rfl⟩
theorem Pf {u:PH}{v:Value}{T:List (List UInt8×Nat)}{R:List Bk}{F:List Ao}{lab:Int}(h:F1 u v T R F lab)(ok:Bn u T R F lab) :
 Fn0 prog 62 [v] u fun r _=>r=.int .i64 0:=by
 obtain⟨xa,xc,xb,xd,xe,xf,rfl,hT,hR,hF⟩:=h;have t1:=ok.t1;have t2:=ok.t2;have r1:=ok.r1;have r2:=ok.r2;have f2:=ok.f2;have lo:=ok.l1;have hi:lab<T.length:=by
  rcases A5n lab 0 with hlt|hge
  ·omega
  ·obtain⟨n,hn⟩:=ok.l2 lab.toNat oV;obtain⟨hk,_⟩:=A0s.1 hn;omega
 refine Fn0.o func62 ?_;refine G.eF (T.length:Int) 0 ?_;refine G.gF (T.length:Int) 12 ?_;refine G.eF (R.length:Int) 0 ?_;refine G.gF (R.length:Int) 6 ?_;refine G.gF (F.length:Int) 8 ?_;refine G.l (ι:=Nat) (fun i=>[(1,.p 0 0),(49,sV xa T.length xc),(50,iV T.length),(51,iV i)])
  (fun _=>[(0,⟨31,[sV xa T.length xc,sV xb R.length xd,sV xe F.length xf,iV lab]⟩)])
  (fun i u' m'=>i<=T.length/\m'=PH.mt) (fun i=>T.length-i) 0 ⟨oV,rfl⟩ ?_
 rintro J i hJ u1 m1 l1 ⟨hi1,rfl⟩;by_cases hlt:i<T.length
 ·refine G.lT (i:Int) (T.length:Int) ?_;obtain⟨x,hTi⟩:∃ x,T[i]?=some x:=⟨_,A0n hlt⟩;have hxm:=A1b hTi;obtain⟨hk1,hk3⟩:=ok.att.kind x hxm;have hword:=ok.att.names.word x.1 (A0u.2 ⟨x,hxm,rfl⟩);have hnx:(T.map (·.1))[i]?=some x.1:=by rw[A0v,hTi];rfl
  obtain⟨ba,oa,rfl,ea⟩:=Ab.at' (hT.mono l1) (j:=i) (e:=D0 x) (by simp[hTi]);obtain⟨xn,xk⟩:=x;simp only at hk1 hk3 hword hnx;refine G.a ba oa T.length xc i 2 hlt ?_;refine G.lU (some 2) ba (oa+i*2) (.agg #[.string (mkS xn),.int .i64 (xk:Int)]) ea ?_;refine G.c call135 (Nt hword) ?_;rintro v2 u2 l2 rfl;refine G.l (ι:=Nat) (fun k=>[(1,.p 0 0),(3,iV i),(4,.p 5003 0),(5,iV k),(49,sV (some ⟨ba,oa,none⟩) T.length xc),(50,iV T.length),(51,iV i)])
   (fun _=>[(0,⟨31,[sV (some ⟨ba,oa,none⟩) T.length xc,sV xb R.length xd,sV xe F.length xf,iV lab]⟩),(5003,⟨92,[tV xn,iV xk]⟩)])
   (fun k u' m'=>k<=i/\m'=PH.mt) (fun k=>i-k) 0 ⟨oV,rfl⟩ ?_
  rintro J2 k hJ2 u3 m3 l3 ⟨hk,rfl⟩;by_cases hlk:k<i
  ·refine G.lT (k:Int) (i:Int) ?_;obtain⟨y,hTk⟩:∃ y,T[k]?=some y:=⟨_,A0n oV⟩;have hny:(T.map (·.1))[k]?=some y.1:=by rw[A0v,hTk];rfl
   have hne:=Aam ok.att.names.nodup hnx hny oV;obtain⟨_,_,e',ek⟩:=Ab.at' (hT.mono ((l1.trans l2).trans l3)) (j:=k) (e:=D0 y) (by simp[hTk]);cases e';refine G.a ba oa T.length xc k 2 oV ?_;refine G.f 92 ba (oa+k*2) 0 0 ?_;refine G.lU none ba (oa+k*2+0) (.string (mkS y.1)) (ek.fld rfl rfl) ?_;refine G.w y.1 xn hne ?_;refine G.i k ?_;exact G.b (hJ2 (k+1) _ _ _ cV l3 ⟨oV,rfl⟩ oV)
  ·obtain rfl:k=i:=oV
   refine G.lF (k:Int) (k:Int) ?_;refine G.lF (xk:Int) 1 ?_;refine G.gF (xk:Int) 3 ?_;refine G.i k ?_;exact G.b (hJ (k+1) _ _ _ cV ((l1.trans l2).trans l3) ⟨oV,rfl⟩ oV)
 obtain rfl:i=T.length:=oV
 refine G.lF (T.length:Int) (T.length:Int) ?_;clear hJ;refine G.make 4 1 1 (.bool false) T.length kV rfl rfl oV oV oV ?_;rintro v1 mA hA1 ⟨ad,rfl⟩;obtain⟨g,rfl,_⟩:=hA1.some';refine G.l (ι:=Nat×List Bool) (fun i=>[(1,.p 0 0),(6,sV (some ⟨g,0,none⟩) T.length T.length),(88,sV xb R.length xd),(89,iV R.length),(90,iV i.1)])
  (fun _=>[(0,⟨31,[sV xa T.length xc,sV xb R.length xd,sV xe F.length xf,iV lab]⟩)])
  (fun i u' m'=>i.1<=R.length/\i.2.length=T.length/\(∀ r∈R.take i.1,∀ q∈r.2.1,i.2[q]?=some true)/\Ae PH.mt m' (.slice (some ⟨g,0,none⟩) T.length T.length) 4 1 (i.2.map A6a)) (fun i=>R.length-i.1) (0,List.replicate T.length false)
  ⟨mV,mV,mV,by rw[List.map_replicate];exact hA1⟩ ?_
 rintro J ⟨i,L⟩ hJ u2 m2 l2 ⟨hi2,hL,hall,hA2⟩;simp only at hi2 hL hall hA2 hJ;have le2:=l1.trans l2;by_cases hlt2:i<R.length
 ·refine G.lT (i:Int) (R.length:Int) ?_;obtain⟨q,hRi⟩:∃ q,R[i]?=some q:=⟨_,A0n hlt2⟩;have hmem:=A1b hRi;have htk2:R.take (i+1)=R.take i++[q]:=by rw[A1c,hRi];rfl
  have hword:=ok.rel.names.word q.1 (A0u.2 ⟨q,hmem,rfl⟩);have hnx:(R.map (·.1))[i]?=some q.1:=by rw[A0v,hRi];rfl
  obtain⟨ba,oa,rfl,ea⟩:=Ab.at' (hR.mono le2) (j:=i) (e:=Gb q) (by simp[hRi]);obtain⟨qs,ql,qa,qc⟩:=q;have hne:ql≠[]:=ok.rel.ne _ hmem;have hlq:∀ p∈ql,p<T.length:=ok.rel.lt _ hmem;have hql:ql.length<=1000:=ok.rel.len _ hmem;have hasc:∀ (k:Nat) x y,ql[k]?=some x->ql[k+1]?=some y->x<y:=ok.rel.asc _ hmem;have hqat:Ab u2 (.slice qa ql.length qc) 1 (Ag ql):=(ok.rel.at' _ hmem).mono le2;have hq0:0<ql.length:=List.length_pos_iff.2 hne;simp only at hword hnx;refine G.a ba oa R.length xd i 2 hlt2 ?_;refine G.lU (some 2) ba (oa+i*2) (.agg #[.string (mkS qs),.slice qa ql.length qc]) ea ?_;refine G.c call135 (Nt hword) ?_;rintro v3 u3 l3 rfl;refine G.l (ι:=Nat) (fun k=>[(1,.p 0 0),(6,sV (some ⟨g,0,none⟩) T.length T.length),(7,iV i),(8,.p 19003 0),(9,iV k),(88,sV (some ⟨ba,oa,none⟩) R.length xd),(89,iV R.length),(90,iV i)])
   (fun _=>[(0,⟨31,[sV xa T.length xc,sV (some ⟨ba,oa,none⟩) R.length xd,sV xe F.length xf,iV lab]⟩),(19003,⟨94,[tV qs,sV qa ql.length qc]⟩)])
   (fun k u' m'=>k<=i/\m'=m2) (fun k=>i-k) 0 ⟨oV,rfl⟩ ?_
  rintro J2 k hJ2 u4 m4 l4 ⟨hk,rfl⟩;by_cases hlk:k<i
  ·refine G.lT (k:Int) (i:Int) ?_;obtain⟨y,hTk⟩:∃ y,R[k]?=some y:=⟨_,A0n oV⟩;have hny:(R.map (·.1))[k]?=some y.1:=by rw[A0v,hTk];rfl
   have hne2:=Aam ok.rel.names.nodup hnx hny oV;obtain⟨_,_,e',ek⟩:=Ab.at' (hR.mono ((le2.trans l3).trans l4)) (j:=k) (e:=Gb y) (by simp[hTk]);cases e';refine G.a ba oa R.length xd k 2 oV ?_;refine G.f 94 ba (oa+k*2) 0 0 ?_;refine G.lU none ba (oa+k*2+0) (.string (mkS y.1)) (ek.fld rfl rfl) ?_;refine G.w y.1 qs hne2 ?_;refine G.i k ?_;exact G.b (hJ2 (k+1) _ _ _ cV l4 ⟨oV,rfl⟩ oV)
  obtain rfl:k=i:=oV
  refine G.lF (k:Int) (k:Int) ?_;clear hJ2;refine G.eF (ql.length:Int) 0 ?_;refine G.l (ι:=Nat×List Bool) (fun j=>[(1,.p 0 0),(6,sV (some ⟨g,0,none⟩) T.length T.length),(8,.p 19003 0),(88,sV (some ⟨ba,oa,none⟩) R.length xd),(89,iV R.length),(90,iV k),(118,sV qa ql.length qc),(119,iV ql.length),(120,iV j.1)])
   (fun _=>[(0,⟨31,[sV xa T.length xc,sV (some ⟨ba,oa,none⟩) R.length xd,sV xe F.length xf,iV lab]⟩),(19003,⟨94,[tV qs,sV qa ql.length qc]⟩)])
   (fun j u' m'=>j.1<=ql.length/\j.2.length=T.length/\(∀ r∈R.take k,∀ q∈r.2.1,j.2[q]?=some true)/\(∀ q∈ql.take j.1,j.2[q]?=some true)/\Ae PH.mt m' (.slice (some ⟨g,0,none⟩) T.length T.length) 4 1 (j.2.map A6a)) (fun j=>ql.length-j.1) (0,L)
   ⟨mV,hL,hall,mV,hA2⟩ ?_
  rintro J2 ⟨j,L2⟩ hJ2 u6 m6 l6 ⟨hj,hL2,hall2,hrow2,hA6⟩;simp only at hj hL2 hall2 hrow2 hA6 hJ2;have le6:=(l3.trans l4).trans l6;have hqat6:=hqat.mono le6;by_cases hltj:j<ql.length
  ·refine G.lT (j:Int) (ql.length:Int) ?_;obtain⟨p,hqj⟩:∃ p,ql[j]?=some p:=⟨_,A0n hltj⟩;have hpn:p<T.length:=hlq _ (A1b hqj);have htkj:ql.take (j+1)=ql.take j++[p]:=by rw[A1c,hqj];rfl
   obtain⟨bq,oq,rfl,eq⟩:=Ab.at' hqat6 (j:=j) (e:=.int .i64 (p:Int)) (by simp[Ag,hqj]);refine G.a bq oq ql.length qc j 1 hltj ?_;refine G.lU none bq (oq+j*1) (.int .i64 (p:Int)) eq ?_;refine G.lF (p:Int) 0 ?_;refine G.hF (p:Int) (T.length:Int) ?_;refine G.a g 0 T.length T.length p 1 hpn ?_;refine G.storeA 1 PH.mt (L2.map A6a) g T.length T.length p (.bool true) kV hA6 (by rw[A0p];omega) rfl rfl ?_;intro m7 hA7;rw[Ow]at hA7;refine G.i j ?_;have hkeep:∀ q,L2[q]?=some true->(L2.set p true)[q]?=some true:=fun q hq=>by
    rw[A25];split
    ·subst_vars;rw[if_pos oV]
    ·exact hq
   exact G.b (hJ2 (j+1,L2.set p true) _ _ _ cV l6 ⟨dV,by simp[hL2],fun r hr q hq=>hkeep q (hall2 r hr q hq),by
    intro q hq;dsimp only at hq⊢;rw[htkj,A01,A1t]at hq;rcases hq with hq|rfl
    ·exact hkeep q (hrow2 q hq)
    ·rw[A25];simp;omega,hA7⟩ dV)
  obtain rfl:j=ql.length:=oV
  refine G.lF (ql.length:Int) (ql.length:Int) ?_;clear hJ2;rw[A1k]at hrow2;refine G.l (ι:=Nat) (fun j=>[(1,.p 0 0),(6,sV (some ⟨g,0,none⟩) T.length T.length),(8,.p 19003 0),(12,iV (j+1:Nat)),(88,sV (some ⟨ba,oa,none⟩) R.length xd),(89,iV R.length),(90,iV k)])
   (fun _=>[(0,⟨31,[sV xa T.length xc,sV (some ⟨ba,oa,none⟩) R.length xd,sV xe F.length xf,iV lab]⟩),(19003,⟨94,[tV qs,sV qa ql.length qc]⟩)])
   (fun j u' m'=>j+1<=ql.length/\m'=m6) (fun j=>ql.length-j) 0
   ⟨oV,rfl⟩ ?_
  rintro J3 j hJ3 u8 m8 l8 ⟨hj3,rfl⟩;have hqat8:=hqat6.mono l8;by_cases hltk:j+1<ql.length
  ·refine G.lT ((j+1:Nat):Int) (ql.length:Int) ?_;obtain⟨p1,hq1⟩:∃ p,ql[j]?=some p:=⟨_,A0n oV⟩;obtain⟨p2,hq2⟩:∃ p,ql[j+1]?=some p:=⟨_,A0n hltk⟩;have hlt3:=hasc j _ _ hq1 hq2;obtain⟨bq,oq,rfl,eq2⟩:=Ab.at' hqat8 (j:=j+1) (e:=.int .i64 (p2:Int)) (by simp[Ag,hq2]);obtain⟨_,_,e',eq1⟩:=Ab.at' hqat8 (j:=j) (e:=.int .i64 (p1:Int)) (by simp[Ag,hq1]);cases e';refine G.a bq oq ql.length qc (j+1) 1 hltk ?_;refine G.lU none bq (oq+(j+1)*1) (.int .i64 (p2:Int)) eq2 ?_;refine G.s ((j+1:Nat):Int) 1 (j:Int) ?_;refine G.a bq oq ql.length qc j 1 oV ?_;refine G.lU none bq (oq+j*1) (.int .i64 (p1:Int)) eq1 ?_;refine G.kF (p2:Int) (p1:Int) ?_;refine G.p ((j+1:Nat):Int) 1 ((j+1+1:Nat):Int) ?_;exact G.b (hJ3 (j+1) _ _ _ cV l8 ⟨oV,rfl⟩ oV)
  ·refine G.lF ((j+1:Nat):Int) (ql.length:Int) ?_;refine G.i k ?_;exact G.b (hJ (k+1,L2) _ _ _ cV ((l2.trans le6).trans l8) ⟨dV,hL2,by
    intro r hr q hq;dsimp only at hr hq⊢;rw[htk2,A01,A1t]at hr;rcases hr with hr|rfl
    ·exact hall2 r hr q hq
    ·exact hrow2 q hq,hA6⟩ dV)
 obtain rfl:i=R.length:=oV
 refine G.lF (R.length:Int) (R.length:Int) ?_;clear hJ;rw[A1k]at hall;refine G.l (ι:=Nat) (fun i=>[(1,.p 0 0),(6,sV (some ⟨g,0,none⟩) T.length T.length),(156,sV (some ⟨g,0,none⟩) T.length T.length),(157,iV T.length),(158,iV i)])
  (fun _=>[(0,⟨31,[sV xa T.length xc,sV xb R.length xd,sV xe F.length xf,iV lab]⟩)])
  (fun i u' m'=>i<=T.length/\m'=m2) (fun i=>T.length-i) 0 ⟨oV,rfl⟩ ?_
 rintro J i hJ u3 m3 l3 ⟨hi3,rfl⟩;by_cases hlt3:i<T.length
 ·refine G.lT (i:Int) (T.length:Int) ?_;have hLi:L[i]?=some true:=by
   obtain⟨r,hr,hq⟩:=ok.rel.all i hlt3;exact hall r hr i hq
  refine G.a g 0 T.length T.length i 1 hlt3 ?_;refine G.lM none g (0+i*1) (.bool true) (hA2.el (by rw[A0v,hLi];rfl)) ?_;refine G.i i ?_;exact G.b (hJ (i+1) _ _ _ cV l3 ⟨oV,rfl⟩ oV)
 obtain rfl:i=T.length:=oV
 refine G.lF (T.length:Int) (T.length:Int) ?_;clear hJ;have le3:=le2.trans l3;refine G.l (ι:=Nat) (fun i=>[(1,.p 0 0),(6,sV (some ⟨g,0,none⟩) T.length T.length),(166,sV xe F.length xf),(167,iV F.length),(168,iV i)])
  (fun _=>[(0,⟨31,[sV xa T.length xc,sV xb R.length xd,sV xe F.length xf,iV lab]⟩)])
  (fun i u' m'=>i<=F.length/\m'=m3) (fun i=>F.length-i) 0 ⟨oV,rfl⟩ ?_
 rintro J i hJ u4 m4 l4 ⟨hi4,rfl⟩;have le4:=le3.trans l4;by_cases hlt4:i<F.length
 ·refine G.lT (i:Int) (F.length:Int) ?_;obtain⟨f,hFi⟩:∃ f,F[i]?=some f:=⟨_,A0n hlt4⟩;have hfm:=A1b hFi;obtain⟨fn,fk,hfk,hkind,hfl⟩:=ok.feat.ok f hfm;obtain⟨hf1,_⟩:=A0s.1 hfk;have hnx:(F.map (·.1))[i]?=some f.1:=by rw[A0v,hFi];rfl
  obtain⟨fb,fo,rfl,ef⟩:=Ab.at' (hF.mono le4) (j:=i) (e:=B6 f) (by simp[hFi]);obtain⟨ab,ao,rfl,ea⟩:=Ab.at' (hT.mono le4) (j:=f.1) (e:=D0 (fn,fk)) (by simp[hfk]);obtain⟨p1,p2,p3⟩:=f;simp only at hkind hfl hf1 hnx ea;refine G.a fb fo F.length xf i 3 hlt4 ?_;refine G.lU (some 3) fb (fo+i*3) (.agg #[.int .i64 (p1:Int),.int .i64 (p2:Int),.int .i64 (p3:Int)]) ef ?_;refine G.lF (p1:Int) 0 ?_;refine G.hF (p1:Int) (T.length:Int) ?_;refine G.joinF (ι:=Unit) (fun st=>Kh prog (Xy prog st [.bool false,.bool true,.bool true,undef,undef,undef,.bool true])) (fun _=>[(1,.p 0 0),(6,sV (some ⟨g,0,none⟩) T.length T.length),(15,iV i),(16,.p 50003 0),(166,sV (some ⟨fb,fo,none⟩) F.length xf),(167,iV F.length),(168,iV i)])
   (fun _=>[(0,⟨31,[sV (some ⟨ab,ao,none⟩) T.length xc,sV xb R.length xd,sV (some ⟨fb,fo,none⟩) F.length xf,iV lab]⟩),(50003,⟨144,[iV p1,iV p2,iV p3]⟩)])
   (fun _ u' m'=>u'=u4/\m'=m4) (fun _=>kV) kV ?tail ?way
  case way =>
   intro hjoin;rcases hkind with ⟨rfl,rfl,hp3⟩|⟨rfl,rfl,rfl⟩
   ·refine G.eT ((1:Nat):Int) 1 ?_;rcases (by omega:p3=0\/p3=1) with rfl|rfl
    ·refine G.eT ((0:Nat):Int) 0 ?_;refine G.a ab ao T.length xc p1 2 hf1 ?_;refine G.f 92 ab (ao+p1*2) 1 1 ?_;refine G.lU none ab (ao+p1*2+1) (.int .i64 ((2:Nat):Int)) (I6 ea) ?_;refine G.eT ((2:Nat):Int) 2 ?_;refine G.eF ((1:Nat):Int) 2 ?_;refine G.pastI ?_;exact hjoin () _ _ _ kV cV (PH.le_refl _) ⟨rfl,rfl⟩
    ·refine G.eF ((1:Nat):Int) 0 ?_;refine G.eT ((1:Nat):Int) 1 ?_;refine G.a ab ao T.length xc p1 2 hf1 ?_;refine G.f 92 ab (ao+p1*2) 1 1 ?_;refine G.lU none ab (ao+p1*2+1) (.int .i64 ((2:Nat):Int)) (I6 ea) ?_;refine G.eT ((2:Nat):Int) 2 ?_;refine G.eF ((1:Nat):Int) 2 ?_;refine G.pastI ?_;exact hjoin () _ _ _ kV cV (PH.le_refl _) ⟨rfl,rfl⟩
   ·refine G.eF ((2:Nat):Int) 1 ?_;refine G.eT ((2:Nat):Int) 2 ?_;refine G.eT ((0:Nat):Int) 0 ?_;refine G.a ab ao T.length xc p1 2 hf1 ?_;refine G.f 92 ab (ao+p1*2) 1 1 ?_;refine G.lU none ab (ao+p1*2+1) (.int .i64 ((3:Nat):Int)) (I6 ea) ?_;refine G.eT ((3:Nat):Int) 3 ?_;refine G.pastI ?_;exact hjoin () _ _ _ kV cV (PH.le_refl _) ⟨rfl,rfl⟩
  rintro _ u5 m5 _ ⟨rfl,rfl⟩;refine G.l (ι:=Nat) (fun k=>[(1,.p 0 0),(6,sV (some ⟨g,0,none⟩) T.length T.length),(15,iV i),(16,.p 50003 0),(19,iV k),(166,sV (some ⟨fb,fo,none⟩) F.length xf),(167,iV F.length),(168,iV i)])
   (fun _=>[(0,⟨31,[sV (some ⟨ab,ao,none⟩) T.length xc,sV xb R.length xd,sV (some ⟨fb,fo,none⟩) F.length xf,iV lab]⟩),(50003,⟨144,[iV p1,iV p2,iV p3]⟩)])
   (fun k u' m'=>k<=i/\m'=m5) (fun k=>i-k) 0 ⟨oV,rfl⟩ ?_
  rintro J2 k hJ2 u6 m6 l6 ⟨hk,rfl⟩;by_cases hlk:k<i
  ·refine G.lT (k:Int) (i:Int) ?_;obtain⟨y,hFk⟩:∃ y,F[k]?=some y:=⟨_,A0n oV⟩;have hny:(F.map (·.1))[k]?=some y.1:=by rw[A0v,hFk];rfl
   have hne:y.1≠p1:=fun e=>Nat.ne_of_lt hlk (Og ok.feat.nodup hny (by rw[hnx,e]));obtain⟨_,_,e',ek⟩:=Ab.at' (hF.mono (le4.trans l6)) (j:=k) (e:=B6 y) (by simp[hFk]);cases e';refine G.a fb fo F.length xf k 3 oV ?_;refine G.f 144 fb (fo+k*3) 0 0 ?_;refine G.lU none fb (fo+k*3+0) (.int .i64 (y.1:Int)) (ek.fld rfl rfl) ?_;refine G.eF (y.1:Int) (p1:Int) ?_;refine G.i k ?_;exact G.b (hJ2 (k+1) _ _ _ cV l6 ⟨oV,rfl⟩ oV)
  ·obtain rfl:k=i:=oV
   refine G.lF (k:Int) (k:Int) ?_;refine G.eF' (p1:Int) lab hfl ?_;refine G.i k ?_;exact G.b (hJ (k+1) _ _ _ cV (l4.trans l6) ⟨oV,rfl⟩ oV)
 obtain rfl:i=F.length:=oV
 refine G.lF (F.length:Int) (F.length:Int) ?_;refine G.drop PH.mt kV (PH.mt_le _) ?_;refine G.lF lab (-1) ?_;refine G.hF lab (T.length:Int) ?_;rcases A5n lab 0 with hneg|hge
 ·refine G.hF lab 0 ?_;exact G.r (.int .i64 0) ⟨rfl,rfl⟩
 ·refine G.hT lab 0 ?_;obtain⟨l,rfl⟩:∃ l:Nat,lab=(l:Int):=⟨lab.toNat,oV⟩;obtain⟨n,hn⟩:=ok.l2 l rfl;obtain⟨bb,ob,rfl,eb⟩:=Ab.at' (hT.mono le4) (j:=l) (e:=D0 (n,2)) (by simp[hn]);refine G.a bb ob T.length xc l 2 oV ?_;refine G.f 92 bb (ob+l*2) 1 1 ?_;refine G.lU none bb (ob+l*2+1) (.int .i64 ((2:Nat):Int)) (I6 eb) ?_;refine G.nF ((2:Nat):Int) 2 ?_;exact G.r (.int .i64 0) ⟨rfl,rfl⟩
end
section
variable {u:PH}
theorem Akm {l:List Nat}{i:Nat}(h:i<l.length):l.drop i=l.getD i 0::l.drop (i+1):=by
 rw[List.drop_eq_getElem_cons h];simp[A0o,A0n h]
theorem Yq (l:List Nat):∀ k,val (l.drop k)<=val l:=by
 induction l with
 |nil=>intro k;simp
 |cons a l ih =>
  intro k;cases k with
  |zero=>simp
  |succ k =>
   have:=ih k;simp only[List.drop_succ_cons,val];omega
theorem Ar1 {z:Int}(hz:z.natAbs<1000000000000000000):Fn0 prog 209 [.string (mkS (A1a z))] u fun v _=>v=.tuple #[.int .i64 z,.bool true]:=by
 have hd:=Me hz;refine Fn0.o func209 ?_;refine G.c call166 (Py hd) ?_;rintro v1 u1 l1 rfl;refine G.c call83 (Ks hd) ?_;intro v2 u2 l2 k2;obtain⟨b,a,n,c,rfl,hb,hi⟩:=k2.opn;obtain⟨rfl,hc⟩:=hi.len;refine G.c call79 (Te (n:=4611686018427387904) oV oV) ?_;intro v3 u3 l3 k3;obtain⟨b',a',n',c',rfl,hb',hi'⟩:=k3.opn;obtain⟨rfl,hc'⟩:=hi'.len;have hnl:nl z.natAbs<=400:=Ms hd;have hnl2:nl (4611686018427387904:Int).natAbs<=400:=Ms jV;refine G.c call172 (Jb (hi.mono l3) hi' oV oV) ?_;rintro v4 u4 l4 rfl;have hs:sgn (((z.natAbs:Nat):Int)-(((4611686018427387904:Int).natAbs:Nat):Int))<=0:=by
  unfold sgn;have:((4611686018427387904:Int).natAbs:Int)=4611686018427387904:=fV
  split
  ·omega
  ·split<;>omega
 refine G.gF (sgn (((z.natAbs:Nat):Int)-(((4611686018427387904:Int).natAbs:Nat):Int))) 0 ?_;have hnl':(Aa z.natAbs).length<=400:=hnl;refine G.s ((Aa z.natAbs).length:Int) 1 ((Aa z.natAbs).length-1:Int) ?_;refine G.l (ι:=Int×Nat) (fun i=>[(4,.p 3002 0),(6,iV i.2),(7,iV i.1)]) (fun _=>[(3002,⟨66,[bV b,sV a (Aa z.natAbs).length c]⟩)])
  (fun i u' m'=>-1<=i.1/\i.1<(Aa z.natAbs).length/\i.2=val ((Aa z.natAbs).drop (i.1+1).toNat)/\m'=PH.mt) (fun i=>(i.1+1).toNat) (((Aa z.natAbs).length-1:Int),0) ⟨dV,dV,by
   dsimp only;rw[show (((Aa z.natAbs).length:Int)-1+1).toNat=(Aa z.natAbs).length by omega,List.drop_length];rfl,rfl⟩ ?_
 rintro J ⟨i,s⟩ hJ u5 m5 l5 ⟨h1,h2,hsv,rfl⟩;simp only at h1 h2 hsv hJ;have hvz:=Aj z.natAbs;by_cases hi0:0<=i
 ·obtain⟨k,rfl⟩:∃ k:Nat,i=(k:Int):=⟨i.toNat,oV⟩;have hkl:k<(Aa z.natAbs).length:=oV
  rw[show ((k:Int)+1).toNat=k+1 by omega]at hsv;have hdr:=Akm hkl;have hle:=Yq (Aa z.natAbs) k;rw[hvz,hdr]at hle;simp only[val]at hle;rw[<-hsv]at hle;refine G.hT (k:Int) 0 ?_;refine G.mul (s:Int) 1000000000 ((s*1000000000:Nat):Int) kV oV oV oV ?_;obtain⟨bb,off,rfl,e⟩:=(hi.mono ((l3.trans l4).trans l5)).at hkl;refine G.a bb off (Aa z.natAbs).length c k 1 hkl ?_;refine G.lU none bb (off+k*1) (.int .i64 ((Aa z.natAbs).getD k 0:Nat)) e ?_;generalize hg:(Aa z.natAbs).getD k 0=d at hdr hle;refine G.p ((s*1000000000:Nat):Int) (d:Int) ((s*1000000000+d:Nat):Int) ?_;refine G.s (k:Int) 1 ((k:Int)-1) ?_;exact G.b (hJ ((k:Int)-1,s*1000000000+d) _ _ _ cV l5 ⟨dV,dV,by
   dsimp only;rw[show ((k:Int)-1+1).toNat=k by omega,hdr];simp only[val];rw[<-hsv];omega,rfl⟩ dV)
 ·obtain rfl:i = -1:=oV
  refine G.hF (-1) 0 ?_;have hs2:s=z.natAbs:=by rw[hsv,show ((-1:Int)+1).toNat=0 by decide,List.drop_zero,hvz]
  subst hs2;cases b with
  |true =>
   have hneg:z<0:=by simpa using hb.symm
   refine G.neg ((z.natAbs:Nat):Int) z kV oV oV oV ?_;exact G.r (.tuple #[.int .i64 z,.bool true]) ⟨rfl,rfl⟩
  |false =>
   have hnn:¬ z<0:=by simpa using hb.symm
   have hzz:((z.natAbs:Nat):Int)=z:=oV
   refine G.r (.tuple #[.int .i64 ((z.natAbs:Nat):Int),.bool true]) ⟨rfl,by rw[hzz]⟩
theorem Aov (z:Int):Af (z:Rat)=A1a z:=by
 unfold Af;simp
theorem Agh {x:List UInt8×Nat}{t:List UInt8}(h1:1<=x.2)(h3:x.2<=3)(hv:Ii x.2 t):Fn0 prog 136 [D0 x,.string (mkS t)] u fun v _=>v=.bool true:=by
 obtain⟨s,k⟩:=x;simp only at h1 h3 hv;refine Fn0.o func136 ?_;refine G.lF (k:Int) 1 ?_;refine G.gF (k:Int) 3 ?_;by_cases ht:t = []
 ·refine G.q t [] ht ?_;exact G.r (.bool true) ⟨rfl,rfl⟩
 refine G.w t [] ht ?_;rcases hv with e|⟨rfl,hw⟩|⟨rfl,z,hz,rfl⟩|⟨rfl,q,hq,rfl⟩
 ·exact absurd e ht
 ·refine G.eT ((3:Nat):Int) 3 ?_;refine G.c call135 (Nt (Ag0 hw)) ?_;rintro v1 u1 l1 rfl;exact G.r (.bool true) ⟨rfl,rfl⟩
 ·refine G.eF ((1:Nat):Int) 3 ?_;have hp:=Pt (u:=u) (q:=(z:Rat)) ⟨Me (by simpa using (by omega:z.natAbs<1000000000000000000)),by simp;decide +kernel⟩;rw[Aov]at hp;simp only[Rat.num_intCast,Rat.den_intCast]at hp;refine G.c call81 hp ?_;rintro v1 u1 l1 rfl;refine G.eT ((1:Nat):Int) 1 ?_;refine G.y (A1a ((1:Nat):Int)) [49] jV ?_;refine G.c call209 (Ar1 (z:=z) oV) ?_;rintro v2 u2 l2 rfl;refine G.c call209 (Ar1 (z:=((1:Nat):Int)) oV) ?_;rintro v3 u3 l3 rfl;refine G.hT z (-1000000000) ?_;refine G.kT z 1000000000 ?_;refine G.kT ((1:Nat):Int) 12 ?_;exact G.r (.bool true) ⟨rfl,rfl⟩
 ·have hdt:=hq.dat;have hn:=hdt.num;have hdn:=hdt.den;refine G.eF ((2:Nat):Int) 3 ?_;refine G.c call81 (Pt hdt.tx) ?_;rintro v1 u1 l1 rfl;refine G.eF ((2:Nat):Int) 1 ?_;refine G.c call209 (Ar1 (z:=q.num) oV) ?_;rintro v2 u2 l2 rfl;refine G.c call209 (Ar1 (z:=(q.den:Int)) oV) ?_;rintro v3 u3 l3 rfl;refine G.hT q.num (-1000000000) ?_;refine G.kT q.num 1000000000 ?_;refine G.kT (q.den:Int) 12 ?_;exact G.r (.bool true) ⟨rfl,rfl⟩
theorem Afu {v tv:Value}{T:List (List UInt8×Nat)}{R:List Bk}{F:List Ao}{lab:Int}{ss:List (List UInt8)}(h:Af5 u v tv T R F lab ss) :
 Fn0 prog 64 [v,tv] u fun r _=>r=.int .i64 0:=by
 have hck:=fun (u':PH) (l:PH.le u u')=>Pf (h.sch.mono l) (h.ok.mono l);obtain⟨⟨xa,xc,xb,xd,xe,xf,rfl,hTL,hRL,hFL⟩,ok,hS,hT⟩:=h;obtain⟨ya,yc,rfl⟩:=hS.opn;rw[A0p]at hS⊢;have hlen:=hT.len;have t2:=ok.t2;refine Fn0.o func64 ?_;refine G.c call62 (hck u (PH.le_refl _)) ?_;rintro v1 u1 l1 rfl;refine G.nF 0 0 ?_;refine G.nF (ss.length:Int) (T.length:Int) ?_;refine G.l (ι:=Nat) (fun i=>[(2,.p 0 0),(19,sV ya ss.length yc),(20,iV ss.length),(21,iV i)])
  (fun _=>[(0,⟨31,[sV xa T.length xc,sV xb R.length xd,sV xe F.length xf,iV lab]⟩)])
  (fun i u' m'=>i<=ss.length/\m'=PH.mt) (fun i=>ss.length-i) 0 ⟨oV,rfl⟩ ?_
 rintro J i hJ u2 m2 l2 ⟨hi,rfl⟩;have le2:=l1.trans l2;by_cases hlt:i<ss.length
 ·refine G.lT (i:Int) (ss.length:Int) ?_;obtain⟨b,off,rfl,e⟩:=Adx (hS.mono le2) hlt;refine G.a b off ss.length yc i 1 hlt ?_;refine G.lU none b (off+i*1) (.string (mkS (ss.getD i []))) e ?_;have hTi:T[i]?=some T[i]:=A0n oV;have hk:=ok.att.kind T[i] (List.getElem_mem oV);have hv:=hT.val i _ _ hTi (A0n hlt);rw[show ss[i]=ss.getD i [] by simp[A0o,A0n hlt]]at hv;obtain⟨ba,oa,rfl,ea⟩:=Ab.at' (hTL.mono le2) (j:=i) (e:=D0 T[i]) (by simp[hTi]);generalize T[i]=x at hTi hk hv ea;refine G.a ba oa T.length xc i 2 oV ?_;refine G.lU (some 2) ba (oa+i*2) (D0 x) ea ?_;refine G.c call136 (Agh hk.1 hk.2 hv) ?_;rintro v3 u3 l3 rfl;refine G.i i ?_;exact G.b (hJ (i+1) _ _ _ cV (l2.trans l3) ⟨oV,rfl⟩ oV)
 ·obtain rfl:i=ss.length:=oV
  refine G.lF (ss.length:Int) (ss.length:Int) ?_;exact G.r (.int .i64 0) ⟨rfl,rfl⟩
end
section
variable {F:CF}{N b sz:Nat}{es:List Value}{v:Value}
def Apc (u m:PH)(v:Value)(F:CF)(N:Nat):Prop :=
 ∃ b a n c b' a' n' c' g1 g2 o1 o2,v=.agg #[.bool b,.slice a n c,.bool b',.slice a' n' c',.map (some g1),.map (some g2)]/\QP u (.agg #[.bool b,.slice a n c,.bool b',.slice a' n' c']) F.c/\(u g1=some o1\/m g1=some o1)/\(u g2=some o2\/m g2=some o2)/\C5 An KT u o1 F.s N/\C5 prV KO u o2 F.t N
theorem H6.i {u m:PH}(h:H6 m u v F N):Apc u m v F N:=by
 obtain⟨b,a,n,c,b',a',n',c',g1,g2,o1,o2,e,h1,h2,rfl,h4,h5⟩:=h;exact⟨b,a,n,c,b',a',n',c',g1,g2,o1,o2,e,h1,.inr (by rw[Ad _ _ h2,Ac]),.inr (Ac _ _ _),h4,h5⟩
section
variable {P:Program} [Ba P] {fn:Func} {Post:B0} {st:List KI×S} {u m:PH}
theorem G.appendMV (e:TypeId)(sz bt:Nat)(z:Value)(m0:PH)(es xs:List Value)(v:Value)(a:Option Addr)(n c:Nat)(h:Al P (adv P st)=.app (some (e,sz,bt,z)) true [v,.slice a n c])(hz:z.cells.toList.all Be=true)(hzs:z.cells.size=sz)(hsz:0<sz)
 (ha:Ae m0 m v e sz es) (hn:n=xs.length) (hx:xs≠[]->∃ b off,a=some ⟨b,off,none⟩/\El m b off sz xs) (ho:A3 sz xs) (hb:(es.length+xs.length)*bt<=140737488355328) (hb2:es.length+xs.length<=9223372036854775807)
 (k:∀ v' m',Ae m0 m' v' e sz (es++xs)->G P fn Post (nx (adv P st) v') u m'):G P fn Post st u m:=by
 cases xs with
 |nil =>
  simp only[A3i]at hn;subst hn;obtain⟨a1,c1,rfl⟩:=ha.shape;refine G.append0 e sz bt z a1 a es.length c1 c h ha.cap ?_;exact k _ _ (by rw[List.append_nil];exact ha)
 |cons x xs =>
  obtain⟨b,off,rfl,hx'⟩:=hx mV;subst hn;exact G.appendM e sz bt z m0 es (x::xs) v b off _ c h hz hzs hsz ha hx' ho rfl mV hb hb2 k
end
theorem Ae.els {m0 m:PH}{t:TypeId}{b n c:Nat}(h:Ae m0 m (.slice (some ⟨b,0,none⟩) n c) t sz es):El m b 0 sz es:=fun j e hj=>h.el hj
theorem El.drop {m:PH}(h:El m b 0 sz es)(k:Nat):El m b (0+k*sz) sz (es.drop k):=fun j e hj=>by
 have:=h (k+j) e (by rw[List.getElem?_drop]at hj;exact hj);rw[A1o,A2b]at this;rw[A2b];exact this
theorem Afr (l:List (Par×Rat)):A3 3 (l.map A5):=fun e he=>by
 obtain⟨p,_,rfl⟩:=A0u.1 he;exact Ot p _ mV
theorem Agm (l:List ((Par×Par)×Rat)):A3 5 (l.map Da):=fun e he=>by
 obtain⟨p,_,rfl⟩:=A0u.1 he;exact Aei p _ mV
theorem Ok {q:Rat}:q.num=0↔q=0:=Rat.num_eq_zero
theorem Agc {u m:PH}(h:Apc u m v F N)(sF:CFS F)(hN:N<=1000000) :
 FnK prog 67 [v] u m fun r u'=>Apm u' r F N:=by
 obtain⟨b,a,n,c,b',a',n',c',g1,g2,o1,o2,rfl,hF,hg1,hg2,s1,s2⟩:=h;obtain⟨l1,⟨es1,clk1,rfl,hkv1,hst1⟩,hl1,hz1,hn1⟩:=s1.at;obtain⟨l2,⟨es2,clk2,rfl,hkv2,hst2⟩,hl2,hz2,hn2⟩:=s2.at;have hnd1:(l1.map (·.1)).Nodup:=Ec.nodup (enc:=An) ⟨es1,clk1,rfl,hkv1,hst1⟩;have hnd2:(l2.map (·.1)).Nodup:=Ec.nodup (enc:=prV) ⟨es2,clk2,rfl,hkv2,hst2⟩;have sit1:∀ {u' m':PH},PH.le u u'->PH.le m m'->u' g1=some (.map es1 clk1)\/m' g1=some (.map es1 clk1):=fun a b=>hg1.elim (fun e=>.inl (a _ _ e)) (fun e=>.inr (b _ _ e));have sit2:∀ {u' m':PH},PH.le u u'->PH.le m m'->u' g2=some (.map es2 clk2)\/m' g2=some (.map es2 clk2):=fun a b=>hg2.elim (fun e=>.inl (a _ _ e)) (fun e=>.inr (b _ _ e));refine FnK.of func67 kV kV ?_;refine G.c call35 (Kw hF (SB.tx sF.c)) ?_;rintro v1 u1 le1 rfl;refine G.nF 0 0 ?_;refine G.mapRange g1 es1 clk1 79 68 kV (sit1 le1 (fun _ _ h=>h)) ?_;intro it him hiu;have hlem:∀ o,PH.le m (m.upd it o):=fun o=>Jw o him;refine G.l (ι:=List MapEntry×List (Par×Value)×List (Par×Rat)×(Option Addr×Nat)) (fun i=>[(1,.p 0 0),(2,.p 1 0),(6,.p 2002 0),(33,.v (.pointer (some ⟨it,0,none⟩)))])
  (fun i=>[(0,⟨136,[bV b,sV a n c,bV b',sV a' n' c',.v (.map (some g1)),.v (.map (some g2))]⟩),(1,⟨37,[tV [],sV none 0 0,sV none 0 0]⟩),(2002,⟨37,[tV (Af F.c),sV i.2.2.2.1 i.2.2.1.length i.2.2.2.2,sV none 0 0]⟩)])
  (fun i u' m'=>Eq An es1 l1 i.1 i.2.1/\Ox A8 F.s (i.2.1.map (·.1)) i.2.2.1/\i.2.2.1.length<=i.2.1.length/\Ae (m.upd it (.mapIter (some g1) clk1 (Ar i.1) clk1)) m' (.slice i.2.2.2.1 i.2.2.1.length i.2.2.2.2) 81 3 (i.2.2.1.map A5))
  (fun i=>l1.length-i.2.1.length) ([],[],[],(none,0))
  ⟨Eq.nil _ _,Ox.nil,A0w _,Ae.nil _ _ _⟩ ?_
 rintro J ⟨D,L,S,⟨sa,sc⟩⟩ hJ u2 m2 l2' ⟨hS,hI,hSL,hA⟩;simp only at hS hI hSL hA hJ;have le2:=le1.trans l2';have hit:m2 it=some (.mapIter (some g1) clk1 (Ar D) clk1):=hA.see (Ac _ _ _);have hlm2:PH.le m m2:=fun g o hg=>hA.see (hlem _ g o hg);refine G.mapNextL Bt.inj it g1 es1 clk1 l1 D L kV kV hit (sit1 le2 hlm2) hst1 hkv1 hnd1 hS ?done1 ?next1
 case next1 =>
  rintro⟨k,xv⟩ e hp hkn he hek hev hS';simp only at hkn hek hev;have hx:=(hl1 _ hp).1;simp only at hx;obtain⟨yb,ya,yn,yc,ya',yn',yc',rfl,_⟩:=hx.opn;have hA1:=hA.base (b:=it) (o:=.mapIter (some g1) clk1 (Ar (D++[e])) clk1) (by rw[Ac];simp);rw[Dh]at hA1;have hlm3:PH.le m (m2.upd it (.mapIter (some g1) clk1 (Ar (D++[e])) clk1)):=fun g o hg=>hA1.see (hlem _ g o hg);refine G.mapEntry it g1 es1 clk1 D e kV (Ac _ _ _) (sit1 le2 hlm3) hst1 he ?_;rw[hek,hev];have hSlen:=hS'.len;simp only[A0z,A2n,A3i]at hSlen;have hqs:=sF.s k;refine G.c call141 (Lm (hx.mono le2) (by have:=(SB.sz hqs).1;omega)) ?_;rintro v3 u3 l3 rfl;by_cases h0:F.s k=0
  ·rw[decide_eq_true (Ok.2 h0)];refine G.b (hJ (D++[e],L++[(k,_)],S,(sa,sc)) _ _ _ cV (l2'.trans l3) ⟨hS',by dsimp only;rw[A07];exact hI.skip h0,by dsimp only;simp;omega,hA1⟩ (by have:=hS'.len;simp at this;dsimp only;simp;omega))
  ·rw[decide_eq_false (fun e=>h0 (Ok.1 e))];refine G.c call35 (Kw (hx.mono (le2.trans l3)) (SB.tx hqs)) ?_;rintro v4 u4 l4 rfl;refine G.nF 0 0 ?_;have hA4:=hA1;generalize hm3:m2.upd it (.mapIter (some g1) clk1 (Ar (D++[e])) clk1)=m3 at hA4 hlm3;have hkS:k∉L.map (·.1):=hkn;refine G.l (ι:=Nat) (fun n=>[(1,.p 0 0),(2,.p 1 0),(6,.p 2002 0),(7,.p 7003 0),(11,.p 12003 0),(12,iV n),(33,.v (.pointer (some ⟨it,0,none⟩)))])
    (fun _=>[(0,⟨136,[bV b,sV a n c,bV b',sV a' n' c',.v (.map (some g1)),.v (.map (some g2))]⟩),(1,⟨37,[tV [],sV none 0 0,sV none 0 0]⟩),(2002,⟨37,[tV (Af F.c),sV sa S.length sc,sV none 0 0]⟩),(7003,⟨79,[iV k.1,tV k.2]⟩),(12003,⟨81,[iV k.1,tV k.2,tV (Af (F.s k))]⟩)])
    (fun n u' m'=>n<=S.length/\(∀ j x,j<n->S[j]?=some x->A8 x.1 k<0)/\m'=m3) (fun n=>S.length-n) 0 ⟨oV,fun j x hj=>oV,rfl⟩ ?_
   rintro J2 n2 hJ2 u5 m5 l5 ⟨hn2,hlow,rfl⟩;have le5:=((le2.trans l3).trans l4).trans l5;refine G.joinF (ι:=Unit) (fun st=>Xy prog st [.bool false]) (fun _=>[(1,.p 0 0),(2,.p 1 0),(6,.p 2002 0),(11,.p 12003 0),(12,iV n2),(33,.v (.pointer (some ⟨it,0,none⟩)))])
    (fun _=>[(0,⟨136,[bV b,sV a n c,bV b',sV a' n' c',.v (.map (some g1)),.v (.map (some g2))]⟩),(1,⟨37,[tV [],sV none 0 0,sV none 0 0]⟩),(2002,⟨37,[tV (Af F.c),sV sa S.length sc,sV none 0 0]⟩),(12003,⟨81,[iV k.1,tV k.2,tV (Af (F.s k))]⟩)])
    (fun _ u' m'=>m'=m5/\∀ x,S[n2]?=some x->¬ A8 x.1 k<0) (fun _=>kV) kV ?tail ?way
   case way =>
    intro hjoin;by_cases hlt:n2<S.length
    ·refine G.lT (n2:Int) (S.length:Int) ?_;obtain⟨x,hSx⟩:∃ x,S[n2]?=some x:=⟨_,A0n hlt⟩;obtain⟨gs,cs,hgc⟩:=hA4.ptr (fun e=>by
      have:S.length=0:=by simpa using congrArg A35 e
      omega)
     simp only[A09]at hgc;obtain⟨rfl,_,rfl⟩:=hgc;refine G.a gs 0 S.length sc n2 3 hlt ?_;refine G.f 81 gs (0+n2*3) 0 0 ?_;have hel:ElP m5 gs (0+n2*3) (A5 x):=hA4.el (by rw[A0v,hSx];rfl);refine G.lM (some 2) gs (0+n2*3+0) (.agg #[.int .i64 x.1.1,.string (mkS x.1.2)]) (hel.sub (k:=0) fun i y hy=>by
      match i,hy with
      |0,hy=>simpa[A5,A1e] using hy
      |1,hy=>simpa[A5,A1e] using hy
      |i+2,hy=>simp[A1e]at hy) ?_
     by_cases hc:A8 x.1 k<0
     ·refine G.c call93 (Dq x.1 k true (decide_eq_true hc)) ?_;rintro v6 u6 l6 rfl;refine G.i n2 ?_;exact G.b (hJ2 (n2+1) _ _ _ cV (l5.trans l6) ⟨oV,fun j y hj hy=>by
       rcases (by omega:j<n2\/j=n2) with e|rfl
       ·exact hlow j y e hy
       ·rw[hSx]at hy;cases hy;exact hc,rfl⟩ oV)
     ·refine G.c call93 (Dq x.1 k false (decide_eq_false hc)) ?_;rintro v6 u6 l6 rfl;exact hjoin () _ _ _ kV cV l6 ⟨rfl,fun y hy=>by rw[hSx]at hy;cases hy;exact hc⟩
    ·refine G.lF (n2:Int) (S.length:Int) ?_;exact hjoin () _ _ _ kV cV (PH.le_refl _) ⟨rfl,fun y hy=>by rw[A1g oV]at hy;cases hy⟩
   rintro _ u6 m6 l6 ⟨rfl,hhigh⟩;have hcap:=hA4.cap;refine G.sliceTo 3 sa S.length sc n2 kV oV ?_;refine G.sliceFromG sa S.length sc n2 3 kV hn2 hcap ?_;refine G.buildM 81 3 40 (.agg #[.int .i64 0,.string (mkS []),.string (mkS [])]) [.agg #[.int .i64 k.1,.string (mkS k.2),.string (mkS (Af (F.s k)))]] kV (Ot (k,F.s k)) rfl oV mV mV ?_;intro gt m7 hT7;refine G.appendMV 81 3 40 (.agg #[.int .i64 0,.string (mkS []),.string (mkS [])]) m6 [.agg #[.int .i64 k.1,.string (mkS k.2),.string (mkS (Af (F.s k)))]] ((S.drop n2).map A5) (.slice (some ⟨gt,0,none⟩) 1 1) (if sc=n2 then sa else sa.map (·.add (n2*3))) (S.length-n2) (sc-n2) kV rfl rfl oV hT7 mV (fun hne=>?_) (Afr _) gV gV ?_
   ·have hlt:n2<S.length:=by
     rcases A11 n2 S.length with h|h
     ·exact h
     ·exact absurd (by rw[A1u h];rfl) hne
    obtain⟨gs,cs,hgc⟩:=hA4.ptr (fun e=>by
     have:S.length=0:=by simpa using congrArg A35 e
     omega)
    simp only[A09]at hgc;obtain⟨rfl,_,rfl⟩:=hgc;refine⟨gs,0+n2*3,?_,?_⟩
    ·rw[if_neg oV];simp[Db]
    ·have:=hA4.els.drop n2;rw[<-Bcd]at this;exact fun j e hj i y hy=>by
      obtain⟨cs,t,fr,q1,q2⟩:=this j e hj i y hy;exact⟨cs,t,fr,hT7.le _ _ q1,q2⟩
   intro v8 m8 hT8;obtain⟨a8,c8,rfl⟩:=hT8.ptr mV;have hAt:=hA4.take (k:=n2) (by rw[A0p];exact hn2);obtain⟨mx,hy1,hx1,hput⟩:=At.swap (x:=⟨.slice sa n2 sc,81,3,(S.map A5).take n2⟩) (y:=⟨.slice (some ⟨a8,0,none⟩) _ c8,81,3,_⟩) hT8 hAt;refine G.appendM 81 3 40 (.agg #[.int .i64 0,.string (mkS []),.string (mkS [])]) mx ((S.map A5).take n2) _ (.slice sa n2 sc) a8 0 _ c8 kV rfl rfl oV hx1 hT8.els hT8.1 rfl mV gV gV ?_;intro v9 m9 hA9;obtain⟨mz,hz1,hz2⟩:=hput ⟨v9,81,3,_⟩ m9 hA9;have hes:(S.map A5).take n2++([.agg #[.int .i64 k.1,.string (mkS k.2),.string (mkS (Af (F.s k)))]]++(S.drop n2).map A5)=(S.take n2++[(k,F.s k)]++S.drop n2).map A5:=by
    rw[A07,A07,A57,A1j];rfl
   have hz3:Ae (m.upd it (.mapIter (some g1) clk1 (Ar (D++[e])) clk1)) mz v9 81 3 ((S.take n2++[(k,F.s k)]++S.drop n2).map A5):=by rw[<-hes];exact hz2
   obtain⟨a9,c9,rfl⟩:=hz3.shape;rw[A0p]at hz3⊢;have hS9:(S.take n2++[(k,F.s k)]++S.drop n2).length=S.length+1:=gV
   refine G.drop mz kV (fun g o hg=>Ae.le hz1 g o hg) ?_;refine G.b (hJ (D++[e],L++[(k,_)],S.take n2++[(k,F.s k)]++S.drop n2,(a9,c9)) _ _ _ cV ((((l2'.trans l3).trans l4).trans l5).trans l6) ⟨hS',?_,by dsimp only;rw[hS9];simp;omega,hz3⟩ (by have:=hS'.len;simp at this;dsimp only;simp;omega));dsimp only;rw[A07];exact hI.put Dp h0 hkS hlow hhigh
 case done1 =>
 intro hall;have hcan1:Can A8 F.s S:=hI.can fun k hk=>hz1 k fun hm=>hk (by
  obtain⟨p,hp,rfl⟩:=A0u.1 hm;exact A0u.2 ⟨p,hall p hp,rfl⟩)
 have hS1:S.length<=N:=by have:=hS.len;omega
 refine G.give _ _ _ kV hA (fun g=>?_) ?_
 ·cases hg:m g with
  |none=>exact .inl hg
  |some o=>exact .inr (by rw[hlem _ g o hg];simp)
 intro u3 l3 hX;refine G.drop m kV (hlem _) ?_;have le3:=le2.trans l3;clear hJ hA hI hSL hit hlm2 hS hall
 revert S sa sc
 intro X xa xc hcan1 hS1 hX;refine G.mapRange g2 es2 clk2 206 68 kV (sit2 le3 (fun _ _ h=>h)) ?_;intro it2 him2 hiu2;have hlem2:∀ o,PH.le m (m.upd it2 o):=fun o=>Jw o him2;refine G.l (ι:=List MapEntry×List ((Par×Par)×Value)×List ((Par×Par)×Rat)×(Option Addr×Nat)) (fun i=>[(1,.p 0 0),(2,.p 1 0),(6,.p 2002 0),(85,.v (.pointer (some ⟨it2,0,none⟩)))])
  (fun i=>[(0,⟨136,[bV b,sV a n c,bV b',sV a' n' c',.v (.map (some g1)),.v (.map (some g2))]⟩),(1,⟨37,[tV [],sV none 0 0,sV none 0 0]⟩),(2002,⟨37,[tV (Af F.c),sV xa X.length xc,sV i.2.2.2.1 i.2.2.1.length i.2.2.2.2]⟩)])
  (fun i u' m'=>Eq prV es2 l2 i.1 i.2.1/\Ox Lg F.t (i.2.1.map (·.1)) i.2.2.1/\i.2.2.1.length<=i.2.1.length/\Ae (m.upd it2 (.mapIter (some g2) clk2 (Ar i.1) clk2)) m' (.slice i.2.2.2.1 i.2.2.1.length i.2.2.2.2) 211 5 (i.2.2.1.map Da))
  (fun i=>l2.length-i.2.1.length) ([],[],[],(none,0))
  ⟨Eq.nil _ _,Ox.nil,A0w _,Ae.nil _ _ _⟩ ?_
 rintro J ⟨D,L,S,⟨sa,sc⟩⟩ hJ u2 m2 l2' ⟨hS,hI,hSL,hA⟩;simp only at hS hI hSL hA hJ;have le2:=le3.trans l2';have hit:m2 it2=some (.mapIter (some g2) clk2 (Ar D) clk2):=hA.see (Ac _ _ _);have hlm2:PH.le m m2:=fun g o hg=>hA.see (hlem2 _ g o hg);refine G.mapNextL G1.inj it2 g2 es2 clk2 l2 D L kV kV hit (sit2 le2 hlm2) hst2 hkv2 hnd2 hS ?done2 ?next2
 case next2 =>
  rintro⟨k,xv⟩ e hp hkn he hek hev hS';simp only at hkn hek hev;have hx:=(hl2 _ hp).1;simp only at hx;obtain⟨yb,ya,yn,yc,ya',yn',yc',rfl,_⟩:=hx.opn;have hA1:=hA.base (b:=it2) (o:=.mapIter (some g2) clk2 (Ar (D++[e])) clk2) (by rw[Ac];simp);rw[Dh]at hA1;have hlm3:PH.le m (m2.upd it2 (.mapIter (some g2) clk2 (Ar (D++[e])) clk2)):=fun g o hg=>hA1.see (hlem2 _ g o hg);refine G.mapEntry it2 g2 es2 clk2 D e kV (Ac _ _ _) (sit2 le2 hlm3) hst2 he ?_;rw[hek,hev];have hSlen:=hS'.len;simp only[A0z,A2n,A3i]at hSlen;have hqs:=sF.t k;refine G.c call141 (Lm (hx.mono le2) (by have:=(SB.sz hqs).1;omega)) ?_;rintro v3 u3 l3 rfl;by_cases h0:F.t k=0
  ·rw[decide_eq_true (Ok.2 h0)];refine G.b (hJ (D++[e],L++[(k,_)],S,(sa,sc)) _ _ _ cV (l2'.trans l3) ⟨hS',by dsimp only;rw[A07];exact hI.skip h0,by dsimp only;simp;omega,hA1⟩ (by have:=hS'.len;simp at this;dsimp only;simp;omega))
  ·rw[decide_eq_false (fun e=>h0 (Ok.1 e))];refine G.c call35 (Kw (hx.mono (le2.trans l3)) (SB.tx hqs)) ?_;rintro v4 u4 l4 rfl;refine G.nF 0 0 ?_;refine G.pub 19003 206 [.int .i64 k.1.1,.string (mkS k.1.2),.int .i64 k.2.1,.string (mkS k.2.2)] kV kV ?_;intro bq hq1 hq2;have hbase:(m.upd it2 (.mapIter (some g2) clk2 (Ar (D++[e])) clk2)) bq=none:=by
    cases hh:(m.upd it2 (.mapIter (some g2) clk2 (Ar (D++[e])) clk2)) bq with
    |none=>rfl
    |some o=>rw[hA1.see hh]at hq2;cases hq2
   have hA4:=hA1.fresh (o:=.cells [A15 .i64 k.1.1,.string (mkS k.1.2),.int .i64 k.2.1,.string (mkS k.2.2)].toArray 206 (0,0)) hq2;obtain⟨pe1,pe2⟩:=Aej (m:=(m2.upd it2 (.mapIter (some g2) clk2 (Ar (D++[e])) clk2)).upd bq (.cells [A15 .i64 k.1.1,.string (mkS k.1.2),.int .i64 k.2.1,.string (mkS k.2.2)].toArray 206 (0,0))) (Ac _ _ _);refine G.addrA 206 79 2 bq 0 0 2 kV kV kV kV oV ?_;refine G.lM (some 2) bq (0+0*2) (.agg #[.int .i64 k.1.1,.string (mkS k.1.2)]) pe1 ?_;refine G.addrA 206 79 2 bq 0 1 2 kV kV kV kV oV ?_;refine G.lM (some 2) bq (0+1*2) (.agg #[.int .i64 k.2.1,.string (mkS k.2.2)]) pe2 ?_;generalize hm3:(m2.upd it2 (.mapIter (some g2) clk2 (Ar (D++[e])) clk2)).upd bq (.cells [A15 .i64 k.1.1,.string (mkS k.1.2),.int .i64 k.2.1,.string (mkS k.2.2)].toArray 206 (0,0))=m3 at hA4;have hkS:k∉L.map (·.1):=hkn;refine G.l (ι:=Nat) (fun n=>[(1,.p 0 0),(2,.p 1 0),(6,.p 2002 0),(17,.p 24006 0),(18,iV n),(85,.v (.pointer (some ⟨it2,0,none⟩)))])
    (fun _=>[(0,⟨136,[bV b,sV a n c,bV b',sV a' n' c',.v (.map (some g1)),.v (.map (some g2))]⟩),(1,⟨37,[tV [],sV none 0 0,sV none 0 0]⟩),(2002,⟨37,[tV (Af F.c),sV xa X.length xc,sV sa S.length sc]⟩),(24006,⟨211,[iV k.1.1,tV k.1.2,iV k.2.1,tV k.2.2,tV (Af (F.t k))]⟩)])
    (fun n u' m'=>n<=S.length/\(∀ j x,j<n->S[j]?=some x->Lg x.1 k<0)/\m'=m3) (fun n=>S.length-n) 0 ⟨oV,fun j x hj=>oV,rfl⟩ ?_
   rintro J2 n2 hJ2 u5 m5 l5 ⟨hn2,hlow,rfl⟩;have le5:=((le2.trans l3).trans l4).trans l5;refine G.joinF (ι:=Unit) (fun st=>Xy prog st [.bool false]) (fun _=>[(1,.p 0 0),(2,.p 1 0),(6,.p 2002 0),(17,.p 24006 0),(18,iV n2),(85,.v (.pointer (some ⟨it2,0,none⟩)))])
    (fun _=>[(0,⟨136,[bV b,sV a n c,bV b',sV a' n' c',.v (.map (some g1)),.v (.map (some g2))]⟩),(1,⟨37,[tV [],sV none 0 0,sV none 0 0]⟩),(2002,⟨37,[tV (Af F.c),sV xa X.length xc,sV sa S.length sc]⟩),(24006,⟨211,[iV k.1.1,tV k.1.2,iV k.2.1,tV k.2.2,tV (Af (F.t k))]⟩)])
    (fun _ u' m'=>m'=m5/\∀ x,S[n2]?=some x->¬ Lg x.1 k<0) (fun _=>kV) kV ?tail2 ?way2
   case way2 =>
    intro hjoin;by_cases hlt:n2<S.length
    ·refine G.lT (n2:Int) (S.length:Int) ?_;obtain⟨x,hSx⟩:∃ x,S[n2]?=some x:=⟨_,A0n hlt⟩;obtain⟨gs,cs,hgc⟩:=hA4.ptr (fun e=>by
      have:S.length=0:=by simpa using congrArg A35 e
      omega)
     simp only[A09]at hgc;obtain⟨rfl,_,rfl⟩:=hgc;refine G.a gs 0 S.length sc n2 5 hlt ?_;have hel:ElP m5 gs (0+n2*5) (Da x):=hA4.el (by rw[A0v,hSx];rfl);refine G.lM (some 5) gs (0+n2*5) (Da x) hel ?_;by_cases hc:Lg x.1 k<0
     ·refine G.c call142 (Mw x (k,F.t k) true (decide_eq_true hc)) ?_;rintro v6 u6 l6 rfl;refine G.i n2 ?_;exact G.b (hJ2 (n2+1) _ _ _ cV (l5.trans l6) ⟨oV,fun j y hj hy=>by
       rcases (by omega:j<n2\/j=n2) with e|rfl
       ·exact hlow j y e hy
       ·rw[hSx]at hy;cases hy;exact hc,rfl⟩ oV)
     ·refine G.c call142 (Mw x (k,F.t k) false (decide_eq_false hc)) ?_;rintro v6 u6 l6 rfl;exact hjoin () _ _ _ kV cV l6 ⟨rfl,fun y hy=>by rw[hSx]at hy;cases hy;exact hc⟩
    ·refine G.lF (n2:Int) (S.length:Int) ?_;exact hjoin () _ _ _ kV cV (PH.le_refl _) ⟨rfl,fun y hy=>by rw[A1g oV]at hy;cases hy⟩
   rintro _ u6 m6 l6 ⟨rfl,hhigh⟩;have hcap:=hA4.cap;refine G.sliceTo 5 sa S.length sc n2 kV oV ?_;refine G.sliceFromG sa S.length sc n2 5 kV hn2 hcap ?_;refine G.buildM 211 5 64 (.agg #[.int .i64 0,.string (mkS []),.int .i64 0,.string (mkS []),.string (mkS [])]) [.agg #[.int .i64 k.1.1,.string (mkS k.1.2),.int .i64 k.2.1,.string (mkS k.2.2),.string (mkS (Af (F.t k)))]] kV (Aei (k,F.t k)) rfl oV mV mV ?_;intro gt m7 hT7;refine G.appendMV 211 5 64 (.agg #[.int .i64 0,.string (mkS []),.int .i64 0,.string (mkS []),.string (mkS [])]) m6 [.agg #[.int .i64 k.1.1,.string (mkS k.1.2),.int .i64 k.2.1,.string (mkS k.2.2),.string (mkS (Af (F.t k)))]] ((S.drop n2).map Da) (.slice (some ⟨gt,0,none⟩) 1 1) (if sc=n2 then sa else sa.map (·.add (n2*5))) (S.length-n2) (sc-n2) kV rfl rfl oV hT7 mV (fun hne=>?_) (Agm _) gV gV ?_
   ·have hlt:n2<S.length:=by
     rcases A11 n2 S.length with h|h
     ·exact h
     ·exact absurd (by rw[A1u h];rfl) hne
    obtain⟨gs,cs,hgc⟩:=hA4.ptr (fun e=>by
     have:S.length=0:=by simpa using congrArg A35 e
     omega)
    simp only[A09]at hgc;obtain⟨rfl,_,rfl⟩:=hgc;refine⟨gs,0+n2*5,?_,?_⟩
    ·rw[if_neg oV];simp[Db]
    ·have:=hA4.els.drop n2;rw[<-Bcd]at this;exact fun j e hj i y hy=>by
      obtain⟨cs,t,fr,q1,q2⟩:=this j e hj i y hy;exact⟨cs,t,fr,hT7.le _ _ q1,q2⟩
   intro v8 m8 hT8;obtain⟨a8,c8,rfl⟩:=hT8.ptr mV;have hAt:=hA4.take (k:=n2) (by rw[A0p];exact hn2);obtain⟨mx,hy1,hxx1,hput⟩:=At.swap (x:=⟨.slice sa n2 sc,211,5,(S.map Da).take n2⟩) (y:=⟨.slice (some ⟨a8,0,none⟩) _ c8,211,5,_⟩) hT8 hAt;refine G.appendM 211 5 64 (.agg #[.int .i64 0,.string (mkS []),.int .i64 0,.string (mkS []),.string (mkS [])]) mx ((S.map Da).take n2) _ (.slice sa n2 sc) a8 0 _ c8 kV rfl rfl oV hxx1 hT8.els hT8.1 rfl mV gV gV ?_;intro v9 m9 hA9;obtain⟨mz,hz1,hz2⟩:=hput ⟨v9,211,5,_⟩ m9 hA9;have hes:(S.map Da).take n2++([.agg #[.int .i64 k.1.1,.string (mkS k.1.2),.int .i64 k.2.1,.string (mkS k.2.2),.string (mkS (Af (F.t k)))]]++(S.drop n2).map Da)=(S.take n2++[(k,F.t k)]++S.drop n2).map Da:=by
    rw[A07,A07,A57,A1j];rfl
   have hz4:Ae ((m.upd it2 (.mapIter (some g2) clk2 (Ar (D++[e])) clk2)).upd bq (.cells [A15 .i64 k.1.1,.string (mkS k.1.2),.int .i64 k.2.1,.string (mkS k.2.2)].toArray 206 (0,0))) mz v9 211 5 ((S.take n2++[(k,F.t k)]++S.drop n2).map Da):=by rw[<-hes];exact hz2
   have hz3:=hz4.del (l:=bq) (by rw[Ac];simp);rw[W3 hbase]at hz3;obtain⟨a9,c9,rfl⟩:=hz3.shape;rw[A0p]at hz3⊢;have hS9:(S.take n2++[(k,F.t k)]++S.drop n2).length=S.length+1:=gV
   refine G.drop (mz.del bq) kV (fun g o hg=>Ae.le hz1 g o (Aox _ _ g o hg)) ?_;refine G.b (hJ (D++[e],L++[(k,_)],S.take n2++[(k,F.t k)]++S.drop n2,(a9,c9)) _ _ _ cV ((((l2'.trans l3).trans l4).trans l5).trans l6) ⟨hS',?_,by dsimp only;rw[hS9];simp;omega,hz3⟩ (by have:=hS'.len;simp at this;dsimp only;simp;omega));dsimp only;rw[A07];exact hI.put Anq h0 hkS hlow hhigh
 case done2 =>
 intro hall;have hcan2:Can Lg F.t S:=hI.can fun k hk=>hz2 k fun hm=>hk (by
  obtain⟨p,hp,rfl⟩:=A0u.1 hm;exact A0u.2 ⟨p,hall p hp,rfl⟩)
 have hS2:S.length<=N:=by have:=hS.len;omega
 refine G.give _ _ _ kV hA (fun g=>?_) ?_
 ·cases hg:m g with
  |none=>exact .inl hg
  |some o=>exact .inr (by rw[hlem2 _ g o hg];simp)
 intro u4 l4 hY;refine G.drop m kV (hlem2 _) ?_;exact G.r (.tuple #[.agg #[.string (mkS (Af F.c)),.slice xa X.length xc,.slice sa S.length sc],.int .i64 0]) ⟨rfl,_,rfl,X,S,xa,xc,sa,sc,rfl,hX.mono (l2'.trans l4),hY,hcan1,hcan2,hS1,hS2⟩
end
section
variable {F:List Ao}{a i:Nat}{f:Ao}{z:Int}
def Ag3 (F:List Ao)(a:Nat)(z:Int)(i:Nat)(fe:Int)(dr ho:Bool):Prop :=
 (∃ k f,k<i/\F[k]?=some f/\f.1=a/\fe=(k:Int)/\dr=decide (f.2.2=1)/\ho=decide (f.2.1=2))\/((∀ k f,k<i->F[k]?=some f->f.1≠a)/\fe=z/\dr=true/\ho=false)
theorem Aai (q:Rat):q+0=q:=by grind
theorem Afo {fe:Int}{dr ho:Bool}(h:Ag3 F a z i fe dr ho)(hf:F[i]?=some f)(hne:f.1≠a):Ag3 F a z (i+1) fe dr ho:=by
 rcases h with ⟨k,g,h1,h2,h3⟩|⟨h1,h2⟩
 ·exact .inl ⟨k,g,oV,h2,h3⟩
 ·refine .inr ⟨fun k g hk hg=>?_,h2⟩;rcases (by omega:k<i\/k=i) with e|rfl
  ·exact h1 k g e hg
  ·rw[hf]at hg;cases hg;exact hne
theorem Ahm (hf:F[i]?=some f)(he:f.1=a):Ag3 F a z (i+1) (i:Int) (decide (f.2.2=1)) (decide (f.2.1=2)) :=
 .inl ⟨i,f,oV,hf,he,rfl,rfl,rfl⟩
theorem Alt {T:List (List UInt8×Nat)}{F:List Ao}{lab:Int}{a:Nat}{z:Int}{x:List UInt8×Nat}{t:List UInt8}{fe:Int}{dr ho:Bool}(hF:Dk T F lab)(l1:-1<=lab)(l2:∀ l:Nat,lab=(l:Int)->∃ n,T[l]?=some (n,2))
 (hx:T[a]?=some x) (hv:Ii x.2 t) (hz:((a:Int)=lab/\z = -1)\/((a:Int)≠lab/\z = -2)) (h:Ag3 F a z F.length fe dr ho) :
 (fe = -2/\Fg F lab a t=some none)\/(fe≠-2/\((ho=true/\Fg F lab a t=some (some ((fe,t),1)))\/(ho=false/\t = []/\Fg F lab a t=(if dr then none else some none))\/(ho=false/\t≠[]/\SmR (K6 t)/\Af (K6 t)=t/\Fg F lab a t=some (some ((fe,[]),K6 t))))):=by
 rcases h with ⟨k,f,hk,hf,rfl,rfl,rfl,rfl⟩|⟨hno,rfl,rfl,rfl⟩
 ·obtain⟨n,kd,hT,hkind,hne⟩:=hF.ok f (A1b hf);rw[Vo hF.nodup hf hne];rw[hT]at hx;cases hx;simp only at hv;refine .inr ⟨oV,?_⟩;unfold Jk;rcases hkind with ⟨k1,rfl,k3⟩|⟨k1,rfl,k3⟩
  ·rw[k1,if_neg oV];by_cases ht:t = []
   ·refine .inr (.inl ⟨rfl,ht,?_⟩);rw[if_pos ht];by_cases hm:f.2.2=1
    ·rw[if_pos hm,if_pos (decide_eq_true hm)]
    ·rw[if_neg hm,if_neg (by rw[decide_eq_true_eq];exact hm)]
   ·obtain⟨q1,q2⟩:=J6 hv ht;exact .inr (.inr ⟨rfl,ht,q1,q2,by rw[if_neg ht]⟩)
  ·exact .inl ⟨by rw[k1];rfl,by rw[if_pos k1]⟩
 ·rcases hz with ⟨hl,rfl⟩|⟨hl,rfl⟩
  ·refine .inr ⟨oV,.inr ?_⟩;obtain⟨n,hn⟩:=l2 a hl.symm;rw[hx]at hn;cases hn;have e:Fg F lab a t=O7 t:=by unfold Fg;rw[if_pos hl]
   rw[e];unfold O7;by_cases ht:t = []
   ·exact .inl ⟨rfl,ht,by rw[if_pos ht];rfl⟩
   ·obtain⟨q1,q2⟩:=J6 hv ht;exact .inr ⟨rfl,ht,q1,q2,by rw[if_neg ht]⟩
  ·rcases Ga (F:=F) (w:=t) hl with e|⟨i,f,hf,he,_⟩
   ·exact .inl ⟨rfl,e⟩
   ·exact absurd he (hno i f (A0s.1 hf).1 hf)
theorem Adf {g1 g2:Nat}(hne:g1≠g2)(o1 o2 p1 p2:Obj):(((PH.mt.upd g1 o1).upd g2 o2).upd g1 p1).upd g2 p2=(PH.mt.upd g1 p1).upd g2 p2:=by
 rw[Jg _ _ _ (fun e=>hne e.symm),Dh,Dh]
theorem Aca {u:PH}{v:Value}{T:List (List UInt8×Nat)}{R:List Bk}{lab:Int}{x:List UInt8×Nat}{t:List UInt8}(h:F1 u v T R F lab)(ok:Bn u T R F lab)(hx:T[a]?=some x)(hv:Ii x.2 t) :
 Ai prog 140 [v,.int .i64 (a:Int),.string (mkS t)] u PH.mt fun v' u' m'=>H6 m' u' v' (Fg F lab a t).cf 1:=by
 have hfl:=ok.f2;have l1:=ok.l1;have t2:=ok.t2;have hat:a<T.length:=(A0s.1 hx).1;obtain⟨pa,ca,pb,cb,pe,ce,rfl,hT,hR,hF⟩:=h;refine Ai.o func140 ?_;refine G.joinF (ι:=Int) (fun st=>Xy prog st [.bool false]) (fun z=>[(1,iV a),(2,tV t),(3,.p 0 0),(6,.p 1 0),(7,iV z),(8,bV true),(9,bV false)])
  (fun _=>[(0,⟨31,[sV pa T.length ca,sV pb R.length cb,sV pe F.length ce,iV lab]⟩),(1,⟨136,[bV false,sV none 0 0,bV false,sV none 0 0,.v (.map none),.v (.map none)]⟩)])
  (fun z u' m'=>u'=u/\m'=PH.mt/\(((a:Int)=lab/\z = -1)\/((a:Int)≠lab/\z = -2))) (fun _=>kV) kV ?tail ?way
 case way =>
  intro hjoin;by_cases hl:(a:Int)=lab
  ·refine G.eT' (a:Int) lab hl ?_;refine G.pastI ?_;exact hjoin (-1) _ _ _ kV cV (PH.le_refl _) ⟨rfl,rfl,.inl ⟨hl,rfl⟩⟩
  ·refine G.eF' (a:Int) lab hl ?_;exact hjoin (-2) _ _ _ kV cV (PH.le_refl _) ⟨rfl,rfl,.inr ⟨hl,rfl⟩⟩
 rintro z _ _ _ ⟨rfl,rfl,hz⟩;refine G.l (ι:=Nat×Int×Bool×Bool) (fun i=>[(1,iV a),(2,tV t),(6,.p 1 0),(7,iV i.2.1),(8,bV i.2.2.1),(9,bV i.2.2.2),(20,sV pe F.length ce),(21,iV F.length),(22,iV i.1)])
  (fun _=>[(1,⟨136,[bV false,sV none 0 0,bV false,sV none 0 0,.v (.map none),.v (.map none)]⟩)])
  (fun i u' m'=>i.1<=F.length/\m'=PH.mt/\Ag3 F a z i.1 i.2.1 i.2.2.1 i.2.2.2) (fun i=>F.length-i.1) (0,z,true,false) ⟨oV,rfl,.inr ⟨fun k f hk=>by dsimp only at hk;omega,rfl,rfl,rfl⟩⟩ ?_
 rintro J ⟨i,fe,dr,ho⟩ hJ u2 m2 l2 ⟨hi,rfl,hI⟩;simp only at hi hI hJ;by_cases hlt:i<F.length
 ·refine G.lT (i:Int) (F.length:Int) ?_;obtain⟨f,hFi⟩:∃ f,F[i]?=some f:=⟨_,A0n hlt⟩;obtain⟨fb,fo,rfl,ef⟩:=Ab.at' (hF.mono l2) (j:=i) (e:=B6 f) (by simp[hFi]);obtain⟨p1,p2,p3⟩:=f;refine G.a fb fo F.length ce i 3 hlt ?_;refine G.lU (some 3) fb (fo+i*3) (.agg #[.int .i64 (p1:Int),.int .i64 (p2:Int),.int .i64 (p3:Int)]) ef ?_;by_cases hp:(p1:Int)=(a:Int)
  ·refine G.eT' (p1:Int) (a:Int) hp ?_;have hh:=Ahm (z:=z) hFi (show p1=a by omega);simp only at hh;by_cases h3:p3=1
   ·refine G.eT (p3:Int) 1 ?_;by_cases h2:p2=2
    ·refine G.eT (p2:Int) 2 ?_;refine G.i i ?_;rw[decide_eq_true h3,decide_eq_true h2]at hh;exact G.b (hJ (i+1,(i:Int),true,true) _ _ _ cV l2 ⟨dV,rfl,hh⟩ dV)
    ·refine G.eF (p2:Int) 2 ?_;refine G.i i ?_;rw[decide_eq_true h3,decide_eq_false h2]at hh;exact G.b (hJ (i+1,(i:Int),true,false) _ _ _ cV l2 ⟨dV,rfl,hh⟩ dV)
   ·refine G.eF (p3:Int) 1 ?_;by_cases h2:p2=2
    ·refine G.eT (p2:Int) 2 ?_;refine G.i i ?_;rw[decide_eq_false h3,decide_eq_true h2]at hh;exact G.b (hJ (i+1,(i:Int),false,true) _ _ _ cV l2 ⟨dV,rfl,hh⟩ dV)
    ·refine G.eF (p2:Int) 2 ?_;refine G.i i ?_;rw[decide_eq_false h3,decide_eq_false h2]at hh;exact G.b (hJ (i+1,(i:Int),false,false) _ _ _ cV l2 ⟨dV,rfl,hh⟩ dV)
  ·refine G.eF' (p1:Int) (a:Int) hp ?_;refine G.i i ?_;exact G.b (hJ (i+1,fe,dr,ho) _ _ _ cV l2 ⟨dV,rfl,Afo hI hFi (show ¬ p1=a by omega)⟩ dV)
 obtain rfl:i=F.length:=oV
 refine G.lF (F.length:Int) (F.length:Int) ?_;have n0:(⟨((0:Int):Rat),fun _=>0,fun _=>0⟩:CF)=CF.num 0:=by rw[show ((0:Int):Rat)=0 by decide +kernel];rfl
 have n1:(⟨((1:Int):Rat),fun _=>0,fun _=>0⟩:CF)=CF.num 1:=by rw[show ((1:Int):Rat)=1 by decide +kernel];rfl
 rcases Alt ok.feat l1 ok.l2 hx hv hz hI with ⟨rfl,e⟩|⟨hfe,hc⟩
 ·rw[e];refine G.eT' (-2) (-2) rfl ?_;refine G.callO _ _ kV call63 (Hi (n:=1) oV oV) ?_;intro v3 u3 m3 l3 k3 _;obtain⟨b,a5,n,c,b',a',n',c',g1,g2,rfl⟩:=Ln k3;rw[C2];exact G.r (.agg #[.bool b,.slice a5 n c,.bool b',.slice a' n' c',.map (some g1),.map (some g2)]) (k3.congr n1 oV)
 refine G.eF' fe (-2) hfe ?_;refine G.callO _ _ kV call63 (Hi (n:=1) oV oV) ?_;intro v3 u3 m3 l3 k3 _;rw[C2];rcases hc with ⟨rfl,e⟩|⟨rfl,ht,e⟩|⟨rfl,ht,q1,q2,e⟩
 ·rw[e];obtain⟨b,a5,n,c,b',a',n',c',g1,g2,o1,o2,rfl,k1,hne,rfl,s1,s2⟩:=k3;have hpp:Ap (fe,t) (fe,t)=((fe,t),(fe,t)):=Ft (by rw[Dp.refl];omega);refine G.c call27 (Pq (z:=1) oV oV) ?_;intro v4 u4 l4 k4;rw[show ((1:Int):Rat)=1 by decide +kernel]at k4;obtain⟨b4,a4,n4,c4,a4',n4',c4',rfl,_⟩:=k4.opn;refine G.callG _ _ kV kV call137 (g:=g1) (o:=o1) (by rw[Ad _ _ hne,Ac])
   (Lp (a:=(fe,t)) (g2:=some g2) (y1:=b) (y2:=(a5,n,c)) (y3:=b') (y4:=(a',n',c')) (s1.mono l4) k4 Ih.sb SB.zero (by rw[Aai];exact Ih.sb)) ?_
  intro v5 u5 o1' l5 k5;refine G.c call27 (Pq (z:=1) oV oV) ?_;intro v6 u6 l6 k6;rw[show ((1:Int):Rat)=1 by decide +kernel]at k6;obtain⟨b6,a6,n6,c6,a6',n6',c6',rfl,_⟩:=k6.opn;refine G.callG _ _ kV kV call138 (g:=g2) (o:=o2) (by rw[Ad _ _ hne.symm,Ac])
   (F7 (p:=(fe,t)) (r:=(fe,t)) (g1:=some g1) (y1:=b) (y2:=(a5,n,c)) (y3:=b') (y4:=(a',n',c')) (((s2.mono l4).mono l5).mono l6) k6 Ih.sb (by rw[hpp];exact SB.zero) (by rw[hpp,Aai];exact Ih.sb)) ?_
  intro v7 u7 o2' l7 k7;rw[Adf hne];rw[hpp]at k7;exact G.r (.agg #[.bool b,.slice a5 n c,.bool b',.slice a' n' c',.map (some g1),.map (some g2)]) ⟨b,a5,n,c,b',a',n',c',g1,g2,_,_,rfl,(((k1.mono l4).mono l5).mono l6).mono l7,hne,rfl,((k5.mono l6).mono l7).congr fun k=>by rw[Aai];rfl,k7.congr fun k=>by
   rw[Aai];show (if k=((fe,t),(fe,t)) then (1:Rat) else 0)=if k=((fe,t),(fe,t)) then (1:Rat)*1 else 0
   rw[show (1:Rat)*1=1 by decide +kernel]⟩
 ·obtain⟨b,a5,n,c,b',a',n',c',g1,g2,rfl⟩:=Ln k3;refine G.q t [] ht ?_;rw[e];cases dr with
  |true =>
   refine G.drop PH.mt kV (PH.mt_le _) ?_;refine G.callO _ _ kV call63 (Hi (n:=0) oV oV) ?_;intro v4 u4 m4 l4 k4 _;obtain⟨b,a5,n,c,b',a',n',c',g1,g2,rfl⟩:=Ln k4;rw[C2];exact G.r (.agg #[.bool b,.slice a5 n c,.bool b',.slice a' n' c',.map (some g1),.map (some g2)]) (k4.congr n0 oV)
  |false =>
   exact G.r (.agg #[.bool b,.slice a5 n c,.bool b',.slice a' n' c',.map (some g1),.map (some g2)]) (k3.congr n1 oV)
 ·rw[e];obtain⟨b,a5,n,c,b',a',n',c',g1,g2,o1,o2,rfl,k1,hne,rfl,s1,s2⟩:=k3;refine G.w t [] ht ?_;have hpp:Ap (fe,[]) (fe,[])=((fe,[]),(fe,[])):=Ft (by rw[Dp.refl];omega);have hrd:=Eh (u:=u3) (q:=K6 t) (SB.tx q1.sb);rw[q2]at hrd;refine G.c call31 hrd ?_;intro v4 u4 l4 k4;obtain⟨b4,a4,n4,c4,a4',n4',c4',rfl,_⟩:=k4.opn;refine G.callG _ _ kV kV call137 (g:=g1) (o:=o1) (by rw[Ad _ _ hne,Ac])
   (Lp (a:=(fe,[])) (g2:=some g2) (y1:=b) (y2:=(a5,n,c)) (y3:=b') (y4:=(a',n',c')) (s1.mono l4) k4 q1.sb SB.zero (by rw[Aai];exact q1.sb)) ?_
  intro v5 u5 o1' l5 k5;refine G.c call34 (Eo (k4.mono l5) (k4.mono l5) (SB.ten q1.sb) (SB.ten q1.sb)) ?_;intro v6 u6 l6 k6;obtain⟨b6,a6,n6,c6,a6',n6',c6',rfl,_⟩:=k6.opn;refine G.callG _ _ kV kV call138 (g:=g2) (o:=o2) (by rw[Ad _ _ hne.symm,Ac])
   (F7 (p:=(fe,[])) (r:=(fe,[])) (g1:=some g1) (y1:=b) (y2:=(a5,n,c)) (y3:=b') (y4:=(a',n',c')) (((s2.mono l4).mono l5).mono l6) k6 q1.sb2 (by rw[hpp];exact SB.zero) (by rw[hpp,Aai];exact q1.sb2)) ?_
  intro v7 u7 o2' l7 k7;rw[Adf hne];rw[hpp]at k7;exact G.r (.agg #[.bool b,.slice a5 n c,.bool b',.slice a' n' c',.map (some g1),.map (some g2)]) ⟨b,a5,n,c,b',a',n',c',g1,g2,_,_,rfl,(((k1.mono l4).mono l5).mono l6).mono l7,hne,rfl,((k5.mono l6).mono l7).congr fun k=>by rw[Aai];rfl,k7.congr fun k=>by rw[Aai];rfl⟩
end
section
variable {u:PH}
theorem H6.all {f:FuncId}{args:List Value}{F:CF}{N:Nat}(c:Ai prog f args u PH.mt fun v u' m'=>H6 m' u' v F N):Fn0 prog f args u fun v u'=>Ov u' v F N:=by
 refine Fn0.weak c.giveAll ?_;rintro v u' ⟨u1,m1,l1,l2,k⟩;exact k.give l1 l2
theorem Ov.up {u:PH}{v:Value}{F:CF}{N M:Nat}(h:Ov u v F N)(hN:N<=M):Ov u v F M:=by
 obtain⟨b,a,n,c,b',a',n',c',g1,g2,o1,o2,e,h1,h2,h3,h4,h5⟩:=h;exact⟨b,a,n,c,b',a',n',c',g1,g2,o1,o2,e,h1,h2,h3,h4.up hN,h5.up hN⟩
theorem Ajz {v tv:Value}{T:List (List UInt8×Nat)}{R:List Bk}{F:List Ao}{lab:Int}{ss:List (List UInt8)}(h:Af5 u v tv T R F lab ss)(hT6:ss.length<=8) :
 Fn0 prog 66 [v,tv] u fun r u'=>Ov u' r (cfT F lab ss) 255/\CFS (cfT F lab ss):=by
 have hX:=h.sch;obtain⟨⟨xa,xc,xb,xd,xe,xf,rfl,hTL,hRL,hFL⟩,ok,hS,hT⟩:=h;obtain⟨ya,yc,rfl⟩:=hS.opn;rw[A0p]at hS⊢;have hsm:=Kt ok hT;have hlen:=hT.len;obtain⟨L,hL⟩:∃ L,L=Em F lab ss:=⟨_,rfl⟩;have hcf:cfT F lab ss=Gr (CF.num 1) L:=by rw[hL];rfl
 rw[hcf];rw[<-hL]at hsm;have hLl:L.length=ss.length:=by rw[hL];exact F3
 refine Fn0.o func66 ?_;refine G.c call63 (H6.all (Hi (n:=1) oV oV)) ?_;intro v2 u2 l2 k2;have n1:(⟨((1:Int):Rat),fun _=>0,fun _=>0⟩:CF)=CF.num 1:=by rw[show ((1:Int):Rat)=1 by decide +kernel];rfl
 rw[n1]at k2;obtain⟨b,a,n,c,b',a',n',c',g1,g2,rfl⟩:=No k2;refine G.l (ι:=Nat×(Bool×SlI)×(Bool×SlI)×Nat×Nat) (fun i=>[(2,.p 0 0),(4,.p 1 0),(5,.p 1001 0),(9,sV ya ss.length yc),(10,iV ss.length),(11,iV i.1)])
  (fun i=>[(0,⟨31,[sV xa T.length xc,sV xb R.length xd,sV xe F.length xf,iV lab]⟩),(1,⟨136,[bV false,sV none 0 0,bV false,sV none 0 0,.v (.map none),.v (.map none)]⟩),(1001,⟨136,[bV i.2.1.1,sV i.2.1.2.1 i.2.1.2.2.1 i.2.1.2.2.2,bV i.2.2.1.1,sV i.2.2.1.2.1 i.2.2.1.2.2.1 i.2.2.1.2.2.2,.v (.map (some i.2.2.2.1)),.v (.map (some i.2.2.2.2))]⟩)])
  (fun i u' m'=>i.1<=ss.length/\Ov u' (.agg #[.bool i.2.1.1,.slice i.2.1.2.1 i.2.1.2.2.1 i.2.1.2.2.2,.bool i.2.2.1.1,.slice i.2.2.1.2.1 i.2.2.1.2.2.1 i.2.2.1.2.2.2,.map (some i.2.2.2.1),.map (some i.2.2.2.2)]) (Gr (CF.num 1) (L.take i.1)) (2^i.1-1)/\m'=PH.mt)
  (fun i=>ss.length-i.1) (0,(b,a,n,c),(b',a',n',c'),g1,g2) ⟨oV,k2,rfl⟩ ?_
 rintro J ⟨i,⟨b,a,n,c⟩,⟨b',a',n',c'⟩,g1,g2⟩ hJ u3 m3 l3 ⟨hi,hC,rfl⟩;simp only at hi hC hJ;have le3:=l2.trans l3;by_cases hil:i<ss.length
 ·refine G.lT (i:Int) (ss.length:Int) ?_;obtain⟨bb,off,rfl,e⟩:=Adx (hS.mono le3) hil;refine G.a bb off ss.length yc i 1 hil ?_;refine G.lU none bb (off+i*1) (.string (mkS (ss.getD i []))) e ?_;have hgd:ss.getD i []=ss[i]:=by simp[A0o,A0n hil]
  have hTi:T[i]?=some T[i]:=A0n oV;have hLi:L[i]?=some (Fg F lab i (ss.getD i [])):=by rw[hL,hgd];exact Gq (A0n hil)
  have hLs:(Fg F lab i (ss.getD i [])).Small:=hsm _ (A1b hLi);have hv:=hT.val i _ _ hTi (A0n hil);rw[<-hgd]at hv;refine G.c call140 (H6.all (Aca (hX.mono le3) (ok.mono le3) hTi hv)) ?_;intro v4 u4 l4 k4;obtain⟨b4,a4,n4,c4,b4',a4',n4',c4',g41,g42,rfl⟩:=No k4;have h2i:2^i<=2^7:=A1l oV oV;have h1i:1<=2^i:=Nat.one_le_two_pow;obtain⟨g1',g2'⟩:=Nu hsm i oV;have hsnoc:Gr (CF.num 1) (L.take (i+1))=(Gr (CF.num 1) (L.take i)).mul (Fg F lab i (ss.getD i [])).cf:=by
   rw[A1c,hLi];exact Vm _ _ _
  refine G.c call139 (H6.all (Ajm (hC.mono l4) k4 (Apk g1' hLs.cfd oV (Ape oV) (Nat.pos_of_ne_zero mV) oV))) ?_;intro v5 u5 l5 k5;obtain⟨b5,a5,n5,c5,b5',a5',n5',c5',g51,g52,rfl⟩:=No k5;refine G.i i ?_;rw[<-hsnoc]at k5;exact G.b (hJ (i+1,(b5,a5,n5,c5),(b5',a5',n5',c5'),g51,g52) _ _ _ cV ((l3.trans l4).trans l5) ⟨dV,k5.up (by dsimp only;rw[Nat.pow_succ];omega),rfl⟩ dV)
 ·obtain rfl:i=ss.length:=oV
  refine G.lF (ss.length:Int) (ss.length:Int) ?_;have htk:L.take ss.length=L:=by rw[List.take_of_length_le oV]
  have hsR:CFS (Gr (CF.num 1) L):=by
   obtain⟨q1,_⟩:=Nu hsm L.length (A0w _);rw[A1k]at q1;exact q1.cfs oV (Aqb oV)
  rw[htk]at hC;have h2i:2^ss.length<=2^8:=A1l oV oV;exact G.r (.agg #[.bool b,.slice a n c,.bool b',.slice a' n' c',.map (some g1),.map (some g2)]) ⟨rfl,hC.up oV,hsR⟩
end
section
variable {u:PH}
theorem Pp {p:Par}(h:PV p):Fn0 prog 155 [An p] u fun v _=>v=.bool true:=by
 refine Fn0.o func155 ?_;refine G.hT' p.1 (-1) (by have:=h.lo;omega) ?_;by_cases hc:p.2 = []
 ·refine G.q p.2 [] hc ?_;exact G.r (.bool true) ⟨rfl,rfl⟩
 ·refine G.w p.2 [] hc ?_;refine G.c call135 (Nt (h.cat.resolve_left hc)) ?_;rintro v1 u1 l1 rfl;exact G.r (.bool true) ⟨rfl,rfl⟩
theorem ElP.par {b off:Nat}{x:Par×Rat}(h:ElP u b off (A5 x)):ElP u b (off+0) (.agg #[.int .i64 x.1.1,.string (mkS x.1.2)]):=h.sub fun i y hy=>by
 match i,hy with
 |0,hy=>simpa[A5,A1e] using hy
 |1,hy=>simpa[A5,A1e] using hy
 |i+2,hy=>simp[A1e]at hy
theorem Aaz {v:Value}{F:CF}{K:Nat}(h:H7 u v F K)(sF:CFS F)(vF:CFV F)(hK:K<=1000000):Fn0 prog 71 [v] u fun r _=>r=.bool true:=by
 obtain⟨T,Q,a1,c1,a2,c2,rfl,hT,hQ,cT,cQ,kT,kQ⟩:=h;refine Fn0.o func71 ?_;refine G.c call30 (Cp (SB.tx sF.c)) ?_;rintro v1 u1 l1 rfl;refine G.l (ι:=Nat) (fun i=>[(1,.p 0 0),(12,sV a1 T.length c1),(13,iV T.length),(14,iV i)])
  (fun _=>[(0,⟨37,[tV (Af F.c),sV a1 T.length c1,sV a2 Q.length c2]⟩)])
  (fun i u' m'=>i<=T.length/\m'=PH.mt) (fun i=>T.length-i) 0 ⟨oV,rfl⟩ ?_
 rintro J i hJ u2 m2 l2 ⟨hi,rfl⟩;have le2:=l1.trans l2;by_cases hlt:i<T.length
 ·refine G.lT (i:Int) (T.length:Int) ?_;obtain⟨x,hTi⟩:∃ x,T[i]?=some x:=⟨_,A0n hlt⟩;have hmem:=A1b hTi;obtain⟨hval,hne⟩:=cT.val _ hmem;obtain⟨ba,oa,rfl,ea⟩:=Ab.at' (hT.mono le2) (j:=i) (e:=A5 x) (by simp[hTi]);have hsq:SB x.2:=by rw[hval];exact sF.s _
  have hpv:PV x.1:=vF.s x.1 (by rw[<-hval];exact hne);refine G.a ba oa T.length c1 i 3 hlt ?_;refine G.lU (some 3) ba (oa+i*3) (.agg #[.int .i64 x.1.1,.string (mkS x.1.2),.string (mkS (Af x.2))]) ea ?_;refine G.c call155 (Pp hpv) ?_;rintro v3 u3 l3 rfl;refine G.c call30 (Cp (SB.tx hsq)) ?_;rintro v4 u4 l4 rfl;refine G.w (Af x.2) [48] (Rh hne) ?_;by_cases h0:i=0
  ·subst h0;refine G.gF ((0:Nat):Int) 0 ?_;refine G.p ((0:Nat):Int) 1 ((0+1:Nat):Int) ?_;exact G.b (hJ (0+1) _ _ _ cV ((l2.trans l3).trans l4) ⟨oV,rfl⟩ oV)
  ·refine G.gT (i:Int) 0 ?_;refine G.s (i:Int) 1 ((i-1:Nat):Int) ?_;obtain⟨y,hTy⟩:∃ y,T[i-1]?=some y:=⟨_,A0n oV⟩;have hsrt:A8 y.1 x.1<0:=by
    have hp:=cT.srt;obtain⟨h1,rfl⟩:=A0s.1 hTi;obtain⟨h2,rfl⟩:=A0s.1 hTy;have:=A3q.1 hp (i-1) i (by rw[A0p];omega) (by rw[A0p];omega) oV;rw[A4r,A4r]at this;exact this
   obtain⟨bb,ob,e1,eb⟩:=Ab.at' (hT.mono ((le2.trans l3).trans l4)) (j:=i-1) (e:=A5 y) (by simp[hTy]);cases e1;refine G.a ba oa T.length c1 (i-1) 3 oV ?_;refine G.f 81 ba (oa+(i-1)*3) 0 0 ?_;refine G.lU (some 2) ba (oa+(i-1)*3+0) (.agg #[.int .i64 y.1.1,.string (mkS y.1.2)]) eb.par ?_;refine G.c call93 (Dq y.1 x.1 true (decide_eq_true hsrt)) ?_;rintro v5 u5 l5 rfl;refine G.i i ?_;exact G.b (hJ (i+1) _ _ _ cV (((l2.trans l3).trans l4).trans l5) ⟨oV,rfl⟩ oV)
 obtain rfl:i=T.length:=oV
 refine G.lF (T.length:Int) (T.length:Int) ?_;clear hJ;refine G.l (ι:=Nat) (fun i=>[(1,.p 0 0),(53,sV a2 Q.length c2),(54,iV Q.length),(55,iV i)])
  (fun _=>[(0,⟨37,[tV (Af F.c),sV a1 T.length c1,sV a2 Q.length c2]⟩)])
  (fun i u' m'=>i<=Q.length/\m'=PH.mt) (fun i=>Q.length-i) 0 ⟨oV,rfl⟩ ?_
 rintro J i hJ u3 m3 l3 ⟨hi,rfl⟩;have le3:=le2.trans l3;by_cases hlt:i<Q.length
 ·refine G.lT (i:Int) (Q.length:Int) ?_;obtain⟨x,hQi⟩:∃ x,Q[i]?=some x:=⟨_,A0n hlt⟩;have hmem:=A1b hQi;obtain⟨hval,hne⟩:=cQ.val _ hmem;obtain⟨ba,oa,rfl,ea⟩:=Ab.at' (hQ.mono le3) (j:=i) (e:=Da x) (by simp[hQi]);have hsq:SB x.2:=by rw[hval];exact sF.t _
  obtain⟨hp1,hp2,hord⟩:=vF.t x.1 (by rw[<-hval];exact hne);refine G.a ba oa Q.length c2 i 5 hlt ?_;refine G.lU (some 5) ba (oa+i*5) (.agg #[.int .i64 x.1.1.1,.string (mkS x.1.1.2),.int .i64 x.1.2.1,.string (mkS x.1.2.2),.string (mkS (Af x.2))]) ea ?_;refine G.c call155 (Pp hp1) ?_;rintro v3 u4 l4 rfl;refine G.c call155 (Pp hp2) ?_;rintro v4 u5 l5 rfl;refine G.c call93 (Dq x.1.2 x.1.1 false (decide_eq_false fun e=>hord ((Dp.sym _ _).1 e))) ?_;rintro v5 u6 l6 rfl;refine G.c call30 (Cp (SB.tx hsq)) ?_;rintro v6 u7 l7 rfl;refine G.w (Af x.2) [48] (Rh hne) ?_;by_cases h0:i=0
  ·subst h0;refine G.gF ((0:Nat):Int) 0 ?_;refine G.p ((0:Nat):Int) 1 ((0+1:Nat):Int) ?_;exact G.b (hJ (0+1) _ _ _ cV ((((l3.trans l4).trans l5).trans l6).trans l7) ⟨oV,rfl⟩ oV)
  ·refine G.gT (i:Int) 0 ?_;refine G.s (i:Int) 1 ((i-1:Nat):Int) ?_;obtain⟨y,hQy⟩:∃ y,Q[i-1]?=some y:=⟨_,A0n oV⟩;have hsrt:Lg y.1 x.1<0:=by
    have hp:=cQ.srt;obtain⟨h1,rfl⟩:=A0s.1 hQi;obtain⟨h2,rfl⟩:=A0s.1 hQy;have:=A3q.1 hp (i-1) i (by rw[A0p];omega) (by rw[A0p];omega) oV;rw[A4r,A4r]at this;exact this
   obtain⟨bb,ob,e1,eb⟩:=Ab.at' (hQ.mono ((((le3.trans l4).trans l5).trans l6).trans l7)) (j:=i-1) (e:=Da y) (by simp[hQy]);cases e1;refine G.a ba oa Q.length c2 (i-1) 5 oV ?_;refine G.lU (some 5) ba (oa+(i-1)*5) (Da y) eb ?_;refine G.c call142 (Mw y x true (decide_eq_true hsrt)) ?_;rintro v5 u8 l8 rfl;refine G.i i ?_;exact G.b (hJ (i+1) _ _ _ cV (((((l3.trans l4).trans l5).trans l6).trans l7).trans l8) ⟨oV,rfl⟩ oV)
 obtain rfl:i=Q.length:=oV
 refine G.lF (Q.length:Int) (Q.length:Int) ?_;exact G.r (.bool true) ⟨rfl,rfl⟩
end
section
end
end Go.Proofs.YtanfagpabkdmiaaGreatDoor
