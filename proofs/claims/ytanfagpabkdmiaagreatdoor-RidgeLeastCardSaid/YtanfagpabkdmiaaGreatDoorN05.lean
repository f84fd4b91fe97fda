/- Parts of one proof, joined by a program. -/
import Derived.Test.YtanfagpabkdmiaaGreatDoorN04
import Derived.Lib.ItoaNum
import Derived.Shelf.Strings.Builder1
import Derived.Shelf.Strings.Builder2
import Derived.Shelf.Small.Bits
import Derived.Shelf.Small.Wraps
import Derived.Shelf.Strings.BuilderF
import Derived.Shelf.Strings.BuilderK
import Derived.Shelf.Strings.Builder2Cap
import Derived.Shelf.Strconv.Itoa0
import Derived.Shelf.Strconv.Itoa1
import Derived.Shelf.LaysM
import Derived.Shelf.Strconv.Itoa2
import Derived.Shelf.Strconv.Itoa3
import Derived.Shelf.Strconv.Lower
import Derived.Shelf.Strconv.ParseUint10
import Derived.Shelf.Strconv.ParseUintEmpty
import Derived.Shelf.Strconv.ParseUint10b64
import Derived.Shelf.Strconv.ParseUint10b32
import Derived.Shelf.Strconv.ParseUint10b16
import Derived.Shelf.Strconv.ParseUint10b8
import Derived.Shelf.Strconv.ParseUint10At
import Derived.Ground.MpProg
import Derived.Shelf.Pu.ParseUintPublic10
import Derived.Shelf.Strings.Search1
import Derived.Shelf.Strings.Search2
import Derived.Shelf.Strings.Cut
import Derived.Shelf.Strings.Shaped
import Derived.Shelf.Strings.Prefix
import Derived.Shelf.Bits.Mul64
import Derived.Shelf.Strings.Repeat
import Derived.Shelf.Strings.BuilderCap
import Derived.Test.YtanfagpabkdmiaaGreatDoorProg
import Derived.Lib.AppendIntMem
import Derived.Lib.AtoiErrMem
set_option linter.unusedVariables false
set_option linter.unusedSimpArgs false
set_option linter.unusedSectionVars false
set_option maxHeartbeats 16000000
namespace Go.Proofs.YtanfagpabkdmiaaGreatDoor
open Go.Proofs.Tryz
open Go.RowKit
open _root_.Array renaming getElem?_eq_none -> A3l, size_replicate -> A6m
open Below renaming block -> A7k, cell -> A69, mono -> A5g, refl -> A75, trans -> A3s
open Instr renaming sliceAt -> A5r
open Lib renaming BuilderAt -> Bca, IsBuilder -> Bb9, TabIs -> Bap, add_plain -> Bcb, cell_of_heap -> A7u, decDigits -> A20, decDigits_length -> A34, decDigits_one -> A7g, hid -> A0r, indexByte -> A58, itoa -> A1a, lt_pow_nDigits -> Bao, nDigits -> A1v, nDigits_small -> A5a, pow10Tab -> A89, size_mk -> A5j, strCells -> Bck, zeros24 -> A8l
open List renaming append_assoc -> A1j, append_nil -> A1i, drop_drop -> A7a, eq_nil_of_length_eq_zero -> A13, ext_getElem? -> A4g, getD_eq_getElem?_getD -> A0o, getElem?_append_left -> A1d, getElem?_append_right -> A1s, getElem?_eq_getElem -> A0n, getElem?_eq_none -> A1g, getElem?_map -> A0v, getElem?_reverse -> A9u, getElem?_set -> A25, getElem_mem -> A04, isPrefixOf -> Bbt, length -> A35, length_append -> A0z, length_cons -> A2n, length_drop -> A5e, length_replicate -> A3e, length_set -> A3u, length_singleton -> A2o, length_take -> A00, mem_map -> A0u, replicate -> A0x, reverse_append -> A8f, take_add_one -> A1c, take_length -> A1k, take_of_length_le -> A03, take_zero -> A3y
open Nat renaming add_assoc -> A28, div_div_eq_div_mul -> A4w, div_eq_of_lt -> A4a, div_le_self -> A3v, div_lt_iff_lt_mul -> A2w, div_one -> Bbc, eq_zero_or_pos -> A1p, le_refl -> A0w, le_trans -> A0q, lt_of_le_of_lt -> A2q, lt_of_lt_of_le -> A2e, lt_or_ge -> A11, mod_eq_of_lt -> A5d, mod_lt -> A2s, mul_assoc -> A1x, mul_comm -> A10, pow_add -> A5f, pow_le_pow_right -> A1l, pow_lt_pow_iff_right -> A65, pow_pos -> A7o, pow_succ -> A16, pow_zero -> A85, strongRecOn -> A6t
open Option renaming map_eq_some_iff -> A4x
open Rat renaming divInt -> A2m
open Result renaming andThen -> A6j
open UInt8 renaming ofNat -> A6q, toNat_inj -> A8a
open Value renaming agg -> A8q, bool -> A6a, cells -> A1e, int -> A15, pointer -> A7q, slice -> A06, slice.injEq -> A09
open World renaming cell?_alloc_new -> A6h
section
open Go.Lib
variable {j k n:Nat}
def ld (n k:Nat):List UInt8:=(List.range k).map (dg n)
theorem Q2 (n k:Nat):ld n (k+1)=ld n k++[dg n k]:=by simp[ld,List.range_succ]
theorem Cf (n k:Nat):(ld n k).length=k:=by simp[ld]
theorem W1 (h:j<k):(ld n k)[j]?=some (dg n j):=by simp[ld,h]
theorem Al5 (h:j<=k):(ld n k).take j=ld n j:=by
 apply A4g;intro i;rw[List.getElem?_take];split
 ·rw[W1 oV,W1 oV]
 ·rw[A1g (by rw[Cf];omega)]
theorem Wv (n:Nat):(ld n (nDigits n)).reverse=decDigits n:=by
 rw[decDigits_eq];apply A4g;intro i;by_cases h:i<nDigits n
 ·rw[A9u (by rw[Cf];exact h),Cf,W1 oV];simp[h]
 ·rw[A1g (by simp[Cf];omega),A1g gV]
theorem Mt (n i:Nat):(Aa n).getD i 0=n/1000000000^i%1000000000:=by
 induction i generalizing n with
 |zero =>
  by_cases h:n=0
  ·subst h;simp[Bd]
  ·rw[Ex h];simp
 |succ i ih =>
  by_cases h:n=0
  ·subst h;simp[Bd]
  ·rw[Ex h,List.getD_cons_succ,ih,A16,A10,A4w]
theorem Aat (i:Nat):(1000000000:Nat)^i=10^(9*i):=by rw[Nat.pow_mul]
theorem Ak3 (n i t:Nat)(ht:t<9):dg n (9*i+t)=A6q (48+(Aa n).getD i 0/10^t%10):=by
 rw[Mt,Aat];have e:(1000000000:Nat)=10^t*10^(9-t):=by rw[<-A5f,show t+(9-t)=9 by omega]
 rw[e,Nat.mod_mul_right_div_self,Nat.mod_mod_of_dvd _ (by rw[show 9-t=(8-t)+1 by omega,A16];exact Nat.dvd_mul_left _ _),A4w,<-A5f];rfl
theorem Ns (h:k<256):(A6q k).toNat=k:=gV
theorem N5 (n j:Nat):(dg n j).toNat=48+n/10^j%10:=by
 unfold dg;have:n/10^j%10<10:=A2s _ oV;exact Ns oV
theorem Yz (h:n<10^(k+1)):n/10^k%10=0↔n<10^k:=by
 have hp:0<10^k:=A7o oV;have h1:n/10^k<10:=by rw[A2w hp,A10,<-A16];exact h
 rw[A5d h1,Nat.div_eq_zero_iff];constructor
 ·rintro (h|h)
  ·omega
  ·exact h
 ·exact .inr
theorem N2 (n:Nat):n<10^(9*(Aa n).length):=by rw[<-Aat];exact Cd n
theorem Ml (h:10^j<=n):nDigits n=j+nDigits (n/10^j):=by
 induction j generalizing n with
 |zero=>simp
 |succ j ih =>
  have hp:0<10^j:=A7o oV;rw[A16]at h;rw[nDigits_big oV,ih (n:=n/10) (by rw[Nat.le_div_iff_mul_le oV];exact h),A16,A10 (10^j),<-A4w];omega
theorem Qe (h:n≠0):nDigits n=9*((Aa n).length-1)+nDigits ((Aa n).getD ((Aa n).length-1) 0):=by
 have h1:=O0 h;rw[Aat]at h1;rw[Mt,Ml h1,Aat,A5d];rfl;rw[A2w (A7o oV)];have h2:=Cd n;have h3:0<nl n:=by
  rcases A1p (nl n) with h0|h0
  ·rw[h0]at h2;simp at h2;omega
  ·exact h0
 have e:(1000000000:Nat)*10^(9*((Aa n).length-1))=1000000000^nl n:=by
  rw[<-Aat,A10,<-A16];congr 1;show nl n-1+1=nl n;omega
 rw[e];exact h2
def Gk (l:List UInt8):Prop:=∀ b∈l,48<=b.toNat/\b.toNat<=57
def rdA (a:Nat)(l:List UInt8):Nat:=l.foldl (fun a b=>10*a+(b.toNat-48)) a
def rd (l:List UInt8):Nat:=rdA 0 l
theorem Ab8 (a:Nat)(l l':List UInt8):rdA a (l++l')=rdA (rdA a l) l':=by simp[rdA]
theorem Acy (a:Nat)(l:List UInt8):rdA a l=a*10^l.length+rd l:=by
 induction l generalizing a with
 |nil=>simp[rdA,rd]
 |cons b l ih =>
  have e1:rdA a (b::l)=rdA (10*a+(b.toNat-48)) l:=rfl;have e2:rd (b::l)=rdA (10*0+(b.toNat-48)) l:=rfl;rw[e1,e2,ih,ih (10*0+(b.toNat-48)),A2n,A16,Nat.mul_zero,Nat.zero_add,<-A28]
  congr 1
  rw[Nat.add_mul];congr 1;rw[A10 10 a,A1x,A10 10]
theorem U0 (l l':List UInt8):rd (l++l')=rd l*10^l'.length+rd l':=by rw[rd,Ab8,Acy];rfl
theorem Vz {l:List UInt8}(h:Gk l):rd l<10^l.length:=by
 induction l with
 |nil=>simp[rd,rdA]
 |cons b l ih =>
  have e2:rd (b::l)=rdA (10*0+(b.toNat-48)) l:=rfl;have hb:=h b mV;have:=ih fun x hx=>h x (by simp[hx]);rw[e2,Acy,A2n,A16];have h2:(10*0+(b.toNat-48))*10^l.length<=9*10^l.length:=Nat.mul_le_mul_right _ oV;omega
theorem Mc (n:Nat):Gk (decDigits n):=by
 rw[decDigits_eq];intro b hb;simp only[A0u]at hb;obtain⟨t,_,rfl⟩:=hb;rw[N5];have:=A2s (n/10^(nDigits n-1-t)) (show 0<10 by omega);omega
theorem Abj (n:Nat):rd (decDigits n)=n:=by
 induction n using A6t with
 |ind n ih =>
  rw[decDigits];by_cases h:n<10
  ·rw[dif_pos h];have:(A6q (48+n)).toNat=48+n:=Ns oV;show 10*0+((A6q (48+n)).toNat-48)=n;omega
  ·rw[dif_neg h,U0,ih _ oV];have:(A6q (48+n%10)).toNat=48+n%10:=Ns oV;show n/10*10^1+(10*0+((A6q (48+n%10)).toNat-48))=n;omega
theorem Hy (n:Nat):decDigits n≠[]:=by
 intro h;have:=decDigits_length n;rw[h]at this;have:=nDigits_pos n;simp at *;omega
theorem Y6 (n:Nat):(decDigits n)[0]?=some (dg n (nDigits n-1)):=by
 rw[decDigits_eq];have h:0<nDigits n:=nDigits_pos n;simp[h]
theorem Fo (h:n≠0):10^(nDigits n-1)<=n:=by
 induction n using A6t with
 |ind n ih =>
  by_cases h1:n<10
  ·rw[nDigits_small h1];simp;omega
  ·rw[nDigits_big h1];have h2:=ih (n/10) oV oV;have h3:=nDigits_pos (n/10);rw[show nDigits (n/10)+1-1=(nDigits (n/10)-1)+1 by omega,A16];omega
theorem Af3 (h:n≠0):49<=(dg n (nDigits n-1)).toNat:=by
 rw[N5];have h1:=nDigits_pos n;have h2:=lt_pow_nDigits n;rw[show nDigits n=(nDigits n-1)+1 by omega]at h2;have h3:¬ _:=fun h0=>absurd ((Yz h2).1 h0) (by have:=Fo h;omega);omega
end
section
variable {R l:List UInt8}{i:Nat}{u:PH}{x:Value}{z:Int}
theorem Ng (h:Cn u x z)(hs:nl z.natAbs<=100000000000):Fn0 prog 174 [x] u fun v _=>v=.int .i64 (A1v z.natAbs:Nat):=by
 obtain⟨b,a,n,c,rfl,hb,hi⟩:=h.opn;obtain⟨rfl,_⟩:=hi.len;have hs':(Aa z.natAbs).length<=100000000000:=hs;refine Fn0.o func174 ?_;by_cases h0:z.natAbs=0
 ·refine G.eT' ((Aa z.natAbs).length:Int) 0 (by rw[h0,Bd];rfl) ?_;exact G.r (.int .i64 1) ⟨rfl,by rw[h0,A5a oV];rfl⟩
 ·have hp:0<(Aa z.natAbs).length:=Ce.2 oV;have htop:=Qe h0;have hnz:=Mp h0;have hlow:=(Am z.natAbs).getD ((Aa z.natAbs).length-1);generalize Aa z.natAbs=l at *
  generalize hN:A1v z.natAbs=N at *
  have hle9:∀ k,k<1000000000->A1v k<=9:=by
   intro k hk;rcases A1p k with h|h
   ·subst h;rw[A5a oV];omega
   ·have h1:=Fo (n:=k) oV;have h2:10^(A1v k-1)<10^9:=A2q h1 oV;have h3:=(A65 (by omega:1<10)).1 h2;omega
  refine G.eF (l.length:Int) 0 ?_;refine G.s (l.length:Int) 1 ((l.length-1:Nat):Int) ?_;refine G.mul 9 ((l.length-1:Nat):Int) ((9*(l.length-1):Nat):Int) kV oV oV oV ?_;refine G.s (l.length:Int) 1 ((l.length-1:Nat):Int) ?_;obtain⟨bb,off,rfl,he⟩:=hi.at (j:=l.length-1) oV;refine G.a bb off l.length c (l.length-1) 1 oV ?_;refine G.lU none bb (off+(l.length-1)*1) (.int .i64 (l.getD (l.length-1) 0:Nat)) he ?_;have h9:=hle9 _ hlow;refine G.l (ι:=Nat×Nat) (fun i=>[(3,iV i.1),(4,iV i.2)]) (fun _=>[])
   (fun i _ m'=>(i.1+(if i.2=0 then 0 else A1v i.2)=N/\i.2<1000000000)/\m'=PH.mt) (fun i=>i.2) (9*(l.length-1),l.getD (l.length-1) 0) ⟨⟨by dsimp only;rw[if_neg hnz];omega,hlow⟩,rfl⟩ ?_
  rintro J ⟨cn,k⟩ hJ u' m' hle ⟨⟨h1,h2⟩,rfl⟩;simp only at h1 h2 hJ;by_cases hk:k=0
  ·subst hk;refine G.gF ((0:Nat):Int) 0 ?_;exact G.r (.int .i64 (cn:Int)) ⟨rfl,by simp at h1;rw[h1]⟩
  ·rw[if_neg hk]at h1;refine G.gT (k:Int) 0 ?_;have hcn:cn+1<=1000000000001:=oV
   refine G.i cn ?_;refine G.quo (k:Int) 10 ((k/10:Nat):Int) kV oV oV oV oV ?_;refine G.b (hJ (cn+1,k/10) _ _ _ cV hle ⟨⟨?_,dV⟩,rfl⟩ dV);dsimp only;by_cases hs:k<10
   ·rw[A5a hs]at h1;rw[if_pos oV];omega
   ·rw[Lib.nDigits_big hs]at h1;rw[if_neg oV];omega
structure Lo (R l:List UInt8)(i:Nat):Prop where
 len:l.length=R.length
 at_:∀ k,k<R.length->l[k]?=if k<i\/R.length-i<=k then R[R.length-1-k]? else R[k]?
theorem Lo.start (R:List UInt8):Lo R R 0:=⟨rfl,fun k hk=>by rw[if_neg oV]⟩
theorem Lo.step (h:Lo R l i)(hi:i<R.length-1-i):Lo R ((l.set i (l.getD (R.length-1-i) 0)).set (R.length-1-i) (l.getD i 0)) (i+1):=by
 have hl:=h.len;have e1:l.getD (R.length-1-i) 0=R.getD (R.length-1-i) 0:=by
  rw[A0o,h.at_ _ oV,if_neg oV,A0o]
 have e2:l.getD i 0=R.getD i 0:=by
  rw[A0o,h.at_ _ oV,if_neg oV,A0o]
 refine⟨by simp[hl],fun k hk=>?_⟩;rw[A25];split
 ·rename_i hk2;subst hk2;rw[if_pos gV,if_pos oV,e2,show R.length-1-(R.length-1-i)=i by omega,A0n oV];rw[A0o,A0n oV];rfl
 ·rename_i hk2;rw[A25];split
  ·rename_i hk3;subst hk3;rw[if_pos oV,if_pos oV,e1];rw[A0o,A0n oV];rfl
  ·rename_i hk3;rw[h.at_ k hk];by_cases hc:k<i\/R.length-i<=k
   ·rw[if_pos hc,if_pos oV]
   ·rw[if_neg hc,if_neg oV]
theorem Lo.done (h:Lo R l i)(hi:¬ i<R.length-1-i):l=R.reverse:=by
 apply A4g;intro k;by_cases hk:k<R.length
 ·rw[h.at_ k hk,A9u hk];split
  ·rfl
  ·rename_i hc
   congr 1;omega
 ·rw[A1g (by rw[h.len];omega),A1g gV]
theorem F6 {j:Nat}(h:j<l.length):(Bc l)[j]?=some (.int .u8 ((l.getD j 0).toNat:Int)):=by
 rw[Bc,A0v,A0n h,A0o,A0n h];rfl
theorem Jt (l:List UInt8)(j:Nat)(b:UInt8):(Bc l).set j (.int .u8 (b.toNat:Int))=Bc (l.set j b):=by simp[Bc,List.map_set]
theorem Ts (h:z<0):A1a z=45::A20 z.natAbs:=by rw[A1a,if_pos h]
theorem Cz (h:¬ z<0):A1a z=A20 z.natAbs:=by rw[A1a,if_neg h];congr 1;omega
theorem S4 (h:Cn u x z)(hs:nl z.natAbs<=100000000000):Fn0 prog 113 [x] u fun v _=>v=.string (mkS (A1a z)):=by
 obtain⟨b,a,n,c,rfl,hb,hi⟩:=h.opn;obtain⟨rfl,_⟩:=hi.len;have hs':(Aa z.natAbs).length<=100000000000:=hs;refine Fn0.o func113 ?_;by_cases h0:z.natAbs=0
 ·refine G.eT' ((Aa z.natAbs).length:Int) 0 (by rw[h0,Bd];rfl) ?_;exact G.r (.string (mkS [48])) ⟨rfl,by rw[Cz oV,h0,A7g oV];rfl⟩
 have hp:0<(Aa z.natAbs).length:=Ce.2 oV;refine G.eF ((Aa z.natAbs).length:Int) 0 ?_;have hbd:=N2 z.natAbs;generalize hN:z.natAbs=N at *
 generalize hL:Aa N=l at *
 refine G.l (ι:=Nat×(Option Addr×Nat×Nat)) (fun i=>[(1,.p 0 0),(3,sV i.2.1 i.2.2.1 i.2.2.2),(4,iV i.1)]) (fun _=>[(0,⟨66,[bV b,sV a l.length c]⟩)])
  (fun i _ m'=>i.1<=l.length/\Ae PH.mt m' (.slice i.2.1 i.2.2.1 i.2.2.2) 5 1 (Bc (ld N (9*i.1)))) (fun i=>l.length-i.1) (0,(none,0,0)) ⟨mV,Ae.nil _ _ _⟩ ?_
 rintro J ⟨i,a1,n1,c1⟩ hJ u1 m1 hle ⟨hil,hA⟩;simp only at hil hA hJ;by_cases hlt:i<l.length
 ·refine G.lT (i:Int) (l.length:Int) ?_;obtain⟨bb,off,rfl,he⟩:=(hi.mono hle).at (j:=i) oV;refine G.a bb off l.length c i 1 oV ?_;refine G.lU none bb (off+i*1) (.int .i64 (l.getD i 0:Nat)) he ?_;have hlow:l.getD i 0<1000000000:=by rw[<-hL];exact (Am N).getD i
  refine G.loop (ι:=Nat×(Option Addr×Nat×Nat)) (fun q=>[(1,.p 0 0),(3,sV q.2.1 q.2.2.1 q.2.2.2),(4,iV i),(5,iV (l.getD i 0/10^q.1:Nat)),(6,iV q.1)]) (fun _=>[(0,⟨66,[bV b,sV (some ⟨bb,off,none⟩) l.length c]⟩)])
   (fun q _ m'=>q.1<=9/\Ae PH.mt m' (.slice q.2.1 q.2.2.1 q.2.2.2) 5 1 (Bc (ld N (9*i+q.1)))) (fun q=>9-q.1) (0,(a1,n1,c1)) kV (fun _=>kV) ⟨kV,by rw[A85,Bbc];kernel_rfl,kV⟩ ⟨mV,hA⟩ ?_
  clear hA;rintro J2 ⟨t,a2,n2,c2⟩ hJ2 u2 m2 hle2 ⟨ht,hA⟩;simp only at ht hA hJ2;have hl2:=hA.len;rw[Aw,Cf]at hl2;by_cases ht9:t<9
  ·refine G.lT (t:Int) 9 ?_;have hdv:l.getD i 0/10^t<1000000000:=A2q (A3v _ _) hlow;have hdg:(Lib.dg N (9*i+t)).toNat=48+l.getD i 0/10^t%10:=by
    rw[Ak3 N i t ht9,hL];exact Ns oV
   generalize hD:l.getD i 0/10^t=D at hdv hdg⊢;refine G.rem ((D:Nat):Int) 10 ((D%10:Nat):Int) kV oV oV oV oV ?_;refine G.p 48 ((D%10:Nat):Int) ((Lib.dg N (9*i+t)).toNat:Int) ?_;refine G.convI .i64 .u8 .i64 ((Lib.dg N (9*i+t)).toNat:Int) ((Lib.dg N (9*i+t)).toNat:Int) kV (Ad8 oV oV) ?_;refine G.B 5 1 1 (.int .u8 0) [.int .u8 ((Lib.dg N (9*i+t)).toNat:Int)] (Jh [Lib.dg N (9*i+t)]) ?_;intro g u3 l3 e3;refine G.append 5 1 1 (.int .u8 0) PH.mt (Bc (ld N (9*i+t))) [.int .u8 ((Lib.dg N (9*i+t)).toNat:Int)] (.slice a2 n2 c2) g 0 1 1 kV rfl rfl oV hA e3 (Jh [Lib.dg N (9*i+t)]) rfl oV (by rw[Aw,Cf];omega) (by rw[Aw,Cf];omega) ?_;intro v4 m4 hA4;rw[show Bc (ld N (9*i+t))++[.int .u8 ((Lib.dg N (9*i+t)).toNat:Int)]=Bc (ld N (9*i+(t+1))) by rw[show 9*i+(t+1)=9*i+t+1 by omega,Q2,Mo];rfl]at hA4;obtain⟨a4,c4,rfl⟩:=hA4.shape;refine G.quo ((D:Nat):Int) 10 ((l.getD i 0/10^(t+1):Nat):Int) kV oV oV oV (by rw[A16,<-A4w,hD];omega) ?_;refine G.i t ?_;exact G.b (hJ2 (t+1,(a4,(Bc (ld N (9*i+(t+1)))).length,c4)) _ _ _ cV (hle2.trans l3) ⟨dV,hA4⟩ dV)
  ·have:t=9:=oV
   subst this;refine G.lF ((9:Nat):Int) 9 ?_;refine G.i i ?_;exact G.b (hJ (i+1,(a2,n2,c2)) _ _ _ cV (hle.trans hle2) ⟨dV,hA⟩ dV)
 ·have:i=l.length:=oV
  subst this;refine G.lF (l.length:Int) (l.length:Int) ?_;obtain⟨bo,co,e⟩:=hA.ptr (by intro e;have:=congrArg A35 e;rw[Aw,Cf,List.length_nil]at this;omega);rw[Aw,Cf]at e;simp only[A09]at e;obtain⟨rfl,rfl,rfl⟩:=e;refine G.loop (ι:=Nat) (fun k=>[(1,.p 0 0),(3,sV (some ⟨bo,0,none⟩) (k+1) c1)]) (fun _=>[(0,⟨66,[bV b,sV a l.length c]⟩)])
   (fun k _ m'=>(N<10^(k+1)/\k+1<=9*l.length)/\Ae PH.mt m' (.slice (some ⟨bo,0,none⟩) (k+1) c1) 5 1 (Bc (ld N (k+1)))) (fun k=>k) (9*l.length-1) kV (fun _=>kV) ⟨kV,by rw[show 9*l.length-1+1=9*l.length by omega];kernel_rfl,kV⟩ (by rw[show 9*l.length-1+1=9*l.length by omega];exact⟨⟨hbd,A0w _⟩,hA⟩) ?_
  clear hA hJ;rintro J3 k hJ3 u3 m3 hle3 ⟨⟨hk,hk2⟩,hA⟩;refine G.s ((k+1:Nat):Int) 1 (k:Int) ?_;refine G.a bo 0 (k+1) c1 k 1 oV ?_;refine G.lM none bo (0+k*1) (.int .u8 ((Lib.dg N k).toNat:Int)) (hA.el (by rw[Bc,A0v,W1 oV];rfl)) ?_;have htz:=Yz hk;have hdn:=N5 N k;by_cases hz:N<10^k
  ·refine G.cmpG .eql .u8 ((Lib.dg N k).toNat:Int) 48 true kV rfl (by simp only[B4,decide_eq_true_eq];have:=htz.2 hz;omega) ?_;refine G.s ((k+1:Nat):Int) 1 (k:Int) ?_;have hco:k+1<=c1:=hA.cap;refine G.sliceTo 1 (some ⟨bo,0,none⟩) (k+1) c1 k kV oV ?_;have hA':=hA.take (k:=k) (by rw[Aw,Cf];omega);rw[show (Bc (ld N (k+1))).take k=Bc (ld N k) by rw[Bc,<-List.map_take,Al5 oV];rfl]at hA';rcases k with _|k
   ·simp at hz;omega
   ·exact G.b (hJ3 k _ _ _ cV hle3 ⟨⟨hz,oV⟩,hA'⟩ oV)
  ·refine G.cmpG .eql .u8 ((Lib.dg N k).toNat:Int) 48 false kV rfl (by simp only[B4,decide_eq_false_iff_not];intro h;exact hz (htz.1 oV)) ?_;have hkd:A1v N=k+1:=Lib.nDigits_unique k N oV hk;clear hJ3;have hdr:=Wv N;rw[hkd]at hdr;cases b
   ·have hzn:¬ z<0:=by simpa using hb.symm
    have hrev:(ld N (k+1)).reverse=A1a z:=by rw[hdr,Cz hzn,hN]
    generalize hR:ld N (k+1)=R at *
    generalize hnR:k+1=nR at *
    have hnb:nR<=1000000000000:=oV
    have hn1:1<=nR:=oV
    have hRl:=hA.len;rw[Aw]at hRl;refine G.s (nR:Int) 1 ((nR-1:Nat):Int) ?_;refine G.l (ι:=Nat×List UInt8) (fun i=>[(3,sV (some ⟨bo,0,none⟩) nR c1),(7,iV i.1),(8,iV (nR-1-i.1:Nat))]) (fun _=>[])
     (fun i _ m'=>i.1<=nR-1/\Lo R i.2 i.1/\Ae PH.mt m' (.slice (some ⟨bo,0,none⟩) nR c1) 5 1 (Bc i.2)) (fun i=>nR-i.1) (0,R) ⟨mV,Lo.start R,hA⟩ ?_
    clear hA;rintro J5 ⟨i,l⟩ hJ5 u5 m5 hle5 ⟨hi5,hst,hA⟩;simp only at hi5 hst hA hJ5;have hll:=hst.len;by_cases hij:i<nR-1-i
    ·refine G.lT (i:Int) ((nR-1-i:Nat):Int) ?_;refine G.a bo 0 nR c1 (nR-1-i) 1 oV ?_;refine G.lM none bo (0+(nR-1-i)*1) (.int .u8 ((l.getD (nR-1-i) 0).toNat:Int)) (hA.el (F6 oV)) ?_;refine G.a bo 0 nR c1 i 1 oV ?_;refine G.lM none bo (0+i*1) (.int .u8 ((l.getD i 0).toNat:Int)) (hA.el (F6 oV)) ?_;refine G.a bo 0 nR c1 i 1 oV ?_;refine G.storeA 1 PH.mt (Bc l) bo nR c1 i (.int .u8 ((l.getD (nR-1-i) 0).toNat:Int)) kV hA (by rw[Aw];omega) rfl rfl ?_;intro m6 hA6;rw[Jt]at hA6;refine G.a bo 0 nR c1 (nR-1-i) 1 oV ?_;refine G.storeA 1 PH.mt _ bo nR c1 (nR-1-i) (.int .u8 ((l.getD i 0).toNat:Int)) kV hA6 (by rw[Aw,A3u];omega) rfl rfl ?_;intro m7 hA7;rw[Jt]at hA7;refine G.i i ?_;refine G.s ((nR-1-i:Nat):Int) 1 ((nR-1-(i+1):Nat):Int) ?_;exact G.b (hJ5 (i+1,(l.set i (l.getD (nR-1-i) 0)).set (nR-1-i) (l.getD i 0)) _ _ _ cV hle5 ⟨dV,by dsimp only;rw[hRl]at hij⊢;exact hst.step hij,hA7⟩ dV)
    ·refine G.lF (i:Int) ((nR-1-i:Nat):Int) ?_;have hlR:=hst.done (by rw[<-hRl];exact hij);refine G.convB PH.mt 5 5 l bo nR c1 kV kV hA ?_;refine G.give PH.mt (Bc l) _ kV hA (fun _=>.inl rfl) ?_;intro u8 l8 _;refine G.r (.string (mkS l)) ⟨rfl,?_⟩;rw[hlR,hrev]
   ·have hzn:z<0:=by simpa using hb.symm
    refine G.B 5 1 1 (.int .u8 0) [.int .u8 45] (Jh [45]) ?_;intro g u4 l4 e4;refine G.append 5 1 1 (.int .u8 0) PH.mt (Bc (ld N (k+1))) [.int .u8 45] (.slice (some ⟨bo,0,none⟩) (k+1) c1) g 0 1 1 kV rfl rfl oV hA e4 (Jh [45]) rfl oV (by rw[Aw,Cf];omega) (by rw[Aw,Cf];omega) ?_;intro v5 m5 hA5;rw[show Bc (ld N (k+1))++[.int .u8 45]=Bc (ld N (k+1)++[45]) by rw[Mo];rfl]at hA5;obtain⟨bR,cR,rfl⟩:=hA5.ptr (by simp[Bc]);rw[Aw,A0z,Cf,A2o]at hA5⊢;have hrev:(ld N (k+1)++[45]).reverse=A1a z:=by rw[A8f,hdr,Ts hzn,hN];rfl
    clear hA;have hA:=hA5;clear hA5;have hlR:(ld N (k+1)++[45]).length=k+1+1:=by rw[A0z,Cf];rfl
    generalize hR:ld N (k+1)++[45]=R at *
    generalize hnR:k+1+1=nR at *
    have hnb:nR<=1000000000000:=oV
    have hn1:1<=nR:=oV
    have hRl:=hA.len;rw[Aw]at hRl;refine G.s (nR:Int) 1 ((nR-1:Nat):Int) ?_;refine G.l (ι:=Nat×List UInt8) (fun i=>[(3,sV (some ⟨bR,0,none⟩) nR cR),(7,iV i.1),(8,iV (nR-1-i.1:Nat))]) (fun _=>[])
     (fun i _ m'=>i.1<=nR-1/\Lo R i.2 i.1/\Ae PH.mt m' (.slice (some ⟨bR,0,none⟩) nR cR) 5 1 (Bc i.2)) (fun i=>nR-i.1) (0,R) ⟨mV,Lo.start R,hA⟩ ?_
    clear hA;rintro J5 ⟨i,l⟩ hJ5 u5 m5 hle5 ⟨hi5,hst,hA⟩;simp only at hi5 hst hA hJ5;have hll:=hst.len;by_cases hij:i<nR-1-i
    ·refine G.lT (i:Int) ((nR-1-i:Nat):Int) ?_;refine G.a bR 0 nR cR (nR-1-i) 1 oV ?_;refine G.lM none bR (0+(nR-1-i)*1) (.int .u8 ((l.getD (nR-1-i) 0).toNat:Int)) (hA.el (F6 oV)) ?_;refine G.a bR 0 nR cR i 1 oV ?_;refine G.lM none bR (0+i*1) (.int .u8 ((l.getD i 0).toNat:Int)) (hA.el (F6 oV)) ?_;refine G.a bR 0 nR cR i 1 oV ?_;refine G.storeA 1 PH.mt (Bc l) bR nR cR i (.int .u8 ((l.getD (nR-1-i) 0).toNat:Int)) kV hA (by rw[Aw];omega) rfl rfl ?_;intro m6 hA6;rw[Jt]at hA6;refine G.a bR 0 nR cR (nR-1-i) 1 oV ?_;refine G.storeA 1 PH.mt _ bR nR cR (nR-1-i) (.int .u8 ((l.getD i 0).toNat:Int)) kV hA6 (by rw[Aw,A3u];omega) rfl rfl ?_;intro m7 hA7;rw[Jt]at hA7;refine G.i i ?_;refine G.s ((nR-1-i:Nat):Int) 1 ((nR-1-(i+1):Nat):Int) ?_;exact G.b (hJ5 (i+1,(l.set i (l.getD (nR-1-i) 0)).set (nR-1-i) (l.getD i 0)) _ _ _ cV hle5 ⟨dV,by dsimp only;rw[hRl]at hij⊢;exact hst.step hij,hA7⟩ dV)
    ·refine G.lF (i:Int) ((nR-1-i:Nat):Int) ?_;have hlR:=hst.done (by rw[<-hRl];exact hij);refine G.convB PH.mt 5 5 l bR nR cR kV kV hA ?_;refine G.give PH.mt (Bc l) _ kV hA (fun _=>.inl rfl) ?_;intro u8 l8 _;refine G.r (.string (mkS l)) ⟨rfl,?_⟩;rw[hlR,hrev]
theorem Yi (h:Cn u x z)(hs:nl z.natAbs<=100000000000)(hd:A1v z.natAbs<=400):Fn0 prog 88 [x] u fun v _=>v=.tuple #[.string (mkS (A1a z)),.int .i64 0]:=by
 obtain⟨b,a,n,c,rfl,hb,hi⟩:=h.opn;refine Fn0.o func88 ?_;refine G.c call174 (Ng h hs) ?_;rintro v1 u1 l1 rfl;refine G.gF ((A1v z.natAbs:Nat):Int) 400 ?_;refine G.c call113 (S4 (h.mono l1) hs) ?_;rintro v2 u2 l2 rfl;exact G.r _ ⟨rfl,rfl⟩
theorem Ao1 (h1:-9223372036854775807<=z)(h2:z<=9223372036854775807):nl z.natAbs<=100000000000:=A0q (A4 (k:=3) oV) oV
end
section
variable {k:Nat}{l:List UInt8}
theorem Gk.drop (h:Gk l)(k:Nat):Gk (l.drop k):=fun b hb=>h b (List.mem_of_mem_drop hb)
theorem Gk.take (h:Gk l)(k:Nat):Gk (l.take k):=fun b hb=>h b (List.mem_of_mem_take hb)
theorem C9 {k j:Nat}(h:k+j<l.length):(l.drop k).take (j+1)=(l.drop k).take j++[l.getD (k+j) 0]:=by
 rw[A1c]
 congr 1
 rw[List.getElem?_drop,A0n h,A0o,A0n h];rfl
theorem Ma (l:List UInt8)(b:UInt8):rd (l++[b])=10*rd l+(b.toNat-48):=by simp[rd,rdA]
theorem Jc (h:Gk l)(hk:k<l.length):48<=(l.getD k 0).toNat/\(l.getD k 0).toNat<=57:=by
 rw[A0o,A0n hk];exact h _ (A04 hk)
theorem C1 (hk:k<l.length):l[k]?=some (l.getD k 0):=by
 rw[A0o,A0n hk];rfl
def Bh (b:Bool)(l:List UInt8):List UInt8:=if b then 45::l else l
structure O9 (N:Nat)(s:List UInt8)(ys:List Nat):Prop where
 low:Low ys
 dig:Gk s
 sum:N=val ys+1000000000^ys.length*rd s
theorem O9.step {N:Nat}{s:List UInt8}{ys:List Nat}(h:O9 N s ys):O9 N (s.take (s.length-9)) (ys++[rd (s.drop (s.length-9))]):=by
 have hl:rd (s.drop (s.length-9))<1000000000:=by
  have:=Vz (h.dig.drop (s.length-9));rw[A5e]at this;exact A2e this (by rw[show (1000000000:Nat)=10^9 from rfl];exact A1l oV oV)
 refine⟨h.low.append (Low.cons hl Low.nil),h.dig.take _,?_⟩;have e:rd s=rd (s.take (s.length-9))*1000000000+rd (s.drop (s.length-9)):=by
  have:=U0 (s.take (s.length-9)) (s.drop (s.length-9));rw[List.take_append_drop]at this;rw[this];by_cases h9:9<=s.length
  ·rw[A5e,show s.length-(s.length-9)=9 by omega]
  ·rw[show s.length-9=0 by omega];simp[rd,rdA]
 rw[Hp,A0z,A2o,A16,h.sum,e,Nat.mul_add,A1x,A10 (rd _) 1000000000];omega
theorem Ahb {b:Bool}(hd:Gk l)(hl:l≠[])(h:¬ b=true):(Bh b l).getD 0 0≠45:=by
 cases b
 ·have h1:0<l.length:=by cases l;exact absurd rfl hl;simp
  have:=Jc hd h1;intro h2;rw[show Bh false l=l from rfl]at h2;rw[h2]at this;simp at this
 ·exact absurd rfl h
theorem Ago {u:PH}(b:Bool)(l:List UInt8)(hd:Gk l)(hl:l≠[])(hlen:l.length<=1000000000):Fn0 prog 83 [.string (mkS (Bh b l))] u fun v u'=>Cn u' v (Bp b (rd l)):=by
 have hl0:0<l.length:=by cases l;exact absurd rfl hl;simp
 refine Fn0.o func83 ?_;have hne:Bh b l≠[]:=by cases b<;>simp[Bh,hl]
 refine G.x (Bh b l) [] hne ?_;have h00:(Bh b l)[0]?=some ((Bh b l).getD 0 0):=C1 (by cases b<;>simp[Bh];omega)
 refine G.idxS (Bh b l) 0 _ kV h00 ?_;cases b
 ·have hne:=Ahb (b:=false) hd hl mV;refine G.cmpG .eql .u8 (((Bh false l).getD 0 0).toNat:Int) 45 false kV rfl (by simp only[B4,decide_eq_false_iff_not];intro h;exact hne (A8a.1 (by simpa using (by omega:((Bh false l).getD 0 0).toNat=45)))) ?_;refine G.l (ι:=List UInt8×List Nat×(Option Addr×Nat×Nat)) (fun i=>[(2,.p 0 0),(3,tV i.1),(4,.p 2001 0)])
   (fun i=>[(0,⟨66,[bV false,sV none 0 0]⟩),(2001,⟨66,[bV false,sV i.2.2.1 i.2.2.2.1 i.2.2.2.2]⟩)])
   (fun i _ m'=>i.1.length+i.2.1.length<=l.length/\O9 (rd l) i.1 i.2.1/\Ae PH.mt m' (.slice i.2.2.1 i.2.2.2.1 i.2.2.2.2) 3 1 (Ag i.2.1)) (fun i=>i.1.length) (l,[],(none,0,0)) ⟨mV,⟨Low.nil,hd,by simp[val]⟩,Ae.nil _ _ _⟩ ?_
  rintro J ⟨s,ys,⟨a,ny,c⟩⟩ hJ u' m' hle ⟨hsz,hst,hA⟩;simp only at hsz hst hA hJ;have hys:=hA.len;rw[Ah]at hys;have hsd:=hst.dig;have hss:(mkS s).size=s.length:=Go.Lib.size_mk s;by_cases h0:0<s.length
  ·refine G.gT (s.length:Int) 0 ?_;refine G.sub (s.length:Int) 9 ((s.length:Int)-9) kV rfl oV oV ?_;refine G.maxI [3,3] 0 ((s.length:Int)-9) ((s.length-9:Nat):Int) kV oV ?_;refine G.loop (ι:=Nat) (fun i=>[(2,.p 0 0),(3,tV s),(4,.p 2001 0),(5,iV (s.length-9:Nat)),(6,iV (rd ((s.drop (s.length-9)).take i):Nat)),(7,iV (s.length-9+i:Nat))])
    (fun _=>[(0,⟨66,[bV false,sV none 0 0]⟩),(2001,⟨66,[bV false,sV a ny c]⟩)])
    (fun i _ m'=>s.length-9+i<=s.length/\Ae PH.mt m' (.slice a ny c) 3 1 (Ag ys)) (fun i=>s.length-i) 0 kV (fun _=>kV) ⟨kV,by rw[A3y];kernel_rfl,kV⟩ ⟨oV,hA⟩ ?_
   clear hA;rintro J2 i hJ2 u2 m2 hle2 ⟨hi,hA⟩;by_cases hlt:s.length-9+i<s.length
   ·refine G.lT ((s.length-9+i:Nat):Int) (s.length:Int) ?_;have hb9:rd ((s.drop (s.length-9)).take (i+1))<1000000000:=by
     have:=Vz ((hsd.drop (s.length-9)).take (i+1));refine A2e this ?_;rw[show (1000000000:Nat)=10^9 from rfl];exact A1l oV gV
    have hdg:=Jc hsd hlt;rw[C9 hlt,Ma]at hb9;refine G.mul 10 ((rd ((s.drop (s.length-9)).take i):Nat):Int) ((10*rd ((s.drop (s.length-9)).take i):Nat):Int) kV oV oV oV ?_;refine G.idxS s (s.length-9+i) _ kV (C1 hlt) ?_;refine G.sub8 ((s.getD (s.length-9+i) 0).toNat:Int) 48 (((s.getD (s.length-9+i) 0).toNat-48:Nat):Int) kV oV oV oV ?_;refine G.convI .u8 .i64 .u8 (((s.getD (s.length-9+i) 0).toNat-48:Nat):Int) (((s.getD (s.length-9+i) 0).toNat-48:Nat):Int) kV (Cl oV oV) ?_;refine G.add ((10*rd ((s.drop (s.length-9)).take i):Nat):Int) (((s.getD (s.length-9+i) 0).toNat-48:Nat):Int) ((rd ((s.drop (s.length-9)).take (i+1)):Nat):Int) kV (by rw[C9 hlt,Ma];omega) oV (by rw[C9 hlt,Ma];omega) ?_;refine G.p ((s.length-9+i:Nat):Int) 1 ((s.length-9+(i+1):Nat):Int) ?_;exact G.b (hJ2 (i+1) _ _ _ cV hle2 ⟨oV,hA⟩ oV)
   ·refine G.lF ((s.length-9+i:Nat):Int) (s.length:Int) ?_;have htk:(s.drop (s.length-9)).take i=s.drop (s.length-9):=A03 gV;rw[htk];have hstep:=hst.step;have hsl:(s.take (s.length-9)).length=s.length-9:=mV
    generalize rd (s.drop (s.length-9))=d at hstep⊢;refine G.B 3 1 8 (.int .i64 0) [.int .i64 (d:Int)] (Ax [d]) ?_;intro g u3 l3 e3;refine G.append 3 1 8 (.int .i64 0) PH.mt (Ag ys) [.int .i64 (d:Int)] (.slice a ny c) g 0 1 1 kV rfl rfl oV hA e3 (Ax [d]) rfl oV (by rw[Ah];omega) (by rw[Ah];omega) ?_;intro v4 m4 hA4;rw[Cj]at hA4;obtain⟨a4,c4,rfl⟩:=hA4.shape;refine G.sliceSTo s (s.length-9) kV kV oV ?_;exact G.b (hJ (s.take (s.length-9),ys++[d],(a4,(Ag (ys++[d])).length,c4)) _ _ _ cV ((hle.trans hle2).trans l3) ⟨by dsimp only;rw[hsl,A0z,A2o];omega,hstep,hA4⟩ (by dsimp only;rw[hsl];omega))
  ·have hs0:s = []:=A13 oV;subst hs0;refine G.gF ((0:Nat):Int) 0 ?_;refine G.give PH.mt (Ag ys) _ kV hA (fun _=>.inl rfl) ?_;intro u3 l3 hL;refine G.c call168 (C7 (b:=false) (a:=a) (n:=ny) (c:=c) (l:=ys) hL hst.low oV) ?_;intro v5 u5 l5 k5;have hv:val ys=rd l:=by have:=hst.sum;simpa[rd,rdA] using this.symm
   rw[hv]at k5;obtain⟨b5,a5,n5,c5,rfl,_,_⟩:=k5.opn;exact G.r (.agg #[.bool b5,.slice a5 n5 c5]) ⟨rfl,k5⟩
 ·refine G.cmpG .eql .u8 (((Bh true l).getD 0 0).toNat:Int) 45 true kV rfl (by simp[B4,Bh]) ?_;refine G.sliceSFrom (Bh true l) 1 kV kV (by simp[Bh]) ?_;rw[show (Bh true l).drop 1=l from rfl];refine G.l (ι:=List UInt8×List Nat×(Option Addr×Nat×Nat)) (fun i=>[(2,.p 0 0),(3,tV i.1),(4,.p 2001 0)])
   (fun i=>[(0,⟨66,[bV false,sV none 0 0]⟩),(2001,⟨66,[bV true,sV i.2.2.1 i.2.2.2.1 i.2.2.2.2]⟩)])
   (fun i _ m'=>i.1.length+i.2.1.length<=l.length/\O9 (rd l) i.1 i.2.1/\Ae PH.mt m' (.slice i.2.2.1 i.2.2.2.1 i.2.2.2.2) 3 1 (Ag i.2.1)) (fun i=>i.1.length) (l,[],(none,0,0)) ⟨mV,⟨Low.nil,hd,by simp[val]⟩,Ae.nil _ _ _⟩ ?_
  rintro J ⟨s,ys,⟨a,ny,c⟩⟩ hJ u' m' hle ⟨hsz,hst,hA⟩;simp only at hsz hst hA hJ;have hys:=hA.len;rw[Ah]at hys;have hsd:=hst.dig;have hss:(mkS s).size=s.length:=Go.Lib.size_mk s;by_cases h0:0<s.length
  ·refine G.gT (s.length:Int) 0 ?_;refine G.sub (s.length:Int) 9 ((s.length:Int)-9) kV rfl oV oV ?_;refine G.maxI [3,3] 0 ((s.length:Int)-9) ((s.length-9:Nat):Int) kV oV ?_;refine G.loop (ι:=Nat) (fun i=>[(2,.p 0 0),(3,tV s),(4,.p 2001 0),(5,iV (s.length-9:Nat)),(6,iV (rd ((s.drop (s.length-9)).take i):Nat)),(7,iV (s.length-9+i:Nat))])
    (fun _=>[(0,⟨66,[bV false,sV none 0 0]⟩),(2001,⟨66,[bV true,sV a ny c]⟩)])
    (fun i _ m'=>s.length-9+i<=s.length/\Ae PH.mt m' (.slice a ny c) 3 1 (Ag ys)) (fun i=>s.length-i) 0 kV (fun _=>kV) ⟨kV,by rw[A3y];kernel_rfl,kV⟩ ⟨oV,hA⟩ ?_
   clear hA;rintro J2 i hJ2 u2 m2 hle2 ⟨hi,hA⟩;by_cases hlt:s.length-9+i<s.length
   ·refine G.lT ((s.length-9+i:Nat):Int) (s.length:Int) ?_;have hb9:rd ((s.drop (s.length-9)).take (i+1))<1000000000:=by
     have:=Vz ((hsd.drop (s.length-9)).take (i+1));refine A2e this ?_;rw[show (1000000000:Nat)=10^9 from rfl];exact A1l oV gV
    have hdg:=Jc hsd hlt;rw[C9 hlt,Ma]at hb9;refine G.mul 10 ((rd ((s.drop (s.length-9)).take i):Nat):Int) ((10*rd ((s.drop (s.length-9)).take i):Nat):Int) kV oV oV oV ?_;refine G.idxS s (s.length-9+i) _ kV (C1 hlt) ?_;refine G.sub8 ((s.getD (s.length-9+i) 0).toNat:Int) 48 (((s.getD (s.length-9+i) 0).toNat-48:Nat):Int) kV oV oV oV ?_;refine G.convI .u8 .i64 .u8 (((s.getD (s.length-9+i) 0).toNat-48:Nat):Int) (((s.getD (s.length-9+i) 0).toNat-48:Nat):Int) kV (Cl oV oV) ?_;refine G.add ((10*rd ((s.drop (s.length-9)).take i):Nat):Int) (((s.getD (s.length-9+i) 0).toNat-48:Nat):Int) ((rd ((s.drop (s.length-9)).take (i+1)):Nat):Int) kV (by rw[C9 hlt,Ma];omega) oV (by rw[C9 hlt,Ma];omega) ?_;refine G.p ((s.length-9+i:Nat):Int) 1 ((s.length-9+(i+1):Nat):Int) ?_;exact G.b (hJ2 (i+1) _ _ _ cV hle2 ⟨oV,hA⟩ oV)
   ·refine G.lF ((s.length-9+i:Nat):Int) (s.length:Int) ?_;have htk:(s.drop (s.length-9)).take i=s.drop (s.length-9):=A03 gV;rw[htk];have hstep:=hst.step;have hsl:(s.take (s.length-9)).length=s.length-9:=mV
    generalize rd (s.drop (s.length-9))=d at hstep⊢;refine G.B 3 1 8 (.int .i64 0) [.int .i64 (d:Int)] (Ax [d]) ?_;intro g u3 l3 e3;refine G.append 3 1 8 (.int .i64 0) PH.mt (Ag ys) [.int .i64 (d:Int)] (.slice a ny c) g 0 1 1 kV rfl rfl oV hA e3 (Ax [d]) rfl oV (by rw[Ah];omega) (by rw[Ah];omega) ?_;intro v4 m4 hA4;rw[Cj]at hA4;obtain⟨a4,c4,rfl⟩:=hA4.shape;refine G.sliceSTo s (s.length-9) kV kV oV ?_;exact G.b (hJ (s.take (s.length-9),ys++[d],(a4,(Ag (ys++[d])).length,c4)) _ _ _ cV ((hle.trans hle2).trans l3) ⟨by dsimp only;rw[hsl,A0z,A2o];omega,hstep,hA4⟩ (by dsimp only;rw[hsl];omega))
  ·have hs0:s = []:=A13 oV;subst hs0;refine G.gF ((0:Nat):Int) 0 ?_;refine G.give PH.mt (Ag ys) _ kV hA (fun _=>.inl rfl) ?_;intro u3 l3 hL;refine G.c call168 (C7 (b:=true) (a:=a) (n:=ny) (c:=c) (l:=ys) hL hst.low oV) ?_;intro v5 u5 l5 k5;have hv:val ys=rd l:=by have:=hst.sum;simpa[rd,rdA] using this.symm
   rw[hv]at k5;obtain⟨b5,a5,n5,c5,rfl,_,_⟩:=k5.opn;exact G.r (.agg #[.bool b5,.slice a5 n5 c5]) ⟨rfl,k5⟩
end
section
variable {j k n:Nat}{q r:Rat}{u:PH}{y z:Int}
theorem C4 (z:Int):A1a z=Bh (decide (z<0)) (A20 z.natAbs):=by
 by_cases h:z<0
 ·rw[Ts h,decide_eq_true h];rfl
 ·rw[Cz h,decide_eq_false h];rfl
theorem Uy (z:Int):Bp (decide (z<0)) (rd (A20 z.natAbs))=z:=by rw[Abj];exact Po z
theorem Ach (h:A1v n<=k):nl n<=k:=by
 refine A4 (A2e (Bao n) ?_);rw[Aat];exact A1l oV oV
theorem Ms (h:A1v n<=400):nl n<=400:=Ach h
theorem Ek (h:A1v z.natAbs<=400):(A1a z).length<=401:=by
 rw[C4];unfold Bh;split<;>simp[A34]<;>omega
theorem Ks (h:A1v z.natAbs<=400):Fn0 prog 83 [.string (mkS (A1a z))] u fun v u'=>Cn u' v z:=by
 have:=Ago (u:=u) (decide (z<0)) (A20 z.natAbs) (Mc _) (Hy _) (by rw[A34];omega);rw[Uy,<-C4]at this;exact this
theorem Hd (hz:0<z)(h1:nl y.natAbs<=j)(h2:nl z.natAbs<=k):nl (A2m y z).num.natAbs<=j/\nl (A2m y z).den<=k:=by
 obtain⟨e1,e2,_⟩:=Ju (y:=y) hz;refine⟨by rw[e1];exact Q3 h1,?_⟩;have:(A2m y z).den=(z.tdiv (Nat.gcd y.natAbs z.natAbs:Nat)).natAbs:=oV
 rw[this];exact Q3 h2
theorem Kv (q r:Rat):0<(q.den:Int)*(r.den:Int):=Int.mul_pos (by have:=q.den_pos;omega) (by have:=r.den_pos;omega)
theorem Sz.d (h:Sz q k):nl ((q.den:Int)).natAbs<=k:=by simpa using h.2
theorem Ap0 (h:Sz q k)(h':Sz r k):Sz (q+r) (2*k+1):=by
 rw[<-Nx];obtain⟨a,b⟩:=Hd (Kv q r) (Nq (Bl h.1 h'.d) (Bl h'.1 h.d)) (Bl h.d h'.d);exact⟨a,A0q b oV⟩
theorem An5 (h:Sz q k)(h':Sz r k):Sz (q-r) (2*k+1):=by
 rw[<-Wg];obtain⟨a,b⟩:=Hd (Kv q r) (Ac9 (Bl h.1 h'.d) (Bl h'.1 h.d)) (Bl h.d h'.d);exact⟨a,A0q b oV⟩
theorem Aj1:A20 0 = [48]:=A7g oV
theorem Ait:A20 1 = [49]:=A7g oV
theorem Dt:A1a 0 = [48]:=by rw[Cz oV];exact Aj1
theorem Gu:A1a 1 = [49]:=by rw[Cz oV];exact Ait
theorem S5 (n:Nat):A1a (n:Int)=A20 n:=by rw[Cz oV];congr 1
def rdZ (t:List UInt8):Int:=match t with
 |45::l=>-(rd l:Int)
 |l=>rd l
theorem Y5 (z:Int):rdZ (A1a z)=z:=by
 by_cases h:z<0
 ·rw[Ts h];simp only[rdZ,Abj];omega
 ·rw[Cz h];have h1:=Y6 z.natAbs;have h2:=Abj z.natAbs;have h3:=Mc z.natAbs;generalize A20 z.natAbs=l at *
  cases l with
  |nil=>simp at h1
  |cons b l =>
   have hb:=h3 b mV;unfold rdZ;split
   ·rename_i e;simp at e;rw[e.1]at hb;simp at hb
   ·rw[h2];omega
theorem Gv (h:A1a y=A1a z):y=z:=by rw[<-Y5 y,h,Y5]
theorem M5 (hz:0<=z)(h0:z≠0):∃ b,(A1a z)[0]?=some b/\49<=b.toNat/\b.toNat<=57:=by
 rw[Cz oV];refine⟨_,Y6 _,Af3 oV,?_⟩;rw[N5];have:=A2s (z.natAbs/10^(A1v z.natAbs-1)) (show 0<10 by omega);omega
theorem Py (h:A1v z.natAbs<=400):Fn0 prog 166 [.string (mkS (A1a z))] u fun v _=>v=.bool true:=by
 refine Fn0.o func166 ?_;by_cases h0:z=0
 ·subst h0;refine G.q (A1a 0) [48] Dt ?_;exact G.r (.bool true) ⟨rfl,rfl⟩
 refine G.w (A1a z) [48] (fun e=>h0 (Gv (e.trans Dt.symm))) ?_;have hsize:(mkS (A1a z)).size=(A1a z).length:=Go.Lib.size_mk _;have hlen:=Ek h;have hdl:=A34 z.natAbs;have hdp:=Lib.nDigits_pos z.natAbs;have hdd:=Mc z.natAbs;obtain⟨b0,hb0,hb1,hb2⟩:=M5 (z:=(z.natAbs:Int)) oV oV;rw[S5]at hb0;have hs:=C4 z;generalize hL:A20 z.natAbs=L at *
 generalize hT:A1a z=T at *
 have hTl:0<T.length:=by rw[hs];unfold Bh;split;simp;omega
 refine G.gT (T.length:Int) 0 ?_;by_cases hz:z<0
 ·rw[decide_eq_true hz]at hs;refine G.idxS T 0 45 kV (by rw[hs];rfl) ?_;refine G.cmpG .eql .u8 45 45 true kV rfl rfl ?_;refine G.sliceSFrom T 1 kV kV oV ?_;rw[show T.drop 1=L by rw[hs];rfl];refine G.eF (L.length:Int) 0 ?_;refine G.gF (L.length:Int) 400 ?_;refine G.idxS L 0 b0 kV hb0 ?_;refine G.cmpG .eql .u8 (b0.toNat:Int) 48 false kV rfl (by simp only[B4,decide_eq_false_iff_not];omega) ?_;refine G.l (ι:=Nat) (fun i=>[(3,tV L),(4,iV i)]) (fun _=>[]) (fun i _ m'=>i<=L.length/\m'=PH.mt) (fun i=>L.length-i) 0 ⟨oV,rfl⟩ ?_;rintro J i hJ u' m' hle ⟨hi,rfl⟩;by_cases hlt:i<L.length
  ·refine G.lT (i:Int) (L.length:Int) ?_;have hg:=Jc hdd hlt;refine G.idxS L i _ kV (C1 hlt) ?_;refine G.cmpG .lss .u8 ((L.getD i 0).toNat:Int) 48 false kV rfl (by simp only[B4,decide_eq_false_iff_not];omega) ?_;refine G.idxS L i _ kV (C1 hlt) ?_;refine G.cmpG .gtr .u8 ((L.getD i 0).toNat:Int) 57 false kV rfl (by simp only[B4,decide_eq_false_iff_not];omega) ?_;refine G.i i ?_;exact G.b (hJ (i+1) _ _ _ cV hle ⟨oV,rfl⟩ oV)
  ·refine G.lF (i:Int) (L.length:Int) ?_;exact G.r (.bool true) ⟨rfl,rfl⟩
 ·rw[decide_eq_false hz]at hs;have hTL:T=L:=hs;subst hTL;refine G.idxS T 0 b0 kV hb0 ?_;refine G.cmpG .eql .u8 (b0.toNat:Int) 45 false kV rfl (by simp only[B4,decide_eq_false_iff_not];omega) ?_;refine G.eF (T.length:Int) 0 ?_;refine G.gF (T.length:Int) 400 ?_;refine G.idxS T 0 b0 kV hb0 ?_;refine G.cmpG .eql .u8 (b0.toNat:Int) 48 false kV rfl (by simp only[B4,decide_eq_false_iff_not];omega) ?_;refine G.l (ι:=Nat) (fun i=>[(3,tV T),(4,iV i)]) (fun _=>[]) (fun i _ m'=>i<=T.length/\m'=PH.mt) (fun i=>T.length-i) 0 ⟨oV,rfl⟩ ?_;rintro J i hJ u' m' hle ⟨hi,rfl⟩;by_cases hlt:i<T.length
  ·refine G.lT (i:Int) (T.length:Int) ?_;have hg:=Jc hdd hlt;refine G.idxS T i _ kV (C1 hlt) ?_;refine G.cmpG .lss .u8 ((T.getD i 0).toNat:Int) 48 false kV rfl (by simp only[B4,decide_eq_false_iff_not];omega) ?_;refine G.idxS T i _ kV (C1 hlt) ?_;refine G.cmpG .gtr .u8 ((T.getD i 0).toNat:Int) 57 false kV rfl (by simp only[B4,decide_eq_false_iff_not];omega) ?_;refine G.i i ?_;exact G.b (hJ (i+1) _ _ _ cV hle ⟨oV,rfl⟩ oV)
  ·refine G.lF (i:Int) (T.length:Int) ?_;exact G.r (.bool true) ⟨rfl,rfl⟩
theorem Afv {T:List UInt8}(h:∀ b∈T,b≠47)(hl:T.length<=1000000):Fn0 prog 82 [.string (mkS T)] u fun v _=>v=.tuple #[.string (mkS T),.string (mkS [49]),.bool false]:=by
 have hsize:(mkS T).size=T.length:=Go.Lib.size_mk _;refine Fn0.o func82 ?_;refine G.l (ι:=Nat) (fun i=>[(0,tV T),(5,iV i)]) (fun _=>[]) (fun i _ m'=>i<=T.length/\m'=PH.mt) (fun i=>T.length-i) 0 ⟨oV,rfl⟩ ?_;rintro J i hJ u' m' hle ⟨hi,rfl⟩;by_cases hlt:i<T.length
 ·refine G.lT (i:Int) (T.length:Int) ?_;refine G.idxS T i _ kV (C1 hlt) ?_;have hne:T.getD i 0≠47:=by rw[A0o,A0n hlt];exact h _ (A04 hlt)
  refine G.cmpG .eql .u8 ((T.getD i 0).toNat:Int) 47 false kV rfl (by simp only[B4,decide_eq_false_iff_not];intro h;exact hne (A8a.1 (by simpa using (by omega:(T.getD i 0).toNat=47)))) ?_;refine G.i i ?_;exact G.b (hJ (i+1) _ _ _ cV hle ⟨oV,rfl⟩ oV)
 ·refine G.lF (i:Int) (T.length:Int) ?_;exact G.r (.tuple #[.string (mkS T),.string (mkS [49]),.bool false]) ⟨rfl,rfl⟩
theorem Agb {A B:List UInt8}(h:∀ b∈A,b≠47)(hl:(A++47::B).length<=1000000):Fn0 prog 82 [.string (mkS (A++47::B))] u fun v _=>v=.tuple #[.string (mkS A),.string (mkS B),.bool true]:=by
 have hT:∀ i,i<A.length->(A++47::B).getD i 0≠47:=by
  intro i hi;rw[A0o,A1d hi,A0n hi];exact h _ (A04 hi)
 have hA:(A++47::B)[A.length]?=some 47:=by rw[A1s (A0w _)];simp
 have hlen:(A++47::B).length=A.length+1+B.length:=gV
 have htk:(A++47::B).take A.length=A:=mV
 have hdr:(A++47::B).drop (A.length+1)=B:=by rw[<-A7a];simp
 generalize A++47::B=T at *
 have hsize:(mkS T).size=T.length:=Go.Lib.size_mk _;refine Fn0.o func82 ?_;refine G.l (ι:=Nat) (fun i=>[(0,tV T),(5,iV i)]) (fun _=>[]) (fun i _ m'=>i<=A.length/\m'=PH.mt) (fun i=>T.length-i) 0 ⟨oV,rfl⟩ ?_;rintro J i hJ u' m' hle ⟨hi,rfl⟩;refine G.lT (i:Int) (T.length:Int) ?_;by_cases hlt:i<A.length
 ·refine G.idxS T i _ kV (C1 oV) ?_;have hne:=hT i hlt;refine G.cmpG .eql .u8 ((T.getD i 0).toNat:Int) 47 false kV rfl (by simp only[B4,decide_eq_false_iff_not];intro h;exact hne (A8a.1 (by simpa using (by omega:(T.getD i 0).toNat=47)))) ?_;refine G.i i ?_;exact G.b (hJ (i+1) _ _ _ cV hle ⟨oV,rfl⟩ oV)
 ·have:i=A.length:=oV
  subst this;refine G.idxS T A.length 47 kV hA ?_;refine G.cmpG .eql .u8 47 47 true kV rfl rfl ?_;refine G.sliceSTo T A.length kV kV oV ?_;rw[htk];refine G.p (A.length:Int) 1 ((A.length+1:Nat):Int) ?_;refine G.sliceSFrom T (A.length+1) kV kV oV ?_;rw[hdr];exact G.r (.tuple #[.string (mkS A),.string (mkS B),.bool true]) ⟨rfl,rfl⟩
def Af (q:Rat):List UInt8:=if q.den=1 then A1a q.num else A1a q.num++47::A1a (q.den:Int)
def Tx (q:Rat):Prop:=A1v q.num.natAbs<=400/\A1v q.den<=400
theorem Tx.den (h:Tx q):A1v ((q.den:Int)).natAbs<=400:=by simpa using h.2
theorem Tx.sz (h:Tx q):Sz q 400:=⟨Ms h.1,Ms h.2⟩
theorem Sz.mono (h:Sz q j)(hjk:j<=k):Sz q k:=⟨A0q h.1 hjk,A0q h.2 hjk⟩
theorem L3 (z:Int):∀ b∈A1a z,b≠47:=by
 have hd:=Mc z.natAbs;intro b hb e;subst e;rw[C4]at hb;unfold Bh at hb;split at hb
 ·simp at hb;have:=hd _ hb;simp at this
 ·have:=hd _ hb;simp at this
theorem Vf (h:Tx q):Fn0 prog 82 [.string (mkS (Af q))] u fun v _=>v=.tuple #[.string (mkS (A1a q.num)),.string (mkS (A1a (q.den:Int))),.bool (decide (q.den≠1))]:=by
 have l1:=Ek h.1;have l2:=Ek h.den;unfold Af;by_cases hd:q.den=1
 ·rw[if_pos hd,hd,show ((1:Nat):Int)=1 from rfl,Gu];exact Afv (L3 _) oV
 ·rw[if_neg hd,decide_eq_true hd];exact Agb (L3 _) gV
theorem Eh (h:Tx q):Fn0 prog 31 [.string (mkS (Af q))] u fun v u'=>QP u' v q:=by
 refine Fn0.o func31 ?_;refine G.c call82 (Vf h) ?_;rintro v1 u1 l1 rfl;refine G.c call83 (Ks h.1) ?_;intro v2 u2 l2 k2;obtain⟨b2,a2,n2,c2,rfl,_,_⟩:=k2.opn;refine G.c call83 (Ks h.den) ?_;intro v3 u3 l3 k3;obtain⟨b3,a3,n3,c3,rfl,_,_⟩:=k3.opn;exact G.r (.agg #[.bool b2,.slice a2 n2 c2,.bool b3,.slice a3 n3 c3]) ⟨rfl,QP.mk (k2.mono l3) k3 rfl rfl⟩
theorem Ahe (h:Tx q):(Af q).length<=802:=by
 have l1:=Ek h.1;have l2:=A34 q.den;have l3:=h.2;unfold Af;split
 ·omega
 ·rw[S5];simp;omega
theorem Ai0 (h:q.den≠1):q.num≠0:=fun h0=>h (by have:=Rat.num_eq_zero.1 h0;subst this;rfl)
theorem Pt (h:Tx q):Fn0 prog 81 [.string (mkS (Af q))] u fun v _=>v=.tuple #[.string (mkS (A1a q.num)),.string (mkS (A1a (q.den:Int))),.bool true]:=by
 have hsize:(mkS (Af q)).size=(Af q).length:=Go.Lib.size_mk _;have hlen:=Ahe h;refine Fn0.o func81 ?_;refine G.gF ((Af q).length:Int) 802 ?_;refine G.c call82 (Vf h) ?_;rintro v1 u1 l1 rfl;refine G.c call166 (Py h.1) ?_;rintro v2 u2 l2 rfl;refine G.c call166 (Py h.den) ?_;rintro v3 u3 l3 rfl;by_cases hd:q.den=1
 ·rw[show decide (q.den≠1)=false by simp[hd]];exact G.r (.tuple #[.string (mkS (A1a q.num)),.string (mkS (A1a (q.den:Int))),.bool true]) ⟨rfl,rfl⟩
 ·rw[show decide (q.den≠1)=true by simp[hd]];have hn:=Ai0 hd;have hdn:=q.den_nz;refine G.w (A1a q.num) [48] (fun e=>hn (Gv (e.trans Dt.symm))) ?_;refine G.w (A1a (q.den:Int)) [49] (fun e=>by have:=Gv (e.trans Gu.symm);omega) ?_;refine G.w (A1a (q.den:Int)) [48] (fun e=>by have:=Gv (e.trans Dt.symm);omega) ?_;obtain⟨b0,hb0,hb1,hb2⟩:=M5 (z:=(q.den:Int)) oV oV;refine G.idxS (A1a (q.den:Int)) 0 b0 kV hb0 ?_;refine G.cmpG .eql .u8 (b0.toNat:Int) 45 false kV rfl (by simp only[B4,decide_eq_false_iff_not];omega) ?_;refine G.c call83 (Ks h.1) ?_;intro v4 u4 l4 k4;obtain⟨b4,a4,n4,c4,rfl,_,_⟩:=k4.opn;refine G.c call83 (Ks h.den) ?_;intro v5 u5 l5 k5;obtain⟨b5,a5,n5,c5,rfl,_,_⟩:=k5.opn;refine G.c call167 (V2 (k4.mono l5) k5 (A0q (Ms h.1) oV) (A0q (Ms h.den) oV)) ?_;intro v6 u6 l6 k6;rw[show Nat.gcd q.num.natAbs ((q.den:Int)).natAbs=1 from q.reduced]at k6;obtain⟨b6,a6,n6,c6,rfl,_,_⟩:=k6.opn;refine G.c call113 (S4 k6 (A0q Pw oV)) ?_;rintro v7 u7 l7 rfl;refine G.y (A1a ((1:Nat):Int)) [49] Gu ?_;exact G.r (.tuple #[.string (mkS (A1a q.num)),.string (mkS (A1a (q.den:Int))),.bool true]) ⟨rfl,rfl⟩
theorem Cp (h:Tx q):Fn0 prog 30 [.string (mkS (Af q))] u fun v _=>v=.bool true:=by
 refine Fn0.o func30 ?_;refine G.c call81 (Pt h) ?_;rintro v1 u1 l1 rfl;exact G.r (.bool true) ⟨rfl,rfl⟩
theorem Kw {x:Value}(hx:QP u x q)(h:Tx q):Fn0 prog 35 [x] u fun v _=>v=.tuple #[.string (mkS (Af q)),.int .i64 0]:=by
 obtain⟨b,a,n,c,a',n',c',rfl,_,hn,hd⟩:=hx.opn;refine Fn0.o func35 ?_;refine G.c call88 (Yi hn (A0q (Ms h.1) oV) h.1) ?_;rintro v1 u1 l1 rfl;refine G.c call88 (Yi (hd.mono l1) (A0q (Ms h.den) oV) h.den) ?_;rintro v2 u2 l2 rfl;refine G.nF 0 0 ?_;refine G.nF 0 0 ?_;by_cases h1:q.den=1
 ·refine G.q (A1a (q.den:Int)) [49] (by rw[h1];exact Gu) ?_;exact G.r (.tuple #[.string (mkS (A1a q.num)),.int .i64 0]) ⟨rfl,by rw[Af,if_pos h1]⟩
 ·refine G.w (A1a (q.den:Int)) [49] (fun e=>by have:=Gv (e.trans Gu.symm);omega) ?_;have e1:=Ek h.1;have e2:=Ek h.den;refine G.addS (A1a q.num) [47] kV gV ?_;refine G.addS (A1a q.num++[47]) (A1a (q.den:Int)) kV gV ?_;exact G.r (.tuple #[.string (mkS (A1a q.num++[47]++A1a (q.den:Int))),.int .i64 0]) ⟨rfl,by rw[Af,if_neg h1];simp⟩
theorem Am0 (h:Tx q)(h':Tx r):Fn0 prog 40 [.string (mkS (Af q)),.string (mkS (Af r))] u fun v _=>v=.int .i64 (sgn (q-r).num):=by
 refine Fn0.o func40 ?_;refine G.c call30 (Cp h) ?_;rintro v1 u1 l1 rfl;refine G.c call30 (Cp h') ?_;rintro v2 u2 l2 rfl;refine G.c call31 (Eh h) ?_;intro v3 u3 l3 k3;obtain⟨b3,a3,n3,c3,a3',n3',c3',rfl,_⟩:=k3.opn;refine G.c call31 (Eh h') ?_;intro v4 u4 l4 k4;obtain⟨b4,a4,n4,c4,a4',n4',c4',rfl,_⟩:=k4.opn;refine G.c call32 (Wu (k3.mono l4) k4 (h.sz.mono oV) (h'.sz.mono oV)) ?_;intro v5 u5 l5 k5;obtain⟨b5,a5,n5,c5,a5',n5',c5',rfl,_⟩:=k5.opn;refine G.c call94 (Yn k5 (A0q (An5 h.sz h'.sz).1 oV)) ?_;rintro v6 u6 l6 rfl;exact G.r _ ⟨rfl,rfl⟩
end
end Go.Proofs.YtanfagpabkdmiaaGreatDoor
section
namespace Go.Proofs
open Go.Shelf
def Tryz.lays169_ren:Go.Shelf.Ren:=⟨fun|169=>253|n=>n,fun|70=>303|9=>9|0=>0|72=>305|37=>251|127=>345|3=>3|5=>5|n=>n,fun|n=>n⟩
theorem Tryz.lays169:Go.Proofs.Lays.n169 Tryz.prog Tryz.lays169_ren:={
 mixed:=by kernel_rfl
 f169:=Tryz.func253.trans (congrArg some (by kernel_rfl))
 t0:=Tryz.underlying0
 a0:=Tryz.isAgg0
 z0:=Tryz.sizeOf0
 v0:=Tryz.zeroValue0
 t3:=Tryz.underlying3
 a3:=Tryz.isAgg3
 z3:=Tryz.sizeOf3
 v3:=Tryz.zeroValue3
 t9:=Tryz.underlying9
 a9:=Tryz.isAgg9
 z9:=Tryz.sizeOf9
 v9:=Tryz.zeroValue9
 t37:=Tryz.underlying251
 a37:=Tryz.isAgg251
 z37:=Tryz.sizeOf251
 v37:=Tryz.zeroValue251
 t70:=Tryz.underlying303
 a70:=Tryz.isAgg303
 z70:=Tryz.sizeOf303
 v70:=Tryz.zeroValue303
 t72:=Tryz.underlying305
 a72:=Tryz.isAgg305
 z72:=Tryz.sizeOf305
 v72:=Tryz.zeroValue305
 t127:=Tryz.underlying345
 a127:=Tryz.isAgg345
 z127:=Tryz.sizeOf345
 v127:=Tryz.zeroValue345 }
theorem Tryz.Builder_Extra_169:Builder.Extra Tryz.prog Tryz.lays169_ren:={
 sizeBuilder:=by kernel_rfl
 liesBuilder:=by kernel_rfl
 t5:=Tryz.underlying5
 a5:=Tryz.isAgg5
 z5:=Tryz.sizeOf5
 v5:=Tryz.zeroValue5
 infoByte:=by kernel_rfl
 cellsByte:=by kernel_rfl
 sizeByte:=by kernel_rfl
 neB5:=by decide }
open Go.RowKit in
theorem Tryz.Builder_String (B b:Nat)(l:List UInt8)(w:World)(h:Lib.IsBuilder 305 5 B b (Lib.byteCells l) w)(h0:l≠[]) :
 Calls Tryz.prog 253 #[.pointer (some ⟨b,0,none⟩)] w fun e w'=>e=.returned (.string ⟨l.toArray⟩)/\Below B w w':=Any.Builder_String Tryz.lays169 Tryz.Builder_Extra_169 B b l w h h0
def Tryz.lays210_ren:Go.Shelf.Ren:=⟨fun|210=>270|206=>312|n=>n,fun|9=>9|4=>4|3=>3|n=>n,fun|n=>n⟩
def Tryz.lays103_ren:Go.Shelf.Ren:=⟨fun|103=>226|210=>270|206=>312|n=>n,fun|9=>9|4=>4|24=>279|3=>3|n=>n,fun|n=>n⟩
theorem Tryz.lays103:Go.Proofs.Lays.n103 Tryz.prog Tryz.lays103_ren:={
 mixed:=by kernel_rfl
 f103:=Tryz.func226.trans (congrArg some (by kernel_rfl))
 f206:=Tryz.func312.trans (congrArg some (by kernel_rfl))
 f210:=Tryz.func270.trans (congrArg some (by kernel_rfl))
 t3:=Tryz.underlying3
 a3:=Tryz.isAgg3
 z3:=Tryz.sizeOf3
 v3:=Tryz.zeroValue3
 t4:=Tryz.underlying4
 a4:=Tryz.isAgg4
 z4:=Tryz.sizeOf4
 v4:=Tryz.zeroValue4
 t9:=Tryz.underlying9
 a9:=Tryz.isAgg9
 z9:=Tryz.sizeOf9
 v9:=Tryz.zeroValue9
 t24:=Tryz.underlying279
 a24:=Tryz.isAgg279
 z24:=Tryz.sizeOf279
 v24:=Tryz.zeroValue279 }
open Go.RowKit in
theorem Tryz.strings_CutPrefix (s p:ByteArray)(w:World) :
 Calls Tryz.prog 226 #[.string s,.string p] w fun e w'=>e=.returned (.tuple #[.string ⟨(Lib.trimPrefix s.data.toList p.data.toList).toArray⟩,.bool (Lib.hasPrefix s.data.toList p.data.toList)])/\w'=w:=Any.strings_CutPrefix Tryz.lays103 s p w
def Tryz.lays283_ren:Go.Shelf.Ren:=⟨fun|283=>294|n=>n,fun|3=>3|9=>9|4=>4|n=>n,fun|n=>n⟩
theorem Tryz.lays283:Go.Proofs.Lays.n283 Tryz.prog Tryz.lays283_ren:={
 mixed:=by kernel_rfl
 f283:=Tryz.func294.trans (congrArg some (by kernel_rfl))
 t3:=Tryz.underlying3
 a3:=Tryz.isAgg3
 z3:=Tryz.sizeOf3
 v3:=Tryz.zeroValue3
 t4:=Tryz.underlying4
 a4:=Tryz.isAgg4
 z4:=Tryz.sizeOf4
 v4:=Tryz.zeroValue4
 t9:=Tryz.underlying9
 a9:=Tryz.isAgg9
 z9:=Tryz.sizeOf9
 v9:=Tryz.zeroValue9 }
open Go.Lib in
theorem Tryz.internal_strconv_small (i:Nat)(h:i<100)(w:World) :
 Calls Tryz.prog 294 #[.int .i64 i] w fun e w'=>e=.returned (.string ⟨(Lib.decDigits i).toArray⟩)/\w'=w:=Any.internal_strconv_small Tryz.lays283 i h w
def Tryz.laysM284_ren:Go.Shelf.Ren:=⟨fun|284=>295|129=>286|317=>325|318=>326|n=>n,fun|53=>266|3=>3|212=>363|0=>0|4=>4|46=>296|5=>5|9=>9|n=>n,fun|17=>1|n=>n⟩
theorem Tryz.laysM284:Go.Proofs.LaysM.n284 Tryz.prog Tryz.laysM284_ren:={
 mixed:=by kernel_rfl
 f129:=Tryz.func286.trans (congrArg some (by kernel_rfl))
 f284:=Tryz.func295.trans (congrArg some (by kernel_rfl))
 f317:=Tryz.func325.trans (congrArg some (by kernel_rfl))
 f318:=Tryz.func326.trans (congrArg some (by kernel_rfl))
 t0:=Tryz.underlying0
 a0:=Tryz.isAgg0
 z0:=Tryz.sizeOf0
 v0:=Tryz.zeroValue0
 t3:=Tryz.underlying3
 a3:=Tryz.isAgg3
 z3:=Tryz.sizeOf3
 v3:=Tryz.zeroValue3
 t4:=Tryz.underlying4
 a4:=Tryz.isAgg4
 z4:=Tryz.sizeOf4
 v4:=Tryz.zeroValue4
 t5:=Tryz.underlying5
 a5:=Tryz.isAgg5
 z5:=Tryz.sizeOf5
 v5:=Tryz.zeroValue5
 t9:=Tryz.underlying9
 a9:=Tryz.isAgg9
 z9:=Tryz.sizeOf9
 v9:=Tryz.zeroValue9
 t46:=Tryz.underlying296
 a46:=Tryz.isAgg296
 z46:=Tryz.sizeOf296
 v46:=Tryz.zeroValue296
 t53:=Tryz.underlying266
 a53:=Tryz.isAgg266
 z53:=Tryz.sizeOf266
 v53:=Tryz.zeroValue266
 t212:=Tryz.underlying363
 a212:=Tryz.isAgg363
 z212:=Tryz.sizeOf363
 v212:=Tryz.zeroValue363
 g17:=by kernel_rfl
 i0:=by kernel_rfl
 i3:=by kernel_rfl
 i4:=by kernel_rfl
 i5:=by kernel_rfl
 i9:=by kernel_rfl
 i46:=by kernel_rfl
 i53:=by kernel_rfl
 i212:=by kernel_rfl
 m17:=by kernel_rfl }
open Go.Lib in
theorem Tryz.internal_strconv_numDigits (u:Nat)(h1:1<=u)(h2:u<18446744073709551616)(w:World)(htab:Lib.TabIs Tryz.prog w "internal/strconv.uint64pow10" .u64 Lib.pow10Tab) :
 Calls Tryz.prog 295 #[.int .u64 u] w fun e w'=>e=.returned (.int .i64 (Lib.nDigits u))/\w'=w:=Any.internal_strconv_numDigits Tryz.laysM284 u h1 h2 w htab
def Tryz.lays285_ren:Go.Shelf.Ren:=⟨fun|285=>296|n=>n,fun|37=>251|53=>266|3=>3|4=>4|51=>328|9=>9|5=>5|0=>0|n=>n,fun|n=>n⟩
theorem Tryz.lays285:Go.Proofs.Lays.n285 Tryz.prog Tryz.lays285_ren:={
 mixed:=by kernel_rfl
 f285:=Tryz.func296.trans (congrArg some (by kernel_rfl))
 t0:=Tryz.underlying0
 a0:=Tryz.isAgg0
 z0:=Tryz.sizeOf0
 v0:=Tryz.zeroValue0
 t3:=Tryz.underlying3
 a3:=Tryz.isAgg3
 z3:=Tryz.sizeOf3
 v3:=Tryz.zeroValue3
 t4:=Tryz.underlying4
 a4:=Tryz.isAgg4
 z4:=Tryz.sizeOf4
 v4:=Tryz.zeroValue4
 t5:=Tryz.underlying5
 a5:=Tryz.isAgg5
 z5:=Tryz.sizeOf5
 v5:=Tryz.zeroValue5
 t9:=Tryz.underlying9
 a9:=Tryz.isAgg9
 z9:=Tryz.sizeOf9
 v9:=Tryz.zeroValue9
 t37:=Tryz.underlying251
 a37:=Tryz.isAgg251
 z37:=Tryz.sizeOf251
 v37:=Tryz.zeroValue251
 t51:=Tryz.underlying328
 a51:=Tryz.isAgg328
 z51:=Tryz.sizeOf328
 v51:=Tryz.zeroValue328
 t53:=Tryz.underlying266
 a53:=Tryz.isAgg266
 z53:=Tryz.sizeOf266
 v53:=Tryz.zeroValue266 }
open Go.RowKit Go.Sort Go.Lib in
theorem Tryz.internal_strconv_formatBase10 (blk off cap:Nat)(u:Nat)(d:Array UInt8)(w:World)(hH:Holds (fun (b:UInt8)=>Value.int .u8 (b.toNat:Int)) w blk off d)(hu:u<10^d.size)(hu64:u<18446744073709551616)(hsz:d.size<4611686018427387904) :
 Calls Tryz.prog 296 #[.slice (some ⟨blk,off,none⟩) d.size cap,.int .u64 u] w fun e w' =>
  e=.returned (.tuple #[])/\∃ (n v':Nat) (dk:Array UInt8),w'=(putRow (fun (b:UInt8)=>Value.int .u8 (b.toNat:Int)) w blk off dk).drewN n/\FmtInv d.size u 0 v' dk:=Any.internal_strconv_formatBase10 Tryz.lays285 blk off cap u d w hH hu hu64 hsz
def Tryz.laysPu14_ren:Go.Shelf.Ren:=⟨fun|14=>227|16=>271|17=>272|19=>313|20=>314|21=>315|22=>316|23=>317|24=>318|25=>334|27=>336|26=>335|28=>341|29=>342|30=>294|31=>295|32=>296|33=>297|35=>286|34=>325|36=>326|37=>327|38=>328|39=>338|40=>339|n=>n,fun|9=>9|3=>3|22=>266|24=>282|25=>283|4=>4|34=>351|5=>5|36=>296|37=>251|0=>0|39=>353|21=>21|44=>371|47=>345|50=>379|48=>377|2=>2|52=>340|55=>342|59=>363|60=>328|20=>20|61=>364|65=>380|66=>381|67=>186|n=>n,fun|0=>2|1=>3|2=>1|3=>4|4=>5|n=>n⟩
theorem Tryz.laysPu14:Go.Proofs.LaysPu.n14 Tryz.prog Tryz.laysPu14_ren:={
 mixed:=by kernel_rfl
 f14:=Tryz.func227.trans (congrArg some (by kernel_rfl))
 f16:=Tryz.func271.trans (congrArg some (by kernel_rfl))
 f17:=Tryz.func272.trans (congrArg some (by kernel_rfl))
 f19:=Tryz.func313.trans (congrArg some (by kernel_rfl))
 f20:=Tryz.func314.trans (congrArg some (by kernel_rfl))
 f21:=Tryz.func315.trans (congrArg some (by kernel_rfl))
 f22:=Tryz.func316.trans (congrArg some (by kernel_rfl))
 f23:=Tryz.func317.trans (congrArg some (by kernel_rfl))
 f24:=Tryz.func318.trans (congrArg some (by kernel_rfl))
 f25:=Tryz.func334.trans (congrArg some (by kernel_rfl))
 f26:=Tryz.func335.trans (congrArg some (by kernel_rfl))
 f27:=Tryz.func336.trans (congrArg some (by kernel_rfl))
 f28:=Tryz.func341.trans (congrArg some (by kernel_rfl))
 f29:=Tryz.func342.trans (congrArg some (by kernel_rfl))
 f30:=Tryz.func294.trans (congrArg some (by kernel_rfl))
 f31:=Tryz.func295.trans (congrArg some (by kernel_rfl))
 f32:=Tryz.func296.trans (congrArg some (by kernel_rfl))
 f33:=Tryz.func297.trans (congrArg some (by kernel_rfl))
 f34:=Tryz.func325.trans (congrArg some (by kernel_rfl))
 f35:=Tryz.func286.trans (congrArg some (by kernel_rfl))
 f36:=Tryz.func326.trans (congrArg some (by kernel_rfl))
 f37:=Tryz.func327.trans (congrArg some (by kernel_rfl))
 f38:=Tryz.func328.trans (congrArg some (by kernel_rfl))
 f39:=Tryz.func338.trans (congrArg some (by kernel_rfl))
 f40:=Tryz.func339.trans (congrArg some (by kernel_rfl))
 t0:=Tryz.underlying0
 a0:=Tryz.isAgg0
 z0:=Tryz.sizeOf0
 v0:=Tryz.zeroValue0
 i0:=by kernel_rfl
 t2:=Tryz.underlying2
 a2:=Tryz.isAgg2
 z2:=Tryz.sizeOf2
 v2:=Tryz.zeroValue2
 i2:=by kernel_rfl
 t3:=Tryz.underlying3
 a3:=Tryz.isAgg3
 z3:=Tryz.sizeOf3
 v3:=Tryz.zeroValue3
 i3:=by kernel_rfl
 t4:=Tryz.underlying4
 a4:=Tryz.isAgg4
 z4:=Tryz.sizeOf4
 v4:=Tryz.zeroValue4
 i4:=by kernel_rfl
 t5:=Tryz.underlying5
 a5:=Tryz.isAgg5
 z5:=Tryz.sizeOf5
 v5:=Tryz.zeroValue5
 i5:=by kernel_rfl
 t9:=Tryz.underlying9
 a9:=Tryz.isAgg9
 z9:=Tryz.sizeOf9
 v9:=Tryz.zeroValue9
 i9:=by kernel_rfl
 t20:=Tryz.underlying20
 a20:=Tryz.isAgg20
 z20:=Tryz.sizeOf20
 v20:=Tryz.zeroValue20
 i20:=by kernel_rfl
 t21:=Tryz.underlying21
 a21:=Tryz.isAgg21
 z21:=Tryz.sizeOf21
 v21:=Tryz.zeroValue21
 i21:=by kernel_rfl
 t22:=Tryz.underlying266
 a22:=Tryz.isAgg266
 z22:=Tryz.sizeOf266
 v22:=Tryz.zeroValue266
 i22:=by kernel_rfl
 t24:=Tryz.underlying282
 a24:=Tryz.isAgg282
 z24:=Tryz.sizeOf282
 v24:=Tryz.zeroValue282
 i24:=by kernel_rfl
 t25:=Tryz.underlying283
 a25:=Tryz.isAgg283
 z25:=Tryz.sizeOf283
 v25:=Tryz.zeroValue283
 i25:=by kernel_rfl
 t34:=Tryz.underlying351
 a34:=Tryz.isAgg351
 z34:=Tryz.sizeOf351
 v34:=Tryz.zeroValue351
 i34:=by kernel_rfl
 c34:=by kernel_rfl
 t36:=Tryz.underlying296
 a36:=Tryz.isAgg296
 z36:=Tryz.sizeOf296
 v36:=Tryz.zeroValue296
 i36:=by kernel_rfl
 t37:=Tryz.underlying251
 a37:=Tryz.isAgg251
 z37:=Tryz.sizeOf251
 v37:=Tryz.zeroValue251
 i37:=by kernel_rfl
 t39:=Tryz.underlying353
 a39:=Tryz.isAgg353
 z39:=Tryz.sizeOf353
 v39:=Tryz.zeroValue353
 i39:=by kernel_rfl
 t44:=Tryz.underlying371
 a44:=Tryz.isAgg371
 z44:=Tryz.sizeOf371
 v44:=Tryz.zeroValue371
 i44:=by kernel_rfl
 t47:=Tryz.underlying345
 a47:=Tryz.isAgg345
 z47:=Tryz.sizeOf345
 v47:=Tryz.zeroValue345
 i47:=by kernel_rfl
 t48:=Tryz.underlying377
 a48:=Tryz.isAgg377
 z48:=Tryz.sizeOf377
 v48:=Tryz.zeroValue377
 i48:=by kernel_rfl
 t50:=Tryz.underlying379
 a50:=Tryz.isAgg379
 z50:=Tryz.sizeOf379
 v50:=Tryz.zeroValue379
 i50:=by kernel_rfl
 t52:=Tryz.underlying340
 a52:=Tryz.isAgg340
 z52:=Tryz.sizeOf340
 v52:=Tryz.zeroValue340
 i52:=by kernel_rfl
 t55:=Tryz.underlying342
 a55:=Tryz.isAgg342
 z55:=Tryz.sizeOf342
 v55:=Tryz.zeroValue342
 i55:=by kernel_rfl
 t59:=Tryz.underlying363
 a59:=Tryz.isAgg363
 z59:=Tryz.sizeOf363
 v59:=Tryz.zeroValue363
 i59:=by kernel_rfl
 t60:=Tryz.underlying328
 a60:=Tryz.isAgg328
 z60:=Tryz.sizeOf328
 v60:=Tryz.zeroValue328
 i60:=by kernel_rfl
 t61:=Tryz.underlying364
 a61:=Tryz.isAgg364
 z61:=Tryz.sizeOf364
 t65:=Tryz.underlying380
 a65:=Tryz.isAgg380
 z65:=Tryz.sizeOf380
 v65:=Tryz.zeroValue380
 i65:=by kernel_rfl
 t66:=Tryz.underlying381
 a66:=Tryz.isAgg381
 z66:=Tryz.sizeOf381
 v66:=Tryz.zeroValue381
 i66:=by kernel_rfl
 t67:=Tryz.underlying186
 a67:=Tryz.isAgg186
 z67:=Tryz.sizeOf186
 v67:=Tryz.zeroValue186
 i67:=by kernel_rfl
 g0:=by kernel_rfl
 m0:=by kernel_rfl
 g1:=by kernel_rfl
 m1:=by kernel_rfl
 g2:=by kernel_rfl
 m2:=by kernel_rfl
 g3:=by kernel_rfl
 m3:=by kernel_rfl
 g4:=by kernel_rfl
 m4:=by kernel_rfl }
open Go.RowKit in
theorem Tryz.strconv_ParseUint_10_at64_ok (s:ByteArray)(hmax:s.size<=9223372036854775806)(u:Nat)(h:Lib.parseUintB 64 s.data.toList=.ok u)(w:World) :
 Calls Tryz.prog 227 #[.string s,.int .i64 10,.int .i64 64] w fun e w'=>e=.returned (.tuple #[.int .u64 u,.nilIface])/\(w'=w\/w'=Lib.bytesWorld w 5 s):=Any.strconv_ParseUint_10_at64_ok Tryz.laysPu14 s hmax u h w
def Tryz.lays219_ren:Go.Shelf.Ren:=⟨fun|219=>269|217=>308|225=>309|224=>310|267=>311|266=>332|314=>333|n=>n,fun|9=>9|3=>3|4=>4|5=>5|46=>296|146=>331|51=>328|n=>n,fun|1=>0|n=>n⟩
theorem Tryz.lays219:Go.Proofs.Lays.n219 Tryz.prog Tryz.lays219_ren:={
 mixed:=by kernel_rfl
 f217:=Tryz.func308.trans (congrArg some (by kernel_rfl))
 f219:=Tryz.func269.trans (congrArg some (by kernel_rfl))
 f224:=Tryz.func310.trans (congrArg some (by kernel_rfl))
 f225:=Tryz.func309.trans (congrArg some (by kernel_rfl))
 f266:=Tryz.func332.trans (congrArg some (by kernel_rfl))
 f267:=Tryz.func311.trans (congrArg some (by kernel_rfl))
 f314:=Tryz.func333.trans (congrArg some (by kernel_rfl))
 t3:=Tryz.underlying3
 a3:=Tryz.isAgg3
 z3:=Tryz.sizeOf3
 v3:=Tryz.zeroValue3
 t4:=Tryz.underlying4
 a4:=Tryz.isAgg4
 z4:=Tryz.sizeOf4
 v4:=Tryz.zeroValue4
 t5:=Tryz.underlying5
 a5:=Tryz.isAgg5
 z5:=Tryz.sizeOf5
 v5:=Tryz.zeroValue5
 t9:=Tryz.underlying9
 a9:=Tryz.isAgg9
 z9:=Tryz.sizeOf9
 v9:=Tryz.zeroValue9
 t46:=Tryz.underlying296
 a46:=Tryz.isAgg296
 z46:=Tryz.sizeOf296
 v46:=Tryz.zeroValue296
 t51:=Tryz.underlying328
 a51:=Tryz.isAgg328
 z51:=Tryz.sizeOf328
 v51:=Tryz.zeroValue328
 t146:=Tryz.underlying331
 a146:=Tryz.isAgg331
 z146:=Tryz.sizeOf331
 v146:=Tryz.zeroValue331
 g1:=by kernel_rfl }
open Go.RowKit Go.Lib in
theorem Tryz.stringslite_Index_one (s:ByteArray)(c:UInt8)(w:World) :
 Calls Tryz.prog 269 #[.string s,.string ⟨#[c]⟩] w fun e w'=>e=.returned (.int .i64 (Lib.indexByte s.data.toList c))/\w'=w:=Any.stringslite_Index_one Tryz.lays219 s c w
def Tryz.lays101_ren:Go.Shelf.Ren:=⟨fun|101=>265|208=>307|206=>312|n=>n,fun|9=>9|4=>4|3=>3|n=>n,fun|n=>n⟩
theorem Tryz.lays101:Go.Proofs.Lays.n101 Tryz.prog Tryz.lays101_ren:={
 mixed:=by kernel_rfl
 f101:=Tryz.func265.trans (congrArg some (by kernel_rfl))
 f206:=Tryz.func312.trans (congrArg some (by kernel_rfl))
 f208:=Tryz.func307.trans (congrArg some (by kernel_rfl))
 t3:=Tryz.underlying3
 a3:=Tryz.isAgg3
 z3:=Tryz.sizeOf3
 v3:=Tryz.zeroValue3
 t4:=Tryz.underlying4
 a4:=Tryz.isAgg4
 z4:=Tryz.sizeOf4
 v4:=Tryz.zeroValue4
 t9:=Tryz.underlying9
 a9:=Tryz.isAgg9
 z9:=Tryz.sizeOf9
 v9:=Tryz.zeroValue9 }
open Go.RowKit Go.Lib in
theorem Tryz.strings_TrimPrefix (s p:ByteArray)(w:World) :
 Calls Tryz.prog 265 #[.string s,.string p] w fun e w'=>e=.returned (.string ⟨(Lib.trimPrefix s.data.toList p.data.toList).toArray⟩)/\w'=w:=Any.strings_TrimPrefix Tryz.lays101 s p w
def Tryz.lays212_ren:Go.Shelf.Ren:=⟨fun|212=>247|263=>289|264=>290|n=>n,fun|46=>296|51=>328|146=>331|53=>266|148=>333|n=>n,fun|n=>n⟩
theorem Tryz.lays212:Go.Proofs.Lays.n212 Tryz.prog Tryz.lays212_ren:={
 mixed:=by kernel_rfl
 f212:=Tryz.func247.trans (congrArg some (by kernel_rfl))
 f263:=Tryz.func289.trans (congrArg some (by kernel_rfl))
 f264:=Tryz.func290.trans (congrArg some (by kernel_rfl))
 t46:=Tryz.underlying296
 a46:=Tryz.isAgg296
 z46:=Tryz.sizeOf296
 v46:=Tryz.zeroValue296
 t51:=Tryz.underlying328
 a51:=Tryz.isAgg328
 z51:=Tryz.sizeOf328
 v51:=Tryz.zeroValue328
 t53:=Tryz.underlying266
 a53:=Tryz.isAgg266
 z53:=Tryz.sizeOf266
 v53:=Tryz.zeroValue266
 t146:=Tryz.underlying331
 a146:=Tryz.isAgg331
 z146:=Tryz.sizeOf331
 v146:=Tryz.zeroValue331
 t148:=Tryz.underlying333
 a148:=Tryz.isAgg333
 z148:=Tryz.sizeOf333
 v148:=Tryz.zeroValue333 }
open Go.RowKit Go.Lib in
theorem Tryz.bits_Mul (x y:Nat)(hx:x<18446744073709551616)(hy:y<18446744073709551616)(w:World) :
 Calls Tryz.prog 247 #[.int .u64 x,.int .u64 y] w fun e w'=>e=.returned (.tuple #[.int .u64 ((x*y/18446744073709551616:Nat):Int),.int .u64 ((x*y%18446744073709551616:Nat):Int)])/\w'=w:=Any.bits_Mul Tryz.lays212 x y hx hy w
def Tryz.lays105_ren:Go.Shelf.Ren:=⟨fun|105=>252|212=>247|99=>299|165=>300|166=>251|170=>301|169=>253|263=>289|264=>290|206=>312|240=>298|241=>330|276=>329|277=>340|n=>n,fun|9=>9|3=>3|4=>4|20=>20|0=>0|46=>296|109=>299|5=>5|72=>305|76=>306|51=>328|146=>331|53=>266|148=>333|70=>303|37=>251|75=>282|127=>345|164=>365|80=>186|n=>n,fun|n=>n⟩
theorem Tryz.lays105:Go.Proofs.Lays.n105 Tryz.prog Tryz.lays105_ren:={
 mixed:=by kernel_rfl
 f99:=Tryz.func299.trans (congrArg some (by kernel_rfl))
 f105:=Tryz.func252.trans (congrArg some (by kernel_rfl))
 f165:=Tryz.func300.trans (congrArg some (by kernel_rfl))
 f166:=Tryz.func251.trans (congrArg some (by kernel_rfl))
 f169:=Tryz.func253.trans (congrArg some (by kernel_rfl))
 f170:=Tryz.func301.trans (congrArg some (by kernel_rfl))
 f206:=Tryz.func312.trans (congrArg some (by kernel_rfl))
 f212:=Tryz.func247.trans (congrArg some (by kernel_rfl))
 f240:=Tryz.func298.trans (congrArg some (by kernel_rfl))
 f241:=Tryz.func330.trans (congrArg some (by kernel_rfl))
 f263:=Tryz.func289.trans (congrArg some (by kernel_rfl))
 f264:=Tryz.func290.trans (congrArg some (by kernel_rfl))
 f276:=Tryz.func329.trans (congrArg some (by kernel_rfl))
 f277:=Tryz.func340.trans (congrArg some (by kernel_rfl))
 t0:=Tryz.underlying0
 a0:=Tryz.isAgg0
 z0:=Tryz.sizeOf0
 v0:=Tryz.zeroValue0
 t3:=Tryz.underlying3
 a3:=Tryz.isAgg3
 z3:=Tryz.sizeOf3
 v3:=Tryz.zeroValue3
 t4:=Tryz.underlying4
 a4:=Tryz.isAgg4
 z4:=Tryz.sizeOf4
 v4:=Tryz.zeroValue4
 t5:=Tryz.underlying5
 a5:=Tryz.isAgg5
 z5:=Tryz.sizeOf5
 v5:=Tryz.zeroValue5
 t9:=Tryz.underlying9
 a9:=Tryz.isAgg9
 z9:=Tryz.sizeOf9
 v9:=Tryz.zeroValue9
 t20:=Tryz.underlying20
 a20:=Tryz.isAgg20
 z20:=Tryz.sizeOf20
 v20:=Tryz.zeroValue20
 t37:=Tryz.underlying251
 a37:=Tryz.isAgg251
 z37:=Tryz.sizeOf251
 v37:=Tryz.zeroValue251
 t46:=Tryz.underlying296
 a46:=Tryz.isAgg296
 z46:=Tryz.sizeOf296
 v46:=Tryz.zeroValue296
 t51:=Tryz.underlying328
 a51:=Tryz.isAgg328
 z51:=Tryz.sizeOf328
 v51:=Tryz.zeroValue328
 t53:=Tryz.underlying266
 a53:=Tryz.isAgg266
 z53:=Tryz.sizeOf266
 v53:=Tryz.zeroValue266
 t70:=Tryz.underlying303
 a70:=Tryz.isAgg303
 z70:=Tryz.sizeOf303
 v70:=Tryz.zeroValue303
 t72:=Tryz.underlying305
 a72:=Tryz.isAgg305
 z72:=Tryz.sizeOf305
 v72:=Tryz.zeroValue305
 t75:=Tryz.underlying282
 a75:=Tryz.isAgg282
 z75:=Tryz.sizeOf282
 v75:=Tryz.zeroValue282
 t76:=Tryz.underlying306
 a76:=Tryz.isAgg306
 z76:=Tryz.sizeOf306
 v76:=Tryz.zeroValue306
 t109:=Tryz.underlying299
 a109:=Tryz.isAgg299
 z109:=Tryz.sizeOf299
 v109:=Tryz.zeroValue299
 t127:=Tryz.underlying345
 a127:=Tryz.isAgg345
 z127:=Tryz.sizeOf345
 v127:=Tryz.zeroValue345
 t146:=Tryz.underlying331
 a146:=Tryz.isAgg331
 z146:=Tryz.sizeOf331
 v146:=Tryz.zeroValue331
 t148:=Tryz.underlying333
 a148:=Tryz.isAgg333
 z148:=Tryz.sizeOf333
 v148:=Tryz.zeroValue333
 t164:=Tryz.underlying365
 a164:=Tryz.isAgg365
 z164:=Tryz.sizeOf365
 v164:=Tryz.zeroValue365 }
theorem Tryz.Builder_Extra_105:Builder.Extra Tryz.prog Tryz.lays105_ren:={
 sizeBuilder:=by kernel_rfl
 liesBuilder:=by kernel_rfl
 t5:=Tryz.underlying5
 a5:=Tryz.isAgg5
 z5:=Tryz.sizeOf5
 v5:=Tryz.zeroValue5
 infoByte:=by kernel_rfl
 cellsByte:=by kernel_rfl
 sizeByte:=by kernel_rfl
 neB5:=by decide }
open Go.RowKit Go.Lib in
theorem Tryz.strings_Repeat (s:ByteArray)(c:Nat)(w:World)(hc:c<=9223372036854775807)(hlen:s.size*c<=140737488355328) :
 Calls Tryz.prog 252 #[.string s,.int .i64 c] w fun e w'=>e=.returned (.string ⟨(Lib.repeatL s.data.toList c).toArray⟩)/\Below w.heap.size w w':=Any.strings_Repeat Tryz.lays105 Tryz.Builder_Extra_105 s c w hc hlen
end Go.Proofs
end
namespace Go.Proofs.YtanfagpabkdmiaaGreatDoor
open Go.Proofs.Tryz
open Go.RowKit
open _root_.Array renaming getElem?_eq_none -> A3l, size_replicate -> A6m
open Below renaming block -> A7k, cell -> A69, mono -> A5g, refl -> A75, trans -> A3s
open Instr renaming sliceAt -> A5r
open Lib renaming BuilderAt -> Bca, IsBuilder -> Bb9, TabIs -> Bap, add_plain -> Bcb, cell_of_heap -> A7u, decDigits -> A20, decDigits_length -> A34, decDigits_one -> A7g, hid -> A0r, indexByte -> A58, itoa -> A1a, lt_pow_nDigits -> Bao, nDigits -> A1v, nDigits_small -> A5a, pow10Tab -> A89, size_mk -> A5j, strCells -> Bck, zeros24 -> A8l
open List renaming append_assoc -> A1j, append_nil -> A1i, drop_drop -> A7a, eq_nil_of_length_eq_zero -> A13, ext_getElem? -> A4g, getD_eq_getElem?_getD -> A0o, getElem?_append_left -> A1d, getElem?_append_right -> A1s, getElem?_eq_getElem -> A0n, getElem?_eq_none -> A1g, getElem?_map -> A0v, getElem?_reverse -> A9u, getElem?_set -> A25, getElem_mem -> A04, isPrefixOf -> Bbt, length -> A35, length_append -> A0z, length_cons -> A2n, length_drop -> A5e, length_replicate -> A3e, length_set -> A3u, length_singleton -> A2o, length_take -> A00, mem_map -> A0u, replicate -> A0x, reverse_append -> A8f, take_add_one -> A1c, take_length -> A1k, take_of_length_le -> A03, take_zero -> A3y
open Nat renaming add_assoc -> A28, div_div_eq_div_mul -> A4w, div_eq_of_lt -> A4a, div_le_self -> A3v, div_lt_iff_lt_mul -> A2w, div_one -> Bbc, eq_zero_or_pos -> A1p, le_refl -> A0w, le_trans -> A0q, lt_of_le_of_lt -> A2q, lt_of_lt_of_le -> A2e, lt_or_ge -> A11, mod_eq_of_lt -> A5d, mod_lt -> A2s, mul_assoc -> A1x, mul_comm -> A10, pow_add -> A5f, pow_le_pow_right -> A1l, pow_lt_pow_iff_right -> A65, pow_pos -> A7o, pow_succ -> A16, pow_zero -> A85, strongRecOn -> A6t
open Option renaming map_eq_some_iff -> A4x
open Rat renaming divInt -> A2m
open Result renaming andThen -> A6j
open UInt8 renaming ofNat -> A6q, toNat_inj -> A8a
open Value renaming agg -> A8q, bool -> A6a, cells -> A1e, int -> A15, pointer -> A7q, slice -> A06, slice.injEq -> A09
open World renaming cell?_alloc_new -> A6h
section
open Go.Shelf Go.RowKit
theorem Aad:(prog.info? 305).map (·.size)=some 2:=kV
theorem Ahv:liesAt prog prog.depth 305 (2/prog.cellsOf 305) 0 305 1=true:=kV
theorem Afz:(prog.info? 5).map (fun i=>(i.zero,i.size,i.bytes))=some (some (.int .u8 0),1,1):=kV
set_option maxRecDepth 100000 in
theorem Sh (b:Nat)(w:World)(h0:w.cell? ⟨b,0,none⟩=some (.pointer (some ⟨b,0,none⟩))) :
 Calls prog 298 #[.pointer (some ⟨b,0,none⟩)] w fun e w'=>e=.returned (.tuple #[])/\w'=w:=by
 obtain⟨j,hj,_⟩:=A4x.1 Aad
 go_enter func298,ntmps298
 go_wp2
 rw[Lib.run_neq_ptr_same w _ Tryz.underlying303 hj]
 go_wp2
 go_end0
 exact⟨rfl,rfl⟩
set_option maxRecDepth 100000 in
theorem Qq (b:Nat)(w:World)(h0:w.cell? ⟨b,0,none⟩=some (.pointer none))(hsh:w.shape? b=some (305,2))(hfz:w.frozen? ⟨b,0,none⟩=false) :
 Calls prog 298 #[.pointer (some ⟨b,0,none⟩)] w fun e w'=>e=.returned (.tuple #[])/\w'=w.setCell ⟨b,0,none⟩ (.pointer (some ⟨b,0,none⟩)):=by
 obtain⟨j,hj,hjs⟩:=A4x.1 Aad
 go_enter func298,ntmps298
 go_wp2
 rw[Lib.run_to_unsafe w ⟨b,0,none⟩ Tryz.underlying303 Tryz.underlying365 hj (by rw[hjs];decide) hsh (Nat.zero_lt_succ 1)];simp only[A6j];rw[Oper.upon_value]
 go_wp2
 rw[run_callFunc_extern func329 kV kV kV (e:=Extern.AbiNoEscape.same) kV];rw[Lib.run_noEscape];simp only[A6j];rw[Oper.upon_value]
 go_wp2
 rw[Lib.run_from_unsafe w ⟨b,0,none⟩ Tryz.underlying365 Tryz.underlying303 hj hsh Ahv];simp only[A6j];rw[Oper.upon_value]
 go_wp2
 go_end0
 exact⟨rfl,rfl⟩
theorem Ud (B b:Nat)(bs:List Value)(w:World)(h:Bb9 305 5 B b bs w) :
 Calls prog 298 #[.pointer (some ⟨b,0,none⟩)] w fun e w'=>e=.returned (.tuple #[])/\(Bca 305 5 B b (.pointer (some ⟨b,0,none⟩)) bs w'/\Below B w w'):=by
 rcases h with h|h
 ·refine (Qq b w h.cell0 h.shape h.frozen0).mono ?_;rintro e w' ⟨rfl,rfl⟩;exact⟨rfl,h.used _,(A75 B w).setCell (p:=⟨b,0,none⟩) h.1 _⟩
 ·refine (Sh b w h.cell0).mono ?_;rintro e w' ⟨rfl,rfl⟩;exact⟨rfl,h,A75 B _⟩
set_option maxRecDepth 100000 in
theorem Ch (B b:Nat)(bs:List Value)(s:ByteArray)(w:World)(h:Bb9 305 5 B b bs w)(hlen:bs.length+s.size<=140737488355328)(hBw:B<=w.heap.size) :
 Calls prog 251 #[.pointer (some ⟨b,0,none⟩),.string s] w fun e w'=>e=.returned (.tuple #[.int .i64 s.size,.nilIface])/\(Bca 305 5 B b (.pointer (some ⟨b,0,none⟩)) (bs++Bck s) w'/\Below B w w'):=by
 obtain⟨i0,hi,hz0,hz1,hz2⟩:=info_parts Afz
 go_enter func251,ntmps251
 go_wp2_with fail
 refine (Ud B b bs _ h).mono ?_;rintro e w1 ⟨rfl,h1,hb1⟩;obtain⟨hB,v,hbk,hown,hne⟩:=h1;have c0:w1.cell? ⟨b,0,none⟩=some (.pointer (some ⟨b,0,none⟩)):=by rw[A7u hbk];rfl
 have c1:w1.cell? ⟨b,1,none⟩=some v:=by rw[A7u hbk];rfl
 go_wp2_with (at_builtin;refine Lib.wpList_append_own_string _ rfl _ _ 251 9 rfl B 5 i0 Tryz.underlying251 Tryz.underlying9 hi hz0 hz1 hz2 _ _ _ rfl hown s rfl ?c3 ?c4 ?c5 ?_)
 case c3=>unfold maxLen;omega
 case c4=>omega
 case c5=>have:=hb1.size;omega
 intro v' w2 hown' hgrow _;have hlt:b<w1.heap.size:=by
  rcases A11 b w1.heap.size with h'|h'
  ·exact h'
  ·simp[A3l h']at hbk
 have hb2:w2.heap[b]?=some (.cells #[.pointer (some ⟨b,0,none⟩),v] 305 (0,0)):=by
  rw[hgrow.block b hlt (fun e=>hne e.symm)];exact hbk
 have d0:w2.cell? ⟨b,0,none⟩=some (.pointer (some ⟨b,0,none⟩)):=by rw[A7u hb2];rfl
 have d1:w2.cell? ⟨b,1,none⟩=some v:=by rw[A7u hb2];rfl
 have f1:w2.frozen? ⟨b,1,none⟩=false:=Lib.frozen_of_heap hb2 1;obtain⟨ao,n',cap,rfl⟩:∃ ao n' cap,v'=.slice ao n' cap:=by
  rcases hown'.2 with ⟨hv,_⟩|⟨g,cap,cur,hv,_⟩
  ·exact⟨_,_,_,hv⟩
  ·exact⟨_,_,_,hv⟩
 go_wp2
 go_ret2
 refine⟨rfl,?_,?_⟩
 ·exact Lib.BuilderAt.put (T:=305) (e:=5) hB hb2 (bs':=bs++Bck s) (by simpa[Lib.strCells_length] using hown') fV
 ·exact (hb1.grown hgrow (by have:=hb1.size;omega) (fun k hk=>(hown.lt k hk).1)).setCell (p:=⟨b,1,none⟩) hB _
end
section
open Go.Shelf Go.RowKit Go.Sort Go.Lib
set_option maxRecDepth 100000 in
theorem R5 (u:Nat)(hu64:u<18446744073709551616)(w:World)(htab:Bap prog w "internal/strconv.uint64pow10" .u64 A89) :
 Calls prog 250 #[.int .u64 u,.int .i64 10] w fun e w'=>e=.returned (.string ⟨(A20 u).toArray⟩)/\Below w.heap.size w w':=by
 by_cases hs:u<100
 ·go_enter func250,ntmps250
  go_wp2_with fail
  refine (Tryz.internal_strconv_small u hs _).mono ?_;rintro e w' ⟨rfl,rfl⟩
  go_wp2_with fail
  go_ret
  exact⟨rfl,A75 _ _⟩
 ·have hu1:1<=u:=oV
  have hnd20:A1v u<=20:=by have:=Lib.numDigits_eq u hu1 hu64;split at this<;>omega
  have hal:prog.arrayLen 340=24:=kV
  have hsl1:∀ W,(A5r 340 (.pointer (some ⟨w.heap.size,0,none⟩)) none (some (.int .i64 (A1v u:Int))) none).run prog W=.ok (.slice (some ⟨w.heap.size,0,none⟩) (A1v u) 24) W:=fun W=>by
   rw[run_sliceAt_array_h W 340 ⟨w.heap.size,0,none⟩ kV .i64 (A1v u:Int) oV (by rw[hal];omega)]
   go_simp
  have hH0:=Lib.holds_zero0 w 340 (A1v u) oV;have hfmt:=Tryz.internal_strconv_formatBase10 w.heap.size 0 24 u (Array.replicate (A1v u) 0) (w.alloc (.cells A8l 340)) hH0 (by rw[A6m];exact Bao u) hu64 (by rw[A6m];omega);rw[A6m]at hfmt;have HH0:=A0r hH0;clear hH0 hal
  go_enter func250,ntmps250
  go_wp2_with fail
  refine (Tryz.internal_strconv_numDigits u hu1 hu64 _ (Lib.tabIs_alloc htab _)).mono ?_;rintro e w' ⟨rfl,rfl⟩
  go_wp2_with fail
  refine hfmt.mono ?_;rintro e w' ⟨rfl,k,v',dk,rfl,hF⟩;have hcv:(convert 251 9 (.slice (some ⟨w.heap.size,0,none⟩) (A1v u) 24)).run prog ((putRow (fun (b:UInt8)=>A15 .u8 (b.toNat:Int)) (w.alloc (.cells A8l 340)) w.heap.size 0 dk).drewN k)=.ok (.string ⟨(A20 u).toArray⟩) ((putRow (fun (b:UInt8)=>A15 .u8 (b.toNat:Int)) (w.alloc (.cells A8l 340)) w.heap.size 0 dk).drewN k):=by
   have h:=run_convert_bytes_back (P:=prog) ((putRow (fun (b:UInt8)=>A15 .u8 (b.toNat:Int)) (w.alloc (.cells A8l 340)) w.heap.size 0 dk).drewN k) 251 9 5 ⟨w.heap.size,0,none⟩ 24 (A20 u) Tryz.underlying251 Tryz.underlying5 Tryz.underlying9 (fun j hj=>by
    rw[Lib.row_is_numeral hF j hj,Bcb,World.cell?_drewN];exact cell?_putRow (fun (b:UInt8)=>A15 .u8 (b.toNat:Int)) _ w.heap.size 0 _ dk HH0.out (by rw[hF.size,A6m]) j (by rw[hF.size];rw[A34]at hj;exact hj))
   rw[A34]at h;exact h
  go_wp2_with fail
  go_ret
  refine⟨rfl,?_⟩;obtain⟨os,eo⟩:=Lib.fin_at w (.cells A8l 340) dk k 0;rw[eo];exact Lib.below_grow _ w (A0w _) k os
end
section
open Go.Shelf Go.RowKit Go.Sort Go.Lib
variable {B b d k n:Nat}{T e:TypeId}{bs:List Value}{neg:Bool}{w w':World}
theorem L5 {P:Program}{name:String}{k:IntKind}{zs:List Int}(h:TabIs P w name k zs)(x:Ext w w'):TabIs P w' name k zs:=by
 unfold TabIs World.var? at *
 cases hg:P.globalNamed name with
 |none=>simp[hg]at h
 |some g =>
  simp only[hg,Option.bind_some]at h⊢;have hlt:g<w.heap.size:=by
   rcases A11 g w.heap.size with h'|h'
   ·exact h'
   ·simp[A3l h']at h
  rw[A7k x g hlt];exact h
theorem Qn {size:Nat}{v:Value}{xs:List Value}(h:w.ownsRow B e size v n xs)(x:Ext w w'):w'.ownsRow B e size v n xs:=by
 obtain⟨hl,h0|⟨g,cap,cur,hv,hb,hh,r⟩⟩:=h
 ·exact⟨hl,.inl h0⟩
 ·exact⟨hl,.inr ⟨g,cap,cur,hv,hb,by rw[A7k x g (Bw hh)];exact hh,r⟩⟩
theorem Mk {p:Value}(h:BuilderAt T e B b p bs w)(x:Ext w w'):BuilderAt T e B b p bs w':=by
 obtain⟨hB,v,hb,ho,hne⟩:=h;exact⟨hB,v,by rw[A7k x b (Bw hb)];exact hb,Qn ho x,hne⟩
theorem Du (h:IsBuilder T e B b bs w)(x:Ext w w'):IsBuilder T e B b bs w' :=
 h.elim (fun h=>.inl (Mk h x)) (fun h=>.inr (Mk h x))
theorem Aik (n j k:Nat):ld n (j+k)=ld n j++ld (n/10^j) k:=by
 induction k with
 |zero=>simp[ld]
 |succ k ih =>
  rw[<-A28,Q2,Q2,ih,A1j]
  congr 3
  unfold dg;rw[A4w,<-A5f]
theorem Ao9 (d:Nat)(h:∀ j,j<k->n/10^j%10=d/10^j%10):ld n k=ld d k:=by
 unfold ld;refine List.map_congr_left fun j hj=>?_;unfold dg;rw[h j (List.mem_range.1 hj)]
theorem Fr (k:Nat):repeatL [48] k=A0x k 48:=by
 induction k with
 |zero=>rfl
 |succ k ih=>rw[repeatL,ih];rfl
theorem Im (hd:d<1000000000):nDigits d<=9:=by
 rcases A1p d with h|h
 ·subst h;rw[nDigits_small oV];omega
 ·have h1:=Fo (n:=d) oV;have h2:10^(nDigits d-1)<10^9:=A2q h1 oV;have h3:=(A65 (by omega:1<10)).1 h2;omega
theorem Ap8 (hd:d<1000000000):(ld d 9).reverse=repeatL [48] (9-nDigits d)++decDigits d:=by
 have h9:=Im hd;have e:9=nDigits d+(9-nDigits d):=oV
 rw[show ld d 9=ld d (nDigits d+(9-nDigits d)) by rw[<-e],Aik,A8f,Wv]
 congr 1
 have h0:d/10^nDigits d=0:=A4a (lt_pow_nDigits d);rw[h0,Fr];have:∀ k,ld 0 k=A0x k 48:=by
  intro k;induction k with
  |zero=>rfl
  |succ k ih=>rw[Q2,ih,List.replicate_succ'];congr 1;simp[dg]
 rw[this,List.reverse_replicate]
theorem Ahg {x d:Nat}(hx:x≠0)(hd:d<1000000000):decDigits (x*1000000000+d)=decDigits x++(repeatL [48] (9-nDigits d)++decDigits d):=by
 have hdiv:(x*1000000000+d)/10^9=x:=oV
 have hN:nDigits (x*1000000000+d)=9+nDigits x:=by
  rw[Ml (j:=9) oV,hdiv]
 rw[<-Wv,hN,Aik,hdiv,A8f,Wv,<-Ap8 hd]
 congr 2
 refine Ao9 d fun j hj=>?_;have e:(1000000000:Nat)=10^j*10^(9-j):=by rw[<-A5f,show j+(9-j)=9 by omega]
 rw[e,A10 x,A1x,Nat.mul_add_div (A7o oV),show 9-j=(8-j)+1 by omega,A16];rw[Nat.mul_right_comm,A10 _ 10,Nat.mul_add_mod]
def mid (n k:Nat):List UInt8:=if k=(Aa n).length then [] else decDigits (n/1000000000^k)
theorem Adm (n:Nat):mid n (Aa n).length = []:=by simp[mid]
theorem Wp (h:k≠(Aa n).length):mid n k=decDigits (n/1000000000^k):=by simp[mid,h]
def Ck (neg:Bool)(n k:Nat):List UInt8:=(if neg then [45] else [])++mid n k
theorem St (neg:Bool)(n:Nat):Ck neg n (Aa n).length=if neg then [45] else []:=by rw[Ck,Adm,A1i]
theorem Jo (z:Int)(h:z≠0):Ck (decide (z<0)) z.natAbs 0=itoa z:=by
 have hl:(Aa z.natAbs).length≠0:=fun h0=>h (by have:=Fh.1 (A13 h0);omega);rw[Ck,Wp (fun h0=>hl h0.symm),C4,Bh,A85,Bbc];split<;>rfl
theorem S1 (n k:Nat):n/1000000000^k=n/1000000000^(k+1)*1000000000+(Aa n).getD k 0:=by
 rw[Mt,A16,<-A4w];omega
theorem Tl (hk:k+1=(Aa n).length):Ck neg n k=Ck neg n (k+1)++decDigits ((Aa n).getD k 0):=by
 have h0:n/1000000000^(k+1)=0:=A4a (by rw[hk];exact Cd n);rw[Ck,Ck,Wp oV,hk,Adm,A1i,S1,h0];simp
theorem Rv (hk:k+1<(Aa n).length):Ck neg n k=Ck neg n (k+1)++(repeatL [48] (9-nDigits ((Aa n).getD k 0))++decDigits ((Aa n).getD k 0)):=by
 have hn:n≠0:=by rintro rfl;rw[Bd]at hk;simp at hk
 have hx:n/1000000000^(k+1)≠0:=by
  have h1:=O0 hn;have h2:1000000000^(k+1)<=1000000000^(nl n-1):=A1l oV (by have:nl n=(Aa n).length:=rfl;omega);have h3:=Nat.div_pos (A0q h2 h1) (A7o oV);omega
 rw[Ck,Ck,Wp oV,Wp oV,A1j]
 congr 1
 rw[S1 n k,Ahg hx ((Am n).getD k)]
theorem Qf (neg:Bool)(n k:Nat):(Ck neg n k).length<=1+9*(Aa n).length+1:=by
 have h1:nDigits (n/1000000000^k)<=9*(Aa n).length+1:=by
  rcases A1p (n/1000000000^k) with h|h
  ·rw[h,nDigits_small oV];omega
  ·have h2:=Fo (n:=n/1000000000^k) oV;have h3:10^(nDigits (n/1000000000^k)-1)<10^(9*(Aa n).length):=A2q h2 (A2q (A3v _ _) (N2 n));have h4:=(A65 (by omega:1<10)).1 h3;omega
 unfold Ck mid;split<;>split<;>simp[decDigits_length]<;>omega
end
section
open Go.Shelf Go.RowKit Go.Sort Go.Lib
set_option maxRecDepth 100000 in
theorem Do (u:Nat)(hu64:u<18446744073709551616)(w:World)(htab:Bap prog w "internal/strconv.uint64pow10" .u64 A89) :
 Calls prog 199 #[.int .u64 u,.int .i64 10] w fun e w'=>e=.returned (.string ⟨(A20 u).toArray⟩)/\Ext w w':=by
 go_enter func199,ntmps199
 go_wp2_with fail
 refine (R5 u hu64 _ htab).mono ?_;rintro e w' ⟨rfl,hx⟩
 go_wp2_with fail
 go_ret
 exact⟨rfl,hx⟩
def Ajy (W0:World)(B:Nat)(neg:Bool)(n:Nat)(i:Value)(wr:World):Prop :=
 ∃ k:Nat,k<=(Aa n).length/\i=.int .i64 ((k:Int)-1)/\IsBuilder 305 5 B B (byteCells (Ck neg n k)) wr/\Below B W0 wr
theorem Cq (l l':List UInt8):byteCells l++byteCells l'=byteCells (l++l'):=by simp[byteCells]
set_option maxRecDepth 100000 in
theorem T7 (v:Value)(z:Int)(w:World)(hv:Abu w v z)(hs:nl z.natAbs<=100000000000)(htab:Bap prog w "internal/strconv.uint64pow10" .u64 A89) :
 Calls prog 200 #[v] w fun e w'=>e=.returned (.string ⟨(A1a z).toArray⟩)/\Ext w w':=by
 obtain⟨a,n,c,rfl,hn⟩:=hv;obtain⟨a',c',e,hcap,hrow⟩:=hn;simp only[A09]at e;obtain⟨rfl,rfl,rfl⟩:=e;have hlen:(Aa z.natAbs).length<=100000000000:=hs;by_cases hz:z=0
 ·subst hz;rw[show (Aa (0:Int).natAbs).length=0 by rw[show (0:Int).natAbs=0 from rfl,Bd];rfl];clear hrow hcap hlen
  go_enter func200,ntmps200
  go_wp2_with fail
  go_ret
  exact⟨by rw[Dt];rfl,Ext.alloc (Ext.refl w) _⟩
 ·have hp:0<(Aa z.natAbs).length:=Ce.2 oV;obtain⟨L,hL⟩:∃ L,L=(Aa z.natAbs).length:=⟨_,rfl⟩;rw[<-hL]at hp hlen⊢;have HL:=A0r hL;have HROW:=A0r hrow;have HTAB:=A0r htab;clear hL hrow htab hcap;obtain⟨neg,hneg⟩:∃ neg,neg=decide (z<0):=⟨_,rfl⟩;rw[<-hneg];have HNEG:=A0r hneg;clear hneg;obtain⟨w1,hw1⟩:∃ w1,w1=w.alloc (Obj.cells #[A6a neg,A06 a L c] 114):=⟨_,rfl⟩;have hs1:w1.heap.size=w.heap.size+1:=by rw[hw1];exact Br _ _
  have HX1:RowKit.Hid (Ext w w1):=A0r (by rw[hw1];exact Ext.alloc (Ext.refl w) _);have HB0:=A0r (Lib.fresh_isBuilder 305 5 w1);have HW1:=A0r hw1;have HS1:=A0r hs1;clear hw1 hs1;cases neg
  ·go_enter func200,ntmps200
   go_wp2_with fail
   rw[<-HW1.out,<-HS1.out,show ((L:Int)==0)=false by rw[beq_eq_false_iff_ne];omega]
   go_loopw [4] (Ajy (w1.alloc (Obj.cells #[A7q none,A06 none 0 0] 305)) w1.heap.size false z.natAbs) (fun i _=>(RowKit.intOf i+1).toNat)
   case atStart=>exact⟨(Aa z.natAbs).length,A0w _,by rw[<-HL.out],by rw[St];exact HB0.out,A75 _ _⟩
   case round =>
    obtain⟨k,hk,rfl,hbd,hbel⟩:=hrel;have hsz0:=hbel.size;rw[Br]at hsz0;have HXW:RowKit.Hid (Ext w wr):=A0r (Ext.trans HX1.out (A3s (Ext.alloc (Ext.refl w1) (Obj.cells #[A7q none,A06 none 0 0] 305)) hbel));rcases k with _|k
    ·have hne:Ck false z.natAbs 0≠[]:=by rw[HNEG.out,Jo z hz,C4,Bh];split;simp;exact Hy _
     have HBD:=A0r hbd;clear hbd
     go_wp2_with fail
     refine (Tryz.Builder_String w1.heap.size w1.heap.size (Ck false z.natAbs 0) wr HBD.out hne).mono ?_;rintro e w2 ⟨rfl,hb2⟩
     go_wp2_with fail
     go_ret
     refine⟨?_,A3s HXW.out ?_⟩
     ·rw[HNEG.out,Jo z hz];rfl
     ·exact A5g hb2 (by have:=HS1.out;omega)
    ·have hsz1:w.heap.size<w1.heap.size:=by rw[HS1.out];omega
     have hc1:wr.cell? ⟨w.heap.size,1,none⟩=some (.slice a L c):=by
      rw[A69 hbel hsz1,A69 (Ext.alloc (Ext.refl w1) _) hsz1,HW1.out,A6h];rfl
     obtain⟨ba,offa,rfl,hca⟩:=HROW.out.at (j:=k) oV;have hcb:=HXW.out.cell hca;clear hca;have hlow:(Aa z.natAbs).getD k 0<1000000000:=(Am _).getD k;obtain⟨x,hx⟩:∃ x,x=(Aa z.natAbs).getD k 0:=⟨_,rfl⟩;rw[<-hx]at hcb hlow;have XX:=A0r hx;have HBD:=A0r hbd;have HBEL:=A0r hbel;have HK:=A0r hk;clear hx hbd hbel hk hsz1;rw[show ((k+1:Nat):Int)-1=k by omega];have hkL:k<L:=by have:=HK.out;have:=HL.out;omega
     have hsw:(Ck false z.natAbs (k+1)).length<=1+9*L+1:=by have:=Qf false z.natAbs (k+1);rw[<-HL.out]at this;exact this
     have hd9:=Im hlow;have hdl:=decDigits_length x;have HSW:=A0r hsw;have HDL:=A0r hdl;have HD9:=A0r hd9;clear hsw hdl hd9;by_cases htop:k+1=L
     ·have hkt:¬ ((k:Int)<(L:Int)-1):=oV
      have HTOP:=A0r htop;clear htop
      go_wp2_with fail
      refine (Do x oV _ (L5 HTAB.out HXW.out)).mono ?_;rintro e w2 ⟨rfl,hx2⟩;have HX2:=A0r hx2;clear hx2;have hc2:=HX2.out.cell hc1;clear hc1 hcb
      go_wp2_with fail
      refine (Ch w1.heap.size w1.heap.size (byteCells (Ck false z.natAbs (k+1))) ⟨(decDigits x).toArray⟩ w2 (Du HBD.out HX2.out) (by rw[byteCells_length,A5j,HDL.out];have:=HSW.out;have:=HD9.out;omega) (by have:=HX2.out.size;omega)).mono ?_;rintro e w3 ⟨rfl,hb3,hbel3⟩;have htx:=Tl (neg:=false) (n:=z.natAbs) (k:=k) (by rw[<-HL.out];exact HTOP.out);rw[<-XX.out]at htx;rw[strCells_toArray,Cq,<-htx]at hb3
      go_wp2_with fail
      refine⟨⟨k,by rw[<-HL.out];omega,by go_num,.inr hb3,A3s HBEL.out (A3s (A5g HX2.out oV) hbel3)⟩,by simp only[RowKit.intOf];omega⟩
     ·have hkt:(k:Int)<(L:Int)-1:=oV
      have HTOP:=A0r htop;clear htop
      go_wp2_with fail
      refine (Do x oV _ (L5 HTAB.out HXW.out)).mono ?_;rintro e w2 ⟨rfl,hx2⟩;have HX2:=A0r hx2;clear hx2;have hc2:=HX2.out.cell hc1;clear hc1 hcb;have hsl:(⟨(decDigits x).toArray⟩:ByteArray).size=nDigits x:=by rw[A5j];exact HDL.out
      go_wp2_with fail
      rw[show wrap64 (9-(nDigits x:Int))=((9-nDigits x:Nat):Int) by have:=HD9.out;unfold wrap64;omega];have hrep:=Tryz.strings_Repeat ⟨#[48]⟩ (9-nDigits x) w2 oV (by have:=HD9.out;simp[ByteArray.size];omega);refine hrep.mono ?_;rintro e w4 ⟨rfl,hx4⟩;have HX4:RowKit.Hid (Ext w2 w4):=A0r hx4;clear hx4 hrep
      go_wp2_with fail
      refine (Ch w1.heap.size w1.heap.size (byteCells (Ck false z.natAbs (k+1))) ⟨(repeatL [48] (9-nDigits x)).toArray⟩ w4 (Du (Du HBD.out HX2.out) HX4.out) (by rw[byteCells_length,A5j,Fr,A3e];have:=HSW.out;omega) (by have:=HX2.out.size;have:=HX4.out.size;omega)).mono ?_;rintro e w5 ⟨rfl,hb5,hbel5⟩;rw[strCells_toArray,Cq]at hb5
      go_wp2_with fail
      refine (Ch w1.heap.size w1.heap.size _ ⟨(decDigits x).toArray⟩ w5 (.inr hb5) (by rw[byteCells_length,A5j,HDL.out,A0z,Fr,A3e];have:=HSW.out;have:=HD9.out;omega) (by have:=HX2.out.size;have:=HX4.out.size;have:=hbel5.size;omega)).mono ?_;rintro e w3 ⟨rfl,hb3,hbel3⟩;have htx:=Rv (neg:=false) (n:=z.natAbs) (k:=k) (by rw[<-HL.out];have:=HTOP.out;omega);rw[<-XX.out]at htx;rw[strCells_toArray,Cq,A1j,<-htx]at hb3;have h6:=HX2.out.size
      go_wp2_with fail
      refine⟨⟨k,by rw[<-HL.out];omega,by go_num,.inr hb3,A3s HBEL.out (A3s (A5g HX2.out oV) (A3s (A5g HX4.out oV) (A3s hbel5 hbel3)))⟩,by simp only[RowKit.intOf];omega⟩
  ·go_enter func200,ntmps200
   go_wp2_with fail
   rw[<-HW1.out,<-HS1.out,show ((L:Int)==0)=false by rw[beq_eq_false_iff_ne];omega];refine (Ch w1.heap.size w1.heap.size [] ⟨#[45]⟩ _ HB0.out (by simp[ByteArray.size]) (by rw[Br];omega)).mono ?_;rintro e w4 ⟨rfl,hb4,hbel4⟩;have HB4:RowKit.Hid (BuilderAt 305 5 w1.heap.size w1.heap.size (.pointer (some ⟨w1.heap.size,0,none⟩)) (byteCells [45]) w4):=A0r hb4;have HBEL4:=A0r hbel4;have hs4:=hbel4.size;rw[Br]at hs4;have hc0:w4.cell? ⟨w.heap.size,1,none⟩=some (.slice a L c):=by
    have hsz1:w.heap.size<w1.heap.size:=by rw[HS1.out];omega
    rw[A69 hbel4 hsz1,A69 (Ext.alloc (Ext.refl w1) _) hsz1,HW1.out,A6h];rfl
   clear hb4 hbel4
   go_wp2_with fail
   go_loopw [4] (Ajy (w1.alloc (Obj.cells #[A7q none,A06 none 0 0] 305)) w1.heap.size true z.natAbs) (fun i _=>(RowKit.intOf i+1).toNat)
   case atStart=>exact⟨(Aa z.natAbs).length,A0w _,by rw[<-HL.out],by rw[St];exact .inr HB4.out,HBEL4.out⟩
   case round =>
    obtain⟨k,hk,rfl,hbd,hbel⟩:=hrel;have hsz0:=hbel.size;rw[Br]at hsz0;have HXW:RowKit.Hid (Ext w wr):=A0r (Ext.trans HX1.out (A3s (Ext.alloc (Ext.refl w1) (Obj.cells #[A7q none,A06 none 0 0] 305)) hbel));rcases k with _|k
    ·have hne:Ck true z.natAbs 0≠[]:=by rw[HNEG.out,Jo z hz,C4,Bh];split;simp;exact Hy _
     have HBD:=A0r hbd;clear hbd
     go_wp2_with fail
     refine (Tryz.Builder_String w1.heap.size w1.heap.size (Ck true z.natAbs 0) wr HBD.out hne).mono ?_;rintro e w2 ⟨rfl,hb2⟩
     go_wp2_with fail
     go_ret
     refine⟨?_,A3s HXW.out ?_⟩
     ·rw[HNEG.out,Jo z hz];rfl
     ·exact A5g hb2 (by have:=HS1.out;omega)
    ·have hsz1:w.heap.size<w1.heap.size:=by rw[HS1.out];omega
     have hc1:wr.cell? ⟨w.heap.size,1,none⟩=some (.slice a L c):=by
      rw[A69 hbel hsz1,A69 (Ext.alloc (Ext.refl w1) _) hsz1,HW1.out,A6h];rfl
     obtain⟨ba,offa,rfl,hca⟩:=HROW.out.at (j:=k) oV;have hcb:=HXW.out.cell hca;clear hca;have hlow:(Aa z.natAbs).getD k 0<1000000000:=(Am _).getD k;obtain⟨x,hx⟩:∃ x,x=(Aa z.natAbs).getD k 0:=⟨_,rfl⟩;rw[<-hx]at hcb hlow;have XX:=A0r hx;have HBD:=A0r hbd;have HBEL:=A0r hbel;have HK:=A0r hk;clear hx hbd hbel hk hsz1;rw[show ((k+1:Nat):Int)-1=k by omega];have hkL:k<L:=by have:=HK.out;have:=HL.out;omega
     have hsw:(Ck true z.natAbs (k+1)).length<=1+9*L+1:=by have:=Qf true z.natAbs (k+1);rw[<-HL.out]at this;exact this
     have hd9:=Im hlow;have hdl:=decDigits_length x;have HSW:=A0r hsw;have HDL:=A0r hdl;have HD9:=A0r hd9;clear hsw hdl hd9;by_cases htop:k+1=L
     ·have hkt:¬ ((k:Int)<(L:Int)-1):=oV
      have HTOP:=A0r htop;clear htop
      go_wp2_with fail
      refine (Do x oV _ (L5 HTAB.out HXW.out)).mono ?_;rintro e w2 ⟨rfl,hx2⟩;have HX2:=A0r hx2;clear hx2;have hc2:=HX2.out.cell hc1;clear hc1 hcb
      go_wp2_with fail
      refine (Ch w1.heap.size w1.heap.size (byteCells (Ck true z.natAbs (k+1))) ⟨(decDigits x).toArray⟩ w2 (Du HBD.out HX2.out) (by rw[byteCells_length,A5j,HDL.out];have:=HSW.out;have:=HD9.out;omega) (by have:=HX2.out.size;omega)).mono ?_;rintro e w3 ⟨rfl,hb3,hbel3⟩;have htx:=Tl (neg:=true) (n:=z.natAbs) (k:=k) (by rw[<-HL.out];exact HTOP.out);rw[<-XX.out]at htx;rw[strCells_toArray,Cq,<-htx]at hb3
      go_wp2_with fail
      refine⟨⟨k,by rw[<-HL.out];omega,by go_num,.inr hb3,A3s HBEL.out (A3s (A5g HX2.out oV) hbel3)⟩,by simp only[RowKit.intOf];omega⟩
     ·have hkt:(k:Int)<(L:Int)-1:=oV
      have HTOP:=A0r htop;clear htop
      go_wp2_with fail
      refine (Do x oV _ (L5 HTAB.out HXW.out)).mono ?_;rintro e w2 ⟨rfl,hx2⟩;have HX2:=A0r hx2;clear hx2;have hc2:=HX2.out.cell hc1;clear hc1 hcb;have hsl:(⟨(decDigits x).toArray⟩:ByteArray).size=nDigits x:=by rw[A5j];exact HDL.out
      go_wp2_with fail
      rw[show wrap64 (9-(nDigits x:Int))=((9-nDigits x:Nat):Int) by have:=HD9.out;unfold wrap64;omega];have hrep:=Tryz.strings_Repeat ⟨#[48]⟩ (9-nDigits x) w2 oV (by have:=HD9.out;simp[ByteArray.size];omega);refine hrep.mono ?_;rintro e w4 ⟨rfl,hx4⟩;have HX4:RowKit.Hid (Ext w2 w4):=A0r hx4;clear hx4 hrep
      go_wp2_with fail
      refine (Ch w1.heap.size w1.heap.size (byteCells (Ck true z.natAbs (k+1))) ⟨(repeatL [48] (9-nDigits x)).toArray⟩ w4 (Du (Du HBD.out HX2.out) HX4.out) (by rw[byteCells_length,A5j,Fr,A3e];have:=HSW.out;omega) (by have:=HX2.out.size;have:=HX4.out.size;omega)).mono ?_;rintro e w5 ⟨rfl,hb5,hbel5⟩;rw[strCells_toArray,Cq]at hb5
      go_wp2_with fail
      refine (Ch w1.heap.size w1.heap.size _ ⟨(decDigits x).toArray⟩ w5 (.inr hb5) (by rw[byteCells_length,A5j,HDL.out,A0z,Fr,A3e];have:=HSW.out;have:=HD9.out;omega) (by have:=HX2.out.size;have:=HX4.out.size;have:=hbel5.size;omega)).mono ?_;rintro e w3 ⟨rfl,hb3,hbel3⟩;have htx:=Rv (neg:=true) (n:=z.natAbs) (k:=k) (by rw[<-HL.out];have:=HTOP.out;omega);rw[<-XX.out]at htx;rw[strCells_toArray,Cq,A1j,<-htx]at hb3;have h6:=HX2.out.size
      go_wp2_with fail
      refine⟨⟨k,by rw[<-HL.out];omega,by go_num,.inr hb3,A3s HBEL.out (A3s (A5g HX2.out oV) (A3s (A5g HX4.out oV) (A3s hbel5 hbel3)))⟩,by simp only[RowKit.intOf];omega⟩
end
section
open Go.Shelf Go.RowKit Go.Sort Go.Lib
variable {l:List UInt8}
theorem Afl (hd:Gk l):∀ (acc:Nat),rdA acc l<1000000000000000000->parseUintM 18446744073709551615 acc l=.ok (rdA acc l):=by
 induction l with
 |nil=>intro acc _;rfl
 |cons b l ih =>
  intro acc h;have hb:=hd b mV;have e1:rdA acc (b::l)=rdA (10*acc+(b.toNat-48)) l:=rfl;rw[e1]at h⊢;have h2:10*acc+(b.toNat-48)<=rdA (10*acc+(b.toNat-48)) l:=by
   rw[Acy];have:1<=10^l.length:=Nat.one_le_pow _ _ oV;have:=Nat.mul_le_mul_left (10*acc+(b.toNat-48)) this;omega
  have ih':=ih (fun x hx=>hd x (by simp[hx])) (10*acc+(b.toNat-48)) h;rw[parseUintM,if_pos hb,if_neg oV];rw[show 10*acc+(b.toNat-48)=acc*10+(b.toNat-48) by omega]at ih' h h2⊢
  first
   |(rw[if_neg oV];exact ih')
   |(simp only[];rw[if_neg oV];exact ih')
theorem Ae9 (hd:Gk l)(hl:l≠[])(h9:l.length<=9):parseUintB 64 l=.ok (rd l):=by
 rw[parseUintB,if_neg hl];refine Afl hd 0 ?_;have h1:=Vz hd;have h2:10^l.length<=10^9:=A1l oV h9;have h3:rdA 0 l=rd l:=rfl;omega
theorem Io {neg:Bool}(hd:Gk l)(hl:l≠[]):trimPrefix (Bh neg l) [45]=l/\hasPrefix (Bh neg l) [45]=neg:=by
 cases neg
 ·cases l with
  |nil=>exact absurd rfl hl
  |cons b l =>
   have hb:=hd b mV;have:¬ (45:UInt8)=b:=by rintro rfl;simp at hb
   simp[Bh,trimPrefix,hasPrefix,Bbt,this]
 ·simp[Bh,trimPrefix,hasPrefix,Bbt]
theorem Yp {w:World}{B:Nat}{e:TypeId}{a:Option Addr}{n c:Nat}{xs:List Value}(h:w.ownsRow B e 1 (.slice a n c) n xs)(hn:xs.length=n):Row w a xs:=by
 intro j hj;rcases h.2 with ⟨h1,h2⟩|⟨g,cap,cur,h1,h2⟩
 ·omega
 ·simp only[A09]at h1;obtain⟨rfl,_,rfl⟩:=h1;refine⟨g,0,rfl,?_⟩;have:=h.cells (g:=g) rfl j (xs.getD j (.bool false)) (by rw[A0o,A0n hj];rfl);rw[Bcb]at this;exact this
theorem Rb (w:World)(e:TypeId)(s:ByteArray):Ext w (bytesWorld w e s):=bytesWorld_below w e s
def Amr (W0:World)(B:Nat)(l:List UInt8)(v i:Value)(wr:World):Prop :=
 ∃ (e:Int) (ys:List Nat),e<=l.length/\i=.int .i64 e/\-9<e/\ys.length+e.toNat<=l.length/\O9 (rd l) (l.take e.toNat) ys/\wr.ownsRow B 266 1 v ys.length (E2 ys)/\Below B W0 wr
theorem Ahh:(prog.info? 266).map (fun i=>(i.zero,i.size,i.bytes))=some (some (.int .u64 0),1,8):=kV
set_option maxRecDepth 100000 in
theorem Yt (neg:Bool)(l:List UInt8)(w:World)(hd:Gk l)(hl:l≠[])(hlen:l.length<=1000000000) :
 Calls prog 163 #[.string ⟨(Bh neg l).toArray⟩] w (Ah9 w (Bp neg (rd l))):=by
 obtain⟨i0,hi,hz0,hz1,hz2⟩:=info_parts Ahh;obtain⟨ht1,ht2⟩:=Io (neg:=neg) hd hl;have HD:=A0r hd;have HL:=A0r hl;clear hd hl;obtain⟨w1,hw1⟩:∃ w1,w1=w.alloc (Obj.cells #[A6a false,A06 none 0 0] 114):=⟨_,rfl⟩;have hs1:w1.heap.size=w.heap.size+1:=by rw[hw1];exact Br _ _
 have HW1:=A0r hw1;have HS1:=A0r hs1;clear hw1 hs1
 go_enter func163,ntmps163
 go_wp2_with fail
 rw[<-HW1.out];refine (Tryz.strings_CutPrefix ⟨(Bh neg l).toArray⟩ ⟨#[45]⟩ w1).mono ?_;rintro e w2 ⟨rfl,rfl⟩;rw[show trimPrefix (⟨(Bh neg l).toArray⟩:ByteArray).data.toList (⟨#[45]⟩:ByteArray).data.toList=l from ht1,show hasPrefix (⟨(Bh neg l).toArray⟩:ByteArray).data.toList (⟨#[45]⟩:ByteArray).data.toList=neg from ht2];clear ht1 ht2
 go_wp2_with fail
 go_loopw [5,6] (Amr w2 w2.heap.size l) (fun _ i _=>(RowKit.intOf i+9).toNat)
 case atStart=>exact⟨l.length,[],oV,mV,oV,mV,⟨Low.nil,by simpa using HD.out,by simp[val]⟩,⟨rfl,.inl ⟨rfl,rfl⟩⟩,A75 _ _⟩
 case round =>
  obtain⟨e,ys,he,rfl,he9,hle,hst,hown,hbel⟩:=hrel;obtain⟨a,n,c,rfl⟩:∃ a n c,u5=.slice a n c:=by
   rcases hown.2 with ⟨h1,h2⟩|⟨g,cap,cur,h1,h2⟩
   ·exact⟨_,_,_,h1⟩
   ·exact⟨_,_,_,h1⟩
  have HST:=A0r hst;have HOWN:=A0r hown;have HBEL:=A0r hbel;have hsz:=hbel.size;clear hst hown hbel;by_cases h0:0<e
  ·obtain⟨E,rfl⟩:∃ E:Nat,e=E:=⟨e.toNat,oV⟩;have hEl:E<=l.length:=oV
   have hE0:0<E:=oV
   have hmx:max (0:Int) ((E:Int)-9)=((E-9:Nat):Int):=oV
   have hsl:∀ W,(A5r 9 (.string ⟨l.toArray⟩) (some (.int .i64 ((E-9:Nat):Int))) (some (.int .i64 (E:Int))) none).run prog W=.ok (.string ⟨((l.take E).drop (E-9)).toArray⟩) W:=by
    intro W;have h1:(0:Int)<=((E-9:Nat):Int)/\((E-9:Nat):Int)<=(E:Int):=oV
    have h2:(0:Int)<=(E:Int)/\(E:Int)<=(⟨l.toArray⟩:ByteArray).size:=by rw[A5j];omega
    have h3:(⟨l.toArray⟩:ByteArray).extract (E-9) E=⟨((l.take E).drop (E-9)).toArray⟩:=by
     rw[Lib.extract_mk,List.drop_take]
    simp only[A5r,Sem.run_bind,run_underlying Tryz.underlying9,Result.andThen_ok,Instr.slice,Instr.sliceBounds,Instr.sliceBound,asIntOf,Sem.run_pure,if_true,Option.isSome,Sem.run_ite,h1,h2,and_self,Int.toNat_natCast];simp[h3]
   have hdd:Gk ((l.take E).drop (E-9)):=(HD.out.take E).drop (E-9);have hl9:((l.take E).drop (E-9)).length<=9:=gV
   have hne:(l.take E).drop (E-9)≠[]:=by intro h;have:=congrArg A35 h;simp at this;omega
   have hrd:=Vz hdd;have hr9:rd ((l.take E).drop (E-9))<1000000000:=A2e hrd (by rw[show (1000000000:Nat)=10^9 from rfl];exact A1l oV hl9);have hstep:=HST.out.step;rw[show (l.take ((E:Int)).toNat)=l.take E from rfl,A00,Nat.min_eq_left hEl]at hstep;have hpu:=Tryz.strconv_ParseUint_10_at64_ok ⟨((l.take E).drop (E-9)).toArray⟩ (by rw[A5j];omega) (rd ((l.take E).drop (E-9))) (Ae9 hdd hne hl9) wr;have HPU:=A0r hpu;have HSTEP:=A0r hstep;clear hpu hstep hrd hdd hne hl9
   go_wp2_with fail
   obtain⟨d,hdef⟩:∃ d,d=rd ((l.take E).drop (E-9)):=⟨_,rfl⟩;rw[<-hdef]at hr9;have HDEF:=A0r hdef;clear hdef;refine HPU.out.mono ?_;rintro e w3 ⟨rfl,hw3⟩;rw[<-HDEF.out];have HX3:RowKit.Hid (Ext wr w3):=A0r (by
    rcases hw3 with rfl|rfl
    ·exact Ext.refl _
    ·exact Rb _ _ _)
   clear hw3;have hsz3:=HX3.out.size
   go_wp2_with (at_builtin;refine wpList_append_own _ rfl _ _ 112 rfl w2.heap.size 266 i0 (.int .u64 0) 1 8 Tryz.underlying112 hi hz0 hz1 hz2 rfl fV _ _ _ rfl ((Qn HOWN.out HX3.out).alloc _) ⟨w3.heap.size,0,none⟩ 1 1 [.int .u64 (d:Int)] rfl rfl ?c1 ?c2 ?c3 ?c4 ?c5 ?_)
   case c1 =>
    intro j u hj
    match j,hj with
    |0,hj=>simp at hj;subst hj;simp[Addr.add]
   case c2=>intro u hu;simp at hu;subst hu;rfl
   case c3=>unfold maxLen;omega
   case c4=>omega
   case c5=>simp;omega
   intro v' w4 hown' hgrow _
   go_wp2_with fail
   refine⟨⟨(E:Int)-9,ys++[d],oV,by go_num,oV,gV,?_,by simpa[E2] using hown',?_⟩,by simp only[RowKit.intOf];omega⟩
   ·rw[HDEF.out,show (l.take ((E:Int)-9).toNat)=(l.take E).take (E-9) by rw[List.take_take];congr 1;omega];exact HSTEP.out
   ·have h5:Below w2.heap.size wr w3:=A5g HX3.out oV;exact (((HBEL.out.trans h5).alloc oV _).grown hgrow gV (fun k hk=>(HOWN.out.lt k hk).1))
  ·have hln:=HOWN.out.1;have hval:val ys=rd l:=by
    have:=HST.out.sum;rw[show e.toNat=0 by omega]at this;simpa[rd,rdA] using this.symm
   obtain⟨rfl,hcap⟩:n=ys.length/\ys.length<=c:=by
    rcases HOWN.out.2 with ⟨h1,h2⟩|⟨g,cap,cur,h1,h2,h3,h4,_⟩
    ·simp at h1;omega
    ·simp at h1;obtain⟨_,rfl,rfl⟩:=h1;exact⟨rfl,h4⟩
   have hrow:=Yp HOWN.out mV;have HROW:=A0r hrow;have HVAL:=A0r hval;clear hrow hval hln
   go_wp2_with fail
   refine (Fk a c ys.length ys wr rfl oV hcap HROW.out).mono ?_;rintro e w' ⟨rfl,hww⟩;subst hww
   go_wp2_with fail
   refine (Acb neg _ (rd l) wr (C3 HST.out.low HROW.out HVAL.out hcap) (A0q (A4 (k:=l.length) (A2e (Vz HD.out) (by rw[Aat];exact A1l oV oV))) oV)).mono ?_;rintro e w5 ⟨v5,rfl,⟨a5,n5,c5,rfl,hs5⟩,hx5⟩;have HX5:=A0r hx5;have HS5:=A0r hs5;have hlt:w.heap.size<w2.heap.size:=by rw[HS1.out];omega
   have BB:RowKit.Hid (w5.heap[w.heap.size]?=some (.cells #[.bool false,.slice none 0 0] 114 (0,0))):=A0r (by
    rw[A7k HX5.out _ oV,HBEL.out.block _ hlt,HW1.out,Ca])
   have d0:=Amc BB.out;have d1:=Als BB.out;have f0:=frozen_of_row _ _ 0 _ _ BB.out;have f1:=frozen_of_row _ _ 1 _ _ BB.out;clear hs5 hx5
   go_wp2_with fail
   have HXX:Ext w w5:=by
    refine Ext.trans (b:=w2) (by rw[HW1.out];exact Ext.alloc (Ext.refl w) _) ?_;exact A3s HBEL.out (A5g HX5.out oV)
   refine Alg rfl rfl (Ai4 BB.out) rfl ⟨_,rfl,?_,Apx HXX (A0w _) _ _⟩;have hs:=HS5.out.grown (Ak8 BB.out) (An0 _ _ (.bool (decide (Bp neg (rd l)<0))) (.slice a5 n5 c5));exact Amq rfl hs
end
section
variable {q:Rat}{z:Int}
def Lb (u:PH):Prop:=∀ w,Eb u w->Bap prog w "internal/strconv.uint64pow10" .u64 A89
theorem Lb.mono {u u':PH}(h:Lb u)(hl:PH.le u u'):Lb u':=fun w hp=>h w (fun g o hg=>hp g o (hl g o hg))
section
variable {u:PH} {x:Value}
theorem Yo {k:Nat}(ht:Lb u)(hk:k<18446744073709551616):Fn0 prog 199 [.int .u64 (k:Int),.int .i64 10] u fun v _=>v=.string (mkS (A20 k)) :=
 Fn0.ofW (fun v _=>v=.string (mkS (A20 k))) (fun w hp=>(Do k hk w (ht w hp)).mono fun _ _ ⟨e,h⟩=>⟨_,e,rfl,h⟩) (fun _ _ _ h _ _ _=>h)
theorem Hn (h:A1v z.natAbs<=400):Fn0 prog 163 [.string (mkS (A1a z))] u fun v u'=>Cb u' v z:=by
 refine Fn0.ofW (fun v w=>Abu w v z) (fun w _=>?_) (fun _ _ _ h _ c _=>Cb.ofW h c);have:=Yt (decide (z<0)) (A20 z.natAbs) w (Mc _) (Hy _) (by rw[A34];omega);rw[Uy,<-C4]at this;exact this
theorem My (ht:Lb u)(h:Cb u x z)(hs:nl z.natAbs<=100000000000):Fn0 prog 200 [x] u fun v _=>v=.string (mkS (A1a z)) :=
 Fn0.ofW (fun v _=>v=.string (mkS (A1a z))) (fun w hp=>(T7 x z w (h.toW hp) hs (ht w hp)).mono fun _ _ ⟨e,h⟩=>⟨_,e,rfl,h⟩) (fun _ _ _ h _ _ _=>h)
end
theorem Cm.at {u:PH}{a:Option Addr}{n c k j:Nat}(h:Cm u (.slice a n c) k)(hj:j<(Aa k).length):∃ b off,a=some ⟨b,off,none⟩/\ElP u b (off+j*1) (.int .u64 ((Aa k).getD j 0:Nat)):=by
 obtain⟨a',c',h1,h2,h3⟩:=h;simp only[A09]at h1;obtain⟨rfl,_,rfl⟩:=h1;obtain⟨b,off,e1,e2⟩:=h3 j (by simpa using hj);refine⟨b,off,e1,fun i y hi=>?_⟩;have hx:(E2 (Aa k)).getD j (.bool false)=.int .u64 ((Aa k).getD j 0:Nat):=by simp[E2,hj]
 rw[hx]at e2;have:i=0/\y=.int .u64 ((Aa k).getD j 0:Nat):=by
  match i,hi with
  |0,hi=>simp[A1e]at hi;simp[hi]
 obtain⟨rfl,rfl⟩:=this;simpa using e2
theorem S7 {u:PH}{x:Value}(ht:Lb u)(h:Cb u x z)(hs:nl z.natAbs<=100000000000):Fn0 prog 122 [x] u fun v _=>v=.int .i64 (A1v z.natAbs:Nat):=by
 obtain⟨a,n,c,rfl,hn⟩:=h;obtain rfl:n=(Aa z.natAbs).length:=by obtain⟨_,_,h1,_⟩:=id hn;simp at h1;exact h1.2.1
 generalize decide (z<0)=b;have hs':(Aa z.natAbs).length<=100000000000:=hs;refine Fn0.o func122 ?_;by_cases h0:z.natAbs=0
 ·refine G.eT' ((Aa z.natAbs).length:Int) 0 (by rw[h0,Bd];rfl) ?_;exact G.r (.int .i64 1) ⟨rfl,by rw[h0,A5a oV];rfl⟩
 ·have hp:0<(Aa z.natAbs).length:=Ce.2 oV;have htop:=Qe h0;have hlow:=(Am z.natAbs).getD ((Aa z.natAbs).length-1);obtain⟨bb,off,rfl,he⟩:=hn.at (j:=(Aa z.natAbs).length-1) oV;have h9:=Im hlow;have hdl:=A34 ((Aa z.natAbs).getD ((Aa z.natAbs).length-1) 0);have hsz:(mkS (A20 ((Aa z.natAbs).getD ((Aa z.natAbs).length-1) 0))).size=(A20 ((Aa z.natAbs).getD ((Aa z.natAbs).length-1) 0)).length:=Go.Lib.size_mk _;refine G.eF ((Aa z.natAbs).length:Int) 0 ?_;refine G.s ((Aa z.natAbs).length:Int) 1 (((Aa z.natAbs).length-1:Nat):Int) ?_;refine G.mul 9 (((Aa z.natAbs).length-1:Nat):Int) ((9*((Aa z.natAbs).length-1):Nat):Int) kV oV oV oV ?_;refine G.a bb off (Aa z.natAbs).length c ((Aa z.natAbs).length-1) 1 oV ?_;refine G.lU none bb (off+((Aa z.natAbs).length-1)*1) (.int .u64 ((Aa z.natAbs).getD ((Aa z.natAbs).length-1) 0:Nat)) he ?_;refine G.c call199 (Yo (k:=(Aa z.natAbs).getD ((Aa z.natAbs).length-1) 0) ht oV) ?_;rintro v1 u1 l1 rfl;refine G.p ((9*((Aa z.natAbs).length-1):Nat):Int) ((A20 ((Aa z.natAbs).getD ((Aa z.natAbs).length-1) 0)).length:Int) ((A1v z.natAbs:Nat):Int) ?_;exact G.r _ ⟨rfl,rfl⟩
theorem Agk {u:PH}{x:Value}(ht:Lb u)(hx:Av u x q)(h:Tx q):Fn0 prog 123 [x] u fun v _=>v=.string (mkS (Af q)):=by
 obtain⟨b,a,n,c,b',a',n',c',rfl⟩:=hx.opn;have hd:=A0q (Ms h.2) (show 400<=4000000000000 by omega);refine Fn0.o func123 ?_;refine G.c call159 (Hm hx hd) ?_;rintro v1 u1 l1 rfl;by_cases h1:q.den=1
 ·rw[decide_eq_true h1];refine G.c call200 (My (ht.mono l1) (hx.num.mono l1) (A0q (Ms h.1) oV)) ?_;rintro v2 u2 l2 rfl;exact G.r (.string (mkS (A1a q.num))) ⟨rfl,by rw[Af,if_pos h1]⟩
 ·rw[decide_eq_false h1];refine G.c call200 (My (ht.mono l1) (hx.num.mono l1) (A0q (Ms h.1) oV)) ?_;rintro v2 u2 l2 rfl;have e1:=Ek h.1;have e2:=Ek h.den;refine G.addS (A1a q.num) [47] kV gV ?_;refine G.c call200 (My (ht.mono (l1.trans l2)) (hx.den.mono (l1.trans l2)) (A0q (Ms h.den) oV)) ?_;rintro v3 u3 l3 rfl;refine G.addS (A1a q.num++[47]) (A1a (q.den:Int)) kV gV ?_;exact G.r (.string (mkS (A1a q.num++[47]++A1a (q.den:Int)))) ⟨rfl,by rw[Af,if_neg h1];simp⟩
theorem Jj {u:PH}{x:Value}(ht:Lb u)(hx:Av u x q)(h:Tx q):Fn0 prog 55 [x] u fun v _=>v=.tuple #[.string (mkS (Af q)),.int .i64 0]:=by
 obtain⟨b,a,n,c,b',a',n',c',rfl⟩:=hx.opn;have h2:=h.2;have h1:=h.1;refine Fn0.o func55 ?_;refine G.c call122 (S7 ht hx.num (A0q (Ms h.1) oV)) ?_;rintro v1 u1 l1 rfl;refine G.gF ((A1v q.num.natAbs:Nat):Int) 400 ?_;refine G.c call122 (S7 (ht.mono l1) (hx.den.mono l1) (A0q (Ms h.den) oV)) ?_;rintro v2 u2 l2 rfl;have h3:=h.den;refine G.gF ((A1v ((q.den:Int)).natAbs:Nat):Int) 400 ?_;refine G.c call123 (Agk (ht.mono (l1.trans l2)) (hx.mono (l1.trans l2)) h) ?_;rintro v3 u3 l3 rfl;exact G.r _ ⟨rfl,rfl⟩
end
section
variable {c:UInt8}{l:List UInt8}{q:Rat}{u:PH}
theorem Abh (h:∀ b∈l,b≠c):A58 l c = -1:=by
 induction l with
 |nil=>rfl
 |cons b l ih =>
  have h1:(b==c)=false:=by rw[beq_eq_false_iff_ne];exact h b mV
  rw[A58,h1,ih (fun x hx=>h x (by simp[hx]))];rfl
theorem Aj6 {l r:List UInt8}(h:∀ b∈l,b≠c):A58 (l++c::r) c=l.length:=by
 induction l with
 |nil=>simp[A58]
 |cons b l ih =>
  have h1:(b==c)=false:=by rw[beq_eq_false_iff_ne];exact h b mV
  have h2:=ih (fun x hx=>h x (by simp[hx]));rw[List.cons_append,A58,h1,h2];have h3:(((l.length:Nat):Int) == -1)=false:=by rw[beq_eq_false_iff_ne];omega
  simp[h3]
theorem Ajs :Fn0 prog 269 [.string (mkS l),.string (mkS [c])] u fun v _=>v=.int .i64 (A58 l c) :=
 Fn0.ofW (fun v _=>v=.int .i64 (A58 l c)) (fun w _=>(Tryz.stringslite_Index_one (mkS l) c w).mono fun _ _ ⟨e,h⟩=>⟨_,e,rfl,by rw[h];exact Ext.refl _⟩) (fun _ _ _ h _ _ _=>h)
theorem Ap7 {T:List UInt8}(h:∀ b∈T,b≠47):Fn0 prog 162 [.string (mkS T),.string (mkS [47])] u fun v _=>v=.tuple #[.string (mkS T),.string (mkS []),.bool false]:=by
 have hin:Fn0 prog 225 [.string (mkS T),.string (mkS [47])] u fun v _=>v=.tuple #[.string (mkS T),.string (mkS []),.bool false]:=by
  refine Fn0.o func225 ?_;refine G.c call269 (Ajs (l:=T) (c:=47)) ?_;rintro v1 u1 l1 rfl;rw[Abh h];refine G.hF (-1) 0 ?_;exact G.r (.tuple #[.string (mkS T),.string (mkS []),.bool false]) ⟨rfl,rfl⟩
 refine Fn0.o func162 ?_;refine G.c call225 hin ?_;rintro v1 u1 l1 rfl;exact G.r _ ⟨rfl,rfl⟩
theorem Ap9 {A B:List UInt8}(h:∀ b∈A,b≠47)(hl:(A++47::B).length<=1000000):Fn0 prog 162 [.string (mkS (A++47::B)),.string (mkS [47])] u fun v _=>v=.tuple #[.string (mkS A),.string (mkS B),.bool true]:=by
 have hlen:(A++47::B).length=A.length+1+B.length:=gV
 have htk:(A++47::B).take A.length=A:=mV
 have hdr:(A++47::B).drop (A.length+1)=B:=by rw[<-A7a];simp
 have hix:=Aj6 (r:=B) h;generalize A++47::B=T at *
 have hsize:(mkS T).size=T.length:=Go.Lib.size_mk _;have hin:Fn0 prog 225 [.string (mkS T),.string (mkS [47])] u fun v _=>v=.tuple #[.string (mkS A),.string (mkS B),.bool true]:=by
  refine Fn0.o func225 ?_;refine G.c call269 (Ajs (l:=T) (c:=47)) ?_;rintro v1 u1 l1 rfl;rw[hix];refine G.hT (A.length:Int) 0 ?_;refine G.sliceSTo T A.length kV kV oV ?_;rw[htk];refine G.p (A.length:Int) 1 ((A.length+1:Nat):Int) ?_;refine G.sliceSFrom T (A.length+1) kV kV oV ?_;rw[hdr];exact G.r (.tuple #[.string (mkS A),.string (mkS B),.bool true]) ⟨rfl,rfl⟩
 refine Fn0.o func162 ?_;refine G.c call225 hin ?_;rintro v1 u1 l1 rfl;exact G.r _ ⟨rfl,rfl⟩
theorem App (h:Tx q):Fn0 prog 162 [.string (mkS (Af q)),.string (mkS [47])] u fun v _=>v=.tuple #[.string (mkS (A1a q.num)),.string (mkS (if q.den=1 then [] else A1a (q.den:Int))),.bool (decide (q.den≠1))]:=by
 have l1:=Ek h.1;have l2:=Ek h.den;unfold Af;by_cases hd:q.den=1
 ·rw[if_pos hd,if_pos hd,decide_eq_false (by simp[hd])];exact Ap7 (L3 _)
 ·rw[if_neg hd,if_neg hd,decide_eq_true hd];exact Ap9 (L3 _) gV
theorem Av.mk {u:PH}{q:Rat}{y z:Int}{b b':Bool}{a a':Option Addr}{n c n' c':Nat}(h1:Cb u (.agg #[.bool b,.slice a n c]) y)(h2:Cb u (.agg #[.bool b',.slice a' n' c']) z)(hy:q.num=y)(hz:(q.den:Int)=z) :
 Av u (.agg #[.bool b,.slice a n c,.bool b',.slice a' n' c']) q:=by
 obtain⟨_,_,_,e1,i1⟩:=h1;obtain⟨_,_,_,e2,i2⟩:=h2;subst hy hz;rw[decide_eq_false oV]at e2;simp only[Value.agg.injEq,Array.mk.injEq,List.cons.injEq,Value.bool.injEq,A09,and_true]at e1 e2;obtain⟨rfl,rfl,rfl,rfl⟩:=e1;obtain⟨rfl,rfl,rfl,rfl⟩:=e2;exact⟨_,_,_,_,_,_,rfl,i1,i2⟩
theorem Iy (h:Tx q):Fn0 prog 77 [.string (mkS (Af q))] u fun v u'=>Av u' v q:=by
 refine Fn0.o func77 ?_;refine G.c call162 (App h) ?_;rintro v1 u1 l1 rfl;by_cases hd:q.den=1
 ·rw[if_pos hd,decide_eq_false (by simp[hd])];refine G.c call163 (Hn h.1) ?_;intro v2 u2 l2 k2;obtain⟨b2,a2,n2,c2,rfl⟩:=k2.opn;have hr1:=Hn (u:=u2) (z:=1) (by rw[A5a fV];omega);rw[Gu]at hr1;refine G.c call163 hr1 ?_;intro v3 u3 l3 k3;obtain⟨b3,a3,n3,c3,rfl⟩:=k3.opn;exact G.r (.agg #[.bool b2,.slice a2 n2 c2,.bool b3,.slice a3 n3 c3]) ⟨rfl,Av.mk (k2.mono l3) k3 rfl (by rw[hd];rfl)⟩
 ·rw[if_neg hd,decide_eq_true hd];refine G.c call163 (Hn h.1) ?_;intro v2 u2 l2 k2;obtain⟨b2,a2,n2,c2,rfl⟩:=k2.opn;refine G.c call163 (Hn h.den) ?_;intro v3 u3 l3 k3;obtain⟨b3,a3,n3,c3,rfl⟩:=k3.opn;exact G.r (.agg #[.bool b2,.slice a2 n2 c2,.bool b3,.slice a3 n3 c3]) ⟨rfl,Av.mk (k2.mono l3) k3 rfl rfl⟩
end
section
variable {e v:Value}{es:List Value}{q:Rat}{qs:List Rat}{sz:Nat}{u:PH}
def Cs (ts:List (List UInt8)):List Value:=ts.map fun t=>Value.string (mkS t)
theorem J7 (ts:List (List UInt8)):(Cs ts).length=ts.length:=by simp[Cs]
theorem Au9 (ts:List (List UInt8))(t:List UInt8):Cs ts++[.string (mkS t)]=Cs (ts++[t]):=by simp[Cs]
theorem Cu (ts:List (List UInt8)):A3 1 (Cs ts):=by
 intro e he;simp only[Cs,A0u]at he;obtain⟨b,_,rfl⟩:=he;exact⟨rfl,fun x hx=>by simp[A1e]at hx;subst hx;rfl⟩
def Fe (u:PH)(v:Value)(ts:List (List UInt8)):Prop:=Ab u v 1 (Cs ts)
def Ge (u:PH)(es:List Value)(qs:List Rat):Prop:=es.length=qs.length/\∀ (j:Nat) (q:Rat),qs[j]?=some q->∃ e,es[j]?=some e/\Av u e q
theorem Ge.mono {u u':PH}{es:List Value}{qs:List Rat}(h:Ge u es qs)(hl:PH.le u u'):Ge u' es qs :=
 ⟨h.1,fun j q hj=>by obtain⟨e,h1,h2⟩:=h.2 j q hj;exact⟨e,h1,h2.mono hl⟩⟩
theorem Ge.snoc (h:Ge u es qs)(he:Av u e q):Ge u (es++[e]) (qs++[q]):=by
 refine⟨by simp[h.1],fun j r hj=>?_⟩;by_cases hjl:j<qs.length
 ·rw[A1d hjl]at hj;obtain⟨e',h1,h2⟩:=h.2 j r hj;exact⟨e',by rw[A1d (by rw[h.1];exact hjl)];exact h1,h2⟩
 ·rw[A1s oV]at hj;have:j-qs.length=0:=by
   rcases A1p (j-qs.length) with h0|h0
   ·exact h0
   ·rw[A1g gV]at hj;cases hj
  rw[this]at hj;simp at hj;subst hj;refine⟨e,?_,he⟩;rw[A1s (by rw[h.1];omega),h.1,this];rfl
def M6 (u:PH)(v:Value)(qs:List Rat):Prop:=∃ es,Ab u v 4 es/\Ge u es qs
theorem M6.mono {u u':PH}{v:Value}{qs:List Rat}(h:M6 u v qs)(hl:PH.le u u'):M6 u' v qs:=by
 obtain⟨es,h1,h2⟩:=h;exact⟨es,h1.mono hl,h2.mono hl⟩
theorem Av.ok (h:Av u e q):A3 4 [e]:=by
 obtain⟨b,a,n,c,b',a',n',c',rfl⟩:=h.opn;intro x hx;simp at hx;subst hx;exact⟨rfl,fun y hy=>by simp[A1e]at hy;rcases hy with rfl|rfl|rfl|rfl<;>rfl⟩
theorem Ab.opn (h:Ab u v sz es):∃ a c,v=.slice a es.length c:=by
 obtain⟨a,c,rfl,_⟩:=h;exact⟨a,c,rfl⟩
theorem Ab.at' {a:Option Addr}{n c sz:Nat}(h:Ab u (.slice a n c) sz es){j:Nat}(hj:es[j]?=some e):∃ b off,a=some ⟨b,off,none⟩/\ElP u b (off+j*sz) e:=by
 obtain⟨a',c',h1,h2,h3⟩:=h;simp only[A09]at h1;obtain⟨rfl,_,rfl⟩:=h1;exact h3 j e hj
theorem Aep (h:Fe u v (qs.map Af))(hq:∀ q∈qs,Tx q)(hl:qs.length<=1000000):Fn0 prog 117 [v] u fun v' u'=>M6 u' v' qs:=by
 obtain⟨a,c,rfl⟩:=Ab.opn h;have hlen:(Cs (qs.map Af)).length=qs.length:=by rw[J7,List.length_map]
 rw[hlen]at h⊢;refine Fn0.o func117 ?_;refine G.l (ι:=Nat×List Value×(Option Addr×Nat×Nat)) (fun i=>[(3,sV i.2.2.1 i.2.2.2.1 i.2.2.2.2),(6,sV a qs.length c),(7,iV qs.length),(8,iV i.1)]) (fun _=>[])
  (fun i u' m'=>i.1<=qs.length/\Ge u' i.2.1 (qs.take i.1)/\Ae PH.mt m' (.slice i.2.2.1 i.2.2.2.1 i.2.2.2.2) 116 4 i.2.1) (fun i=>qs.length-i.1) (0,[],(none,0,0)) ⟨mV,⟨mV,fun j q hj=>by simp at hj⟩,Ae.nil _ _ _⟩ ?_
 rintro J ⟨k,es,⟨a1,n1,c1⟩⟩ hJ u' m' hle ⟨hk,hF,hA⟩;simp only at hk hF hA hJ;have hel:=hF.1;rw[A00]at hel;by_cases hlt:k<qs.length
 ·refine G.lT (k:Int) (qs.length:Int) ?_;have hqk:qs[k]?=some qs[k]:=A0n hlt;obtain⟨ba,oa,rfl,ea⟩:=Ab.at' (Ab.mono h hle) (j:=k) (e:=.string (mkS (Af qs[k]))) (by simp[Cs,hqk]);have htx:=hq qs[k] (A04 hlt);refine G.a ba oa qs.length c k 1 oV ?_;refine G.lU none ba (oa+k*1) (.string (mkS (Af qs[k]))) ea ?_;refine G.c call77 (Iy htx) ?_;intro v2 u2 l2 k2;obtain⟨b2,a2,n2,c2,b2',a2',n2',c2',rfl⟩:=k2.opn;refine G.B 116 4 64 (.agg #[.bool false,.slice none 0 0,.bool false,.slice none 0 0]) [.agg #[.bool b2,.slice a2 n2 c2,.bool b2',.slice a2' n2' c2']] k2.ok ?_;intro g u3 l3 e3;refine G.append 116 4 64 (.agg #[.bool false,.slice none 0 0,.bool false,.slice none 0 0]) PH.mt es [.agg #[.bool b2,.slice a2 n2 c2,.bool b2',.slice a2' n2' c2']] (.slice a1 n1 c1) g 0 1 1 kV rfl rfl oV hA e3 k2.ok rfl oV oV oV ?_;intro v4 m4 hA4;obtain⟨a4,c4,rfl⟩:=hA4.shape;refine G.i k ?_;refine G.b (hJ (k+1,es++[A8q #[.bool b2,.slice a2 n2 c2,.bool b2',.slice a2' n2' c2']],(a4,(es++[A8q #[.bool b2,.slice a2 n2 c2,.bool b2',.slice a2' n2' c2']]).length,c4)) _ _ _ cV ((hle.trans l2).trans l3) ⟨dV,?_,hA4⟩ dV);dsimp only;rw[A1c,hqk];exact (hF.mono (l2.trans l3)).snoc (k2.mono l3)
 ·have:k=qs.length:=oV
  subst this;refine G.lF (qs.length:Int) (qs.length:Int) ?_;refine G.give PH.mt es _ kV hA (fun _=>.inl rfl) ?_;intro u3 l3 hL;rw[A1k]at hF;exact G.r (.slice a1 n1 c1) ⟨rfl,es,hL,hF.mono l3⟩
theorem Avf (ht:Lb u)(h:M6 u v qs)(hq:∀ q∈qs,Tx q)(hl:qs.length<=1000000):Fn0 prog 90 [v] u fun v' u'=>∃ r,v'=.tuple #[r,.int .i64 0]/\Fe u' r (qs.map Af):=by
 obtain⟨es,hL,hF⟩:=h;obtain⟨a,c,rfl⟩:=Ab.opn hL;rw[hF.1]at hL⊢;refine Fn0.o func90 ?_;refine G.l (ι:=Nat×(Option Addr×Nat×Nat)) (fun i=>[(4,sV i.2.1 i.2.2.1 i.2.2.2),(9,sV a qs.length c),(10,iV qs.length),(11,iV i.1)]) (fun _=>[])
  (fun i u' m'=>i.1<=qs.length/\Ae PH.mt m' (.slice i.2.1 i.2.2.1 i.2.2.2) 33 1 (Cs ((qs.take i.1).map Af))) (fun i=>qs.length-i.1) (0,(none,0,0)) ⟨mV,Ae.nil _ _ _⟩ ?_
 rintro J ⟨k,⟨a1,n1,c1⟩⟩ hJ u' m' hle ⟨hk,hA⟩;simp only at hk hA hJ;have hel:(Cs ((qs.take k).map Af)).length=k:=by simp[Cs];omega
 by_cases hlt:k<qs.length
 ·refine G.lT (k:Int) (qs.length:Int) ?_;have hqk:qs[k]?=some qs[k]:=A0n hlt;obtain⟨e,he,hfe⟩:=hF.2 k _ hqk;obtain⟨ba,oa,rfl,ea⟩:=Ab.at' (hL.mono hle) (j:=k) he;have htx:=hq qs[k] (A04 hlt);obtain⟨b2,a2,n2,c2,b2',a2',n2',c2',rfl⟩:=hfe.opn;refine G.a ba oa qs.length c k 4 oV ?_;refine G.lU (some 4) ba (oa+k*4) (.agg #[.bool b2,.slice a2 n2 c2,.bool b2',.slice a2' n2' c2']) ea ?_;refine G.c call55 (Jj (ht.mono hle) (hfe.mono hle) htx) ?_;rintro v2 u2 l2 rfl;refine G.nF 0 0 ?_;refine G.B 33 1 16 (.string (mkS [])) [.string (mkS (Af qs[k]))] (Cu [Af qs[k]]) ?_;intro g u3 l3 e3;refine G.append 33 1 16 (.string (mkS [])) PH.mt (Cs ((qs.take k).map Af)) [.string (mkS (Af qs[k]))] (.slice a1 n1 c1) g 0 1 1 kV rfl rfl oV hA e3 (Cu [Af qs[k]]) rfl oV oV oV ?_;intro v4 m4 hA4;rw[Au9,show (qs.take k).map Af++[Af qs[k]]=(qs.take (k+1)).map Af by rw[A1c,hqk,List.map_append];rfl]at hA4;obtain⟨a4,c4,rfl⟩:=hA4.shape;refine G.i k ?_;exact G.b (hJ (k+1,(a4,(Cs ((qs.take (k+1)).map Af)).length,c4)) _ _ _ cV ((hle.trans l2).trans l3) ⟨dV,hA4⟩ dV)
 ·have:k=qs.length:=oV
  subst this;refine G.lF (qs.length:Int) (qs.length:Int) ?_;refine G.give PH.mt _ _ kV hA (fun _=>.inl rfl) ?_;intro u3 l3 hL;rw[A1k]at hL;exact G.r (.tuple #[.slice a1 n1 c1,.int .i64 0]) ⟨rfl,_,rfl,hL⟩
end
section
theorem Avh {u:PH}{v:Value}{ts:List (List UInt8)}{fid:Nat}{cap:Array Value}(h:Fe u v ts)(hl:ts.length<=1000000)
 (hcall:∀ args w,(callFunc fid args).run prog w=.ok (.enter fid args) w) (hf:∀ t∈ts,∀ u',PH.le u u'->Fn0 prog fid [.string (mkS t)] u' fun v _=>v=.bool false) :
 Fn0 prog 219 [v,.func (.func fid) #[] #[]] u fun v' _=>v'=.int .i64 (-1):=by
 obtain⟨a,c,rfl⟩:=Ab.opn h;rw[J7]at h⊢;refine Fn0.o func219 ?_;refine G.l (ι:=Nat) (fun i=>[(0,sV a ts.length c),(1,.v (.func (.func fid) #[] #[])),(7,iV ts.length),(8,iV i)]) (fun _=>[])
  (fun i u' m'=>i<=ts.length/\m'=PH.mt) (fun i=>ts.length-i) 0 ⟨oV,rfl⟩ ?_
 rintro J k hJ u' m' hle ⟨hk,rfl⟩;by_cases hlt:k<ts.length
 ·refine G.lT (k:Int) (ts.length:Int) ?_;have htk:ts[k]?=some ts[k]:=A0n hlt;obtain⟨ba,oa,rfl,ea⟩:=Ab.at' (Ab.mono h hle) (j:=k) (e:=.string (mkS ts[k])) (by simp[Cs,htk]);refine G.a ba oa ts.length c k 1 oV ?_;refine G.lU none ba (oa+k*1) (.string (mkS ts[k])) ea ?_;refine G.c hcall (hf ts[k] (A04 hlt) u' hle) ?_;rintro v1 u1 l1 rfl;refine G.i k ?_;exact G.b (hJ (k+1) _ _ _ cV (hle.trans l1) ⟨oV,rfl⟩ oV)
 ·refine G.lF (k:Int) (ts.length:Int) ?_;exact G.r (.int .i64 (-1)) ⟨rfl,rfl⟩
theorem Arg {u:PH}{v:Value}{ts:List (List UInt8)}{fid:Nat}(h:Fe u v ts)(hl:ts.length<=1000000)
 (hcall:∀ args w,(callFunc fid args).run prog w=.ok (.enter fid args) w) (hf:∀ t∈ts,∀ u',PH.le u u'->Fn0 prog fid [.string (mkS t)] u' fun v _=>v=.bool false) :
 Fn0 prog 152 [v,.func (.func fid) #[] #[]] u fun v' _=>v'=.bool false:=by
 obtain⟨a,c,rfl⟩:=Ab.opn h;refine Fn0.o func152 ?_;refine G.c call219 (Avh (cap:=#[]) h hl hcall hf) ?_;rintro v1 u1 l1 rfl;refine G.hF (-1) 0 ?_;exact G.r (.bool false) ⟨rfl,rfl⟩
theorem Bdk {u:PH}{v v':Value}{ts ts':List (List UInt8)}(h:Fe u v ts)(h':Fe u v' ts')(hl:ts.length<=1000000)(hl':ts'.length<=1000000) :
 Fn0 prog 41 [v,v'] u fun r _=>r=.bool (decide (ts=ts')):=by
 obtain⟨a,c,rfl⟩:=Ab.opn h;obtain⟨a',c',rfl⟩:=Ab.opn h';rw[J7]at h h'⊢;rw[J7];refine Fn0.o func41 ?_;by_cases hn:ts.length=ts'.length
 ·refine G.nF (ts.length:Int) (ts'.length:Int) ?_;refine G.l (ι:=Nat) (fun i=>[(0,sV a ts.length c),(1,sV a' ts'.length c'),(12,iV ts.length),(13,iV i)]) (fun _=>[])
   (fun i u' m'=>(i<=ts.length/\ts.take i=ts'.take i)/\m'=PH.mt) (fun i=>ts.length-i) 0 ⟨⟨oV,mV⟩,rfl⟩ ?_
  rintro J k hJ u' m' hle ⟨⟨hk,heq⟩,rfl⟩;by_cases hlt:k<ts.length
  ·refine G.lT (k:Int) (ts.length:Int) ?_;have hlt':k<ts'.length:=oV
   have htk:ts[k]?=some ts[k]:=A0n hlt;have htk':ts'[k]?=some ts'[k]:=A0n hlt';obtain⟨ba,oa,rfl,ea⟩:=Ab.at' (Ab.mono h hle) (j:=k) (e:=.string (mkS ts[k])) (by simp[Cs,htk]);obtain⟨bb,ob,rfl,eb⟩:=Ab.at' (Ab.mono h' hle) (j:=k) (e:=.string (mkS ts'[k])) (by simp[Cs,htk']);refine G.a ba oa ts.length c k 1 oV ?_;refine G.lU none ba (oa+k*1) (.string (mkS ts[k])) ea ?_;refine G.a bb ob ts'.length c' k 1 oV ?_;refine G.lU none bb (ob+k*1) (.string (mkS ts'[k])) eb ?_;by_cases he:ts[k]=ts'[k]
   ·refine G.y ts[k] ts'[k] he ?_;refine G.i k ?_;exact G.b (hJ (k+1) _ _ _ cV hle ⟨⟨oV,by rw[A1c,A1c,heq,htk,htk',he]⟩,rfl⟩ oV)
   ·refine G.x ts[k] ts'[k] he ?_;exact G.r (.bool false) ⟨rfl,by rw[decide_eq_false];rintro rfl;exact he rfl⟩
  ·refine G.lF (k:Int) (ts.length:Int) ?_;have:ts=ts':=by rw[A03 oV,A03 oV]at heq;exact heq
   exact G.r (.bool true) ⟨rfl,by simp[this]⟩
 ·refine G.nT (ts.length:Int) (ts'.length:Int) ?_;exact G.r (.bool false) ⟨rfl,by rw[decide_eq_false];rintro rfl;exact hn rfl⟩
end
end Go.Proofs.YtanfagpabkdmiaaGreatDoor
