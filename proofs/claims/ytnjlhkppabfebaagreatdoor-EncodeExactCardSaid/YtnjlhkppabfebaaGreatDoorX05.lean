/- Parts of one proof, joined by a program. -/
import Derived.Test.YtnjlhkppabfebaaGreatDoorX04
import Derived.Shelf.Strings.Builder1
import Derived.Shelf.Strconv.Itoa3
import Derived.Lib.AppendIntMem
import Derived.Lib.AtoiErrMem
import Derived.Lib.ConvBytes
import Derived.MapKept
import Derived.Laws.IdiomRangeMap
set_option linter.defProp false
set_option linter.unusedVariables false
set_option linter.unusedSimpArgs false
set_option linter.unusedSectionVars false
set_option maxHeartbeats 16000000
namespace Go.Proofs.YtnjlhkppabfebaaGreatDoor
open Go.Proofs.Tryz
open Go.RowKit
def A5n:=@Option.map_eq_some_iff
def A6y:=@Array.size_replicate
def A6a:=@Option.isSome_iff_exists
def A79:=@Nat.min_le_right
def Baj:=@Int.tmod_lt_of_pos
def Bak:=@Int.lt_tmod_of_pos
def Bay:=@List.pairwise_map
def A7r:=@List.getElem?_cons_succ
def A4z:=@Bool.false_eq_true
def A1i:=@List.map_append
def A7m:=@List.map_nil
def A6u:=@Array.getElem?_toList
def A8c:=@Array.getElem?_modify
section
open Go.Shelf Go.RowKit
def Af0:(prog.info? 278).map (·.size)=some 2:=kV
def Ars:liesAt prog prog.depth 278 (2/prog.cellsOf 278) 0 278 1=true:=kV
def Ann:(prog.info? 5).map (fun i=>(i.zero,i.size,i.bytes))=some (some (.int .u8 0),1,1):=kV
set_option maxRecDepth 100000 in
def Yk (b:Nat)(w:World)(h0:w.cell? ⟨b,0,none⟩=some (.pointer (some ⟨b,0,none⟩))) :
 Calls prog 250 #[.pointer (some ⟨b,0,none⟩)] w fun e w'=>e=.returned (.tuple #[])/\w'=w:=by
 obtain⟨j,d,_⟩:=A5n.1 Af0
 go_enter func250,ntmps250
 go_wp2
 rw[Lib.run_neq_ptr_same w _ Tryz.underlying276 d]
 go_wp2
 go_end0
 exact⟨rfl,rfl⟩
set_option maxRecDepth 100000 in
def Vk (b:Nat)(w:World)(h0:w.cell? ⟨b,0,none⟩=some (.pointer none))(d:w.shape? b=some (278,2))(m:w.frozen? ⟨b,0,none⟩=false) :
 Calls prog 250 #[.pointer (some ⟨b,0,none⟩)] w fun e w'=>e=.returned (.tuple #[])/\w'=w.setCell ⟨b,0,none⟩ (.pointer (some ⟨b,0,none⟩)):=by
 obtain⟨j,h,g⟩:=A5n.1 Af0
 go_enter func250,ntmps250
 go_wp2
 rw[Lib.run_to_unsafe w ⟨b,0,none⟩ Tryz.underlying276 Tryz.underlying313 h (by rw[g];decide) d (Nat.zero_lt_succ 1)];simp only[Result.andThen];rw[Oper.upon_value]
 go_wp2
 rw[run_callFunc_extern func266 kV kV kV (e:=Extern.AbiNoEscape.same) kV];rw[Lib.run_noEscape];simp only[Result.andThen];rw[Oper.upon_value]
 go_wp2
 rw[Lib.run_from_unsafe w ⟨b,0,none⟩ Tryz.underlying313 Tryz.underlying276 h d Ars];simp only[Result.andThen];rw[Oper.upon_value]
 go_wp2
 go_end0
 exact⟨rfl,rfl⟩
def Zf (B b:Nat)(d:List Value)(w:World)(h:Lib.IsBuilder 278 5 B b d w) :
 Calls prog 250 #[.pointer (some ⟨b,0,none⟩)] w fun e w'=>e=.returned (.tuple #[])/\(Lib.BuilderAt 278 5 B b (.pointer (some ⟨b,0,none⟩)) d w'/\Below B w w'):=by
 rcases h with h|h
 ·refine (Vk b w h.cell0 h.shape h.frozen0).mono ?_;rintro e w' ⟨rfl,rfl⟩;exact⟨rfl,h.used _,(Below.refl B w).setCell (p:=⟨b,0,none⟩) h.1 _⟩
 refine (Yk b w h.cell0).mono ?_;rintro e w' ⟨rfl,rfl⟩;exact⟨rfl,h,Below.refl B _⟩
set_option maxRecDepth 100000 in
def Dl (B b:Nat)(z:List Value)(s:ByteArray)(w:World)(h:Lib.IsBuilder 278 5 B b z w)(Q:z.length+s.size<=140737488355328)(W:B<=w.heap.size) :
 Calls prog 222 #[.pointer (some ⟨b,0,none⟩),.string s] w fun e w'=>e=.returned (.tuple #[.int .i64 s.size,.nilIface])/\(Lib.BuilderAt 278 5 B b (.pointer (some ⟨b,0,none⟩)) (z++Lib.strCells s) w'/\Below B w w'):=by
 obtain⟨Y,hi,K,L,N⟩:=info_parts Ann
 go_enter func222,ntmps222
 go_wp2_with fail
 refine (Zf B b z _ h).mono ?_;rintro e C ⟨rfl,V,u⟩;obtain⟨P,v,n,t,I⟩:=V;have c0:C.cell? ⟨b,0,none⟩=some (.pointer (some ⟨b,0,none⟩)):=by rw[Lib.cell_of_heap n];rfl
 have c1:C.cell? ⟨b,1,none⟩=some v:=by rw[Lib.cell_of_heap n];rfl
 go_wp2_with (at_builtin;refine Lib.wpList_append_own_string _ rfl _ _ 131 9 rfl B 5 Y Tryz.underlying131 Tryz.underlying9 hi K L N _ _ _ rfl t s rfl ?c3 ?c4 ?c5 ?_)
 case c3=>unfold maxLen;omega
 case c4=>omega
 case c5=>have:=u.size;omega
 intro Z E j d _;have H:b<C.heap.size:=by
  rcases A2e b C.heap.size with F|F
  ·exact F
  simp[A43 F]at n
 have m:E.heap[b]?=some (.cells #[.pointer (some ⟨b,0,none⟩),v] 278 (0,0)):=by
  rw[d.block b H (fun e=>I e.symm)];exact n
 have d0:E.cell? ⟨b,0,none⟩=some (.pointer (some ⟨b,0,none⟩)):=by rw[Lib.cell_of_heap m];rfl
 have d1:E.cell? ⟨b,1,none⟩=some v:=by rw[Lib.cell_of_heap m];rfl
 have f1:E.frozen? ⟨b,1,none⟩=false:=Lib.frozen_of_heap m 1;obtain⟨O,R,cap,rfl⟩:∃ O R cap,Z=.slice O R cap:=by
  rcases j.2 with ⟨J,_⟩|⟨g,cap,U,J,_⟩
  ·exact⟨_,_,_,J⟩
  exact⟨_,_,_,J⟩
 go_wp2
 go_ret2
 refine⟨rfl,?_,?_⟩
 ·exact Lib.BuilderAt.put (T:=278) (e:=5) P m (bs':=z++Lib.strCells s) (by simpa[Lib.strCells_length] using j) fV
 exact (u.grown d (by have:=u.size;omega) (fun k X=>(t.lt k X).1)).setCell (p:=⟨b,1,none⟩) P _
end
section
open Go.Shelf Go.RowKit Go.Sort Go.Lib
set_option maxRecDepth 100000 in
def Wo (u:Nat)(d:u<18446744073709551616)(w:World)(v:Lib.TabIs prog w "internal/strconv.uint64pow10" .u64 Lib.pow10Tab) :
 Calls prog 221 #[.int .u64 u,.int .i64 10] w fun e w'=>e=.returned (.string ⟨(Lib.decDigits u).toArray⟩)/\Below w.heap.size w w':=by
 by_cases K:u<100
 ·go_enter func221,ntmps221
  go_wp2_with fail
  refine (Tryz.internal_strconv_small u K _).mono ?_;rintro e w' ⟨rfl,rfl⟩
  go_wp2_with fail
  go_ret
  exact⟨rfl,Below.refl _ _⟩
 have z:1<=u:=oV;have F:Lib.nDigits u<=20:=by have:=Lib.numDigits_eq u z d;split at this<;>omega
 have t:prog.arrayLen 297=24:=kV;have H:∀ W,(Instr.sliceAt 297 (.pointer (some ⟨w.heap.size,0,none⟩)) none (some (.int .i64 (Lib.nDigits u:Int))) none).run prog W=.ok (.slice (some ⟨w.heap.size,0,none⟩) (Lib.nDigits u) 24) W:=fun W=>by
  rw[run_sliceAt_array_h W 297 ⟨w.heap.size,0,none⟩ kV .i64 (Lib.nDigits u:Int) oV (by rw[t];omega)]
  go_simp
 have m:=Lib.holds_zero0 w 297 (Lib.nDigits u) oV;have g:=Tryz.internal_strconv_formatBase10 w.heap.size 0 24 u (Array.replicate (Lib.nDigits u) 0) (w.alloc (.cells Lib.zeros24 297)) m (by rw[A6y];exact Lib.lt_pow_nDigits u) d (by rw[A6y];omega);rw[A6y]at g;have C:=Lib.hid m;clear m t
 go_enter func221,ntmps221
 go_wp2_with fail
 refine (Tryz.internal_strconv_numDigits u z d _ (Lib.tabIs_alloc v _)).mono ?_;rintro e w' ⟨rfl,rfl⟩
 go_wp2_with fail
 refine g.mono ?_;rintro e w' ⟨rfl,k,N,n,rfl,hF⟩;have J:(convert 131 9 (.slice (some ⟨w.heap.size,0,none⟩) (Lib.nDigits u) 24)).run prog ((putRow (fun (b:UInt8)=>Value.int .u8 (b.toNat:Int)) (w.alloc (.cells Lib.zeros24 297)) w.heap.size 0 n).drewN k)=.ok (.string ⟨(Lib.decDigits u).toArray⟩) ((putRow (fun (b:UInt8)=>Value.int .u8 (b.toNat:Int)) (w.alloc (.cells Lib.zeros24 297)) w.heap.size 0 n).drewN k):=by
  have h:=run_convert_bytes_back (P:=prog) ((putRow (fun (b:UInt8)=>Value.int .u8 (b.toNat:Int)) (w.alloc (.cells Lib.zeros24 297)) w.heap.size 0 n).drewN k) 131 9 5 ⟨w.heap.size,0,none⟩ 24 (Lib.decDigits u) Tryz.underlying131 Tryz.underlying5 Tryz.underlying9 (fun j E=>by
   rw[Lib.row_is_numeral hF j E,Lib.add_plain,World.cell?_drewN];exact cell?_putRow (fun (b:UInt8)=>Value.int .u8 (b.toNat:Int)) _ w.heap.size 0 _ n C.out (by rw[hF.size,A6y]) j (by rw[hF.size];rw[Lib.decDigits_length]at E;exact E))
  rw[Lib.decDigits_length]at h;exact h
 go_wp2_with fail
 go_ret
 refine⟨rfl,?_⟩;obtain⟨L,I⟩:=Lib.fin_at w (.cells Lib.zeros24 297) n k 0;rw[I];exact Lib.below_grow _ w (A08 _) k L
end
section
open Go.Shelf Go.RowKit Go.Sort Go.Lib
variable {B b d k n:Nat}{T e:TypeId}{bs:List Value}{neg:Bool}{w w':World}
def Pg {P:Program}{j:String}{k:IntKind}{u:List Int}(h:TabIs P w j k u)(x:Ext w w'):TabIs P w' j k u:=by
 unfold TabIs World.var? at *
 cases hg:P.globalNamed j with
 |none=>simp[hg]at h
 |some g =>
  simp only[hg,Option.bind_some]at h⊢;have t:g<w.heap.size:=by
   rcases A2e g w.heap.size with m|m
   ·exact m
   simp[A43 m]at h
  rw[Below.block x g t];exact h
def Uq {size:Nat}{v:Value}{xs:List Value}(h:w.ownsRow B e size v n xs)(x:Ext w w'):w'.ownsRow B e size v n xs:=by
 obtain⟨t,h0|⟨g,cap,j,z,u,m,r⟩⟩:=h
 ·exact⟨t,.inl h0⟩
 exact⟨t,.inr ⟨g,cap,j,z,u,by rw[Below.block x g (Aw m)];exact m,r⟩⟩
def Pr {p:Value}(h:BuilderAt T e B b p bs w)(x:Ext w w'):BuilderAt T e B b p bs w':=by
 obtain⟨m,v,j,t,g⟩:=h;exact⟨m,v,by rw[Below.block x b (Aw j)];exact j,Uq t x,g⟩
def E1 (h:IsBuilder T e B b bs w)(x:Ext w w'):IsBuilder T e B b bs w' :=
 h.elim (fun h=>.inl (Pr h x)) (fun h=>.inr (Pr h x))
def Arn (n j k:Nat):ld n (j+k)=ld n j++ld (n/10^j) k:=by
 induction k with
 |zero=>simp[ld]
 |succ k ih =>
  rw[<-A3p,V5,V5,ih,A2k]
  congr 3
  unfold dg;rw[A45,<-A4k]
def Ayu (d:Nat)(h:∀ j,j<k->n/10^j%10=d/10^j%10):ld n k=ld d k:=by
 unfold ld;refine A41 fun j g=>?_;unfold dg;rw[h j (A6q.1 g)]
def Ha (k:Nat):repeatL [48] k=List.replicate k 48:=by
 induction k with
 |zero=>rfl
 |succ k ih=>rw[repeatL,ih];rfl
def Ks (t:d<1000000000):nDigits d<=9:=by
 rcases A2a d with h|h
 ·subst h;rw[nDigits_small oV];omega
 have g:=Hd (n:=d) oV;have j:10^(nDigits d-1)<10^9:=A22 g oV;have m:=(A7l (by omega:1<10)).1 j;omega
def A0x (g:d<1000000000):(ld d 9).reverse=repeatL [48] (9-nDigits d)++decDigits d:=by
 have h:=Ks g;have e:9=nDigits d+(9-nDigits d):=oV
 rw[show ld d 9=ld d (nDigits d+(9-nDigits d)) by rw[<-e],Arn,A8q,Ac2]
 congr 1
 have h0:d/10^nDigits d=0:=A49 (lt_pow_nDigits d);rw[h0,Ha];have:∀ k,ld 0 k=List.replicate k 48:=by
  intro k;induction k with
  |zero=>rfl
  |succ k ih=>rw[V5,ih,A90];congr 1;simp[dg]
 rw[this,List.reverse_replicate]
def Aq6 {x d:Nat}(u:x≠0)(m:d<1000000000):decDigits (x*1000000000+d)=decDigits x++(repeatL [48] (9-nDigits d)++decDigits d):=by
 have g:(x*1000000000+d)/10^9=x:=oV
 have h:nDigits (x*1000000000+d)=9+nDigits x:=by
  rw[Pz (j:=9) oV,g]
 rw[<-Ac2,h,Arn,g,A8q,Ac2,<-A0x m]
 congr 2
 refine Ayu d fun j t=>?_;have e:(1000000000:Nat)=10^j*10^(9-j):=by rw[<-A4k,show j+(9-j)=9 by omega]
 rw[e,A19 x,A17,Bbi (A66 oV),show 9-j=(8-j)+1 by omega,A2d];rw[Nat.mul_right_comm,A19 _ 10,Nat.mul_add_mod]
def mid (n k:Nat):List UInt8:=if k=(Aa n).length then [] else decDigits (n/1000000000^k)
def Alp (n:Nat):mid n (Aa n).length = []:=by simp[mid]
def Adk (h:k≠(Aa n).length):mid n k=decDigits (n/1000000000^k):=by simp[mid,h]
def Dj (neg:Bool)(n k:Nat):List UInt8:=(if neg then [45] else [])++mid n k
def Xf (neg:Bool)(n:Nat):Dj neg n (Aa n).length=if neg then [45] else []:=by rw[Dj,Alp,A1x]
def M9 (z:Int)(h:z≠0):Dj (decide (z<0)) z.natAbs 0=itoa z:=by
 have g:(Aa z.natAbs).length≠0:=fun h0=>h (by have:=Hj.1 (A2l h0);omega);rw[Dj,Adk (fun h0=>g h0.symm),D5,Bj,A8j,Ba5];split<;>rfl
def Yn (n k:Nat):n/1000000000^k=n/1000000000^(k+1)*1000000000+(Aa n).getD k 0:=by
 rw[Qw,A2d,<-A45];omega
def Wq (g:k+1=(Aa n).length):Dj neg n k=Dj neg n (k+1)++decDigits ((Aa n).getD k 0):=by
 have h0:n/1000000000^(k+1)=0:=A49 (by rw[g];exact Dd n);rw[Dj,Dj,Adk oV,g,Alp,A1x,Yn,h0];simp
def Wc (g:k+1<(Aa n).length):Dj neg n k=Dj neg n (k+1)++(repeatL [48] (9-nDigits ((Aa n).getD k 0))++decDigits ((Aa n).getD k 0)):=by
 have m:n≠0:=by rintro rfl;rw[A7]at g;simp at g
 have t:n/1000000000^(k+1)≠0:=by
  have h:=Rw m;have j:1000000000^(k+1)<=1000000000^(nl n-1):=A10 oV (by have:nl n=(Aa n).length:=rfl;omega);have u:=Nat.div_pos (A04 j h) (A66 oV);omega
 rw[Dj,Dj,Adk oV,Adk oV,A2k]
 congr 1
 rw[Yn n k,Aq6 t ((Ao n).getD k)]
def U5 (neg:Bool)(n k:Nat):(Dj neg n k).length<=1+9*(Aa n).length+1:=by
 have m:nDigits (n/1000000000^k)<=9*(Aa n).length+1:=by
  rcases A2a (n/1000000000^k) with h|h
  ·rw[h,nDigits_small oV];omega
  have g:=Hd (n:=n/1000000000^k) oV;have j:10^(nDigits (n/1000000000^k)-1)<10^(9*(Aa n).length):=A22 g (A22 (A3u _ _) (Rv n));have t:=(A7l (by omega:1<10)).1 j;omega
 unfold Dj mid;split<;>split<;>simp[decDigits_length]<;>omega
end
section
open Go.Shelf Go.RowKit Go.Sort Go.Lib
set_option maxRecDepth 100000 in
def Es (u:Nat)(g:u<18446744073709551616)(w:World)(d:Lib.TabIs prog w "internal/strconv.uint64pow10" .u64 Lib.pow10Tab) :
 Calls prog 204 #[.int .u64 u,.int .i64 10] w fun e w'=>e=.returned (.string ⟨(Lib.decDigits u).toArray⟩)/\Ext w w':=by
 go_enter func204,ntmps204
 go_wp2_with fail
 refine (Wo u g _ d).mono ?_;rintro e w' ⟨rfl,h⟩
 go_wp2_with fail
 go_ret
 exact⟨rfl,h⟩
def Ap2 (W0:World)(B:Nat)(neg:Bool)(n:Nat)(i:Value)(wr:World):Prop :=
 ∃ k:Nat,k<=(Aa n).length/\i=.int .i64 ((k:Int)-1)/\IsBuilder 278 5 B B (byteCells (Dj neg n k)) wr/\Below B W0 wr
def K2 (l d:List UInt8):byteCells l++byteCells d=byteCells (l++d):=by simp[byteCells]
set_option maxRecDepth 100000 in
theorem Zj (v:Value)(z:Int)(w:World)(hv:St w v z)(hs:nl z.natAbs<=100000000000)(htab:Lib.TabIs prog w "internal/strconv.uint64pow10" .u64 Lib.pow10Tab) :
 Calls prog 205 #[v] w fun e w'=>e=.returned (.string ⟨(Lib.itoa z).toArray⟩)/\Ext w w':=by
 obtain⟨a,n,c,rfl,hn⟩:=hv;obtain⟨a',c',e,hcap,hrow⟩:=hn;simp only[Value.slice.injEq]at e;obtain⟨rfl,rfl,rfl⟩:=e;have hlen:(Aa z.natAbs).length<=100000000000:=hs;by_cases hz:z=0
 ·subst hz;rw[show (Aa (0:Int).natAbs).length=0 by rw[show (0:Int).natAbs=0 from rfl,A7];rfl];clear hrow hcap hlen
  go_enter func205,ntmps205
  go_wp2_with fail
  go_ret
  exact⟨by rw[E5];rfl,Ext.alloc (Ext.refl w) _⟩
 ·have hp:0<(Aa z.natAbs).length:=Df.2 oV;obtain⟨L,hL⟩:∃ L,L=(Aa z.natAbs).length:=⟨_,rfl⟩;rw[<-hL]at hp hlen⊢;have HL:=Lib.hid hL;have HROW:=Lib.hid hrow;have HTAB:=Lib.hid htab;clear hL hrow htab hcap;obtain⟨neg,hneg⟩:∃ neg,neg=decide (z<0):=⟨_,rfl⟩;rw[<-hneg];have HNEG:=Lib.hid hneg;clear hneg;obtain⟨w1,hw1⟩:∃ w1,w1=w.alloc (Obj.cells #[Value.bool neg,Value.slice a L c] 118):=⟨_,rfl⟩;have hs1:w1.heap.size=w.heap.size+1:=by rw[hw1];exact B6 _ _
  have HX1:RowKit.Hid (Ext w w1):=Lib.hid (by rw[hw1];exact Ext.alloc (Ext.refl w) _);have HB0:=Lib.hid (Lib.fresh_isBuilder 278 5 w1);have HW1:=Lib.hid hw1;have HS1:=Lib.hid hs1;clear hw1 hs1;cases neg
  ·go_enter func205,ntmps205
   go_wp2_with fail
   rw[<-HW1.out,<-HS1.out,show ((L:Int)==0)=false by rw[beq_eq_false_iff_ne];omega]
   go_loopw [4] (Ap2 (w1.alloc (Obj.cells #[Value.pointer none,Value.slice none 0 0] 278)) w1.heap.size false z.natAbs) (fun i _=>(RowKit.intOf i+1).toNat)
   case atStart=>exact⟨(Aa z.natAbs).length,A08 _,by rw[<-HL.out],by rw[Xf];exact HB0.out,Below.refl _ _⟩
   case round =>
    obtain⟨k,hk,rfl,hbd,hbel⟩:=hrel;have hsz0:=hbel.size;rw[B6]at hsz0;have HXW:RowKit.Hid (Ext w wr):=Lib.hid (Ext.trans HX1.out (Below.trans (Ext.alloc (Ext.refl w1) (Obj.cells #[Value.pointer none,Value.slice none 0 0] 278)) hbel));rcases k with _|k
    ·have hne:Dj false z.natAbs 0≠[]:=by rw[HNEG.out,M9 z hz,D5,Bj];split;simp;exact Gk _
     have HBD:=Lib.hid hbd;clear hbd
     go_wp2_with fail
     refine (Tryz.Builder_String w1.heap.size w1.heap.size (Dj false z.natAbs 0) wr HBD.out hne).mono ?_;rintro e w2 ⟨rfl,hb2⟩
     go_wp2_with fail
     go_ret
     refine⟨?_,Below.trans HXW.out ?_⟩
     ·rw[HNEG.out,M9 z hz];rfl
     ·exact Below.mono hb2 (by have:=HS1.out;omega)
    ·have hsz1:w.heap.size<w1.heap.size:=by rw[HS1.out];omega
     have hc1:wr.cell? ⟨w.heap.size,1,none⟩=some (.slice a L c):=by
      rw[Below.cell hbel hsz1,Below.cell (Ext.alloc (Ext.refl w1) _) hsz1,HW1.out,World.cell?_alloc_new];rfl
     obtain⟨ba,offa,rfl,hca⟩:=HROW.out.at (j:=k) oV;have hcb:=HXW.out.cell hca;clear hca;have hlow:(Aa z.natAbs).getD k 0<1000000000:=(Ao _).getD k;obtain⟨x,hx⟩:∃ x,x=(Aa z.natAbs).getD k 0:=⟨_,rfl⟩;rw[<-hx]at hcb hlow;have XX:=Lib.hid hx;have HBD:=Lib.hid hbd;have HBEL:=Lib.hid hbel;have HK:=Lib.hid hk;clear hx hbd hbel hk hsz1;rw[show ((k+1:Nat):Int)-1=k by omega];have hkL:k<L:=by have:=HK.out;have:=HL.out;omega
     have hsw:(Dj false z.natAbs (k+1)).length<=1+9*L+1:=by have:=U5 false z.natAbs (k+1);rw[<-HL.out]at this;exact this
     have hd9:=Ks hlow;have hdl:=decDigits_length x;have HSW:=Lib.hid hsw;have HDL:=Lib.hid hdl;have HD9:=Lib.hid hd9;clear hsw hdl hd9;by_cases htop:k+1=L
     ·have hkt:¬ ((k:Int)<(L:Int)-1):=oV
      have HTOP:=Lib.hid htop;clear htop
      go_wp2_with fail
      refine (Es x oV _ (Pg HTAB.out HXW.out)).mono ?_;rintro e w2 ⟨rfl,hx2⟩;have HX2:=Lib.hid hx2;clear hx2;have hc2:=HX2.out.cell hc1;clear hc1 hcb
      go_wp2_with fail
      refine (Dl w1.heap.size w1.heap.size (byteCells (Dj false z.natAbs (k+1))) ⟨(decDigits x).toArray⟩ w2 (E1 HBD.out HX2.out) (by rw[byteCells_length,Lib.size_mk,HDL.out];have:=HSW.out;have:=HD9.out;omega) (by have:=HX2.out.size;omega)).mono ?_;rintro e w3 ⟨rfl,hb3,hbel3⟩;have htx:=Wq (neg:=false) (n:=z.natAbs) (k:=k) (by rw[<-HL.out];exact HTOP.out);rw[<-XX.out]at htx;rw[strCells_toArray,K2,<-htx]at hb3
      go_wp2_with fail
      refine⟨⟨k,by rw[<-HL.out];omega,by go_num,.inr hb3,Below.trans HBEL.out (Below.trans (Below.mono HX2.out oV) hbel3)⟩,by simp only[RowKit.intOf];omega⟩
     ·have hkt:(k:Int)<(L:Int)-1:=oV
      have HTOP:=Lib.hid htop;clear htop
      go_wp2_with fail
      refine (Es x oV _ (Pg HTAB.out HXW.out)).mono ?_;rintro e w2 ⟨rfl,hx2⟩;have HX2:=Lib.hid hx2;clear hx2;have hc2:=HX2.out.cell hc1;clear hc1 hcb;have hsl:(⟨(decDigits x).toArray⟩:ByteArray).size=nDigits x:=by rw[Lib.size_mk];exact HDL.out
      go_wp2_with fail
      rw[show wrap64 (9-(nDigits x:Int))=((9-nDigits x:Nat):Int) by have:=HD9.out;unfold wrap64;omega];have hrep:=Tryz.strings_Repeat ⟨#[48]⟩ (9-nDigits x) w2 oV (by have:=HD9.out;simp[ByteArray.size];omega);refine hrep.mono ?_;rintro e w4 ⟨rfl,hx4⟩;have HX4:RowKit.Hid (Ext w2 w4):=Lib.hid hx4;clear hx4 hrep
      go_wp2_with fail
      refine (Dl w1.heap.size w1.heap.size (byteCells (Dj false z.natAbs (k+1))) ⟨(repeatL [48] (9-nDigits x)).toArray⟩ w4 (E1 (E1 HBD.out HX2.out) HX4.out) (by rw[byteCells_length,Lib.size_mk,Ha,A3k];have:=HSW.out;omega) (by have:=HX2.out.size;have:=HX4.out.size;omega)).mono ?_;rintro e w5 ⟨rfl,hb5,hbel5⟩;rw[strCells_toArray,K2]at hb5
      go_wp2_with fail
      refine (Dl w1.heap.size w1.heap.size _ ⟨(decDigits x).toArray⟩ w5 (.inr hb5) (by rw[byteCells_length,Lib.size_mk,HDL.out,A1d,Ha,A3k];have:=HSW.out;have:=HD9.out;omega) (by have:=HX2.out.size;have:=HX4.out.size;have:=hbel5.size;omega)).mono ?_;rintro e w3 ⟨rfl,hb3,hbel3⟩;have htx:=Wc (neg:=false) (n:=z.natAbs) (k:=k) (by rw[<-HL.out];have:=HTOP.out;omega);rw[<-XX.out]at htx;rw[strCells_toArray,K2,A2k,<-htx]at hb3;have h6:=HX2.out.size
      go_wp2_with fail
      refine⟨⟨k,by rw[<-HL.out];omega,by go_num,.inr hb3,Below.trans HBEL.out (Below.trans (Below.mono HX2.out oV) (Below.trans (Below.mono HX4.out oV) (Below.trans hbel5 hbel3)))⟩,by simp only[RowKit.intOf];omega⟩
  ·go_enter func205,ntmps205
   go_wp2_with fail
   rw[<-HW1.out,<-HS1.out,show ((L:Int)==0)=false by rw[beq_eq_false_iff_ne];omega];refine (Dl w1.heap.size w1.heap.size [] ⟨#[45]⟩ _ HB0.out (by simp[ByteArray.size]) (by rw[B6];omega)).mono ?_;rintro e w4 ⟨rfl,hb4,hbel4⟩;have HB4:RowKit.Hid (BuilderAt 278 5 w1.heap.size w1.heap.size (.pointer (some ⟨w1.heap.size,0,none⟩)) (byteCells [45]) w4):=Lib.hid hb4;have HBEL4:=Lib.hid hbel4;have hs4:=hbel4.size;rw[B6]at hs4;have hc0:w4.cell? ⟨w.heap.size,1,none⟩=some (.slice a L c):=by
    have hsz1:w.heap.size<w1.heap.size:=by rw[HS1.out];omega
    rw[Below.cell hbel4 hsz1,Below.cell (Ext.alloc (Ext.refl w1) _) hsz1,HW1.out,World.cell?_alloc_new];rfl
   clear hb4 hbel4
   go_wp2_with fail
   go_loopw [4] (Ap2 (w1.alloc (Obj.cells #[Value.pointer none,Value.slice none 0 0] 278)) w1.heap.size true z.natAbs) (fun i _=>(RowKit.intOf i+1).toNat)
   case atStart=>exact⟨(Aa z.natAbs).length,A08 _,by rw[<-HL.out],by rw[Xf];exact .inr HB4.out,HBEL4.out⟩
   case round =>
    obtain⟨k,hk,rfl,hbd,hbel⟩:=hrel;have hsz0:=hbel.size;rw[B6]at hsz0;have HXW:RowKit.Hid (Ext w wr):=Lib.hid (Ext.trans HX1.out (Below.trans (Ext.alloc (Ext.refl w1) (Obj.cells #[Value.pointer none,Value.slice none 0 0] 278)) hbel));rcases k with _|k
    ·have hne:Dj true z.natAbs 0≠[]:=by rw[HNEG.out,M9 z hz,D5,Bj];split;simp;exact Gk _
     have HBD:=Lib.hid hbd;clear hbd
     go_wp2_with fail
     refine (Tryz.Builder_String w1.heap.size w1.heap.size (Dj true z.natAbs 0) wr HBD.out hne).mono ?_;rintro e w2 ⟨rfl,hb2⟩
     go_wp2_with fail
     go_ret
     refine⟨?_,Below.trans HXW.out ?_⟩
     ·rw[HNEG.out,M9 z hz];rfl
     ·exact Below.mono hb2 (by have:=HS1.out;omega)
    ·have hsz1:w.heap.size<w1.heap.size:=by rw[HS1.out];omega
     have hc1:wr.cell? ⟨w.heap.size,1,none⟩=some (.slice a L c):=by
      rw[Below.cell hbel hsz1,Below.cell (Ext.alloc (Ext.refl w1) _) hsz1,HW1.out,World.cell?_alloc_new];rfl
     obtain⟨ba,offa,rfl,hca⟩:=HROW.out.at (j:=k) oV;have hcb:=HXW.out.cell hca;clear hca;have hlow:(Aa z.natAbs).getD k 0<1000000000:=(Ao _).getD k;obtain⟨x,hx⟩:∃ x,x=(Aa z.natAbs).getD k 0:=⟨_,rfl⟩;rw[<-hx]at hcb hlow;have XX:=Lib.hid hx;have HBD:=Lib.hid hbd;have HBEL:=Lib.hid hbel;have HK:=Lib.hid hk;clear hx hbd hbel hk hsz1;rw[show ((k+1:Nat):Int)-1=k by omega];have hkL:k<L:=by have:=HK.out;have:=HL.out;omega
     have hsw:(Dj true z.natAbs (k+1)).length<=1+9*L+1:=by have:=U5 true z.natAbs (k+1);rw[<-HL.out]at this;exact this
     have hd9:=Ks hlow;have hdl:=decDigits_length x;have HSW:=Lib.hid hsw;have HDL:=Lib.hid hdl;have HD9:=Lib.hid hd9;clear hsw hdl hd9;by_cases htop:k+1=L
     ·have hkt:¬ ((k:Int)<(L:Int)-1):=oV
      have HTOP:=Lib.hid htop;clear htop
      go_wp2_with fail
      refine (Es x oV _ (Pg HTAB.out HXW.out)).mono ?_;rintro e w2 ⟨rfl,hx2⟩;have HX2:=Lib.hid hx2;clear hx2;have hc2:=HX2.out.cell hc1;clear hc1 hcb
      go_wp2_with fail
      refine (Dl w1.heap.size w1.heap.size (byteCells (Dj true z.natAbs (k+1))) ⟨(decDigits x).toArray⟩ w2 (E1 HBD.out HX2.out) (by rw[byteCells_length,Lib.size_mk,HDL.out];have:=HSW.out;have:=HD9.out;omega) (by have:=HX2.out.size;omega)).mono ?_;rintro e w3 ⟨rfl,hb3,hbel3⟩;have htx:=Wq (neg:=true) (n:=z.natAbs) (k:=k) (by rw[<-HL.out];exact HTOP.out);rw[<-XX.out]at htx;rw[strCells_toArray,K2,<-htx]at hb3
      go_wp2_with fail
      refine⟨⟨k,by rw[<-HL.out];omega,by go_num,.inr hb3,Below.trans HBEL.out (Below.trans (Below.mono HX2.out oV) hbel3)⟩,by simp only[RowKit.intOf];omega⟩
     ·have hkt:(k:Int)<(L:Int)-1:=oV
      have HTOP:=Lib.hid htop;clear htop
      go_wp2_with fail
      refine (Es x oV _ (Pg HTAB.out HXW.out)).mono ?_;rintro e w2 ⟨rfl,hx2⟩;have HX2:=Lib.hid hx2;clear hx2;have hc2:=HX2.out.cell hc1;clear hc1 hcb;have hsl:(⟨(decDigits x).toArray⟩:ByteArray).size=nDigits x:=by rw[Lib.size_mk];exact HDL.out
      go_wp2_with fail
      rw[show wrap64 (9-(nDigits x:Int))=((9-nDigits x:Nat):Int) by have:=HD9.out;unfold wrap64;omega];have hrep:=Tryz.strings_Repeat ⟨#[48]⟩ (9-nDigits x) w2 oV (by have:=HD9.out;simp[ByteArray.size];omega);refine hrep.mono ?_;rintro e w4 ⟨rfl,hx4⟩;have HX4:RowKit.Hid (Ext w2 w4):=Lib.hid hx4;clear hx4 hrep
      go_wp2_with fail
      refine (Dl w1.heap.size w1.heap.size (byteCells (Dj true z.natAbs (k+1))) ⟨(repeatL [48] (9-nDigits x)).toArray⟩ w4 (E1 (E1 HBD.out HX2.out) HX4.out) (by rw[byteCells_length,Lib.size_mk,Ha,A3k];have:=HSW.out;omega) (by have:=HX2.out.size;have:=HX4.out.size;omega)).mono ?_;rintro e w5 ⟨rfl,hb5,hbel5⟩;rw[strCells_toArray,K2]at hb5
      go_wp2_with fail
      refine (Dl w1.heap.size w1.heap.size _ ⟨(decDigits x).toArray⟩ w5 (.inr hb5) (by rw[byteCells_length,Lib.size_mk,HDL.out,A1d,Ha,A3k];have:=HSW.out;have:=HD9.out;omega) (by have:=HX2.out.size;have:=HX4.out.size;have:=hbel5.size;omega)).mono ?_;rintro e w3 ⟨rfl,hb3,hbel3⟩;have htx:=Wc (neg:=true) (n:=z.natAbs) (k:=k) (by rw[<-HL.out];have:=HTOP.out;omega);rw[<-XX.out]at htx;rw[strCells_toArray,K2,A2k,<-htx]at hb3;have h6:=HX2.out.size
      go_wp2_with fail
      refine⟨⟨k,by rw[<-HL.out];omega,by go_num,.inr hb3,Below.trans HBEL.out (Below.trans (Below.mono HX2.out oV) (Below.trans (Below.mono HX4.out oV) (Below.trans hbel5 hbel3)))⟩,by simp only[RowKit.intOf];omega⟩
end
section
open Go.Shelf Go.RowKit Go.Sort Go.Lib
variable {l:List UInt8}
def Anw (g:Il l):∀ (d:Nat),rdA d l<1000000000000000000->parseUintM 18446744073709551615 d l=.ok (rdA d l):=by
 induction l with
 |nil=>intro d _;rfl
 |cons b l ih =>
  intro d h;have n:=g b mV;have j:rdA d (b::l)=rdA (10*d+(b.toNat-48)) l:=rfl;rw[j]at h⊢;have m:10*d+(b.toNat-48)<=rdA (10*d+(b.toNat-48)) l:=by
   rw[Ajz];have:1<=10^l.length:=Nat.one_le_pow _ _ oV;have:=A2h (10*d+(b.toNat-48)) this;omega
  have e:=ih (fun x t=>g x (by simp[t])) (10*d+(b.toNat-48)) h;rw[parseUintM,if_pos n,if_neg oV];rw[show 10*d+(b.toNat-48)=d*10+(b.toNat-48) by omega]at e h m⊢
  first
   |(rw[if_neg oV];exact e)
   |(simp only[];rw[if_neg oV];exact e)
def Anf (d:Il l)(g:l≠[])(e:l.length<=9):parseUintB 64 l=.ok (rd l):=by
 rw[parseUintB,if_neg g];refine Anw d 0 ?_;have h:=Aat d;have j:10^l.length<=10^9:=A10 oV e;have m:rdA 0 l=rd l:=rfl;omega
def K7 {neg:Bool}(e:Il l)(g:l≠[]):trimPrefix (Bj neg l) [45]=l/\hasPrefix (Bj neg l) [45]=neg:=by
 cases neg
 ·cases l with
  |nil=>exact absurd rfl g
  |cons b l =>
   have d:=e b mV;have:¬ (45:UInt8)=b:=by rintro rfl;simp at d
   simp[Bj,trimPrefix,hasPrefix,List.isPrefixOf,this]
 simp[Bj,trimPrefix,hasPrefix,List.isPrefixOf]
def Ag1 {w:World}{B:Nat}{e:TypeId}{a:Option Addr}{n c:Nat}{xs:List Value}(h:w.ownsRow B e 1 (.slice a n c) n xs)(v:xs.length=n):Row w a xs:=by
 intro j u;rcases h.2 with ⟨d,t⟩|⟨g,cap,m,d,t⟩
 ·omega
 simp only[Value.slice.injEq]at d;obtain⟨rfl,_,rfl⟩:=d;refine⟨g,0,rfl,?_⟩;have:=h.cells (g:=g) rfl j (xs.getD j (.bool false)) (by rw[A02,A01 u];rfl);rw[Lib.add_plain]at this;exact this
def Xk (w:World)(e:TypeId)(s:ByteArray):Ext w (bytesWorld w e s):=bytesWorld_below w e s
def At7 (W0:World)(B:Nat)(l:List UInt8)(v i:Value)(wr:World):Prop :=
 ∃ (e:Int) (ys:List Nat),e<=l.length/\i=.int .i64 e/\-9<e/\ys.length+e.toNat<=l.length/\Ty (rd l) (l.take e.toNat) ys/\wr.ownsRow B 219 1 v ys.length (A8 ys)/\Below B W0 wr
def Ao7:(prog.info? 219).map (fun i=>(i.zero,i.size,i.bytes))=some (some (.int .u64 0),1,8):=kV
set_option maxRecDepth 100000 in
def Afn (neg:Bool)(l:List UInt8)(w:World)(hd:Il l)(hl:l≠[])(aq:l.length<=1000000000) :
 Calls prog 136 #[.string ⟨(Bj neg l).toArray⟩] w (Ac0 w (Cd neg (rd l))):=by
 obtain⟨i0,hi,an,ao,ap⟩:=info_parts Ao7;obtain⟨a9,aa⟩:=K7 (neg:=neg) hd hl;have HD:=Lib.hid hd;have HL:=Lib.hid hl;clear hd hl;obtain⟨w1,Y⟩:∃ w1,w1=w.alloc (Obj.cells #[Value.bool false,Value.slice none 0 0] 118):=⟨_,rfl⟩;have a6:w1.heap.size=w.heap.size+1:=by rw[Y];exact B6 _ _
 have Q:=Lib.hid Y;have ae:=Lib.hid a6;clear Y a6
 go_enter func136,ntmps136
 go_wp2_with fail
 rw[<-Q.out];refine (Tryz.strings_CutPrefix ⟨(Bj neg l).toArray⟩ ⟨#[45]⟩ w1).mono ?_;rintro e w2 ⟨rfl,rfl⟩;rw[show trimPrefix (⟨(Bj neg l).toArray⟩:ByteArray).data.toList (⟨#[45]⟩:ByteArray).data.toList=l from a9,show hasPrefix (⟨(Bj neg l).toArray⟩:ByteArray).data.toList (⟨#[45]⟩:ByteArray).data.toList=neg from aa];clear a9 aa
 go_wp2_with fail
 go_loopw [5,6] (At7 w2 w2.heap.size l) (fun _ i _=>(RowKit.intOf i+9).toNat)
 case atStart=>exact⟨l.length,[],oV,mV,oV,mV,⟨Low.nil,by simpa using HD.out,by simp[val]⟩,⟨rfl,.inl ⟨rfl,rfl⟩⟩,Below.refl _ _⟩
 case round =>
  obtain⟨e,ys,he,rfl,av,aw,a8,F,z⟩:=hrel;obtain⟨a,n,c,rfl⟩:∃ a n c,u5=.slice a n c:=by
   rcases F.2 with ⟨H,h2⟩|⟨g,cap,ah,H,h2⟩
   ·exact⟨_,_,_,H⟩
   exact⟨_,_,_,H⟩
  have O:=Lib.hid a8;have m:=Lib.hid F;have v:=Lib.hid z;have az:=z.size;clear a8 F z;by_cases h0:0<e
  ·obtain⟨E,rfl⟩:∃ E:Nat,e=E:=⟨e.toNat,oV⟩;have ai:E<=l.length:=oV;have au:0<E:=oV;have ax:max (0:Int) ((E:Int)-9)=((E-9:Nat):Int):=oV;have ay:∀ W,(Instr.sliceAt 9 (.string ⟨l.toArray⟩) (some (.int .i64 (E-9:Nat))) (some (.int .i64 E)) none).run prog W=.ok (.string ⟨((l.take E).drop (E-9)).toArray⟩) W:=by
    intro W;have H:(0:Int)<=((E-9:Nat):Int)/\((E-9:Nat):Int)<=(E:Int):=oV;have h2:(0:Int)<=(E:Int)/\(E:Int)<=(⟨l.toArray⟩:ByteArray).size:=by rw[Lib.size_mk];omega
    have h3:(⟨l.toArray⟩:ByteArray).extract (E-9) E=⟨((l.take E).drop (E-9)).toArray⟩:=by
     rw[Lib.extract_mk,List.drop_take]
    simp only[Instr.sliceAt,Sem.run_bind,run_underlying Tryz.underlying9,Result.andThen_ok,Instr.slice,Instr.sliceBounds,Instr.sliceBound,asIntOf,Sem.run_pure,if_true,Option.isSome,Sem.run_ite,H,h2,and_self,A23];simp[h3]
   have T:Il ((l.take E).drop (E-9)):=(HD.out.take E).drop (E-9);have V:((l.take E).drop (E-9)).length<=9:=gV;have a2:(l.take E).drop (E-9)≠[]:=by intro h;have:=congrArg List.length h;simp at this;omega
   have a4:=Aat T;have al:rd ((l.take E).drop (E-9))<1000000000:=A2s a4 (by rw[show (1000000000:Nat)=10^9 from rfl];exact A10 oV V);have t:=O.out.step;rw[show (l.take ((E:Int)).toNat)=l.take E from rfl,A1e,A4a ai]at t;have a3:=Tryz.strconv_ParseUint_10_at64_ok ⟨((l.take E).drop (E-9)).toArray⟩ (by rw[Lib.size_mk];omega) (rd ((l.take E).drop (E-9))) (Anf T a2 V) wr;have ad:=Lib.hid a3;have P:=Lib.hid t;clear a3 t a4 T a2 V
   go_wp2_with fail
   obtain⟨d,C⟩:∃ d,d=rd ((l.take E).drop (E-9)):=⟨_,rfl⟩;rw[<-C]at al;have I:=Lib.hid C;clear C;refine ad.out.mono ?_;rintro e w3 ⟨rfl,ab⟩;rw[<-I.out];have R:RowKit.Hid (Ext wr w3):=Lib.hid (by
    rcases ab with rfl|rfl
    ·exact Ext.refl _
    exact Xk _ _ _)
   clear ab;have ar:=R.out.size
   go_wp2_with (at_builtin;refine wpList_append_own _ rfl _ _ 116 rfl w2.heap.size 219 i0 (.int .u64 0) 1 8 Tryz.underlying116 hi an ao ap rfl fV _ _ _ rfl ((Uq m.out R.out).alloc _) ⟨w3.heap.size,0,none⟩ 1 1 [.int .u64 (d:Int)] rfl rfl ?c1 ?c2 ?c3 ?c4 ?c5 ?_)
   case c1 =>
    intro j u hj
    match j,hj with
    |0,hj=>simp at hj;subst hj;simp[Addr.add]
   case c2=>intro u hu;simp at hu;subst hu;rfl
   case c3=>unfold maxLen;omega
   case c4=>omega
   case c5=>simp;omega
   intro v' w4 X U _
   go_wp2_with fail
   refine⟨⟨(E:Int)-9,ys++[d],oV,by go_num,oV,gV,?_,by simpa[A8] using X,?_⟩,by simp only[RowKit.intOf];omega⟩
   ·rw[I.out,show (l.take ((E:Int)-9).toNat)=(l.take E).take (E-9) by rw[List.take_take];congr 1;omega];exact P.out
   have h5:Below w2.heap.size wr w3:=Below.mono R.out oV;exact (((v.out.trans h5).alloc oV _).grown U gV (fun k hk=>(m.out.lt k hk).1))
  have aj:=m.out.1;have N:val ys=rd l:=by
   have:=O.out.sum;rw[show e.toNat=0 by omega]at this;simpa[rd,rdA] using this.symm
  obtain⟨rfl,K⟩:n=ys.length/\ys.length<=c:=by
   rcases m.out.2 with ⟨H,h2⟩|⟨g,cap,ah,H,h2,h3,h4,_⟩
   ·simp at H;omega
   simp at H;obtain⟨_,rfl,rfl⟩:=H;exact⟨rfl,h4⟩
  have L:=Ag1 m.out mV;have J:=Lib.hid L;have a0:=Lib.hid N;clear L N aj
  go_wp2_with fail
  refine (G5 a c ys.length ys wr rfl oV K J.out).mono ?_;rintro e w' ⟨rfl,am⟩;subst am
  go_wp2_with fail
  refine (Aji neg _ (rd l) wr (D3 O.out.low J.out a0.out K) (A04 (A4 (k:=l.length) (A2s (Aat HD.out) (by rw[Ajo];exact A10 oV oV))) oV)).mono ?_;rintro e w5 ⟨v5,rfl,⟨a5,n5,c5,rfl,a7⟩,ac⟩;have a1:=Lib.hid ac;have af:=Lib.hid a7;have ak:w.heap.size<w2.heap.size:=by rw[ae.out];omega
  have Z:RowKit.Hid (w5.heap[w.heap.size]?=some (.cells #[.bool false,.slice none 0 0] 118 (0,0))):=Lib.hid (by
   rw[Below.block a1.out _ oV,v.out.block _ ak,Q.out,Cn])
  have d0:=Auo Z.out;have d1:=As2 Z.out;have f0:=frozen_of_row _ _ 0 _ _ Z.out;have f1:=frozen_of_row _ _ 1 _ _ Z.out;clear a7 ac
  go_wp2_with fail
  have ag:Ext w w5:=by
   refine Ext.trans (b:=w2) (by rw[Q.out];exact Ext.alloc (Ext.refl w) _) ?_;exact Below.trans v.out (Below.mono a1.out oV)
  refine Ac5 rfl rfl (Asg Z.out) rfl ⟨_,rfl,?_,A0h ag (A08 _) _ _⟩;have hs:=af.out.grown (Awa Z.out) (Aza _ _ (.bool (decide (Cd neg (rd l)<0))) (.slice a5 n5 c5));exact Aty rfl hs
end
section
variable {q:Rat}{z:Int}
def Hx (u:PH):Prop:=∀ w,Fj u w->Lib.TabIs prog w "internal/strconv.uint64pow10" .u64 Lib.pow10Tab
def Hx.mono {u d:PH}(h:Hx u)(j:PH.le u d):Hx d:=fun w hp=>h w (fun g o e=>hp g o (j g o e))
section
variable {u:PH} {x:Value}
def Agb {k:Nat}(g:Hx u)(d:k<18446744073709551616):Fn0 prog 204 [.int .u64 (k:Int),.int .i64 10] u fun v _=>v=.string (mkS (Lib.decDigits k)) :=
 Fn0.ofW (fun v _=>v=.string (mkS (Lib.decDigits k))) (fun w hp=>(Es k d w (g w hp)).mono fun _ _ ⟨e,h⟩=>⟨_,e,rfl,h⟩) (fun _ _ _ h _ _ _=>h)
def Jz (h:Lib.nDigits z.natAbs<=400):Fn0 prog 136 [.string (mkS (Lib.itoa z))] u fun v d=>Bi d v z:=by
 refine Fn0.ofW (fun v w=>St w v z) (fun w _=>?_) (fun _ _ _ h _ c _=>Bi.ofW h c);have:=Afn (decide (z<0)) (Lib.decDigits z.natAbs) w (O8 _) (Gk _) (by rw[Lib.decDigits_length];omega);rw[Z8,<-D5]at this;exact this
def Qu (g:Hx u)(h:Bi u x z)(d:nl z.natAbs<=100000000000):Fn0 prog 205 [x] u fun v _=>v=.string (mkS (Lib.itoa z)) :=
 Fn0.ofW (fun v _=>v=.string (mkS (Lib.itoa z))) (fun w hp=>(Zj x z w (h.toW hp) d (g w hp)).mono fun _ _ ⟨e,h⟩=>⟨_,e,rfl,h⟩) (fun _ _ _ h _ _ _=>h)
end
def Dk.at {u:PH}{a:Option Addr}{n c k j:Nat}(h:Dk u (.slice a n c) k)(g:j<(Aa k).length):∃ b off,a=some ⟨b,off,none⟩/\ElP u b (off+j*1) (.int .u64 ((Aa k).getD j 0:Nat)):=by
 obtain⟨C,E,e,F,t⟩:=h;simp only[Value.slice.injEq]at e;obtain⟨rfl,_,rfl⟩:=e;obtain⟨b,off,m,d⟩:=t j (by simpa using g);refine⟨b,off,m,fun i y hi=>?_⟩;have v:(A8 (Aa k)).getD j (.bool false)=.int .u64 ((Aa k).getD j 0:Nat):=by simp[A8,g]
 rw[v]at d;have:i=0/\y=.int .u64 ((Aa k).getD j 0:Nat):=by
  match i,hi with
  |0,hi=>simp[Value.cells]at hi;simp[hi]
 obtain⟨rfl,rfl⟩:=this;simpa using d
def M7 {u:PH}{x:Value}(J:Hx u)(h:Bi u x z)(F:nl z.natAbs<=100000000000):Fn0 prog 162 [x] u fun v _=>v=.int .i64 (Lib.nDigits z.natAbs:Nat):=by
 obtain⟨a,n,c,rfl,m⟩:=h;obtain rfl:n=(Aa z.natAbs).length:=by obtain⟨_,_,g,_⟩:=id m;simp at g;exact g.2.1
 generalize decide (z<0)=b;have H:(Aa z.natAbs).length<=100000000000:=F;refine Fn0.o func162 ?_;by_cases h0:z.natAbs=0
 ·exact G.eT' ((Aa z.natAbs).length:Int) 0 (by rw[h0,A7];rfl)<|G.r (.int .i64 1) ⟨rfl,by rw[h0,Lib.nDigits_small oV];rfl⟩
 have hp:0<(Aa z.natAbs).length:=Df.2 oV;have t:=U4 h0;have d:=(Ao z.natAbs).getD ((Aa z.natAbs).length-1);obtain⟨e,off,rfl,E⟩:=m.at (j:=(Aa z.natAbs).length-1) oV;have K:=Ks d;have C:=Lib.decDigits_length ((Aa z.natAbs).getD ((Aa z.natAbs).length-1) 0);have I:(mkS (Lib.decDigits ((Aa z.natAbs).getD ((Aa z.natAbs).length-1) 0))).size=(Lib.decDigits ((Aa z.natAbs).getD ((Aa z.natAbs).length-1) 0)).length:=Go.Lib.size_mk _;refine G.eF ((Aa z.natAbs).length:Int) 0<|G.s ((Aa z.natAbs).length:Int) 1 (((Aa z.natAbs).length-1:Nat):Int)<|G.mul 9 (((Aa z.natAbs).length-1:Nat):Int) ((9*((Aa z.natAbs).length-1):Nat):Int) kV oV oV oV<|G.a e off (Aa z.natAbs).length c ((Aa z.natAbs).length-1) 1 oV<|G.lU none e (off+((Aa z.natAbs).length-1)*1) (.int .u64 ((Aa z.natAbs).getD ((Aa z.natAbs).length-1) 0:Nat)) E<|G.c call204 (Agb (k:=(Aa z.natAbs).getD ((Aa z.natAbs).length-1) 0) J oV) ?_;rintro O N L rfl;exact G.p ((9*((Aa z.natAbs).length-1):Nat):Int) ((Lib.decDigits ((Aa z.natAbs).getD ((Aa z.natAbs).length-1) 0)).length:Int) ((Lib.nDigits z.natAbs:Nat):Int)<|G.r _ ⟨rfl,rfl⟩
def Aqm {u:PH}{x:Value}(j:Hx u)(e:Bg u x q)(h:Tx q):Fn0 prog 163 [x] u fun v _=>v=.string (mkS (Ae q)):=by
 obtain⟨b,a,n,c,b',E,K,F,rfl⟩:=e.opn;have m:=A04 (Bd h.2) (show 400<=4000000000000 by omega);refine Fn0.o func163<|G.c call157 (Jr e m) ?_;rintro O L d rfl;by_cases g:q.den=1
 ·rw[decide_eq_true g];refine G.c call205 (Qu (j.mono d) (e.num.mono d) (A04 (Bd h.1) oV)) ?_;rintro C t l2 rfl;exact G.r (.string (mkS (Lib.itoa q.num))) ⟨rfl,by rw[Ae,if_pos g]⟩
 rw[decide_eq_false g];refine G.c call205 (Qu (j.mono d) (e.num.mono d) (A04 (Bd h.1) oV)) ?_;rintro C t l2 rfl;have H:=Hh h.1;have I:=Hh h.den;refine G.addS (Lib.itoa q.num) [47] kV gV<|G.c call205 (Qu (j.mono (d.trans l2)) (e.den.mono (d.trans l2)) (A04 (Bd h.den) oV)) ?_;rintro P N J rfl;exact G.addS (Lib.itoa q.num++[47]) (Lib.itoa (q.den:Int)) kV gV<|G.r (.string (mkS (Lib.itoa q.num++[47]++Lib.itoa (q.den:Int)))) ⟨rfl,by rw[Ae,if_neg g];simp⟩
def Uf {u:PH}{x:Value}(g:Hx u)(d:Bg u x q)(h:Tx q):Fn0 prog 108 [x] u fun v _=>v=.tuple #[.string (mkS (Ae q)),.int .i64 0]:=by
 obtain⟨b,a,n,c,b',j,H,m,rfl⟩:=d.opn;have C:=h.2;have t:=h.1;refine Fn0.o func108<|G.c call162 (M7 g d.num (A04 (Bd h.1) oV)) ?_;rintro L I e rfl;refine G.gF (Lib.nDigits q.num.natAbs:Nat) 400<|G.c call162 (M7 (g.mono e) (d.den.mono e) (A04 (Bd h.den) oV)) ?_;rintro N J l2 rfl;have E:=h.den;refine G.gF ((Lib.nDigits ((q.den:Int)).natAbs:Nat):Int) 400<|G.c call163 (Aqm (g.mono (e.trans l2)) (d.mono (e.trans l2)) h) ?_;rintro O K F rfl;exact G.r _ ⟨rfl,rfl⟩
end
section
variable {c:UInt8}{l:List UInt8}{q:Rat}{u:PH}
def Ah1 (h:∀ b∈l,b≠c):Lib.indexByte l c = -1:=by
 induction l with
 |nil=>rfl
 |cons b l ih =>
  have d:(b==c)=false:=by rw[beq_eq_false_iff_ne];exact h b mV
  rw[Lib.indexByte,d,ih (fun x e=>h x (by simp[e]))];rfl
def App {l r:List UInt8}(h:∀ b∈l,b≠c):Lib.indexByte (l++c::r) c=l.length:=by
 induction l with
 |nil=>simp[Lib.indexByte]
 |cons b l ih =>
  have d:(b==c)=false:=by rw[beq_eq_false_iff_ne];exact h b mV
  have e:=ih (fun x j=>h x (by simp[j]));rw[A4x,Lib.indexByte,d,e];have g:(((l.length:Nat):Int) == -1)=false:=by rw[beq_eq_false_iff_ne];omega
  simp[g]
def Ap4 :Fn0 prog 213 [.string (mkS l),.string (mkS [c])] u fun v _=>v=.int .i64 (Lib.indexByte l c) :=
 Fn0.ofW (fun v _=>v=.int .i64 (Lib.indexByte l c)) (fun w _=>(Tryz.stringslite_Index_one (mkS l) c w).mono fun _ _ ⟨e,h⟩=>⟨_,e,rfl,by rw[h];exact Ext.refl _⟩) (fun _ _ _ h _ _ _=>h)
def Azn {T:List UInt8}(h:∀ b∈T,b≠47):Fn0 prog 133 [.string (mkS T),.string (mkS [47])] u fun v _=>v=.tuple #[.string (mkS T),.string (mkS []),.bool false]:=by
 have d:Fn0 prog 184 [.string (mkS T),.string (mkS [47])] u fun v _=>v=.tuple #[.string (mkS T),.string (mkS []),.bool false]:=by
  refine Fn0.o func184<|G.c call213 (Ap4 (l:=T) (c:=47)) ?_;rintro j g e rfl;rw[Ah1 h];exact G.hF (-1) 0<|G.r (.tuple #[.string (mkS T),.string (mkS []),.bool false]) ⟨rfl,rfl⟩
 refine Fn0.o func133<|G.c call184 d ?_;rintro j g e rfl;exact G.r _ ⟨rfl,rfl⟩
def A0l {A B:List UInt8}(h:∀ b∈A,b≠47)(E:(A++47::B).length<=9223372036854775807):Fn0 prog 133 [.string (mkS (A++47::B)),.string (mkS [47])] u fun v _=>v=.tuple #[.string (mkS A),.string (mkS B),.bool true]:=by
 have n:(A++47::B).length=A.length+1+B.length:=gV
 have m:(A++47::B).take A.length=A:=mV
 have d:(A++47::B).drop (A.length+1)=B:=by rw[<-A8r];simp
 have g:=App (r:=B) h;generalize A++47::B=T at *
 have j:(mkS T).size=T.length:=Go.Lib.size_mk _;have e:Fn0 prog 184 [.string (mkS T),.string (mkS [47])] u fun v _=>v=.tuple #[.string (mkS A),.string (mkS B),.bool true]:=by
  refine Fn0.o func184<|G.c call213 (Ap4 (l:=T) (c:=47)) ?_;rintro C z t rfl;rw[g];refine G.hT A.length 0<|G.sliceSTo T A.length kV kV oV ?_;rw[m];refine G.p A.length 1 (A.length+1:Nat)<|G.sliceSFrom T (A.length+1) kV kV oV ?_;rw[d];exact G.r (.tuple #[.string (mkS A),.string (mkS B),.bool true]) ⟨rfl,rfl⟩
 refine Fn0.o func133<|G.c call184 e ?_;rintro C z t rfl;exact G.r _ ⟨rfl,rfl⟩
def Ay5 (h:Tx q):Fn0 prog 133 [.string (mkS (Ae q)),.string (mkS [47])] u fun v _=>v=.tuple #[.string (mkS (Lib.itoa q.num)),.string (mkS (if q.den=1 then [] else Lib.itoa (q.den:Int))),.bool (decide (q.den≠1))]:=by
 have e:=Hh h.1;have l2:=Hh h.den;unfold Ae;by_cases d:q.den=1
 ·rw[if_pos d,if_pos d,decide_eq_false (by simp[d])];exact Azn (O0 _)
 rw[if_neg d,if_neg d,decide_eq_true d];exact A0l (O0 _) gV
def Bg.mk {u:PH}{q:Rat}{y z:Int}{b b':Bool}{a e:Option Addr}{n c j g:Nat}(m:Bi u (.agg #[.bool b,.slice a n c]) y)(t:Bi u (.agg #[.bool b',.slice e j g]) z)(v:q.num=y)(C:(q.den:Int)=z) :
 Bg u (.agg #[.bool b,.slice a n c,.bool b',.slice e j g]) q:=by
 obtain⟨_,_,_,h,E⟩:=m;obtain⟨_,_,_,d,F⟩:=t;subst v C;rw[decide_eq_false oV]at d;simp only[Value.agg.injEq,A5j,A3g,Value.bool.injEq,Value.slice.injEq,and_true]at h d;obtain⟨rfl,rfl,rfl,rfl⟩:=h;obtain⟨rfl,rfl,rfl,rfl⟩:=d;exact⟨_,_,_,_,_,_,rfl,E,F⟩
def Gs (h:Tx q):Fn0 prog 106 [.string (mkS (Ae q))] u fun v L=>Bg L v q:=by
 refine Fn0.o func106<|G.c call133 (Ay5 h) ?_;rintro T R Q rfl;by_cases d:q.den=1
 ·rw[if_pos d,decide_eq_false (by simp[d])];refine G.c call136 (Jz h.1) ?_;intro O K l2 g;obtain⟨t,m,I,E,rfl⟩:=g.opn;have e:=Jz (u:=K) (z:=1) (by rw[Lib.nDigits_small fV];omega);rw[Hf]at e;refine G.c call136 e ?_;intro P N H j;obtain⟨C,n,J,F,rfl⟩:=j.opn;exact G.r (.agg #[.bool t,.slice m I E,.bool C,.slice n J F]) ⟨rfl,Bg.mk (g.mono H) j rfl (by rw[d];rfl)⟩
 rw[if_neg d,decide_eq_true d];refine G.c call136 (Jz h.1) ?_;intro O K l2 g;obtain⟨t,m,I,E,rfl⟩:=g.opn;refine G.c call136 (Jz h.den) ?_;intro P N H j;obtain⟨C,n,J,F,rfl⟩:=j.opn;exact G.r (.agg #[.bool t,.slice m I E,.bool C,.slice n J F]) ⟨rfl,Bg.mk (g.mono H) j rfl rfl⟩
end
section
variable {es:List Value}{sz:Nat}{u:PH}
def Cc (ts:List (List UInt8)):List Value:=ts.map fun t=>Value.string (mkS t)
def Cb (ts:List (List UInt8)):(Cc ts).length=ts.length:=by simp[Cc]
def Gc (ts:List (List UInt8)):A9 1 (Cc ts):=by
 intro e d;simp only[Cc,A1b]at d;obtain⟨b,_,rfl⟩:=d;exact⟨rfl,fun x g=>by simp[Value.cells]at g;subst g;rfl⟩
def Cj (u:PH)(v:Value)(ts:List (List UInt8)):Prop:=Ac u v 1 (Cc ts)
def Ac.opn {v:Value}(h:Ac u v sz es):∃ a c,v=.slice a es.length c:=by
 obtain⟨a,c,rfl,_⟩:=h;exact⟨a,c,rfl⟩
def Ac.at' {a:Option Addr}{n c sz:Nat}(h:Ac u (.slice a n c) sz es){j:Nat}{e:Value}(m:es[j]?=some e):∃ b off,a=some ⟨b,off,none⟩/\ElP u b (off+j*sz) e:=by
 obtain⟨t,v,d,z,g⟩:=h;simp only[Value.slice.injEq]at d;obtain⟨rfl,_,rfl⟩:=d;exact g j e m
end
def Ag2 {u:PH}{v O:Value}{ts ts':List (List UInt8)}(h:Cj u v ts)(C:Cj u O ts')(Y:ts.length<=1000000)(U:ts'.length<=1000000) :
 Fn0 prog 18 [v,O] u fun r _=>r=.bool (decide (ts=ts')):=by
 obtain⟨a,c,rfl⟩:=Ac.opn h;obtain⟨P,I,rfl⟩:=Ac.opn C;rw[Cb]at h C⊢;rw[Cb];refine Fn0.o func18 ?_;by_cases V:ts.length=ts'.length
 ·refine G.nF ts.length ts'.length<|G.l (ι:=Nat) (fun i=>[(0,sV a ts.length c),(1,sV P ts'.length I),(12,iV ts.length),(13,iV i)]) (fun _=>[])
   (fun i W K=>(i<=ts.length/\ts.take i=ts'.take i)/\K=PH.mt) (fun i=>ts.length-i) 0 ⟨⟨oV,mV⟩,rfl⟩ ?_
  rintro J k T W K m ⟨⟨X,g⟩,rfl⟩;by_cases E:k<ts.length
  ·refine G.lT k ts.length ?_;have n:k<ts'.length:=oV;have t:ts[k]?=some ts[k]:=A01 E;have d:ts'[k]?=some ts'[k]:=A01 n;obtain⟨F,L,rfl,Q⟩:=Ac.at' (Ac.mono h m) (j:=k) (e:=.string (mkS ts[k])) (by simp[Cc,t]);obtain⟨H,N,rfl,R⟩:=Ac.at' (Ac.mono C m) (j:=k) (e:=.string (mkS ts'[k])) (by simp[Cc,d]);refine G.a F L ts.length c k 1 oV<|G.lU none F (L+k*1) (.string (mkS ts[k])) Q<|G.a H N ts'.length I k 1 oV<|G.lU none H (N+k*1) (.string (mkS ts'[k])) R ?_;by_cases z:ts[k]=ts'[k]
   ·exact G.y ts[k] ts'[k] z<|G.i k<|G.b (T (k+1) _ _ _ cV m ⟨⟨oV,by rw[A1n,A1n,g,t,d,z]⟩,rfl⟩ oV)
   exact G.x ts[k] ts'[k] z<|G.r (.bool false) ⟨rfl,by rw[decide_eq_false];rintro rfl;exact z rfl⟩
  refine G.lF k ts.length ?_;have:ts=ts':=by rw[A1j oV,A1j oV]at g;exact g
  exact G.r (.bool true) ⟨rfl,by simp[this]⟩
 exact G.nT ts.length ts'.length<|G.r (.bool false) ⟨rfl,by rw[decide_eq_false];rintro rfl;exact V rfl⟩
section
section rules
variable [Cl] {P:Program} [A6 P] {fn:Func} {Post:Ce} {st:List KI×S} {u m:PH}
def Bv.heap {w w':World}(h:Bv u m w)(e:∀ g:Nat,w'.heap[g]?=w.heap[g]?):Bv u m w' :=
 ⟨fun g o d=>by rw[e];exact h.pu g o d,fun g o d=>by rw[e];exact h.pm g o d,h.ap,fun g cs t fr j z d n=>h.cl g cs t fr j z (by rw[<-e];exact d) n⟩
def G.convSB (d:Option TypeDesc)(e:TypeId)(l:List UInt8)(h:Aj P (adv P st)=.conv d (some (.slice e)) (.string (mkS l)))(Z:d.isSome=true)(he:P.underlying e=some (.int .u8))
 (k:∀ v n,PH.le u n->Ac n v 1 (Fn l)->G P fn Post (nx (adv P st) v) n m):G P fn Post st u m:=by
 refine G.big (K:=fun T n R=>R=m/\Ac n T 1 (Fn l)) h mV (fun J op hv=>?_) (.inl fun v n R F=>by rw[F.1];exact PH.le_refl _) (fun J o t w N=>?_) (fun T n R O F=>?_)
 ·obtain⟨s,U,X,rfl,_,_,I⟩:=Ln hv;exact Acg I mV
 ·obtain⟨s,U,X,V,W,Y,I⟩:=Ln t;obtain⟨dst,a0,type,pos,after,guard⟩:=o;simp only at V;subst V;obtain⟨dd,rfl⟩:=A6a.1 Z;have hr:=Lib.run_convert_string_bytes (P:=P) w s U e (mkS l) Y I he;have Q:(mkS l).size=l.length:=Go.Lib.size_mk l;obtain⟨g1,g2,g3,g4⟩:=N.newU (.cells (Lib.bytesCells w e (mkS l)) e ((Lib.bytesCells w e (mkS l)).size,(Lib.bytesCells w e (mkS l)).size+1));have hh:∀ g:Nat,(Lib.bytesWorld w e (mkS l)).heap[g]?=(w.alloc (.cells (Lib.bytesCells w e (mkS l)) e ((Lib.bytesCells w e (mkS l)).size,(Lib.bytesCells w e (mkS l)).size+1))).heap[g]?:=by
   intro g;rcases A5u g w.heap.size with z|z|z
   ·rw[Lib.bytesWorld_at_old w e _ g z,Aq _ _ z]
   ·subst z;rw[Lib.bytesWorld_at_new,Cn]
   rw[A43 (by rw[Lib.bytesWorld_size];omega),A43 (by rw[B6];omega)]
  refine B8 (by simp[execOp,W,hr];rfl) ⟨_,m,g1.heap hh,⟨by rw[Lib.bytesWorld_size];omega,fun g hg hm=>Lib.bytesWorld_at_old w e _ g hg,g2.us,g2.ms,⟨rfl,rfl⟩,fun _=>⟨rfl,by first|exact A08 _|exact Nat.le_succ _⟩⟩,rfl,?_⟩
  refine⟨some ⟨w.heap.size,0,none⟩,grownCap w l.length 0 e,by rw[Au,Q],by rw[Au];exact grownCap_ge w _ _ e,fun j x C=>⟨_,0,rfl,fun i y H=>⟨_,_,_,Ab _ _ _,?_⟩⟩⟩;have E:j<l.length:=by
   rcases A2e j l.length with L|L
   ·exact L
   rw[A1v (by rw[Au];exact L)]at C;cases C
  rw[Ht E]at C;simp only[A1f]at C;subst C;have:i=0/\y=.int .u8 ((l.getD j 0).toNat:Int):=by
   match i,H with
   |0,H=>simp[Value.cells]at H;simp[H]
  obtain⟨rfl,rfl⟩:=this;simp[Lib.bytesCells,Array.getElem?_append,E,List.getD]
 obtain⟨rfl,F⟩:=F;exact k T n O F
end rules
def Ux {u:PH}{s p:List UInt8}:Fn0 prog 185 [.string (mkS s),.string (mkS p)] u fun v _=>v=.string (mkS (Lib.trimPrefix s p)) :=
 Fn0.ofW (fun v _=>v=.string (mkS (Lib.trimPrefix s p))) (fun w _=>(Tryz.strings_TrimPrefix (mkS s) (mkS p) w).mono fun _ _ ⟨e,h⟩=>⟨_,e,rfl,by rw[h];exact Ext.refl _⟩) (fun _ _ _ h _ _ _=>h)
def Jn {u:PH}{z:Int}(h:Lib.nDigits z.natAbs<=400):Fn0 prog 134 [.string (mkS (Lib.itoa z))] u fun v _=>v=.bool true:=by
 refine Fn0.o func134 ?_;by_cases h0:z=0
 ·subst h0;exact G.q (Lib.itoa 0) [48] E5<|G.r (.bool true) ⟨rfl,rfl⟩
 refine G.w (Lib.itoa z) [48] (fun e=>h0 (Im (e.trans E5.symm)))<|G.c call185 (Ux (s:=Lib.itoa z) (p:=[45])) ?_;rintro v1 Z X rfl;have n:=Lib.decDigits_length z.natAbs;have U:=Lib.nDigits_pos z.natAbs;have g:=O8 z.natAbs;obtain⟨H,d,R,T⟩:=Qv (z:=(z.natAbs:Int)) oV oV;rw[Yc]at d;rw[D5 z,(K7 g (Gk _)).1];generalize V:Lib.decDigits z.natAbs=L at *
 have E:(mkS L).size=L.length:=Go.Lib.size_mk _;refine G.w L [] (by intro e;rw[e]at n;simp at n;omega)<|G.gF L.length 400<|G.idxS L 0 H kV d<|G.cmpG .eql .u8 (H.toNat:Int) 48 false kV rfl (by simp only[Db,decide_eq_false_iff_not];omega)<|G.convSB (some .string) 5 L kV rfl kV ?_;intro v2 u2 l2 F;obtain⟨a,c,rfl⟩:=Ac.opn F;rw[Au]at F⊢;refine G.l (ι:=Nat) (fun i=>[(23,sV a L.length c),(24,iV L.length),(25,iV i)]) (fun _=>[]) (fun i _ K=>i<=L.length/\K=PH.mt) (fun i=>L.length-i) 0 ⟨oV,rfl⟩ ?_;rintro J i Q Y K t ⟨hi,rfl⟩;by_cases C:i<L.length
 ·refine G.lT i L.length ?_;have W:=Mh g C;obtain⟨I,N,rfl,O⟩:=Ac.at' (Ac.mono F t) (j:=i) (Ht C);exact G.a I N L.length c i 1 oV<|G.lU none I (N+i*1) (.int .u8 ((L.getD i 0).toNat:Int)) O<|G.cmpG .lss .u8 ((L.getD i 0).toNat:Int) 48 false kV rfl (by simp only[Db,decide_eq_false_iff_not];omega)<|G.cmpG .gtr .u8 ((L.getD i 0).toNat:Int) 57 false kV rfl (by simp only[Db,decide_eq_false_iff_not];omega)<|G.i i<|G.b (Q (i+1) _ _ _ cV t ⟨oV,rfl⟩ oV)
 exact G.lF i L.length<|G.r (.bool true) ⟨rfl,rfl⟩
end
section
variable {u:PH}{z:Int}
def Zc (h:Lib.nDigits z.natAbs<=400):Fn0 prog 169 [.string (mkS (Lib.itoa z))] u fun v n=>Bi n v z:=by
 refine Fn0.o func169<|G.c call136 (Jz h) ?_;intro C t l2 d;obtain⟨g,e,m,j,rfl⟩:=d.opn;exact G.r (.agg #[.bool g,.slice e m j]) ⟨rfl,d⟩
def Aet {y z:Int}(h:Lib.nDigits y.natAbs<=400)(d:Lib.nDigits z.natAbs<=400):Fn0 prog 135 [.string (mkS (Lib.itoa y)),.string (mkS (Lib.itoa z))] u fun v _=>v=.int .i64 (sgn (y-z)):=by
 refine Fn0.o func135<|G.c call134 (Jn h) ?_;rintro T N H rfl;refine G.c call134 (Jn d) ?_;rintro U O l2 rfl;refine G.c call169 (Zc h) ?_;intro V P I e;obtain⟨t,m,K,E,rfl⟩:=e.opn;refine G.c call169 (Zc d) ?_;intro W Q j g;obtain⟨C,n,L,F,rfl⟩:=g.opn;refine G.c call138 (Kx (e.mono j) g (A04 (Bd h) oV) (A04 (Bd d) oV)) ?_;rintro X R J rfl;exact G.r _ ⟨rfl,rfl⟩
def Gu {q:Rat}(h:Tx q):Fn0 prog 75 [.string (mkS (Ae q))] u fun v _=>v=.bool true:=by
 refine Fn0.o func75<|G.c call133 (Ay5 h) ?_;rintro v1 u1 Z rfl;refine G.c call134 (Jn h.1) ?_;rintro v2 u2 l2 rfl;by_cases d:q.den=1
 ·rw[if_pos d,decide_eq_false (by simp[d])];refine G.c call134 (Jn h.1) ?_;rintro K C H rfl;exact G.r (.bool true) ⟨rfl,rfl⟩
 rw[if_neg d,decide_eq_true d];have F:=Ao0 d;have E:=q.den_nz;refine G.w (Lib.itoa q.num) [48] (fun e=>F (Im (e.trans E5.symm)))<|G.c call134 (Jn h.den) ?_;rintro K C H rfl;have j:=Aet (u:=C) (y:=(q.den:Int)) (z:=1) h.den (by rw[Lib.nDigits_small fV];omega);rw[Hf]at j;refine G.c call135 j ?_;rintro v4 u4 l4 rfl;refine G.kF' (sgn ((q.den:Int)-1)) 0 (by rw[C5 oV];omega)<|G.c call136 (Jz h.1) ?_;intro v5 u5 l5 m;obtain⟨Q,L,n5,V,rfl⟩:=m.opn;refine G.c call136 (Jz h.den) ?_;intro v6 u6 I n;obtain⟨R,N,n6,W,rfl⟩:=n.opn;refine G.c call137 (Ac4 (m.mono I) n (A04 (Bd h.1) oV) (A04 (Bd h.den) oV)) ?_;intro v7 u7 l7 g;rw[show Nat.gcd q.num.natAbs ((q.den:Int)).natAbs=1 from q.reduced]at g;obtain⟨T,O,n7,X,rfl⟩:=g.opn;refine G.c call139 (Kf (z:=1) oV oV) ?_;intro v8 u8 J t;obtain⟨U,P,n8,Y,rfl⟩:=t.opn;refine G.c call138 (Kx (g.mono J) t (A04 Tm oV) (A04 Tm oV)) ?_;rintro v9 u9 l9 rfl;exact G.eT' (sgn (((1:Nat):Int)-1)) 0 fV<|G.r (.bool true) ⟨rfl,rfl⟩
end
section
variable {L s:List UInt8}{i:Nat}
def Bjg (b:UInt8):Bool:=decide (48<=b.toNat)&&decide (b.toNat<=57)
def vL (L:List UInt8):Bool:=decide (L≠[])&&decide (L.length<=400)&&decide (L.head?≠some 48)&&L.all Bjg
def vI (s:List UInt8):Bool:=decide (s = [48])||vL (Lib.trimPrefix s [45])
def Bno :L.all Bjg=true↔Il L:=by
 simp only[A1o,Bjg,A1m,decide_eq_true_eq,Il]
def Bkv (b:UInt8)(l:List UInt8):Lib.trimPrefix (b::l) [45]=if b=45 then l else b::l:=by
 unfold Lib.trimPrefix Lib.hasPrefix;by_cases e:b=45
 ·subst e;rfl
 rw[if_neg e,if_neg];simp only[List.isPrefixOf,Bool.and_true,beq_iff_eq];exact fun h=>e h.symm
def Bk4 (b:UInt8)(l:List UInt8):rd (b::l)=(b.toNat-48)*10^l.length+rd l:=by
 show rdA (10*0+(b.toNat-48)) l=_;rw[Ajz];simp
def Bpk:∀ {l d:List UInt8},Il l->Il d->l.length=d.length->rd l=rd d->l=d
 |[],[],_,_,_,_=>rfl
 |[],_::_,_,_,h,_=>by simp at h
 |_::_,[],_,_,h,_=>by simp at h
 |b::l,b'::d,hd,hd',hl,hr=>by
  have n:Il l:=fun x j=>hd x (by simp[j]);have t:Il d:=fun x j=>hd' x (by simp[j]);have g:l.length=d.length:=by simpa using hl
  rw[Bk4,Bk4,g]at hr;have m:=Aat n;have u:=Aat t;rw[g]at m;have p:0<10^d.length:=A66 oV;have e:b.toNat-48=b'.toNat-48:=by
   have:=congrArg (· / 10^d.length) hr;simp only[A19 _ (10^d.length),Bbi p,A49 m,A49 u]at this;omega
  have z:=hd b mV;have C:=hd' b' mV;have v:b=b':=A8p.1 oV;subst v;rw[Bpk n t g oV]
def Br7 (m:Il L)(H:L≠[])(h0:L.head?≠some 48):0<rd L/\Lib.decDigits (rd L)=L:=by
 obtain⟨b,l,rfl⟩:=List.exists_cons_of_ne_nil H;have j:b≠48:=fun e=>h0 (by rw[e];rfl);have K:=m b mV;have g:1<=b.toNat-48:=by
  have:b.toNat≠48:=fun e=>j (A8p.1 (by simpa using e));omega
 have d:10^l.length<=rd (b::l):=by
  rw[Bk4];have:=A13 (10^l.length) g;omega
 have h:0<rd (b::l):=A2s (A66 oV) d;refine⟨h,?_⟩;have u:=Aat m;generalize t:rd (b::l)=n at *
 have v:=O8 n;have z:=Aiu n;have J:=Lib.decDigits_length n;have C:=Aat v;rw[z]at C;have F:=Hd (n:=n) oV;have I:l.length<(Lib.decDigits n).length:=(A7l oV).1 (A22 d C);have E:Lib.nDigits n-1<(b::l).length:=(A7l oV).1 (A22 F u);refine Bpk v m ?_ (by rw[z,t]);rw[A3f]at E⊢;omega
def Bro {n:Nat}(j:n≠0)(h:Lib.nDigits n<=400):vL (Lib.decDigits n)=true:=by
 unfold vL;simp only[A1m,decide_eq_true_eq,Bno];refine⟨⟨⟨Gk n,by rw[Lib.decDigits_length];exact h⟩,fun e=>?_⟩,O8 n⟩;have g:=Afj n;have d:=Aof j;rw[List.head?_eq_getElem?,g]at e;have e:=A28 e;rw[e]at d;exact absurd d fV
def Bri {z:Int}(h:Lib.nDigits z.natAbs<=400):vI (Lib.itoa z)=true:=by
 unfold vI;by_cases h0:z=0
 ·subst h0;rw[E5];rfl
 rw[D5 z,(K7 (O8 _) (Gk _)).1,Bro oV h,Bool.or_true]
def Bhh (h:vI s=true):∃ z:Int,Lib.nDigits z.natAbs<=400/\s=Lib.itoa z:=by
 unfold vI at h;rw[A4b,decide_eq_true_eq]at h;rcases h with rfl|h
 ·exact⟨0,by rw[Lib.nDigits_small fV];omega,E5.symm⟩
 unfold vL at h;simp only[A1m,decide_eq_true_eq,Bno]at h;obtain⟨⟨⟨d,g⟩,j⟩,m⟩:=h;obtain⟨p,e⟩:=Br7 m d j;have el:=Lib.decDigits_length (rd (Lib.trimPrefix s [45]));rw[e]at el;cases s with
 |nil=>exact absurd rfl d
 |cons b l =>
  rw[Bkv]at *
  split at e
  ·rename_i hb;subst hb;rw[if_pos rfl]at *
   refine⟨-(rd l:Int),by rw[A3l,A1s,<-el];exact g,?_⟩;rw[D5,A3l,A1s,e,decide_eq_true oV];rfl
  rename_i hb;rw[if_neg hb]at *
  refine⟨(rd (b::l):Int),by rw[A1s,<-el];exact g,?_⟩;rw[Yc,e]
def Bll (hi:i<L.length)(h:Bjg (L.getD i 0)=true)(d:(L.take i).all Bjg=true):(L.take (i+1)).all Bjg=true:=by
 rw[A1n,List.all_append,d,D1 hi];simpa using h
def Bji (hi:i<L.length)(h:Bjg (L.getD i 0)=false):L.all Bjg=false:=by
 rw[List.all_eq_false];exact⟨_,A1k (D1 hi),by rw[h];simp⟩
def Bnp (b:UInt8):Bjg b=(!Db .lss (b.toNat:Int) 48 && !Db .gtr (b.toNat:Int) 57):=by
 rw[A9j];unfold Bjg;simp only[Db,A1m,decide_eq_true_eq,A3w,decide_eq_false_iff_not];omega
def Bpg (h:s≠[48])(d:Lib.trimPrefix s [45]=L):vI s=vL L:=by
 unfold vI;rw[decide_eq_false h,d,A80]
def Bnm (h:L≠[]):L.head?=some (L.getD 0 0):=by
 cases L with
 |nil=>exact absurd rfl h
 |cons a l=>rfl
end
section
variable {u:PH}
def Bhe (s:List UInt8)(Q:s.length<=9223372036854775807):Fn0 prog 134 [.string (mkS s)] u fun v _=>v=.bool (vI s):=by
 refine Fn0.o func134 ?_;by_cases h0:s = [48]
 ·subst h0;exact G.q [48] [48] rfl<|G.r (.bool true) ⟨rfl,rfl⟩
 refine G.w s [48] h0<|G.c call185 (Ux (s:=s) (p:=[45])) ?_;rintro X V T rfl;rw[Bpg h0 rfl];have R:(Lib.trimPrefix s [45]).length<=9223372036854775807:=by
  unfold Lib.trimPrefix;split
  ·rw[A4y];omega
  exact Q
 generalize Lib.trimPrefix s [45]=L at *
 have z:(mkS L).size=L.length:=Go.Lib.size_mk _;unfold vL;by_cases e:L = []
 ·subst e;exact G.q [] [] rfl<|G.r (.bool false) ⟨rfl,rfl⟩
 refine G.w L [] e ?_;have O:0<L.length:=A4f.2 e;by_cases F:L.length<=400
 rotate_left
 ·exact G.gT L.length 400<|G.r (.bool false) ⟨rfl,by rw[decide_eq_false F];simp⟩
 refine G.gF L.length 400<|G.idxS L 0 (L.getD 0 0) kV (D1 O) ?_;rw[decide_eq_true e,decide_eq_true F,Bnm e];by_cases m:L.getD 0 0=48
 ·rw[m];exact G.cmpG .eql .u8 48 48 true kV rfl rfl<|G.r (.bool false) ⟨rfl,rfl⟩
 have K:((L.getD 0 0).toNat:Int)≠48:=fun h=>m (A8p.1 (by simpa using Int.ofNat.inj h));refine G.cmpG .eql .u8 ((L.getD 0 0).toNat:Int) 48 false kV rfl (by simp only[Db,decide_eq_false_iff_not];exact K) ?_;rw[show (decide (some (L.getD 0 0)≠some 48))=true from decide_eq_true fun h=>m (A28 h)];refine G.convSB (some .string) 5 L kV rfl kV ?_;intro Y W l2 C;obtain⟨a,c,rfl⟩:=Ac.opn C;rw[Au]at C⊢;refine G.l (ι:=Nat) (fun i=>[(23,sV a L.length c),(24,iV L.length),(25,iV i)]) (fun _=>[]) (fun i _ H=>i<=L.length/\(L.take i).all Bjg=true/\H=PH.mt) (fun i=>L.length-i) 0 ⟨oV,rfl,rfl⟩ ?_;rintro J i P U H g ⟨hi,n,rfl⟩;by_cases d:i<L.length
 ·refine G.lT i L.length ?_;obtain⟨E,I,rfl,N⟩:=Ac.at' (Ac.mono C g) (j:=i) (Ht d);refine G.a E I L.length c i 1 oV<|G.lU none E (I+i*1) (.int .u8 ((L.getD i 0).toNat:Int)) N ?_;have t:=Bnp (L.getD i 0);by_cases g1:((L.getD i 0).toNat:Int)<48
  ·exact G.cmpG .lss .u8 ((L.getD i 0).toNat:Int) 48 true kV rfl (by simp only[Db,decide_eq_true_eq];exact g1)<|G.r (.bool false) ⟨rfl,by rw[Bji d (by rw[t];simp only[Db,decide_eq_true g1];rfl)];rfl⟩
  refine G.cmpG .lss .u8 ((L.getD i 0).toNat:Int) 48 false kV rfl (by simp only[Db,decide_eq_false_iff_not];exact g1) ?_;by_cases g2:((L.getD i 0).toNat:Int)>57
  ·exact G.cmpG .gtr .u8 ((L.getD i 0).toNat:Int) 57 true kV rfl (by simp only[Db,decide_eq_true_eq];exact g2)<|G.r (.bool false) ⟨rfl,by rw[Bji d (by rw[t];simp only[Db,decide_eq_true g2,A72,Bool.and_false])];rfl⟩
  exact G.cmpG .gtr .u8 ((L.getD i 0).toNat:Int) 57 false kV rfl (by simp only[Db,decide_eq_false_iff_not];exact g2)<|G.i i<|G.b (P (i+1) _ _ _ cV g ⟨oV,Bll d (by rw[t];simp only[Db,decide_eq_false g1,decide_eq_false g2];rfl) n,rfl⟩ oV)
 refine G.lF i L.length ?_;obtain rfl:i=L.length:=oV;rw[A15]at n;exact G.r (.bool true) ⟨rfl,by rw[n];rfl⟩
def Bi4 (s:List UInt8)(P:s.length<=9223372036854775807):Fn0 prog 172 [.string (mkS s)] u fun v _=>v=.bool (vI s):=by
 refine Fn0.o func172 ?_;by_cases h0:s = [48]
 ·subst h0;exact G.q [48] [48] rfl<|G.r (.bool true) ⟨rfl,rfl⟩
 refine G.w s [48] h0 ?_;by_cases C:s = []
 ·subst C;exact G.gF 0 0<|G.eT' 0 0 rfl<|G.r (.bool false) ⟨rfl,rfl⟩
 have hp:0<s.length:=A4f.2 C;refine G.gT s.length 0<|G.idxS s 0 (s.getD 0 0) kV (D1 hp) ?_;have g:Lib.trimPrefix s [45]=if s.getD 0 0=45 then s.drop 1 else s:=by
  cases s with
  |nil=>exact absurd rfl C
  |cons b l=>rw[Bkv];rfl
 refine dite (s.getD 0 0=45) (fun z=>?A) (fun z=>?B)
 case' A =>
  rw[if_pos z]at g;rw[z];refine G.cmpG .eql .u8 45 45 true kV rfl rfl<|G.sliceSFrom s 1 kV kV oV ?_;rw[Bpg h0 g];obtain⟨L,e⟩:∃ L,s.drop 1=L:=⟨_,rfl⟩;have O:L.length<=9223372036854775807:=by rw[<-e,A4y];omega
  rw[e]
 case' B =>
  rw[if_neg z]at g;refine G.cmpG .eql .u8 ((s.getD 0 0).toNat:Int) 45 false kV rfl (by simp only[Db,decide_eq_false_iff_not];exact fun h=>z (A8p.1 (by simpa using Int.ofNat.inj h))) ?_;rw[Bpg h0 g];obtain⟨L,e⟩:∃ L,s=L:=⟨_,rfl⟩;have O:L.length<=9223372036854775807:=by rw[<-e];exact P
  rw[e]
 all_goals
  clear g z e;unfold vL;by_cases j:L = []
  ·subst j;exact G.eT' 0 0 rfl<|G.r (.bool false) ⟨rfl,rfl⟩
  have K:0<L.length:=A4f.2 j;refine G.eF L.length 0 ?_;by_cases F:L.length<=400
  rotate_left
  ·exact G.gT L.length 400<|G.r (.bool false) ⟨rfl,by rw[decide_eq_false F];simp⟩
  refine G.gF L.length 400<|G.idxS L 0 (L.getD 0 0) kV (D1 K) ?_;rw[decide_eq_true j,decide_eq_true F,Bnm j];by_cases m:L.getD 0 0=48
  ·rw[m];exact G.cmpG .eql .u8 48 48 true kV rfl rfl<|G.r (.bool false) ⟨rfl,rfl⟩
  have I:((L.getD 0 0).toNat:Int)≠48:=fun h=>m (A8p.1 (by simpa using Int.ofNat.inj h));refine G.cmpG .eql .u8 ((L.getD 0 0).toNat:Int) 48 false kV rfl (by simp only[Db,decide_eq_false_iff_not];exact I) ?_;rw[show (decide (some (L.getD 0 0)≠some 48))=true from decide_eq_true fun h=>m (A28 h)];refine G.l (ι:=Nat) (fun i=>[(3,tV L),(4,iV i)]) (fun _=>[]) (fun i _ H=>i<=L.length/\(L.take i).all Bjg=true/\H=PH.mt) (fun i=>L.length-i) 0 ⟨oV,rfl,rfl⟩ ?_;rintro J i N Q H t ⟨hi,n,rfl⟩;by_cases d:i<L.length
  ·refine G.lT i L.length<|G.idxS L i _ kV (D1 d) ?_;have E:=Bnp (L.getD i 0);by_cases g1:((L.getD i 0).toNat:Int)<48
   ·exact G.cmpG .lss .u8 ((L.getD i 0).toNat:Int) 48 true kV rfl (by simp only[Db,decide_eq_true_eq];exact g1)<|G.r (.bool false) ⟨rfl,by rw[Bji d (by rw[E];simp only[Db,decide_eq_true g1];rfl)];rfl⟩
   refine G.cmpG .lss .u8 ((L.getD i 0).toNat:Int) 48 false kV rfl (by simp only[Db,decide_eq_false_iff_not];exact g1)<|G.idxS L i _ kV (D1 d) ?_;by_cases g2:((L.getD i 0).toNat:Int)>57
   ·exact G.cmpG .gtr .u8 ((L.getD i 0).toNat:Int) 57 true kV rfl (by simp only[Db,decide_eq_true_eq];exact g2)<|G.r (.bool false) ⟨rfl,by rw[Bji d (by rw[E];simp only[Db,decide_eq_true g2,A72,Bool.and_false])];rfl⟩
   exact G.cmpG .gtr .u8 ((L.getD i 0).toNat:Int) 57 false kV rfl (by simp only[Db,decide_eq_false_iff_not];exact g2)<|G.i i<|G.b (N (i+1) _ _ _ cV t ⟨oV,Bll d (by rw[E];simp only[Db,decide_eq_false g1,decide_eq_false g2];rfl) n,rfl⟩ oV)
  refine G.lF i L.length ?_;obtain rfl:i=L.length:=oV;rw[A15]at n;exact G.r (.bool true) ⟨rfl,by rw[n];rfl⟩
end
section
variable {g j k:Nat}{x:SV}
variable [Cl] [Co]
def SV.pub (k g:Nat):SV->SV
 |.p j off=>cond (Nat.beq j k) (.v (.pointer (some ⟨g,off,none⟩))) (.p j off)
 |x=>x
def Blk.pub (k g:Nat)(b:Blk):Blk:=⟨b.t,b.cells.map (SV.pub k g)⟩
def S.pub (s:S)(k g:Nat):S:={ n:=s.n,tm:=fun d=>(s.tm d).pub k g,hp:=fun j=>cond (Nat.beq j k) none ((s.hp j).map (Blk.pub k g)) }
def SV.pub_den (k:Nat)(ρ:Nat->Nat)(x:SV):(x.pub k (ρ k)).den ρ=x.den ρ:=by
 cases x with
 |junk=>rfl
 |v x=>rfl
 |p j off =>
  cases hb:Nat.beq j k with
  |true=>have:=A1y hb;subst this;simp[SV.pub,SV.den]
  |false=>simp[SV.pub,hb]
def SV.pub_junk :x.pub k g≠.junk↔x≠.junk:=by
 cases x with
 |junk=>simp[SV.pub]
 |v x=>simp[SV.pub]
 |p j off=>cases hb:Nat.beq j k<;>simp[SV.pub,hb]
def SV.pub_p {k g j off:Nat}(h:x.pub k g=.p j off):x=.p j off/\j≠k:=by
 cases x with
 |junk=>cases h
 |v x=>cases h
 |p j' off' =>
  cases hb:Nat.beq j' k with
  |true=>simp[SV.pub,hb]at h
  |false =>
   simp[SV.pub,hb]at h;obtain⟨rfl,rfl⟩:=h;exact⟨rfl,fun e=>by subst e;simp at hb⟩
def Om (s:S)(k g:Nat):(s.pub k g).hp k=none:=by simp[S.pub]
def Lo (s:S)(h:j≠k):(s.pub k g).hp j=(s.hp j).map (Blk.pub k g):=by
 have:Nat.beq j k=false:=by rw[<-A87];exact fun d=>h (A1y d)
 simp[S.pub,this]
section rules
variable {c:Cx} {s:S} {u m:PH} {ρ:Nat->Nat} {a:Act} {w:World}
def Rel.pub (h:Rel c s u m ρ a w){k:Nat}{t:TypeId}{xs:List Value}(Z:s.hp k=some ⟨t,xs.map SV.v⟩):Rel c (s.pub k (ρ k)) u (m.upd (ρ k) (.cells xs.toArray t (0,0))) ρ a w:=by
 obtain⟨⟨cs,Y,e2,e3⟩,e4,e5,e6⟩:=h.box k _ Z;have R:cs=xs.toArray:=by
  apply Array.ext
  ·simpa using e2
  intro i H I;have:=e3 i (.v xs[i]) (by simp at I;simp[I]) mV;rw[A2v H]at this;simpa[SV.den] using this
 subst R;have V:∀ j,s.hp j≠none->j≠k->ρ j≠ρ k:=fun j F n e=>n (h.inj j k F (by rw[Z];simp) e);refine⟨h.sz,fun d T=>?_,h.df.of fun r e _ hu J=>⟨e,hu,by rw[Ad _ _ (fun e'=>by rw[e',Y]at e;cases e)];exact J⟩,fun j b N=>?_,fun i j hi F he=>?_,⟨fun d j off T=>?_,fun i b j off hi J=>?_⟩,⟨h.gd.pu,fun g o E=>?_,fun g=>?_,h.gd.cl⟩,⟨h.gr.sz,h.gr.old,h.gr.us,fun g E J=>?_,h.gr.io,h.gr.dr⟩⟩
 ·have U:s.tm d≠.junk:=SV.pub_junk.1 T;show a.tmps[d]?=some (((s.tm d).pub k (ρ k)).den ρ);rw[SV.pub_den];exact h.tm d U
 ·by_cases n:j=k
  ·subst n;rw[Om]at N;cases N
  rw[Lo _ n]at N;obtain⟨O,C,rfl⟩:=A5n.1 N;obtain⟨⟨Q,f1,f2,f3⟩,f4,f5,f6⟩:=h.box j O C;refine⟨⟨Q,f1,by simp[Blk.pub,f2],fun i x hi hx=>?_⟩,f4,f5,?_⟩
  ·simp only[Blk.pub,A1a]at hi;obtain⟨y,W,rfl⟩:=A5n.1 hi;rw[SV.pub_den];exact f3 i y W (SV.pub_junk.1 hx)
  rw[Ad _ _ (V j (by rw[C];simp) n)];exact f6
 ·have H:∀ j,(s.pub k (ρ k)).hp j≠none->s.hp j≠none:=by
   intro j F L;by_cases n:j=k
   ·subst n;exact F (Om _ _ _)
   rw[Lo _ n,L]at F;exact F rfl
  exact h.inj i j (H i hi) (H j F) he
 ·obtain⟨H,I⟩:=SV.pub_p T;rw[Lo _ I];have:=h.lv.1 d j off H;intro L;exact this (by simpa using L)
 ·by_cases K:i=k
  ·subst K;rw[Om]at hi;cases hi
  rw[Lo _ K]at hi;obtain⟨O,C,rfl⟩:=A5n.1 hi;simp only[Blk.pub,A1b]at J;obtain⟨y,W,X⟩:=J;obtain⟨rfl,I⟩:=SV.pub_p X;rw[Lo _ I];have:=h.lv.2 i O j off C W;intro L;exact this (by simpa using L)
 ·by_cases z:g=ρ k
  ·subst z;rw[Ab]at E;simp only[A1f]at E;subst E;exact Y
  rw[Ad _ _ z]at E;exact h.gd.pm g o E
 ·by_cases z:g=ρ k
  ·subst z;exact .inl e5
  rw[Ad _ _ z];exact h.gd.ap g
 rw[Ad _ _ oV];exact h.gr.ms g E J
end rules
section rules2
variable {P:Program} [A6 P] {fn:Func} {Post:Ce} {st:List KI×S} {u m:PH}
def G.pub (k:Nat)(t:TypeId)(xs:List Value)(h:Bgr (ctl P 100 st).1=true)(e:(ctl P 100 st).2.hp k=some ⟨t,xs.map SV.v⟩)
 (E:∀ g,u g=none->m g=none->G P fn Post ((ctl P 100 st).1,(ctl P 100 st).2.pub k g) u (m.upd g (.cells xs.toArray t (0,0)))):G P fn Post st u m:=by
 refine⟨L3 100 st ?_⟩;rw[Sym.ofNo h];intro c ρ a w d n;obtain⟨_,_,z,C⟩:=n.box k _ e;have:=(E (ρ k) z C).out;rw[Sym.ofNo (by exact h)]at this;exact this c ρ a w d (n.pub e)
end rules2
end
section
variable {g:Nat}{x y:PH}
variable [Cl] [Co] [Pu]
def PH.or (x y:PH):PH:=fun g=>match x g with|some o=>some o|none=>y g
def PH.or_l {o:Obj}(h:x g=some o):x.or y g=some o:=by simp[PH.or,h]
def PH.or_r (h:x g=none):x.or y g=y g:=by simp[PH.or,h]
def Bv.frameM {u mf mc v j:PH}{w w':World}(h:Bv u (mf.or mc) w)(E:Hp mf mc)(g1:Bv v j w')(g2:B0 u mc w v j w'):Bv v (mf.or j) w'/\B0 u (mf.or mc) w v (mf.or j) w':=by
 have t:∀ g o,mf g=some o->g<w.heap.size/\mc g=none/\w'.heap[g]?=some o/\v g=none:=by
  intro g o d;have z:=h.pm g o (PH.or_l d);have C:mc g=none:=(E g).resolve_left (by rw[d];simp);have n:=Aw z;refine⟨n,C,by rw[g2.old g n C];exact z,?_⟩;rw[g2.us g n];exact (h.ap g).resolve_right (by rw[PH.or_l d];simp)
 refine⟨⟨g1.pu,fun g o d=>?_,fun g=>?_,g1.cl⟩,⟨g2.sz,fun g d e=>?_,g2.us,fun g d e=>?_,g2.io,g2.dr⟩⟩
 ·cases hx:mf g with
  |some o'=>rw[PH.or_l hx]at d;cases d;exact (t g _ hx).2.2.1
  |none=>rw[PH.or_r hx]at d;exact g1.pm g o d
 ·cases hx:mf g with
  |some o'=>exact .inl (t g _ hx).2.2.2
  |none=>rw[PH.or_r hx];exact g1.ap g
 ·cases hx:mf g with
  |some o'=>rw[PH.or_l hx]at e;cases e
  |none=>rw[PH.or_r hx]at e;exact g2.old g d e
 cases hx:mf g with
 |some o'=>rw[PH.or_l hx]at e;cases e
 |none=>rw[PH.or_r hx]at e⊢;exact g2.ms g d e
section rules
variable {P:Program} [A6 P] {fn:Func} {Post:Ce} {st:List KI×S} {u m:PH}
def Vl (st:List KI×S):Bool:=match st.1 with
 |.reg _ _ false _::_=>true
 |.reg _ ops true (i::_)::_=>match ops[i]? with|some o=>L6 ops i o.op||La ops st.2|none=>false
 |_=>false
def Abl {n:Nat}{d:Array Oper}{e:Bool}{i:Nat}{l:List Nat}{k:List KI}{s:S}{o:Oper}(j:d[i]?=some o)(h:Vl (.reg n d e (i::l)::k,s)=true):e=false\/L6 d i o.op=true\/La d s=true\/Pu.b=true:=by
 cases e with
 |false=>exact .inl rfl
 |true =>
  right;have h:=(by simpa[Vl,j] using h:L6 d i o.op=true\/La d s=true);exact h.imp (fun x=>x) .inl
def G.bigN {V:Vm}{K:Value->PH->PH->Prop}(h:Aj P (adv P st)=V)(L:V≠.other)(C:Vl (adv P st)=true)(O:∀ n op,Bc P n op=V->Fa op=false)
 (R:∀ n (o:Oper),Bc P n o.op=V->∀ w,Bv u m w->Eg P n o w fun v w'=>∃ j t,Bv j t w'/\B0 u m w j t w'/\K v j t)
 (k:∀ v j t,PH.le u j->K v j t->G P fn Post (nx (adv P st) v) j t):G P fn Post st u m:=by
 refine G.stp ?_;obtain⟨Z,W,X,i,l,kk,s,o,e,H,Q,N,U,T,d,F⟩:=Eq h L;have z:=Abl H (e▸C);rw[e];refine⟨?_⟩;refine Ob.big (K:=K) H Q N U T (O _ _ d) (fun v j t Y=>.inr z) (fun w E=>R _ o d w E) (fun v j t I J=>?_);have:=(k v j t I J).out;rw[F]at this;exact this
end rules
end
def Fz:Ae 0 = [48]:=by rw[Ae,if_pos (by rfl)];exact E5
def Sv:Ae 1 = [49]:=by rw[Ae,if_pos (by rfl)];exact Hf
def By (mc:PH):PH.mt.or mc=mc:=by funext g;rfl
def Ef (mc:PH):Hp PH.mt mc:=fun _=>.inl rfl
section
variable [Cl] [Co] [Pu]
section rules
variable {P:Program} [A6 P] {fn:Func} {Post:Ce} {st:List KI×S} {u m:PH}
def G.storeM (sz b off:Nat)(t:TypeId)(cs:List Value)(e:Value)(h:Aj P (adv P st)=.store (some sz) (.pointer (some ⟨b,off,none⟩)) e)(N:m b=some (.cells cs.toArray t (0,0)))(O:∀ x∈cs,Ax x=true)(hl:off+sz<=cs.length)(E:e.cells.size=sz)(C:e.cells.toList.all Ax=true)
 (k:G P fn Post (nx (adv P st) undef) u (m.upd b (.cells (cs.take off++e.cells.toList++cs.drop (off+sz)).toArray t (0,0)))):G P fn Post st u m:=by
 refine G.big (K:=fun T R Q=>R=u/\T=undef/\Q=m.upd b (.cells (cs.take off++e.cells.toList++cs.drop (off+sz)).toArray t (0,0))) h mV (fun g op I=>?_) (.inr fun g op I=>?_) (fun g o v w z=>?_) (fun T R Q _ W=>?_)
 ·obtain⟨J,X,Y,rfl,_⟩:=Fq I;rfl
 ·obtain⟨J,X,Y,rfl,_⟩:=Fq I;rfl
 ·obtain⟨J,X,Y,L,U,V,Z⟩:=Fq v;obtain⟨dst,a0,type,pos,after,guard⟩:=o;simp only at L;subst L;rw[A1o]at C;have H:=z.pm b _ N;have n:=run_storeCells_at P b off t e.cells.toList 0 cs.toArray w H (by simp[E];omega) (fun x d=>Gl (C x d));simp only[A3s,A3o,E,A3t]at n;have j:∀ x∈(cs.take off++e.cells.toList++cs.drop (off+sz)).toArray.toList,Ax x=true:=by
   intro x d;simp only[A3t,A1h]at d;rcases d with (d|d)|d
   ·exact O x (A27 d)
   ·exact C x d
   exact O x (A3x d)
  obtain⟨g1,g2⟩:=z.setM N j;unfold Eg;have F:(execOp g ⟨dst,.store J X Y,type,pos,after,guard⟩).run P w=.ok .skip (w.setRow b (cs.take off++e.cells.toList++cs.drop (off+sz)).toArray):=by
   simp only[execOp,U,V];simp only[A2k]at n⊢;simp[Instr.storeAt,Instr.sureAddr,storeVar,Bf Z,E,n]
  rw[F];exact⟨u,_,g1,g2,rfl,rfl,rfl⟩
 obtain⟨rfl,rfl,rfl⟩:=W;exact k
end rules
end
section
variable {a:Act}{c:Cx}{s:S}{w:World}{ρ:Nat->Nat}
variable [Cl] [Pu]
section rules
variable {P:Program} [A6 P] {fn:Func} {Post:Ce} {st:List KI×S} {u m:PH}
section based
variable [Co]
def Rel.less {c:Cx}{s:S}{ρ:Nat->Nat}{a:Act}{w:World}(h:Rel c s u m ρ a w){j:PH}(v:PH.le j m):Rel c s u j ρ a w:=by
 have t:∀ g,m g=none->j g=none:=fun g d=>by
  cases e:j g with
  |none=>rfl
  |some o=>rw[v g o e]at d;cases d
 refine⟨h.sz,h.tm,h.df.of fun r e _ I n=>⟨e,I,t _ n⟩,fun k b H=>?_,h.inj,h.lv,h.gd.less v,⟨h.gr.sz,h.gr.old,h.gr.us,fun g d n=>t g (h.gr.ms g d n),h.gr.io,h.gr.dr⟩⟩;obtain⟨z,C,E,F⟩:=h.box k b H;exact⟨z,C,E,t _ F⟩
def G.drop (g:PH)(h:Bgr (ctl P 100 st).1=true)(j:PH.le g m)(k:G P fn Post (ctl P 100 st) u g):G P fn Post st u m:=by
 refine⟨L3 100 st ?_⟩;have e:=k.out;rw[Sym.ofNo h]at e⊢;intro c ρ a w d n;exact e c ρ a w d (n.less j)
def Asq (P:Program)(s:S)(m:PH)(r:ResultVar)(v:Value):Prop :=
 Yx P s r=some v\/∃ a t g off kd,r=.cell a t/\s.tm a=.v (.pointer (some ⟨g,off,none⟩))/\Zd P t=some kd/\Wg kd v=true/\ElP m g off v
def T6 (P:Program)(s:S)(m:PH):List ResultVar->List Value->Prop
 |[],[]=>True
 |r::rs,v::vs=>Asq P s m r v/\T6 P s m rs vs
 |_,_=>False
def Aio (d:Rel c s u m ρ a w){r:ResultVar}{x:Value}(h:Asq P s m r x):(Ms a.tmps r).run P w=.ok x w:=by
 rcases h with h|⟨p,t,g,off,z,rfl,e,j,n,v⟩
 ·exact Ys d h
 have:=d.tm p (by rw[e];simp);rw[e]at this;simp[Ms,this,SV.den,asAddr,Kj j n v d.gd.pm]
def Qo (g:Rel c s u m ρ a w){l:List Value}(h:T6 P s m fn.results.toList l):(results fn a.tmps).run P w=.ok (Pc l) w:=by
 have key:∀ (d:List ResultVar) (l:List Value),T6 P s m d l->(d.mapM (Ms a.tmps)).run P w=.ok l w:=by
  intro d;induction d with
  |nil=>intro l h;cases l with|nil=>simp|cons=>exact h.elim
  |cons r d ih =>
   intro l h;cases l with
   |nil=>exact h.elim
   |cons x xs =>
    rw[A9p];simp only[Sem.run_bind,Aio g h.1,Result.andThen_ok,ih xs h.2,Sem.run_pure]
 have e:results fn a.tmps=(do let vs <-fn.results.mapM (Ms a.tmps);pure (if h:vs.size=1 then vs[0] else .tuple vs)):=by
  unfold results;rfl
 rw[e,<-A5x (xs:=fn.results),A81];simp only[Sem.run_bind,Sem.run_map,key _ l h,Result.andThen_ok,Sem.run_pure]
 congr 1
 match l with
 |[]=>rfl
 |[x]=>rfl
 |x::y::l=>rfl
def Akf (st:List KI×S):Bool:=match st.1 with
 |.code .ret::_=>true
 |[]=>true
 |_=>false
end based
def G.retM (l:List Value)(t:PH)(h:Akf (adv P st)=true)(n:T6 P (adv P st).2 m fn.results.toList l)(g:PH.le t m)(hp:Post.post (Pc l) u t):G P fn Post st u m:=by
 refine G.stp ?_;generalize adv P st=st' at h n;obtain⟨v,s⟩:=st';unfold Akf at h;simp only at h;split at h
 ·refine⟨?_⟩;intro c ρ a w j d;exact wp_ret (Bg7 (d.ends fun w' e=>⟨Qo (a:=⟨a.tmps,[]⟩) e n,_,_,_,rfl,(e.less g).gd,(e.less g).gr,hp⟩).1 _)
 ·refine⟨?_⟩;intro c ρ a w j d;exact (d.ends fun w' e=>⟨Qo (a:=⟨a.tmps,[]⟩) e n,_,_,_,rfl,(e.less g).gd,(e.less g).gr,hp⟩).2
 cases h
def PH.mt_le (m:PH):PH.le PH.mt m:=fun _ _ h=>by cases h
end rules
end
def Vs (m:PH)(g:Nat)(z:Int)(t:TypeId):ElP (m.upd g (.cells [Value.int .i64 z].toArray t (0,0))) g 0 (.int .i64 z):=fun i y d=>by
 match i,d with
 |0,d=>simp[Value.cells]at d;subst d;exact⟨_,_,_,Ab _ _ _,rfl⟩
theorem Af.some' {m0 m:PH}{t:TypeId}{sz:Nat}{es:List Value}{a:Addr}{n c:Nat}(d:Af m0 m (.slice (some a) n c) t sz es):∃ g,a=⟨g,0,none⟩/\m0 g=none:=by
 rcases d.2 with ⟨h,_,_⟩|⟨g,cap,rest,h0,_,h,_⟩
 ·grind
 grind
section
variable [Cl] [Co] [Pu]
structure Arr where
 v:Value
 t:TypeId
 sz:Nat
 es:List Value
def Arr.At (a:Arr)(m0 m:PH):Prop:=Af m0 m a.v a.t a.sz a.es
def Bag:PH->List Arr->Prop
 |_,[]=>True
 |m,a::l=>∃ m0,a.At m0 m/\Bag m0 l
def Iq (m:PH){g h:Nat}(o p:Obj)(j:g≠h):(m.upd g o).upd h p=(m.upd h p).upd g o:=by
 funext k
 unfold PH.upd;by_cases d:k=g
 ·subst d;simp[j]
 by_cases e:k=h
 ·subst e;simp[d]
 simp[d,e]
def At.swap {x y:Arr}{m0 Z m:PH}(R:y.At Z m)(Q:x.At m0 Z):∃ T,y.At m0 T/\x.At T m/\∀ (O:Arr) I,O.At T I->∃ N,y.At N I/\O.At m0 N:=by
 obtain⟨E,R⟩:=R;rcases R with ⟨y1,y2,rfl⟩|⟨h,cap,rest,y1,rfl,y2,y3,y4,J⟩
 ·exact⟨m0,⟨E,.inl ⟨y1,y2,rfl⟩⟩,Q,fun O I d=>⟨I,⟨E,.inl ⟨y1,y2,rfl⟩⟩,d⟩⟩
 obtain⟨ox,Q⟩:=Q;rcases Q with ⟨U,V,rfl⟩|⟨g,K,F,U,rfl,V,x3,x4,x5⟩
 ·refine⟨_,⟨E,.inr ⟨h,cap,rest,y1,rfl,y2,y3,y4,J⟩⟩,⟨ox,.inl ⟨U,V,rfl⟩⟩,fun O I d=>?_⟩;obtain⟨C,d⟩:=d;rcases d with ⟨v,H,rfl⟩|⟨L,n,j,v,rfl,H,W,X,Y⟩
  ·exact⟨_,⟨E,.inr ⟨h,cap,rest,y1,rfl,y2,y3,y4,J⟩⟩,⟨C,.inl ⟨v,H,rfl⟩⟩⟩
  have t:L≠h:=fun e=>by subst e;rw[Ab]at v;cases v
  rw[Ad _ _ t]at v;refine⟨_,⟨E,.inr ⟨h,cap,rest,?_,Iq _ _ _ t.symm,y2,y3,y4,J⟩⟩,⟨C,.inr ⟨L,n,j,v,rfl,H,W,X,Y⟩⟩⟩;rw[Ad _ _ t.symm];exact y1
 have t:h≠g:=fun e=>by subst e;rw[Ab]at y1;cases y1
 rw[Ad _ _ t]at y1;refine⟨_,⟨E,.inr ⟨h,cap,rest,y1,rfl,y2,y3,y4,J⟩⟩,⟨ox,.inr ⟨g,K,F,?_,Iq _ _ _ t.symm,V,x3,x4,x5⟩⟩,fun O I d=>?_⟩
 ·rw[Ad _ _ t.symm];exact U
 obtain⟨C,d⟩:=d;rcases d with ⟨v,H,rfl⟩|⟨L,n,j,v,rfl,H,W,X,Y⟩
 ·exact⟨_,⟨E,.inr ⟨h,cap,rest,y1,rfl,y2,y3,y4,J⟩⟩,⟨C,.inl ⟨v,H,rfl⟩⟩⟩
 have z:L≠h:=fun e=>by subst e;rw[Ab]at v;cases v
 rw[Ad _ _ z]at v;refine⟨_,⟨E,.inr ⟨h,cap,rest,?_,Iq _ _ _ z.symm,y2,y3,y4,J⟩⟩,⟨C,.inr ⟨L,n,j,v,rfl,H,W,X,Y⟩⟩⟩;rw[Ad _ _ z.symm];exact y1
def Bag.focus:∀ {l:List Arr} {m:PH} (_:Bag m l) (i:Nat) {x:Arr},l[i]?=some x->∃ m0,x.At m0 m/\∀ (e:Arr) h,e.At m0 h->Bag h (l.set i e)
 |[],m,_,i,x,hi=>by simp at hi
 |y::l,m,⟨m1,hy,hl⟩,0,x,hi=>by
  simp at hi;subst hi;exact⟨m1,hy,fun e h d=>⟨m1,d,hl⟩⟩
 |y::l,m,⟨m1,hy,hl⟩,i+1,x,hi=>by
  simp at hi;obtain⟨m0,v,g⟩:=Bag.focus hl i hi;obtain⟨F,z,n,t⟩:=At.swap hy v;refine⟨F,n,fun e h d=>?_⟩;obtain⟨j,C,E⟩:=t e h d;exact⟨j,C,g e j E⟩
def Bag.take:∀ {l:List Arr} {m:PH} (_:Bag m l) (i:Nat) {x:Arr},l[i]?=some x->∃ m0,x.At m0 m/\Bag m0 (l.eraseIdx i)
 |[],m,_,i,x,hi=>by simp at hi
 |y::l,m,⟨m1,hy,hl⟩,0,x,hi=>by
  simp at hi;subst hi;exact⟨m1,hy,hl⟩
 |y::l,m,⟨m1,hy,hl⟩,i+1,x,hi=>by
  simp at hi;obtain⟨m0,h,d⟩:=Bag.take hl i hi;obtain⟨j,g,e,n⟩:=At.swap hy h;exact⟨j,e,m0,g,d⟩
def Bag.el {l:List Arr}{m:PH}(h:Bag m l)(i:Nat){x:Arr}(hi:l[i]?=some x){b n c j:Nat}{e:Value}(t:x.v=.slice (some ⟨b,0,none⟩) n c)(g:x.es[j]?=some e):ElP m b (0+j*x.sz) e:=by
 obtain⟨m0,d,_⟩:=h.focus i hi;unfold Arr.At at d;rw[t]at d;exact d.el g
section rules
variable {P:Program} [A6 P] {fn:Func} {Post:Ce} {st:List KI×S} {u m:PH}
def G.callO (f:Nat)(args:List Value){R:Value->PH->PH->Prop}(h:Aj P (adv P st)=.call f args)(W:∀ args w,(callFunc f args).run P w=.ok (.enter f args) w)(c:Ag P f args u PH.mt R)
 (k:∀ v d mc,PH.le u d->R v d mc->(∀ g,mc g≠none->m g=none)->G P fn Post (nx (adv P st) v) d (m.or mc)):G P fn Post st u m:=by
 refine G.big (K:=fun v d H=>∃ mc,H=m.or mc/\R v d mc/\∀ g,mc g≠none->m g=none) h mV Dv (.inl fun v d H U=>?_) (fun O o n w j=>?_) (fun v d H Q T=>?_)
 ·obtain⟨mc,rfl,_⟩:=U;exact fun g o C=>PH.or_l C
 ·refine Hq n W w _ (Calls.mono (c w j.noM) fun e w' X=>?_);obtain⟨v,d,mc,J,L,I,N⟩:=X;have t:m.or PH.mt=m:=by
   funext g;unfold PH.or;split
   ·rename_i o e;rw[e]
   rename_i e;rw[e];rfl
  have z:∀ g,mc g≠none->m g=none:=fun g C=>by
   rcases A2e g w.heap.size with F|E
   ·exact absurd (I.ms g F rfl) C
   exact j.pm.none E
  obtain⟨g1,g2⟩:=Bv.frameM (mf:=m) (mc:=PH.mt) (by rw[t];exact j) (fun _=>.inr rfl) L I;rw[t]at g2;exact⟨v,J,d,m.or mc,g1,g2,mc,rfl,N,z⟩
 obtain⟨mc,rfl,V,Y⟩:=T;exact k v d mc Q V Y
def Abj {d:Operand->Value}{o:Op}{ts:List TypeId}{xs:List Value}(h:Bc P d o=.blt .copy ts xs):Nk o=true/\Fa o=false:=by
 obtain⟨c,rfl,e,_⟩:=Rb h;obtain⟨g,a,t⟩:=c;simp only at e;subst e;exact⟨rfl,rfl⟩
def G.copyM (Q X e:TypeId)(sz g o n c:Nat)(a:Addr)(I sc:Nat)(t:TypeId)(d cs:List Value)(h:Aj P (adv P st)=.blt .copy [Q,X] [.slice (some ⟨g,o,none⟩) n c,.slice (some a) I sc])
 (hu:P.underlying Q=some (.slice e)) (V:szB P e=some sz) (hb:m g=some (.cells d.toArray t (0,0))) (U:cs.length=Nat.min I n*sz)
 (N:∀ w,Fj u w->Fj m w->∀ (j:Nat) (v:Value),cs[j]?=some v->w.cell? (a.add j)=some v) (J:o+cs.length<=d.length) (h1:∀ x∈cs,Ax x=true) (h2:∀ x∈d,Ax x=true)
 (k:G P fn Post (nx (adv P st) (.int .i64 (Nat.min I n:Nat))) u (m.upd g (.cells (d.take o++cs++d.drop (o+cs.length)).toArray t (0,0)))):G P fn Post st u m:=by
 refine G.big (K:=fun v' u' m'=>u'=u/\v'=.int .i64 (Nat.min I n:Nat)/\m'=m.upd g (.cells (d.take o++cs++d.drop (o+cs.length)).toArray t (0,0))) h mV (fun E op W=>(Abj W).2) (.inr fun E op W=>(Abj W).1) (fun E op H w C=>?_) (fun v' u' m' _ U=>?_)
 ·obtain⟨cc,Y,Z,e3,e4⟩:=Rb H;obtain⟨dst,a1,type,pos,after,guard⟩:=op;obtain⟨a0,ar,ty⟩:=cc;simp only at Y Z e3 e4;subst Y Z e3;have T:=C.pm g _ hb;have hl:=run_loadCells_list (P:=P) w a cs (N w C.pu C.pm);have O:=run_storeCells_at P g o t cs 0 d.toArray w T (by simpa using J) (fun x z=>Gl (h1 x z));have L:(Builtin.copy_ #[Q,X] type #[.slice (some ⟨g,o,none⟩) n c,.slice (some a) I sc]).run P w=.ok (.int .i64 (Nat.min I n:Nat)) (w.setRow g (d.take o++cs++d.drop (o+cs.length)).toArray):=by
   simp only[A3s,A3t]at O;simp[Builtin.copy_,run_underlying hu,Builtin.lenOf,Builtin.firstCells,Bf V,<-U,hl];rw[O];simp[goInt]
  have F:∀ x∈(d.take o++cs++d.drop (o+cs.length)).toArray.toList,Ax x=true:=by
   intro x z;simp only[A3t,A1h]at z;rcases z with (z|z)|z
   ·exact h2 x (A27 z)
   ·exact h1 x z
   exact h2 x (A3x z)
  obtain⟨g1,g2⟩:=C.setM hb F;unfold Eg;have R:(execOp E ⟨dst,.call ⟨.builtin .copy,ar,#[Q,X]⟩,type,pos,after,guard⟩).run P w=.ok (.value (.int .i64 (Nat.min I n:Nat))) (w.setRow g (d.take o++cs++d.drop (o+cs.length)).toArray):=by
   simp[execOp,resolve,invoke,builtin,e4,L]
  rw[R];exact⟨u,_,g1,g2,rfl,rfl,rfl⟩
 obtain⟨rfl,rfl,rfl⟩:=U;exact k
end rules
end
section
variable {e z:Value}{es:List Value}{k n q sz:Nat}
def Ank (h:A9 sz es)(k:Nat):(E2 es).take (k*sz)=E2 (es.take k):=by
 by_cases j:k<=es.length
 ·have e:E2 es=E2 (es.take k)++E2 (es.drop k):=by rw[<-Dq,A4h]
  have d:(E2 (es.take k)).length=k*sz:=by rw[Ba (sz:=sz) (fun x g=>h x (A27 g)),A1e];congr 1;omega
  rw[e,A6n oV,<-d,A15]
 rw[A1j (by rw[Ba h];exact A13 _ oV),A1j oV]
def Am5 (h:A9 sz es)(k:Nat):(E2 es).drop (k*sz)=E2 (es.drop k):=by
 by_cases j:k<=es.length
 ·have e:E2 es=E2 (es.take k)++E2 (es.drop k):=by rw[<-Dq,A4h]
  have d:(E2 (es.take k)).length=k*sz:=by rw[Ba (sz:=sz) (fun x g=>h x (A27 g)),A1e];congr 1;omega
  rw[e,<-d,A8s]
 rw[A2b (by rw[Ba h];exact A13 _ oV),A2b oV];rfl
def A9.replicate (h:A9 sz [e])(n:Nat):A9 sz (List.replicate n e):=fun x d=>h x (by rw[A7g d];simp)
section rules
variable {P:Program} [A6 P] {fn:Func} {Post:Ce} {st:List KI×S} {u m:PH}
def G.copyA (L W e:TypeId)(sz g n k:Nat)(a:Addr)(F X c:Nat)(t:TypeId)(m0:PH)(es xs:List Value)(h:Aj P (adv P st)=.blt .copy [L,W] [.slice (some ⟨g,0+k*sz,none⟩) (n-k) c,.slice (some a) F X])
 (hu:P.underlying L=some (.slice e)) (O:szB P e=some sz) (R:Af m0 m (.slice (some ⟨g,0,none⟩) n n) t sz es) (K:A9 sz xs) (I:xs.length=Nat.min F (n-k)) (Z:k<=n)
 (J:∀ w,Fj u w->Fj m w->∀ (j:Nat) (v:Value),(E2 xs)[j]?=some v->w.cell? (a.add j)=some v)
 (kk:∀ V,Af m0 V (.slice (some ⟨g,0,none⟩) n n) t sz (es.take k++xs++es.drop (k+xs.length))->G P fn Post (nx (adv P st) (.int .i64 ((Nat.min F (n-k):Nat):Int))) u V):G P fn Post st u m:=by
 have T:=R.len;obtain⟨d,Y⟩:=R;rcases Y with ⟨N,_,_⟩|⟨g',cap,rest,N,rfl,H,h3,Q,h5⟩
 ·simp at N
 simp only[Value.slice.injEq,A1f,Addr.mk.injEq,and_true]at H;obtain⟨rfl,H,rfl⟩:=H;have hr:rest = []:=by
  rw[A1d,Ba d,<-H]at Q;exact A2l oV
 subst hr;simp only[A1x]at Q⊢;have U:Nat.min F (n-k)<=n-k:=A79 _ _;have C:(E2 xs).length=Nat.min F (n-k)*sz:=by rw[Ba K,I]
 refine G.copyM L W e sz g (0+k*sz) (n-k) c a F X t (E2 es) (E2 xs) h hu O (Ab _ _ _) C (by simpa using J) (by rw[C,Ba d,<-H,A2w,<-A16];exact A13 _ oV) (Fu K) (Fu d) ?_;rw[Dp];refine kk _ ⟨?_,.inr ⟨g,n,[],N,?_,?_,?_,?_,mV⟩⟩
 ·exact ((A9.append (fun x E=>d x (A27 E)) K).append (fun x E=>d x (A3x E)))
 ·congr 3
  rw[A2w,Ank d,C,<-A16,Am5 d,<-Dq,<-Dq,A1x,I]
 ·congr 1
  simp only[A1d,A1e,A4y,I];omega
 ·simp only[A1d,A1e,A4y,I];omega
 rw[A1x,Ba (sz:=sz)]
 ·congr 1
  simp only[A1d,A1e,A4y,I];omega
 exact ((A9.append (fun x E=>d x (A27 E)) K).append (fun x E=>d x (A3x E)))
end rules
def Aqu {u:PH}(d:n<=1000000):Fn0 prog 94 [.int .u64 1,.int .u64 (n:Int)] u fun v _=>v=.tuple #[.int .u64 0,.int .u64 (n:Int)]:=by
 refine Fn0.ofW (fun v _=>v=.tuple #[.int .u64 0,.int .u64 (n:Int)]) (fun w _=>(Tryz.bits_Mul 1 n oV oV w).mono fun _ _ ⟨e,h⟩=>⟨_,e,?_,by rw[h];exact Ext.refl _⟩) (fun _ _ _ h _ _ _=>h);rw[A3i,A49 oV,A5i oV];rfl
def Aeg {z:Int}(d:0<=z)(g:z<18446744073709551616):IntKind.u64.wrap z=z:=by
 simp only[IntKind.wrap,IntKind.signed,IntKind.bits];simp;omega
def Aek (d:k+q<=n):(List.replicate k e++List.replicate (n-k) z).take k++List.replicate q e++(List.replicate k e++List.replicate (n-k) z).drop (k+(List.replicate q e).length)=List.replicate (k+q) e++List.replicate (n-(k+q)) z:=by
 rw[List.take_left' mV,A3k,List.drop_append,A2b mV,A3k,A3q,List.drop_replicate,List.replicate_append_replicate]
 congr 2;omega
def Apq {g q k r:Nat}{u m m0:PH}{t:TypeId}(H:A9 sz [e])(J:q<=k)(C:0<sz)(E:Af m0 m (.slice (some ⟨g,0,none⟩) n n) t sz (List.replicate k e++List.replicate r z)) :
 ∀ w,Fj u w->Fj m w->∀ (j:Nat) (v:Value),(E2 (List.replicate q e))[j]?=some v->w.cell? ((⟨g,0,none⟩:Addr).add j)=some v:=by
 intro w _ hp j v F;refine Hc.cells (u:=m) (b:=g) (off:=0) C (fun i x hi=>?_) (H.replicate q) hp j v F;have d:i<q:=by
  rcases A2e i q with h|h
  ·exact h
  rw[A1v (by simpa using h)]at hi;cases hi
 have I:x=e:=by rw[A6e,if_pos d]at hi;exact (A28 hi).symm
 subst I;refine E.el ?_;rw[A1r gV,A6e,if_pos oV]
def Ao2 {u:PH}{v e:Value}(h:Ac u v 1 [e])(H:A9 1 [e])(Y:n<=1000000) :
 Fn0 prog 50 [v,.int .i64 n] u fun v' Q=>Ac Q v' 1 (List.replicate n e):=by
 obtain⟨a,c,rfl⟩:=h.opn;have I:=Ac.at' h (j:=0) (e:=e) rfl;obtain⟨b,off,rfl,K⟩:=I;refine Fn0.o func50<|G.lF n 0<|G.convI .i64 .u64 .i64 1 1 kV (Aeg oV oV)<|G.convI .i64 .u64 .i64 n (n:Int) kV (Aeg oV oV)<|G.c call94 (Aqu Y) ?_;rintro v1 u1 l1 rfl;refine G.cmpG .gtr .u64 0 0 false kV rfl rfl<|G.cmpG .gtr .u64 (n:Int) 9223372036854775807 false kV rfl (by simp only[Db,decide_eq_false_iff_not];omega)<|G.convI .u64 .i64 .u64 (n:Int) (n:Int) kV (Fk oV oV)<|G.make 29 1 16 (.string (mkS [])) n kV rfl rfl oV oV oV ?_;rintro v2 m2 N ⟨a2,rfl⟩;obtain⟨g,rfl,O⟩:=N.some';have X:Nat.min 1 (n-0)<=1:=Nat.min_le_left _ _;refine G.copyA 54 54 29 1 g n 0 ⟨b,off,none⟩ 1 c n 29 PH.mt (List.replicate n (.string (mkS []))) (List.replicate (Nat.min 1 (n-0)) e) kV kV kV N (H.replicate _) mV (A1t _) (fun w hp _ j x U=>?_) ?_
 ·refine Hc.cells (u:=u) (b:=b) (off:=off) (sz:=1) oV (fun i y hi=>?_) (H.replicate _) (fun g o O=>hp g o (l1 g o O)) j x U;have C:i<Nat.min 1 (n-0):=by
   rcases A2e i (Nat.min 1 (n-0)) with h|h
   ·exact h
   rw[A1v (by simpa using h)]at hi;cases hi
  rw[A6e,if_pos C]at hi;have hy:y=e:=(A28 hi).symm;subst hy;have:i=0:=oV;subst this;exact K
 intro m3 t;have E:=Aek (e:=e) (z:=.string (mkS [])) (n:=n) (k:=0) (q:=Nat.min 1 (n-0)) (by have:Nat.min 1 (n-0)<=n-0:=A79 _ _;omega);simp only[A42,A3q,A6t,A2w]at E t;rw[E]at t;clear E;refine G.l (ι:=Nat) (fun k=>[(7,sV (some ⟨g,0,none⟩) n n),(8,iV k)]) (fun _=>[])
  (fun k Q m'=>k<=n/\(k=0->n=0)/\Af PH.mt m' (.slice (some ⟨g,0,none⟩) n n) 29 1 (List.replicate k e++List.replicate (n-k) (.string (mkS [])))) (fun k=>n-k) (Nat.min 1 n)
  ⟨A79 _ _,fun h=>by have h':min 1 n=0:=h;omega,t⟩ ?_
 rintro J k R u4 m4 l4 ⟨V,W,d⟩;by_cases C:k<n
 ·refine G.lT k n<|G.sliceFrom g 0 n n k 1 kV oV C<|G.sliceTo 1 (some ⟨g,0,none⟩) n n k kV oV ?_;have L:Nat.min k (n-k)<=k:=Nat.min_le_left _ _;have Z:Nat.min k (n-k)<=n-k:=A79 _ _;have a0:0<Nat.min k (n-k):=by show 0<min k (n-k);omega
  refine G.copyA 54 54 29 1 g n k ⟨g,0,none⟩ k n (n-k) 29 PH.mt _ (List.replicate (Nat.min k (n-k)) e) kV kV kV d (H.replicate _) mV V (Apq H L oV d) ?_;intro m5 F;rw[Aek oV]at F;generalize Nat.min k (n-k)=q at *
  exact G.p k q (k+q:Nat)<|G.b (R (k+q) _ _ _ cV l4 ⟨oV,oV,F⟩ oV)
 obtain rfl:k=n:=oV;refine G.lF k k ?_;rw[A4i,A42,A1x]at d;refine G.give PH.mt _ _ kV d (fun _=>.inl rfl) ?_;intro u5 l5 T;exact G.r (.slice (some ⟨g,0,none⟩) k k) ⟨rfl,T⟩
end




def Ac.take' {u:PH}{a:Option Addr}{n c sz:Nat}{es:List Value}(h:Ac u (.slice a n c) sz es)(k:Nat)(t:k<=es.length):Ac u (.slice a k c) sz (es.take k):=by
 obtain⟨v,z,g,C,m⟩:=h;simp only[Value.slice.injEq]at g;obtain⟨rfl,_,rfl⟩:=g;refine⟨a,c,by rw[A1e,A4a t],by rw[A1e];omega,fun j e d=>?_⟩;rw[A3y]at d;split at d
 ·exact m j e d
 cases d
def Bag.perm {l g:List Arr}(h:l.Perm g):∀ {m:PH},Bag m l->Bag m g:=by
 induction h with
 |nil=>exact fun h=>h
 |cons x _ ih=>exact fun⟨m0,d,e⟩=>⟨m0,d,ih e⟩
 |swap x y l =>
  rintro m ⟨C,t,m0,n,j⟩;obtain⟨z,u,v,_⟩:=At.swap t n;exact⟨z,v,m0,u,j⟩
 |trans _ _ d e=>exact fun h=>e (d h)
def Og (q:Rat):Bool:=decide (q.num.natAbs<10^100)&&decide (q.den<10^100)
def Cz:∀ {k n:Nat} (_:0<k) (_:n<10^k),Lib.nDigits n<=k
 |0,n,hk,h=>oV
 |k+1,n,hk,h=>by
  by_cases e:n<10
  ·rw[Lib.nDigits_small e];omega
  rw[Lib.nDigits_big e];have d:0<k:=by
   rcases A2a k with h0|h0
   ·subst h0;simp at h;omega
   exact h0
  have:=Cz (k:=k) (n:=n/10) d (by rw[A3b oV,<-A2d];exact h);omega
def Uo {q:Rat}(h:Og q=true):Tx q/\Sz q 12:=by
 simp only[Og,A1m,decide_eq_true_eq]at h;have d:=Cz oV h.1;have g:=Cz oV h.2;have e:(10:Nat)^100<=1000000000^12:=fV
 exact⟨⟨oV,oV⟩,A4 (A2s h.1 e),A4 (A2s h.2 e)⟩
section
section rules
variable [Cl] [Co] [Pu] {P:Program} [A6 P] {fn:Func} {Post:Ce} {st:List KI×S} {u m:PH}
def G.buildM (e:TypeId)(sz W:Nat)(z:Value)(es:List Value)(h:Aj P (adv P st)=.buildS (some (e,sz,W,z)) es.length (es.zipIdx.map fun p=>(p.2,p.1)))(E:A9 sz es)(a0:z.cells.size=sz)(Q:0<sz)(N:0<es.length)(hb:es.length*sz<=16777216)
 (k:∀ g j,Af m j (.slice (some ⟨g,0,none⟩) es.length es.length) e sz es->G P fn Post (nx (adv P st) (.slice (some ⟨g,0,none⟩) es.length es.length)) u j):G P fn Post st u m:=by
 refine G.big (K:=fun V R j=>R=u/\PH.le m j/\∃ g,V=.slice (some ⟨g,0,none⟩) es.length es.length/\Af m j (.slice (some ⟨g,0,none⟩) es.length es.length) e sz es) h mV (fun F op hv=>?_) (.inl fun v R j C=>C.2.1) (fun F o n w I=>?_) (fun V R j Z C=>?_)
 ·obtain⟨t,qs,rfl,_⟩:=En hv;rfl
 ·obtain⟨t,qs,T,Y,hi⟩:=En n;obtain⟨dst,a1,type,pos,after,guard⟩:=o;simp only at T;subst T;obtain⟨hu,i,J,L,rfl,rfl⟩:=D4 hi;obtain⟨g1,g2,U,g4⟩:=I.newM (cs:=(E2 es).toArray) (t:=e) (by simpa using Fu E);have H:=Ba E;have O:es.length*i.size≠0:=by have:=A51 N Q;omega
  have d:=Sn es 0 ((Array.range (es.length*i.size)).map (z.cells[· % z.cells.size]!)) E mV;have X:((Array.range (es.length*i.size)).map (z.cells[· % z.cells.size]!)).toList.drop (es.length*i.size) = []:=by
   apply A9o;simp
  simp only[A58,A53,A3q,A2w,X,A1x]at d;refine B8 (w':=w.alloc (.cells (E2 es).toArray e (0,0))) (v:=.slice (some ⟨w.heap.size,0,none⟩) es.length es.length) ?_ ⟨u,_,g1,g2,rfl,Jw _ U,_,rfl,E,.inr ⟨w.heap.size,es.length,[],U,by rw[A1x],rfl,A08 _,by rw[A1x,H],mV⟩⟩;simp only[execOp,Y];simp[Instr.buildSlice,run_underlying hu,sizeOf,typeInfo,zeroValue,J,L,O,d,newRow,show ¬ 16777216<es.length*i.size by omega]
 obtain⟨rfl,_,g,rfl,C⟩:=C;exact k g j C
end rules
end
section
variable [Cl] [Co] [Pu]
section rules
variable {P:Program} [A6 P] {fn:Func} {Post:Ce} {st:List KI×S} {u m:PH}
def Aei {d:Operand->Value}{o:Op}{t:TypeId}{x:Value}{f:Nat}(h:Bc P d o=.fieldA t x f):∃ X,o=.fieldAddr t X f/\d X=x:=by
 cases o<;>simp only[Bc]at h<;>try cases h
 any_goals ((repeat' split at h)<;>cases h;done)
 exact⟨_,rfl,rfl⟩
def G.fieldA (t:TypeId)(b off f j:Nat)(h:Aj P (adv P st)=.fieldA t (.pointer (some ⟨b,off,none⟩)) f)(d:Nw P t f=some j)(k:G P fn Post (nx (adv P st) (.pointer (some ⟨b,off+j,none⟩))) u m):G P fn Post st u m:=by
 refine G.ask h mV (fun z o g w _=>?_) k;obtain⟨X,e,v⟩:=Aei g;obtain⟨dst,C,type,pos,after,guard⟩:=o;simp only at e;subst e;unfold Nw at d;split at d
 ·rename_i fs hfs;split at d
  ·rename_i fd hfd;split at d
   ·rename_i n hn;simp only[A1f]at d;subst d;simp[execOp,Instr.fieldAt,run_underlying hfs,hfd,Instr.sureAddr,v,fieldPlace,Bf hn,Ed]
   cases d
  cases d
 cases d
def G.remZ (x y z:Int)(h:Aj P (adv P st)=.bin .rem (.int .i64 x) (.int .i64 y))(d:0<y)(v:y<=9223372036854775807)(e:x.tmod y=z)
 (k:G P fn Post (nx (adv P st) (.int .i64 z)) u m):G P fn Post st u m:=by
 refine G.bin _ h C0 (fun t w=>?_) k;have n:¬ y=0:=oV
 have C:-y<z/\z<y:=by
  rw[<-e];have g:=Baj x d;have j:=Bak x d;exact⟨j,g⟩
 simp[binOp,Op.intDiv,n,e]
end rules
end
section
variable [Cl] [Pu] [Co]
variable {P:Program} [A6 P] {fn:Func} {Post:Ce} {st:List KI×S} {u m:PH}
def G.f (t:TypeId)(b off f fo:Nat)(k:G P fn Post (nx (adv P st) (.pointer (some ⟨b,off+fo,none⟩))) u m)(h:Aj P (adv P st)=.fieldA t (.pointer (some ⟨b,off,none⟩)) f:=by kernel_rfl)(hf:Nw P t f=some fo:=by kernel_rfl):G P fn Post st u m:=G.fieldA t b off f fo h hf k
end
section
variable {k:Nat}{m0:PH}
def Ari (m:PH):m.or PH.mt=m:=by
 funext g;unfold PH.or;split
 ·rename_i o e;rw[e]
 rename_i e;rw[e];rfl
def Ajy (m0 m:PH){g:Nat}(o:Obj)(h:m0 g=none):m0.or (m.upd g o)=(m0.or m).upd g o:=by
 funext k
 by_cases e:k=g
 ·subst e;rw[PH.or_r h,Ab,Ab]
 rw[Ad _ _ e];unfold PH.or;split
 ·rfl
 rw[Ad _ _ e]
def Af.list {m0 m u:PH}{v:Value}{t:TypeId}{sz:Nat}{es:List Value}(h:Af m0 m v t sz es)(C:PH.le m u):Ac u v sz es:=by
 obtain⟨E,h⟩:=h;rcases h with ⟨rfl,rfl,_⟩|⟨g,cap,rest,_,rfl,rfl,d,n,_⟩
 ·exact Ac.nil _ _ _ _
 refine⟨_,_,rfl,d,fun j e z=>⟨g,0,rfl,fun i x F=>⟨_,_,_,C _ _ (Ab _ _ _),?_⟩⟩⟩;rw[A3j,A2w];have:=Ju E z F;rw[A1r (by obtain⟨h,_⟩:=A05.1 this;exact h)];exact this
def Bag.list {l:List Arr}{m u:PH}(h:Bag m l)(d:PH.le m u)(i:Nat){x:Arr}(hi:l[i]?=some x):Ac u x.v x.sz x.es:=by
 obtain⟨m0,e,_⟩:=h.focus i hi;exact Af.list e d
section rules
variable [Cl] [Co] [Pu] {P:Program} [A6 P] {fn:Func} {Post:Ce} {st:List KI×S} {u m:PH}
def G.callA (f:Nat)(args:List Value){mf mc:PH}{R:Value->PH->PH->Prop}(h:Aj P (adv P st)=.call f args)(C:Vl (adv P st)=true)(X:∀ args w,(callFunc f args).run P w=.ok (.enter f args) w)(Z:m=mf.or mc)(z:Hp mf mc)(c:Ag P f args u mc R)
 (k:∀ v j d,PH.le u j->R v j d->Hp mf d->G P fn Post (nx (adv P st) v) j (mf.or d)):G P fn Post st u m:=by
 subst Z;refine G.bigN (K:=fun v j J=>∃ d,J=mf.or d/\R v j d/\Hp mf d) h mV C Dv (fun Q o t w n=>?_) (fun v j J T U=>?_)
 ·have F:Bv u mc w:=n.less (fun g o E=>by
   cases hx:mf g with
   |some o'=>have:=(z g).resolve_left (by rw[hx];simp);rw[this]at E;cases E
   |none=>rw[PH.or_r hx];exact E)
  refine Hq t X w _ (Calls.mono (c w F) fun e w' Y=>?_);obtain⟨v,j,d,L,N,I,O⟩:=Y;obtain⟨g1,g2⟩:=n.frameM z N I;refine⟨v,L,j,mf.or d,g1,g2,d,rfl,O,fun g=>?_⟩;cases hx:mf g with
  |none=>exact .inl rfl
  |some o =>
   right;have H:=Aw (n.pm g o (PH.or_l hx));exact I.ms g H ((z g).resolve_left (by rw[hx];simp))
 obtain⟨d,rfl,W,V⟩:=U;exact k v j d T W V
def G.giveP {ma sm:PH}(h:Bgr (ctl P 100 st).1=true)(E:m=ma.or sm)(U:Hp ma sm)(h0:∀ g,Post.m0 g=none\/sm g≠none)(k:∀ T,PH.le u T->PH.le ma T->G P fn Post (ctl P 100 st) T sm):G P fn Post st u m:=by
 subst E;refine⟨L3 100 st ?_⟩;rw[Sym.ofNo h];intro c ρ a w H v;have K:∀ g o,ma g=some o->u g=none:=fun g o d=>(v.gd.ap g).resolve_right (by rw[PH.or_l d];simp);have I:∀ g o,sm g=some o->ma g=none:=fun g o d=>(U g).resolve_right (by rw[d];simp);have F:∀ g o,ma g=some o->c.w0.heap.size<=g:=by
  intro g o d;rcases A2e g c.w0.heap.size with O|L
  ·have Q:c.m0 g=none:=by
    rw[H];rcases h0 g with e|e
    ·exact e
    cases hs:sm g with
    |none=>exact absurd hs e
    |some o'=>have:=I g o' hs;rw[this]at d;cases d
   have:=v.gr.ms g O Q;rw[PH.or_l d]at this;cases this
  exact L
 have N:PH.le u (ma.or u):=fun g o d=>by
  cases n:ma g with
  |none=>rw[PH.or_r n];exact d
  |some o'=>have:=K g o' n;rw[this]at d;cases d
 have V:=(k (ma.or u) N (fun g o d=>PH.or_l d)).out;rw[Sym.ofNo h]at V;refine V c ρ a w H ⟨v.sz,v.tm,v.df.of fun r e _ hu E=>(by
  have C:ma r=none:=(by
   cases n:ma r with
   |none=>rfl
   |some o=>rw[PH.or_l n]at E;cases E)
  rw[PH.or_r C]at E;exact⟨e,by rw[PH.or_r C];exact hu,E⟩),fun R b Z=>?_,v.inj,v.lv,⟨fun t o d=>?_,fun t o d=>?_,fun t=>?_,fun t cs t' fr j z d hj=>?_⟩,⟨v.gr.sz,v.gr.old,fun t d=>?_,fun t d E=>?_,v.gr.io,v.gr.dr⟩⟩
 ·obtain⟨W,X,Y,J⟩:=v.box R b Z;have C:ma (ρ R)=none:=by
   cases n:ma (ρ R) with
   |none=>rfl
   |some o=>rw[PH.or_l n]at J;cases J
  rw[PH.or_r C]at J;exact⟨W,X,by rw[PH.or_r C];exact Y,J⟩
 ·cases n:ma t with
  |some o'=>rw[PH.or_l n]at d;cases d;exact v.gd.pm t _ (PH.or_l n)
  |none=>rw[PH.or_r n]at d;exact v.gd.pu t o d
 ·exact v.gd.pm t o (by rw[PH.or_r (I t o d)];exact d)
 ·cases n:ma t with
  |some o'=>right;exact (U t).resolve_left (by rw[n];simp)
  |none =>
   rw[PH.or_r n];have:=v.gd.ap t;rw[PH.or_r n]at this;exact this
 ·cases n:ma t with
  |some o' =>
   rw[PH.or_l n,<-d];exact (v.gd.pm t _ (PH.or_l n)).symm
  |none=>rw[PH.or_r n];exact v.gd.cl t cs t' fr j z d hj
 ·have n:ma t=none:=by
   cases n:ma t with
   |none=>rfl
   |some o=>have:=F t o n;omega
  rw[PH.or_r n];exact v.gr.us t d
 have:=v.gr.ms t d E;cases n:ma t with
 |some o=>have:=F t o n;omega
 |none=>rw[PH.or_r n]at this;exact this
end rules
structure Src where
 g:Nat
 a:Option Addr
 n:Nat
 c:Nat
def Src.ptr (s:Src):Value:=.pointer (some ⟨s.g,0,none⟩)
def Src.el (s:Src)(k:Nat):Value:=.agg #[.slice s.a s.n s.c,.int .i64 k]
def Src.M (s:Src)(k:Nat):PH:=PH.mt.upd s.g (.cells #[.slice s.a s.n s.c,.int .i64 k] 81 (0,0))
def Src.arr (s:Src)(k:Nat):Arr:=⟨.slice (some ⟨s.g,0,none⟩) 1 1,81,2,[s.el k]⟩
def Src.el_ok (s:Src)(k:Nat):A9 2 [s.el k]:=by
 intro x d;simp at d;subst d;exact⟨rfl,fun y e=>by simp[Src.el,Value.cells]at e;rcases e with rfl|rfl<;>rfl⟩
def Src.at {s:Src}(h:m0 s.g=none):(s.arr k).At m0 (m0.or (s.M k)):=by
 refine⟨s.el_ok k,.inr ⟨s.g,1,[],h,?_,rfl,A08 _,rfl,mV⟩⟩;unfold Src.M;rw[Ajy _ _ _ h,Ari];rfl
def Src.split {s:Src}{m0 m:PH}(h:(s.arr k).At m0 m):m=m0.or (s.M k)/\m0 s.g=none:=by
 obtain⟨_,h⟩:=h;rcases h with ⟨h,_,_⟩|⟨g,cap,rest,d,rfl,e,t,j,v⟩
 ·simp[Src.arr]at h
 simp only[Src.arr,Value.slice.injEq,A1f,Addr.mk.injEq,and_true]at e;obtain⟨rfl,_,rfl⟩:=e;have n:rest = []:=by
  simp[Src.arr,E2,Src.el,Value.cells]at j;exact j
 subst n;refine⟨?_,d⟩;unfold Src.M;rw[Ajy _ _ _ d,Ari];rfl
def Src.apart {s:Src}(h:m0 s.g=none):Hp m0 (s.M k):=fun g=>by
 by_cases e:g=s.g
 ·subst e;exact .inl h
 right;unfold Src.M;rw[Ad _ _ e];rfl
structure J0 (u:PH)(s:Src)(ts:List Int):Prop where
 list:Ac u (.slice s.a s.n s.c) 1 (Fc ts)
 n:s.n=ts.length
 le:ts.length<=600
 lo:∀ t∈ts,-9223372036854775808<=t
 hi:∀ t∈ts,t<=9223372036854775807
def J0.mono {u d:PH}{s:Src}{ts:List Int}(h:J0 u s ts)(e:PH.le u d):J0 d s ts:=⟨h.list.mono e,h.n,h.le,h.lo,h.hi⟩
def Src.cell0 (s:Src)(k:Nat):ElP (s.M k) s.g (0+0) (.slice s.a s.n s.c):=fun i y d=>by
 match i,d with
 |0,d=>simp[Value.cells]at d;subst d;exact⟨_,_,_,Ab _ _ _,rfl⟩
def Src.cell1 (s:Src)(k:Nat):ElP (s.M k) s.g (0+1) (.int .i64 k):=fun i y d=>by
 match i,d with
 |0,d=>simp[Value.cells]at d;subst d;exact⟨_,_,_,Ab _ _ _,rfl⟩
end
section
variable [Cl] [Pu] [Co]
variable {P:Program} [A6 P] {fn:Func} {Post:Ce} {st:List KI×S} {u m:PH}
def G.A {f:Nat}{args:List Value}{R:Value->PH->PH->Prop}(hc:∀ args w,(callFunc f args).run P w=.ok (.enter f args) w)(c:Ag P f args u m R)(k:∀ v u' mc',PH.le u u'->R v u' mc'->Hp PH.mt mc'->G P fn Post (nx (adv P st) v) u' (PH.mt.or mc'))(h:Aj P (adv P st)=.call f args:=by kernel_rfl)(hdr:Vl (adv P st)=true:=by kernel_rfl):G P fn Post st u m:=G.callA f args h hdr hc (By _).symm (Ef _) c k
def G.D {f:Nat}{args:List Value}{mf mc:PH}{R:Value->PH->PH->Prop}(hc:∀ args w,(callFunc f args).run P w=.ok (.enter f args) w)(hd:Hp mf mc)(c:Ag P f args u mc R)(k:∀ v u' mc',PH.le u u'->R v u' mc'->Hp mf mc'->G P fn Post (nx (adv P st) v) u' (mf.or mc'))(h:Aj P (adv P st)=.call f args:=by kernel_rfl)(hdr:Vl (adv P st)=true:=by kernel_rfl):G P fn Post st u (mf.or mc):=G.callA f args h hdr hc rfl hd c k
end
section
open Go.MapKept
variable {et t:TypeId}{g:Nat}{o:Obj}{w:World}
structure Zk (P:Program)(kt:TypeId){κ:Type}[DecidableEq κ](enc:κ->Value):Prop where
 eq:∀ a b w,(Op.equal kt (enc a) (enc b)).run P w=.ok (decide (a=b)) w
 now:∃ d,P.underlying kt=some d/\((∀ a b,Instr.sameNow d (enc a) (enc b)=none)\/(∀ a b,Instr.sameNow d (enc a) (enc b)=some (decide (a=b))))
 chk:∀ e a w,(Instr.checkKey e 10000 kt (enc a)).run P w=.ok () w
 bits:∀ a,Instr.sameBits 10000 (enc a) (enc a)=true
 inj:∀ a b,enc a=enc b->a=b
def Hu {κ:Type}(enc:κ->Value)(o:Obj)(l:List (κ×Value)):Prop :=
 ∃ es clock,o=.map es clock/\es.toList.map (fun e=>(e.key,e.val))=l.map (fun p=>(enc p.1,p.2))/\Stamped es clock
def Ik {κ:Type}[DecidableEq κ](a:κ):List (κ×Value)->Option Value
 |[]=>none
 |(b,v)::l=>if a=b then some v else Ik a l
def Lr {κ:Type}[DecidableEq κ](a:κ)(x:Value):List (κ×Value)->List (κ×Value)
 |[]=>[(a,x)]
 |(b,v)::l=>if a=b then (b,x)::l else (b,v)::Lr a x l
def Awn {κ:Type}[DecidableEq κ](a:κ):List (κ×Value)->List (κ×Value)
 |[]=>[]
 |(b,v)::l=>if a=b then l else (b,v)::Awn a l
def Iw {κ:Type}[DecidableEq κ](a:κ):List (κ×Value)->Nat->Option (Nat×Value)
 |[],_=>none
 |(b,v)::l,i=>if a=b then some (i,v) else Iw a l (i+1)
def Alm (z:Value)(r:Option Value)(ok:Bool):Value:=match r with|some v=>(if ok then .tuple #[v,.bool true] else v)|none=>(if ok then .tuple #[z,.bool false] else z)
def M4 {α β:Type}{f:α->β}{l:List α}(h:(l.map f).Nodup):l.Nodup:=(Bay.1 h).imp fun h e=>h (by rw[e])
def Bi3 {α β:Type}(f:α->β):∀ (l:List α) (j:Nat),(l.eraseIdx j).map f=(l.map f).eraseIdx j
 |[],_=>mV
 |_::_,0=>rfl
 |x::l,j+1=>by simp[Bi3 f l j]
section
variable {κ:Type} [DecidableEq κ] {enc:κ->Value}
def Aah (a:κ):∀ (l:List (κ×Value)) (i:Nat),(Iw a l i).map (·.2)=Ik a l
 |[],_=>rfl
 |(b,v)::l,i=>by
  unfold Iw Ik;split
  ·rfl
  exact Aah a l (i+1)
def Xc {a:κ}:∀ {l:List (κ×Value)} {i:Nat},Iw a l i=none->a∉l.map (·.1)
 |[],_,_=>mV
 |(b,v)::l,i,h=>by
  unfold Iw at h;split at h
  ·cases h
  rename_i hne;simp only[A2u,A1g,not_or];exact⟨hne,Xc h⟩
def Yy {a:κ}:∀ {l:List (κ×Value)} {i j:Nat} {v:Value},Iw a l i=some (j,v)->i<=j/\l[j-i]?=some (a,v)/\(∀ x,Lr a x l=l.set (j-i) (a,x))/\Awn a l=l.eraseIdx (j-i)
 |[],_,_,_,h=>by cases h
 |(b,w)::l,i,j,v,h=>by
  unfold Iw at h;split at h
  ·rename_i e;simp only[A1f,A2i]at h;obtain⟨rfl,rfl⟩:=h;subst e;exact⟨A08 _,mV,fun x=>by simp[Lr],by simp[Awn]⟩
  rename_i hne;obtain⟨u,d,m,n⟩:=Yy h;have e:j-i=(j-(i+1))+1:=oV;refine⟨oV,by rw[e,A7r];exact d,fun x=>?_,?_⟩
  ·rw[e,A2j,<-m x];simp[Lr,hne]
  rw[e,List.eraseIdx_cons_succ,<-n];simp[Awn,hne]
def Agn {a:κ}:∀ {l:List (κ×Value)} (x:Value),a∉l.map (·.1)->Lr a x l=l++[(a,x)]
 |[],_,_=>rfl
 |(b,v)::l,x,h=>by
  simp only[A2u,A1g,not_or]at h;unfold Lr;rw[if_neg h.1,Agn x h.2];rfl
def Bky {a:κ}:∀ {l:List (κ×Value)},a∉l.map (·.1)->Awn a l=l
 |[],_=>rfl
 |(b,v)::l,h=>by
  simp only[A2u,A1g,not_or]at h;unfold Awn;rw[if_neg h.1,Bky h.2]
def M8 {a:κ}:∀ {l:List (κ×Value)},Ik a l=none↔a∉l.map (·.1)
 |[]=>by simp[Ik]
 |(b,v)::l=>by
  unfold Ik;split
  ·rename_i e;simp[e]
  rename_i hne;rw[M8];simp[hne]
variable {P:Program} {kt:TypeId}
def Oj (K:Zk P kt enc)(a:κ)(w:World):∀ (es:List MapEntry) (l:List (κ×Value)) (i:Nat),es.map (fun e=>(e.key,e.val))=l.map (fun p=>(enc p.1,p.2))->(Instr.findAsking kt (enc a) es i).run P w=.ok (Iw a l i) w
 |[],[],i,_=>by simp[Instr.findAsking,Iw]
 |[],_::_,_,h=>by simp at h
 |_::_,[],_,h=>by simp at h
 |e::es,(b,v)::l,i,h=>by
  simp only[A2u,A3g,A2i]at h;obtain⟨⟨j,m⟩,n⟩:=h;unfold Instr.findAsking;simp only[Sem.run_bind,j,K.eq,Result.andThen_ok];unfold Iw;by_cases d:a=b
  ·simp[d,m]
  simp only[decide_eq_false d,A4z,if_false,if_neg d];exact Oj K a w es l (i+1) n
def Xp {d:TypeDesc}(m:∀ a b,Instr.sameNow d (enc a) (enc b)=some (decide (a=b)))(a:κ):∀ (es:List MapEntry) (l:List (κ×Value)) (i:Nat),es.map (fun e=>(e.key,e.val))=l.map (fun p=>(enc p.1,p.2))->Instr.findNow d (enc a) es i=some (Iw a l i)
 |[],[],i,_=>by simp[Instr.findNow,Iw]
 |[],_::_,_,h=>by simp at h
 |_::_,[],_,h=>by simp at h
 |e::es,(b,v)::l,i,h=>by
  simp only[A2u,A3g,A2i]at h;obtain⟨⟨n,u⟩,z⟩:=h;unfold Instr.findNow Iw;rw[n,m];by_cases j:a=b
  ·simp[j,u]
  simp only[decide_eq_false j,if_neg j];exact Xp m a es l (i+1) z
def U8 (K:Zk P kt enc)(a:κ)(w:World){es:List MapEntry}{l:List (κ×Value)}(h:es.map (fun e=>(e.key,e.val))=l.map (fun p=>(enc p.1,p.2))):(Instr.findKey kt (enc a) es).run P w=.ok (Iw a l 0) w:=by
 obtain⟨d,m,j⟩:=K.now;unfold Instr.findKey;simp only[Sem.run_bind,run_underlying m,Result.andThen_ok];rcases j with j|j
 case inr=>rw[Xp j a es l 0 h];rfl
 cases es with
 |nil =>
  cases l with
  |nil=>simp[Instr.findNow,Iw]
  |cons=>simp at h
 |cons e es =>
  have n:Instr.findNow d (enc a) (e::es) 0=none:=by
   cases l with
   |nil=>simp at h
   |cons p l =>
    simp only[A2u,A3g,A2i]at h;unfold Instr.findNow;rw[h.1.1,j]
  rw[n];exact Oj K a w _ _ _ h
def Hu.empty:Hu enc (.map #[] 0) []:=⟨#[],0,rfl,mV,stamped_empty 0⟩
def Hu.nodup {l:List (κ×Value)}(h:Hu enc o l):(l.map (·.1)).Nodup:=by
 obtain⟨es,clock,rfl,he,hs⟩:=h;have h1:es.toList.map (·.key)=l.map (fun p=>enc p.1):=by
  have:=congrArg (List.map (·.1)) he;simpa[Function.comp_def] using this
 have h2:=hs.2.2;rw[h1]at h2;have:l.map (fun p=>enc p.1)=(l.map (·.1)).map enc:=by simp[Function.comp_def]
 rw[this]at h2;exact M4 h2
def Ahy (K:Zk P kt enc)(n:P.underlying t=some (.map kt et)){z:Value}(u:∀ w,(zeroValue et).run P w=.ok z w){l:List (κ×Value)}(j:w.heap[g]?=some o)(m:Hu enc o l)(a:κ)(ok:Bool) :
 (Instr.lookup t (.map (some g)) (enc a) ok).run P w=.ok (Alm z (Ik a l) ok) w:=by
 obtain⟨es,d,rfl,e,v⟩:=m;have h:=U8 K a w e;rw[<-Aah a l 0];simp only[Instr.lookup,Sem.run_bind,run_underlying n,Result.andThen_ok,MapKept.run_getObj_map j,K.chk,Sem.run_pure,h];cases Iw a l 0 with
 |none=>simp only[Alm,Option.map_none,Sem.run_bind,u,Result.andThen_ok,Sem.run_pure]
 |some p=>simp only[Alm,A4c,Sem.run_bind,Sem.run_pure,Result.andThen_ok]
def Aij (K:Zk P kt enc)(V:P.underlying t=some (.map kt et)){l:List (κ×Value)}(H:w.heap[g]?=some o)(Y:Hu enc o l)(a:κ)(x:Value) :
 ∃ o',Hu enc o' (Lr a x l)/\(Instr.mapUpdate t (.map (some g)) (enc a) x).run P w=.ok () { w with heap:=w.heap.setIfInBounds g o' }:=by
 obtain⟨es,d,rfl,n,U⟩:=Y;have F:=U8 K a w n;have R:es.toList.length=l.length:=by simpa using congrArg List.length n
 cases hfk:Iw a l 0 with
 |none =>
  rw[hfk]at F;have T:=Xc hfk;refine⟨.map (es.push { key:=enc a,val:=x,born:=d }) (d+1),⟨_,_,rfl,?_,stamped_push U (fun e X Q=>?_)⟩,?_⟩
  ·rw[Agn x T];simp only[Array.toList_push,A1i,n,A2u,A7m]
  ·obtain⟨j,W,rfl⟩:=List.mem_iff_getElem.1 X;have:=congrArg (fun t=>t[j]?) n;simp only[A1a,A01 W,A4c]at this;rw[A01 oV]at this;simp only[A4c,A1f,A2i]at this;rw[this.1]at Q;exact T (A1b.2 ⟨_,A09 oV,K.inj _ _ Q⟩)
  simp only[Instr.mapUpdate,Sem.run_bind,run_underlying V,Result.andThen_ok,MapKept.run_getObj_map H,K.chk,F];exact MapKept.run_setObj_map _ H
 |some p =>
  obtain⟨j,v⟩:=p;rw[hfk]at F;obtain⟨_,I,O,_⟩:=Yy hfk;rw[A6t]at I O;have L:j<l.length:=(A05.1 I).1;have J:j<es.toList.length:=oV;obtain⟨E,u⟩:∃ E,es.toList[j]?=some E:=⟨_,A01 J⟩;have z:E.key=enc a:=by
   have:=congrArg (fun t=>t[j]?) n;simp only[A1a,u,A4c,I,A1f,A2i]at this;exact this.1
  have m:es[j]?=some E:=by rw[<-A6u];exact u
  refine⟨.map (es.modify j fun e=>{ e with key:=enc a,val:=x }) d,⟨_,_,rfl,?_,stamped_modify U j _ (fun _ _=>rfl) (fun e _ h=>?_)⟩,?_⟩
  ·rw[O x,A2g];apply A4g;intro i;simp only[A1a,A6u,A8c,A1z];have hi:=congrArg (fun t=>t[i]?) n;simp only[A1a,A6u]at hi;by_cases e:j=i
   ·subst e;rw[if_pos rfl,if_pos rfl,m,if_pos (by simpa using L)];rfl
   rw[if_neg e,if_neg e];exact hi
  ·rw[m]at h;cases h;exact z.symm
  have C:((es[j]?).map (·.key)).getD (enc a)=enc a:=by rw[m];simp[z]
  simp only[Instr.mapUpdate,Sem.run_bind,run_underlying V,Result.andThen_ok,MapKept.run_getObj_map H,K.chk,F,C];have N:(Instr.keyThatStays (enc a) (enc a)).run P w=.ok (enc a) w:=by unfold Instr.keyThatStays;rw[if_pos (K.bits a)];rfl
  rw[N];simp only[Result.andThen_ok];exact MapKept.run_setObj_map _ H
def Bne (K:Zk P kt enc){t et rt:TypeId}{ts:Array TypeId}(e:ts[0]?=some t)(F:P.underlying t=some (.map kt et)){l:List (κ×Value)}(n:w.heap[g]?=some o)(I:Hu enc o l)(a:κ) :
 ∃ o',Hu enc o' (Awn a l)/\(Builtin.delete_ ts rt #[.map (some g),enc a]).run P w=.ok (.tuple #[]) { w with heap:=w.heap.setIfInBounds g o' }:=by
 obtain⟨es,d,rfl,h,E⟩:=I;have m:=U8 K a w h;have C:es.toList.length=l.length:=by simpa using congrArg List.length h
 cases hfk:Iw a l 0 with
 |none =>
  rw[hfk]at m;refine⟨.map es d,⟨es,d,rfl,by rw[Bky (Xc hfk)];exact h,E⟩,?_⟩;simp[Builtin.delete_,e,run_underlying F,MapKept.run_getObj_map n,K.chk,m,MapKept.run_setObj_map _ n]
 |some p =>
  obtain⟨j,v⟩:=p;rw[hfk]at m;obtain⟨_,u,_,z⟩:=Yy hfk;rw[A6t]at u z;have H:j<l.length:=(A05.1 u).1;refine⟨.map (es.eraseIdxIfInBounds j) d,⟨_,_,rfl,?_,stamped_erase E j⟩,?_⟩
  ·have:(es.eraseIdxIfInBounds j).toList=es.toList.eraseIdx j:=by
    unfold Array.eraseIdxIfInBounds;rw[dif_pos (by simpa using (by omega:j<es.toList.length))];simp
   rw[this,z,Bi3,Bi3,h]
  simp[Builtin.delete_,e,run_underlying F,MapKept.run_getObj_map n,K.chk,m,MapKept.run_setObj_map _ n]
end
end
end Go.Proofs.YtnjlhkppabfebaaGreatDoor
