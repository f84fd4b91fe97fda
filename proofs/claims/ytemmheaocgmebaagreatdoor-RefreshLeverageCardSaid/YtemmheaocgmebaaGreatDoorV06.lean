import Derived.Test.YtemmheaocgmebaaGreatDoorV05
import Derived.Lib.AppendIntMem
import Derived.Lib.AtoiErrMem
import Derived.Lib.ConvBytes
set_option linter.defProp false
set_option linter.unusedVariables false
set_option linter.unusedSimpArgs false
set_option linter.unusedSectionVars false
set_option maxHeartbeats 16000000
namespace Go.Proofs.YtemmheaocgmebaaGreatDoor
open Go.Proofs.Tryz
open Go.RowKit
def A5n:=@Option.map_eq_some_iff
def A6y:=@Array.size_replicate
def A6a:=@Option.isSome_iff_exists
def A48:=@Nat.le_of_dvd
def Ba6:=@Nat.one_dvd
def Ba7:=@Nat.lcm_dvd
def A74:=@Nat.dvd_trans
def A78:=@Nat.dvd_lcm_left
def A1i:=@List.map_append
section
open Go.Shelf Go.RowKit
def Af0:(prog.info? 294).map (·.size)=some 2:=kV
def Ars:liesAt prog prog.depth 294 (2/prog.cellsOf 294) 0 294 1=true:=kV
def Ann:(prog.info? 5).map (fun i=>(i.zero,i.size,i.bytes))=some (some (.int .u8 0),1,1):=kV
set_option maxRecDepth 100000 in
def Yk (b:Nat)(w:World)(h0:w.cell? ⟨b,0,none⟩=some (.pointer (zA b))) :
 Calls prog 286 #[.pointer (zA b)] w fun e w'=>e=.returned (.tuple #[])/\w'=w:=by
 obtain⟨j,f,_⟩:=A5n.1 Af0
 go_enter func286,ntmps286
 go_wp2
 rw[Lib.run_neq_ptr_same w _ Tryz.underlying292 f]
 go_wp2
 go_end0
 exact⟨rfl,rfl⟩
set_option maxRecDepth 100000 in
def Vk (b:Nat)(w:World)(h0:w.cell? ⟨b,0,none⟩=some (.pointer none))(f:w.shape? b=some (294,2))(t:w.frozen? ⟨b,0,none⟩=false) :
 Calls prog 286 #[.pointer (zA b)] w fun e w'=>e=.returned (.tuple #[])/\w'=w.setCell ⟨b,0,none⟩ (.pointer (zA b)):=by
 obtain⟨j,m,h⟩:=A5n.1 Af0
 go_enter func286,ntmps286
 go_wp2
 rw[Lib.run_to_unsafe w ⟨b,0,none⟩ Tryz.underlying292 Tryz.underlying345 m (by rw[h];decide) f (Nat.zero_lt_succ 1)];simp only[Result.andThen];rw[Oper.upon_value]
 go_wp2
 rw[run_callFunc_extern func320 kV kV kV (e:=Extern.AbiNoEscape.same) kV];rw[Lib.run_noEscape];simp only[Result.andThen];rw[Oper.upon_value]
 go_wp2
 rw[Lib.run_from_unsafe w ⟨b,0,none⟩ Tryz.underlying345 Tryz.underlying292 m f Ars];simp only[Result.andThen];rw[Oper.upon_value]
 go_wp2
 go_end0
 exact⟨rfl,rfl⟩
def Zf (B b:Nat)(f:zV)(w:World)(h:Lib.IsBuilder 294 5 B b f w) :
 Calls prog 286 #[.pointer (zA b)] w fun e w'=>e=.returned (.tuple #[])/\(Lib.BuilderAt 294 5 B b (.pointer (zA b)) f w'/\Below B w w'):=by
 rcases h with h|h
 ·refine (Vk b w h.cell0 h.shape h.frozen0).mono ?_;rintro e w' ⟨rfl,rfl⟩;exact⟨rfl,h.used _,(Below.refl B w).setCell (p:=⟨b,0,none⟩) h.1 _⟩
 refine (Yk b w h.cell0).mono ?_;rintro e w' ⟨rfl,rfl⟩;exact⟨rfl,h,Below.refl B _⟩
set_option maxRecDepth 100000 in
def Dl (B b:Nat)(C:zV)(s:ByteArray)(w:World)(h:Lib.IsBuilder 294 5 B b C w)(U:C.length+s.size<=140737488355328)(Y:B<=w.heap.size) :
 Calls prog 253 #[.pointer (zA b),.string s] w fun e w'=>e=.returned (.tuple #[zI s.size,.nilIface])/\(Lib.BuilderAt 294 5 B b (.pointer (zA b)) (C++Lib.strCells s) w'/\Below B w w'):=by
 obtain⟨i0,hi,K,L,P⟩:=info_parts Ann
 go_enter func253,ntmps253
 go_wp2_with fail
 refine (Zf B b C _ h).mono ?_;rintro e D ⟨rfl,X,A⟩;obtain⟨R,v,t,u,I⟩:=X;have c0:D.cell? ⟨b,0,none⟩=some (.pointer (zA b)):=by rw[Lib.cell_of_heap t];rfl
 have c1:D.cell? ⟨b,1,none⟩=some v:=by rw[Lib.cell_of_heap t];rfl
 go_wp2_with (at_builtin;refine Lib.wpList_append_own_string _ rfl _ _ 263 9 rfl B 5 i0 Tryz.underlying263 Tryz.underlying9 hi K L P _ _ _ rfl u s rfl ?c3 ?c4 ?c5 ?_)
 case c3=>unfold maxLen;omega
 case c4=>omega
 case c5=>have:=A.size;omega
 intro v' E j f _;have H:b<D.heap.size:=by
  rcases A2e b D.heap.size with F|F
  ·exact F
  simp[A43 F]at t
 have m:E.heap[b]?=some (.cells #[.pointer (zA b),v] 294 (0,0)):=by
  rw[f.block b H (fun e=>I e.symm)];exact t
 have d0:E.cell? ⟨b,0,none⟩=some (.pointer (zA b)):=by rw[Lib.cell_of_heap m];rfl
 have d1:E.cell? ⟨b,1,none⟩=some v:=by rw[Lib.cell_of_heap m];rfl
 have f1:E.frozen? ⟨b,1,none⟩=false:=Lib.frozen_of_heap m 1;obtain⟨Q,V,cap,rfl⟩:∃ Q V cap,v'=.slice Q V cap:=by
  rcases j.2 with ⟨J,_⟩|⟨g,cap,W,J,_⟩
  ·exact⟨_,_,_,J⟩
  exact⟨_,_,_,J⟩
 go_wp2
 go_ret2
 refine⟨rfl,?_,?_⟩
 ·exact Lib.BuilderAt.put (T:=294) (e:=5) R m (bs':=C++Lib.strCells s) (by simpa[Lib.strCells_length] using j) fV
 exact (A.grown f (by have:=A.size;omega) (fun k Z=>(u.lt k Z).1)).setCell (p:=⟨b,1,none⟩) R _
end
section
open Go.Shelf Go.RowKit Go.Sort Go.Lib
set_option maxRecDepth 100000 in
def Wo (u:Nat)(f:u<18446744073709551616)(w:World)(D:Lib.TabIs prog w "internal/strconv.uint64pow10" .u64 Lib.pow10Tab) :
 Calls prog 252 #[.int .u64 u,zI 10] w fun e w'=>e=.returned (.string ⟨(Lib.decDigits u).toArray⟩)/\Below w.heap.size w w':=by
 by_cases Q:u<100
 ·go_enter func252,ntmps252
  go_wp2_with fail
  refine (Tryz.internal_strconv_small u Q _).mono ?_;rintro e w' ⟨rfl,rfl⟩
  go_wp2_with fail
  go_ret
  exact⟨rfl,Below.refl _ _⟩
 have E:1<=u:=oV;have I:Lib.nDigits u<=20:=by have:=Lib.numDigits_eq u E f;split at this<;>omega
 have C:prog.arrayLen 320=24:=kV;have J:∀ W,(Instr.sliceAt 320 (.pointer (some ⟨w.heap.size,0,none⟩)) none (some (zI (Lib.nDigits u:Int))) none).run prog W=.ok (.slice (some ⟨w.heap.size,0,none⟩) (Lib.nDigits u) 24) W:=fun W=>by
  rw[run_sliceAt_array_h W 320 ⟨w.heap.size,0,none⟩ kV .i64 (Lib.nDigits u:Int) oV (by rw[C];omega)]
  go_simp
 have t:=Lib.holds_zero0 w 320 (Lib.nDigits u) oV;have m:=Tryz.internal_strconv_formatBase10 w.heap.size 0 24 u (Array.replicate (Lib.nDigits u) 0) (w.alloc (.cells Lib.zeros24 320)) t (by rw[A6y];exact Lib.lt_pow_nDigits u) f (by rw[A6y];omega);rw[A6y]at m;have F:=Lib.hid t;clear t C
 go_enter func252,ntmps252
 go_wp2_with fail
 refine (Tryz.internal_strconv_numDigits u E f _ (Lib.tabIs_alloc D _)).mono ?_;rintro e w' ⟨rfl,rfl⟩
 go_wp2_with fail
 refine m.mono ?_;rintro e w' ⟨rfl,k,T,A,rfl,hF⟩;have L:(convert 263 9 (.slice (some ⟨w.heap.size,0,none⟩) (Lib.nDigits u) 24)).run prog ((putRow (fun (b:UInt8)=>Value.int .u8 (b.toNat:Int)) (w.alloc (.cells Lib.zeros24 320)) w.heap.size 0 A).drewN k)=.ok (.string ⟨(Lib.decDigits u).toArray⟩) ((putRow (fun (b:UInt8)=>Value.int .u8 (b.toNat:Int)) (w.alloc (.cells Lib.zeros24 320)) w.heap.size 0 A).drewN k):=by
  have h:=run_convert_bytes_back (P:=prog) ((putRow (fun (b:UInt8)=>Value.int .u8 (b.toNat:Int)) (w.alloc (.cells Lib.zeros24 320)) w.heap.size 0 A).drewN k) 263 9 5 ⟨w.heap.size,0,none⟩ 24 (Lib.decDigits u) Tryz.underlying263 Tryz.underlying5 Tryz.underlying9 (fun j H=>by
   rw[Lib.row_is_numeral hF j H,Lib.add_plain,World.cell?_drewN];exact cell?_putRow (fun (b:UInt8)=>Value.int .u8 (b.toNat:Int)) _ w.heap.size 0 _ A F.out (by rw[hF.size,A6y]) j (by rw[hF.size];rw[Lib.decDigits_length]at H;exact H))
  rw[Lib.decDigits_length]at h;exact h
 go_wp2_with fail
 go_ret
 refine⟨rfl,?_⟩;obtain⟨R,K⟩:=Lib.fin_at w (.cells Lib.zeros24 320) A k 0;rw[K];exact Lib.below_grow _ w (A08 _) k R
end
section
open Go.Shelf Go.RowKit Go.Sort Go.Lib
variable {B b d k n:Nat}{T e:TypeId}{bs:zV}{neg:Bool}{w w':World}
def Pg {P:Program}{f:String}{k:IntKind}{zs:List Int}(h:TabIs P w f k zs)(x:Ext w w'):TabIs P w' f k zs:=by
 unfold TabIs World.var? at *
 cases hg:P.globalNamed f with
 |none=>simp[hg]at h
 |some g =>
  simp only[hg,Option.bind_some]at h⊢;have m:g<w.heap.size:=by
   rcases A2e g w.heap.size with j|j
   ·exact j
   simp[A43 j]at h
  rw[Below.block x g m];exact h
def Uq {size:Nat}{v:Value}{xs:zV}(h:w.ownsRow B e size v n xs)(x:Ext w w'):w'.ownsRow B e size v n xs:=by
 obtain⟨m,h0|⟨g,cap,f,u,t,j,r⟩⟩:=h
 ·exact⟨m,.inl h0⟩
 exact⟨m,.inr ⟨g,cap,f,u,t,by rw[Below.block x g (Aw j)];exact j,r⟩⟩
def Pr {p:Value}(h:BuilderAt T e B b p bs w)(x:Ext w w'):BuilderAt T e B b p bs w':=by
 obtain⟨m,v,j,t,f⟩:=h;exact⟨m,v,by rw[Below.block x b (Aw j)];exact j,Uq t x,f⟩
def E1 (h:IsBuilder T e B b bs w)(x:Ext w w'):IsBuilder T e B b bs w' :=
 h.elim (fun h=>.inl (Pr h x)) (fun h=>.inr (Pr h x))
def Arn (n j k:Nat):ld n (j+k)=ld n j++ld (n/10^j) k:=by
 induction k with
 |zero=>simp[ld]
 |succ k ih =>
  rw[<-A3p,V5,V5,ih,A2k]
  congr 3
  unfold dg;rw[A45,<-A4k]
def Ayu (d:Nat)(h:∀ j,j<k->n/10^j%10=d/10^j%10):ld n k=ld d k:=by
 unfold ld;refine A41 fun j f=>?_;unfold dg;rw[h j (A6q.1 f)]
def Ha (k:Nat):repeatL [48] k=List.replicate k 48:=by
 induction k with
 |zero=>rfl
 |succ k ih=>rw[repeatL,ih];rfl
def Ks (t:d<1000000000):nDigits d<=9:=by
 rcases A2a d with h|h
 ·subst h;rw[nDigits_small oV];omega
 have f:=Hd (n:=d) oV;have j:10^(nDigits d-1)<10^9:=A22 f oV;have m:=(A7l (by omega:1<10)).1 j;omega
def A0x (f:d<1000000000):(ld d 9).reverse=repeatL [48] (9-nDigits d)++decDigits d:=by
 have h:=Ks f;have e:9=nDigits d+(9-nDigits d):=oV
 rw[show ld d 9=ld d (nDigits d+(9-nDigits d)) by rw[<-e],Arn,A8q,Ac2]
 congr 1
 have h0:d/10^nDigits d=0:=A49 (lt_pow_nDigits d);rw[h0,Ha];have:∀ k,ld 0 k=List.replicate k 48:=by
  intro k;induction k with
  |zero=>rfl
  |succ k ih=>rw[V5,ih,A90];congr 1;simp[dg]
 rw[this,List.reverse_replicate]
def Aq6 {x d:Nat}(u:x≠0)(m:d<1000000000):decDigits (x*1000000000+d)=decDigits x++(repeatL [48] (9-nDigits d)++decDigits d):=by
 have f:(x*1000000000+d)/10^9=x:=oV
 have h:nDigits (x*1000000000+d)=9+nDigits x:=by
  rw[Pz (j:=9) oV,f]
 rw[<-Ac2,h,Arn,f,A8q,Ac2,<-A0x m]
 congr 2
 refine Ayu d fun j t=>?_;have e:(1000000000:Nat)=10^j*10^(9-j):=by rw[<-A4k,show j+(9-j)=9 by omega]
 rw[e,A19 x,A17,Nat.mul_add_div (A66 oV),show 9-j=(8-j)+1 by omega,A2d];rw[Nat.mul_right_comm,A19 _ 10,Nat.mul_add_mod]
def mid (n k:Nat):zB:=if k=(Aa n).length then [] else decDigits (n/1000000000^k)
def Alp (n:Nat):mid n (Aa n).length = []:=by simp[mid]
def Adk (h:k≠(Aa n).length):mid n k=decDigits (n/1000000000^k):=by simp[mid,h]
def Dj (neg:Bool)(n k:Nat):zB:=(if neg then [45] else [])++mid n k
def Xf (neg:Bool)(n:Nat):Dj neg n (Aa n).length=if neg then [45] else []:=by rw[Dj,Alp,A1x]
def M9 (z:Int)(h:z≠0):Dj (decide (z<0)) z.natAbs 0=itoa z:=by
 have f:(Aa z.natAbs).length≠0:=fun h0=>h (by have:=Hj.1 (A2l h0);omega);rw[Dj,Adk (fun h0=>f h0.symm),D5,Bj,A8j,Ba5];split<;>rfl
def Yn (n k:Nat):n/1000000000^k=n/1000000000^(k+1)*1000000000+(Aa n).getD k 0:=by
 rw[Qw,A2d,<-A45];omega
def Wq (f:k+1=(Aa n).length):Dj neg n k=Dj neg n (k+1)++decDigits ((Aa n).getD k 0):=by
 have h0:n/1000000000^(k+1)=0:=A49 (by rw[f];exact Dd n);rw[Dj,Dj,Adk oV,f,Alp,A1x,Yn,h0];simp
def Wc (f:k+1<(Aa n).length):Dj neg n k=Dj neg n (k+1)++(repeatL [48] (9-nDigits ((Aa n).getD k 0))++decDigits ((Aa n).getD k 0)):=by
 have m:n≠0:=by rintro rfl;rw[A7]at f;simp at f
 have t:n/1000000000^(k+1)≠0:=by
  have h:=Rw m;have j:1000000000^(k+1)<=1000000000^(nl n-1):=A10 oV (by have:nl n=(Aa n).length:=rfl;omega);have u:=Nat.div_pos (A04 j h) (A66 oV);omega
 rw[Dj,Dj,Adk oV,Adk oV,A2k]
 congr 1
 rw[Yn n k,Aq6 t ((Ao n).getD k)]
def U5 (neg:Bool)(n k:Nat):(Dj neg n k).length<=1+9*(Aa n).length+1:=by
 have m:nDigits (n/1000000000^k)<=9*(Aa n).length+1:=by
  rcases A2a (n/1000000000^k) with h|h
  ·rw[h,nDigits_small oV];omega
  have f:=Hd (n:=n/1000000000^k) oV;have j:10^(nDigits (n/1000000000^k)-1)<10^(9*(Aa n).length):=A22 f (A22 (A3u _ _) (Rv n));have t:=(A7l (by omega:1<10)).1 j;omega
 unfold Dj mid;split<;>split<;>simp[decDigits_length]<;>omega
end
section
open Go.Shelf Go.RowKit Go.Sort Go.Lib
set_option maxRecDepth 100000 in
def Es (u:Nat)(h:u<18446744073709551616)(w:World)(f:Lib.TabIs prog w "internal/strconv.uint64pow10" .u64 Lib.pow10Tab) :
 Calls prog 210 #[.int .u64 u,zI 10] w fun e w'=>e=.returned (.string ⟨(Lib.decDigits u).toArray⟩)/\Ext w w':=by
 go_enter func210,ntmps210
 go_wp2_with fail
 refine (Wo u h _ f).mono ?_;rintro e w' ⟨rfl,j⟩
 go_wp2_with fail
 go_ret
 exact⟨rfl,j⟩
def Ap2 (W0:World)(B:Nat)(neg:Bool)(n:Nat)(i:Value)(wr:World):Prop :=
 ∃ k:Nat,k<=(Aa n).length/\i=zI ((k:Int)-1)/\IsBuilder 294 5 B B (byteCells (Dj neg n k)) wr/\Below B W0 wr
def Dr (l l':zB):byteCells l++byteCells l'=byteCells (l++l'):=by simp[byteCells]
set_option maxRecDepth 100000 in
theorem Zj (v:Value)(z:Int)(w:World)(hv:St w v z)(hs:nl z.natAbs<=100000000000)(htab:Lib.TabIs prog w "internal/strconv.uint64pow10" .u64 Lib.pow10Tab) :
 Calls prog 211 #[v] w fun e w'=>e=.returned (.string ⟨(Lib.itoa z).toArray⟩)/\Ext w w':=by
 obtain⟨a,n,c,rfl,hn⟩:=hv;obtain⟨a',c',e,hcap,hrow⟩:=hn;simp only[Value.slice.injEq]at e;obtain⟨rfl,rfl,rfl⟩:=e;have hlen:(Aa z.natAbs).length<=100000000000:=hs;by_cases hz:z=0
 ·subst hz;rw[show (Aa (0:Int).natAbs).length=0 by rw[show (0:Int).natAbs=0 from rfl,A7];rfl];clear hrow hcap hlen
  go_enter func211,ntmps211
  go_wp2_with fail
  go_ret
  exact⟨by rw[E5];rfl,Ext.alloc (Ext.refl w) _⟩
 ·have hp:0<(Aa z.natAbs).length:=Df.2 oV;obtain⟨L,hL⟩:∃ L,L=(Aa z.natAbs).length:=⟨_,rfl⟩;rw[<-hL]at hp hlen⊢;have HL:=Lib.hid hL;have HROW:=Lib.hid hrow;have HTAB:=Lib.hid htab;clear hL hrow htab hcap;obtain⟨neg,hneg⟩:∃ neg,neg=decide (z<0):=⟨_,rfl⟩;rw[<-hneg];have HNEG:=Lib.hid hneg;clear hneg;obtain⟨w1,hw1⟩:∃ w1,w1=w.alloc (Obj.cells #[Value.bool neg,Value.slice a L c] 141):=⟨_,rfl⟩;have hs1:w1.heap.size=w.heap.size+1:=by rw[hw1];exact B6 _ _
  have HX1:RowKit.Hid (Ext w w1):=Lib.hid (by rw[hw1];exact Ext.alloc (Ext.refl w) _);have HB0:=Lib.hid (Lib.fresh_isBuilder 294 5 w1);have HW1:=Lib.hid hw1;have HS1:=Lib.hid hs1;clear hw1 hs1;cases neg
  ·go_enter func211,ntmps211
   go_wp2_with fail
   rw[<-HW1.out,<-HS1.out,show ((L:Int)==0)=false by rw[beq_eq_false_iff_ne];omega]
   go_loopw [4] (Ap2 (w1.alloc (Obj.cells #[Value.pointer none,Value.slice none 0 0] 294)) w1.heap.size false z.natAbs) (fun i _=>(RowKit.intOf i+1).toNat)
   case atStart=>exact⟨(Aa z.natAbs).length,A08 _,by rw[<-HL.out],by rw[Xf];exact HB0.out,Below.refl _ _⟩
   case round =>
    obtain⟨k,hk,rfl,hbd,hbel⟩:=hrel;have hsz0:=hbel.size;rw[B6]at hsz0;have HXW:RowKit.Hid (Ext w wr):=Lib.hid (Ext.trans HX1.out (Below.trans (Ext.alloc (Ext.refl w1) (Obj.cells #[Value.pointer none,Value.slice none 0 0] 294)) hbel));rcases k with _|k
    ·have hne:Dj false z.natAbs 0≠[]:=by rw[HNEG.out,M9 z hz,D5,Bj];split;simp;exact Gk _
     have HBD:=Lib.hid hbd;clear hbd
     go_wp2_with fail
     refine (Tryz.Builder_String w1.heap.size w1.heap.size (Dj false z.natAbs 0) wr HBD.out hne).mono ?_;rintro e w2 ⟨rfl,hb2⟩
     go_wp2_with fail
     go_ret
     refine⟨?_,Below.trans HXW.out ?_⟩
     ·rw[HNEG.out,M9 z hz];rfl
     ·exact Below.mono hb2 (by have:=HS1.out;omega)
    ·have hsz1:w.heap.size<w1.heap.size:=by rw[HS1.out];omega
     have hc1:wr.cell? ⟨w.heap.size,1,none⟩=some (.slice a L c):=by
      rw[Below.cell hbel hsz1,Below.cell (Ext.alloc (Ext.refl w1) _) hsz1,HW1.out,World.cell?_alloc_new];rfl
     obtain⟨ba,offa,rfl,hca⟩:=HROW.out.at (j:=k) oV;have hcb:=HXW.out.cell hca;clear hca;have hlow:(Aa z.natAbs).getD k 0<1000000000:=(Ao _).getD k;obtain⟨x,hx⟩:∃ x,x=(Aa z.natAbs).getD k 0:=⟨_,rfl⟩;rw[<-hx]at hcb hlow;have XX:=Lib.hid hx;have HBD:=Lib.hid hbd;have HBEL:=Lib.hid hbel;have HK:=Lib.hid hk;clear hx hbd hbel hk hsz1;rw[show ((k+1:Nat):Int)-1=k by omega];have hkL:k<L:=by have:=HK.out;have:=HL.out;omega
     have hsw:(Dj false z.natAbs (k+1)).length<=1+9*L+1:=by have:=U5 false z.natAbs (k+1);rw[<-HL.out]at this;exact this
     have hd9:=Ks hlow;have hdl:=decDigits_length x;have HSW:=Lib.hid hsw;have HDL:=Lib.hid hdl;have HD9:=Lib.hid hd9;clear hsw hdl hd9;by_cases htop:k+1=L
     ·have hkt:¬ ((k:Int)<(L:Int)-1):=oV
      have HTOP:=Lib.hid htop;clear htop
      go_wp2_with fail
      refine (Es x oV _ (Pg HTAB.out HXW.out)).mono ?_;rintro e w2 ⟨rfl,hx2⟩;have HX2:=Lib.hid hx2;clear hx2;have hc2:=HX2.out.cell hc1;clear hc1 hcb
      go_wp2_with fail
      refine (Dl w1.heap.size w1.heap.size (byteCells (Dj false z.natAbs (k+1))) ⟨(decDigits x).toArray⟩ w2 (E1 HBD.out HX2.out) (by rw[byteCells_length,Lib.size_mk,HDL.out];have:=HSW.out;have:=HD9.out;omega) (by have:=HX2.out.size;omega)).mono ?_;rintro e w3 ⟨rfl,hb3,hbel3⟩;have htx:=Wq (neg:=false) (n:=z.natAbs) (k:=k) (by rw[<-HL.out];exact HTOP.out);rw[<-XX.out]at htx;rw[strCells_toArray,Dr,<-htx]at hb3
      go_wp2_with fail
      refine⟨⟨k,by rw[<-HL.out];omega,by go_num,.inr hb3,Below.trans HBEL.out (Below.trans (Below.mono HX2.out oV) hbel3)⟩,by simp only[RowKit.intOf];omega⟩
     ·have hkt:(k:Int)<(L:Int)-1:=oV
      have HTOP:=Lib.hid htop;clear htop
      go_wp2_with fail
      refine (Es x oV _ (Pg HTAB.out HXW.out)).mono ?_;rintro e w2 ⟨rfl,hx2⟩;have HX2:=Lib.hid hx2;clear hx2;have hc2:=HX2.out.cell hc1;clear hc1 hcb;have hsl:(⟨(decDigits x).toArray⟩:ByteArray).size=nDigits x:=by rw[Lib.size_mk];exact HDL.out
      go_wp2_with fail
      rw[show wrap64 (9-(nDigits x:Int))=((9-nDigits x:Nat):Int) by have:=HD9.out;unfold wrap64;omega];have hrep:=Tryz.strings_Repeat ⟨#[48]⟩ (9-nDigits x) w2 oV (by have:=HD9.out;simp[ByteArray.size];omega);refine hrep.mono ?_;rintro e w4 ⟨rfl,hx4⟩;have HX4:RowKit.Hid (Ext w2 w4):=Lib.hid hx4;clear hx4 hrep
      go_wp2_with fail
      refine (Dl w1.heap.size w1.heap.size (byteCells (Dj false z.natAbs (k+1))) ⟨(repeatL [48] (9-nDigits x)).toArray⟩ w4 (E1 (E1 HBD.out HX2.out) HX4.out) (by rw[byteCells_length,Lib.size_mk,Ha,A3k];have:=HSW.out;omega) (by have:=HX2.out.size;have:=HX4.out.size;omega)).mono ?_;rintro e w5 ⟨rfl,hb5,hbel5⟩;rw[strCells_toArray,Dr]at hb5
      go_wp2_with fail
      refine (Dl w1.heap.size w1.heap.size _ ⟨(decDigits x).toArray⟩ w5 (.inr hb5) (by rw[byteCells_length,Lib.size_mk,HDL.out,A1d,Ha,A3k];have:=HSW.out;have:=HD9.out;omega) (by have:=HX2.out.size;have:=HX4.out.size;have:=hbel5.size;omega)).mono ?_;rintro e w3 ⟨rfl,hb3,hbel3⟩;have htx:=Wc (neg:=false) (n:=z.natAbs) (k:=k) (by rw[<-HL.out];have:=HTOP.out;omega);rw[<-XX.out]at htx;rw[strCells_toArray,Dr,A2k,<-htx]at hb3;have h6:=HX2.out.size
      go_wp2_with fail
      refine⟨⟨k,by rw[<-HL.out];omega,by go_num,.inr hb3,Below.trans HBEL.out (Below.trans (Below.mono HX2.out oV) (Below.trans (Below.mono HX4.out oV) (Below.trans hbel5 hbel3)))⟩,by simp only[RowKit.intOf];omega⟩
  ·go_enter func211,ntmps211
   go_wp2_with fail
   rw[<-HW1.out,<-HS1.out,show ((L:Int)==0)=false by rw[beq_eq_false_iff_ne];omega];refine (Dl w1.heap.size w1.heap.size [] ⟨#[45]⟩ _ HB0.out (by simp[ByteArray.size]) (by rw[B6];omega)).mono ?_;rintro e w4 ⟨rfl,hb4,hbel4⟩;have HB4:RowKit.Hid (BuilderAt 294 5 w1.heap.size w1.heap.size (.pointer (some ⟨w1.heap.size,0,none⟩)) (byteCells [45]) w4):=Lib.hid hb4;have HBEL4:=Lib.hid hbel4;have hs4:=hbel4.size;rw[B6]at hs4;have hc0:w4.cell? ⟨w.heap.size,1,none⟩=some (.slice a L c):=by
    have hsz1:w.heap.size<w1.heap.size:=by rw[HS1.out];omega
    rw[Below.cell hbel4 hsz1,Below.cell (Ext.alloc (Ext.refl w1) _) hsz1,HW1.out,World.cell?_alloc_new];rfl
   clear hb4 hbel4
   go_wp2_with fail
   go_loopw [4] (Ap2 (w1.alloc (Obj.cells #[Value.pointer none,Value.slice none 0 0] 294)) w1.heap.size true z.natAbs) (fun i _=>(RowKit.intOf i+1).toNat)
   case atStart=>exact⟨(Aa z.natAbs).length,A08 _,by rw[<-HL.out],by rw[Xf];exact .inr HB4.out,HBEL4.out⟩
   case round =>
    obtain⟨k,hk,rfl,hbd,hbel⟩:=hrel;have hsz0:=hbel.size;rw[B6]at hsz0;have HXW:RowKit.Hid (Ext w wr):=Lib.hid (Ext.trans HX1.out (Below.trans (Ext.alloc (Ext.refl w1) (Obj.cells #[Value.pointer none,Value.slice none 0 0] 294)) hbel));rcases k with _|k
    ·have hne:Dj true z.natAbs 0≠[]:=by rw[HNEG.out,M9 z hz,D5,Bj];split;simp;exact Gk _
     have HBD:=Lib.hid hbd;clear hbd
     go_wp2_with fail
     refine (Tryz.Builder_String w1.heap.size w1.heap.size (Dj true z.natAbs 0) wr HBD.out hne).mono ?_;rintro e w2 ⟨rfl,hb2⟩
     go_wp2_with fail
     go_ret
     refine⟨?_,Below.trans HXW.out ?_⟩
     ·rw[HNEG.out,M9 z hz];rfl
     ·exact Below.mono hb2 (by have:=HS1.out;omega)
    ·have hsz1:w.heap.size<w1.heap.size:=by rw[HS1.out];omega
     have hc1:wr.cell? ⟨w.heap.size,1,none⟩=some (.slice a L c):=by
      rw[Below.cell hbel hsz1,Below.cell (Ext.alloc (Ext.refl w1) _) hsz1,HW1.out,World.cell?_alloc_new];rfl
     obtain⟨ba,offa,rfl,hca⟩:=HROW.out.at (j:=k) oV;have hcb:=HXW.out.cell hca;clear hca;have hlow:(Aa z.natAbs).getD k 0<1000000000:=(Ao _).getD k;obtain⟨x,hx⟩:∃ x,x=(Aa z.natAbs).getD k 0:=⟨_,rfl⟩;rw[<-hx]at hcb hlow;have XX:=Lib.hid hx;have HBD:=Lib.hid hbd;have HBEL:=Lib.hid hbel;have HK:=Lib.hid hk;clear hx hbd hbel hk hsz1;rw[show ((k+1:Nat):Int)-1=k by omega];have hkL:k<L:=by have:=HK.out;have:=HL.out;omega
     have hsw:(Dj true z.natAbs (k+1)).length<=1+9*L+1:=by have:=U5 true z.natAbs (k+1);rw[<-HL.out]at this;exact this
     have hd9:=Ks hlow;have hdl:=decDigits_length x;have HSW:=Lib.hid hsw;have HDL:=Lib.hid hdl;have HD9:=Lib.hid hd9;clear hsw hdl hd9;by_cases htop:k+1=L
     ·have hkt:¬ ((k:Int)<(L:Int)-1):=oV
      have HTOP:=Lib.hid htop;clear htop
      go_wp2_with fail
      refine (Es x oV _ (Pg HTAB.out HXW.out)).mono ?_;rintro e w2 ⟨rfl,hx2⟩;have HX2:=Lib.hid hx2;clear hx2;have hc2:=HX2.out.cell hc1;clear hc1 hcb
      go_wp2_with fail
      refine (Dl w1.heap.size w1.heap.size (byteCells (Dj true z.natAbs (k+1))) ⟨(decDigits x).toArray⟩ w2 (E1 HBD.out HX2.out) (by rw[byteCells_length,Lib.size_mk,HDL.out];have:=HSW.out;have:=HD9.out;omega) (by have:=HX2.out.size;omega)).mono ?_;rintro e w3 ⟨rfl,hb3,hbel3⟩;have htx:=Wq (neg:=true) (n:=z.natAbs) (k:=k) (by rw[<-HL.out];exact HTOP.out);rw[<-XX.out]at htx;rw[strCells_toArray,Dr,<-htx]at hb3
      go_wp2_with fail
      refine⟨⟨k,by rw[<-HL.out];omega,by go_num,.inr hb3,Below.trans HBEL.out (Below.trans (Below.mono HX2.out oV) hbel3)⟩,by simp only[RowKit.intOf];omega⟩
     ·have hkt:(k:Int)<(L:Int)-1:=oV
      have HTOP:=Lib.hid htop;clear htop
      go_wp2_with fail
      refine (Es x oV _ (Pg HTAB.out HXW.out)).mono ?_;rintro e w2 ⟨rfl,hx2⟩;have HX2:=Lib.hid hx2;clear hx2;have hc2:=HX2.out.cell hc1;clear hc1 hcb;have hsl:(⟨(decDigits x).toArray⟩:ByteArray).size=nDigits x:=by rw[Lib.size_mk];exact HDL.out
      go_wp2_with fail
      rw[show wrap64 (9-(nDigits x:Int))=((9-nDigits x:Nat):Int) by have:=HD9.out;unfold wrap64;omega];have hrep:=Tryz.strings_Repeat ⟨#[48]⟩ (9-nDigits x) w2 oV (by have:=HD9.out;simp[ByteArray.size];omega);refine hrep.mono ?_;rintro e w4 ⟨rfl,hx4⟩;have HX4:RowKit.Hid (Ext w2 w4):=Lib.hid hx4;clear hx4 hrep
      go_wp2_with fail
      refine (Dl w1.heap.size w1.heap.size (byteCells (Dj true z.natAbs (k+1))) ⟨(repeatL [48] (9-nDigits x)).toArray⟩ w4 (E1 (E1 HBD.out HX2.out) HX4.out) (by rw[byteCells_length,Lib.size_mk,Ha,A3k];have:=HSW.out;omega) (by have:=HX2.out.size;have:=HX4.out.size;omega)).mono ?_;rintro e w5 ⟨rfl,hb5,hbel5⟩;rw[strCells_toArray,Dr]at hb5
      go_wp2_with fail
      refine (Dl w1.heap.size w1.heap.size _ ⟨(decDigits x).toArray⟩ w5 (.inr hb5) (by rw[byteCells_length,Lib.size_mk,HDL.out,A1d,Ha,A3k];have:=HSW.out;have:=HD9.out;omega) (by have:=HX2.out.size;have:=HX4.out.size;have:=hbel5.size;omega)).mono ?_;rintro e w3 ⟨rfl,hb3,hbel3⟩;have htx:=Wc (neg:=true) (n:=z.natAbs) (k:=k) (by rw[<-HL.out];have:=HTOP.out;omega);rw[<-XX.out]at htx;rw[strCells_toArray,Dr,A2k,<-htx]at hb3;have h6:=HX2.out.size
      go_wp2_with fail
      refine⟨⟨k,by rw[<-HL.out];omega,by go_num,.inr hb3,Below.trans HBEL.out (Below.trans (Below.mono HX2.out oV) (Below.trans (Below.mono HX4.out oV) (Below.trans hbel5 hbel3)))⟩,by simp only[RowKit.intOf];omega⟩
end
section
open Go.Shelf Go.RowKit Go.Sort Go.Lib
variable {l:zB}
def Anw (j:Il l):∀ (e:Nat),rdA e l<1000000000000000000->parseUintM 18446744073709551615 e l=.ok (rdA e l):=by
 induction l with
 |nil=>intro e _;rfl
 |cons b l ih =>
  intro e h;have u:=j b mV;have m:rdA e (b::l)=rdA (10*e+(b.toNat-48)) l:=rfl;rw[m]at h⊢;have t:10*e+(b.toNat-48)<=rdA (10*e+(b.toNat-48)) l:=by
   rw[Ajz];have:1<=10^l.length:=Nat.one_le_pow _ _ oV;have:=A2h (10*e+(b.toNat-48)) this;omega
  have f:=ih (fun x A=>j x (by simp[A])) (10*e+(b.toNat-48)) h;rw[parseUintM,if_pos u,if_neg oV];rw[show 10*e+(b.toNat-48)=e*10+(b.toNat-48) by omega]at f h t⊢
  first
   |(rw[if_neg oV];exact f)
   |(simp only[];rw[if_neg oV];exact f)
def Anf (e:Il l)(h:l≠[])(f:l.length<=9):parseUintB 64 l=.ok (rd l):=by
 rw[parseUintB,if_neg h];refine Anw e 0 ?_;have j:=Aat e;have m:10^l.length<=10^9:=A10 oV f;have t:rdA 0 l=rd l:=rfl;omega
def K7 {neg:Bool}(f:Il l)(h:l≠[]):trimPrefix (Bj neg l) [45]=l/\hasPrefix (Bj neg l) [45]=neg:=by
 cases neg
 ·cases l with
  |nil=>exact absurd rfl h
  |cons b l =>
   have e:=f b mV;have:¬ (45:UInt8)=b:=by rintro rfl;simp at e
   simp[Bj,trimPrefix,hasPrefix,List.isPrefixOf,this]
 simp[Bj,trimPrefix,hasPrefix,List.isPrefixOf]
def Ag1 {w:World}{B:Nat}{e:TypeId}{a:zP}{n c:Nat}{xs:zV}(h:w.ownsRow B e 1 (.slice a n c) n xs)(A:xs.length=n):Row w a xs:=by
 intro j u;rcases h.2 with ⟨f,t⟩|⟨g,cap,m,f,t⟩
 ·omega
 simp only[Value.slice.injEq]at f;obtain⟨rfl,_,rfl⟩:=f;refine⟨g,0,rfl,?_⟩;have:=h.cells (g:=g) rfl j (xs.getD j zL) (by rw[A02,A01 u];rfl);rw[Lib.add_plain]at this;exact this
def Xk (w:World)(e:TypeId)(s:ByteArray):Ext w (bytesWorld w e s):=bytesWorld_below w e s
def At7 (W0:World)(B:Nat)(l:zB)(v i:Value)(wr:World):Prop :=
 ∃ (e:Int) (ys:zK),e<=l.length/\i=zI e/\-9<e/\ys.length+e.toNat<=l.length/\Ty (rd l) (l.take e.toNat) ys/\wr.ownsRow B 246 1 v ys.length (A8 ys)/\Below B W0 wr
def Ao7:(prog.info? 246).map (fun i=>(i.zero,i.size,i.bytes))=some (some (.int .u64 0),1,8):=kV
set_option maxRecDepth 100000 in
def Afn (neg:Bool)(l:zB)(w:World)(hd:Il l)(hl:l≠[])(aq:l.length<=1000000000) :
 Calls prog 205 #[.string ⟨(Bj neg l).toArray⟩] w (Ac0 w (Cd neg (rd l))):=by
 obtain⟨i0,hi,an,ao,ap⟩:=info_parts Ao7;obtain⟨a9,aa⟩:=K7 (neg:=neg) hd hl;have HD:=Lib.hid hd;have HL:=Lib.hid hl;clear hd hl;obtain⟨w1,Z⟩:∃ w1,w1=w.alloc (Obj.cells #[Value.bool false,Value.slice none 0 0] 141):=⟨_,rfl⟩;have a6:w1.heap.size=w.heap.size+1:=by rw[Z];exact B6 _ _
 have R:=Lib.hid Z;have ae:=Lib.hid a6;clear Z a6
 go_enter func205,ntmps205
 go_wp2_with fail
 rw[<-R.out];refine (Tryz.strings_CutPrefix ⟨(Bj neg l).toArray⟩ ⟨#[45]⟩ w1).mono ?_;rintro e w2 ⟨rfl,rfl⟩;rw[show trimPrefix (⟨(Bj neg l).toArray⟩:ByteArray).data.toList (⟨#[45]⟩:ByteArray).data.toList=l from a9,show hasPrefix (⟨(Bj neg l).toArray⟩:ByteArray).data.toList (⟨#[45]⟩:ByteArray).data.toList=neg from aa];clear a9 aa
 go_wp2_with fail
 go_loopw [5,6] (At7 w2 w2.heap.size l) (fun _ i _=>(RowKit.intOf i+9).toNat)
 case atStart=>exact⟨l.length,[],oV,mV,oV,mV,⟨Low.nil,by simpa using HD.out,by simp[val]⟩,⟨rfl,.inl ⟨rfl,rfl⟩⟩,Below.refl _ _⟩
 case round =>
  obtain⟨e,ys,he,rfl,av,aw,a8,D,A⟩:=hrel;obtain⟨a,n,c,rfl⟩:∃ a n c,u5=.slice a n c:=by
   rcases D.2 with ⟨F,h2⟩|⟨g,cap,ah,F,h2⟩
   ·exact⟨_,_,_,F⟩
   exact⟨_,_,_,F⟩
  have P:=Lib.hid a8;have f:=Lib.hid D;have t:=Lib.hid A;have az:=A.size;clear a8 D A;by_cases h0:0<e
  ·obtain⟨E,rfl⟩:∃ E:Nat,e=E:=⟨e.toNat,oV⟩;have ai:E<=l.length:=oV;have au:0<E:=oV;have ax:max (0:Int) ((E:Int)-9)=((E-9:Nat):Int):=oV;have ay:∀ W,(Instr.sliceAt 9 (.string ⟨l.toArray⟩) (some (zI (E-9:Nat))) (some (zI E)) none).run prog W=.ok (.string ⟨((l.take E).drop (E-9)).toArray⟩) W:=by
    intro W;have F:(0:Int)<=((E-9:Nat):Int)/\((E-9:Nat):Int)<=(E:Int):=oV;have h2:(0:Int)<=(E:Int)/\(E:Int)<=(⟨l.toArray⟩:ByteArray).size:=by rw[Lib.size_mk];omega
    have h3:(⟨l.toArray⟩:ByteArray).extract (E-9) E=⟨((l.take E).drop (E-9)).toArray⟩:=by
     rw[Lib.extract_mk,List.drop_take]
    simp only[Instr.sliceAt,Sem.run_bind,run_underlying Tryz.underlying9,Result.andThen_ok,Instr.slice,Instr.sliceBounds,Instr.sliceBound,asIntOf,Sem.run_pure,if_true,Option.isSome,Sem.run_ite,F,h2,and_self,A23];simp[h3]
   have U:Il ((l.take E).drop (E-9)):=(HD.out.take E).drop (E-9);have X:((l.take E).drop (E-9)).length<=9:=gV;have a2:(l.take E).drop (E-9)≠[]:=by intro h;have:=congrArg List.length h;simp at this;omega
   have a4:=Aat U;have al:rd ((l.take E).drop (E-9))<1000000000:=A2s a4 (by rw[show (1000000000:Nat)=10^9 from rfl];exact A10 oV X);have m:=P.out.step;rw[show (l.take ((E:Int)).toNat)=l.take E from rfl,A1e,A4a ai]at m;have a3:=Tryz.strconv_ParseUint_10_at64_ok ⟨((l.take E).drop (E-9)).toArray⟩ (by rw[Lib.size_mk];omega) (rd ((l.take E).drop (E-9))) (Anf U a2 X) wr;have ad:=Lib.hid a3;have Q:=Lib.hid m;clear a3 m a4 U a2 X
   go_wp2_with fail
   obtain⟨d,C⟩:∃ d,d=rd ((l.take E).drop (E-9)):=⟨_,rfl⟩;rw[<-C]at al;have H:=Lib.hid C;clear C;refine ad.out.mono ?_;rintro e w3 ⟨rfl,ab⟩;rw[<-H.out];have T:RowKit.Hid (Ext wr w3):=Lib.hid (by
    rcases ab with rfl|rfl
    ·exact Ext.refl _
    exact Xk _ _ _)
   clear ab;have ar:=T.out.size
   go_wp2_with (at_builtin;refine wpList_append_own _ rfl _ _ 139 rfl w2.heap.size 246 i0 (.int .u64 0) 1 8 Tryz.underlying139 hi an ao ap rfl fV _ _ _ rfl ((Uq f.out T.out).alloc _) ⟨w3.heap.size,0,none⟩ 1 1 [.int .u64 (d:Int)] rfl rfl ?c1 ?c2 ?c3 ?c4 ?c5 ?_)
   case c1 =>
    intro j u hj
    match j,hj with
    |0,hj=>simp at hj;subst hj;simp[Addr.add]
   case c2=>intro u hu;simp at hu;subst hu;rfl
   case c3=>unfold maxLen;omega
   case c4=>omega
   case c5=>simp;omega
   intro v' w4 Y V _
   go_wp2_with fail
   refine⟨⟨(E:Int)-9,ys++[d],oV,by go_num,oV,gV,?_,by simpa[A8] using Y,?_⟩,by simp only[RowKit.intOf];omega⟩
   ·rw[H.out,show (l.take ((E:Int)-9).toNat)=(l.take E).take (E-9) by rw[List.take_take];congr 1;omega];exact Q.out
   have h5:Below w2.heap.size wr w3:=Below.mono T.out oV;exact (((t.out.trans h5).alloc oV _).grown V gV (fun k hk=>(f.out.lt k hk).1))
  have aj:=f.out.1;have L:val ys=rd l:=by
   have:=P.out.sum;rw[show e.toNat=0 by omega]at this;simpa[rd,rdA] using this.symm
  obtain⟨rfl,J⟩:n=ys.length/\ys.length<=c:=by
   rcases f.out.2 with ⟨F,h2⟩|⟨g,cap,ah,F,h2,h3,h4,_⟩
   ·simp at F;omega
   simp at F;obtain⟨_,rfl,rfl⟩:=F;exact⟨rfl,h4⟩
  have K:=Ag1 f.out mV;have I:=Lib.hid K;have a0:=Lib.hid L;clear K L aj
  go_wp2_with fail
  refine (G5 a c ys.length ys wr rfl oV J I.out).mono ?_;rintro e w' ⟨rfl,am⟩;subst am
  go_wp2_with fail
  refine (Aji neg _ (rd l) wr (D3 P.out.low I.out a0.out J) (A04 (A4 (k:=l.length) (A2s (Aat HD.out) (by rw[Ajo];exact A10 oV oV))) oV)).mono ?_;rintro e w5 ⟨v5,rfl,⟨a5,n5,c5,rfl,a7⟩,ac⟩;have a1:=Lib.hid ac;have af:=Lib.hid a7;have ak:w.heap.size<w2.heap.size:=by rw[ae.out];omega
  have BB:RowKit.Hid (w5.heap[w.heap.size]?=some (.cells #[zL,zN] 141 (0,0))):=Lib.hid (by
   rw[Below.block a1.out _ oV,t.out.block _ ak,R.out,Cn])
  have d0:=Auo BB.out;have d1:=As2 BB.out;have f0:=frozen_of_row _ _ 0 _ _ BB.out;have f1:=frozen_of_row _ _ 1 _ _ BB.out;clear a7 ac
  go_wp2_with fail
  have ag:Ext w w5:=by
   refine Ext.trans (b:=w2) (by rw[R.out];exact Ext.alloc (Ext.refl w) _) ?_;exact Below.trans t.out (Below.mono a1.out oV)
  refine Ac5 rfl rfl (Asg BB.out) rfl ⟨_,rfl,?_,A0h ag (A08 _) _ _⟩;have hs:=af.out.grown (Awa BB.out) (Aza _ _ (.bool (decide (Cd neg (rd l)<0))) (.slice a5 n5 c5));exact Aty rfl hs
end
section
variable {q:Rat}{z:Int}
def Hx (u:PH):Prop:=∀ w,Fj u w->Lib.TabIs prog w "internal/strconv.uint64pow10" .u64 Lib.pow10Tab
def Hx.mono {u e:PH}(h:Hx u)(j:PH.le u e):Hx e:=fun w hp=>h w (fun g o f=>hp g o (j g o f))
section
variable {u:PH} {x:Value}
def Agb {k:Nat}(j:Hx u)(f:k<18446744073709551616):zF 210 [.int .u64 (k:Int),zI 10] u fun v _=>v=zS (Lib.decDigits k) :=
 Fn0.ofW (fun v _=>v=zS (Lib.decDigits k)) (fun w hp=>(Es k f w (j w hp)).mono fun _ _ ⟨e,h⟩=>⟨_,e,rfl,h⟩) (fun _ _ _ h _ _ _=>h)
def Jz (h:Lib.nDigits z.natAbs<=400):zF 205 [zS (Lib.itoa z)] u fun v e=>Bi e v z:=by
 refine Fn0.ofW (fun v w=>St w v z) (fun w _=>?_) (fun _ _ _ h _ c _=>Bi.ofW h c);have:=Afn (decide (z<0)) (Lib.decDigits z.natAbs) w (O8 _) (Gk _) (by rw[Lib.decDigits_length];omega);rw[Z8,<-D5]at this;exact this
def Qu (j:Hx u)(h:Bi u x z)(f:nl z.natAbs<=100000000000):zF 211 [x] u fun v _=>v=zS (Lib.itoa z) :=
 Fn0.ofW (fun v _=>v=zS (Lib.itoa z)) (fun w hp=>(Zj x z w (h.toW hp) f (j w hp)).mono fun _ _ ⟨e,h⟩=>⟨_,e,rfl,h⟩) (fun _ _ _ h _ _ _=>h)
end
def Dk.at {u:PH}{a:zP}{n c k j:Nat}(h:Dk u (.slice a n c) k)(m:j<(Aa k).length):∃ b off,a=some ⟨b,off,none⟩/\ElP u b (off+j*1) (.int .u64 ((Aa k).getD j 0:Nat)):=by
 obtain⟨D,E,f,F,A⟩:=h;simp only[Value.slice.injEq]at f;obtain⟨rfl,_,rfl⟩:=f;obtain⟨b,off,t,e⟩:=A j (by simpa using m);refine⟨b,off,t,fun i y hi=>?_⟩;have C:(A8 (Aa k)).getD j zL=.int .u64 ((Aa k).getD j 0:Nat):=by simp[A8,m]
 rw[C]at e;have:i=0/\y=.int .u64 ((Aa k).getD j 0:Nat):=by
  match i,hi with
  |0,hi=>simp[Value.cells]at hi;simp[hi]
 obtain⟨rfl,rfl⟩:=this;simpa using e
def M7 {u:PH}{x:Value}(H:Hx u)(h:Bi u x z)(D:nl z.natAbs<=100000000000):zF 142 [x] u fun v _=>v=zI (Lib.nDigits z.natAbs:Nat):=by
 obtain⟨a,n,c,rfl,m⟩:=h;obtain rfl:n=(Aa z.natAbs).length:=by obtain⟨_,_,f,_⟩:=id m;simp at f;exact f.2.1
 generalize decide (z<0)=b;have E:(Aa z.natAbs).length<=100000000000:=D;refine Fn0.o func142 ?_;by_cases h0:z.natAbs=0
 ·exact G.eT' ((Aa z.natAbs).length:Int) 0 (by rw[h0,A7];rfl)<|G.r (zI 1) ⟨rfl,by rw[h0,Lib.nDigits_small oV];rfl⟩
 have hp:0<(Aa z.natAbs).length:=Df.2 oV;have t:=U4 h0;have e:=(Ao z.natAbs).getD ((Aa z.natAbs).length-1);obtain⟨I,off,rfl,C⟩:=m.at (j:=(Aa z.natAbs).length-1) oV;have J:=Ks e;have A:=Lib.decDigits_length ((Aa z.natAbs).getD ((Aa z.natAbs).length-1) 0);have F:(mkS (Lib.decDigits ((Aa z.natAbs).getD ((Aa z.natAbs).length-1) 0))).size=(Lib.decDigits ((Aa z.natAbs).getD ((Aa z.natAbs).length-1) 0)).length:=Go.Lib.size_mk _;refine G.eF ((Aa z.natAbs).length:Int) 0<|G.s ((Aa z.natAbs).length:Int) 1 (((Aa z.natAbs).length-1:Nat):Int)<|G.mul 9 (((Aa z.natAbs).length-1:Nat):Int) ((9*((Aa z.natAbs).length-1):Nat):Int) kV oV oV oV<|G.n (Aa z.natAbs).length c C<|G.c call210 (Agb (k:=(Aa z.natAbs).getD ((Aa z.natAbs).length-1) 0) H oV) ?_;rintro P L K rfl;exact G.p ((9*((Aa z.natAbs).length-1):Nat):Int) ((Lib.decDigits ((Aa z.natAbs).getD ((Aa z.natAbs).length-1) 0)).length:Int) ((Lib.nDigits z.natAbs:Nat):Int)<|G.z _
def Aqm {u:PH}{x:Value}(m:Hx u)(f:Bg u x q)(h:Tx q):zF 143 [x] u fun v _=>v=zS (Ae q):=by
 obtain⟨b,a,n,c,b',D,J,E,rfl⟩:=f.opn;have t:=A04 (Bd h.2) (show 400<=4000000000000 by omega);refine Fn0.o func143<|G.c call202 (Jr f t) ?_;rintro P K e rfl;by_cases j:q.den=1
 ·rw[decide_eq_true j];refine G.c call211 (Qu (m.mono e) (f.num.mono e) (A04 (Bd h.1) oV)) ?_;rintro C A l2 rfl;exact G.r (zS (Lib.itoa q.num)) ⟨rfl,by rw[Ae,if_pos j]⟩
 rw[decide_eq_false j];refine G.c call211 (Qu (m.mono e) (f.num.mono e) (A04 (Bd h.1) oV)) ?_;rintro C A l2 rfl;have F:=Hh h.1;have H:=Hh h.den;refine G.addS (Lib.itoa q.num) [47] kV gV<|G.c call211 (Qu (m.mono (e.trans l2)) (f.den.mono (e.trans l2)) (A04 (Bd h.den) oV)) ?_;rintro Q L I rfl;exact G.addS (Lib.itoa q.num++[47]) (Lib.itoa (q.den:Int)) kV gV<|G.r (zS (Lib.itoa q.num++[47]++Lib.itoa (q.den:Int))) ⟨rfl,by rw[Ae,if_neg j];simp⟩
def Uf {u:PH}{x:Value}(j:Hx u)(e:Bg u x q)(h:Tx q):zF 71 [x] u fun v _=>v=.tuple #[zS (Ae q),zO]:=by
 obtain⟨b,a,n,c,b',m,F,t,rfl⟩:=e.opn;have C:=h.2;have A:=h.1;refine Fn0.o func71<|G.c call142 (M7 j e.num (A04 (Bd h.1) oV)) ?_;rintro K H f rfl;refine G.gF (Lib.nDigits q.num.natAbs:Nat) 400<|G.c call142 (M7 (j.mono f) (e.den.mono f) (A04 (Bd h.den) oV)) ?_;rintro L I l2 rfl;have D:=h.den;refine G.gF ((Lib.nDigits ((q.den:Int)).natAbs:Nat):Int) 400<|G.c call143 (Aqm (j.mono (f.trans l2)) (e.mono (f.trans l2)) h) ?_;rintro P J E rfl;exact G.z _
end
section
variable {c:UInt8}{l:zB}{q:Rat}{u:PH}
def Ah1 (h:∀ b∈l,b≠c):Lib.indexByte l c = -1:=by
 induction l with
 |nil=>rfl
 |cons b l ih =>
  have e:(b==c)=false:=by rw[beq_eq_false_iff_ne];exact h b mV
  rw[Lib.indexByte,e,ih (fun x f=>h x (by simp[f]))];rfl
def App {l r:zB}(h:∀ b∈l,b≠c):Lib.indexByte (l++c::r) c=l.length:=by
 induction l with
 |nil=>simp[Lib.indexByte]
 |cons b l ih =>
  have e:(b==c)=false:=by rw[beq_eq_false_iff_ne];exact h b mV
  have f:=ih (fun x m=>h x (by simp[m]));rw[A4x,Lib.indexByte,e,f];have j:(((l.length:Nat):Int) == -1)=false:=by rw[beq_eq_false_iff_ne];omega
  simp[j]
def Ap4 :zF 276 [zS l,zS [c]] u fun v _=>v=zI (Lib.indexByte l c) :=
 Fn0.ofW (fun v _=>v=zI (Lib.indexByte l c)) (fun w _=>(Tryz.stringslite_Index_one (mkS l) c w).mono fun _ _ ⟨e,h⟩=>⟨_,e,rfl,by rw[h];exact Ext.refl _⟩) (fun _ _ _ h _ _ _=>h)
def Azn {T:zB}(h:∀ b∈T,b≠47):zF 204 [zS T,zS [47]] u fun v _=>v=.tuple #[zS T,zE,zL]:=by
 have e:zF 247 [zS T,zS [47]] u fun v _=>v=.tuple #[zS T,zE,zL]:=by
  refine Fn0.o func247<|G.c call276 (Ap4 (l:=T) (c:=47)) ?_;rintro m j f rfl;rw[Ah1 h];exact G.hF (-1) 0<|G.z (.tuple #[zS T,zE,zL])
 refine Fn0.o func204<|G.c call247 e ?_;rintro m j f rfl;exact G.z _
def A0l {A B:zB}(h:∀ b∈A,b≠47)(H:(A++47::B).length<=1000000):zF 204 [zS (A++47::B),zS [47]] u fun v _=>v=.tuple #[zS A,zS B,zT]:=by
 have C:(A++47::B).length=A.length+1+B.length:=gV
 have t:(A++47::B).take A.length=A:=mV
 have e:(A++47::B).drop (A.length+1)=B:=by rw[<-A8r];simp
 have j:=App (r:=B) h;generalize A++47::B=T at *
 have m:(mkS T).size=T.length:=Go.Lib.size_mk _;have f:zF 247 [zS T,zS [47]] u fun v _=>v=.tuple #[zS A,zS B,zT]:=by
  refine Fn0.o func247<|G.c call276 (Ap4 (l:=T) (c:=47)) ?_;rintro F E D rfl;rw[j];refine G.hT A.length 0<|G.sliceSTo T A.length kV kV oV ?_;rw[t];refine G.p A.length 1 (A.length+1:Nat)<|G.sliceSFrom T (A.length+1) kV kV oV ?_;rw[e];exact G.z (.tuple #[zS A,zS B,zT])
 refine Fn0.o func204<|G.c call247 f ?_;rintro F E D rfl;exact G.z _
def Ay5 (h:Tx q):zF 204 [zS (Ae q),zS [47]] u fun v _=>v=.tuple #[zS (Lib.itoa q.num),zS (if q.den=1 then [] else Lib.itoa (q.den:Int)),.bool (decide (q.den≠1))]:=by
 have f:=Hh h.1;have l2:=Hh h.den;unfold Ae;by_cases e:q.den=1
 ·rw[if_pos e,if_pos e,decide_eq_false (by simp[e])];exact Azn (O0 _)
 rw[if_neg e,if_neg e,decide_eq_true e];exact A0l (O0 _) gV
def Bg.mk {u:PH}{q:Rat}{y z:Int}{b b':Bool}{a f:zP}{n c m h:Nat}(t:Bi u (.agg #[.bool b,.slice a n c]) y)(A:Bi u (.agg #[.bool b',.slice f m h]) z)(C:q.num=y)(D:(q.den:Int)=z) :
 Bg u (.agg #[.bool b,.slice a n c,.bool b',.slice f m h]) q:=by
 obtain⟨_,_,_,j,E⟩:=t;obtain⟨_,_,_,e,F⟩:=A;subst C D;rw[decide_eq_false oV]at e;simp only[Value.agg.injEq,A5j,A3g,Value.bool.injEq,Value.slice.injEq,and_true]at j e;obtain⟨rfl,rfl,rfl,rfl⟩:=j;obtain⟨rfl,rfl,rfl,rfl⟩:=e;exact⟨_,_,_,_,_,_,rfl,E,F⟩
def Gs (h:Tx q):zF 133 [zS (Ae q)] u fun v E=>Bg E v q:=by
 refine Fn0.o func133<|G.c call204 (Ay5 h) ?_;rintro L K J rfl;by_cases e:q.den=1
 ·rw[if_pos e,decide_eq_false (by simp[e])];refine G.c call205 (Jz h.1) ?_;intro H D l2 j;obtain⟨t,a2,n2,c2,rfl⟩:=j.opn;have f:=Jz (u:=D) (z:=1) (by rw[Lib.nDigits_small fV];omega);rw[Hf]at f;refine G.c call205 f ?_;intro I F C m;obtain⟨A,a3,n3,c3,rfl⟩:=m.opn;exact G.r (.agg #[.bool t,.slice a2 n2 c2,.bool A,.slice a3 n3 c3]) ⟨rfl,Bg.mk (j.mono C) m rfl (by rw[e];rfl)⟩
 rw[if_neg e,decide_eq_true e];refine G.c call205 (Jz h.1) ?_;intro H D l2 j;obtain⟨t,a2,n2,c2,rfl⟩:=j.opn;refine G.c call205 (Jz h.den) ?_;intro I F C m;obtain⟨A,a3,n3,c3,rfl⟩:=m.opn;exact G.r (.agg #[.bool t,.slice a2 n2 c2,.bool A,.slice a3 n3 c3]) ⟨rfl,Bg.mk (j.mono C) m rfl rfl⟩
end
section
variable {e v:Value}{es:zV}{q:Rat}{qs:zR}{sz:Nat}{u:PH}
def Cc (ts:zW):zV:=ts.map fun t=>Value.string (mkS t)
def Cb (ts:zW):(Cc ts).length=ts.length:=by simp[Cc]
def Gc (ts:zW):A9 1 (Cc ts):=by
 intro e f;simp only[Cc,A1b]at f;obtain⟨b,_,rfl⟩:=f;exact⟨rfl,fun x h=>by simp[Value.cells]at h;subst h;rfl⟩
def Cj (u:PH)(v:Value)(ts:zW):Prop:=Ac u v 1 (Cc ts)
def Kt (u:PH)(es:zV)(qs:zR):Prop:=es.length=qs.length/\∀ (j:Nat) (q:Rat),qs[j]?=some q->∃ e,es[j]?=some e/\Bg u e q
def Kt.mono {u f:PH}{es:zV}{qs:zR}(h:Kt u es qs)(C:PH.le u f):Kt f es qs :=
 ⟨h.1,fun j q A=>by obtain⟨e,m,t⟩:=h.2 j q A;exact⟨e,m,t.mono C⟩⟩
def Kt.snoc (h:Kt u es qs)(D:Bg u e q):Kt u (es++[e]) (qs++[q]):=by
 refine⟨by simp[h.1],fun j r f=>?_⟩;by_cases m:j<qs.length
 ·rw[A1r m]at f;obtain⟨t,A,C⟩:=h.2 j r f;exact⟨t,by rw[A1r (by rw[h.1];exact m)];exact A,C⟩
 rw[A18 oV]at f;have:j-qs.length=0:=by
  rcases A2a (j-qs.length) with h0|h0
  ·exact h0
  rw[A1v gV]at f;cases f
 rw[this]at f;simp at f;subst f;refine⟨e,?_,D⟩;rw[A18 (by rw[h.1];omega),h.1,this];rfl
def F6 (u:PH)(v:Value)(qs:zR):Prop:=∃ es,Ac u v 4 es/\Kt u es qs
def F6.mono {u j:PH}{v:Value}{qs:zR}(h:F6 u v qs)(f:PH.le u j):F6 j v qs:=by
 obtain⟨es,m,t⟩:=h;exact⟨es,m.mono f,t.mono f⟩
def Bg.ok (h:Bg u e q):A9 4 [e]:=by
 obtain⟨b,a,n,c,b',m,A,t,rfl⟩:=h.opn;intro x f;simp at f;subst f;exact⟨rfl,fun y j=>by simp[Value.cells]at j;rcases j with rfl|rfl|rfl|rfl<;>rfl⟩
def Ac.opn (h:Ac u v sz es):∃ a c,v=.slice a es.length c:=by
 obtain⟨a,c,rfl,_⟩:=h;exact⟨a,c,rfl⟩
def Ac.at' {a:zP}{n c sz:Nat}(h:Ac u (.slice a n c) sz es){j:Nat}(t:es[j]?=some e):∃ b off,a=some ⟨b,off,none⟩/\ElP u b (off+j*sz) e:=by
 obtain⟨A,C,f,D,m⟩:=h;simp only[Value.slice.injEq]at f;obtain⟨rfl,_,rfl⟩:=f;exact m j e t
def T0 (h:Cj u v (qs.map Ae))(hq:∀ q∈qs,Tx q)(hl:qs.length<=1000000):zF 141 [v] u fun v' P=>F6 P v' qs:=by
 obtain⟨a,c,rfl⟩:=Ac.opn h;have E:(Cc (qs.map Ae)).length=qs.length:=by rw[Cb,A03]
 rw[E]at h⊢;refine Fn0.o func141<|G.l (ι:=Nat×zV×(zP×Nat×Nat)) (fun i=>[(3,sV i.2.2.1 i.2.2.2.1 i.2.2.2.2),(6,sV a qs.length c),(7,iV qs.length),(8,iV i.1)]) (fun _=>[])
  (fun i P V=>i.1<=qs.length/\Kt P i.2.1 (qs.take i.1)/\Af PH.mt V (.slice i.2.2.1 i.2.2.2.1 i.2.2.2.2) 143 4 i.2.1) (fun i=>qs.length-i.1) (0,[],(none,0,0)) ⟨mV,⟨mV,fun j q hj=>by simp at hj⟩,Af.nil _ _ _⟩ ?_
 rintro J ⟨k,es,⟨a1,n1,c1⟩⟩ U P V D ⟨hk,hF,Q⟩;simp only at hk hF Q U;have R:=hF.1;rw[A1e]at R;by_cases F:k<qs.length
 ·refine G.lT k qs.length ?_;have H:qs[k]?=some qs[k]:=A01 F;obtain⟨ba,oa,rfl,Z⟩:=Ac.at' (Ac.mono h D) (j:=k) (e:=zS (Ae qs[k])) (by simp[Cc,H]);have T:=hq qs[k] (A09 F);refine G.n qs.length c Z<|G.c call133 (Gs T) ?_;intro v2 u2 l2 L;obtain⟨K,a2,n2,c2,m,f,A,t,rfl⟩:=L.opn;refine G.B 143 4 64 (.agg #[zL,zN,zL,zN]) [.agg #[.bool K,.slice a2 n2 c2,.bool m,.slice f A t]] L.ok ?_;intro g u3 I Y;refine G.append 143 4 64 (.agg #[zL,zN,zL,zN]) PH.mt es [.agg #[.bool K,.slice a2 n2 c2,.bool m,.slice f A t]] (.slice a1 n1 c1) g 0 1 1 kV rfl rfl oV Q Y L.ok rfl oV oV oV ?_;intro v4 m4 C;obtain⟨W,X,rfl⟩:=C.shape;refine G.i k<|G.b (U (k+1,es++[Value.agg #[.bool K,.slice a2 n2 c2,.bool m,.slice f A t]],(W,(es++[Value.agg #[.bool K,.slice a2 n2 c2,.bool m,.slice f A t]]).length,X)) _ _ _ cV ((D.trans l2).trans I) ⟨dV,?_,C⟩ dV);dsimp only;rw[A1n,H];exact (hF.mono (l2.trans I)).snoc (L.mono I)
 have:k=qs.length:=oV;subst this;refine G.lF qs.length qs.length<|G.give PH.mt es _ kV Q (fun _=>.inl rfl) ?_;intro u3 I hL;rw[A15]at hF;exact G.r (.slice a1 n1 c1) ⟨rfl,es,hL,hF.mono I⟩
end
def Ajx {u:PH}{v:Value}{ts:zW}{fid:Nat}{cap:Array Value}(h:Cj u v ts)(R:ts.length<=1000000)
 (f:∀ args w,(callFunc fid args).run prog w=.ok (.enter fid args) w) (I:∀ t∈ts,∀ C,PH.le u C->zF fid [zS t] C fun v _=>v=zL) :
 zF 221 [v,.func (.func fid) #[] #[]] u fun L _=>L=zI (-1):=by
 obtain⟨a,c,rfl⟩:=Ac.opn h;rw[Cb]at h⊢;refine Fn0.o func221<|G.l (ι:=Nat) (fun i=>[(0,sV a ts.length c),(1,.v (.func (.func fid) #[] #[])),(7,iV ts.length),(8,iV i)]) (fun _=>[])
  (fun i C E=>i<=ts.length/\E=PH.mt) (fun i=>ts.length-i) 0 ⟨oV,rfl⟩ ?_
 rintro J k H C E m ⟨Q,rfl⟩;by_cases A:k<ts.length
 ·refine G.lT k ts.length ?_;have D:ts[k]?=some ts[k]:=A01 A;obtain⟨P,T,rfl,F⟩:=Ac.at' (Ac.mono h m) (j:=k) (e:=zS ts[k]) (by simp[Cc,D]);refine G.n ts.length c F<|G.c f (I ts[k] (A09 A) C m) ?_;rintro V U K rfl;exact G.i k<|G.b (H (k+1) _ _ _ cV (m.trans K) ⟨oV,rfl⟩ oV)
 exact G.lF k ts.length<|G.z (zI (-1))
def Lc {u:PH}{v:Value}{ts:zW}{fid:Nat}(h:Cj u v ts)(m:ts.length<=1000000)
 (e:∀ args w,(callFunc fid args).run prog w=.ok (.enter fid args) w) (j:∀ t∈ts,∀ f,PH.le u f->zF fid [zS t] f fun v _=>v=zL) :
 zF 167 [v,.func (.func fid) #[] #[]] u fun A _=>A=zL:=by
 obtain⟨a,c,rfl⟩:=Ac.opn h;refine Fn0.o func167<|G.c call221 (Ajx (cap:=#[]) h m e j) ?_;rintro E D C rfl;exact G.hF (-1) 0<|G.z zL
def Ag2 {u:PH}{v L:Value}{ts f:zW}(h:Cj u v ts)(F:Cj u L f)(hl:ts.length<=1000000)(U:f.length<=1000000) :
 zF 64 [v,L] u fun r _=>r=.bool (decide (ts=f)):=by
 obtain⟨a,c,rfl⟩:=Ac.opn h;obtain⟨P,I,rfl⟩:=Ac.opn F;rw[Cb]at h F⊢;rw[Cb];refine Fn0.o func64 ?_;by_cases V:ts.length=f.length
 ·refine G.nF ts.length f.length<|G.l (ι:=Nat) (fun i=>[(0,sV a ts.length c),(1,sV P f.length I),(12,iV ts.length),(13,iV i)]) (fun _=>[])
   (fun i W K=>(i<=ts.length/\ts.take i=f.take i)/\K=PH.mt) (fun i=>ts.length-i) 0 ⟨⟨oV,mV⟩,rfl⟩ ?_
  rintro J k T W K A ⟨⟨Z,t⟩,rfl⟩;by_cases H:k<ts.length
  ·refine G.lT k ts.length ?_;have C:k<f.length:=oV;have D:ts[k]?=some ts[k]:=A01 H;have m:f[k]?=some f[k]:=A01 C;obtain⟨X,oa,rfl,Q⟩:=Ac.at' (Ac.mono h A) (j:=k) (e:=zS ts[k]) (by simp[Cc,D]);obtain⟨Y,ob,rfl,R⟩:=Ac.at' (Ac.mono F A) (j:=k) (e:=zS f[k]) (by simp[Cc,m]);refine G.n ts.length c Q<|G.n f.length I R ?_;by_cases E:ts[k]=f[k]
   ·exact G.y ts[k] f[k] E<|G.i k<|G.b (T (k+1) _ _ _ cV A ⟨⟨oV,by rw[A1n,A1n,t,D,m,E]⟩,rfl⟩ oV)
   exact G.x ts[k] f[k] E<|G.r zL ⟨rfl,by rw[decide_eq_false];rintro rfl;exact E rfl⟩
  refine G.lF k ts.length ?_;have:ts=f:=by rw[A1j oV,A1j oV]at t;exact t
  exact G.r zT ⟨rfl,by simp[this]⟩
 exact G.nT ts.length f.length<|G.r zL ⟨rfl,by rw[decide_eq_false];rintro rfl;exact V rfl⟩
section
section rules
variable [Cl] {P:Program} [A6 P] {fn:Func} {Post:Ce} {st:List KI×S} {u m:PH}
def Bv.heap {w w':World}(h:Bv u m w)(e:∀ g:Nat,w'.heap[g]?=w.heap[g]?):Bv u m w' :=
 ⟨fun g o f=>by rw[e];exact h.pu g o f,fun g o f=>by rw[e];exact h.pm g o f,h.ap,fun g cs t fr j z f A=>h.cl g cs t fr j z (by rw[<-e];exact f) A⟩
def G.convSB (d:Option TypeDesc)(e:TypeId)(l:zB)(h:Aj P (adv P st)=.conv d (some (.slice e)) (zS l))(hd:d.isSome=true)(he:P.underlying e=some (.int .u8))
 (k:∀ v f,PH.le u f->Ac f v 1 (Bm l)->G P fn Post (nx (adv P st) v) f m):G P fn Post st u m:=by
 refine G.big (K:=fun V f U=>U=m/\Ac f V 1 (Bm l)) h mV (fun I op hv=>?_) (.inl fun v f U E=>by rw[E.1];exact PH.le_refl _) (fun I o t w Q=>?_) (fun V f U R E=>?_)
 ·obtain⟨s,W,X,rfl,_,_,H⟩:=Ln hv;exact Acg H mV
 ·obtain⟨s,W,X,Y,e2,e3,H⟩:=Ln t;obtain⟨a0,a1,Z,pos,after,J⟩:=o;simp only at Y;subst Y;obtain⟨dd,rfl⟩:=A6a.1 hd;have hr:=Lib.run_convert_string_bytes (P:=P) w s W e (mkS l) e3 H he;have T:(mkS l).size=l.length:=Go.Lib.size_mk l;obtain⟨g1,g2,g3,g4⟩:=Q.newU (.cells (Lib.bytesCells w e (mkS l)) e ((Lib.bytesCells w e (mkS l)).size,(Lib.bytesCells w e (mkS l)).size+1));have hh:∀ g:Nat,(Lib.bytesWorld w e (mkS l)).heap[g]?=(w.alloc (.cells (Lib.bytesCells w e (mkS l)) e ((Lib.bytesCells w e (mkS l)).size,(Lib.bytesCells w e (mkS l)).size+1))).heap[g]?:=by
   intro g;rcases A5u g w.heap.size with A|A|A
   ·rw[Lib.bytesWorld_at_old w e _ g A,Aq _ _ A]
   ·subst A;rw[Lib.bytesWorld_at_new,Cn]
   rw[A43 (by rw[Lib.bytesWorld_size];omega),A43 (by rw[B6];omega)]
  refine B8 (by simp[execOp,e2,hr];rfl) ⟨_,m,g1.heap hh,⟨by rw[Lib.bytesWorld_size];omega,fun g hg hm=>Lib.bytesWorld_at_old w e _ g hg,g2.us,g2.ms,⟨rfl,rfl⟩,fun _=>⟨rfl,by first|exact A08 _|exact Nat.le_succ _⟩⟩,rfl,?_⟩
  refine⟨some ⟨w.heap.size,0,none⟩,grownCap w l.length 0 e,by rw[Au,T],by rw[Au];exact grownCap_ge w _ _ e,fun j x C=>⟨_,0,rfl,fun i y F=>⟨_,_,_,Ab _ _ _,?_⟩⟩⟩;have D:j<l.length:=by
   rcases A2e j l.length with L|L
   ·exact L
   rw[A1v (by rw[Au];exact L)]at C;cases C
  rw[Ht D]at C;simp only[A1f]at C;subst C;have:i=0/\y=.int .u8 ((l.getD j 0).toNat:Int):=by
   match i,F with
   |0,F=>simp[Value.cells]at F;simp[F]
  obtain⟨rfl,rfl⟩:=this;simp[Lib.bytesCells,Array.getElem?_append,D,List.getD]
 obtain⟨rfl,E⟩:=E;exact k V f R E
end rules
def Ux {u:PH}{s p:zB}:zF 258 [zS s,zS p] u fun v _=>v=zS (Lib.trimPrefix s p) :=
 Fn0.ofW (fun v _=>v=zS (Lib.trimPrefix s p)) (fun w _=>(Tryz.strings_TrimPrefix (mkS s) (mkS p) w).mono fun _ _ ⟨e,h⟩=>⟨_,e,rfl,by rw[h];exact Ext.refl _⟩) (fun _ _ _ h _ _ _=>h)
def Jn {u:PH}{z:Int}(h:Lib.nDigits z.natAbs<=400):zF 222 [zS (Lib.itoa z)] u fun v _=>v=zT:=by
 refine Fn0.o func222 ?_;by_cases h0:z=0
 ·subst h0;exact G.q (Lib.itoa 0) [48] E5<|G.z zT
 refine G.w (Lib.itoa z) [48] (fun e=>h0 (Im (e.trans E5.symm)))<|G.c call258 (Ux (s:=Lib.itoa z) (p:=[45])) ?_;rintro v1 u1 Y rfl;have A:=Lib.decDigits_length z.natAbs;have U:=Lib.nDigits_pos z.natAbs;have t:=O8 z.natAbs;obtain⟨H,f,R,T⟩:=Qv (z:=(z.natAbs:Int)) oV oV;rw[Yc]at f;rw[D5 z,(K7 t (Gk _)).1];generalize W:Lib.decDigits z.natAbs=L at *
 have E:(mkS L).size=L.length:=Go.Lib.size_mk _;refine G.w L [] (by intro e;rw[e]at A;simp at A;omega)<|G.gF L.length 400<|G.idxS L 0 H kV f<|G.cmpG .eql .u8 (H.toNat:Int) 48 false kV rfl (by simp only[Db,decide_eq_false_iff_not];omega)<|G.convSB (some .string) 5 L kV rfl kV ?_;intro v2 u2 l2 F;obtain⟨a,c,rfl⟩:=Ac.opn F;rw[Au]at F⊢;refine G.l (ι:=Nat) (fun i=>[(23,sV a L.length c),(24,iV L.length),(25,iV i)]) (fun _=>[]) (fun i _ I=>i<=L.length/\I=PH.mt) (fun i=>L.length-i) 0 ⟨oV,rfl⟩ ?_;rintro J i Q u' I C ⟨hi,rfl⟩;by_cases D:i<L.length
 ·refine G.lT i L.length ?_;have X:=Mh t D;obtain⟨V,Z,rfl,K⟩:=Ac.at' (Ac.mono F C) (j:=i) (Ht D);exact G.n L.length c K<|G.cmpG .lss .u8 ((L.getD i 0).toNat:Int) 48 false kV rfl (by simp only[Db,decide_eq_false_iff_not];omega)<|G.cmpG .gtr .u8 ((L.getD i 0).toNat:Int) 57 false kV rfl (by simp only[Db,decide_eq_false_iff_not];omega)<|G.i i<|G.b (Q (i+1) _ _ _ cV C ⟨oV,rfl⟩ oV)
 exact G.lF i L.length<|G.z zT
end
section
variable {q:Rat}{qs:zR}{u:PH}{v:Value}{z:Int}
def Zc (h:Lib.nDigits z.natAbs<=400):zF 256 [zS (Lib.itoa z)] u fun v j=>Bi j v z:=by
 refine Fn0.o func256<|G.c call205 (Jz h) ?_;intro t m l2 e;obtain⟨f,a2,n2,c2,rfl⟩:=e.opn;exact G.r (.agg #[.bool f,.slice a2 n2 c2]) ⟨rfl,e⟩
def Aet {y z:Int}(h:Lib.nDigits y.natAbs<=400)(e:Lib.nDigits z.natAbs<=400):zF 223 [zS (Lib.itoa y),zS (Lib.itoa z)] u fun v _=>v=zI (sgn (y-z)):=by
 refine Fn0.o func223<|G.c call222 (Jn h) ?_;rintro R J E rfl;refine G.c call222 (Jn e) ?_;rintro T K l2 rfl;refine G.c call256 (Zc h) ?_;intro U L F f;obtain⟨A,a3,n3,c3,rfl⟩:=f.opn;refine G.c call256 (Zc e) ?_;intro V P m j;obtain⟨C,t,I,D,rfl⟩:=j.opn;refine G.c call198 (Kx (f.mono m) j (A04 (Bd h) oV) (A04 (Bd e) oV)) ?_;rintro W Q H rfl;exact G.z _
def Gu (h:Tx q):zF 169 [zS (Ae q)] u fun v _=>v=zT:=by
 refine Fn0.o func169<|G.c call204 (Ay5 h) ?_;rintro v1 u1 l1 rfl;refine G.c call222 (Jn h.1) ?_;rintro v2 u2 l2 rfl;by_cases f:q.den=1
 ·rw[if_pos f,decide_eq_false (by simp[f])];refine G.c call222 (Jn h.1) ?_;rintro K D H rfl;exact G.z zT
 rw[if_neg f,decide_eq_true f];have F:=Ao0 f;have E:=q.den_nz;refine G.w (Lib.itoa q.num) [48] (fun e=>F (Im (e.trans E5.symm)))<|G.c call222 (Jn h.den) ?_;rintro K D H rfl;have m:=Aet (u:=D) (y:=(q.den:Int)) (z:=1) h.den (by rw[Lib.nDigits_small fV];omega);rw[Hf]at m;refine G.c call223 m ?_;rintro v4 u4 l4 rfl;refine G.kF' (sgn ((q.den:Int)-1)) 0 (by rw[C5 oV];omega)<|G.c call205 (Jz h.1) ?_;intro v5 u5 l5 t;obtain⟨T,L,n5,X,rfl⟩:=t.opn;refine G.c call205 (Jz h.den) ?_;intro v6 u6 I A;obtain⟨U,P,n6,Y,rfl⟩:=A.opn;refine G.c call197 (Ac4 (t.mono I) A (A04 (Bd h.1) oV) (A04 (Bd h.den) oV)) ?_;intro v7 u7 l7 j;rw[show Nat.gcd q.num.natAbs ((q.den:Int)).natAbs=1 from q.reduced]at j;obtain⟨V,Q,n7,Z,rfl⟩:=j.opn;refine G.c call121 (Kf (z:=1) oV oV) ?_;intro v8 u8 J C;obtain⟨W,R,n8,c8,rfl⟩:=C.opn;refine G.c call198 (Kx (j.mono J) C (A04 Tm oV) (A04 Tm oV)) ?_;rintro v9 u9 l9 rfl;exact G.eT' (sgn (((1:Nat):Int)-1)) 0 fV<|G.z zT
def Aub (h:Tx q):zF 268 [zS (Ae q)] u fun v _=>v=zL:=by
 refine Fn0.o func268<|G.c call169 (Gu h) ?_;rintro j f e rfl;exact G.z zL
def Agh (h:Tx q):zF 220 [zS (Ae q)] u fun v _=>v=zL:=by
 refine Fn0.o func220<|G.c call169 (Gu h) ?_;rintro j f e rfl;exact G.z zL
def Ajw (h:Cj u v (qs.map Ae))(j:∀ q∈qs,Tx q)(f:qs.length<=1000000):zF 234 [v] u fun A _=>A=zT:=by
 obtain⟨a,c,rfl⟩:=Ac.opn h;refine Fn0.o func234<|G.c call167 (Lc (fid:=268) h (by simpa using f) call268 (fun t m D _=>?_)) ?_
 ·obtain⟨q,e,rfl⟩:=A1b.1 m;exact Aub (j q e)
 rintro F E C rfl;exact G.z zT
def Apy (h:Cj u v (qs.map Ae))(j:∀ q∈qs,Tx q)(f:qs.length<=1000000):zF 164 [v] u fun A _=>A=zT:=by
 obtain⟨a,c,rfl⟩:=Ac.opn h;refine Fn0.o func164<|G.c call167 (Lc (fid:=220) h (by simpa using f) call220 (fun t m D _=>?_)) ?_
 ·obtain⟨q,e,rfl⟩:=A1b.1 m;exact Agh (j q e)
 rintro F E C rfl;exact G.z zT
end
section
variable {g j k:Nat}{x:SV}
variable [Cl] [Co]
def SV.pub (k g:Nat):SV->SV
 |.p j off=>cond (Nat.beq j k) (.v (.pointer (some ⟨g,off,none⟩))) (.p j off)
 |x=>x
def Blk.pub (k g:Nat)(b:Blk):Blk:=⟨b.t,b.cells.map (SV.pub k g)⟩
def S.pub (s:S)(k g:Nat):S:={ n:=s.n,tm:=fun d=>(s.tm d).pub k g,hp:=fun j=>cond (Nat.beq j k) none ((s.hp j).map (Blk.pub k g)) }
def SV.pub_den (k:Nat)(ρ:Nat->Nat)(x:SV):(x.pub k (ρ k)).den ρ=x.den ρ:=by
 cases x with
 |junk=>rfl
 |v x=>rfl
 |p j off =>
  cases hb:Nat.beq j k with
  |true=>have:=A1y hb;subst this;simp[SV.pub,SV.den]
  |false=>simp[SV.pub,hb]
def SV.pub_junk :x.pub k g≠.junk↔x≠.junk:=by
 cases x with
 |junk=>simp[SV.pub]
 |v x=>simp[SV.pub]
 |p j off=>cases hb:Nat.beq j k<;>simp[SV.pub,hb]
def SV.pub_p {k g j off:Nat}(h:x.pub k g=.p j off):x=.p j off/\j≠k:=by
 cases x with
 |junk=>cases h
 |v x=>cases h
 |p j' off' =>
  cases hb:Nat.beq j' k with
  |true=>simp[SV.pub,hb]at h
  |false =>
   simp[SV.pub,hb]at h;obtain⟨rfl,rfl⟩:=h;exact⟨rfl,fun e=>by subst e;simp at hb⟩
def Om (s:S)(k g:Nat):(s.pub k g).hp k=none:=by simp[S.pub]
def Lo (s:S)(h:j≠k):(s.pub k g).hp j=(s.hp j).map (Blk.pub k g):=by
 have:Nat.beq j k=false:=by rw[<-A87];exact fun e=>h (A1y e)
 simp[S.pub,this]
section rules
variable {c:Cx} {s:S} {u m:PH} {ρ:Nat->Nat} {a:Act} {w:World}
def Rel.pub (h:Rel c s u m ρ a w){k:Nat}{t:TypeId}{xs:zV}(hk:s.hp k=some ⟨t,xs.map SV.v⟩):Rel c (s.pub k (ρ k)) u (m.upd (ρ k) (.cells xs.toArray t (0,0))) ρ a w:=by
 obtain⟨⟨cs,Z,e2,e3⟩,e4,e5,e6⟩:=h.box k _ hk;have T:cs=xs.toArray:=by
  apply Array.ext
  ·simpa using e2
  intro i F H;have:=e3 i (.v xs[i]) (by simp at H;simp[H]) mV;rw[A2v F]at this;simpa[SV.den] using this
 subst T;have W:∀ j,s.hp j≠none->j≠k->ρ j≠ρ k:=fun j E f e=>f (h.inj j k E (by rw[hk];simp) e);refine⟨h.sz,fun d U=>?_,h.df.of fun r e _ hu I=>⟨e,hu,by rw[Ad _ _ (fun e'=>by rw[e',Z]at e;cases e)];exact I⟩,fun j b L=>?_,fun i j hi E he=>?_,⟨fun d j off U=>?_,fun i b j off hi I=>?_⟩,⟨h.gd.pu,fun g o D=>?_,fun g=>?_,h.gd.cl⟩,⟨h.gr.sz,h.gr.old,h.gr.us,fun g D I=>?_,h.gr.io,h.gr.dr⟩⟩
 ·have V:s.tm d≠.junk:=SV.pub_junk.1 U;show a.tmps[d]?=some (((s.tm d).pub k (ρ k)).den ρ);rw[SV.pub_den];exact h.tm d V
 ·by_cases f:j=k
  ·subst f;rw[Om]at L;cases L
  rw[Lo _ f]at L;obtain⟨Q,C,rfl⟩:=A5n.1 L;obtain⟨⟨R,f1,f2,f3⟩,f4,f5,f6⟩:=h.box j Q C;refine⟨⟨R,f1,by simp[Blk.pub,f2],fun i x hi hx=>?_⟩,f4,f5,?_⟩
  ·simp only[Blk.pub,A1a]at hi;obtain⟨y,X,rfl⟩:=A5n.1 hi;rw[SV.pub_den];exact f3 i y X (SV.pub_junk.1 hx)
  rw[Ad _ _ (W j (by rw[C];simp) f)];exact f6
 ·have F:∀ j,(s.pub k (ρ k)).hp j≠none->s.hp j≠none:=by
   intro j E K;by_cases f:j=k
   ·subst f;exact E (Om _ _ _)
   rw[Lo _ f,K]at E;exact E rfl
  exact h.inj i j (F i hi) (F j E) he
 ·obtain⟨F,H⟩:=SV.pub_p U;rw[Lo _ H];have:=h.lv.1 d j off F;intro K;exact this (by simpa using K)
 ·by_cases J:i=k
  ·subst J;rw[Om]at hi;cases hi
  rw[Lo _ J]at hi;obtain⟨Q,C,rfl⟩:=A5n.1 hi;simp only[Blk.pub,A1b]at I;obtain⟨y,X,Y⟩:=I;obtain⟨rfl,H⟩:=SV.pub_p Y;rw[Lo _ H];have:=h.lv.2 i Q j off C X;intro K;exact this (by simpa using K)
 ·by_cases A:g=ρ k
  ·subst A;rw[Ab]at D;simp only[A1f]at D;subst D;exact Z
  rw[Ad _ _ A]at D;exact h.gd.pm g o D
 ·by_cases A:g=ρ k
  ·subst A;exact .inl e5
  rw[Ad _ _ A];exact h.gd.ap g
 rw[Ad _ _ oV];exact h.gr.ms g D I
end rules
section rules2
variable {P:Program} [A6 P] {fn:Func} {Post:Ce} {st:List KI×S} {u m:PH}
def G.pub (k:Nat)(t:TypeId)(xs:zV)(h:F2 (ctl P 100 st).1=true)(f:(ctl P 100 st).2.hp k=some ⟨t,xs.map SV.v⟩)
 (E:∀ g,u g=none->m g=none->G P fn Post ((ctl P 100 st).1,(ctl P 100 st).2.pub k g) u (m.upd g (.cells xs.toArray t (0,0)))):G P fn Post st u m:=by
 refine⟨L3 100 st ?_⟩;rw[Sym.ofNo h];intro c ρ a w e A;obtain⟨_,_,C,D⟩:=A.box k _ f;have:=(E (ρ k) C D).out;rw[Sym.ofNo (by exact h)]at this;exact this c ρ a w e (A.pub f)
end rules2
end
section
variable {g:Nat}{x y:PH}
variable [Cl] [Co] [Pu]
def PH.or (x y:PH):PH:=fun g=>match x g with|some o=>some o|none=>y g
def PH.or_l {o:Obj}(h:x g=some o):x.or y g=some o:=by simp[PH.or,h]
def PH.or_r (h:x g=none):x.or y g=y g:=by simp[PH.or,h]
def Bv.frameM {u mf mc C j:PH}{w w':World}(h:Bv u (mf.or mc) w)(F:Hp mf mc)(g1:Bv C j w')(g2:B0 u mc w C j w'):Bv C (mf.or j) w'/\B0 u (mf.or mc) w C (mf.or j) w':=by
 have A:∀ g o,mf g=some o->g<w.heap.size/\mc g=none/\w'.heap[g]?=some o/\C g=none:=by
  intro g o e;have D:=h.pm g o (PH.or_l e);have E:mc g=none:=(F g).resolve_left (by rw[e];simp);have t:=Aw D;refine⟨t,E,by rw[g2.old g t E];exact D,?_⟩;rw[g2.us g t];exact (h.ap g).resolve_right (by rw[PH.or_l e];simp)
 refine⟨⟨g1.pu,fun g o e=>?_,fun g=>?_,g1.cl⟩,⟨g2.sz,fun g e f=>?_,g2.us,fun g e f=>?_,g2.io,g2.dr⟩⟩
 ·cases hx:mf g with
  |some o'=>rw[PH.or_l hx]at e;cases e;exact (A g _ hx).2.2.1
  |none=>rw[PH.or_r hx]at e;exact g1.pm g o e
 ·cases hx:mf g with
  |some o'=>exact .inl (A g _ hx).2.2.2
  |none=>rw[PH.or_r hx];exact g1.ap g
 ·cases hx:mf g with
  |some o'=>rw[PH.or_l hx]at f;cases f
  |none=>rw[PH.or_r hx]at f;exact g2.old g e f
 cases hx:mf g with
 |some o'=>rw[PH.or_l hx]at f;cases f
 |none=>rw[PH.or_r hx]at f⊢;exact g2.ms g e f
section rules
variable {P:Program} [A6 P] {fn:Func} {Post:Ce} {st:List KI×S} {u m:PH}
def Vl (st:List KI×S):Bool:=match st.1 with
 |.reg _ _ false _::_=>true
 |.reg _ ops true (i::_)::_=>match ops[i]? with|some o=>L6 ops i o.op||La ops st.2|none=>false
 |_=>false
def Abl {t:Nat}{e:Array Oper}{f:Bool}{i:Nat}{l:zK}{k:List KI}{s:S}{o:Oper}(j:e[i]?=some o)(h:Vl (.reg t e f (i::l)::k,s)=true):f=false\/L6 e i o.op=true\/La e s=true\/Pu.b=true:=by
 cases f with
 |false=>exact .inl rfl
 |true =>
  right;have h:=(by simpa[Vl,j] using h:L6 e i o.op=true\/La e s=true);exact h.imp (fun x=>x) .inl
def G.bigN {V:Vm}{K:Value->PH->PH->Prop}(h:Aj P (adv P st)=V)(Q:V≠.other)(D:Vl (adv P st)=true)(T:∀ t I,Bc P t I=V->Fa I=false)
 (W:∀ t (o:Oper),Bc P t o.op=V->∀ w,Bv u m w->Eg P t o w fun v w'=>∃ j A,Bv j A w'/\B0 u m w j A w'/\K v j A)
 (k:∀ v j A,PH.le u j->K v j A->G P fn Post (nx (adv P st) v) j A):G P fn Post st u m:=by
 refine G.stp ?_;obtain⟨id,Z,dr,i,l,kk,s,o,e,H,U,R,Y,X,f,F⟩:=Eq h Q;have C:=Abl H (e▸D);rw[e];refine⟨?_⟩;refine Ob.big (K:=K) H U R Y X (T _ _ f) (fun v j A hK=>.inr C) (fun w E=>W _ o f w E) (fun v j A J L=>?_);have:=(k v j A J L).out;rw[F]at this;exact this
def G.bigP {V:Vm}{K:Value->PH->PH->Prop}(h:Aj P (adv P st)=V)(J:V≠.other)(E:Pu.b=true)(Q:∀ t F,Bc P t F=V->Fa F=false)
 (U:∀ t (o:Oper),Bc P t o.op=V->∀ w,Bv u m w->Eg P t o w fun v w'=>∃ j A,Bv j A w'/\B0 u m w j A w'/\K v j A)
 (k:∀ v j A,PH.le u j->K v j A->G P fn Post (nx (adv P st) v) j A):G P fn Post st u m:=by
 refine G.stp ?_;obtain⟨id,Y,Z,i,l,kk,s,o,e,T,R,L,X,W,f,D⟩:=Eq h J;rw[e];refine⟨?_⟩;refine Ob.big (K:=K) T R L X W (Q _ _ f) (fun v j A hK=>.inr (.inr (.inr (.inr E)))) (fun w C=>U _ o f w C) (fun v j A H I=>?_);have:=(k v j A H I).out;rw[D]at this;exact this
def G.callM (f:Nat)(args:zV){mf mc:PH}{R:Value->PH->PH->Prop}(h:Aj P (adv P st)=.call f args)(D:Vl (adv P st)=true)(Y:∀ args w,(callFunc f args).run P w=.ok (.enter f args) w)(hm:m=mf.or mc)(H:Hp mf mc)(c:Ag P f args u mc R)
 (k:∀ v t j,PH.le u t->R v t j->G P fn Post (nx (adv P st) v) t (mf.or j)):G P fn Post st u m:=by
 subst hm;refine G.bigN (K:=fun v t I=>∃ j,I=mf.or j/\R v t j) h mV D Dv (fun U o A w C=>?_) (fun v t I V W=>?_)
 ·have F:Bv u mc w:=C.less (fun g o E=>by
   cases hx:mf g with
   |some o'=>have:=(H g).resolve_left (by rw[hx];simp);rw[this]at E;cases E
   |none=>rw[PH.or_r hx];exact E)
  refine Hq A Y w _ (Calls.mono (c w F) fun e w' Z=>?_);obtain⟨v,t,j,J,L,Q,T⟩:=Z;obtain⟨g1,g2⟩:=C.frameM H L Q;exact⟨v,J,t,mf.or j,g1,g2,j,rfl,T⟩
 obtain⟨j,rfl,X⟩:=W;exact k v t j V X
end rules
end
def N4 (u:PH)(es:zV)(rs:List zW):Prop:=es.length=rs.length/\∀ (j:Nat) (r:zW),rs[j]?=some r->∃ a c,es[j]?=some (.slice a r.length c)/\Cj u (.slice a r.length c) r
def N4.mono {u f:PH}{es:zV}{e:List zW}(h:N4 u es e)(C:PH.le u f):N4 f es e :=
 ⟨h.1,fun j r A=>by obtain⟨a,c,m,t⟩:=h.2 j r A;exact⟨a,c,m,Ac.mono t C⟩⟩
def C7 (u:PH)(v:Value)(rs:List zW):Prop:=∃ es,Ac u v 1 es/\N4 u es rs
def C7.mono {u j:PH}{v:Value}{f:List zW}(h:C7 u v f)(e:PH.le u j):C7 j v f:=by
 obtain⟨es,m,t⟩:=h;exact⟨es,m.mono e,t.mono e⟩
def C7.opn {u:PH}{v:Value}{e:List zW}(h:C7 u v e):∃ a c,v=.slice a e.length c:=by
 obtain⟨es,f,j⟩:=h;obtain⟨a,c,rfl⟩:=f.opn;exact⟨a,c,by rw[j.1]⟩
def C7.row {u:PH}{a:zP}{n c j:Nat}{m:List zW}{r:zW}(h:C7 u (.slice a n c) m)(F:m[j]?=some r) :
 ∃ b off e f,a=some ⟨b,off,none⟩/\ElP u b (off+j*1) (.slice e r.length f)/\Cj u (.slice e r.length f) r:=by
 obtain⟨es,D,E⟩:=h;obtain⟨e,f,t,A⟩:=E.2 j r F;obtain⟨b,off,rfl,C⟩:=D.at' t;exact⟨b,off,e,f,rfl,C,A⟩
def Ajj {u:PH}{v:Value}{e:List zW}{fid:Nat}{cap:zV}(h:C7 u v e)(R:e.length<=1000000)
 (f:∀ args w,(callFunc fid args).run prog w=.ok (.enter fid args) w) (I:∀ r∈e,∀ m x,PH.le u m->Cj m x r->zF fid (x::cap) m fun v _=>v=zL) :
 zF 227 [v,.func (.func fid) #[] cap.toArray] u fun L _=>L=zI (-1):=by
 obtain⟨a,c,rfl⟩:=h.opn;refine Fn0.o func227<|G.l (ι:=Nat) (fun i=>[(0,sV a e.length c),(1,.v (.func (.func fid) #[] cap.toArray)),(7,iV e.length),(8,iV i)]) (fun _=>[])
  (fun i m C=>i<=e.length/\C=PH.mt) (fun i=>e.length-i) 0 ⟨oV,rfl⟩ ?_
 rintro J k H m C j ⟨Q,rfl⟩;by_cases t:k<e.length
 ·refine G.lT k e.length ?_;have A:e[k]?=some e[k]:=A01 t;obtain⟨P,T,D,E,rfl,F,es⟩:=(h.mono j).row A;refine G.n e.length c F<|G.call0 fid (.slice D e[k].length E::cap) kV f (I e[k] (A09 t) m _ j es) ?_;rintro V U K rfl;exact G.i k<|G.b (H (k+1) _ _ _ cV (j.trans K) ⟨oV,rfl⟩ oV)
 exact G.lF k e.length<|G.z (zI (-1))
def Gd {u:PH}{v:Value}{f:List zW}{fid:Nat}{cap:zV}(h:C7 u v f)(t:f.length<=1000000)
 (e:∀ args w,(callFunc fid args).run prog w=.ok (.enter fid args) w) (m:∀ r∈f,∀ j x,PH.le u j->Cj j x r->zF fid (x::cap) j fun v _=>v=zL) :
 zF 175 [v,.func (.func fid) #[] cap.toArray] u fun A _=>A=zL:=by
 obtain⟨a,c,rfl⟩:=h.opn;refine Fn0.o func175<|G.c call227 (Ajj h t e m) ?_;rintro E D C rfl;exact G.hF (-1) 0<|G.z zL
def As5 {es:zV}(h:∀ e∈es,∃ a n c,e=.slice a n c):A9 1 es:=by
 intro e j;obtain⟨a,n,c,rfl⟩:=h e j;exact⟨rfl,fun x f=>by simp[Value.cells]at f;subst f;rfl⟩
section
variable {u:PH}{x:Value}
def Cv (A:zM):List zW:=A.map fun r=>r.map Ae
def Fz:Ae 0 = [48]:=by rw[Ae,if_pos (by rfl)];exact E5
def Sv:Ae 1 = [49]:=by rw[Ae,if_pos (by rfl)];exact Hf
def Atu {r:zW}(h:Cj u x r)(e:r.length<=12):zF 235 [x] u fun v _=>v=zL:=by
 obtain⟨a,c,rfl⟩:=Ac.opn h;rw[Cb];exact Fn0.o func235<|G.gF r.length 12<|G.z zL
def Al0 {e:zR}(h:Cj u x (e.map Ae))(j:∀ q∈e,Tx q)(f:e.length<=1000000):zF 237 [x] u fun v _=>v=zL:=by
 obtain⟨a,c,rfl⟩:=Ac.opn h;refine Fn0.o func237<|G.c call164 (Apy h j f) ?_;rintro A t m rfl;exact G.z zL
end
def FnR (P:Program)(f:FuncId)(args:zV)(u mc:PH)(R:Value->PH->Prop):Prop:=Ag P f args u mc (fun v u' m'=>m'=mc/\R v u')
def By (mc:PH):PH.mt.or mc=mc:=by funext g;rfl
def Ef (mc:PH):Hp PH.mt mc:=fun _=>.inl rfl
def Aj3 {u mc:PH}{x:Value}{r:zW}{g n:Nat}{t:TypeId}(h:Cj u x r)(j:r.length=n)(m:n<=12)(f:mc g=some (.cells #[zI n] t (0,0))) :
 FnR prog 236 [x,.pointer (zA g)] u mc fun v _=>v=zL:=by
 obtain⟨a,c,rfl⟩:=Ac.opn h;rw[Cb];refine Ag.o func236<|G.lM none g 0 (zI n) (fun i y e=>by
  match i,e with
  |0,e=>simp[Value.cells]at e;subst e;exact⟨_,_,_,f,rfl⟩) ?_
 exact G.nF r.length n<|G.z zL
def Ajr {u mc:PH}{v:Value}{e:List zW}{fid:Nat}{cap:zV}(h:C7 u v e)(T:e.length<=1000000)
 (f:∀ args w,(callFunc fid args).run prog w=.ok (.enter fid args) w) (I:∀ r∈e,∀ m x,PH.le u m->Cj m x r->FnR prog fid (x::cap) m mc fun v _=>v=zL) :
 FnR prog 227 [v,.func (.func fid) #[] cap.toArray] u mc fun P _=>P=zI (-1):=by
 obtain⟨a,c,rfl⟩:=h.opn;refine Ag.o func227<|G.l (ι:=Nat) (fun i=>[(0,sV a e.length c),(1,.v (.func (.func fid) #[] cap.toArray)),(7,iV e.length),(8,iV i)]) (fun _=>[])
  (fun i m C=>i<=e.length/\C=mc) (fun i=>e.length-i) 0 ⟨oV,rfl⟩ ?_
 rintro J k H m C j ⟨R,rfl⟩;by_cases t:k<e.length
 ·refine G.lT k e.length ?_;have A:e[k]?=some e[k]:=A01 t;obtain⟨Q,U,D,E,rfl,F,es⟩:=(h.mono j).row A;refine G.n e.length c F<|G.callM fid (.slice D e[k].length E::cap) kV kV f (By _).symm (Ef _) (I e[k] (A09 t) m _ j es) ?_;rintro W V L K ⟨rfl,rfl⟩;rw[By];exact G.i k<|G.b (H (k+1) _ _ _ cV (j.trans K) ⟨oV,rfl⟩ oV)
 exact G.lF k e.length<|G.z (zI (-1))
def Pk {u mc:PH}{v:Value}{f:List zW}{fid:Nat}{cap:zV}(h:C7 u v f)(t:f.length<=1000000)
 (e:∀ args w,(callFunc fid args).run prog w=.ok (.enter fid args) w) (m:∀ r∈f,∀ j x,PH.le u j->Cj j x r->FnR prog fid (x::cap) j mc fun v _=>v=zL) :
 FnR prog 175 [v,.func (.func fid) #[] cap.toArray] u mc fun C _=>C=zL:=by
 obtain⟨a,c,rfl⟩:=h.opn;refine Ag.o func175<|G.callM _ _ kV kV call227 (By _).symm (Ef _) (Ajr h t e m) ?_;rintro F E A D ⟨rfl,rfl⟩;rw[By];exact G.hF (-1) 0<|G.z zL
section
variable [Cl] [Co] [Pu]
section rules
variable {P:Program} [A6 P] {fn:Func} {Post:Ce} {st:List KI×S} {u m:PH}
def G.storeM (sz b off:Nat)(t:TypeId)(cs:zV)(e:Value)(h:Aj P (adv P st)=.store (some sz) (.pointer (some ⟨b,off,none⟩)) e)(W:m b=some (.cells cs.toArray t (0,0)))(Z:∀ x∈cs,Ax x=true)(hl:off+sz<=cs.length)(L:e.cells.size=sz)(J:e.cells.toList.all Ax=true)
 (k:G P fn Post (nx (adv P st) undef) u (m.upd b (.cells (cs.take off++e.cells.toList++cs.drop (off+sz)).toArray t (0,0)))):G P fn Post st u m:=by
 refine G.big (K:=fun v' u' m'=>u'=u/\v'=undef/\m'=m.upd b (.cells (cs.take off++e.cells.toList++cs.drop (off+sz)).toArray t (0,0))) h mV (fun j op T=>?_) (.inr fun j op T=>?_) (fun j o E w F=>?_) (fun v' u' m' _ hk=>?_)
 ·obtain⟨U,X,Y,rfl,_⟩:=Fq T;rfl
 ·obtain⟨U,X,Y,rfl,_⟩:=Fq T;rfl
 ·obtain⟨U,X,Y,V,e2,e3,ht⟩:=Fq E;obtain⟨I,a0,H,pos,after,A⟩:=o;simp only at V;subst V;rw[A1o]at J;have R:=F.pm b _ W;have D:=run_storeCells_at P b off t e.cells.toList 0 cs.toArray w R (by simp[L];omega) (fun x f=>Gl (J x f));simp only[A3s,A3o,L,A3t]at D;have C:∀ x∈(cs.take off++e.cells.toList++cs.drop (off+sz)).toArray.toList,Ax x=true:=by
   intro x f;simp only[A3t,A1h]at f;rcases f with (f|f)|f
   ·exact Z x (A27 f)
   ·exact J x f
   exact Z x (A3x f)
  obtain⟨g1,g2⟩:=F.setM W C;unfold Eg;have Q:(execOp j ⟨I,.store U X Y,H,pos,after,A⟩).run P w=.ok .skip (w.setRow b (cs.take off++e.cells.toList++cs.drop (off+sz)).toArray):=by
   simp only[execOp,e2,e3];simp only[A2k]at D⊢;simp[Instr.storeAt,Instr.sureAddr,storeVar,Bf ht,L,D]
  rw[Q];exact⟨u,_,g1,g2,rfl,rfl,rfl⟩
 obtain⟨rfl,rfl,rfl⟩:=hk;exact k
end rules
end
section
variable {a:Act}{c:Cx}{s:S}{w:World}{ρ:Nat->Nat}
variable [Cl] [Pu]
section rules
variable {P:Program} [A6 P] {fn:Func} {Post:Ce} {st:List KI×S} {u m:PH}
section based
variable [Co]
def Rel.less {c:Cx}{s:S}{ρ:Nat->Nat}{a:Act}{w:World}(h:Rel c s u m ρ a w){j:PH}(C:PH.le j m):Rel c s u j ρ a w:=by
 have A:∀ g,m g=none->j g=none:=fun g f=>by
  cases e:j g with
  |none=>rfl
  |some o=>rw[C g o e]at f;cases f
 refine⟨h.sz,h.tm,h.df.of fun r e _ J t=>⟨e,J,A _ t⟩,fun k b I=>?_,h.inj,h.lv,h.gd.less C,⟨h.gr.sz,h.gr.old,h.gr.us,fun g f t=>A g (h.gr.ms g f t),h.gr.io,h.gr.dr⟩⟩;obtain⟨D,E,F,H⟩:=h.box k b I;exact⟨D,E,F,A _ H⟩
def G.drop (j:PH)(h:F2 (ctl P 100 st).1=true)(t:PH.le j m)(k:G P fn Post (ctl P 100 st) u j):G P fn Post st u m:=by
 refine⟨L3 100 st ?_⟩;have f:=k.out;rw[Sym.ofNo h]at f⊢;intro c ρ a w e A;exact f c ρ a w e (A.less t)
def Asq (P:Program)(s:S)(m:PH)(r:ResultVar)(v:Value):Prop :=
 Yx P s r=some v\/∃ a t g off kd,r=.cell a t/\s.tm a=.v (.pointer (some ⟨g,off,none⟩))/\Zd P t=some kd/\Wg kd v=true/\ElP m g off v
def T6 (P:Program)(s:S)(m:PH):List ResultVar->zV->Prop
 |[],[]=>True
 |r::rs,v::vs=>Asq P s m r v/\T6 P s m rs vs
 |_,_=>False
def Aio (e:Rel c s u m ρ a w){r:ResultVar}{x:Value}(h:Asq P s m r x):(Ms a.tmps r).run P w=.ok x w:=by
 rcases h with h|⟨p,t,g,off,D,rfl,f,j,A,C⟩
 ·exact Ys e h
 have:=e.tm p (by rw[f];simp);rw[f]at this;simp[Ms,this,SV.den,asAddr,Kj j A C e.gd.pm]
def Qo (j:Rel c s u m ρ a w){l:zV}(h:T6 P s m fn.results.toList l):(results fn a.tmps).run P w=.ok (Pc l) w:=by
 have key:∀ (f:List ResultVar) (l:zV),T6 P s m f l->(f.mapM (Ms a.tmps)).run P w=.ok l w:=by
  intro f;induction f with
  |nil=>intro l h;cases l with|nil=>simp|cons=>exact h.elim
  |cons r f ih =>
   intro l h;cases l with
   |nil=>exact h.elim
   |cons x xs =>
    rw[A9p];simp only[Sem.run_bind,Aio j h.1,Result.andThen_ok,ih xs h.2,Sem.run_pure]
 have e:results fn a.tmps=(do let vs <-fn.results.mapM (Ms a.tmps);pure (if h:vs.size=1 then vs[0] else .tuple vs)):=by
  unfold results;rfl
 rw[e,<-A5x (xs:=fn.results),A81];simp only[Sem.run_bind,Sem.run_map,key _ l h,Result.andThen_ok,Sem.run_pure]
 congr 1
 match l with
 |[]=>rfl
 |[x]=>rfl
 |x::y::l=>rfl
def Akf (st:List KI×S):Bool:=match st.1 with
 |.code .ret::_=>true
 |[]=>true
 |_=>false
end based
def G.retM (l:zV)(C:PH)(h:Akf (adv P st)=true)(A:T6 P (adv P st).2 m fn.results.toList l)(j:PH.le C m)(hp:Post.post (Pc l) u C):G P fn Post st u m:=by
 refine G.stp ?_;generalize adv P st=st' at h A;obtain⟨D,s⟩:=st';unfold Akf at h;simp only at h;split at h
 ·refine⟨?_⟩;intro c ρ a w t e;exact wp_ret (J6 (e.ends fun w' f=>⟨Qo (a:=⟨a.tmps,[]⟩) f A,_,_,_,rfl,(f.less j).gd,(f.less j).gr,hp⟩).1 _)
 ·refine⟨?_⟩;intro c ρ a w t e;exact (e.ends fun w' f=>⟨Qo (a:=⟨a.tmps,[]⟩) f A,_,_,_,rfl,(f.less j).gd,(f.less j).gr,hp⟩).2
 cases h
def PH.mt_le (m:PH):PH.le PH.mt m:=fun _ _ h=>by cases h
end rules
end
section
variable {A:zM}
def A3 (A:zM):(Cv A).length=A.length:=by simp[Cv]
def Dw {j:Nat}{r:zR}(h:A[j]?=some r):(Cv A)[j]?=some (r.map Ae):=by simp[Cv,h]
def Mg {r:zW}(h:r∈Cv A):∃ q∈A,r=q.map Ae:=by
 simp only[Cv,A1b]at h;obtain⟨q,e,rfl⟩:=h;exact⟨q,e,rfl⟩
def Vs (m:PH)(g:Nat)(z:Int)(t:TypeId):ElP (m.upd g (.cells [Value.int .i64 z].toArray t (0,0))) g 0 (zI z):=fun i y e=>by
 match i,e with
 |0,e=>simp[Value.cells]at e;subst e;exact⟨_,_,_,Ab _ _ _,rfl⟩
def Ayc {u:PH}{v:Value}{k:Nat}(h:C7 u v (Cv A))(Z:A.length<=12)(J:k<=12)(C:∀ r∈A,r.length=k)(h0:A.length=0->k=0)(hT:∀ r∈A,∀ q∈r,Tx q) :
 zF 186 [v] u fun T _=>T=.tuple #[zI A.length,zI k,zO]:=by
 obtain⟨a,c,rfl⟩:=h.opn;rw[A3]at h⊢;refine Fn0.o func186<|G.gF A.length 12<|G.c call175 (Gd (fid:=235) (cap:=[]) h (by rw[A3];omega) call235 (fun r e E x _ f=>?_)) ?_
 ·obtain⟨q,j,rfl⟩:=Mg e;exact Atu f (by rw[A03,C q j];omega)
 rintro v1 u1 D rfl;have m:∀ r∈Cv A,r.length=k:=fun r e=>by
  obtain⟨q,j,rfl⟩:=Mg e;rw[A03,C q j]
 by_cases t:0<A.length
 ·refine G.gT A.length 0 ?_;have F:A[0]?=some A[0]:=A01 t;obtain⟨X,oa,W,Y,rfl,I,es⟩:=(h.mono D).row (Dw F);rw[A03,C _ (A09 t)]at I;refine G.n A.length c I<|G.pub 1 3 [zI k] kV kV ?_;intro g L K;refine G.callM _ _ kV kV call175 (By _).symm (Ef _) (Pk (fid:=236) (cap:=[.pointer (zA g)]) (h.mono D) (by rw[A3];omega) call236 (fun r e E x _ f=>Aj3 f (m r e) J (Ab _ _ _))) ?_;rintro U Q H l2 ⟨rfl,rfl⟩;rw[By];refine G.c call175 (Gd (fid:=237) (cap:=[]) (h.mono (D.trans l2)) (by rw[A3];omega) call237 (fun r e E x _ f=>?_)) ?_
  ·obtain⟨q,j,rfl⟩:=Mg e;exact Al0 f (hT q j) (by rw[C q j];omega)
  rintro V R P rfl;exact G.v none (Vs _ _ _ _)<|G.storeM 1 g 0 3 [zI k] (zI k) kV (Ab _ _ _) (fun x f=>by simp at f;subst f;rfl) mV rfl rfl<|G.retM [zI A.length,zI k,zO] PH.mt kV ⟨.inl kV,.inr ⟨3,3,g,0,none,rfl,kV,kV,rfl,Vs _ _ _ _⟩,.inl kV,trivial⟩ (PH.mt_le _) ⟨rfl,rfl⟩
 refine G.gF A.length 0 ?_;obtain rfl:k=0:=h0 oV;refine G.pub 1 3 [zI (0:Nat)] kV kV ?_;intro g L K;refine G.callM _ _ kV kV call175 (By _).symm (Ef _) (Pk (fid:=236) (cap:=[.pointer (zA g)]) (h.mono D) (by rw[A3];omega) call236 (fun r e E x _ f=>Aj3 f (m r e) J (Ab _ _ _))) ?_;rintro U Q H l2 ⟨rfl,rfl⟩;rw[By];refine G.c call175 (Gd (fid:=237) (cap:=[]) (h.mono (D.trans l2)) (by rw[A3];omega) call237 (fun r e E x _ f=>?_)) ?_
 ·obtain⟨q,j,rfl⟩:=Mg e;exact Al0 f (hT q j) (by rw[C q j];omega)
 rintro V R P rfl;exact G.v none (Vs _ _ _ _)<|G.storeM 1 g 0 3 [zI (0:Nat)] (zI (0:Nat)) kV (Ab _ _ _) (fun x f=>by simp at f;subst f;rfl) mV rfl rfl<|G.retM [zI A.length,zI (0:Nat),zO] PH.mt kV ⟨.inl kV,.inr ⟨3,3,g,0,none,rfl,kV,kV,rfl,Vs _ _ _ _⟩,.inl kV,trivial⟩ (PH.mt_le _) ⟨rfl,rfl⟩
end
section
variable {A:zM}{i j:Nat}{u:PH}{v:Value}
def C7.cell {a:zP}{n c i j:Nat}(h:C7 u (.slice a n c) (Cv A))(hi:i<A.length)(E:j<A[i].length) :
 ∃ b off b' f m,a=some ⟨b,off,none⟩/\ElP u b (off+i*1) (.slice (some ⟨b',f,none⟩) A[i].length m)/\ElP u b' (f+j*1) (zS (Ae A[i][j])):=by
 obtain⟨b,off,F,m,rfl,t,C⟩:=h.row (Dw (A01 hi));rw[A03]at t C;obtain⟨b',f,rfl,D⟩:=Ac.at' C (j:=j) (e:=zS (Ae A[i][j])) (by simp[Cc,A01 E]);exact⟨b,off,b',f,m,rfl,t,D⟩
structure Sq (A:zM):Prop where
 le:A.length<=12
 row:∀ r∈A,r.length=A.length
 tx:∀ r∈A,∀ q∈r,Tx q
def Sq.len (h:Sq A)(hi:i<A.length):A[i].length=A.length:=h.row _ (A09 hi)
def Sq.tx' (h:Sq A)(hi:i<A.length)(e:j<A[i].length):Tx A[i][j]:=h.tx _ (A09 hi) _ (A09 e)
def Avc (A:zM):Prop:=∀ (i k:Nat) (hi:i<A.length) (hk:k<A.length) (h1:k<A[i].length) (h2:i<A[k].length),A[i][k]=A[k][i]
def Adf (h:C7 u v (Cv A))(e:Sq A):zF 186 [v] u fun f _=>f=.tuple #[zI A.length,zI A.length,zO] :=
 Ayc h e.le e.le e.row (fun h=>h) e.tx
def Aiy (h:C7 u v (Cv A))(C:Sq A)(W:Avc A):zF 229 [v] u fun Z _=>Z=zT:=by
 obtain⟨a,c,rfl⟩:=h.opn;rw[A3]at h⊢;have V:=C.le;refine Fn0.o func229<|G.c call186 (Adf h C) ?_;rintro v1 u1 X rfl;refine G.nF 0 0<|G.nF A.length A.length<|G.l (ι:=Nat) (fun i=>[(0,sV a A.length c),(22,iV A.length),(23,iV i)]) (fun _=>[])
  (fun i Y F=>i<=A.length/\F=PH.mt) (fun i=>A.length-i) 0 ⟨oV,rfl⟩ ?_
 rintro J i U u2 m2 l2 ⟨hi,rfl⟩;by_cases t:i<A.length
 ·refine G.lT i A.length<|G.l (ι:=Nat) (fun k=>[(0,sV a A.length c),(22,iV A.length),(23,iV i),(6,iV i),(26,iV i),(27,iV k)]) (fun _=>[])
   (fun k Y F=>k<=i/\F=PH.mt) (fun k=>i-k) 0 ⟨oV,rfl⟩ ?_
  rintro J2 k D u3 m3 E ⟨hk,rfl⟩;by_cases I:k<i
  ·refine G.lT k i ?_;have m:k<A.length:=oV;have f:k<A[i].length:=by rw[C.len t];omega
   have e:i<A[k].length:=by rw[C.len m];omega
   have H:=h.mono (X.trans (l2.trans E));obtain⟨b1,o1,b2,o2,c2,rfl,P,Q⟩:=H.cell t f;refine G.n A.length c P<|G.N A[i].length c2 f Q ?_;obtain⟨b3,o3,b4,o4,K,L,R,T⟩:=H.cell m e;cases L;exact G.n A.length c R<|G.N A[k].length K e T<|G.y (Ae A[i][k]) (Ae A[k][i]) (by rw[W i k t m f e])<|G.i k<|G.b (D (k+1) _ _ _ cV E ⟨oV,rfl⟩ oV)
  exact G.lF k i<|G.i i<|G.b (U (i+1) _ _ _ cV (l2.trans E) ⟨oV,rfl⟩ oV)
 exact G.lF i A.length<|G.z zT
end
section
variable {c j n sz:Nat}{e v:Value}{es:zV}
section lists
variable {α:Type} {R:PH->Value->α->Prop} {u u':PH}
def AtP (R:PH->Value->α->Prop)(u:PH)(es:zV)(xs:List α):Prop:=es.length=xs.length/\∀ (j:Nat) (x:α),xs[j]?=some x->∃ e,es[j]?=some e/\R u e x
def AtP.nil:AtP R u [] []:=⟨rfl,fun j x h=>by simp at h⟩
def AtP.mono {xs:List α}(t:∀ e x,R u e x->R u' e x)(h:AtP R u es xs):AtP R u' es xs :=
 ⟨h.1,fun j x A=>by obtain⟨e,f,m⟩:=h.2 j x A;exact⟨e,f,t e x m⟩⟩
theorem AtP.snoc {xs:List α}{x:α}(h:AtP R u es xs)(D:R u e x):AtP R u (es++[e]) (xs++[x]):=by
 refine⟨by simp[h.1],fun j r f=>?_⟩;by_cases m:j<xs.length
 ·rw[A1r m]at f;obtain⟨t,A,C⟩:=h.2 j r f;exact⟨t,by rw[A1r (by rw[h.1];exact m)];exact A,C⟩
 rw[A18 oV]at f;have:j-xs.length=0:=by grind
 rw[this]at f;simp at f;subst f;refine⟨e,?_,D⟩;rw[A18 (by rw[h.1];omega),h.1,this];rfl
def AtP.set {xs:List α}{x:α}(h:AtP R u es xs)(k:Nat)(m:R u e x):AtP R u (es.set k e) (xs.set k x):=by
 refine⟨by simp[h.1],fun j r f=>?_⟩;rw[A1z]at f⊢;split at f
 ·rename_i e';subst e';split at f
  ·rename_i hlt;simp only[A1f]at f;subst f;exact⟨e,by rw[if_pos rfl,if_pos (by rw[h.1];exact hlt)],m⟩
  cases f
 rename_i e';rw[if_neg e'];exact h.2 j r f
def LP (R:PH->Value->α->Prop)(sz:Nat)(u:PH)(v:Value)(xs:List α):Prop:=∃ es,Ac u v sz es/\AtP R u es xs
def LP.mono {sz:Nat}{v:Value}{xs:List α}(t:∀ e x,R u e x->R u' e x)(h:LP R sz u v xs)(A:PH.le u u'):LP R sz u' v xs:=by
 obtain⟨es,f,m⟩:=h;exact⟨es,f.mono A,m.mono t⟩
def LP.opn {sz:Nat}{v:Value}{xs:List α}(h:LP R sz u v xs):∃ a c,v=.slice a xs.length c:=by
 obtain⟨es,f,m⟩:=h;obtain⟨a,c,rfl⟩:=f.opn;exact⟨a,c,by rw[m.1]⟩
def LP.at {a:zP}{xs:List α}(h:LP R sz u (.slice a n c) xs){x:α}(D:xs[j]?=some x):∃ b off e,a=some ⟨b,off,none⟩/\ElP u b (off+j*sz) e/\R u e x:=by
 obtain⟨es,A,C⟩:=h;obtain⟨e,f,m⟩:=C.2 j x D;obtain⟨b,off,rfl,t⟩:=A.at' f;exact⟨b,off,e,rfl,t,m⟩
end lists
def Y6 (u:PH)(v:Value)(zs:List Int):Prop:=LP Bi 2 u v zs
def Nl (u:PH)(v:Value)(zs:List (List Int)):Prop:=LP Y6 1 u v zs
def Aeq (u:PH)(v:Value)(qs:zM):Prop:=LP F6 1 u v qs
def Y6.mono {u u':PH}{v:Value}{zs:List Int}(h:Y6 u v zs)(f:PH.le u u'):Y6 u' v zs:=LP.mono (fun _ _ h=>h.mono f) h f
def Nl.mono {u u':PH}{v:Value}{zs:List (List Int)}(h:Nl u v zs)(f:PH.le u u'):Nl u' v zs:=LP.mono (fun _ _ h=>h.mono f) h f
def Aeq.mono {u u':PH}{v:Value}{zs:zM}(h:Aeq u v zs)(f:PH.le u u'):Aeq u' v zs:=LP.mono (fun _ _ h=>h.mono f) h f
def F6.lp {u:PH}{f:zR}(h:F6 u v f):LP Bg 4 u v f:=h
def Bi.ok {u:PH}{q:Int}(h:Bi u e q):A9 2 [e]:=by
 obtain⟨b,a,n,c,rfl⟩:=h.opn;intro x f;simp at f;subst f;exact⟨rfl,fun y m=>by simp[Value.cells]at m;rcases m with rfl|rfl<;>rfl⟩
def B5 (a:zP)(n c:Nat):A9 1 [.slice a n c]:=As5 (by intro e f;simp at f;exact⟨_,_,_,f⟩)
theorem Af.some' {m0 m:PH}{t:TypeId}{a:Addr}(f:Af m0 m (.slice (some a) n c) t sz es):∃ g,a=⟨g,0,none⟩/\m0 g=none:=by
 rcases f.2 with ⟨h,_,_⟩|⟨g,cap,rest,h0,_,h,_⟩
 ·grind
 grind
def Afh {α:Type}{l:List α}{e z:α}(f:l.length=j)(h:j<n):(l++List.replicate (n-j) z).set j e=l++[e]++List.replicate (n-(j+1)) z:=by
 subst f;rw[show n-l.length=(n-(l.length+1))+1 by omega,A68];simp
def Apj (d e:Nat):((d:Int)/((Nat.gcd (d:Int).natAbs (e:Int).natAbs:Nat):Int)*(e:Int))=((Nat.lcm d e:Nat):Int):=by
 rw[A1s,A1s,Nat.lcm,<-Nat.div_mul_right_comm (Nat.gcd_dvd_left d e)];rfl
def Ayt (u:PH)(v:Value)(D:Nat)(cs:List (List Int)):Prop:=∃ b a n c a' n' c',v=.agg #[.bool b,.slice a n c,.slice a' n' c']/\Bi u (.agg #[.bool b,.slice a n c]) (D:Int)/\Nl u (.slice a' n' c') cs
def Bp (D:Nat)(r:zR):List Int:=r.map fun q=>q.num*((D/q.den:Nat):Int)
structure DI where
 b:Bool
 a:zP
 n:Nat
 c:Nat
 D:Nat
def A0i (d:DI):Value:=.agg #[.bool d.b,.slice d.a d.n d.c]
def Yd (u:PH)(d:DI)(L:Nat):Prop:=Bi u (A0i d) (d.D:Int)/\0<d.D/\d.D ∣ L
def Yd.mono {u u':PH}{d:DI}{L:Nat}(h:Yd u d L)(f:PH.le u u'):Yd u' d L:=⟨h.1.mono f,h.2⟩
def Aut {u:PH}{A:zM}{L:Nat}(h:C7 u v (Cv A))(hT:∀ r∈A,∀ q∈r,Tx q)(hl:A.length<=1000000)(ae:∀ r∈A,r.length<=1000000)(hL:∀ r∈A,∀ q∈r,q.den ∣ L)(b9:0<L)(bd:nl L<=1000000000) :
 zF 120 [v] u fun v' u'=>∃ D,0<D/\D ∣ L/\(∀ r∈A,∀ q∈r,q.den ∣ D)/\Ayt u' v' D (A.map (Bp D)):=by
 obtain⟨a,c,rfl⟩:=h.opn;rw[A3]at h⊢;have ab:∀ D:Nat,D ∣ L->nl (D:Int).natAbs<=1000000000:=fun D T=>A04 (C4 (A48 b9 T)) bd;refine Fn0.o func120<|G.c call121 (Kf (z:=1) oV oV) ?_;intro v1 u1 l1 k1;obtain⟨b1,a1,n1,c1,rfl⟩:=k1.opn;refine G.l (ι:=Nat×zV×(zP×Nat×Nat)×DI)
  (fun i=>[(2,.p 0 0),(3,.p 1002 0),(4,sV i.2.2.1.1 i.2.2.1.2.1 i.2.2.1.2.2),(19,sV a A.length c),(20,iV A.length),(21,iV i.1)])
  (fun i=>[(0,⟨187,[bF,sN,sN]⟩),(1002,⟨187,[bV i.2.2.2.b,sV i.2.2.2.a i.2.2.2.n i.2.2.2.c,sN]⟩)])
  (fun i u' m'=>i.1<=A.length/\AtP F6 u' i.2.1 (A.take i.1)/\Af PH.mt m' (.slice i.2.2.1.1 i.2.2.1.2.1 i.2.2.1.2.2) 135 1 i.2.1/\Yd u' i.2.2.2 L/\∀ r∈A.take i.1,∀ q∈r,q.den ∣ i.2.2.2.D)
  (fun i=>A.length-i.1) (0,[],(none,0,0),⟨b1,a1,n1,c1,1⟩)
  ⟨A1t _,AtP.nil,Af.nil _ _ _,⟨k1,Nat.one_pos,Ba6 _⟩,fun r H=>by simp at H⟩ ?_
 rintro J ⟨k,Kp,⟨a2,n2,c2⟩,⟨db,da,dn,dc,D⟩⟩ hJ u2 m2 l2 ⟨hk,hF,hA,T,W⟩;simp only at hk hF hA T W hJ;have bf:=hF.1;rw[A1e]at bf;by_cases P:k<A.length
 ·refine G.lT k A.length ?_;have C:A[k]?=some A[k]:=A01 P;have m:=A09 P;obtain⟨ba,oa,a3,c3,rfl,e3,s3⟩:=(h.mono (l1.trans l2)).row (Dw C);rw[A03]at e3 s3;refine G.n A.length c e3<|G.c call141 (T0 s3 (hT _ m) (ae _ m)) ?_;intro v4 u4 l4 k4;obtain⟨a4,c4,rfl⟩:=k4.lp.opn;refine G.l (ι:=Nat×DI)
   (fun i=>[(2,.p 0 0),(3,.p 1002 0),(4,sV a2 n2 c2),(19,sV (some ⟨ba,oa,none⟩) A.length c),(20,iV A.length),(21,iV k),(7,sV a4 A[k].length c4),(27,sV a4 A[k].length c4),(28,iV (A[k].length)),(29,iV i.1)])
   (fun i=>[(0,⟨187,[bF,sN,sN]⟩),(1002,⟨187,[bV i.2.b,sV i.2.a i.2.n i.2.c,sN]⟩)])
   (fun i u' m'=>i.1<=A[k].length/\m'=m2/\Yd u' i.2 L/\(∀ r∈A.take k,∀ q∈r,q.den ∣ i.2.D)/\∀ q∈A[k].take i.1,q.den ∣ i.2.D)
   (fun i=>A[k].length-i.1) (0,⟨db,da,dn,dc,D⟩)
   ⟨A1t _,rfl,T.mono l4,W,fun q F=>by simp at F⟩ ?_
  rintro J2 ⟨j,⟨eb,ea,en,ec,E⟩⟩ I u5 m5 U ⟨hj,rfl,hE,ad,Y⟩;simp only at hj hE ad Y I;by_cases f:j<A[k].length
  ·refine G.lT j (A[k].length:Int) ?_;have Q:A[k][j]?=some A[k][j]:=A01 f;have X:=A09 f;have Z:=hT _ m _ X;obtain⟨b6,o6,e6,rfl,h6,f6⟩:=(k4.mono U).lp.at Q;obtain⟨x1,x2,x3,x4,x5,x6,x7,x8,rfl⟩:=f6.opn;refine G.N A[k].length c4 f h6<|G.c call189 (Sk f6) ?_;intro v7 u7 l7 k7;obtain⟨b7,a7,n7,c7,rfl⟩:=k7.opn;refine G.c call188 (Alk ((hE.mono l7).1) k7 (A04 (ab _ hE.2.2) oV) (A04 (Bd Z.den) oV) (by have:=hE.2.1;dsimp only at this⊢;omega)) ?_;intro v8 u8 l8 k8;rw[Apj]at k8;obtain⟨b8,a8,n8,c8,rfl⟩:=k8.opn;refine G.add (j:Int) 1 ((j+1:Nat):Int) kV oV oV (by have:=ae _ m;omega)<|G.b (I (j+1,⟨b8,a8,n8,c8,Nat.lcm E A[k][j].den⟩) _ _ _ cV ((U.trans l7).trans l8) ⟨dV,rfl,⟨k8,?_,?_⟩,?_,?_⟩ dV)
   ·have:=hE.2.1;simp only at this⊢;exact Nat.lcm_pos this (A[k][j]).den_pos
   ·exact Ba7 hE.2.2 (hL _ m _ X)
   ·exact fun r H q F=>A74 (ad r H q F) (A78 _ _)
   intro q F;dsimp only at F⊢;rw[A1n,Q]at F;rcases A1h.1 F with F|F
   ·exact A74 (Y q F) (A78 _ _)
   simp at F;subst F;exact Nat.dvd_lcm_right _ _
  have:j=A[k].length:=oV;subst this;rw[A15]at Y;refine G.lF (A[k].length:Int) (A[k].length:Int)<|G.B 135 1 24 zN [.slice a4 A[k].length c4] (B5 _ _ _) ?_;intro g6 u6 l6 e6;refine G.append 135 1 24 zN PH.mt Kp [.slice a4 A[k].length c4] (.slice a2 n2 c2) g6 0 1 1 kV rfl rfl oV hA e6 (B5 _ _ _) rfl oV oV oV ?_;intro v7 m7 am;obtain⟨a7,c7,rfl⟩:=am.shape;refine G.i k<|G.b (hJ (k+1,Kp++[Value.slice a4 A[k].length c4],(a7,(Kp++[Value.slice a4 A[k].length c4]).length,c7),⟨eb,ea,en,ec,E⟩) _ _ _ cV (((l2.trans l4).trans U).trans l6) ⟨dV,?_,am,hE.mono l6,?_⟩ dV)
  ·dsimp only;rw[A1n,C];exact (hF.mono (fun _ _ h=>h.mono ((l4.trans U).trans l6))).snoc (k4.mono (U.trans l6))
  intro r H;dsimp only at H⊢;rw[A1n,C]at H;rcases A1h.1 H with H|H
  ·exact ad r H
  simp at H;subst H;exact Y
 have:k=A.length:=oV;subst this;rw[A15]at hF W;refine G.lF A.length A.length<|G.give PH.mt Kp _ kV hA (fun _=>.inl rfl) ?_;intro u3 l3 ac;have bi:Kp.length=A.length:=by rw[hF.1]
 obtain⟨_,_,e0⟩:=ac.opn;simp only[Value.slice.injEq]at e0;obtain⟨rfl,rfl,rfl⟩:=e0;rw[bi]at ac⊢;have b5:Aeq u3 (.slice a2 A.length c2) A:=⟨Kp,ac,hF.mono (fun _ _ h=>h.mono l3)⟩;refine G.l (ι:=Nat×zV×(zP×Nat×Nat))
  (fun i=>[(2,.p 0 0),(3,.p 1002 0),(45,sV a2 A.length c2),(46,iV A.length),(47,iV i.1)])
  (fun i=>[(0,⟨187,[bF,sN,sN]⟩),(1002,⟨187,[bV db,sV da dn dc,sV i.2.2.1 i.2.2.2.1 i.2.2.2.2]⟩)])
  (fun i u' m'=>i.1<=A.length/\AtP Y6 u' i.2.1 ((A.take i.1).map (Bp D))/\Af PH.mt m' (.slice i.2.2.1 i.2.2.2.1 i.2.2.2.2) 190 1 i.2.1)
  (fun i=>A.length-i.1) (0,[],(none,0,0))
  ⟨A1t _,AtP.nil,Af.nil _ _ _⟩ ?_
 rintro J2 ⟨k,cv,⟨a5,n5,c5⟩⟩ I u5 m5 U ⟨bh,hN,aa⟩;simp only at bh hN aa I;have aq:=hN.1;rw[A03,A1e]at aq;by_cases P:k<A.length
 ·refine G.lT k A.length ?_;have C:A[k]?=some A[k]:=A01 P;have m:=A09 P;have cc:=ae _ m;obtain⟨b6,o6,e6,rfl,h6,f6⟩:=LP.at (b5.mono U) C;obtain⟨a7,c7,rfl⟩:=f6.lp.opn;refine G.n A.length c2 h6<|G.make 141 2 32 (.agg #[zL,zN]) A[k].length kV rfl rfl oV oV oV ?_;rintro v8 m8 an ⟨a8,rfl⟩;obtain⟨g8,rfl,ca⟩:=an.some';refine G.l (ι:=Nat×zV)
   (fun i=>[(2,.p 0 0),(3,.p 1002 0),(45,sV (some ⟨b6,o6,none⟩) A.length c2),(46,iV A.length),(47,iV k),(12,sV (zA g8) A[k].length A[k].length),(54,sV a7 A[k].length c7),(55,iV (A[k].length)),(56,iV i.1)])
   (fun i=>[(0,⟨187,[bF,sN,sN]⟩),(1002,⟨187,[bV db,sV da dn dc,sV a5 n5 c5]⟩)])
   (fun i u' m'=>i.1<=A[k].length/\AtP Bi u' i.2 (Bp D (A[k].take i.1))/\Af m5 m' (zG g8 A[k].length A[k].length) 141 2 (i.2++List.replicate (A[k].length-i.1) (.agg #[zL,zN])))
   (fun i=>A[k].length-i.1) (0,[])
   ⟨A1t _,AtP.nil,by simpa using an⟩ ?_
  rintro J3 ⟨j,done⟩ ao u9 m9 l9 ⟨bg,K,V⟩;simp only at bg K V ao;have ar:=K.1;rw[Bp,A03,A1e]at ar;by_cases f:j<A[k].length
  ·refine G.lT j (A[k].length:Int) ?_;have Q:A[k][j]?=some A[k][j]:=A01 f;have X:=A09 f;have Z:=hT _ m _ X;have cb:=(A[k][j]).den_pos;obtain⟨bq,ck,c6,rfl,b4,a9⟩:=(f6.mono l9).lp.at Q;obtain⟨x1,x2,x3,x4,x5,x6,x7,x8,rfl⟩:=a9.opn;refine G.N A[k].length c7 f b4<|G.c call189 (Sk a9) ?_;intro cp bk t au;obtain⟨br,bm,cg,bw,rfl⟩:=au.opn;refine G.c call190 (M1 ((T.mono (((l3.trans U).trans l9).trans t)).1) au (A04 (ab _ T.2.2) oV) (A04 (Bd Z.den) oV) oV) ?_;rintro bl cm ah ⟨cq,cr,rfl,af,bj⟩;obtain⟨bs,bn,ch,bx,rfl⟩:=af.opn;obtain⟨bt,bo,ci,bz,rfl⟩:=bj.opn;refine G.c call191 (Ael (a9.mono (t.trans ah))) ?_;intro cs cn ai av;obtain⟨bu,bp,cj,c0,rfl⟩:=av.opn;have be:((D:Int)/(A[k][j].den:Int))=((D/A[k][j].den:Nat):Int):=by push_cast;rfl
   rw[be]at af;refine G.c call126 (Ea av (af.mono ai) (A04 (Bd Z.1) oV) (by rw[A1s];exact A04 (Tk _ _) (A04 (ab _ T.2.2) oV))) ?_;intro ct co ax aw;obtain⟨ak,aj,ay,al,rfl⟩:=aw.opn;refine G.a g8 0 A[k].length A[k].length j 2 f<|G.storeA 2 m5 _ g8 A[k].length A[k].length j (.agg #[.bool ak,.slice aj ay al]) kV V gV rfl rfl ?_;intro ce a6;rw[Afh oV f]at a6;refine G.i j<|G.b (ao (j+1,done++[.agg #[.bool ak,.slice aj ay al]]) _ _ _ cV ((((l9.trans t).trans ah).trans ai).trans ax) ⟨dV,?_,a6⟩ dV);dsimp only;rw[A1n,Q,Bp,A1i];exact (K.mono (fun _ _ h=>h.mono (((t.trans ah).trans ai).trans ax))).snoc aw
  have:j=A[k].length:=oV;subst this;rw[A15]at K;rw[A4i,A42,A1x]at V;refine G.lF (A[k].length:Int) (A[k].length:Int)<|G.give m5 done _ kV V (fun _=>.inl rfl) ?_;intro cl ag ap;refine G.B 190 1 24 zN [zG g8 A[k].length A[k].length] (B5 _ _ _) ?_;intro b3 bk t b2;refine G.append 190 1 24 zN PH.mt cv [zG g8 A[k].length A[k].length] (.slice a5 n5 c5) b3 0 1 1 kV rfl rfl oV aa b2 (B5 _ _ _) rfl oV oV oV ?_;intro bl cd a0;obtain⟨az,b0,rfl⟩:=a0.shape;refine G.i k<|G.b (I (k+1,cv++[zG g8 A[k].length A[k].length],(az,(cv++[Value.slice (zA g8) A[k].length A[k].length]).length,b0)) _ _ _ cV (((U.trans l9).trans ag).trans t) ⟨dV,?_,a0⟩ dV);dsimp only;rw[A1n,C,A1i];exact (hN.mono (fun _ _ h=>h.mono ((l9.trans ag).trans t))).snoc (x:=Bp D A[k]) ⟨done,ap.mono t,K.mono (fun _ _ h=>h.mono (ag.trans t))⟩
 have:k=A.length:=oV;subst this;rw[A15]at hN;refine G.lF A.length A.length<|G.give PH.mt cv _ kV aa (fun _=>.inl rfl) ?_;intro u6 l6 bb;exact G.r (.agg #[.bool db,.slice da dn dc,.slice a5 n5 c5]) ⟨rfl,D,T.2.1,T.2.2,W,db,da,dn,dc,a5,n5,c5,rfl,(T.mono ((l3.trans U).trans l6)).1,cv,bb,hN.mono (fun _ _ h=>h.mono l6)⟩
end
def Nl.opn {u:PH}{v:Value}{cs:List (List Int)}(h:Nl u v cs):∃ a c,v=.slice a cs.length c:=LP.opn h
def Y6.opn {u:PH}{v:Value}{cs:List Int}(h:Y6 u v cs):∃ a c,v=.slice a cs.length c:=LP.opn h
theorem Atd {u:PH}{v:Value}{D K:Nat}{cs:List (List Int)}(ht:Hx u)(h:Ayt u v D cs)(hK:K<=400)(hD:Lib.nDigits D<=K)(hc:∀ r∈cs,∀ z∈r,Lib.nDigits z.natAbs<=K)(hl:cs.length<=1000000)(hl2:∀ r∈cs,r.length<=1000000) :
 zF 187 [v] u fun v' _=>∃ n:Nat,v'=zI (n:Int)/\n<=K:=by
 obtain⟨b,a,n,c,a',n',c',rfl,h1,h2⟩:=h;obtain⟨a'',c'',e⟩:=h2.opn;simp only[Value.slice.injEq]at e;obtain⟨rfl,rfl,rfl⟩:=e;refine Fn0.o func187 ?_;refine G.c call142 (M7 ht h1 (by rw[A1s];exact A04 (Bd oV) oV)) ?_;rintro v1 u1 l1 rfl;rw[A1s];refine G.l (ι:=Nat×Nat) (fun i=>[(1,.p 0 0),(3,iV i.2),(12,sV a' cs.length c'),(13,iV cs.length),(14,iV i.1)])
  (fun i=>[(0,⟨187,[bV b,sV a n c,sV a' cs.length c']⟩)])
  (fun i u' m'=>i.1<=cs.length/\i.2<=K/\m'=PH.mt) (fun i=>cs.length-i.1) (0,Lib.nDigits D) ⟨A1t _,hD,rfl⟩ ?_
 rintro J ⟨i,k⟩ hJ u2 m2 l2 ⟨hi,hk,rfl⟩;simp only at hi hk hJ;by_cases hlt:i<cs.length
 ·refine G.lT (i:Int) (cs.length:Int) ?_;have hti:cs[i]?=some cs[i]:=A01 hlt;have hmem:=A09 hlt;obtain⟨b3,o3,e3,rfl,h3,f3⟩:=LP.at (h2.mono (l1.trans l2)) hti;obtain⟨a4,c4,rfl⟩:=f3.opn;refine G.a b3 o3 cs.length c' i 1 hlt ?_;refine G.g none h3 ?_;refine G.l (ι:=Nat×Nat) (fun j=>[(1,.p 0 0),(3,iV j.2),(12,sV (some ⟨b3,o3,none⟩) cs.length c'),(13,iV cs.length),(14,iV i),(18,sV a4 cs[i].length c4),(19,iV (cs[i].length)),(20,iV j.1)])
   (fun j=>[(0,⟨187,[bV b,sV a n c,sV (some ⟨b3,o3,none⟩) cs.length c']⟩)])
   (fun j u' m'=>j.1<=cs[i].length/\j.2<=K/\m'=PH.mt) (fun j=>cs[i].length-j.1) (0,k) ⟨A1t _,hk,rfl⟩ ?_
  rintro J2 ⟨j,k2⟩ hJ2 u5 m5 l5 ⟨hj,hk2,rfl⟩;simp only at hj hk2 hJ2;have hrl:=hl2 _ hmem;by_cases hlt2:j<cs[i].length
  ·refine G.lT (j:Int) (cs[i].length:Int) ?_;have htj:cs[i][j]?=some cs[i][j]:=A01 hlt2;have hzm:=hc _ hmem _ (A09 hlt2);obtain⟨b6,o6,e6,rfl,h6,f6⟩:=LP.at (f3.mono l5) htj;obtain⟨b7,a7,n7,c7,rfl⟩:=f6.opn;refine G.a b6 o6 cs[i].length c4 j 2 hlt2 ?_;refine G.g (some 2) h6 ?_;refine G.c call142 (M7 (ht.mono ((l1.trans l2).trans l5)) f6 (A04 (Bd oV) oV)) ?_;rintro v8 u8 l8 rfl;generalize Lib.nDigits (cs[i][j]).natAbs=d at *
   refine G.maxI [3,3] (k2:Int) (d:Int) ((max k2 d:Nat):Int) kV oV ?_;refine G.i j ?_;exact G.b (hJ2 (j+1,max k2 d) _ _ _ cV (l5.trans l8) ⟨dV,dV,rfl⟩ dV)
  ·refine G.lF (j:Int) (cs[i].length:Int) ?_;refine G.i i ?_;exact G.b (hJ (i+1,k2) _ _ _ cV (l2.trans l5) ⟨dV,hk2,rfl⟩ dV)
 ·refine G.lF (i:Int) (cs.length:Int) ?_;exact G.r (zI (k:Int)) ⟨rfl,k,rfl,hk⟩
def Aie {u:PH}{v:Value}{A:zM}{L K N:Nat}(ht:Hx u)(h:C7 u v (Cv A))(hT:∀ r∈A,∀ q∈r,Tx q)(hl:A.length<=N)(I:∀ r∈A,r.length<=N)(hN:N<=12)(U:N*K<=600)(hK:K<=400)
 (hL:∀ r∈A,∀ q∈r,q.den ∣ L) (R:0<L) (T:nl L<=1000000000) (hD:∀ D:Nat,D ∣ L->0<D->Lib.nDigits D<=K/\∀ r∈A,∀ q∈r,q.den ∣ D->Lib.nDigits (q.num*((D/q.den:Nat):Int)).natAbs<=K) :
 zF 119 [v] u fun v' _=>v'=zL:=by
 have J:=fun (v:Value) (Q:PH) (hv:C7 Q v (Cv A))=>Aut hv hT oV (fun r P=>by have:=I r P;omega) hL R T;obtain⟨a,c,rfl⟩:=h.opn;rw[A3]at h⊢;have t:=fun (Q:PH) (x:Value) (D:Nat) (V:Hx Q) (hx:Ayt Q x D (A.map (Bp D))) (Z:D ∣ L) (h0:0<D) (h2:∀ r∈A,∀ q∈r,q.den ∣ D) =>
  Atd (K:=K) V hx hK (hD D Z h0).1 (fun r P z hz=>by
   obtain⟨j,m,rfl⟩:=A1b.1 P;obtain⟨q,hq,rfl⟩:=A1b.1 hz;exact (hD D Z h0).2 j m q hq (h2 j m q hq)) (by rw[A03];omega) (fun r P=>by
   obtain⟨j,m,rfl⟩:=A1b.1 P;rw[Bp,A03];have:=I j m;omega)
 refine Fn0.o func119 ?_;by_cases C:0<A.length
 ·refine G.gT A.length 0 ?_;have W:A[0]?=some A[0]:=A01 C;have a0:=I _ (A09 C);obtain⟨ba,oa,a',c',rfl,Y,es⟩:=h.row (Dw W);rw[A03]at Y;generalize A[0].length=j at *
  refine G.n A.length c Y<|G.maxI [3,3] (A.length:Int) (j:Int) ((max A.length j:Nat):Int) kV oV<|G.c call120 (J _ _ h) ?_;rintro v1 u1 X ⟨D,E,F,H,e⟩;have f:=e;obtain⟨x1,x2,x3,x4,x5,x6,x7,rfl,_,_⟩:=e;refine G.c call187 (t _ _ D (ht.mono X) f F E H) ?_;rintro v2 u2 l2 ⟨n,rfl,hn⟩;have hm:max A.length j*n<=600:=A04 (A25 (by omega:max A.length j<=N) hn) U;exact G.mul ((max A.length j:Nat):Int) (n:Int) ((max A.length j*n:Nat):Int) kV (by push_cast;rfl) oV oV<|G.gF (max A.length j*n:Nat) 600<|G.z zL
 refine G.gF A.length 0<|G.c call120 (J _ _ h) ?_;rintro v1 u1 X ⟨D,E,F,H,e⟩;have f:=e;obtain⟨x1,x2,x3,x4,x5,x6,x7,rfl,_,_⟩:=e;refine G.c call187 (t _ _ D (ht.mono X) f F E H) ?_;rintro v2 u2 l2 ⟨n,rfl,hn⟩;have h0:A.length=0:=oV;exact G.mul (A.length:Int) (n:Int) 0 kV (by rw[h0];simp) oV oV<|G.gF 0 600<|G.z zL
structure Y5 (A:zM)(L K:Nat):Prop where
 den:∀ r∈A,∀ q∈r,q.den ∣ L
 pos:0<L
 nl:nl L<=1000000000
 dig:∀ D:Nat,D ∣ L->0<D->Lib.nDigits D<=K/\∀ r∈A,∀ q∈r,q.den ∣ D->Lib.nDigits (q.num*((D/q.den:Nat):Int)).natAbs<=K
section
variable [Cl] [Co] [Pu]
structure Arr where
 v:Value
 t:TypeId
 sz:Nat
 es:zV
def Arr.At (a:Arr)(m0 m:PH):Prop:=Af m0 m a.v a.t a.sz a.es
def Bag:PH->List Arr->Prop
 |_,[]=>True
 |m,a::l=>∃ m0,a.At m0 m/\Bag m0 l
def Iq (m:PH){g h:Nat}(o p:Obj)(j:g≠h):(m.upd g o).upd h p=(m.upd h p).upd g o:=by
 funext k
 unfold PH.upd;by_cases e:k=g
 ·subst e;simp[j]
 by_cases f:k=h
 ·subst f;simp[e]
 simp[e,f]
def At.swap {x y:Arr}{m0 m1 m:PH}(V:y.At m1 m)(U:x.At m0 m1):∃ W,y.At m0 W/\x.At W m/\∀ (T:Arr) J,T.At W J->∃ R,y.At R J/\T.At m0 R:=by
 obtain⟨F,V⟩:=V;rcases V with ⟨y1,y2,rfl⟩|⟨h,cap,rest,y1,rfl,y2,y3,y4,K⟩
 ·exact⟨m0,⟨F,.inl ⟨y1,y2,rfl⟩⟩,U,fun T J f=>⟨J,⟨F,.inl ⟨y1,y2,rfl⟩⟩,f⟩⟩
 obtain⟨ox,U⟩:=U;rcases U with ⟨X,Y,rfl⟩|⟨g,L,H,X,rfl,Y,x3,x4,x5⟩
 ·refine⟨_,⟨F,.inr ⟨h,cap,rest,y1,rfl,y2,y3,y4,K⟩⟩,⟨ox,.inl ⟨X,Y,rfl⟩⟩,fun T J f=>?_⟩;obtain⟨E,f⟩:=f;rcases f with ⟨C,I,rfl⟩|⟨Q,t,j,C,rfl,I,Z,z4,z5⟩
  ·exact⟨_,⟨F,.inr ⟨h,cap,rest,y1,rfl,y2,y3,y4,K⟩⟩,⟨E,.inl ⟨C,I,rfl⟩⟩⟩
  have A:Q≠h:=fun e=>by subst e;rw[Ab]at C;cases C
  rw[Ad _ _ A]at C;refine⟨_,⟨F,.inr ⟨h,cap,rest,?_,Iq _ _ _ A.symm,y2,y3,y4,K⟩⟩,⟨E,.inr ⟨Q,t,j,C,rfl,I,Z,z4,z5⟩⟩⟩;rw[Ad _ _ A.symm];exact y1
 have A:h≠g:=fun e=>by subst e;rw[Ab]at y1;cases y1
 rw[Ad _ _ A]at y1;refine⟨_,⟨F,.inr ⟨h,cap,rest,y1,rfl,y2,y3,y4,K⟩⟩,⟨ox,.inr ⟨g,L,H,?_,Iq _ _ _ A.symm,Y,x3,x4,x5⟩⟩,fun T J f=>?_⟩
 ·rw[Ad _ _ A.symm];exact X
 obtain⟨E,f⟩:=f;rcases f with ⟨C,I,rfl⟩|⟨Q,t,j,C,rfl,I,Z,z4,z5⟩
 ·exact⟨_,⟨F,.inr ⟨h,cap,rest,y1,rfl,y2,y3,y4,K⟩⟩,⟨E,.inl ⟨C,I,rfl⟩⟩⟩
 have D:Q≠h:=fun e=>by subst e;rw[Ab]at C;cases C
 rw[Ad _ _ D]at C;refine⟨_,⟨F,.inr ⟨h,cap,rest,?_,Iq _ _ _ D.symm,y2,y3,y4,K⟩⟩,⟨E,.inr ⟨Q,t,j,C,rfl,I,Z,z4,z5⟩⟩⟩;rw[Ad _ _ D.symm];exact y1
def Bag.focus:∀ {l:List Arr} {m:PH} (_:Bag m l) (i:Nat) {x:Arr},l[i]?=some x->∃ m0,x.At m0 m/\∀ (f:Arr) j,f.At m0 j->Bag j (l.set i f)
 |[],m,_,i,x,hi=>by simp at hi
 |y::l,m,⟨m1,hy,hl⟩,0,x,hi=>by
  simp at hi;subst hi;exact⟨m1,hy,fun f j e=>⟨m1,e,hl⟩⟩
 |y::l,m,⟨m1,hy,hl⟩,i+1,x,hi=>by
  simp at hi;obtain⟨m0,D,h⟩:=Bag.focus hl i hi;obtain⟨I,E,A,C⟩:=At.swap hy D;refine⟨I,A,fun f j e=>?_⟩;obtain⟨t,F,H⟩:=C f j e;exact⟨t,F,h f t H⟩
def Bag.take:∀ {l:List Arr} {m:PH} (_:Bag m l) (i:Nat) {x:Arr},l[i]?=some x->∃ m0,x.At m0 m/\Bag m0 (l.eraseIdx i)
 |[],m,_,i,x,hi=>by simp at hi
 |y::l,m,⟨m1,hy,hl⟩,0,x,hi=>by
  simp at hi;subst hi;exact⟨m1,hy,hl⟩
 |y::l,m,⟨m1,hy,hl⟩,i+1,x,hi=>by
  simp at hi;obtain⟨m0,j,e⟩:=Bag.take hl i hi;obtain⟨t,h,f,A⟩:=At.swap hy j;exact⟨t,f,m0,h,e⟩
def Bag.el {l:List Arr}{m:PH}(h:Bag m l)(i:Nat){x:Arr}(hi:l[i]?=some x){b n c j:Nat}{e:Value}(A:x.v=zG b n c)(t:x.es[j]?=some e):ElP m b (0+j*x.sz) e:=by
 obtain⟨m0,f,_⟩:=h.focus i hi;unfold Arr.At at f;rw[A]at f;exact f.el t
def Bag.shape {l:List Arr}{m:PH}(h:Bag m l)(i:Nat){x:Arr}(hi:l[i]?=some x):∃ a c,x.v=.slice a x.es.length c:=by
 obtain⟨m0,e,_⟩:=h.focus i hi;exact e.shape
def Bag.ptr {l:List Arr}{m:PH}(h:Bag m l)(i:Nat){x:Arr}(hi:l[i]?=some x)(e:x.es≠[]):∃ b c,x.v=zG b x.es.length c:=by
 obtain⟨m0,f,_⟩:=h.focus i hi;exact f.ptr e
def Af.join {m mc:PH}{v:Value}{t:TypeId}{sz:Nat}{es:zV}(h:Af PH.mt mc v t sz es)(I:∀ g,mc g≠none->m g=none):Af m (m.or mc) v t sz es:=by
 obtain⟨D,h⟩:=h;rcases h with ⟨A,f,rfl⟩|⟨g,cap,rest,A,rfl,f,E,F,H⟩
 ·refine⟨D,.inl ⟨A,f,?_⟩⟩
  funext k;unfold PH.or;split
  ·rename_i o e;rw[e]
  rename_i e;rw[e];rfl
 have C:m g=none:=I g (by rw[Ab];simp);refine⟨D,.inr ⟨g,cap,rest,C,?_,f,E,F,H⟩⟩
 funext k
 by_cases j:k=g
 ·subst j;rw[Ab,PH.or_r C,Ab]
 rw[Ad _ _ j];unfold PH.or;split
 ·rename_i o e;rw[e]
 rename_i e;rw[e,Ad _ _ j];rfl
section rules
variable {P:Program} [A6 P] {fn:Func} {Post:Ce} {st:List KI×S} {u m:PH}
def G.callO (f:Nat)(args:zV){R:Value->PH->PH->Prop}(h:Aj P (adv P st)=.call f args)(Z:∀ args w,(callFunc f args).run P w=.ok (.enter f args) w)(c:Ag P f args u PH.mt R)
 (k:∀ v j mc,PH.le u j->R v j mc->(∀ g,mc g≠none->m g=none)->G P fn Post (nx (adv P st) v) j (m.or mc)):G P fn Post st u m:=by
 refine G.big (K:=fun v j I=>∃ mc,I=m.or mc/\R v j mc/\∀ g,mc g≠none->m g=none) h mV Dv (.inl fun v j I X=>?_) (fun U o A w t=>?_) (fun v j I V W=>?_)
 ·obtain⟨mc,rfl,_⟩:=X;exact fun g o E=>PH.or_l E
 ·refine Hq A Z w _ (Calls.mono (c w t.noM) fun e w' he=>?_);obtain⟨v,j,mc,L,Q,J,T⟩:=he;have C:m.or PH.mt=m:=by
   funext g;unfold PH.or;split
   ·rename_i o e;rw[e]
   rename_i e;rw[e];rfl
  have D:∀ g,mc g≠none->m g=none:=fun g E=>by
   rcases A2e g w.heap.size with H|F
   ·exact absurd (J.ms g H rfl) E
   exact t.pm.none F
  obtain⟨g1,g2⟩:=Bv.frameM (mf:=m) (mc:=PH.mt) (by rw[C];exact t) (fun _=>.inr rfl) Q J;rw[C]at g2;exact⟨v,L,j,m.or mc,g1,g2,mc,rfl,T,D⟩
 obtain⟨mc,rfl,Y,hf⟩:=W;exact k v j mc V Y hf
def Abj {e:Operand->Value}{o:Op}{ts:List TypeId}{xs:zV}(h:Bc P e o=.blt .copy ts xs):Nk o=true/\Fa o=false:=by
 obtain⟨c,rfl,f,_⟩:=Rb h;obtain⟨j,a,t⟩:=c;simp only at f;subst f;exact⟨rfl,rfl⟩
def G.copyM (U sT e:TypeId)(sz g o n c:Nat)(a:Addr)(J sc:Nat)(t:TypeId)(f cs:zV)(h:Aj P (adv P st)=.blt .copy [U,sT] [.slice (some ⟨g,o,none⟩) n c,.slice (some a) J sc])
 (hu:P.underlying U=some (.slice e)) (Z:szB P e=some sz) (hb:m g=some (.cells f.toArray t (0,0))) (Y:cs.length=Nat.min J n*sz)
 (R:∀ w,Fj u w->Fj m w->∀ (j:Nat) (v:Value),cs[j]?=some v->w.cell? (a.add j)=some v) (L:o+cs.length<=f.length) (h1:∀ x∈cs,Ax x=true) (h2:∀ x∈f,Ax x=true)
 (k:G P fn Post (nx (adv P st) (zI (Nat.min J n:Nat))) u (m.upd g (.cells (f.take o++cs++f.drop (o+cs.length)).toArray t (0,0)))):G P fn Post st u m:=by
 refine G.big (K:=fun v' u' m'=>u'=u/\v'=zI (Nat.min J n:Nat)/\m'=m.upd g (.cells (f.take o++cs++f.drop (o+cs.length)).toArray t (0,0))) h mV (fun E op hv=>(Abj hv).2) (.inr fun E op hv=>(Abj hv).1) (fun E op I w C=>?_) (fun v' u' m' _ Y=>?_)
 ·obtain⟨cc,e1,e2,e3,e4⟩:=Rb I;obtain⟨V,a1,D,pos,after,F⟩:=op;obtain⟨a0,ar,ty⟩:=cc;simp only at e1 e2 e3 e4;subst e1 e2 e3;have X:=C.pm g _ hb;have hl:=run_loadCells_list (P:=P) w a cs (R w C.pu C.pm);have T:=run_storeCells_at P g o t cs 0 f.toArray w X (by simpa using L) (fun x A=>Gl (h1 x A));have Q:(Builtin.copy_ #[U,sT] D #[.slice (some ⟨g,o,none⟩) n c,.slice (some a) J sc]).run P w=.ok (zI (Nat.min J n:Nat)) (w.setRow g (f.take o++cs++f.drop (o+cs.length)).toArray):=by
   simp only[A3s,A3t]at T;simp[Builtin.copy_,run_underlying hu,Builtin.lenOf,Builtin.firstCells,Bf Z,<-Y,hl];rw[T];simp[goInt]
  have H:∀ x∈(f.take o++cs++f.drop (o+cs.length)).toArray.toList,Ax x=true:=by
   intro x A;simp only[A3t,A1h]at A;rcases A with (A|A)|A
   ·exact h2 x (A27 A)
   ·exact h1 x A
   exact h2 x (A3x A)
  obtain⟨g1,g2⟩:=C.setM hb H;unfold Eg;have W:(execOp E ⟨V,.call ⟨.builtin .copy,ar,#[U,sT]⟩,D,pos,after,F⟩).run P w=.ok (.value (zI (Nat.min J n:Nat))) (w.setRow g (f.take o++cs++f.drop (o+cs.length)).toArray):=by
   simp[execOp,resolve,invoke,builtin,e4,Q]
  rw[W];exact⟨u,_,g1,g2,rfl,rfl,rfl⟩
 obtain⟨rfl,rfl,rfl⟩:=Y;exact k
end rules
end
end Go.Proofs.YtemmheaocgmebaaGreatDoor
