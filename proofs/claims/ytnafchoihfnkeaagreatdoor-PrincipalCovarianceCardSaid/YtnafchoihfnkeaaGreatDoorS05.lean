/- Parts of one proof, joined by a program. -/
import Derived.Test.YtnafchoihfnkeaaGreatDoorS04
import Derived.Shelf.Strings.Builder1
import Derived.Shelf.Strings.Builder2
import Derived.Shelf.Small.Bits
import Derived.Shelf.Small.Wraps
import Derived.Shelf.Strings.BuilderF
import Derived.Shelf.Strings.BuilderK
import Derived.Shelf.Strings.Builder2Cap
import Derived.Shelf.Strconv.Itoa0
import Derived.Shelf.Strconv.Itoa1
import Derived.Shelf.LaysM
import Derived.Shelf.Strconv.Itoa2
import Derived.Shelf.Strconv.Itoa3
import Derived.Shelf.Strconv.Lower
import Derived.Shelf.Strconv.ParseUint10
import Derived.Shelf.Strconv.ParseUintEmpty
import Derived.Shelf.Strconv.ParseUint10b64
import Derived.Shelf.Strconv.ParseUint10b32
import Derived.Shelf.Strconv.ParseUint10b16
import Derived.Shelf.Strconv.ParseUint10b8
import Derived.Shelf.Strconv.ParseUint10At
import Derived.Ground.MpProg
import Derived.Shelf.Pu.ParseUintPublic10
import Derived.Shelf.Strings.Search1
import Derived.Shelf.Strings.Search2
import Derived.Shelf.Strings.Cut
import Derived.Shelf.Strings.Shaped
import Derived.Shelf.Strings.Prefix
import Derived.Shelf.Bits.Mul64
import Derived.Shelf.Strings.Repeat
import Derived.Shelf.Strings.BuilderCap
import Derived.Test.YtnafchoihfnkeaaGreatDoorProg
import Derived.Lib.AppendIntMem
import Derived.Lib.AtoiErrMem
import Derived.Lib.ConvBytes
set_option linter.defProp false
set_option linter.unusedVariables false
set_option linter.unusedSimpArgs false
set_option linter.unusedSectionVars false
set_option maxHeartbeats 16000000
namespace Go.Proofs.YtnafchoihfnkeaaGreatDoor
open Go.Proofs.Tryz
open Go.RowKit
open _root_.Array renaming getElem?_eq_none -> Awu, size_replicate -> Ayw
open Below renaming block -> Azr, cell -> Azf, mono -> Axj, refl -> Az2, trans -> Av0
open Instr renaming sliceAt -> Axs
open Lib renaming BuilderAt -> A3k, IsBuilder -> A3j, TabIs -> A2b, add_plain -> A3l, bytesCells -> Ax0, bytesWorld_at_old -> A1p, bytesWorld_size -> A13, cell_of_heap -> Azy, decDigits -> Au9, decDigits_length -> Awb, hid -> As8, indexByte -> Ayd, itoa -> Atn, nDigits -> Aua, nDigits_small -> Axe, pow10Tab -> A05, size_mk -> Axl, strCells -> A3u, trimPrefix -> A3c, zeros24 -> A0n
open List renaming append_assoc -> Au1, append_nil -> Auu, getElem?_append_left -> Atl, getElem?_append_right -> At1, getElem?_eq_getElem -> As5, getElem?_eq_none -> Att, getElem_mem -> Ath, isPrefixOf -> A25, length_append -> Atg, length_map -> Ata, length_replicate -> Aur, length_take -> Atm, map_append -> Atk, mem_map -> Ate, replicate -> As6, reverse_append -> A0c, take_add_one -> At0, take_length -> At9, take_of_length_le -> Atp, toList_toArray -> Av4
open Nat renaming beq -> Auy, div_div_eq_div_mul -> Awy, div_eq_of_lt -> Aw1, eq_of_beq_eq_true -> Aug, eq_zero_or_pos -> At5, gcd -> Auw, le_refl -> Atb, le_trans -> As9, lt_of_le_of_lt -> Aum, lt_of_lt_of_le -> Auf, lt_or_ge -> At8, mul_comm -> At7, pow_add -> Aww, pow_le_pow_right -> Atq, pow_lt_pow_iff_right -> Azc, pow_pos -> Aym, pow_succ -> Auc
open Option renaming map_eq_some_iff -> Axk, some.injEq -> Atd
open Result renaming andThen -> Azg, andThen_ok -> Atf
open Sem renaming run_bind -> At4, run_pure -> Avt
open Value renaming agg -> A2c, bool -> Ayi, cells -> Atw, int -> Auj, pointer -> A0s, slice -> Au8, slice.injEq -> Atr
open World renaming cell?_alloc_new -> Ayp
end Go.Proofs.YtnafchoihfnkeaaGreatDoor
section
namespace Go.Proofs
open Go.Shelf
def Tryz.lays169_ren:Go.Shelf.Ren:=⟨fun|169=>213|n=>n,fun|70=>274|9=>9|0=>0|72=>276|37=>217|127=>301|3=>3|5=>5|n=>n,fun|n=>n⟩
theorem Tryz.lays169:Go.Proofs.Lays.n169 Tryz.prog Tryz.lays169_ren:={
 mixed:=by kernel_rfl
 f169:=Tryz.func213.trans (congrArg some (by kernel_rfl))
 t0:=Tryz.underlying0
 a0:=Tryz.isAgg0
 z0:=Tryz.sizeOf0
 v0:=Tryz.zeroValue0
 t3:=Tryz.underlying3
 a3:=Tryz.isAgg3
 z3:=Tryz.sizeOf3
 v3:=Tryz.zeroValue3
 t9:=Tryz.underlying9
 a9:=Tryz.isAgg9
 z9:=Tryz.sizeOf9
 v9:=Tryz.zeroValue9
 t37:=Tryz.underlying217
 a37:=Tryz.isAgg217
 z37:=Tryz.sizeOf217
 v37:=Tryz.zeroValue217
 t70:=Tryz.underlying274
 a70:=Tryz.isAgg274
 z70:=Tryz.sizeOf274
 v70:=Tryz.zeroValue274
 t72:=Tryz.underlying276
 a72:=Tryz.isAgg276
 z72:=Tryz.sizeOf276
 v72:=Tryz.zeroValue276
 t127:=Tryz.underlying301
 a127:=Tryz.isAgg301
 z127:=Tryz.sizeOf301
 v127:=Tryz.zeroValue301 }
theorem Tryz.Builder_Extra_169:Builder.Extra Tryz.prog Tryz.lays169_ren:={
 sizeBuilder:=by kernel_rfl
 liesBuilder:=by kernel_rfl
 t5:=Tryz.underlying5
 a5:=Tryz.isAgg5
 z5:=Tryz.sizeOf5
 v5:=Tryz.zeroValue5
 infoByte:=by kernel_rfl
 cellsByte:=by kernel_rfl
 sizeByte:=by kernel_rfl
 neB5:=by decide }
open Go.RowKit in
theorem Tryz.Builder_String (B b:Nat)(l:List UInt8)(w:World)(h:Lib.IsBuilder 276 5 B b (Lib.byteCells l) w)(h0:l≠[]) :
 Calls Tryz.prog 213 #[.pointer (some ⟨b,0,none⟩)] w fun e w'=>e=.returned (.string ⟨l.toArray⟩)/\Below B w w':=Any.Builder_String Tryz.lays169 Tryz.Builder_Extra_169 B b l w h h0
def Tryz.lays210_ren:Go.Shelf.Ren:=⟨fun|210=>216|206=>245|n=>n,fun|9=>9|4=>4|3=>3|n=>n,fun|n=>n⟩
def Tryz.lays103_ren:Go.Shelf.Ren:=⟨fun|103=>170|210=>216|206=>245|n=>n,fun|9=>9|4=>4|24=>239|3=>3|n=>n,fun|n=>n⟩
theorem Tryz.lays103:Go.Proofs.Lays.n103 Tryz.prog Tryz.lays103_ren:={
 mixed:=by kernel_rfl
 f103:=Tryz.func170.trans (congrArg some (by kernel_rfl))
 f206:=Tryz.func245.trans (congrArg some (by kernel_rfl))
 f210:=Tryz.func216.trans (congrArg some (by kernel_rfl))
 t3:=Tryz.underlying3
 a3:=Tryz.isAgg3
 z3:=Tryz.sizeOf3
 v3:=Tryz.zeroValue3
 t4:=Tryz.underlying4
 a4:=Tryz.isAgg4
 z4:=Tryz.sizeOf4
 v4:=Tryz.zeroValue4
 t9:=Tryz.underlying9
 a9:=Tryz.isAgg9
 z9:=Tryz.sizeOf9
 v9:=Tryz.zeroValue9
 t24:=Tryz.underlying239
 a24:=Tryz.isAgg239
 z24:=Tryz.sizeOf239
 v24:=Tryz.zeroValue239 }
open Go.RowKit in
theorem Tryz.strings_CutPrefix (s p:ByteArray)(w:World) :
 Calls Tryz.prog 170 #[.string s,.string p] w fun e w'=>e=.returned (.tuple #[.string ⟨(Lib.trimPrefix s.data.toList p.data.toList).toArray⟩,.bool (Lib.hasPrefix s.data.toList p.data.toList)])/\w'=w:=Any.strings_CutPrefix Tryz.lays103 s p w
def Tryz.lays283_ren:Go.Shelf.Ren:=⟨fun|283=>233|n=>n,fun|3=>3|9=>9|4=>4|n=>n,fun|n=>n⟩
theorem Tryz.lays283:Go.Proofs.Lays.n283 Tryz.prog Tryz.lays283_ren:={
 mixed:=by kernel_rfl
 f283:=Tryz.func233.trans (congrArg some (by kernel_rfl))
 t3:=Tryz.underlying3
 a3:=Tryz.isAgg3
 z3:=Tryz.sizeOf3
 v3:=Tryz.zeroValue3
 t4:=Tryz.underlying4
 a4:=Tryz.isAgg4
 z4:=Tryz.sizeOf4
 v4:=Tryz.zeroValue4
 t9:=Tryz.underlying9
 a9:=Tryz.isAgg9
 z9:=Tryz.sizeOf9
 v9:=Tryz.zeroValue9 }
open Go.Lib in
theorem Tryz.internal_strconv_small (i:Nat)(h:i<100)(w:World) :
 Calls Tryz.prog 233 #[.int .i64 i] w fun e w'=>e=.returned (.string ⟨(Lib.decDigits i).toArray⟩)/\w'=w:=Any.internal_strconv_small Tryz.lays283 i h w
def Tryz.laysM284_ren:Go.Shelf.Ren:=⟨fun|284=>234|129=>206|317=>254|318=>255|n=>n,fun|53=>236|3=>3|212=>312|0=>0|4=>4|46=>197|5=>5|9=>9|n=>n,fun|17=>1|n=>n⟩
theorem Tryz.laysM284:Go.Proofs.LaysM.n284 Tryz.prog Tryz.laysM284_ren:={
 mixed:=by kernel_rfl
 f129:=Tryz.func206.trans (congrArg some (by kernel_rfl))
 f284:=Tryz.func234.trans (congrArg some (by kernel_rfl))
 f317:=Tryz.func254.trans (congrArg some (by kernel_rfl))
 f318:=Tryz.func255.trans (congrArg some (by kernel_rfl))
 t0:=Tryz.underlying0
 a0:=Tryz.isAgg0
 z0:=Tryz.sizeOf0
 v0:=Tryz.zeroValue0
 t3:=Tryz.underlying3
 a3:=Tryz.isAgg3
 z3:=Tryz.sizeOf3
 v3:=Tryz.zeroValue3
 t4:=Tryz.underlying4
 a4:=Tryz.isAgg4
 z4:=Tryz.sizeOf4
 v4:=Tryz.zeroValue4
 t5:=Tryz.underlying5
 a5:=Tryz.isAgg5
 z5:=Tryz.sizeOf5
 v5:=Tryz.zeroValue5
 t9:=Tryz.underlying9
 a9:=Tryz.isAgg9
 z9:=Tryz.sizeOf9
 v9:=Tryz.zeroValue9
 t46:=Tryz.underlying197
 a46:=Tryz.isAgg197
 z46:=Tryz.sizeOf197
 v46:=Tryz.zeroValue197
 t53:=Tryz.underlying236
 a53:=Tryz.isAgg236
 z53:=Tryz.sizeOf236
 v53:=Tryz.zeroValue236
 t212:=Tryz.underlying312
 a212:=Tryz.isAgg312
 z212:=Tryz.sizeOf312
 v212:=Tryz.zeroValue312
 g17:=by kernel_rfl
 i0:=by kernel_rfl
 i3:=by kernel_rfl
 i4:=by kernel_rfl
 i5:=by kernel_rfl
 i9:=by kernel_rfl
 i46:=by kernel_rfl
 i53:=by kernel_rfl
 i212:=by kernel_rfl
 m17:=by kernel_rfl }
open Go.Lib in
theorem Tryz.internal_strconv_numDigits (u:Nat)(h1:1<=u)(h2:u<18446744073709551616)(w:World)(htab:Lib.TabIs Tryz.prog w "internal/strconv.uint64pow10" .u64 Lib.pow10Tab) :
 Calls Tryz.prog 234 #[.int .u64 u] w fun e w'=>e=.returned (.int .i64 (Lib.nDigits u))/\w'=w:=Any.internal_strconv_numDigits Tryz.laysM284 u h1 h2 w htab
def Tryz.lays285_ren:Go.Shelf.Ren:=⟨fun|285=>235|n=>n,fun|37=>217|53=>236|3=>3|4=>4|51=>247|9=>9|5=>5|0=>0|n=>n,fun|n=>n⟩
theorem Tryz.lays285:Go.Proofs.Lays.n285 Tryz.prog Tryz.lays285_ren:={
 mixed:=by kernel_rfl
 f285:=Tryz.func235.trans (congrArg some (by kernel_rfl))
 t0:=Tryz.underlying0
 a0:=Tryz.isAgg0
 z0:=Tryz.sizeOf0
 v0:=Tryz.zeroValue0
 t3:=Tryz.underlying3
 a3:=Tryz.isAgg3
 z3:=Tryz.sizeOf3
 v3:=Tryz.zeroValue3
 t4:=Tryz.underlying4
 a4:=Tryz.isAgg4
 z4:=Tryz.sizeOf4
 v4:=Tryz.zeroValue4
 t5:=Tryz.underlying5
 a5:=Tryz.isAgg5
 z5:=Tryz.sizeOf5
 v5:=Tryz.zeroValue5
 t9:=Tryz.underlying9
 a9:=Tryz.isAgg9
 z9:=Tryz.sizeOf9
 v9:=Tryz.zeroValue9
 t37:=Tryz.underlying217
 a37:=Tryz.isAgg217
 z37:=Tryz.sizeOf217
 v37:=Tryz.zeroValue217
 t51:=Tryz.underlying247
 a51:=Tryz.isAgg247
 z51:=Tryz.sizeOf247
 v51:=Tryz.zeroValue247
 t53:=Tryz.underlying236
 a53:=Tryz.isAgg236
 z53:=Tryz.sizeOf236
 v53:=Tryz.zeroValue236 }
open Go.RowKit Go.Sort Go.Lib in
theorem Tryz.internal_strconv_formatBase10 (blk off cap:Nat)(u:Nat)(d:Array UInt8)(w:World)(hH:Holds (fun (b:UInt8)=>Value.int .u8 (b.toNat:Int)) w blk off d)(hu:u<10^d.size)(hu64:u<18446744073709551616)(hsz:d.size<4611686018427387904) :
 Calls Tryz.prog 235 #[.slice (some ⟨blk,off,none⟩) d.size cap,.int .u64 u] w fun e w' =>
  e=.returned (.tuple #[])/\∃ (n v':Nat) (dk:Array UInt8),w'=(putRow (fun (b:UInt8)=>Value.int .u8 (b.toNat:Int)) w blk off dk).drewN n/\FmtInv d.size u 0 v' dk:=Any.internal_strconv_formatBase10 Tryz.lays285 blk off cap u d w hH hu hu64 hsz
def Tryz.laysPu14_ren:Go.Shelf.Ren:=⟨fun|14=>171|16=>217|17=>218|19=>246|20=>247|21=>248|22=>249|23=>250|24=>251|25=>262|27=>264|26=>263|28=>268|29=>269|30=>233|31=>234|32=>235|33=>236|35=>206|34=>254|36=>255|37=>256|38=>257|39=>265|40=>266|n=>n,fun|9=>9|3=>3|22=>236|24=>242|25=>243|4=>4|34=>303|5=>5|36=>197|37=>217|0=>0|39=>305|21=>21|44=>319|47=>301|50=>324|48=>322|2=>2|52=>295|55=>297|59=>312|60=>247|20=>20|61=>313|65=>325|66=>326|67=>211|n=>n,fun|0=>2|1=>3|2=>1|3=>4|4=>5|n=>n⟩
theorem Tryz.laysPu14:Go.Proofs.LaysPu.n14 Tryz.prog Tryz.laysPu14_ren:={
 mixed:=by kernel_rfl
 f14:=Tryz.func171.trans (congrArg some (by kernel_rfl))
 f16:=Tryz.func217.trans (congrArg some (by kernel_rfl))
 f17:=Tryz.func218.trans (congrArg some (by kernel_rfl))
 f19:=Tryz.func246.trans (congrArg some (by kernel_rfl))
 f20:=Tryz.func247.trans (congrArg some (by kernel_rfl))
 f21:=Tryz.func248.trans (congrArg some (by kernel_rfl))
 f22:=Tryz.func249.trans (congrArg some (by kernel_rfl))
 f23:=Tryz.func250.trans (congrArg some (by kernel_rfl))
 f24:=Tryz.func251.trans (congrArg some (by kernel_rfl))
 f25:=Tryz.func262.trans (congrArg some (by kernel_rfl))
 f26:=Tryz.func263.trans (congrArg some (by kernel_rfl))
 f27:=Tryz.func264.trans (congrArg some (by kernel_rfl))
 f28:=Tryz.func268.trans (congrArg some (by kernel_rfl))
 f29:=Tryz.func269.trans (congrArg some (by kernel_rfl))
 f30:=Tryz.func233.trans (congrArg some (by kernel_rfl))
 f31:=Tryz.func234.trans (congrArg some (by kernel_rfl))
 f32:=Tryz.func235.trans (congrArg some (by kernel_rfl))
 f33:=Tryz.func236.trans (congrArg some (by kernel_rfl))
 f34:=Tryz.func254.trans (congrArg some (by kernel_rfl))
 f35:=Tryz.func206.trans (congrArg some (by kernel_rfl))
 f36:=Tryz.func255.trans (congrArg some (by kernel_rfl))
 f37:=Tryz.func256.trans (congrArg some (by kernel_rfl))
 f38:=Tryz.func257.trans (congrArg some (by kernel_rfl))
 f39:=Tryz.func265.trans (congrArg some (by kernel_rfl))
 f40:=Tryz.func266.trans (congrArg some (by kernel_rfl))
 t0:=Tryz.underlying0
 a0:=Tryz.isAgg0
 z0:=Tryz.sizeOf0
 v0:=Tryz.zeroValue0
 i0:=by kernel_rfl
 t2:=Tryz.underlying2
 a2:=Tryz.isAgg2
 z2:=Tryz.sizeOf2
 v2:=Tryz.zeroValue2
 i2:=by kernel_rfl
 t3:=Tryz.underlying3
 a3:=Tryz.isAgg3
 z3:=Tryz.sizeOf3
 v3:=Tryz.zeroValue3
 i3:=by kernel_rfl
 t4:=Tryz.underlying4
 a4:=Tryz.isAgg4
 z4:=Tryz.sizeOf4
 v4:=Tryz.zeroValue4
 i4:=by kernel_rfl
 t5:=Tryz.underlying5
 a5:=Tryz.isAgg5
 z5:=Tryz.sizeOf5
 v5:=Tryz.zeroValue5
 i5:=by kernel_rfl
 t9:=Tryz.underlying9
 a9:=Tryz.isAgg9
 z9:=Tryz.sizeOf9
 v9:=Tryz.zeroValue9
 i9:=by kernel_rfl
 t20:=Tryz.underlying20
 a20:=Tryz.isAgg20
 z20:=Tryz.sizeOf20
 v20:=Tryz.zeroValue20
 i20:=by kernel_rfl
 t21:=Tryz.underlying21
 a21:=Tryz.isAgg21
 z21:=Tryz.sizeOf21
 v21:=Tryz.zeroValue21
 i21:=by kernel_rfl
 t22:=Tryz.underlying236
 a22:=Tryz.isAgg236
 z22:=Tryz.sizeOf236
 v22:=Tryz.zeroValue236
 i22:=by kernel_rfl
 t24:=Tryz.underlying242
 a24:=Tryz.isAgg242
 z24:=Tryz.sizeOf242
 v24:=Tryz.zeroValue242
 i24:=by kernel_rfl
 t25:=Tryz.underlying243
 a25:=Tryz.isAgg243
 z25:=Tryz.sizeOf243
 v25:=Tryz.zeroValue243
 i25:=by kernel_rfl
 t34:=Tryz.underlying303
 a34:=Tryz.isAgg303
 z34:=Tryz.sizeOf303
 v34:=Tryz.zeroValue303
 i34:=by kernel_rfl
 c34:=by kernel_rfl
 t36:=Tryz.underlying197
 a36:=Tryz.isAgg197
 z36:=Tryz.sizeOf197
 v36:=Tryz.zeroValue197
 i36:=by kernel_rfl
 t37:=Tryz.underlying217
 a37:=Tryz.isAgg217
 z37:=Tryz.sizeOf217
 v37:=Tryz.zeroValue217
 i37:=by kernel_rfl
 t39:=Tryz.underlying305
 a39:=Tryz.isAgg305
 z39:=Tryz.sizeOf305
 v39:=Tryz.zeroValue305
 i39:=by kernel_rfl
 t44:=Tryz.underlying319
 a44:=Tryz.isAgg319
 z44:=Tryz.sizeOf319
 v44:=Tryz.zeroValue319
 i44:=by kernel_rfl
 t47:=Tryz.underlying301
 a47:=Tryz.isAgg301
 z47:=Tryz.sizeOf301
 v47:=Tryz.zeroValue301
 i47:=by kernel_rfl
 t48:=Tryz.underlying322
 a48:=Tryz.isAgg322
 z48:=Tryz.sizeOf322
 v48:=Tryz.zeroValue322
 i48:=by kernel_rfl
 t50:=Tryz.underlying324
 a50:=Tryz.isAgg324
 z50:=Tryz.sizeOf324
 v50:=Tryz.zeroValue324
 i50:=by kernel_rfl
 t52:=Tryz.underlying295
 a52:=Tryz.isAgg295
 z52:=Tryz.sizeOf295
 v52:=Tryz.zeroValue295
 i52:=by kernel_rfl
 t55:=Tryz.underlying297
 a55:=Tryz.isAgg297
 z55:=Tryz.sizeOf297
 v55:=Tryz.zeroValue297
 i55:=by kernel_rfl
 t59:=Tryz.underlying312
 a59:=Tryz.isAgg312
 z59:=Tryz.sizeOf312
 v59:=Tryz.zeroValue312
 i59:=by kernel_rfl
 t60:=Tryz.underlying247
 a60:=Tryz.isAgg247
 z60:=Tryz.sizeOf247
 v60:=Tryz.zeroValue247
 i60:=by kernel_rfl
 t61:=Tryz.underlying313
 a61:=Tryz.isAgg313
 z61:=Tryz.sizeOf313
 t65:=Tryz.underlying325
 a65:=Tryz.isAgg325
 z65:=Tryz.sizeOf325
 v65:=Tryz.zeroValue325
 i65:=by kernel_rfl
 t66:=Tryz.underlying326
 a66:=Tryz.isAgg326
 z66:=Tryz.sizeOf326
 v66:=Tryz.zeroValue326
 i66:=by kernel_rfl
 t67:=Tryz.underlying211
 a67:=Tryz.isAgg211
 z67:=Tryz.sizeOf211
 v67:=Tryz.zeroValue211
 i67:=by kernel_rfl
 g0:=by kernel_rfl
 m0:=by kernel_rfl
 g1:=by kernel_rfl
 m1:=by kernel_rfl
 g2:=by kernel_rfl
 m2:=by kernel_rfl
 g3:=by kernel_rfl
 m3:=by kernel_rfl
 g4:=by kernel_rfl
 m4:=by kernel_rfl }
open Go.RowKit in
theorem Tryz.strconv_ParseUint_10_at64_ok (s:ByteArray)(hmax:s.size<=9223372036854775806)(u:Nat)(h:Lib.parseUintB 64 s.data.toList=.ok u)(w:World) :
 Calls Tryz.prog 171 #[.string s,.int .i64 10,.int .i64 64] w fun e w'=>e=.returned (.tuple #[.int .u64 u,.nilIface])/\(w'=w\/w'=Lib.bytesWorld w 5 s):=Any.strconv_ParseUint_10_at64_ok Tryz.laysPu14 s hmax u h w
def Tryz.lays219_ren:Go.Shelf.Ren:=⟨fun|219=>214|217=>241|225=>242|224=>243|267=>244|266=>260|314=>261|n=>n,fun|9=>9|3=>3|4=>4|5=>5|46=>197|146=>248|51=>247|n=>n,fun|1=>0|n=>n⟩
theorem Tryz.lays219:Go.Proofs.Lays.n219 Tryz.prog Tryz.lays219_ren:={
 mixed:=by kernel_rfl
 f217:=Tryz.func241.trans (congrArg some (by kernel_rfl))
 f219:=Tryz.func214.trans (congrArg some (by kernel_rfl))
 f224:=Tryz.func243.trans (congrArg some (by kernel_rfl))
 f225:=Tryz.func242.trans (congrArg some (by kernel_rfl))
 f266:=Tryz.func260.trans (congrArg some (by kernel_rfl))
 f267:=Tryz.func244.trans (congrArg some (by kernel_rfl))
 f314:=Tryz.func261.trans (congrArg some (by kernel_rfl))
 t3:=Tryz.underlying3
 a3:=Tryz.isAgg3
 z3:=Tryz.sizeOf3
 v3:=Tryz.zeroValue3
 t4:=Tryz.underlying4
 a4:=Tryz.isAgg4
 z4:=Tryz.sizeOf4
 v4:=Tryz.zeroValue4
 t5:=Tryz.underlying5
 a5:=Tryz.isAgg5
 z5:=Tryz.sizeOf5
 v5:=Tryz.zeroValue5
 t9:=Tryz.underlying9
 a9:=Tryz.isAgg9
 z9:=Tryz.sizeOf9
 v9:=Tryz.zeroValue9
 t46:=Tryz.underlying197
 a46:=Tryz.isAgg197
 z46:=Tryz.sizeOf197
 v46:=Tryz.zeroValue197
 t51:=Tryz.underlying247
 a51:=Tryz.isAgg247
 z51:=Tryz.sizeOf247
 v51:=Tryz.zeroValue247
 t146:=Tryz.underlying248
 a146:=Tryz.isAgg248
 z146:=Tryz.sizeOf248
 v146:=Tryz.zeroValue248
 g1:=by kernel_rfl }
open Go.RowKit Go.Lib in
theorem Tryz.stringslite_Index_one (s:ByteArray)(c:UInt8)(w:World) :
 Calls Tryz.prog 214 #[.string s,.string ⟨#[c]⟩] w fun e w'=>e=.returned (.int .i64 (Lib.indexByte s.data.toList c))/\w'=w:=Any.stringslite_Index_one Tryz.lays219 s c w
def Tryz.lays101_ren:Go.Shelf.Ren:=⟨fun|101=>168|208=>215|206=>245|n=>n,fun|9=>9|4=>4|3=>3|n=>n,fun|n=>n⟩
theorem Tryz.lays101:Go.Proofs.Lays.n101 Tryz.prog Tryz.lays101_ren:={
 mixed:=by kernel_rfl
 f101:=Tryz.func168.trans (congrArg some (by kernel_rfl))
 f206:=Tryz.func245.trans (congrArg some (by kernel_rfl))
 f208:=Tryz.func215.trans (congrArg some (by kernel_rfl))
 t3:=Tryz.underlying3
 a3:=Tryz.isAgg3
 z3:=Tryz.sizeOf3
 v3:=Tryz.zeroValue3
 t4:=Tryz.underlying4
 a4:=Tryz.isAgg4
 z4:=Tryz.sizeOf4
 v4:=Tryz.zeroValue4
 t9:=Tryz.underlying9
 a9:=Tryz.isAgg9
 z9:=Tryz.sizeOf9
 v9:=Tryz.zeroValue9 }
open Go.RowKit Go.Lib in
theorem Tryz.strings_TrimPrefix (s p:ByteArray)(w:World) :
 Calls Tryz.prog 168 #[.string s,.string p] w fun e w'=>e=.returned (.string ⟨(Lib.trimPrefix s.data.toList p.data.toList).toArray⟩)/\w'=w:=Any.strings_TrimPrefix Tryz.lays101 s p w
def Tryz.lays212_ren:Go.Shelf.Ren:=⟨fun|212=>116|263=>178|264=>179|n=>n,fun|46=>197|51=>247|146=>248|53=>236|148=>250|n=>n,fun|n=>n⟩
theorem Tryz.lays212:Go.Proofs.Lays.n212 Tryz.prog Tryz.lays212_ren:={
 mixed:=by kernel_rfl
 f212:=Tryz.func116.trans (congrArg some (by kernel_rfl))
 f263:=Tryz.func178.trans (congrArg some (by kernel_rfl))
 f264:=Tryz.func179.trans (congrArg some (by kernel_rfl))
 t46:=Tryz.underlying197
 a46:=Tryz.isAgg197
 z46:=Tryz.sizeOf197
 v46:=Tryz.zeroValue197
 t51:=Tryz.underlying247
 a51:=Tryz.isAgg247
 z51:=Tryz.sizeOf247
 v51:=Tryz.zeroValue247
 t53:=Tryz.underlying236
 a53:=Tryz.isAgg236
 z53:=Tryz.sizeOf236
 v53:=Tryz.zeroValue236
 t146:=Tryz.underlying248
 a146:=Tryz.isAgg248
 z146:=Tryz.sizeOf248
 v146:=Tryz.zeroValue248
 t148:=Tryz.underlying250
 a148:=Tryz.isAgg250
 z148:=Tryz.sizeOf250
 v148:=Tryz.zeroValue250 }
open Go.RowKit Go.Lib in
theorem Tryz.bits_Mul (x y:Nat)(hx:x<18446744073709551616)(hy:y<18446744073709551616)(w:World) :
 Calls Tryz.prog 116 #[.int .u64 x,.int .u64 y] w fun e w'=>e=.returned (.tuple #[.int .u64 ((x*y/18446744073709551616:Nat):Int),.int .u64 ((x*y%18446744073709551616:Nat):Int)])/\w'=w:=Any.bits_Mul Tryz.lays212 x y hx hy w
def Tryz.lays105_ren:Go.Shelf.Ren:=⟨fun|105=>212|212=>116|99=>238|165=>239|166=>211|170=>240|169=>213|263=>178|264=>179|206=>245|240=>237|241=>259|276=>258|277=>267|n=>n,fun|9=>9|3=>3|4=>4|20=>20|0=>0|46=>197|109=>198|5=>5|72=>276|76=>277|51=>247|146=>248|53=>236|148=>250|70=>274|37=>217|75=>242|127=>301|164=>314|80=>211|n=>n,fun|n=>n⟩
theorem Tryz.lays105:Go.Proofs.Lays.n105 Tryz.prog Tryz.lays105_ren:={
 mixed:=by kernel_rfl
 f99:=Tryz.func238.trans (congrArg some (by kernel_rfl))
 f105:=Tryz.func212.trans (congrArg some (by kernel_rfl))
 f165:=Tryz.func239.trans (congrArg some (by kernel_rfl))
 f166:=Tryz.func211.trans (congrArg some (by kernel_rfl))
 f169:=Tryz.func213.trans (congrArg some (by kernel_rfl))
 f170:=Tryz.func240.trans (congrArg some (by kernel_rfl))
 f206:=Tryz.func245.trans (congrArg some (by kernel_rfl))
 f212:=Tryz.func116.trans (congrArg some (by kernel_rfl))
 f240:=Tryz.func237.trans (congrArg some (by kernel_rfl))
 f241:=Tryz.func259.trans (congrArg some (by kernel_rfl))
 f263:=Tryz.func178.trans (congrArg some (by kernel_rfl))
 f264:=Tryz.func179.trans (congrArg some (by kernel_rfl))
 f276:=Tryz.func258.trans (congrArg some (by kernel_rfl))
 f277:=Tryz.func267.trans (congrArg some (by kernel_rfl))
 t0:=Tryz.underlying0
 a0:=Tryz.isAgg0
 z0:=Tryz.sizeOf0
 v0:=Tryz.zeroValue0
 t3:=Tryz.underlying3
 a3:=Tryz.isAgg3
 z3:=Tryz.sizeOf3
 v3:=Tryz.zeroValue3
 t4:=Tryz.underlying4
 a4:=Tryz.isAgg4
 z4:=Tryz.sizeOf4
 v4:=Tryz.zeroValue4
 t5:=Tryz.underlying5
 a5:=Tryz.isAgg5
 z5:=Tryz.sizeOf5
 v5:=Tryz.zeroValue5
 t9:=Tryz.underlying9
 a9:=Tryz.isAgg9
 z9:=Tryz.sizeOf9
 v9:=Tryz.zeroValue9
 t20:=Tryz.underlying20
 a20:=Tryz.isAgg20
 z20:=Tryz.sizeOf20
 v20:=Tryz.zeroValue20
 t37:=Tryz.underlying217
 a37:=Tryz.isAgg217
 z37:=Tryz.sizeOf217
 v37:=Tryz.zeroValue217
 t46:=Tryz.underlying197
 a46:=Tryz.isAgg197
 z46:=Tryz.sizeOf197
 v46:=Tryz.zeroValue197
 t51:=Tryz.underlying247
 a51:=Tryz.isAgg247
 z51:=Tryz.sizeOf247
 v51:=Tryz.zeroValue247
 t53:=Tryz.underlying236
 a53:=Tryz.isAgg236
 z53:=Tryz.sizeOf236
 v53:=Tryz.zeroValue236
 t70:=Tryz.underlying274
 a70:=Tryz.isAgg274
 z70:=Tryz.sizeOf274
 v70:=Tryz.zeroValue274
 t72:=Tryz.underlying276
 a72:=Tryz.isAgg276
 z72:=Tryz.sizeOf276
 v72:=Tryz.zeroValue276
 t75:=Tryz.underlying242
 a75:=Tryz.isAgg242
 z75:=Tryz.sizeOf242
 v75:=Tryz.zeroValue242
 t76:=Tryz.underlying277
 a76:=Tryz.isAgg277
 z76:=Tryz.sizeOf277
 v76:=Tryz.zeroValue277
 t109:=Tryz.underlying198
 a109:=Tryz.isAgg198
 z109:=Tryz.sizeOf198
 v109:=Tryz.zeroValue198
 t127:=Tryz.underlying301
 a127:=Tryz.isAgg301
 z127:=Tryz.sizeOf301
 v127:=Tryz.zeroValue301
 t146:=Tryz.underlying248
 a146:=Tryz.isAgg248
 z146:=Tryz.sizeOf248
 v146:=Tryz.zeroValue248
 t148:=Tryz.underlying250
 a148:=Tryz.isAgg250
 z148:=Tryz.sizeOf250
 v148:=Tryz.zeroValue250
 t164:=Tryz.underlying314
 a164:=Tryz.isAgg314
 z164:=Tryz.sizeOf314
 v164:=Tryz.zeroValue314 }
theorem Tryz.Builder_Extra_105:Builder.Extra Tryz.prog Tryz.lays105_ren:={
 sizeBuilder:=by kernel_rfl
 liesBuilder:=by kernel_rfl
 t5:=Tryz.underlying5
 a5:=Tryz.isAgg5
 z5:=Tryz.sizeOf5
 v5:=Tryz.zeroValue5
 infoByte:=by kernel_rfl
 cellsByte:=by kernel_rfl
 sizeByte:=by kernel_rfl
 neB5:=by decide }
open Go.RowKit Go.Lib in
theorem Tryz.strings_Repeat (s:ByteArray)(c:Nat)(w:World)(hc:c<=9223372036854775807)(hlen:s.size*c<=140737488355328) :
 Calls Tryz.prog 212 #[.string s,.int .i64 c] w fun e w'=>e=.returned (.string ⟨(Lib.repeatL s.data.toList c).toArray⟩)/\Below w.heap.size w w':=Any.strings_Repeat Tryz.lays105 Tryz.Builder_Extra_105 s c w hc hlen
end Go.Proofs
end
namespace Go.Proofs.YtnafchoihfnkeaaGreatDoor
open Go.Proofs.Tryz
open Go.RowKit
open _root_.Array renaming getElem?_eq_none -> Awu, size_replicate -> Ayw
open Below renaming block -> Azr, cell -> Azf, mono -> Axj, refl -> Az2, trans -> Av0
open Instr renaming sliceAt -> Axs
open Lib renaming BuilderAt -> A3k, IsBuilder -> A3j, TabIs -> A2b, add_plain -> A3l, bytesCells -> Ax0, bytesWorld_at_old -> A1p, bytesWorld_size -> A13, cell_of_heap -> Azy, decDigits -> Au9, decDigits_length -> Awb, hid -> As8, indexByte -> Ayd, itoa -> Atn, nDigits -> Aua, nDigits_small -> Axe, pow10Tab -> A05, size_mk -> Axl, strCells -> A3u, trimPrefix -> A3c, zeros24 -> A0n
open List renaming append_assoc -> Au1, append_nil -> Auu, getElem?_append_left -> Atl, getElem?_append_right -> At1, getElem?_eq_getElem -> As5, getElem?_eq_none -> Att, getElem_mem -> Ath, isPrefixOf -> A25, length_append -> Atg, length_map -> Ata, length_replicate -> Aur, length_take -> Atm, map_append -> Atk, mem_map -> Ate, replicate -> As6, reverse_append -> A0c, take_add_one -> At0, take_length -> At9, take_of_length_le -> Atp, toList_toArray -> Av4
open Nat renaming beq -> Auy, div_div_eq_div_mul -> Awy, div_eq_of_lt -> Aw1, eq_of_beq_eq_true -> Aug, eq_zero_or_pos -> At5, gcd -> Auw, le_refl -> Atb, le_trans -> As9, lt_of_le_of_lt -> Aum, lt_of_lt_of_le -> Auf, lt_or_ge -> At8, mul_comm -> At7, pow_add -> Aww, pow_le_pow_right -> Atq, pow_lt_pow_iff_right -> Azc, pow_pos -> Aym, pow_succ -> Auc
open Option renaming map_eq_some_iff -> Axk, some.injEq -> Atd
open Result renaming andThen -> Azg, andThen_ok -> Atf
open Sem renaming run_bind -> At4, run_pure -> Avt
open Value renaming agg -> A2c, bool -> Ayi, cells -> Atw, int -> Auj, pointer -> A0s, slice -> Au8, slice.injEq -> Atr
open World renaming cell?_alloc_new -> Ayp
section
open Go.Shelf Go.RowKit
theorem Z7:(prog.info? 276).map (·.size)=some 2:=kV
theorem Ai6:liesAt prog prog.depth 276 (2/prog.cellsOf 276) 0 276 1=true:=kV
theorem Ahf:(prog.info? 5).map (fun i=>(i.zero,i.size,i.bytes))=some (some (.int .u8 0),1,1):=kV
set_option maxRecDepth 100000 in
theorem Tu (b:Nat)(w:World)(h0:w.cell? ⟨b,0,none⟩=some (.pointer (some ⟨b,0,none⟩))) :
 Calls prog 237 #[.pointer (some ⟨b,0,none⟩)] w fun e w'=>e=.returned (.tuple #[])/\w'=w:=by
 obtain⟨j,hj,_⟩:=Axk.1 Z7
 go_enter func237,ntmps237
 go_wp2
 rw[Lib.run_neq_ptr_same w _ Tryz.underlying274 hj]
 go_wp2
 go_end0
 exact⟨rfl,rfl⟩
set_option maxRecDepth 100000 in
theorem Rj (b:Nat)(w:World)(h0:w.cell? ⟨b,0,none⟩=some (.pointer none))(hsh:w.shape? b=some (276,2))(hfz:w.frozen? ⟨b,0,none⟩=false) :
 Calls prog 237 #[.pointer (some ⟨b,0,none⟩)] w fun e w'=>e=.returned (.tuple #[])/\w'=w.setCell ⟨b,0,none⟩ (.pointer (some ⟨b,0,none⟩)):=by
 obtain⟨j,hj,hjs⟩:=Axk.1 Z7
 go_enter func237,ntmps237
 go_wp2
 rw[Lib.run_to_unsafe w ⟨b,0,none⟩ Tryz.underlying274 Tryz.underlying314 hj (by rw[hjs];decide) hsh (Nat.zero_lt_succ 1)];simp only[Azg];rw[Oper.upon_value]
 go_wp2
 rw[run_callFunc_extern func258 kV kV kV (e:=Extern.AbiNoEscape.same) kV];rw[Lib.run_noEscape];simp only[Azg];rw[Oper.upon_value]
 go_wp2
 rw[Lib.run_from_unsafe w ⟨b,0,none⟩ Tryz.underlying314 Tryz.underlying274 hj hsh Ai6];simp only[Azg];rw[Oper.upon_value]
 go_wp2
 go_end0
 exact⟨rfl,rfl⟩
theorem Vm (B b:Nat)(bs:List Value)(w:World)(h:A3j 276 5 B b bs w) :
 Calls prog 237 #[.pointer (some ⟨b,0,none⟩)] w fun e w'=>e=.returned (.tuple #[])/\(A3k 276 5 B b (.pointer (some ⟨b,0,none⟩)) bs w'/\Below B w w'):=by
 rcases h with h|h
 ·refine (Rj b w h.cell0 h.shape h.frozen0).mono ?_;rintro e w' ⟨rfl,rfl⟩;exact⟨rfl,h.used _,(Az2 B w).setCell (p:=⟨b,0,none⟩) h.1 _⟩
 ·refine (Tu b w h.cell0).mono ?_;rintro e w' ⟨rfl,rfl⟩;exact⟨rfl,h,Az2 B _⟩
set_option maxRecDepth 100000 in
theorem Cp (B b:Nat)(bs:List Value)(s:ByteArray)(w:World)(h:A3j 276 5 B b bs w)(hlen:bs.length+s.size<=140737488355328)(hBw:B<=w.heap.size) :
 Calls prog 211 #[.pointer (some ⟨b,0,none⟩),.string s] w fun e w'=>e=.returned (.tuple #[.int .i64 s.size,.nilIface])/\(A3k 276 5 B b (.pointer (some ⟨b,0,none⟩)) (bs++A3u s) w'/\Below B w w'):=by
 obtain⟨i0,hi,hz0,hz1,hz2⟩:=info_parts Ahf
 go_enter func211,ntmps211
 go_wp2_with fail
 refine (Vm B b bs _ h).mono ?_;rintro e w1 ⟨rfl,h1,hb1⟩;obtain⟨hB,v,hbk,hown,hne⟩:=h1;have c0:w1.cell? ⟨b,0,none⟩=some (.pointer (some ⟨b,0,none⟩)):=by rw[Azy hbk];rfl
 have c1:w1.cell? ⟨b,1,none⟩=some v:=by rw[Azy hbk];rfl
 go_wp2_with (at_builtin;refine Lib.wpList_append_own_string _ rfl _ _ 217 9 rfl B 5 i0 Tryz.underlying217 Tryz.underlying9 hi hz0 hz1 hz2 _ _ _ rfl hown s rfl ?c3 ?c4 ?c5 ?_)
 case c3=>unfold maxLen;omega
 case c4=>omega
 case c5=>have:=hb1.size;omega
 intro v' w2 hown' hgrow _;have hlt:b<w1.heap.size:=by
  rcases At8 b w1.heap.size with h'|h'
  ·exact h'
  ·simp[Awu h']at hbk
 have hb2:w2.heap[b]?=some (.cells #[.pointer (some ⟨b,0,none⟩),v] 276 (0,0)):=by
  rw[hgrow.block b hlt (fun e=>hne e.symm)];exact hbk
 have d0:w2.cell? ⟨b,0,none⟩=some (.pointer (some ⟨b,0,none⟩)):=by rw[Azy hb2];rfl
 have d1:w2.cell? ⟨b,1,none⟩=some v:=by rw[Azy hb2];rfl
 have f1:w2.frozen? ⟨b,1,none⟩=false:=Lib.frozen_of_heap hb2 1;obtain⟨ao,n',cap,rfl⟩:∃ ao n' cap,v'=.slice ao n' cap:=by
  rcases hown'.2 with ⟨hv,_⟩|⟨g,cap,cur,hv,_⟩
  ·exact⟨_,_,_,hv⟩
  ·exact⟨_,_,_,hv⟩
 go_wp2
 go_ret2
 refine⟨rfl,?_,?_⟩
 ·exact Lib.BuilderAt.put (T:=276) (e:=5) hB hb2 (bs':=bs++A3u s) (by simpa[Lib.strCells_length] using hown') fV
 ·exact (hb1.grown hgrow (by have:=hb1.size;omega) (fun k hk=>(hown.lt k hk).1)).setCell (p:=⟨b,1,none⟩) hB _
end
section
open Go.Shelf Go.RowKit Go.Sort Go.Lib
set_option maxRecDepth 100000 in
theorem T3 (u:Nat)(hu64:u<18446744073709551616)(w:World)(htab:A2b prog w "internal/strconv.uint64pow10" .u64 A05) :
 Calls prog 210 #[.int .u64 u,.int .i64 10] w fun e w'=>e=.returned (.string ⟨(Au9 u).toArray⟩)/\Below w.heap.size w w':=by
 by_cases hs:u<100
 ·go_enter func210,ntmps210
  go_wp2_with fail
  refine (Tryz.internal_strconv_small u hs _).mono ?_;rintro e w' ⟨rfl,rfl⟩
  go_wp2_with fail
  go_ret
  exact⟨rfl,Az2 _ _⟩
 ·have hu1:1<=u:=oV
  have hnd20:Aua u<=20:=by have:=Lib.numDigits_eq u hu1 hu64;split at this<;>omega
  have hal:prog.arrayLen 295=24:=kV
  have hsl1:∀ W,(Axs 295 (.pointer (some ⟨w.heap.size,0,none⟩)) none (some (.int .i64 (Aua u:Int))) none).run prog W=.ok (.slice (some ⟨w.heap.size,0,none⟩) (Aua u) 24) W:=fun W=>by
   rw[run_sliceAt_array_h W 295 ⟨w.heap.size,0,none⟩ kV .i64 (Aua u:Int) oV (by rw[hal];omega)]
   go_simp
  have hH0:=Lib.holds_zero0 w 295 (Aua u) oV;have hfmt:=Tryz.internal_strconv_formatBase10 w.heap.size 0 24 u (Array.replicate (Aua u) 0) (w.alloc (.cells A0n 295)) hH0 (by rw[Ayw];exact Lib.lt_pow_nDigits u) hu64 (by rw[Ayw];omega);rw[Ayw]at hfmt;have HH0:=As8 hH0;clear hH0 hal
  go_enter func210,ntmps210
  go_wp2_with fail
  refine (Tryz.internal_strconv_numDigits u hu1 hu64 _ (Lib.tabIs_alloc htab _)).mono ?_;rintro e w' ⟨rfl,rfl⟩
  go_wp2_with fail
  refine hfmt.mono ?_;rintro e w' ⟨rfl,k,v',dk,rfl,hF⟩;have hcv:(convert 217 9 (.slice (some ⟨w.heap.size,0,none⟩) (Aua u) 24)).run prog ((putRow (fun (b:UInt8)=>Auj .u8 (b.toNat:Int)) (w.alloc (.cells A0n 295)) w.heap.size 0 dk).drewN k)=.ok (.string ⟨(Au9 u).toArray⟩) ((putRow (fun (b:UInt8)=>Auj .u8 (b.toNat:Int)) (w.alloc (.cells A0n 295)) w.heap.size 0 dk).drewN k):=by
   have h:=run_convert_bytes_back (P:=prog) ((putRow (fun (b:UInt8)=>Auj .u8 (b.toNat:Int)) (w.alloc (.cells A0n 295)) w.heap.size 0 dk).drewN k) 217 9 5 ⟨w.heap.size,0,none⟩ 24 (Au9 u) Tryz.underlying217 Tryz.underlying5 Tryz.underlying9 (fun j hj=>by
    rw[Lib.row_is_numeral hF j hj,A3l,World.cell?_drewN];exact cell?_putRow (fun (b:UInt8)=>Auj .u8 (b.toNat:Int)) _ w.heap.size 0 _ dk HH0.out (by rw[hF.size,Ayw]) j (by rw[hF.size];rw[Awb]at hj;exact hj))
   rw[Awb]at h;exact h
  go_wp2_with fail
  go_ret
  refine⟨rfl,?_⟩;obtain⟨os,eo⟩:=Lib.fin_at w (.cells A0n 295) dk k 0;rw[eo];exact Lib.below_grow _ w (Atb _) k os
end
section
open Go.Shelf Go.RowKit Go.Sort Go.Lib
variable {B b d k n:Nat}{T e:TypeId}{bs:List Value}{neg:Bool}{w w':World}
theorem Mz {P:Program}{name:String}{k:IntKind}{zs:List Int}(h:TabIs P w name k zs)(x:Ext w w'):TabIs P w' name k zs:=by
 unfold TabIs World.var? at *
 cases hg:P.globalNamed name with
 |none=>simp[hg]at h
 |some g =>
  simp only[hg,Option.bind_some]at h⊢;have hlt:g<w.heap.size:=by
   rcases At8 g w.heap.size with h'|h'
   ·exact h'
   ·simp[Awu h']at h
  rw[Azr x g hlt];exact h
theorem Rd {size:Nat}{v:Value}{xs:List Value}(h:w.ownsRow B e size v n xs)(x:Ext w w'):w'.ownsRow B e size v n xs:=by
 obtain⟨hl,h0|⟨g,cap,cur,hv,hb,hh,r⟩⟩:=h
 ·exact⟨hl,.inl h0⟩
 ·exact⟨hl,.inr ⟨g,cap,cur,hv,hb,by rw[Azr x g (B0 hh)];exact hh,r⟩⟩
theorem M7 {p:Value}(h:BuilderAt T e B b p bs w)(x:Ext w w'):BuilderAt T e B b p bs w':=by
 obtain⟨hB,v,hb,ho,hne⟩:=h;exact⟨hB,v,by rw[Azr x b (B0 hb)];exact hb,Rd ho x,hne⟩
theorem Eb (h:IsBuilder T e B b bs w)(x:Ext w w'):IsBuilder T e B b bs w' :=
 h.elim (fun h=>.inl (M7 h x)) (fun h=>.inr (M7 h x))
theorem Ak0 (n j k:Nat):ld n (j+k)=ld n j++ld (n/10^j) k:=by
 induction k with
 |zero=>simp[ld]
 |succ k ih =>
  rw[<-Nat.add_assoc,Ry,Ry,ih,Au1]
  congr 3
  unfold dg;rw[Awy,<-Aww]
theorem Ap9 (d:Nat)(h:∀ j,j<k->n/10^j%10=d/10^j%10):ld n k=ld d k:=by
 unfold ld;refine List.map_congr_left fun j hj=>?_;unfold dg;rw[h j (List.mem_range.1 hj)]
theorem Fy (k:Nat):repeatL [48] k=As6 k 48:=by
 induction k with
 |zero=>rfl
 |succ k ih=>rw[repeatL,ih];rfl
theorem It (hd:d<1000000000):nDigits d<=9:=by
 rcases At5 d with h|h
 ·subst h;rw[nDigits_small oV];omega
 ·have h1:=Gd (n:=d) oV;have h2:10^(nDigits d-1)<10^9:=Aum h1 oV;have h3:=(Azc (by omega:1<10)).1 h2;omega
theorem Asr (hd:d<1000000000):(ld d 9).reverse=repeatL [48] (9-nDigits d)++decDigits d:=by
 have h9:=It hd;have e:9=nDigits d+(9-nDigits d):=oV
 rw[show ld d 9=ld d (nDigits d+(9-nDigits d)) by rw[<-e],Ak0,A0c,Xw]
 congr 1
 have h0:d/10^nDigits d=0:=Aw1 (lt_pow_nDigits d);rw[h0,Fy];have:∀ k,ld 0 k=As6 k 48:=by
  intro k;induction k with
  |zero=>rfl
  |succ k ih=>rw[Ry,ih,List.replicate_succ'];congr 1;simp[dg]
 rw[this,List.reverse_replicate]
theorem Akw {x d:Nat}(hx:x≠0)(hd:d<1000000000):decDigits (x*1000000000+d)=decDigits x++(repeatL [48] (9-nDigits d)++decDigits d):=by
 have hdiv:(x*1000000000+d)/10^9=x:=oV
 have hN:nDigits (x*1000000000+d)=9+nDigits x:=by
  rw[Ni (j:=9) oV,hdiv]
 rw[<-Xw,hN,Ak0,hdiv,A0c,Xw,<-Asr hd]
 congr 2
 refine Ap9 d fun j hj=>?_;have e:(1000000000:Nat)=10^j*10^(9-j):=by rw[<-Aww,show j+(9-j)=9 by omega]
 rw[e,At7 x,Nat.mul_assoc,Nat.mul_add_div (Aym oV),show 9-j=(8-j)+1 by omega,Auc];rw[Nat.mul_right_comm,At7 _ 10,Nat.mul_add_mod]
def mid (n k:Nat):List UInt8:=if k=(Aa n).length then [] else decDigits (n/1000000000^k)
theorem Afe (n:Nat):mid n (Aa n).length = []:=by simp[mid]
theorem Yf (h:k≠(Aa n).length):mid n k=decDigits (n/1000000000^k):=by simp[mid,h]
def Cr (neg:Bool)(n k:Nat):List UInt8:=(if neg then [45] else [])++mid n k
theorem Ve (neg:Bool)(n:Nat):Cr neg n (Aa n).length=if neg then [45] else []:=by rw[Cr,Afe,Auu]
theorem K5 (z:Int)(h:z≠0):Cr (decide (z<0)) z.natAbs 0=itoa z:=by
 have hl:(Aa z.natAbs).length≠0:=fun h0=>h (by have:=Fx.1 (List.eq_nil_of_length_eq_zero h0);omega);rw[Cr,Yf (fun h0=>hl h0.symm),Cy,Bg,Nat.pow_zero,Nat.div_one];split<;>rfl
theorem Tq (n k:Nat):n/1000000000^k=n/1000000000^(k+1)*1000000000+(Aa n).getD k 0:=by
 rw[Nu,Auc,<-Awy];omega
theorem Vh (hk:k+1=(Aa n).length):Cr neg n k=Cr neg n (k+1)++decDigits ((Aa n).getD k 0):=by
 have h0:n/1000000000^(k+1)=0:=Aw1 (by rw[hk];exact Ck n);rw[Cr,Cr,Yf oV,hk,Afe,Auu,Tq,h0];simp
theorem Ux (hk:k+1<(Aa n).length):Cr neg n k=Cr neg n (k+1)++(repeatL [48] (9-nDigits ((Aa n).getD k 0))++decDigits ((Aa n).getD k 0)):=by
 have hn:n≠0:=by rintro rfl;rw[Bb]at hk;simp at hk
 have hx:n/1000000000^(k+1)≠0:=by
  have h1:=Oz hn;have h2:1000000000^(k+1)<=1000000000^(nl n-1):=Atq oV (by have:nl n=(Aa n).length:=rfl;omega);have h3:=Nat.div_pos (As9 h2 h1) (Aym oV);omega
 rw[Cr,Cr,Yf oV,Yf oV,Au1]
 congr 1
 rw[Tq n k,Akw hx ((Am n).getD k)]
theorem Q9 (neg:Bool)(n k:Nat):(Cr neg n k).length<=1+9*(Aa n).length+1:=by
 have h1:nDigits (n/1000000000^k)<=9*(Aa n).length+1:=by
  rcases At5 (n/1000000000^k) with h|h
  ·rw[h,nDigits_small oV];omega
  ·have h2:=Gd (n:=n/1000000000^k) oV;have h3:10^(nDigits (n/1000000000^k)-1)<10^(9*(Aa n).length):=Aum h2 (Aum (Nat.div_le_self _ _) (Px n));have h4:=(Azc (by omega:1<10)).1 h3;omega
 unfold Cr mid;split<;>split<;>simp[decDigits_length]<;>omega
end
section
open Go.Shelf Go.RowKit Go.Sort Go.Lib
set_option maxRecDepth 100000 in
theorem D4 (u:Nat)(hu64:u<18446744073709551616)(w:World)(htab:A2b prog w "internal/strconv.uint64pow10" .u64 A05) :
 Calls prog 165 #[.int .u64 u,.int .i64 10] w fun e w'=>e=.returned (.string ⟨(Au9 u).toArray⟩)/\Ext w w':=by
 go_enter func165,ntmps165
 go_wp2_with fail
 refine (T3 u hu64 _ htab).mono ?_;rintro e w' ⟨rfl,hx⟩
 go_wp2_with fail
 go_ret
 exact⟨rfl,hx⟩
def Ajl (W0:World)(B:Nat)(neg:Bool)(n:Nat)(i:Value)(wr:World):Prop :=
 ∃ k:Nat,k<=(Aa n).length/\i=.int .i64 ((k:Int)-1)/\IsBuilder 276 5 B B (byteCells (Cr neg n k)) wr/\Below B W0 wr
theorem C2 (l l':List UInt8):byteCells l++byteCells l'=byteCells (l++l'):=by simp[byteCells]
set_option maxRecDepth 100000 in
theorem Vn (v:Value)(z:Int)(w:World)(hv:Om w v z)(hs:nl z.natAbs<=100000000000)(htab:A2b prog w "internal/strconv.uint64pow10" .u64 A05) :
 Calls prog 166 #[v] w fun e w'=>e=.returned (.string ⟨(Atn z).toArray⟩)/\Ext w w':=by
 obtain⟨a,n,c,rfl,hn⟩:=hv;obtain⟨a',c',e,hcap,hrow⟩:=hn;simp only[Atr]at e;obtain⟨rfl,rfl,rfl⟩:=e;have hlen:(Aa z.natAbs).length<=100000000000:=hs;by_cases hz:z=0
 ·subst hz;rw[show (Aa (0:Int).natAbs).length=0 by rw[show (0:Int).natAbs=0 from rfl,Bb];rfl];clear hrow hcap hlen
  go_enter func166,ntmps166
  go_wp2_with fail
  go_ret
  exact⟨by rw[Ed];rfl,Ext.alloc (Ext.refl w) _⟩
 ·have hp:0<(Aa z.natAbs).length:=Cm.2 oV;obtain⟨L,hL⟩:∃ L,L=(Aa z.natAbs).length:=⟨_,rfl⟩;rw[<-hL]at hp hlen⊢;have HL:=As8 hL;have HROW:=As8 hrow;have HTAB:=As8 htab;clear hL hrow htab hcap;obtain⟨neg,hneg⟩:∃ neg,neg=decide (z<0):=⟨_,rfl⟩;rw[<-hneg];have HNEG:=As8 hneg;clear hneg;obtain⟨w1,hw1⟩:∃ w1,w1=w.alloc (Obj.cells #[Ayi neg,Au8 a L c] 101):=⟨_,rfl⟩;have hs1:w1.heap.size=w.heap.size+1:=by rw[hw1];exact Bu _ _
  have HX1:RowKit.Hid (Ext w w1):=As8 (by rw[hw1];exact Ext.alloc (Ext.refl w) _);have HB0:=As8 (Lib.fresh_isBuilder 276 5 w1);have HW1:=As8 hw1;have HS1:=As8 hs1;clear hw1 hs1;cases neg
  ·go_enter func166,ntmps166
   go_wp2_with fail
   rw[<-HW1.out,<-HS1.out,show ((L:Int)==0)=false by rw[beq_eq_false_iff_ne];omega]
   go_loopw [4] (Ajl (w1.alloc (Obj.cells #[A0s none,Au8 none 0 0] 276)) w1.heap.size false z.natAbs) (fun i _=>(RowKit.intOf i+1).toNat)
   case atStart=>exact⟨(Aa z.natAbs).length,Atb _,by rw[<-HL.out],by rw[Ve];exact HB0.out,Az2 _ _⟩
   case round =>
    obtain⟨k,hk,rfl,hbd,hbel⟩:=hrel;have hsz0:=hbel.size;rw[Bu]at hsz0;have HXW:RowKit.Hid (Ext w wr):=As8 (Ext.trans HX1.out (Av0 (Ext.alloc (Ext.refl w1) (Obj.cells #[A0s none,Au8 none 0 0] 276)) hbel));rcases k with _|k
    ·have hne:Cr false z.natAbs 0≠[]:=by rw[HNEG.out,K5 z hz,Cy,Bg];split;simp;exact Il _
     have HBD:=As8 hbd;clear hbd
     go_wp2_with fail
     refine (Tryz.Builder_String w1.heap.size w1.heap.size (Cr false z.natAbs 0) wr HBD.out hne).mono ?_;rintro e w2 ⟨rfl,hb2⟩
     go_wp2_with fail
     go_ret
     refine⟨?_,Av0 HXW.out ?_⟩
     ·rw[HNEG.out,K5 z hz];rfl
     ·exact Axj hb2 (by have:=HS1.out;omega)
    ·have hsz1:w.heap.size<w1.heap.size:=by rw[HS1.out];omega
     have hc1:wr.cell? ⟨w.heap.size,1,none⟩=some (.slice a L c):=by
      rw[Azf hbel hsz1,Azf (Ext.alloc (Ext.refl w1) _) hsz1,HW1.out,Ayp];rfl
     obtain⟨ba,offa,rfl,hca⟩:=HROW.out.at (j:=k) oV;have hcb:=HXW.out.cell hca;clear hca;have hlow:(Aa z.natAbs).getD k 0<1000000000:=(Am _).getD k;obtain⟨x,hx⟩:∃ x,x=(Aa z.natAbs).getD k 0:=⟨_,rfl⟩;rw[<-hx]at hcb hlow;have XX:=As8 hx;have HBD:=As8 hbd;have HBEL:=As8 hbel;have HK:=As8 hk;clear hx hbd hbel hk hsz1;rw[show ((k+1:Nat):Int)-1=k by omega];have hkL:k<L:=by have:=HK.out;have:=HL.out;omega
     have hsw:(Cr false z.natAbs (k+1)).length<=1+9*L+1:=by have:=Q9 false z.natAbs (k+1);rw[<-HL.out]at this;exact this
     have hd9:=It hlow;have hdl:=decDigits_length x;have HSW:=As8 hsw;have HDL:=As8 hdl;have HD9:=As8 hd9;clear hsw hdl hd9;by_cases htop:k+1=L
     ·have hkt:¬ ((k:Int)<(L:Int)-1):=oV
      have HTOP:=As8 htop;clear htop
      go_wp2_with fail
      refine (D4 x oV _ (Mz HTAB.out HXW.out)).mono ?_;rintro e w2 ⟨rfl,hx2⟩;have HX2:=As8 hx2;clear hx2;have hc2:=HX2.out.cell hc1;clear hc1 hcb
      go_wp2_with fail
      refine (Cp w1.heap.size w1.heap.size (byteCells (Cr false z.natAbs (k+1))) ⟨(decDigits x).toArray⟩ w2 (Eb HBD.out HX2.out) (by rw[byteCells_length,Axl,HDL.out];have:=HSW.out;have:=HD9.out;omega) (by have:=HX2.out.size;omega)).mono ?_;rintro e w3 ⟨rfl,hb3,hbel3⟩;have htx:=Vh (neg:=false) (n:=z.natAbs) (k:=k) (by rw[<-HL.out];exact HTOP.out);rw[<-XX.out]at htx;rw[strCells_toArray,C2,<-htx]at hb3
      go_wp2_with fail
      refine⟨⟨k,by rw[<-HL.out];omega,by go_num,.inr hb3,Av0 HBEL.out (Av0 (Axj HX2.out oV) hbel3)⟩,by simp only[RowKit.intOf];omega⟩
     ·have hkt:(k:Int)<(L:Int)-1:=oV
      have HTOP:=As8 htop;clear htop
      go_wp2_with fail
      refine (D4 x oV _ (Mz HTAB.out HXW.out)).mono ?_;rintro e w2 ⟨rfl,hx2⟩;have HX2:=As8 hx2;clear hx2;have hc2:=HX2.out.cell hc1;clear hc1 hcb;have hsl:(⟨(decDigits x).toArray⟩:ByteArray).size=nDigits x:=by rw[Axl];exact HDL.out
      go_wp2_with fail
      rw[show wrap64 (9-(nDigits x:Int))=((9-nDigits x:Nat):Int) by have:=HD9.out;unfold wrap64;omega];have hrep:=Tryz.strings_Repeat ⟨#[48]⟩ (9-nDigits x) w2 oV (by have:=HD9.out;simp[ByteArray.size];omega);refine hrep.mono ?_;rintro e w4 ⟨rfl,hx4⟩;have HX4:RowKit.Hid (Ext w2 w4):=As8 hx4;clear hx4 hrep
      go_wp2_with fail
      refine (Cp w1.heap.size w1.heap.size (byteCells (Cr false z.natAbs (k+1))) ⟨(repeatL [48] (9-nDigits x)).toArray⟩ w4 (Eb (Eb HBD.out HX2.out) HX4.out) (by rw[byteCells_length,Axl,Fy,Aur];have:=HSW.out;omega) (by have:=HX2.out.size;have:=HX4.out.size;omega)).mono ?_;rintro e w5 ⟨rfl,hb5,hbel5⟩;rw[strCells_toArray,C2]at hb5
      go_wp2_with fail
      refine (Cp w1.heap.size w1.heap.size _ ⟨(decDigits x).toArray⟩ w5 (.inr hb5) (by rw[byteCells_length,Axl,HDL.out,Atg,Fy,Aur];have:=HSW.out;have:=HD9.out;omega) (by have:=HX2.out.size;have:=HX4.out.size;have:=hbel5.size;omega)).mono ?_;rintro e w3 ⟨rfl,hb3,hbel3⟩;have htx:=Ux (neg:=false) (n:=z.natAbs) (k:=k) (by rw[<-HL.out];have:=HTOP.out;omega);rw[<-XX.out]at htx;rw[strCells_toArray,C2,Au1,<-htx]at hb3;have h6:=HX2.out.size
      go_wp2_with fail
      refine⟨⟨k,by rw[<-HL.out];omega,by go_num,.inr hb3,Av0 HBEL.out (Av0 (Axj HX2.out oV) (Av0 (Axj HX4.out oV) (Av0 hbel5 hbel3)))⟩,by simp only[RowKit.intOf];omega⟩
  ·go_enter func166,ntmps166
   go_wp2_with fail
   rw[<-HW1.out,<-HS1.out,show ((L:Int)==0)=false by rw[beq_eq_false_iff_ne];omega];refine (Cp w1.heap.size w1.heap.size [] ⟨#[45]⟩ _ HB0.out (by simp[ByteArray.size]) (by rw[Bu];omega)).mono ?_;rintro e w4 ⟨rfl,hb4,hbel4⟩;have HB4:RowKit.Hid (BuilderAt 276 5 w1.heap.size w1.heap.size (.pointer (some ⟨w1.heap.size,0,none⟩)) (byteCells [45]) w4):=As8 hb4;have HBEL4:=As8 hbel4;have hs4:=hbel4.size;rw[Bu]at hs4;have hc0:w4.cell? ⟨w.heap.size,1,none⟩=some (.slice a L c):=by
    have hsz1:w.heap.size<w1.heap.size:=by rw[HS1.out];omega
    rw[Azf hbel4 hsz1,Azf (Ext.alloc (Ext.refl w1) _) hsz1,HW1.out,Ayp];rfl
   clear hb4 hbel4
   go_wp2_with fail
   go_loopw [4] (Ajl (w1.alloc (Obj.cells #[A0s none,Au8 none 0 0] 276)) w1.heap.size true z.natAbs) (fun i _=>(RowKit.intOf i+1).toNat)
   case atStart=>exact⟨(Aa z.natAbs).length,Atb _,by rw[<-HL.out],by rw[Ve];exact .inr HB4.out,HBEL4.out⟩
   case round =>
    obtain⟨k,hk,rfl,hbd,hbel⟩:=hrel;have hsz0:=hbel.size;rw[Bu]at hsz0;have HXW:RowKit.Hid (Ext w wr):=As8 (Ext.trans HX1.out (Av0 (Ext.alloc (Ext.refl w1) (Obj.cells #[A0s none,Au8 none 0 0] 276)) hbel));rcases k with _|k
    ·have hne:Cr true z.natAbs 0≠[]:=by rw[HNEG.out,K5 z hz,Cy,Bg];split;simp;exact Il _
     have HBD:=As8 hbd;clear hbd
     go_wp2_with fail
     refine (Tryz.Builder_String w1.heap.size w1.heap.size (Cr true z.natAbs 0) wr HBD.out hne).mono ?_;rintro e w2 ⟨rfl,hb2⟩
     go_wp2_with fail
     go_ret
     refine⟨?_,Av0 HXW.out ?_⟩
     ·rw[HNEG.out,K5 z hz];rfl
     ·exact Axj hb2 (by have:=HS1.out;omega)
    ·have hsz1:w.heap.size<w1.heap.size:=by rw[HS1.out];omega
     have hc1:wr.cell? ⟨w.heap.size,1,none⟩=some (.slice a L c):=by
      rw[Azf hbel hsz1,Azf (Ext.alloc (Ext.refl w1) _) hsz1,HW1.out,Ayp];rfl
     obtain⟨ba,offa,rfl,hca⟩:=HROW.out.at (j:=k) oV;have hcb:=HXW.out.cell hca;clear hca;have hlow:(Aa z.natAbs).getD k 0<1000000000:=(Am _).getD k;obtain⟨x,hx⟩:∃ x,x=(Aa z.natAbs).getD k 0:=⟨_,rfl⟩;rw[<-hx]at hcb hlow;have XX:=As8 hx;have HBD:=As8 hbd;have HBEL:=As8 hbel;have HK:=As8 hk;clear hx hbd hbel hk hsz1;rw[show ((k+1:Nat):Int)-1=k by omega];have hkL:k<L:=by have:=HK.out;have:=HL.out;omega
     have hsw:(Cr true z.natAbs (k+1)).length<=1+9*L+1:=by have:=Q9 true z.natAbs (k+1);rw[<-HL.out]at this;exact this
     have hd9:=It hlow;have hdl:=decDigits_length x;have HSW:=As8 hsw;have HDL:=As8 hdl;have HD9:=As8 hd9;clear hsw hdl hd9;by_cases htop:k+1=L
     ·have hkt:¬ ((k:Int)<(L:Int)-1):=oV
      have HTOP:=As8 htop;clear htop
      go_wp2_with fail
      refine (D4 x oV _ (Mz HTAB.out HXW.out)).mono ?_;rintro e w2 ⟨rfl,hx2⟩;have HX2:=As8 hx2;clear hx2;have hc2:=HX2.out.cell hc1;clear hc1 hcb
      go_wp2_with fail
      refine (Cp w1.heap.size w1.heap.size (byteCells (Cr true z.natAbs (k+1))) ⟨(decDigits x).toArray⟩ w2 (Eb HBD.out HX2.out) (by rw[byteCells_length,Axl,HDL.out];have:=HSW.out;have:=HD9.out;omega) (by have:=HX2.out.size;omega)).mono ?_;rintro e w3 ⟨rfl,hb3,hbel3⟩;have htx:=Vh (neg:=true) (n:=z.natAbs) (k:=k) (by rw[<-HL.out];exact HTOP.out);rw[<-XX.out]at htx;rw[strCells_toArray,C2,<-htx]at hb3
      go_wp2_with fail
      refine⟨⟨k,by rw[<-HL.out];omega,by go_num,.inr hb3,Av0 HBEL.out (Av0 (Axj HX2.out oV) hbel3)⟩,by simp only[RowKit.intOf];omega⟩
     ·have hkt:(k:Int)<(L:Int)-1:=oV
      have HTOP:=As8 htop;clear htop
      go_wp2_with fail
      refine (D4 x oV _ (Mz HTAB.out HXW.out)).mono ?_;rintro e w2 ⟨rfl,hx2⟩;have HX2:=As8 hx2;clear hx2;have hc2:=HX2.out.cell hc1;clear hc1 hcb;have hsl:(⟨(decDigits x).toArray⟩:ByteArray).size=nDigits x:=by rw[Axl];exact HDL.out
      go_wp2_with fail
      rw[show wrap64 (9-(nDigits x:Int))=((9-nDigits x:Nat):Int) by have:=HD9.out;unfold wrap64;omega];have hrep:=Tryz.strings_Repeat ⟨#[48]⟩ (9-nDigits x) w2 oV (by have:=HD9.out;simp[ByteArray.size];omega);refine hrep.mono ?_;rintro e w4 ⟨rfl,hx4⟩;have HX4:RowKit.Hid (Ext w2 w4):=As8 hx4;clear hx4 hrep
      go_wp2_with fail
      refine (Cp w1.heap.size w1.heap.size (byteCells (Cr true z.natAbs (k+1))) ⟨(repeatL [48] (9-nDigits x)).toArray⟩ w4 (Eb (Eb HBD.out HX2.out) HX4.out) (by rw[byteCells_length,Axl,Fy,Aur];have:=HSW.out;omega) (by have:=HX2.out.size;have:=HX4.out.size;omega)).mono ?_;rintro e w5 ⟨rfl,hb5,hbel5⟩;rw[strCells_toArray,C2]at hb5
      go_wp2_with fail
      refine (Cp w1.heap.size w1.heap.size _ ⟨(decDigits x).toArray⟩ w5 (.inr hb5) (by rw[byteCells_length,Axl,HDL.out,Atg,Fy,Aur];have:=HSW.out;have:=HD9.out;omega) (by have:=HX2.out.size;have:=HX4.out.size;have:=hbel5.size;omega)).mono ?_;rintro e w3 ⟨rfl,hb3,hbel3⟩;have htx:=Ux (neg:=true) (n:=z.natAbs) (k:=k) (by rw[<-HL.out];have:=HTOP.out;omega);rw[<-XX.out]at htx;rw[strCells_toArray,C2,Au1,<-htx]at hb3;have h6:=HX2.out.size
      go_wp2_with fail
      refine⟨⟨k,by rw[<-HL.out];omega,by go_num,.inr hb3,Av0 HBEL.out (Av0 (Axj HX2.out oV) (Av0 (Axj HX4.out oV) (Av0 hbel5 hbel3)))⟩,by simp only[RowKit.intOf];omega⟩
end
section
open Go.Shelf Go.RowKit Go.Sort Go.Lib
variable {l:List UInt8}
theorem Aij (hd:G9 l):∀ (acc:Nat),rdA acc l<1000000000000000000->parseUintM 18446744073709551615 acc l=.ok (rdA acc l):=by
 induction l with
 |nil=>intro acc _;rfl
 |cons b l ih =>
  intro acc h;have hb:=hd b mV;have e1:rdA acc (b::l)=rdA (10*acc+(b.toNat-48)) l:=rfl;rw[e1]at h⊢;have h2:10*acc+(b.toNat-48)<=rdA (10*acc+(b.toNat-48)) l:=by
   rw[Ad8];have:1<=10^l.length:=Nat.one_le_pow _ _ oV;have:=Nat.mul_le_mul_left (10*acc+(b.toNat-48)) this;omega
  have ih':=ih (fun x hx=>hd x (by simp[hx])) (10*acc+(b.toNat-48)) h;rw[parseUintM,if_pos hb,if_neg oV];rw[show 10*acc+(b.toNat-48)=acc*10+(b.toNat-48) by omega]at ih' h h2⊢
  first
   |(rw[if_neg oV];exact ih')
   |(simp only[];rw[if_neg oV];exact ih')
theorem Aib (hd:G9 l)(hl:l≠[])(h9:l.length<=9):parseUintB 64 l=.ok (rd l):=by
 rw[parseUintB,if_neg hl];refine Aij hd 0 ?_;have h1:=Xh hd;have h2:10^l.length<=10^9:=Atq oV h9;have h3:rdA 0 l=rd l:=rfl;omega
theorem Iy {neg:Bool}(hd:G9 l)(hl:l≠[]):trimPrefix (Bg neg l) [45]=l/\hasPrefix (Bg neg l) [45]=neg:=by
 cases neg
 ·cases l with
  |nil=>exact absurd rfl hl
  |cons b l =>
   have hb:=hd b mV;have:¬ (45:UInt8)=b:=by rintro rfl;simp at hb
   simp[Bg,trimPrefix,hasPrefix,A25,this]
 ·simp[Bg,trimPrefix,hasPrefix,A25]
theorem Z6 {w:World}{B:Nat}{e:TypeId}{a:Option Addr}{n c:Nat}{xs:List Value}(h:w.ownsRow B e 1 (.slice a n c) n xs)(hn:xs.length=n):Row w a xs:=by
 intro j hj;rcases h.2 with ⟨h1,h2⟩|⟨g,cap,cur,h1,h2⟩
 ·omega
 ·simp only[Atr]at h1;obtain⟨rfl,_,rfl⟩:=h1;refine⟨g,0,rfl,?_⟩;have:=h.cells (g:=g) rfl j (xs.getD j (.bool false)) (by rw[List.getD_eq_getElem?_getD,As5 hj];rfl);rw[A3l]at this;exact this
theorem Sr (w:World)(e:TypeId)(s:ByteArray):Ext w (bytesWorld w e s):=bytesWorld_below w e s
def Aog (W0:World)(B:Nat)(l:List UInt8)(v i:Value)(wr:World):Prop :=
 ∃ (e:Int) (ys:List Nat),e<=l.length/\i=.int .i64 e/\-9<e/\ys.length+e.toNat<=l.length/\Qf (rd l) (l.take e.toNat) ys/\wr.ownsRow B 236 1 v ys.length (Ay ys)/\Below B W0 wr
theorem Als:(prog.info? 236).map (fun i=>(i.zero,i.size,i.bytes))=some (some (.int .u64 0),1,8):=kV
set_option maxRecDepth 100000 in
theorem Ab9 (neg:Bool)(l:List UInt8)(w:World)(hd:G9 l)(hl:l≠[])(hlen:l.length<=1000000000) :
 Calls prog 110 #[.string ⟨(Bg neg l).toArray⟩] w (Y4 w (Bt neg (rd l))):=by
 obtain⟨i0,hi,hz0,hz1,hz2⟩:=info_parts Als;obtain⟨ht1,ht2⟩:=Iy (neg:=neg) hd hl;have HD:=As8 hd;have HL:=As8 hl;clear hd hl;obtain⟨w1,hw1⟩:∃ w1,w1=w.alloc (Obj.cells #[Ayi false,Au8 none 0 0] 101):=⟨_,rfl⟩;have hs1:w1.heap.size=w.heap.size+1:=by rw[hw1];exact Bu _ _
 have HW1:=As8 hw1;have HS1:=As8 hs1;clear hw1 hs1
 go_enter func110,ntmps110
 go_wp2_with fail
 rw[<-HW1.out];refine (Tryz.strings_CutPrefix ⟨(Bg neg l).toArray⟩ ⟨#[45]⟩ w1).mono ?_;rintro e w2 ⟨rfl,rfl⟩;rw[show trimPrefix (⟨(Bg neg l).toArray⟩:ByteArray).data.toList (⟨#[45]⟩:ByteArray).data.toList=l from ht1,show hasPrefix (⟨(Bg neg l).toArray⟩:ByteArray).data.toList (⟨#[45]⟩:ByteArray).data.toList=neg from ht2];clear ht1 ht2
 go_wp2_with fail
 go_loopw [5,6] (Aog w2 w2.heap.size l) (fun _ i _=>(RowKit.intOf i+9).toNat)
 case atStart=>exact⟨l.length,[],oV,mV,oV,mV,⟨Low.nil,by simpa using HD.out,by simp[val]⟩,⟨rfl,.inl ⟨rfl,rfl⟩⟩,Az2 _ _⟩
 case round =>
  obtain⟨e,ys,he,rfl,he9,hle,hst,hown,hbel⟩:=hrel;obtain⟨a,n,c,rfl⟩:∃ a n c,u5=.slice a n c:=by
   rcases hown.2 with ⟨h1,h2⟩|⟨g,cap,cur,h1,h2⟩
   ·exact⟨_,_,_,h1⟩
   ·exact⟨_,_,_,h1⟩
  have HST:=As8 hst;have HOWN:=As8 hown;have HBEL:=As8 hbel;have hsz:=hbel.size;clear hst hown hbel;by_cases h0:0<e
  ·obtain⟨E,rfl⟩:∃ E:Nat,e=E:=⟨e.toNat,oV⟩;have hEl:E<=l.length:=oV
   have hE0:0<E:=oV
   have hmx:max (0:Int) ((E:Int)-9)=((E-9:Nat):Int):=oV
   have hsl:∀ W,(Axs 9 (.string ⟨l.toArray⟩) (some (.int .i64 ((E-9:Nat):Int))) (some (.int .i64 (E:Int))) none).run prog W=.ok (.string ⟨((l.take E).drop (E-9)).toArray⟩) W:=by
    intro W;have h1:(0:Int)<=((E-9:Nat):Int)/\((E-9:Nat):Int)<=(E:Int):=oV
    have h2:(0:Int)<=(E:Int)/\(E:Int)<=(⟨l.toArray⟩:ByteArray).size:=by rw[Axl];omega
    have h3:(⟨l.toArray⟩:ByteArray).extract (E-9) E=⟨((l.take E).drop (E-9)).toArray⟩:=by
     rw[Lib.extract_mk,List.drop_take]
    simp only[Axs,At4,run_underlying Tryz.underlying9,Atf,Instr.slice,Instr.sliceBounds,Instr.sliceBound,asIntOf,Avt,if_true,Option.isSome,Sem.run_ite,h1,h2,and_self,Int.toNat_natCast];simp[h3]
   have hdd:G9 ((l.take E).drop (E-9)):=(HD.out.take E).drop (E-9);have hl9:((l.take E).drop (E-9)).length<=9:=gV
   have hne:(l.take E).drop (E-9)≠[]:=by intro h;have:=congrArg List.length h;simp at this;omega
   have hrd:=Xh hdd;have hr9:rd ((l.take E).drop (E-9))<1000000000:=Auf hrd (by rw[show (1000000000:Nat)=10^9 from rfl];exact Atq oV hl9);have hstep:=HST.out.step;rw[show (l.take ((E:Int)).toNat)=l.take E from rfl,Atm,Nat.min_eq_left hEl]at hstep;have hpu:=Tryz.strconv_ParseUint_10_at64_ok ⟨((l.take E).drop (E-9)).toArray⟩ (by rw[Axl];omega) (rd ((l.take E).drop (E-9))) (Aib hdd hne hl9) wr;have HPU:=As8 hpu;have HSTEP:=As8 hstep;clear hpu hstep hrd hdd hne hl9
   go_wp2_with fail
   obtain⟨d,hdef⟩:∃ d,d=rd ((l.take E).drop (E-9)):=⟨_,rfl⟩;rw[<-hdef]at hr9;have HDEF:=As8 hdef;clear hdef;refine HPU.out.mono ?_;rintro e w3 ⟨rfl,hw3⟩;rw[<-HDEF.out];have HX3:RowKit.Hid (Ext wr w3):=As8 (by
    rcases hw3 with rfl|rfl
    ·exact Ext.refl _
    ·exact Sr _ _ _)
   clear hw3;have hsz3:=HX3.out.size
   go_wp2_with (at_builtin;refine wpList_append_own _ rfl _ _ 99 rfl w2.heap.size 236 i0 (.int .u64 0) 1 8 Tryz.underlying99 hi hz0 hz1 hz2 rfl fV _ _ _ rfl ((Rd HOWN.out HX3.out).alloc _) ⟨w3.heap.size,0,none⟩ 1 1 [.int .u64 (d:Int)] rfl rfl ?c1 ?c2 ?c3 ?c4 ?c5 ?_)
   case c1 =>
    intro j u hj
    match j,hj with
    |0,hj=>simp at hj;subst hj;simp[Addr.add]
   case c2=>intro u hu;simp at hu;subst hu;rfl
   case c3=>unfold maxLen;omega
   case c4=>omega
   case c5=>simp;omega
   intro v' w4 hown' hgrow _
   go_wp2_with fail
   refine⟨⟨(E:Int)-9,ys++[d],oV,by go_num,oV,gV,?_,by simpa[Ay] using hown',?_⟩,by simp only[RowKit.intOf];omega⟩
   ·rw[HDEF.out,show (l.take ((E:Int)-9).toNat)=(l.take E).take (E-9) by rw[List.take_take];congr 1;omega];exact HSTEP.out
   ·have h5:Below w2.heap.size wr w3:=Axj HX3.out oV;exact (((HBEL.out.trans h5).alloc oV _).grown hgrow gV (fun k hk=>(HOWN.out.lt k hk).1))
  ·have hln:=HOWN.out.1;have hval:val ys=rd l:=by
    have:=HST.out.sum;rw[show e.toNat=0 by omega]at this;simpa[rd,rdA] using this.symm
   obtain⟨rfl,hcap⟩:n=ys.length/\ys.length<=c:=by
    rcases HOWN.out.2 with ⟨h1,h2⟩|⟨g,cap,cur,h1,h2,h3,h4,_⟩
    ·simp at h1;omega
    ·simp at h1;obtain⟨_,rfl,rfl⟩:=h1;exact⟨rfl,h4⟩
   have hrow:=Z6 HOWN.out mV;have HROW:=As8 hrow;have HVAL:=As8 hval;clear hrow hval hln
   go_wp2_with fail
   refine (F5 a c ys.length ys wr rfl oV hcap HROW.out).mono ?_;rintro e w' ⟨rfl,hww⟩;subst hww
   go_wp2_with fail
   refine (Ad2 neg _ (rd l) wr (Dg HST.out.low HROW.out HVAL.out hcap) (As9 (A0 (k:=l.length) (Auf (Xh HD.out) (by rw[Aeb];exact Atq oV oV))) oV)).mono ?_;rintro e w5 ⟨v5,rfl,⟨a5,n5,c5,rfl,hs5⟩,hx5⟩;have HX5:=As8 hx5;have HS5:=As8 hs5;have hlt:w.heap.size<w2.heap.size:=by rw[HS1.out];omega
   have BB:RowKit.Hid (w5.heap[w.heap.size]?=some (.cells #[.bool false,.slice none 0 0] 101 (0,0))):=As8 (by
    rw[Azr HX5.out _ oV,HBEL.out.block _ hlt,HW1.out,Cg])
   have d0:=Ans BB.out;have d1:=An9 BB.out;have f0:=frozen_of_row _ _ 0 _ _ BB.out;have f1:=frozen_of_row _ _ 1 _ _ BB.out;clear hs5 hx5
   go_wp2_with fail
   have HXX:Ext w w5:=by
    refine Ext.trans (b:=w2) (by rw[HW1.out];exact Ext.alloc (Ext.refl w) _) ?_;exact Av0 HBEL.out (Axj HX5.out oV)
   refine Y0 rfl rfl (Aj3 BB.out) rfl ⟨_,rfl,?_,Asz HXX (Atb _) _ _⟩;have hs:=HS5.out.grown (Anp BB.out) (Arx _ _ (.bool (decide (Bt neg (rd l)<0))) (.slice a5 n5 c5));exact Aoy rfl hs
end
section
variable {q:Rat}{z:Int}
def D1 (u:PH):Prop:=∀ w,Ek u w->A2b prog w "internal/strconv.uint64pow10" .u64 A05
theorem D1.mono {u u':PH}(h:D1 u)(hl:PH.le u u'):D1 u':=fun w hp=>h w (fun g o hg=>hp g o (hl g o hg))
section
variable {u:PH} {x:Value}
theorem Zv {k:Nat}(ht:D1 u)(hk:k<18446744073709551616):Fn0 prog 165 [.int .u64 (k:Int),.int .i64 10] u fun v _=>v=.string (mkS (Au9 k)) :=
 Fn0.ofW (fun v _=>v=.string (mkS (Au9 k))) (fun w hp=>(D4 k hk w (ht w hp)).mono fun _ _ ⟨e,h⟩=>⟨_,e,rfl,h⟩) (fun _ _ _ h _ _ _=>h)
theorem Ig (h:Aua z.natAbs<=400):Fn0 prog 110 [.string (mkS (Atn z))] u fun v u'=>Bw u' v z:=by
 refine Fn0.ofW (fun v w=>Om w v z) (fun w _=>?_) (fun _ _ _ h _ c _=>Bw.ofW h c);have:=Ab9 (decide (z<0)) (Au9 z.natAbs) w (Mm _) (Il _) (by rw[Awb];omega);rw[V5,<-Cy]at this;exact this
theorem N5 (ht:D1 u)(h:Bw u x z)(hs:nl z.natAbs<=100000000000):Fn0 prog 166 [x] u fun v _=>v=.string (mkS (Atn z)) :=
 Fn0.ofW (fun v _=>v=.string (mkS (Atn z))) (fun w hp=>(Vn x z w (h.toW hp) hs (ht w hp)).mono fun _ _ ⟨e,h⟩=>⟨_,e,rfl,h⟩) (fun _ _ _ h _ _ _=>h)
end
theorem Cu.at {u:PH}{a:Option Addr}{n c k j:Nat}(h:Cu u (.slice a n c) k)(hj:j<(Aa k).length):∃ b off,a=some ⟨b,off,none⟩/\ElP u b (off+j*1) (.int .u64 ((Aa k).getD j 0:Nat)):=by
 obtain⟨a',c',h1,h2,h3⟩:=h;simp only[Atr]at h1;obtain⟨rfl,_,rfl⟩:=h1;obtain⟨b,off,e1,e2⟩:=h3 j (by simpa using hj);refine⟨b,off,e1,fun i y hi=>?_⟩;have hx:(Ay (Aa k)).getD j (.bool false)=.int .u64 ((Aa k).getD j 0:Nat):=by simp[Ay,hj]
 rw[hx]at e2;have:i=0/\y=.int .u64 ((Aa k).getD j 0:Nat):=by
  match i,hi with
  |0,hi=>simp[Atw]at hi;simp[hi]
 obtain⟨rfl,rfl⟩:=this;simpa using e2
theorem Kn {u:PH}{x:Value}(ht:D1 u)(h:Bw u x z)(hs:nl z.natAbs<=100000000000):Fn0 prog 103 [x] u fun v _=>v=.int .i64 (Aua z.natAbs:Nat):=by
 obtain⟨a,n,c,rfl,hn⟩:=h;obtain rfl:n=(Aa z.natAbs).length:=by obtain⟨_,_,h1,_⟩:=id hn;simp at h1;exact h1.2.1
 generalize decide (z<0)=b;have hs':(Aa z.natAbs).length<=100000000000:=hs;refine Fn0.o func103 ?_;by_cases h0:z.natAbs=0
 ·refine G.eT' ((Aa z.natAbs).length:Int) 0 (by rw[h0,Bb];rfl) ?_;exact G.r (.int .i64 1) ⟨rfl,by rw[h0,Axe oV];rfl⟩
 ·have hp:0<(Aa z.natAbs).length:=Cm.2 oV;have htop:=Q3 h0;have hlow:=(Am z.natAbs).getD ((Aa z.natAbs).length-1);obtain⟨bb,off,rfl,he⟩:=hn.at (j:=(Aa z.natAbs).length-1) oV;have h9:=It hlow;have hdl:=Awb ((Aa z.natAbs).getD ((Aa z.natAbs).length-1) 0);have hsz:(mkS (Au9 ((Aa z.natAbs).getD ((Aa z.natAbs).length-1) 0))).size=(Au9 ((Aa z.natAbs).getD ((Aa z.natAbs).length-1) 0)).length:=Go.Lib.size_mk _;refine G.eF ((Aa z.natAbs).length:Int) 0 ?_;refine G.s ((Aa z.natAbs).length:Int) 1 (((Aa z.natAbs).length-1:Nat):Int) ?_;refine G.mul 9 (((Aa z.natAbs).length-1:Nat):Int) ((9*((Aa z.natAbs).length-1):Nat):Int) kV oV oV oV ?_;refine G.a bb off (Aa z.natAbs).length c ((Aa z.natAbs).length-1) 1 oV ?_;refine G.lU none bb (off+((Aa z.natAbs).length-1)*1) (.int .u64 ((Aa z.natAbs).getD ((Aa z.natAbs).length-1) 0:Nat)) he ?_;refine G.c call165 (Zv (k:=(Aa z.natAbs).getD ((Aa z.natAbs).length-1) 0) ht oV) ?_;rintro v1 u1 l1 rfl;refine G.p ((9*((Aa z.natAbs).length-1):Nat):Int) ((Au9 ((Aa z.natAbs).getD ((Aa z.natAbs).length-1) 0)).length:Int) ((Aua z.natAbs:Nat):Int) ?_;exact G.r _ ⟨rfl,rfl⟩
theorem Amy {u:PH}{x:Value}(ht:D1 u)(hx:An u x q)(h:Tx q):Fn0 prog 104 [x] u fun v _=>v=.string (mkS (Ap q)):=by
 obtain⟨b,a,n,c,b',a',n',c',rfl⟩:=hx.opn;have hd:=As9 (Bi h.2) (show 400<=4000000000000 by omega);refine Fn0.o func104 ?_;refine G.c call101 (Im hx hd) ?_;rintro v1 u1 l1 rfl;by_cases h1:q.den=1
 ·rw[decide_eq_true h1];refine G.c call166 (N5 (ht.mono l1) (hx.num.mono l1) (As9 (Bi h.1) oV)) ?_;rintro v2 u2 l2 rfl;exact G.r (.string (mkS (Atn q.num))) ⟨rfl,by rw[Ap,if_pos h1]⟩
 ·rw[decide_eq_false h1];refine G.c call166 (N5 (ht.mono l1) (hx.num.mono l1) (As9 (Bi h.1) oV)) ?_;rintro v2 u2 l2 rfl;have e1:=F9 h.1;have e2:=F9 h.den;refine G.addS (Atn q.num) [47] kV gV ?_;refine G.c call166 (N5 (ht.mono (l1.trans l2)) (hx.den.mono (l1.trans l2)) (As9 (Bi h.den) oV)) ?_;rintro v3 u3 l3 rfl;refine G.addS (Atn q.num++[47]) (Atn (q.den:Int)) kV gV ?_;exact G.r (.string (mkS (Atn q.num++[47]++Atn (q.den:Int)))) ⟨rfl,by rw[Ap,if_neg h1];simp⟩
theorem Qn {u:PH}{x:Value}(ht:D1 u)(hx:An u x q)(h:Tx q):Fn0 prog 43 [x] u fun v _=>v=.tuple #[.string (mkS (Ap q)),.int .i64 0]:=by
 obtain⟨b,a,n,c,b',a',n',c',rfl⟩:=hx.opn;have h2:=h.2;have h1:=h.1;refine Fn0.o func43 ?_;refine G.c call103 (Kn ht hx.num (As9 (Bi h.1) oV)) ?_;rintro v1 u1 l1 rfl;refine G.gF ((Aua q.num.natAbs:Nat):Int) 400 ?_;refine G.c call103 (Kn (ht.mono l1) (hx.den.mono l1) (As9 (Bi h.den) oV)) ?_;rintro v2 u2 l2 rfl;have h3:=h.den;refine G.gF ((Aua ((q.den:Int)).natAbs:Nat):Int) 400 ?_;refine G.c call104 (Amy (ht.mono (l1.trans l2)) (hx.mono (l1.trans l2)) h) ?_;rintro v3 u3 l3 rfl;exact G.r _ ⟨rfl,rfl⟩
end
section
variable {c:UInt8}{l:List UInt8}{q:Rat}{u:PH}
theorem Add (h:∀ b∈l,b≠c):Ayd l c = -1:=by
 induction l with
 |nil=>rfl
 |cons b l ih =>
  have h1:(b==c)=false:=by rw[beq_eq_false_iff_ne];exact h b mV
  rw[Ayd,h1,ih (fun x hx=>h x (by simp[hx]))];rfl
theorem Ai8 {l r:List UInt8}(h:∀ b∈l,b≠c):Ayd (l++c::r) c=l.length:=by
 induction l with
 |nil=>simp[Ayd]
 |cons b l ih =>
  have h1:(b==c)=false:=by rw[beq_eq_false_iff_ne];exact h b mV
  have h2:=ih (fun x hx=>h x (by simp[hx]));rw[List.cons_append,Ayd,h1,h2];have h3:(((l.length:Nat):Int) == -1)=false:=by rw[beq_eq_false_iff_ne];omega
  simp[h3]
theorem Aj9 :Fn0 prog 214 [.string (mkS l),.string (mkS [c])] u fun v _=>v=.int .i64 (Ayd l c) :=
 Fn0.ofW (fun v _=>v=.int .i64 (Ayd l c)) (fun w _=>(Tryz.stringslite_Index_one (mkS l) c w).mono fun _ _ ⟨e,h⟩=>⟨_,e,rfl,by rw[h];exact Ext.refl _⟩) (fun _ _ _ h _ _ _=>h)
theorem Asq {T:List UInt8}(h:∀ b∈T,b≠47):Fn0 prog 107 [.string (mkS T),.string (mkS [47])] u fun v _=>v=.tuple #[.string (mkS T),.string (mkS []),.bool false]:=by
 have hin:Fn0 prog 167 [.string (mkS T),.string (mkS [47])] u fun v _=>v=.tuple #[.string (mkS T),.string (mkS []),.bool false]:=by
  refine Fn0.o func167 ?_;refine G.c call214 (Aj9 (l:=T) (c:=47)) ?_;rintro v1 u1 l1 rfl;rw[Add h];refine G.hF (-1) 0 ?_;exact G.r (.tuple #[.string (mkS T),.string (mkS []),.bool false]) ⟨rfl,rfl⟩
 refine Fn0.o func107 ?_;refine G.c call167 hin ?_;rintro v1 u1 l1 rfl;exact G.r _ ⟨rfl,rfl⟩
theorem Ast {A B:List UInt8}(h:∀ b∈A,b≠47)(hl:(A++47::B).length<=1000000):Fn0 prog 107 [.string (mkS (A++47::B)),.string (mkS [47])] u fun v _=>v=.tuple #[.string (mkS A),.string (mkS B),.bool true]:=by
 have hlen:(A++47::B).length=A.length+1+B.length:=gV
 have htk:(A++47::B).take A.length=A:=mV
 have hdr:(A++47::B).drop (A.length+1)=B:=by rw[<-List.drop_drop];simp
 have hix:=Ai8 (r:=B) h;generalize A++47::B=T at *
 have hsize:(mkS T).size=T.length:=Go.Lib.size_mk _;have hin:Fn0 prog 167 [.string (mkS T),.string (mkS [47])] u fun v _=>v=.tuple #[.string (mkS A),.string (mkS B),.bool true]:=by
  refine Fn0.o func167 ?_;refine G.c call214 (Aj9 (l:=T) (c:=47)) ?_;rintro v1 u1 l1 rfl;rw[hix];refine G.hT (A.length:Int) 0 ?_;refine G.sliceSTo T A.length kV kV oV ?_;rw[htk];refine G.p (A.length:Int) 1 ((A.length+1:Nat):Int) ?_;refine G.sliceSFrom T (A.length+1) kV kV oV ?_;rw[hdr];exact G.r (.tuple #[.string (mkS A),.string (mkS B),.bool true]) ⟨rfl,rfl⟩
 refine Fn0.o func107 ?_;refine G.c call167 hin ?_;rintro v1 u1 l1 rfl;exact G.r _ ⟨rfl,rfl⟩
theorem Ase (h:Tx q):Fn0 prog 107 [.string (mkS (Ap q)),.string (mkS [47])] u fun v _=>v=.tuple #[.string (mkS (Atn q.num)),.string (mkS (if q.den=1 then [] else Atn (q.den:Int))),.bool (decide (q.den≠1))]:=by
 have l1:=F9 h.1;have l2:=F9 h.den;unfold Ap;by_cases hd:q.den=1
 ·rw[if_pos hd,if_pos hd,decide_eq_false (by simp[hd])];exact Asq (Mv _)
 ·rw[if_neg hd,if_neg hd,decide_eq_true hd];exact Ast (Mv _) gV
theorem An.mk {u:PH}{q:Rat}{y z:Int}{b b':Bool}{a a':Option Addr}{n c n' c':Nat}(h1:Bw u (.agg #[.bool b,.slice a n c]) y)(h2:Bw u (.agg #[.bool b',.slice a' n' c']) z)(hy:q.num=y)(hz:(q.den:Int)=z) :
 An u (.agg #[.bool b,.slice a n c,.bool b',.slice a' n' c']) q:=by
 obtain⟨_,_,_,e1,i1⟩:=h1;obtain⟨_,_,_,e2,i2⟩:=h2;subst hy hz;rw[decide_eq_false oV]at e2;simp only[Value.agg.injEq,Array.mk.injEq,List.cons.injEq,Value.bool.injEq,Atr,and_true]at e1 e2;obtain⟨rfl,rfl,rfl,rfl⟩:=e1;obtain⟨rfl,rfl,rfl,rfl⟩:=e2;exact⟨_,_,_,_,_,_,rfl,i1,i2⟩
theorem Ep (h:Tx q):Fn0 prog 54 [.string (mkS (Ap q))] u fun v u'=>An u' v q:=by
 refine Fn0.o func54 ?_;refine G.c call107 (Ase h) ?_;rintro v1 u1 l1 rfl;by_cases hd:q.den=1
 ·rw[if_pos hd,decide_eq_false (by simp[hd])];refine G.c call110 (Ig h.1) ?_;intro v2 u2 l2 k2;obtain⟨b2,a2,n2,c2,rfl⟩:=k2.opn;have hr1:=Ig (u:=u2) (z:=1) (by rw[Axe fV];omega);rw[He]at hr1;refine G.c call110 hr1 ?_;intro v3 u3 l3 k3;obtain⟨b3,a3,n3,c3,rfl⟩:=k3.opn;exact G.r (.agg #[.bool b2,.slice a2 n2 c2,.bool b3,.slice a3 n3 c3]) ⟨rfl,An.mk (k2.mono l3) k3 rfl (by rw[hd];rfl)⟩
 ·rw[if_neg hd,decide_eq_true hd];refine G.c call110 (Ig h.1) ?_;intro v2 u2 l2 k2;obtain⟨b2,a2,n2,c2,rfl⟩:=k2.opn;refine G.c call110 (Ig h.den) ?_;intro v3 u3 l3 k3;obtain⟨b3,a3,n3,c3,rfl⟩:=k3.opn;exact G.r (.agg #[.bool b2,.slice a2 n2 c2,.bool b3,.slice a3 n3 c3]) ⟨rfl,An.mk (k2.mono l3) k3 rfl rfl⟩
end
section
variable {e v:Value}{es:List Value}{q:Rat}{qs:List Rat}{sz:Nat}{u:PH}
def Bo (ts:List (List UInt8)):List Value:=ts.map fun t=>Value.string (mkS t)
theorem Bm (ts:List (List UInt8)):(Bo ts).length=ts.length:=by simp[Bo]
theorem Ss (ts:List (List UInt8))(t:List UInt8):Bo ts++[.string (mkS t)]=Bo (ts++[t]):=by simp[Bo]
theorem Dv (ts:List (List UInt8)):Ax 1 (Bo ts):=by
 intro e he;simp only[Bo,Ate]at he;obtain⟨b,_,rfl⟩:=he;exact⟨rfl,fun x hx=>by simp[Atw]at hx;subst hx;rfl⟩
def Eg (u:PH)(v:Value)(ts:List (List UInt8)):Prop:=Ad u v 1 (Bo ts)
def Ix (u:PH)(es:List Value)(qs:List Rat):Prop:=es.length=qs.length/\∀ (j:Nat) (q:Rat),qs[j]?=some q->∃ e,es[j]?=some e/\An u e q
theorem Ix.mono {u u':PH}{es:List Value}{qs:List Rat}(h:Ix u es qs)(hl:PH.le u u'):Ix u' es qs :=
 ⟨h.1,fun j q hj=>by obtain⟨e,h1,h2⟩:=h.2 j q hj;exact⟨e,h1,h2.mono hl⟩⟩
theorem Ix.snoc (h:Ix u es qs)(he:An u e q):Ix u (es++[e]) (qs++[q]):=by
 refine⟨by simp[h.1],fun j r hj=>?_⟩;by_cases hjl:j<qs.length
 ·rw[Atl hjl]at hj;obtain⟨e',h1,h2⟩:=h.2 j r hj;exact⟨e',by rw[Atl (by rw[h.1];exact hjl)];exact h1,h2⟩
 ·rw[At1 oV]at hj;have:j-qs.length=0:=by
   rcases At5 (j-qs.length) with h0|h0
   ·exact h0
   ·rw[Att gV]at hj;cases hj
  rw[this]at hj;simp at hj;subst hj;refine⟨e,?_,he⟩;rw[At1 (by rw[h.1];omega),h.1,this];rfl
def Bn (u:PH)(v:Value)(qs:List Rat):Prop:=∃ es,Ad u v 4 es/\Ix u es qs
theorem Bn.mono {u u':PH}{v:Value}{qs:List Rat}(h:Bn u v qs)(hl:PH.le u u'):Bn u' v qs:=by
 obtain⟨es,h1,h2⟩:=h;exact⟨es,h1.mono hl,h2.mono hl⟩
theorem An.ok (h:An u e q):Ax 4 [e]:=by
 obtain⟨b,a,n,c,b',a',n',c',rfl⟩:=h.opn;intro x hx;simp at hx;subst hx;exact⟨rfl,fun y hy=>by simp[Atw]at hy;rcases hy with rfl|rfl|rfl|rfl<;>rfl⟩
theorem Ad.opn (h:Ad u v sz es):∃ a c,v=.slice a es.length c:=by
 obtain⟨a,c,rfl,_⟩:=h;exact⟨a,c,rfl⟩
theorem Ad.at' {a:Option Addr}{n c sz:Nat}(h:Ad u (.slice a n c) sz es){j:Nat}(hj:es[j]?=some e):∃ b off,a=some ⟨b,off,none⟩/\ElP u b (off+j*sz) e:=by
 obtain⟨a',c',h1,h2,h3⟩:=h;simp only[Atr]at h1;obtain⟨rfl,_,rfl⟩:=h1;exact h3 j e hj
theorem P5 (h:Eg u v (qs.map Ap))(hq:∀ q∈qs,Tx q)(hl:qs.length<=1000000):Fn0 prog 117 [v] u fun v' u'=>Bn u' v' qs:=by
 obtain⟨a,c,rfl⟩:=Ad.opn h;have hlen:(Bo (qs.map Ap)).length=qs.length:=by rw[Bm,Ata]
 rw[hlen]at h⊢;refine Fn0.o func117 ?_;refine G.l (ι:=Nat×List Value×(Option Addr×Nat×Nat)) (fun i=>[(3,sV i.2.2.1 i.2.2.2.1 i.2.2.2.2),(6,sV a qs.length c),(7,iV qs.length),(8,iV i.1)]) (fun _=>[])
  (fun i u' m'=>i.1<=qs.length/\Ix u' i.2.1 (qs.take i.1)/\Ae PH.mt m' (.slice i.2.2.1 i.2.2.2.1 i.2.2.2.2) 103 4 i.2.1) (fun i=>qs.length-i.1) (0,[],(none,0,0)) ⟨mV,⟨mV,fun j q hj=>by simp at hj⟩,Ae.nil _ _ _⟩ ?_
 rintro J ⟨k,es,⟨a1,n1,c1⟩⟩ hJ u' m' hle ⟨hk,hF,hA⟩;simp only at hk hF hA hJ;have hel:=hF.1;rw[Atm]at hel;by_cases hlt:k<qs.length
 ·refine G.lT (k:Int) (qs.length:Int) ?_;have hqk:qs[k]?=some qs[k]:=As5 hlt;obtain⟨ba,oa,rfl,ea⟩:=Ad.at' (Ad.mono h hle) (j:=k) (e:=.string (mkS (Ap qs[k]))) (by simp[Bo,hqk]);have htx:=hq qs[k] (Ath hlt);refine G.a ba oa qs.length c k 1 oV ?_;refine G.lU none ba (oa+k*1) (.string (mkS (Ap qs[k]))) ea ?_;refine G.c call54 (Ep htx) ?_;intro v2 u2 l2 k2;obtain⟨b2,a2,n2,c2,b2',a2',n2',c2',rfl⟩:=k2.opn;refine G.B 103 4 64 (.agg #[.bool false,.slice none 0 0,.bool false,.slice none 0 0]) [.agg #[.bool b2,.slice a2 n2 c2,.bool b2',.slice a2' n2' c2']] k2.ok ?_;intro g u3 l3 e3;refine G.append 103 4 64 (.agg #[.bool false,.slice none 0 0,.bool false,.slice none 0 0]) PH.mt es [.agg #[.bool b2,.slice a2 n2 c2,.bool b2',.slice a2' n2' c2']] (.slice a1 n1 c1) g 0 1 1 kV rfl rfl oV hA e3 k2.ok rfl oV oV oV ?_;intro v4 m4 hA4;obtain⟨a4,c4,rfl⟩:=hA4.shape;refine G.i k ?_;refine G.b (hJ (k+1,es++[A2c #[.bool b2,.slice a2 n2 c2,.bool b2',.slice a2' n2' c2']],(a4,(es++[A2c #[.bool b2,.slice a2 n2 c2,.bool b2',.slice a2' n2' c2']]).length,c4)) _ _ _ cV ((hle.trans l2).trans l3) ⟨dV,?_,hA4⟩ dV);dsimp only;rw[At0,hqk];exact (hF.mono (l2.trans l3)).snoc (k2.mono l3)
 ·have:k=qs.length:=oV
  subst this;refine G.lF (qs.length:Int) (qs.length:Int) ?_;refine G.give PH.mt es _ kV hA (fun _=>.inl rfl) ?_;intro u3 l3 hL;rw[At9]at hF;exact G.r (.slice a1 n1 c1) ⟨rfl,es,hL,hF.mono l3⟩
theorem Ty (ht:D1 u)(h:Bn u v qs)(hq:∀ q∈qs,Tx q)(hl:qs.length<=1000000):Fn0 prog 67 [v] u fun v' u'=>∃ r,v'=.tuple #[r,.int .i64 0]/\Eg u' r (qs.map Ap):=by
 obtain⟨es,hL,hF⟩:=h;obtain⟨a,c,rfl⟩:=Ad.opn hL;rw[hF.1]at hL⊢;refine Fn0.o func67 ?_;refine G.l (ι:=Nat×(Option Addr×Nat×Nat)) (fun i=>[(4,sV i.2.1 i.2.2.1 i.2.2.2),(9,sV a qs.length c),(10,iV qs.length),(11,iV i.1)]) (fun _=>[])
  (fun i u' m'=>i.1<=qs.length/\Ae PH.mt m' (.slice i.2.1 i.2.2.1 i.2.2.2) 34 1 (Bo ((qs.take i.1).map Ap))) (fun i=>qs.length-i.1) (0,(none,0,0)) ⟨mV,Ae.nil _ _ _⟩ ?_
 rintro J ⟨k,⟨a1,n1,c1⟩⟩ hJ u' m' hle ⟨hk,hA⟩;simp only at hk hA hJ;have hel:(Bo ((qs.take k).map Ap)).length=k:=by simp[Bo];omega
 by_cases hlt:k<qs.length
 ·refine G.lT (k:Int) (qs.length:Int) ?_;have hqk:qs[k]?=some qs[k]:=As5 hlt;obtain⟨e,he,hfe⟩:=hF.2 k _ hqk;obtain⟨ba,oa,rfl,ea⟩:=Ad.at' (hL.mono hle) (j:=k) he;have htx:=hq qs[k] (Ath hlt);obtain⟨b2,a2,n2,c2,b2',a2',n2',c2',rfl⟩:=hfe.opn;refine G.a ba oa qs.length c k 4 oV ?_;refine G.lU (some 4) ba (oa+k*4) (.agg #[.bool b2,.slice a2 n2 c2,.bool b2',.slice a2' n2' c2']) ea ?_;refine G.c call43 (Qn (ht.mono hle) (hfe.mono hle) htx) ?_;rintro v2 u2 l2 rfl;refine G.nF 0 0 ?_;refine G.B 34 1 16 (.string (mkS [])) [.string (mkS (Ap qs[k]))] (Dv [Ap qs[k]]) ?_;intro g u3 l3 e3;refine G.append 34 1 16 (.string (mkS [])) PH.mt (Bo ((qs.take k).map Ap)) [.string (mkS (Ap qs[k]))] (.slice a1 n1 c1) g 0 1 1 kV rfl rfl oV hA e3 (Dv [Ap qs[k]]) rfl oV oV oV ?_;intro v4 m4 hA4;rw[Ss,show (qs.take k).map Ap++[Ap qs[k]]=(qs.take (k+1)).map Ap by rw[At0,hqk,Atk];rfl]at hA4;obtain⟨a4,c4,rfl⟩:=hA4.shape;refine G.i k ?_;exact G.b (hJ (k+1,(a4,(Bo ((qs.take (k+1)).map Ap)).length,c4)) _ _ _ cV ((hle.trans l2).trans l3) ⟨dV,hA4⟩ dV)
 ·have:k=qs.length:=oV
  subst this;refine G.lF (qs.length:Int) (qs.length:Int) ?_;refine G.give PH.mt _ _ kV hA (fun _=>.inl rfl) ?_;intro u3 l3 hL;rw[At9]at hL;exact G.r (.tuple #[.slice a1 n1 c1,.int .i64 0]) ⟨rfl,_,rfl,hL⟩
end
theorem Adu {u:PH}{v:Value}{ts:List (List UInt8)}{fid:Nat}{cap:Array Value}(h:Eg u v ts)(hl:ts.length<=1000000)
 (hcall:∀ args w,(callFunc fid args).run prog w=.ok (.enter fid args) w) (hf:∀ t∈ts,∀ u',PH.le u u'->Fn0 prog fid [.string (mkS t)] u' fun v _=>v=.bool false) :
 Fn0 prog 220 [v,.func (.func fid) #[] #[]] u fun v' _=>v'=.int .i64 (-1):=by
 obtain⟨a,c,rfl⟩:=Ad.opn h;rw[Bm]at h⊢;refine Fn0.o func220 ?_;refine G.l (ι:=Nat) (fun i=>[(0,sV a ts.length c),(1,.v (.func (.func fid) #[] #[])),(7,iV ts.length),(8,iV i)]) (fun _=>[])
  (fun i u' m'=>i<=ts.length/\m'=PH.mt) (fun i=>ts.length-i) 0 ⟨oV,rfl⟩ ?_
 rintro J k hJ u' m' hle ⟨hk,rfl⟩;by_cases hlt:k<ts.length
 ·refine G.lT (k:Int) (ts.length:Int) ?_;have htk:ts[k]?=some ts[k]:=As5 hlt;obtain⟨ba,oa,rfl,ea⟩:=Ad.at' (Ad.mono h hle) (j:=k) (e:=.string (mkS ts[k])) (by simp[Bo,htk]);refine G.a ba oa ts.length c k 1 oV ?_;refine G.lU none ba (oa+k*1) (.string (mkS ts[k])) ea ?_;refine G.c hcall (hf ts[k] (Ath hlt) u' hle) ?_;rintro v1 u1 l1 rfl;refine G.i k ?_;exact G.b (hJ (k+1) _ _ _ cV (hle.trans l1) ⟨oV,rfl⟩ oV)
 ·refine G.lF (k:Int) (ts.length:Int) ?_;exact G.r (.int .i64 (-1)) ⟨rfl,rfl⟩
theorem M8 {u:PH}{v:Value}{ts:List (List UInt8)}{fid:Nat}(h:Eg u v ts)(hl:ts.length<=1000000)
 (hcall:∀ args w,(callFunc fid args).run prog w=.ok (.enter fid args) w) (hf:∀ t∈ts,∀ u',PH.le u u'->Fn0 prog fid [.string (mkS t)] u' fun v _=>v=.bool false) :
 Fn0 prog 181 [v,.func (.func fid) #[] #[]] u fun v' _=>v'=.bool false:=by
 obtain⟨a,c,rfl⟩:=Ad.opn h;refine Fn0.o func181 ?_;refine G.c call220 (Adu (cap:=#[]) h hl hcall hf) ?_;rintro v1 u1 l1 rfl;refine G.hF (-1) 0 ?_;exact G.r (.bool false) ⟨rfl,rfl⟩
theorem Alh {u:PH}{v v':Value}{ts ts':List (List UInt8)}(h:Eg u v ts)(h':Eg u v' ts')(hl:ts.length<=1000000)(hl':ts'.length<=1000000) :
 Fn0 prog 21 [v,v'] u fun r _=>r=.bool (decide (ts=ts')):=by
 obtain⟨a,c,rfl⟩:=Ad.opn h;obtain⟨a',c',rfl⟩:=Ad.opn h';rw[Bm]at h h'⊢;rw[Bm];refine Fn0.o func21 ?_;by_cases hn:ts.length=ts'.length
 ·refine G.nF (ts.length:Int) (ts'.length:Int) ?_;refine G.l (ι:=Nat) (fun i=>[(0,sV a ts.length c),(1,sV a' ts'.length c'),(12,iV ts.length),(13,iV i)]) (fun _=>[])
   (fun i u' m'=>(i<=ts.length/\ts.take i=ts'.take i)/\m'=PH.mt) (fun i=>ts.length-i) 0 ⟨⟨oV,mV⟩,rfl⟩ ?_
  rintro J k hJ u' m' hle ⟨⟨hk,heq⟩,rfl⟩;by_cases hlt:k<ts.length
  ·refine G.lT (k:Int) (ts.length:Int) ?_;have hlt':k<ts'.length:=oV
   have htk:ts[k]?=some ts[k]:=As5 hlt;have htk':ts'[k]?=some ts'[k]:=As5 hlt';obtain⟨ba,oa,rfl,ea⟩:=Ad.at' (Ad.mono h hle) (j:=k) (e:=.string (mkS ts[k])) (by simp[Bo,htk]);obtain⟨bb,ob,rfl,eb⟩:=Ad.at' (Ad.mono h' hle) (j:=k) (e:=.string (mkS ts'[k])) (by simp[Bo,htk']);refine G.a ba oa ts.length c k 1 oV ?_;refine G.lU none ba (oa+k*1) (.string (mkS ts[k])) ea ?_;refine G.a bb ob ts'.length c' k 1 oV ?_;refine G.lU none bb (ob+k*1) (.string (mkS ts'[k])) eb ?_;by_cases he:ts[k]=ts'[k]
   ·refine G.y ts[k] ts'[k] he ?_;refine G.i k ?_;exact G.b (hJ (k+1) _ _ _ cV hle ⟨⟨oV,by rw[At0,At0,heq,htk,htk',he]⟩,rfl⟩ oV)
   ·refine G.x ts[k] ts'[k] he ?_;exact G.r (.bool false) ⟨rfl,by rw[decide_eq_false];rintro rfl;exact he rfl⟩
  ·refine G.lF (k:Int) (ts.length:Int) ?_;have:ts=ts':=by rw[Atp oV,Atp oV]at heq;exact heq
   exact G.r (.bool true) ⟨rfl,by simp[this]⟩
 ·refine G.nT (ts.length:Int) (ts'.length:Int) ?_;exact G.r (.bool false) ⟨rfl,by rw[decide_eq_false];rintro rfl;exact hn rfl⟩
section
section rules
variable [Ca] {P:Program} [A7 P] {fn:Func} {Post:By} {st:List KI×S} {u m:PH}
theorem B1.heap {w w':World}(h:B1 u m w)(e:∀ g:Nat,w'.heap[g]?=w.heap[g]?):B1 u m w' :=
 ⟨fun g o hg=>by rw[e];exact h.pu g o hg,fun g o hg=>by rw[e];exact h.pm g o hg,h.ap,fun g cs t fr j z hg hj=>h.cl g cs t fr j z (by rw[<-e];exact hg) hj⟩
theorem G.convSB (d:Option TypeDesc)(e:TypeId)(l:List UInt8)(h:Al P (adv P st)=.conv d (some (.slice e)) (.string (mkS l)))(hd:d.isSome=true)(he:P.underlying e=some (.int .u8))
 (k:∀ v u',PH.le u u'->Ad u' v 1 (Bc l)->G P fn Post (nx (adv P st) v) u' m):G P fn Post st u m:=by
 refine G.big (K:=fun v' u' m'=>m'=m/\Ad u' v' 1 (Bc l)) h mV (fun env op hv=>?_) (.inl fun v u' m' hk=>by rw[hk.1];exact PH.le_refl _) (fun env o hview w hgd=>?_) (fun v' u' m' hle hk=>?_)
 ·obtain⟨s,d',X,rfl,_,_,e4⟩:=Jn hv;exact Zf e4 mV
 ·obtain⟨s,d',X,e1,e2,e3,e4⟩:=Jn hview;obtain⟨dst,opp,type,pos,after,guard⟩:=o;simp only at e1;subst e1;obtain⟨dd,rfl⟩:=Option.isSome_iff_exists.1 hd;have hr:=Lib.run_convert_string_bytes (P:=P) w s d' e (mkS l) e3 e4 he;have hsz:(mkS l).size=l.length:=Go.Lib.size_mk l;obtain⟨g1,g2,g3,g4⟩:=hgd.newU (.cells (Ax0 w e (mkS l)) e ((Ax0 w e (mkS l)).size,(Ax0 w e (mkS l)).size+1));have hh:∀ g:Nat,(Lib.bytesWorld w e (mkS l)).heap[g]?=(w.alloc (.cells (Ax0 w e (mkS l)) e ((Ax0 w e (mkS l)).size,(Ax0 w e (mkS l)).size+1))).heap[g]?:=by
   intro g;rcases Nat.lt_trichotomy g w.heap.size with h1|h1|h1
   ·rw[A1p w e _ g h1,A9 _ _ h1]
   ·subst h1;rw[Lib.bytesWorld_at_new,Cg]
   ·rw[Awu (by rw[A13];omega),Awu (by rw[Bu];omega)]
  refine Bs (by simp[execOp,e2,hr];rfl) ⟨_,m,g1.heap hh,⟨by rw[A13];omega,fun g hg hm=>A1p w e _ g hg,g2.us,g2.ms,⟨rfl,rfl⟩,fun _=>⟨rfl,by first|exact Atb _|exact Nat.le_succ _⟩⟩,rfl,?_⟩
  refine⟨some ⟨w.heap.size,0,none⟩,grownCap w l.length 0 e,by rw[As,hsz],by rw[As];exact grownCap_ge w _ _ e,fun j x hj=>⟨_,0,rfl,fun i y hy=>⟨_,_,_,Ab _ _ _,?_⟩⟩⟩;have hjl:j<l.length:=by
   rcases At8 j l.length with h'|h'
   ·exact h'
   ·rw[Att (by rw[As];exact h')]at hj;cases hj
  rw[Gl hjl]at hj;simp only[Atd]at hj;subst hj;have:i=0/\y=.int .u8 ((l.getD j 0).toNat:Int):=by
   match i,hy with
   |0,hy=>simp[Atw]at hy;simp[hy]
  obtain⟨rfl,rfl⟩:=this;simp[Ax0,Array.getElem?_append,hjl,List.getD]
 ·obtain⟨rfl,hk⟩:=hk;exact k v' u' hle hk
end rules
theorem Z0 {u:PH}{s p:List UInt8}:Fn0 prog 168 [.string (mkS s),.string (mkS p)] u fun v _=>v=.string (mkS (A3c s p)) :=
 Fn0.ofW (fun v _=>v=.string (mkS (A3c s p))) (fun w _=>(Tryz.strings_TrimPrefix (mkS s) (mkS p) w).mono fun _ _ ⟨e,h⟩=>⟨_,e,rfl,by rw[h];exact Ext.refl _⟩) (fun _ _ _ h _ _ _=>h)
theorem Jd {u:PH}{z:Int}(h:Aua z.natAbs<=400):Fn0 prog 108 [.string (mkS (Atn z))] u fun v _=>v=.bool true:=by
 refine Fn0.o func108 ?_;by_cases h0:z=0
 ·subst h0;refine G.q (Atn 0) [48] Ed ?_;exact G.r (.bool true) ⟨rfl,rfl⟩
 refine G.w (Atn z) [48] (fun e=>h0 (G8 (e.trans Ed.symm))) ?_;refine G.c call168 (Z0 (s:=Atn z) (p:=[45])) ?_;rintro v1 u1 l1 rfl;have hdl:=Awb z.natAbs;have hdp:=Lib.nDigits_pos z.natAbs;have hdd:=Mm z.natAbs;obtain⟨b0,hb0,hb1,hb2⟩:=Nr (z:=(z.natAbs:Int)) oV oV;rw[Tl]at hb0;rw[Cy z,(Iy hdd (Il _)).1];generalize hL:Au9 z.natAbs=L at *
 have hsize:(mkS L).size=L.length:=Go.Lib.size_mk _;refine G.w L [] (by intro e;rw[e]at hdl;simp at hdl;omega) ?_;refine G.gF (L.length:Int) 400 ?_;refine G.idxS L 0 b0 kV hb0 ?_;refine G.cmpG .eql .u8 (b0.toNat:Int) 48 false kV rfl (by simp only[Cj,decide_eq_false_iff_not];omega) ?_;refine G.convSB (some .string) 5 L kV rfl kV ?_;intro v2 u2 l2 k2;obtain⟨a,c,rfl⟩:=Ad.opn k2;rw[As]at k2⊢;refine G.l (ι:=Nat) (fun i=>[(23,sV a L.length c),(24,iV L.length),(25,iV i)]) (fun _=>[]) (fun i _ m'=>i<=L.length/\m'=PH.mt) (fun i=>L.length-i) 0 ⟨oV,rfl⟩ ?_;rintro J i hJ u' m' hle ⟨hi,rfl⟩;by_cases hlt:i<L.length
 ·refine G.lT (i:Int) (L.length:Int) ?_;have hg:=Jf hdd hlt;obtain⟨ba,oa,rfl,ea⟩:=Ad.at' (Ad.mono k2 hle) (j:=i) (Gl hlt);refine G.a ba oa L.length c i 1 oV ?_;refine G.lU none ba (oa+i*1) (.int .u8 ((L.getD i 0).toNat:Int)) ea ?_;refine G.cmpG .lss .u8 ((L.getD i 0).toNat:Int) 48 false kV rfl (by simp only[Cj,decide_eq_false_iff_not];omega) ?_;refine G.cmpG .gtr .u8 ((L.getD i 0).toNat:Int) 57 false kV rfl (by simp only[Cj,decide_eq_false_iff_not];omega) ?_;refine G.i i ?_;exact G.b (hJ (i+1) _ _ _ cV hle ⟨oV,rfl⟩ oV)
 ·refine G.lF (i:Int) (L.length:Int) ?_;exact G.r (.bool true) ⟨rfl,rfl⟩
end
section
variable {q:Rat}{qs:List Rat}{u:PH}{v:Value}{z:Int}
theorem Acd (h:Aua z.natAbs<=400):Fn0 prog 169 [.string (mkS (Atn z))] u fun v u'=>Bw u' v z:=by
 refine Fn0.o func169 ?_;refine G.c call110 (Ig h) ?_;intro v2 u2 l2 k2;obtain⟨b2,a2,n2,c2,rfl⟩:=k2.opn;exact G.r (.agg #[.bool b2,.slice a2 n2 c2]) ⟨rfl,k2⟩
theorem Ace {y z:Int}(h:Aua y.natAbs<=400)(h':Aua z.natAbs<=400):Fn0 prog 109 [.string (mkS (Atn y)),.string (mkS (Atn z))] u fun v _=>v=.int .i64 (sgn (y-z)):=by
 refine Fn0.o func109 ?_;refine G.c call108 (Jd h) ?_;rintro v1 u1 l1 rfl;refine G.c call108 (Jd h') ?_;rintro v2 u2 l2 rfl;refine G.c call169 (Acd h) ?_;intro v3 u3 l3 k3;obtain⟨b3,a3,n3,c3,rfl⟩:=k3.opn;refine G.c call169 (Acd h') ?_;intro v4 u4 l4 k4;obtain⟨b4,a4,n4,c4,rfl⟩:=k4.opn;refine G.c call112 (G6 (k3.mono l4) k4 (As9 (Bi h) oV) (As9 (Bi h') oV)) ?_;rintro v5 u5 l5 rfl;exact G.r _ ⟨rfl,rfl⟩
theorem Fn (h:Tx q):Fn0 prog 47 [.string (mkS (Ap q))] u fun v _=>v=.bool true:=by
 refine Fn0.o func47 ?_;refine G.c call107 (Ase h) ?_;rintro v1 u1 l1 rfl;refine G.c call108 (Jd h.1) ?_;rintro v2 u2 l2 rfl;by_cases hd:q.den=1
 ·rw[if_pos hd,decide_eq_false (by simp[hd])];refine G.c call108 (Jd h.1) ?_;rintro v3 u3 l3 rfl;exact G.r (.bool true) ⟨rfl,rfl⟩
 ·rw[if_neg hd,decide_eq_true hd];have hn:=Aj8 hd;have hdn:=q.den_nz;refine G.w (Atn q.num) [48] (fun e=>hn (G8 (e.trans Ed.symm))) ?_;refine G.c call108 (Jd h.den) ?_;rintro v3 u3 l3 rfl;have hc:=Ace (u:=u3) (y:=(q.den:Int)) (z:=1) h.den (by rw[Axe fV];omega);rw[He]at hc;refine G.c call109 hc ?_;rintro v4 u4 l4 rfl;refine G.kF' (sgn ((q.den:Int)-1)) 0 (by rw[Cf oV];omega) ?_;refine G.c call110 (Ig h.1) ?_;intro v5 u5 l5 k5;obtain⟨b5,a5,n5,c5,rfl⟩:=k5.opn;refine G.c call110 (Ig h.den) ?_;intro v6 u6 l6 k6;obtain⟨b6,a6,n6,c6,rfl⟩:=k6.opn;refine G.c call111 (Ye (k5.mono l6) k6 (As9 (Bi h.1) oV) (As9 (Bi h.den) oV)) ?_;intro v7 u7 l7 k7;rw[show Auw q.num.natAbs ((q.den:Int)).natAbs=1 from q.reduced]at k7;obtain⟨b7,a7,n7,c7,rfl⟩:=k7.opn;refine G.c call113 (Qy (z:=1) oV oV) ?_;intro v8 u8 l8 k8;obtain⟨b8,a8,n8,c8,rfl⟩:=k8.opn;refine G.c call112 (G6 (k7.mono l8) k8 (As9 Qb oV) (As9 Qb oV)) ?_;rintro v9 u9 l9 rfl;refine G.eT' (sgn (((1:Nat):Int)-1)) 0 fV ?_;exact G.r (.bool true) ⟨rfl,rfl⟩
theorem Apk (h:Tx q):Fn0 prog 190 [.string (mkS (Ap q))] u fun v _=>v=.bool false:=by
 refine Fn0.o func190 ?_;refine G.c call47 (Fn h) ?_;rintro v1 u1 l1 rfl;exact G.r (.bool false) ⟨rfl,rfl⟩
theorem Aa6 (h:Tx q):Fn0 prog 182 [.string (mkS (Ap q))] u fun v _=>v=.bool false:=by
 refine Fn0.o func182 ?_;refine G.c call47 (Fn h) ?_;rintro v1 u1 l1 rfl;exact G.r (.bool false) ⟨rfl,rfl⟩
theorem Acq (h:Eg u v (qs.map Ap))(hq:∀ q∈qs,Tx q)(hl:qs.length<=1000000):Fn0 prog 140 [v] u fun v' _=>v'=.bool true:=by
 obtain⟨a,c,rfl⟩:=Ad.opn h;refine Fn0.o func140 ?_;refine G.c call181 (M8 (fid:=190) h (by simpa using hl) call190 (fun t ht u' _=>?_)) ?_
 ·obtain⟨q,hq',rfl⟩:=Ate.1 ht;exact Apk (hq q hq')
 ·rintro v1 u1 l1 rfl;exact G.r (.bool true) ⟨rfl,rfl⟩
theorem Ajm (h:Eg u v (qs.map Ap))(hq:∀ q∈qs,Tx q)(hl:qs.length<=1000000):Fn0 prog 124 [v] u fun v' _=>v'=.bool true:=by
 obtain⟨a,c,rfl⟩:=Ad.opn h;refine Fn0.o func124 ?_;refine G.c call181 (M8 (fid:=182) h (by simpa using hl) call182 (fun t ht u' _=>?_)) ?_
 ·obtain⟨q,hq',rfl⟩:=Ate.1 ht;exact Aa6 (hq q hq')
 ·rintro v1 u1 l1 rfl;exact G.r (.bool true) ⟨rfl,rfl⟩
end
theorem Afg (q r:Rat):sgn (q.num*(r.den:Int)-r.num*(q.den:Int))=sgn (q-r).num:=by
 have h:=Anb q r;have hz:=Sh q r;obtain⟨e1,e2,e3⟩:=Kt (y:=q.num*(r.den:Int)-r.num*(q.den:Int)) hz;rw[h]at e1;rw[e1];generalize q.num*(r.den:Int)-r.num*(q.den:Int)=y at *
 generalize (q.den:Int)*(r.den:Int)=z at *
 have hg:0<Auw y.natAbs z.natAbs:=Nat.gcd_pos_of_pos_right _ oV;rw[Sx];have hdv:((Auw y.natAbs z.natAbs:Nat):Int) ∣ y:=Int.ofNat_dvd_left.2 (Nat.gcd_dvd_left _ _);obtain⟨k,hk⟩:=hdv;generalize Auw y.natAbs z.natAbs=g at *
 have hgz:(g:Int)≠0:=oV
 rw[hk,Int.mul_ediv_cancel_left _ hgz];rcases Int.lt_trichotomy k 0 with h1|h1|h1
 ·rw[Dc h1,Dc (Int.mul_neg_of_pos_of_neg oV h1)]
 ·subst h1;simp
 ·rw[Cf h1,Cf (Int.mul_pos oV h1)]
theorem Rh {u:PH}{q r:Rat}(h:Tx q)(h':Tx r):Fn0 prog 72 [.string (mkS (Ap q)),.string (mkS (Ap r))] u fun v _=>v=.int .i64 (sgn (q-r).num):=by
 refine Fn0.o func72 ?_;refine G.B 34 1 16 (.string (mkS [])) [.string (mkS (Ap q)),.string (mkS (Ap r))] (Dv [Ap q,Ap r]) ?_;intro g u1 l1 e1;have hS:Eg u1 (.slice (some ⟨g,0,none⟩) 2 2) ([q,r].map Ap):=⟨_,2,rfl,Atb _,fun j e hj=>⟨g,0,rfl,e1 j e hj⟩⟩;refine G.c call140 (Acq hS (by intro x hx;simp at hx;rcases hx with rfl|rfl;exact h;exact h') mV) ?_;rintro v2 u2 l2 rfl;refine G.c call54 (Ep h) ?_;intro v3 u3 l3 k3;obtain⟨b3,a3,n3,c3,b3',a3',n3',c3',rfl⟩:=k3.opn;refine G.c call54 (Ep h') ?_;intro v4 u4 l4 k4;obtain⟨b4,a4,n4,c4,b4',a4',n4',c4',rfl⟩:=k4.opn;refine G.c call138 (O5 (k3.mono l4) k4 (h.sz.mono oV) (h'.sz.mono oV)) ?_;rintro v5 u5 l5 rfl;rw[Afg];exact G.r _ ⟨rfl,rfl⟩
section
variable {g j k:Nat}{x:SV}
variable [Ca] [Df]
def SV.pub (k g:Nat):SV->SV
 |.p j off=>cond (Auy j k) (.v (.pointer (some ⟨g,off,none⟩))) (.p j off)
 |x=>x
def Blk.pub (k g:Nat)(b:Blk):Blk:=⟨b.t,b.cells.map (SV.pub k g)⟩
def S.pub (s:S)(k g:Nat):S:={ n:=s.n,tm:=fun d=>(s.tm d).pub k g,hp:=fun j=>cond (Auy j k) none ((s.hp j).map (Blk.pub k g)) }
theorem SV.pub_den (k:Nat)(ρ:Nat->Nat)(x:SV):(x.pub k (ρ k)).den ρ=x.den ρ:=by
 cases x with
 |junk=>rfl
 |v x=>rfl
 |p j off =>
  cases hb:Auy j k with
  |true=>have:=Aug hb;subst this;simp[SV.pub,SV.den]
  |false=>simp[SV.pub,hb]
theorem SV.pub_junk :x.pub k g≠.junk↔x≠.junk:=by
 cases x with
 |junk=>simp[SV.pub]
 |v x=>simp[SV.pub]
 |p j off=>cases hb:Auy j k<;>simp[SV.pub,hb]
theorem SV.pub_p {k g j off:Nat}(h:x.pub k g=.p j off):x=.p j off/\j≠k:=by
 cases x with
 |junk=>cases h
 |v x=>cases h
 |p j' off' =>
  cases hb:Auy j' k with
  |true=>simp[SV.pub,hb]at h
  |false =>
   simp[SV.pub,hb]at h;obtain⟨rfl,rfl⟩:=h;exact⟨rfl,fun e=>by subst e;simp at hb⟩
theorem Ln (s:S)(k g:Nat):(s.pub k g).hp k=none:=by simp[S.pub]
theorem Kf (s:S)(h:j≠k):(s.pub k g).hp j=(s.hp j).map (Blk.pub k g):=by
 have:Auy j k=false:=by rw[<-Bool.not_eq_true];exact fun hh=>h (Aug hh)
 simp[S.pub,this]
section rules
variable {c:Cx} {s:S} {u m:PH} {ρ:Nat->Nat} {a:Act} {w:World}
theorem Rel.pub (h:Rel c s u m ρ a w){k:Nat}{t:TypeId}{xs:List Value}(hk:s.hp k=some ⟨t,xs.map SV.v⟩):Rel c (s.pub k (ρ k)) u (m.upd (ρ k) (.cells xs.toArray t (0,0))) ρ a w:=by
 obtain⟨⟨cs,e1,e2,e3⟩,e4,e5,e6⟩:=h.box k _ hk;have hcs:cs=xs.toArray:=by
  apply Array.ext
  ·simpa using e2
  ·intro i h1 h2;have:=e3 i (.v xs[i]) (by simp at h2;simp[h2]) mV;rw[Array.getElem?_eq_getElem h1]at this;simpa[SV.den] using this
 subst hcs;have hne:∀ j,s.hp j≠none->j≠k->ρ j≠ρ k:=fun j hj hjk e=>hjk (h.inj j k hj (by rw[hk];simp) e);refine⟨h.sz,fun d hd=>?_,h.df.of fun r e _ hu hm=>⟨e,hu,by rw[Ac _ _ (fun e'=>by rw[e',e1]at e;cases e)];exact hm⟩,fun j b hb=>?_,fun i j hi hj he=>?_,⟨fun d j off hd=>?_,fun i b j off hi hm=>?_⟩,⟨h.gd.pu,fun g o hg=>?_,fun g=>?_,h.gd.cl⟩,⟨h.gr.sz,h.gr.old,h.gr.us,fun g hg hm=>?_,h.gr.io,h.gr.dr⟩⟩
 ·have hd':s.tm d≠.junk:=SV.pub_junk.1 hd;show a.tmps[d]?=some (((s.tm d).pub k (ρ k)).den ρ);rw[SV.pub_den];exact h.tm d hd'
 ·by_cases hjk:j=k
  ·subst hjk;rw[Ln]at hb;cases hb
  ·rw[Kf _ hjk]at hb;obtain⟨b0,hb0,rfl⟩:=Axk.1 hb;obtain⟨⟨cs',f1,f2,f3⟩,f4,f5,f6⟩:=h.box j b0 hb0;refine⟨⟨cs',f1,by simp[Blk.pub,f2],fun i x hi hx=>?_⟩,f4,f5,?_⟩
   ·simp only[Blk.pub,List.getElem?_map]at hi;obtain⟨y,hy,rfl⟩:=Axk.1 hi;rw[SV.pub_den];exact f3 i y hy (SV.pub_junk.1 hx)
   ·rw[Ac _ _ (hne j (by rw[hb0];simp) hjk)];exact f6
 ·have h1:∀ j,(s.pub k (ρ k)).hp j≠none->s.hp j≠none:=by
   intro j hj hn;by_cases hjk:j=k
   ·subst hjk;exact hj (Ln _ _ _)
   ·rw[Kf _ hjk,hn]at hj;exact hj rfl
  exact h.inj i j (h1 i hi) (h1 j hj) he
 ·obtain⟨h1,h2⟩:=SV.pub_p hd;rw[Kf _ h2];have:=h.lv.1 d j off h1;intro hn;exact this (by simpa using hn)
 ·by_cases hik:i=k
  ·subst hik;rw[Ln]at hi;cases hi
  ·rw[Kf _ hik]at hi;obtain⟨b0,hb0,rfl⟩:=Axk.1 hi;simp only[Blk.pub,Ate]at hm;obtain⟨y,hy,hyp⟩:=hm;obtain⟨rfl,h2⟩:=SV.pub_p hyp;rw[Kf _ h2];have:=h.lv.2 i b0 j off hb0 hy;intro hn;exact this (by simpa using hn)
 ·by_cases hg':g=ρ k
  ·subst hg';rw[Ab]at hg;simp only[Atd]at hg;subst hg;exact e1
  ·rw[Ac _ _ hg']at hg;exact h.gd.pm g o hg
 ·by_cases hg':g=ρ k
  ·subst hg';exact .inl e5
  ·rw[Ac _ _ hg'];exact h.gd.ap g
 ·rw[Ac _ _ oV];exact h.gr.ms g hg hm
end rules
section rules2
variable {P:Program} [A7 P] {fn:Func} {Post:By} {st:List KI×S} {u m:PH}
theorem G.pub (k:Nat)(t:TypeId)(xs:List Value)(h:Gg (ctl P 100 st).1=true)(hb:(ctl P 100 st).2.hp k=some ⟨t,xs.map SV.v⟩)
 (kk:∀ g,u g=none->m g=none->G P fn Post ((ctl P 100 st).1,(ctl P 100 st).2.pub k g) u (m.upd g (.cells xs.toArray t (0,0)))):G P fn Post st u m:=by
 refine⟨Jk 100 st ?_⟩;rw[Sym.ofNo h];intro c ρ a w hm0 hr;obtain⟨_,_,e5,e6⟩:=hr.box k _ hb;have:=(kk (ρ k) e5 e6).out;rw[Sym.ofNo (by exact h)]at this;exact this c ρ a w hm0 (hr.pub hb)
end rules2
end
section
variable {g:Nat}{x y:PH}
variable [Ca] [Df] [Pu]
def PH.or (x y:PH):PH:=fun g=>match x g with|some o=>some o|none=>y g
theorem PH.or_l {o:Obj}(h:x g=some o):x.or y g=some o:=by simp[PH.or,h]
theorem PH.or_r (h:x g=none):x.or y g=y g:=by simp[PH.or,h]
theorem B1.frameM {u mf mc u' mc':PH}{w w':World}(h:B1 u (mf.or mc) w)(hd:J9 mf mc)(g1:B1 u' mc' w')(g2:B8 u mc w u' mc' w'):B1 u' (mf.or mc') w'/\B8 u (mf.or mc) w u' (mf.or mc') w':=by
 have hmf:∀ g o,mf g=some o->g<w.heap.size/\mc g=none/\w'.heap[g]?=some o/\u' g=none:=by
  intro g o hg;have h1:=h.pm g o (PH.or_l hg);have h2:mc g=none:=(hd g).resolve_left (by rw[hg];simp);have hlt:=B0 h1;refine⟨hlt,h2,by rw[g2.old g hlt h2];exact h1,?_⟩;rw[g2.us g hlt];exact (h.ap g).resolve_right (by rw[PH.or_l hg];simp)
 refine⟨⟨g1.pu,fun g o hg=>?_,fun g=>?_,g1.cl⟩,⟨g2.sz,fun g hg hm=>?_,g2.us,fun g hg hm=>?_,g2.io,g2.dr⟩⟩
 ·cases hx:mf g with
  |some o'=>rw[PH.or_l hx]at hg;cases hg;exact (hmf g _ hx).2.2.1
  |none=>rw[PH.or_r hx]at hg;exact g1.pm g o hg
 ·cases hx:mf g with
  |some o'=>exact .inl (hmf g _ hx).2.2.2
  |none=>rw[PH.or_r hx];exact g1.ap g
 ·cases hx:mf g with
  |some o'=>rw[PH.or_l hx]at hm;cases hm
  |none=>rw[PH.or_r hx]at hm;exact g2.old g hg hm
 ·cases hx:mf g with
  |some o'=>rw[PH.or_l hx]at hm;cases hm
  |none=>rw[PH.or_r hx]at hm⊢;exact g2.ms g hg hm
section rules
variable {P:Program} [A7 P] {fn:Func} {Post:By} {st:List KI×S} {u m:PH}
def Rq (st:List KI×S):Bool:=match st.1 with
 |.reg _ _ false _::_=>true
 |.reg _ ops true (i::_)::_=>match ops[i]? with|some o=>Nb ops i o.op||Ja ops st.2|none=>false
 |_=>false
theorem Wy {id:Nat}{ops:Array Oper}{dr:Bool}{i:Nat}{l:List Nat}{k:List KI}{s:S}{o:Oper}(ho:ops[i]?=some o)(h:Rq (.reg id ops dr (i::l)::k,s)=true):dr=false\/Nb ops i o.op=true\/Ja ops s=true\/Pu.b=true:=by
 cases dr with
 |false=>exact .inl rfl
 |true =>
  right;have h:=(by simpa[Rq,ho] using h:Nb ops i o.op=true\/Ja ops s=true);exact h.imp (fun x=>x) .inl
theorem G.bigN {V:Vr}{K:Value->PH->PH->Prop}(h:Al P (adv P st)=V)(hV:V≠.other)(hdr:Rq (adv P st)=true)(hf:∀ env op,A8 P env op=V->En op=false)
 (hr:∀ env (o:Oper),A8 P env o.op=V->∀ w,B1 u m w->E3 P env o w fun v w'=>∃ u' m',B1 u' m' w'/\B8 u m w u' m' w'/\K v u' m')
 (k:∀ v u' m',PH.le u u'->K v u' m'->G P fn Post (nx (adv P st) v) u' m'):G P fn Post st u m:=by
 refine G.stp ?_;obtain⟨id,ops,dr,i,l,kk,s,o,e,ho,hg,hd,hv,hs,hview,hnx⟩:=Kp h hV;have hdr':=Wy ho (e▸hdr);rw[e];refine⟨?_⟩;refine Ob.big (K:=K) ho hg hd hv hs (hf _ _ hview) (fun v u' m' hK=>.inr hdr') (fun w hgd=>hr _ o hview w hgd) (fun v u' m' h1 h2=>?_);have:=(k v u' m' h1 h2).out;rw[hnx]at this;exact this
theorem G.callM (f:Nat)(args:List Value){mf mc:PH}{R:Value->PH->PH->Prop}(h:Al P (adv P st)=.call f args)(hdr:Rq (adv P st)=true)(hc:∀ args w,(callFunc f args).run P w=.ok (.enter f args) w)(hm:m=mf.or mc)(hd:J9 mf mc)(c:Ak P f args u mc R)
 (k:∀ v u' mc',PH.le u u'->R v u' mc'->G P fn Post (nx (adv P st) v) u' (mf.or mc')):G P fn Post st u m:=by
 subst hm;refine G.bigN (K:=fun v u' m'=>∃ mc',m'=mf.or mc'/\R v u' mc') h mV hdr El (fun env o hview w hgd=>?_) (fun v u' m' h1 h2=>?_)
 ·have hgc:B1 u mc w:=hgd.less (fun g o hg=>by
   cases hx:mf g with
   |some o'=>have:=(hd g).resolve_left (by rw[hx];simp);rw[this]at hg;cases hg
   |none=>rw[PH.or_r hx];exact hg)
  refine Kc hview hc w _ (Calls.mono (c w hgc) fun e w' he=>?_);obtain⟨v,u',mc',e1,e2,e3,e4⟩:=he;obtain⟨g1,g2⟩:=hgd.frameM hd e2 e3;exact⟨v,e1,u',mf.or mc',g1,g2,mc',rfl,e4⟩
 ·obtain⟨mc',rfl,hR⟩:=h2;exact k v u' mc' h1 hR
end rules
end
def Hj (u:PH)(es:List Value)(rs:List (List (List UInt8))):Prop:=es.length=rs.length/\∀ (j:Nat) (r:List (List UInt8)),rs[j]?=some r->∃ a c,es[j]?=some (.slice a r.length c)/\Eg u (.slice a r.length c) r
theorem Hj.mono {u u':PH}{es:List Value}{rs:List (List (List UInt8))}(h:Hj u es rs)(hl:PH.le u u'):Hj u' es rs :=
 ⟨h.1,fun j r hj=>by obtain⟨a,c,h1,h2⟩:=h.2 j r hj;exact⟨a,c,h1,Ad.mono h2 hl⟩⟩
def Bx (u:PH)(v:Value)(rs:List (List (List UInt8))):Prop:=∃ es,Ad u v 1 es/\Hj u es rs
theorem Bx.mono {u u':PH}{v:Value}{rs:List (List (List UInt8))}(h:Bx u v rs)(hl:PH.le u u'):Bx u' v rs:=by
 obtain⟨es,h1,h2⟩:=h;exact⟨es,h1.mono hl,h2.mono hl⟩
theorem Bx.opn {u:PH}{v:Value}{rs:List (List (List UInt8))}(h:Bx u v rs):∃ a c,v=.slice a rs.length c:=by
 obtain⟨es,h1,h2⟩:=h;obtain⟨a,c,rfl⟩:=h1.opn;exact⟨a,c,by rw[h2.1]⟩
theorem Bx.row {u:PH}{a:Option Addr}{n c j:Nat}{rs:List (List (List UInt8))}{r:List (List UInt8)}(h:Bx u (.slice a n c) rs)(hj:rs[j]?=some r) :
 ∃ b off a' c',a=some ⟨b,off,none⟩/\ElP u b (off+j*1) (.slice a' r.length c')/\Eg u (.slice a' r.length c') r:=by
 obtain⟨es,h1,h2⟩:=h;obtain⟨a',c',e1,e2⟩:=h2.2 j r hj;obtain⟨b,off,rfl,e3⟩:=h1.at' e1;exact⟨b,off,a',c',rfl,e3,e2⟩
theorem Acy {u:PH}{v:Value}{rs:List (List (List UInt8))}{fid:Nat}{cap:List Value}(h:Bx u v rs)(hl:rs.length<=1000000)
 (hcall:∀ args w,(callFunc fid args).run prog w=.ok (.enter fid args) w) (hf:∀ r∈rs,∀ u' x,PH.le u u'->Eg u' x r->Fn0 prog fid (x::cap) u' fun v _=>v=.bool false) :
 Fn0 prog 180 [v,.func (.func fid) #[] cap.toArray] u fun v' _=>v'=.int .i64 (-1):=by
 obtain⟨a,c,rfl⟩:=h.opn;refine Fn0.o func180 ?_;refine G.l (ι:=Nat) (fun i=>[(0,sV a rs.length c),(1,.v (.func (.func fid) #[] cap.toArray)),(7,iV rs.length),(8,iV i)]) (fun _=>[])
  (fun i u' m'=>i<=rs.length/\m'=PH.mt) (fun i=>rs.length-i) 0 ⟨oV,rfl⟩ ?_
 rintro J k hJ u' m' hle ⟨hk,rfl⟩;by_cases hlt:k<rs.length
 ·refine G.lT (k:Int) (rs.length:Int) ?_;have htk:rs[k]?=some rs[k]:=As5 hlt;obtain⟨ba,oa,a',c',rfl,ea,es⟩:=(h.mono hle).row htk;refine G.a ba oa rs.length c k 1 oV ?_;refine G.lU none ba (oa+k*1) (.slice a' rs[k].length c') ea ?_;refine G.call0 fid (.slice a' rs[k].length c'::cap) kV hcall (hf rs[k] (Ath hlt) u' _ hle es) ?_;rintro v1 u1 l1 rfl;refine G.i k ?_;exact G.b (hJ (k+1) _ _ _ cV (hle.trans l1) ⟨oV,rfl⟩ oV)
 ·refine G.lF (k:Int) (rs.length:Int) ?_;exact G.r (.int .i64 (-1)) ⟨rfl,rfl⟩
theorem I9 {u:PH}{v:Value}{rs:List (List (List UInt8))}{fid:Nat}{cap:List Value}(h:Bx u v rs)(hl:rs.length<=1000000)
 (hcall:∀ args w,(callFunc fid args).run prog w=.ok (.enter fid args) w) (hf:∀ r∈rs,∀ u' x,PH.le u u'->Eg u' x r->Fn0 prog fid (x::cap) u' fun v _=>v=.bool false) :
 Fn0 prog 120 [v,.func (.func fid) #[] cap.toArray] u fun v' _=>v'=.bool false:=by
 obtain⟨a,c,rfl⟩:=h.opn;refine Fn0.o func120 ?_;refine G.c call180 (Acy h hl hcall hf) ?_;rintro v1 u1 l1 rfl;refine G.hF (-1) 0 ?_;exact G.r (.bool false) ⟨rfl,rfl⟩
section
variable {es:List Value}{u:PH}
theorem O3 (h:∀ e∈es,∃ a n c,e=.slice a n c):Ax 1 es:=by
 intro e he;obtain⟨a,n,c,rfl⟩:=h e he;exact⟨rfl,fun x hx=>by simp[Atw]at hx;subst hx;rfl⟩
theorem Hj.snoc {rs:List (List (List UInt8))}{a:Option Addr}{c:Nat}{r:List (List UInt8)}(h:Hj u es rs)(he:Eg u (.slice a r.length c) r):Hj u (es++[.slice a r.length c]) (rs++[r]):=by
 refine⟨by simp[h.1],fun j r' hj=>?_⟩;by_cases hjl:j<rs.length
 ·rw[Atl hjl]at hj;obtain⟨a',c',h1,h2⟩:=h.2 j r' hj;exact⟨a',c',by rw[Atl (by rw[h.1];exact hjl)];exact h1,h2⟩
 ·rw[At1 oV]at hj;have:j-rs.length=0:=by
   rcases At5 (j-rs.length) with h0|h0
   ·exact h0
   ·rw[Att gV]at hj;cases hj
  rw[this]at hj;simp at hj;subst hj;refine⟨a,c,?_,he⟩;rw[At1 (by rw[h.1];omega),h.1,this];rfl
theorem Anq {v:Value}{ts:List (List UInt8)}(h:Eg u v ts)(hl:ts.length<=1000000):Fn0 prog 50 [v] u fun v' u'=>Bx u' v' (ts.map fun t=>[t]):=by
 obtain⟨a,c,rfl⟩:=Ad.opn h;rw[Bm]at h⊢;refine Fn0.o func50 ?_;refine G.l (ι:=Nat×List Value×(Option Addr×Nat×Nat)) (fun i=>[(3,sV i.2.2.1 i.2.2.2.1 i.2.2.2.2),(6,sV a ts.length c),(7,iV ts.length),(8,iV i.1)]) (fun _=>[])
  (fun i u' m'=>i.1<=ts.length/\Hj u' i.2.1 ((ts.take i.1).map fun t=>[t])/\Ae PH.mt m' (.slice i.2.2.1 i.2.2.2.1 i.2.2.2.2) 60 1 i.2.1) (fun i=>ts.length-i.1) (0,[],(none,0,0)) ⟨mV,⟨mV,fun j q hj=>by simp at hj⟩,Ae.nil _ _ _⟩ ?_
 rintro J ⟨k,es,⟨a1,n1,c1⟩⟩ hJ u' m' hle ⟨hk,hF,hA⟩;simp only at hk hF hA hJ;have hel:=hF.1;rw[Ata,Atm]at hel;by_cases hlt:k<ts.length
 ·refine G.lT (k:Int) (ts.length:Int) ?_;have htk:ts[k]?=some ts[k]:=As5 hlt;obtain⟨ba,oa,rfl,ea⟩:=Ad.at' (Ad.mono h hle) (j:=k) (e:=.string (mkS ts[k])) (by simp[Bo,htk]);refine G.a ba oa ts.length c k 1 oV ?_;refine G.lU none ba (oa+k*1) (.string (mkS ts[k])) ea ?_;refine G.B 34 1 16 (.string (mkS [])) [.string (mkS ts[k])] (Dv [ts[k]]) ?_;intro g u2 l2 e2;have hS:Eg u2 (.slice (some ⟨g,0,none⟩) 1 1) [ts[k]]:=⟨_,1,rfl,Atb _,fun j e hj=>⟨g,0,rfl,e2 j e hj⟩⟩;refine G.B 60 1 24 (.slice none 0 0) [.slice (some ⟨g,0,none⟩) 1 1] (O3 (by intro e he;simp at he;exact⟨_,_,_,he⟩)) ?_;intro g3 u3 l3 e3;refine G.append 60 1 24 (.slice none 0 0) PH.mt es [.slice (some ⟨g,0,none⟩) 1 1] (.slice a1 n1 c1) g3 0 1 1 kV rfl rfl oV hA e3 (O3 (by intro e he;simp at he;exact⟨_,_,_,he⟩)) rfl oV oV oV ?_;intro v4 m4 hA4;obtain⟨a4,c4,rfl⟩:=hA4.shape;refine G.i k ?_;refine G.b (hJ (k+1,es++[Au8 (some ⟨g,0,none⟩) 1 1],(a4,(es++[Au8 (some ⟨g,0,none⟩) 1 1]).length,c4)) _ _ _ cV ((hle.trans l2).trans l3) ⟨dV,?_,hA4⟩ dV);dsimp only;rw[At0,htk,Atk];exact (hF.mono (l2.trans l3)).snoc (r:=[ts[k]]) (Ad.mono hS l3)
 ·have:k=ts.length:=oV
  subst this;refine G.lF (ts.length:Int) (ts.length:Int) ?_;refine G.give PH.mt es _ kV hA (fun _=>.inl rfl) ?_;intro u3 l3 hL;rw[At9]at hF;exact G.r (.slice a1 n1 c1) ⟨rfl,es,hL,hF.mono l3⟩
end
section
variable {u:PH}{x:Value}
def Br (A:List (List Rat)):List (List (List UInt8)):=A.map fun r=>r.map Ap
theorem Qi:Ap 0 = [48]:=by rw[Ap,if_pos (by rfl)];exact Ed
theorem Th:Ap 1 = [49]:=by rw[Ap,if_pos (by rfl)];exact He
theorem Anf {r:List (List UInt8)}(h:Eg u x r)(hl:r.length<=12):Fn0 prog 121 [x] u fun v _=>v=.bool false:=by
 obtain⟨a,c,rfl⟩:=Ad.opn h;rw[Bm];refine Fn0.o func121 ?_;refine G.gF (r.length:Int) 12 ?_;exact G.r (.bool false) ⟨rfl,rfl⟩
theorem Af5 {qs:List Rat}(h:Eg u x (qs.map Ap))(hq:∀ q∈qs,Tx q)(hl:qs.length<=1000000):Fn0 prog 123 [x] u fun v _=>v=.bool false:=by
 obtain⟨a,c,rfl⟩:=Ad.opn h;refine Fn0.o func123 ?_;refine G.c call124 (Ajm h hq hl) ?_;rintro v1 u1 l1 rfl;exact G.r (.bool false) ⟨rfl,rfl⟩
end
def FnR (P:Program)(f:FuncId)(args:List Value)(u mc:PH)(R:Value->PH->Prop):Prop:=Ak P f args u mc (fun v u' m'=>m'=mc/\R v u')
theorem C6 (mc:PH):PH.mt.or mc=mc:=by funext g;rfl
theorem Ic (mc:PH):J9 PH.mt mc:=fun _=>.inl rfl
theorem Agf {u mc:PH}{x:Value}{r:List (List UInt8)}{g n:Nat}{t:TypeId}(h:Eg u x r)(hl:r.length=n)(hn:n<=12)(hg:mc g=some (.cells #[.int .i64 (n:Int)] t (0,0))) :
 FnR prog 122 [x,.pointer (some ⟨g,0,none⟩)] u mc fun v _=>v=.bool false:=by
 obtain⟨a,c,rfl⟩:=Ad.opn h;rw[Bm];refine Ak.o func122 ?_;refine G.lM none g 0 (.int .i64 (n:Int)) (fun i y hy=>by
  match i,hy with
  |0,hy=>simp[Atw]at hy;subst hy;exact⟨_,_,_,hg,rfl⟩) ?_
 refine G.nF (r.length:Int) (n:Int) ?_;exact G.r (.bool false) ⟨rfl,rfl⟩
theorem Adq {u mc:PH}{v:Value}{rs:List (List (List UInt8))}{fid:Nat}{cap:List Value}(h:Bx u v rs)(hl:rs.length<=1000000)
 (hcall:∀ args w,(callFunc fid args).run prog w=.ok (.enter fid args) w) (hf:∀ r∈rs,∀ u' x,PH.le u u'->Eg u' x r->FnR prog fid (x::cap) u' mc fun v _=>v=.bool false) :
 FnR prog 180 [v,.func (.func fid) #[] cap.toArray] u mc fun v' _=>v'=.int .i64 (-1):=by
 obtain⟨a,c,rfl⟩:=h.opn;refine Ak.o func180 ?_;refine G.l (ι:=Nat) (fun i=>[(0,sV a rs.length c),(1,.v (.func (.func fid) #[] cap.toArray)),(7,iV rs.length),(8,iV i)]) (fun _=>[])
  (fun i u' m'=>i<=rs.length/\m'=mc) (fun i=>rs.length-i) 0 ⟨oV,rfl⟩ ?_
 rintro J k hJ u' m' hle ⟨hk,rfl⟩;by_cases hlt:k<rs.length
 ·refine G.lT (k:Int) (rs.length:Int) ?_;have htk:rs[k]?=some rs[k]:=As5 hlt;obtain⟨ba,oa,a',c',rfl,ea,es⟩:=(h.mono hle).row htk;refine G.a ba oa rs.length c k 1 oV ?_;refine G.lU none ba (oa+k*1) (.slice a' rs[k].length c') ea ?_;refine G.callM fid (.slice a' rs[k].length c'::cap) kV kV hcall (C6 _).symm (Ic _) (hf rs[k] (Ath hlt) u' _ hle es) ?_;rintro v1 u1 mc1 l1 ⟨rfl,rfl⟩;rw[C6];refine G.i k ?_;exact G.b (hJ (k+1) _ _ _ cV (hle.trans l1) ⟨oV,rfl⟩ oV)
 ·refine G.lF (k:Int) (rs.length:Int) ?_;exact G.r (.int .i64 (-1)) ⟨rfl,rfl⟩
theorem Nk {u mc:PH}{v:Value}{rs:List (List (List UInt8))}{fid:Nat}{cap:List Value}(h:Bx u v rs)(hl:rs.length<=1000000)
 (hcall:∀ args w,(callFunc fid args).run prog w=.ok (.enter fid args) w) (hf:∀ r∈rs,∀ u' x,PH.le u u'->Eg u' x r->FnR prog fid (x::cap) u' mc fun v _=>v=.bool false) :
 FnR prog 120 [v,.func (.func fid) #[] cap.toArray] u mc fun v' _=>v'=.bool false:=by
 obtain⟨a,c,rfl⟩:=h.opn;refine Ak.o func120 ?_;refine G.callM _ _ kV kV call180 (C6 _).symm (Ic _) (Adq h hl hcall hf) ?_;rintro v1 u1 mc1 l1 ⟨rfl,rfl⟩;rw[C6];refine G.hF (-1) 0 ?_;exact G.r (.bool false) ⟨rfl,rfl⟩
section
variable [Ca] [Df] [Pu]
section rules
variable {P:Program} [A7 P] {fn:Func} {Post:By} {st:List KI×S} {u m:PH}
theorem G.storeM (sz b off:Nat)(t:TypeId)(cs:List Value)(e:Value)(h:Al P (adv P st)=.store (some sz) (.pointer (some ⟨b,off,none⟩)) e)(hb:m b=some (.cells cs.toArray t (0,0)))(ho:∀ x∈cs,Bh x=true)(hl:off+sz<=cs.length)(he:e.cells.size=sz)(hc:e.cells.toList.all Bh=true)
 (k:G P fn Post (nx (adv P st) undef) u (m.upd b (.cells (cs.take off++e.cells.toList++cs.drop (off+sz)).toArray t (0,0)))):G P fn Post st u m:=by
 refine G.big (K:=fun v' u' m'=>u'=u/\v'=undef/\m'=m.upd b (.cells (cs.take off++e.cells.toList++cs.drop (off+sz)).toArray t (0,0))) h mV (fun env op hv=>?_) (.inr fun env op hv=>?_) (fun env o hview w hgd=>?_) (fun v' u' m' _ hk=>?_)
 ·obtain⟨t',X,Y,rfl,_⟩:=Gu hv;rfl
 ·obtain⟨t',X,Y,rfl,_⟩:=Gu hv;rfl
 ·obtain⟨t',X,Y,e1,e2,e3,ht⟩:=Gu hview;obtain⟨dst,opp,type,pos,after,guard⟩:=o;simp only at e1;subst e1;rw[List.all_eq_true]at hc;have hgw:=hgd.pm b _ hb;have hst:=run_storeCells_at P b off t e.cells.toList 0 cs.toArray w hgw (by simp[he];omega) (fun x hx=>Ie (hc x hx));simp only[Nat.add_zero,Array.length_toList,he,Av4]at hst;have hcell:∀ x∈(cs.take off++e.cells.toList++cs.drop (off+sz)).toArray.toList,Bh x=true:=by
   intro x hx;simp only[Av4,List.mem_append]at hx;rcases hx with (hx|hx)|hx
   ·exact ho x (List.mem_of_mem_take hx)
   ·exact hc x hx
   ·exact ho x (List.mem_of_mem_drop hx)
  obtain⟨g1,g2⟩:=hgd.setM hb hcell;unfold E3;have hex:(execOp env ⟨dst,.store t' X Y,type,pos,after,guard⟩).run P w=.ok .skip (w.setRow b (cs.take off++e.cells.toList++cs.drop (off+sz)).toArray):=by
   simp only[execOp,e2,e3];simp only[Au1]at hst⊢;simp[Instr.storeAt,Instr.sureAddr,storeVar,Be ht,he,hst]
  rw[hex];exact⟨u,_,g1,g2,rfl,rfl,rfl⟩
 ·obtain⟨rfl,rfl,rfl⟩:=hk;exact k
end rules
end
section
variable {a:Act}{c:Cx}{s:S}{w:World}{ρ:Nat->Nat}
variable [Ca] [Pu]
section rules
variable {P:Program} [A7 P] {fn:Func} {Post:By} {st:List KI×S} {u m:PH}
section based
variable [Df]
theorem Rel.less {c:Cx}{s:S}{ρ:Nat->Nat}{a:Act}{w:World}(h:Rel c s u m ρ a w){m':PH}(hl:PH.le m' m):Rel c s u m' ρ a w:=by
 have hn:∀ g,m g=none->m' g=none:=fun g hg=>by
  cases e:m' g with
  |none=>rfl
  |some o=>rw[hl g o e]at hg;cases hg
 refine⟨h.sz,h.tm,h.df.of fun r e _ hu hm=>⟨e,hu,hn _ hm⟩,fun k b hb=>?_,h.inj,h.lv,h.gd.less hl,⟨h.gr.sz,h.gr.old,h.gr.us,fun g hg hm=>hn g (h.gr.ms g hg hm),h.gr.io,h.gr.dr⟩⟩;obtain⟨e1,e2,e3,e4⟩:=h.box k b hb;exact⟨e1,e2,e3,hn _ e4⟩
theorem G.drop (m':PH)(h:Gg (ctl P 100 st).1=true)(hl:PH.le m' m)(k:G P fn Post (ctl P 100 st) u m'):G P fn Post st u m:=by
 refine⟨Jk 100 st ?_⟩;have hk:=k.out;rw[Sym.ofNo h]at hk⊢;intro c ρ a w hm0 hr;exact hk c ρ a w hm0 (hr.less hl)
def Alj (P:Program)(s:S)(m:PH)(r:ResultVar)(v:Value):Prop :=
 Ug P s r=some v\/∃ a t g off kd,r=.cell a t/\s.tm a=.v (.pointer (some ⟨g,off,none⟩))/\To P t=some kd/\Aai kd v=true/\ElP m g off v
def X0 (P:Program)(s:S)(m:PH):List ResultVar->List Value->Prop
 |[],[]=>True
 |r::rs,v::vs=>Alj P s m r v/\X0 P s m rs vs
 |_,_=>False
theorem Aep (hr:Rel c s u m ρ a w){r:ResultVar}{x:Value}(h:Alj P s m r x):(K3 a.tmps r).run P w=.ok x w:=by
 rcases h with h|⟨p,t,g,off,kd,rfl,h1,h2,h3,h4⟩
 ·exact T9 hr h
 ·have:=hr.tm p (by rw[h1];simp);rw[h1]at this;simp[K3,this,SV.den,asAddr,Of h2 h3 h4 hr.gd.pm]
theorem Se (hr:Rel c s u m ρ a w){l:List Value}(h:X0 P s m fn.results.toList l):(results fn a.tmps).run P w=.ok (Rs l) w:=by
 have key:∀ (rs:List ResultVar) (l:List Value),X0 P s m rs l->(rs.mapM (K3 a.tmps)).run P w=.ok l w:=by
  intro rs;induction rs with
  |nil=>intro l h;cases l with|nil=>simp|cons=>exact h.elim
  |cons r rs ih =>
   intro l h;cases l with
   |nil=>exact h.elim
   |cons x xs =>
    rw[List.mapM_cons];simp only[At4,Aep hr h.1,Atf,ih xs h.2,Avt]
 have e:results fn a.tmps=(do let vs <-fn.results.mapM (K3 a.tmps);pure (if h:vs.size=1 then vs[0] else .tuple vs)):=by
  unfold results;rfl
 rw[e,<-Array.toArray_toList (xs:=fn.results),List.mapM_toArray];simp only[At4,Sem.run_map,key _ l h,Atf,Avt]
 congr 1
 match l with
 |[]=>rfl
 |[x]=>rfl
 |x::y::l=>rfl
def Apx (st:List KI×S):Bool:=match st.1 with
 |.code .ret::_=>true
 |[]=>true
 |_=>false
end based
theorem G.retM (l:List Value)(m':PH)(h:Apx (adv P st)=true)(hr:X0 P (adv P st).2 m fn.results.toList l)(hl:PH.le m' m)(hp:Post.post (Rs l) u m'):G P fn Post st u m:=by
 refine G.stp ?_;generalize adv P st=st' at h hr;obtain⟨ks,s⟩:=st';unfold Apx at h;simp only at h;split at h
 ·refine⟨?_⟩;intro c ρ a w hm0 hrel;exact wp_ret (Kg (hrel.ends fun w' h'=>⟨Se (a:=⟨a.tmps,[]⟩) h' hr,_,_,_,rfl,(h'.less hl).gd,(h'.less hl).gr,hp⟩).1 _)
 ·refine⟨?_⟩;intro c ρ a w hm0 hrel;exact (hrel.ends fun w' h'=>⟨Se (a:=⟨a.tmps,[]⟩) h' hr,_,_,_,rfl,(h'.less hl).gd,(h'.less hl).gr,hp⟩).2
 ·cases h
theorem PH.mt_le (m:PH):PH.le PH.mt m:=fun _ _ h=>by cases h
end rules
end
section
variable {A:List (List Rat)}
theorem Ba (A:List (List Rat)):(Br A).length=A.length:=by simp[Br]
theorem Ex {j:Nat}{r:List Rat}(h:A[j]?=some r):(Br A)[j]?=some (r.map Ap):=by simp[Br,h]
theorem Oi {r:List (List UInt8)}(h:r∈Br A):∃ q∈A,r=q.map Ap:=by
 simp only[Br,Ate]at h;obtain⟨q,h1,rfl⟩:=h;exact⟨q,h1,rfl⟩
theorem R8 (m:PH)(g:Nat)(z:Int)(t:TypeId):ElP (m.upd g (.cells [Auj .i64 z].toArray t (0,0))) g 0 (.int .i64 z):=fun i y hy=>by
 match i,hy with
 |0,hy=>simp[Atw]at hy;subst hy;exact⟨_,_,_,Ab _ _ _,rfl⟩
theorem Aqh {u:PH}{v:Value}{k:Nat}(h:Bx u v (Br A))(hn:A.length<=12)(hk:k<=12)(hr:∀ r∈A,r.length=k)(h0:A.length=0->k=0)(hT:∀ r∈A,∀ q∈r,Tx q) :
 Fn0 prog 55 [v] u fun v' _=>v'=.tuple #[.int .i64 (A.length:Int),.int .i64 (k:Int),.int .i64 0]:=by
 obtain⟨a,c,rfl⟩:=h.opn;rw[Ba]at h⊢;refine Fn0.o func55 ?_;refine G.gF (A.length:Int) 12 ?_;refine G.c call120 (I9 (fid:=121) (cap:=[]) h (by rw[Ba];omega) call121 (fun r hr' u' x _ hx=>?_)) ?_
 ·obtain⟨q,hq,rfl⟩:=Oi hr';exact Anf hx (by rw[Ata,hr q hq];omega)
 rintro v1 u1 l1 rfl;have hlen:∀ r∈Br A,r.length=k:=fun r hr'=>by
  obtain⟨q,hq,rfl⟩:=Oi hr';rw[Ata,hr q hq]
 by_cases hpos:0<A.length
 ·refine G.gT (A.length:Int) 0 ?_;have htk:A[0]?=some A[0]:=As5 hpos;obtain⟨ba,oa,a',c',rfl,ea,es⟩:=(h.mono l1).row (Ex htk);rw[Ata,hr _ (Ath hpos)]at ea;refine G.a ba oa A.length c 0 1 oV ?_;refine G.lU none ba (oa+0*1) (.slice a' k c') ea ?_;refine G.pub 1 3 [.int .i64 (k:Int)] kV kV ?_;intro g hu hm;refine G.callM _ _ kV kV call120 (C6 _).symm (Ic _) (Nk (fid:=122) (cap:=[.pointer (some ⟨g,0,none⟩)]) (h.mono l1) (by rw[Ba];omega) call122 (fun r hr' u' x _ hx=>Agf hx (hlen r hr') hk (Ab _ _ _))) ?_;rintro v2 u2 mc2 l2 ⟨rfl,rfl⟩;rw[C6];refine G.c call120 (I9 (fid:=123) (cap:=[]) (h.mono (l1.trans l2)) (by rw[Ba];omega) call123 (fun r hr' u' x _ hx=>?_)) ?_
  ·obtain⟨q,hq,rfl⟩:=Oi hr';exact Af5 hx (hT q hq) (by rw[hr q hq];omega)
  rintro v3 u3 l3 rfl;refine G.lM none g 0 (.int .i64 (k:Int)) (R8 _ _ _ _) ?_;refine G.storeM 1 g 0 3 [.int .i64 (k:Int)] (.int .i64 (k:Int)) kV (Ab _ _ _) (fun x hx=>by simp at hx;subst hx;rfl) mV rfl rfl ?_;exact G.retM [.int .i64 (A.length:Int),.int .i64 (k:Int),.int .i64 0] PH.mt kV ⟨.inl kV,.inr ⟨3,3,g,0,none,rfl,kV,kV,rfl,R8 _ _ _ _⟩,.inl kV,trivial⟩ (PH.mt_le _) ⟨rfl,rfl⟩
 ·refine G.gF (A.length:Int) 0 ?_;obtain rfl:k=0:=h0 oV;refine G.pub 1 3 [.int .i64 ((0:Nat):Int)] kV kV ?_;intro g hu hm;refine G.callM _ _ kV kV call120 (C6 _).symm (Ic _) (Nk (fid:=122) (cap:=[.pointer (some ⟨g,0,none⟩)]) (h.mono l1) (by rw[Ba];omega) call122 (fun r hr' u' x _ hx=>Agf hx (hlen r hr') hk (Ab _ _ _))) ?_;rintro v2 u2 mc2 l2 ⟨rfl,rfl⟩;rw[C6];refine G.c call120 (I9 (fid:=123) (cap:=[]) (h.mono (l1.trans l2)) (by rw[Ba];omega) call123 (fun r hr' u' x _ hx=>?_)) ?_
  ·obtain⟨q,hq,rfl⟩:=Oi hr';exact Af5 hx (hT q hq) (by rw[hr q hq];omega)
  rintro v3 u3 l3 rfl;refine G.lM none g 0 (.int .i64 ((0:Nat):Int)) (R8 _ _ _ _) ?_;refine G.storeM 1 g 0 3 [.int .i64 ((0:Nat):Int)] (.int .i64 ((0:Nat):Int)) kV (Ab _ _ _) (fun x hx=>by simp at hx;subst hx;rfl) mV rfl rfl ?_;exact G.retM [.int .i64 (A.length:Int),.int .i64 ((0:Nat):Int),.int .i64 0] PH.mt kV ⟨.inl kV,.inr ⟨3,3,g,0,none,rfl,kV,kV,rfl,R8 _ _ _ _⟩,.inl kV,trivial⟩ (PH.mt_le _) ⟨rfl,rfl⟩
end
section
variable {A:List (List Rat)}{i j:Nat}{u:PH}{v:Value}
theorem Bx.cell {a:Option Addr}{n c i j:Nat}(h:Bx u (.slice a n c) (Br A))(hi:i<A.length)(hj:j<A[i].length) :
 ∃ b off b' off' c',a=some ⟨b,off,none⟩/\ElP u b (off+i*1) (.slice (some ⟨b',off',none⟩) A[i].length c')/\ElP u b' (off'+j*1) (.string (mkS (Ap A[i][j]))):=by
 obtain⟨b,off,a',c',rfl,e1,e2⟩:=h.row (Ex (As5 hi));rw[Ata]at e1 e2;obtain⟨b',off',rfl,e3⟩:=Ad.at' e2 (j:=j) (e:=.string (mkS (Ap A[i][j]))) (by simp[Bo,As5 hj]);exact⟨b,off,b',off',c',rfl,e1,e3⟩
structure Sq (A:List (List Rat)):Prop where
 le:A.length<=12
 row:∀ r∈A,r.length=A.length
 tx:∀ r∈A,∀ q∈r,Tx q
theorem Sq.len (h:Sq A)(hi:i<A.length):A[i].length=A.length:=h.row _ (Ath hi)
theorem Sq.tx' (h:Sq A)(hi:i<A.length)(hj:j<A[i].length):Tx A[i][j]:=h.tx _ (Ath hi) _ (Ath hj)
def Aaw (A:List (List Rat)):Prop:=∀ (i k:Nat) (hi:i<A.length) (hk:k<A.length) (h1:k<A[i].length) (h2:i<A[k].length),A[i][k]=A[k][i]
theorem Yu (h:Bx u v (Br A))(hs:Sq A):Fn0 prog 55 [v] u fun v' _=>v'=.tuple #[.int .i64 (A.length:Int),.int .i64 (A.length:Int),.int .i64 0] :=
 Aqh h hs.le hs.le hs.row (fun h=>h) hs.tx
theorem Adn (h:Bx u v (Br A))(hs:Sq A)(hy:Aaw A):Fn0 prog 106 [v] u fun v' _=>v'=.bool true:=by
 obtain⟨a,c,rfl⟩:=h.opn;rw[Ba]at h⊢;have hle:=hs.le;refine Fn0.o func106 ?_;refine G.c call55 (Yu h hs) ?_;rintro v1 u1 l1 rfl;refine G.nF 0 0 ?_;refine G.nF (A.length:Int) (A.length:Int) ?_;refine G.l (ι:=Nat) (fun i=>[(0,sV a A.length c),(22,iV A.length),(23,iV i)]) (fun _=>[])
  (fun i u' m'=>i<=A.length/\m'=PH.mt) (fun i=>A.length-i) 0 ⟨oV,rfl⟩ ?_
 rintro J i hJ u2 m2 l2 ⟨hi,rfl⟩;by_cases hlt:i<A.length
 ·refine G.lT (i:Int) (A.length:Int) ?_;refine G.l (ι:=Nat) (fun k=>[(0,sV a A.length c),(22,iV A.length),(23,iV i),(6,iV i),(26,iV i),(27,iV k)]) (fun _=>[])
   (fun k u' m'=>k<=i/\m'=PH.mt) (fun k=>i-k) 0 ⟨oV,rfl⟩ ?_
  rintro J2 k hJ2 u3 m3 l3 ⟨hk,rfl⟩;by_cases hlt2:k<i
  ·refine G.lT (k:Int) (i:Int) ?_;have hkl:k<A.length:=oV
   have hki:k<A[i].length:=by rw[hs.len hlt];omega
   have hik:i<A[k].length:=by rw[hs.len hkl];omega
   have hM:=h.mono (l1.trans (l2.trans l3));obtain⟨b1,o1,b2,o2,c2,rfl,e1,e2⟩:=hM.cell hlt hki;refine G.a b1 o1 A.length c i 1 oV ?_;refine G.lU none b1 (o1+i*1) _ e1 ?_;refine G.a b2 o2 A[i].length c2 k 1 hki ?_;refine G.lU none b2 (o2+k*1) _ e2 ?_;obtain⟨b3,o3,b4,o4,c4,e0,e3,e4⟩:=hM.cell hkl hik;cases e0;refine G.a b1 o1 A.length c k 1 oV ?_;refine G.lU none b1 (o1+k*1) _ e3 ?_;refine G.a b4 o4 A[k].length c4 i 1 hik ?_;refine G.lU none b4 (o4+i*1) _ e4 ?_;refine G.y (Ap A[i][k]) (Ap A[k][i]) (by rw[hy i k hlt hkl hki hik]) ?_;refine G.i k ?_;exact G.b (hJ2 (k+1) _ _ _ cV l3 ⟨oV,rfl⟩ oV)
  ·refine G.lF (k:Int) (i:Int) ?_;refine G.i i ?_;exact G.b (hJ (i+1) _ _ _ cV (l2.trans l3) ⟨oV,rfl⟩ oV)
 ·refine G.lF (i:Int) (A.length:Int) ?_;exact G.r (.bool true) ⟨rfl,rfl⟩
theorem Wb (h:Bx u v (Br A))(hs:Sq A)(hy:Aaw A):Fn0 prog 46 [v] u fun v' _=>v'=.int .i64 0:=by
 obtain⟨a,c,rfl⟩:=h.opn;rw[Ba]at h⊢;refine Fn0.o func46 ?_;refine G.c call55 (Yu h hs) ?_;rintro v1 u1 l1 rfl;refine G.eT 0 0 ?_;refine G.c call106 (Adn (h.mono l1) hs hy) ?_;rintro v2 u2 l2 rfl;exact G.r (.int .i64 0) ⟨rfl,rfl⟩
end
end Go.Proofs.YtnafchoihfnkeaaGreatDoor
