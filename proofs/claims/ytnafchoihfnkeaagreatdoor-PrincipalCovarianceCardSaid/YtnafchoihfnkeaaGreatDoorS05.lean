/- Parts of one proof, joined by a program. -/
import Derived.Test.YtnafchoihfnkeaaGreatDoorS04
import Derived.Shelf.Strings.Builder1
import Derived.Shelf.Strings.Builder2
import Derived.Shelf.Small.Bits
import Derived.Shelf.Small.Wraps
import Derived.Shelf.Strings.BuilderF
import Derived.Shelf.Strings.BuilderK
import Derived.Shelf.Strings.Builder2Cap
import Derived.Shelf.Strconv.Itoa0
import Derived.Shelf.Strconv.Itoa1
import Derived.Shelf.LaysM
import Derived.Shelf.Strconv.Itoa2
import Derived.Shelf.Strconv.Itoa3
import Derived.Shelf.Strconv.Lower
import Derived.Shelf.Strconv.ParseUint10
import Derived.Shelf.Strconv.ParseUintEmpty
import Derived.Shelf.Strconv.ParseUint10b64
import Derived.Shelf.Strconv.ParseUint10b32
import Derived.Shelf.Strconv.ParseUint10b16
import Derived.Shelf.Strconv.ParseUint10b8
import Derived.Shelf.Strconv.ParseUint10At
import Derived.Ground.MpProg
import Derived.Shelf.Pu.ParseUintPublic10
import Derived.Shelf.Strings.Search1
import Derived.Shelf.Strings.Search2
import Derived.Shelf.Strings.Cut
import Derived.Shelf.Strings.Shaped
import Derived.Shelf.Strings.Prefix
import Derived.Shelf.Bits.Mul64
import Derived.Shelf.Strings.Repeat
import Derived.Shelf.Strings.BuilderCap
import Derived.Test.YtnafchoihfnkeaaGreatDoorProg
import Derived.Lib.AppendIntMem
import Derived.Lib.AtoiErrMem
import Derived.Lib.ConvBytes
set_option linter.defProp false
set_option linter.unusedVariables false
set_option linter.unusedSimpArgs false
set_option linter.unusedSectionVars false
set_option maxHeartbeats 16000000
namespace Go.Proofs.YtnafchoihfnkeaaGreatDoor
open Go.Proofs.Tryz
open Go.RowKit
def Axk:=@Option.map_eq_some_iff
def Ayw:=@Array.size_replicate
def Atk:=@List.map_append
def Azd:=@Option.isSome_iff_exists
end Go.Proofs.YtnafchoihfnkeaaGreatDoor
section
namespace Go.Proofs
open Go.Shelf
def Tryz.lays169_ren:Go.Shelf.Ren:=⟨fun|169=>213|n=>n,fun|70=>274|9=>9|0=>0|72=>276|37=>217|127=>301|3=>3|5=>5|n=>n,fun|n=>n⟩
theorem Tryz.lays169:Go.Proofs.Lays.n169 Tryz.prog Tryz.lays169_ren:={
 mixed:=by kernel_rfl
 f169:=Tryz.func213.trans (congrArg some (by kernel_rfl))
 t0:=Tryz.underlying0
 a0:=Tryz.isAgg0
 z0:=Tryz.sizeOf0
 v0:=Tryz.zeroValue0
 t3:=Tryz.underlying3
 a3:=Tryz.isAgg3
 z3:=Tryz.sizeOf3
 v3:=Tryz.zeroValue3
 t9:=Tryz.underlying9
 a9:=Tryz.isAgg9
 z9:=Tryz.sizeOf9
 v9:=Tryz.zeroValue9
 t37:=Tryz.underlying217
 a37:=Tryz.isAgg217
 z37:=Tryz.sizeOf217
 v37:=Tryz.zeroValue217
 t70:=Tryz.underlying274
 a70:=Tryz.isAgg274
 z70:=Tryz.sizeOf274
 v70:=Tryz.zeroValue274
 t72:=Tryz.underlying276
 a72:=Tryz.isAgg276
 z72:=Tryz.sizeOf276
 v72:=Tryz.zeroValue276
 t127:=Tryz.underlying301
 a127:=Tryz.isAgg301
 z127:=Tryz.sizeOf301
 v127:=Tryz.zeroValue301 }
theorem Tryz.Builder_Extra_169:Builder.Extra Tryz.prog Tryz.lays169_ren:={
 sizeBuilder:=by kernel_rfl
 liesBuilder:=by kernel_rfl
 t5:=Tryz.underlying5
 a5:=Tryz.isAgg5
 z5:=Tryz.sizeOf5
 v5:=Tryz.zeroValue5
 infoByte:=by kernel_rfl
 cellsByte:=by kernel_rfl
 sizeByte:=by kernel_rfl
 neB5:=by decide }
open Go.RowKit in
theorem Tryz.Builder_String (B b:Nat)(l:List UInt8)(w:World)(h:Lib.IsBuilder 276 5 B b (Lib.byteCells l) w)(h0:l≠[]) :
 Calls Tryz.prog 213 #[.pointer (some ⟨b,0,none⟩)] w fun e w'=>e=.returned (.string ⟨l.toArray⟩)/\Below B w w':=Any.Builder_String Tryz.lays169 Tryz.Builder_Extra_169 B b l w h h0
def Tryz.lays210_ren:Go.Shelf.Ren:=⟨fun|210=>216|206=>245|n=>n,fun|9=>9|4=>4|3=>3|n=>n,fun|n=>n⟩
def Tryz.lays103_ren:Go.Shelf.Ren:=⟨fun|103=>170|210=>216|206=>245|n=>n,fun|9=>9|4=>4|24=>239|3=>3|n=>n,fun|n=>n⟩
theorem Tryz.lays103:Go.Proofs.Lays.n103 Tryz.prog Tryz.lays103_ren:={
 mixed:=by kernel_rfl
 f103:=Tryz.func170.trans (congrArg some (by kernel_rfl))
 f206:=Tryz.func245.trans (congrArg some (by kernel_rfl))
 f210:=Tryz.func216.trans (congrArg some (by kernel_rfl))
 t3:=Tryz.underlying3
 a3:=Tryz.isAgg3
 z3:=Tryz.sizeOf3
 v3:=Tryz.zeroValue3
 t4:=Tryz.underlying4
 a4:=Tryz.isAgg4
 z4:=Tryz.sizeOf4
 v4:=Tryz.zeroValue4
 t9:=Tryz.underlying9
 a9:=Tryz.isAgg9
 z9:=Tryz.sizeOf9
 v9:=Tryz.zeroValue9
 t24:=Tryz.underlying239
 a24:=Tryz.isAgg239
 z24:=Tryz.sizeOf239
 v24:=Tryz.zeroValue239 }
open Go.RowKit in
theorem Tryz.strings_CutPrefix (s p:ByteArray)(w:World) :
 Calls Tryz.prog 170 #[.string s,.string p] w fun e w'=>e=.returned (.tuple #[.string ⟨(Lib.trimPrefix s.data.toList p.data.toList).toArray⟩,.bool (Lib.hasPrefix s.data.toList p.data.toList)])/\w'=w:=Any.strings_CutPrefix Tryz.lays103 s p w
def Tryz.lays283_ren:Go.Shelf.Ren:=⟨fun|283=>233|n=>n,fun|3=>3|9=>9|4=>4|n=>n,fun|n=>n⟩
theorem Tryz.lays283:Go.Proofs.Lays.n283 Tryz.prog Tryz.lays283_ren:={
 mixed:=by kernel_rfl
 f283:=Tryz.func233.trans (congrArg some (by kernel_rfl))
 t3:=Tryz.underlying3
 a3:=Tryz.isAgg3
 z3:=Tryz.sizeOf3
 v3:=Tryz.zeroValue3
 t4:=Tryz.underlying4
 a4:=Tryz.isAgg4
 z4:=Tryz.sizeOf4
 v4:=Tryz.zeroValue4
 t9:=Tryz.underlying9
 a9:=Tryz.isAgg9
 z9:=Tryz.sizeOf9
 v9:=Tryz.zeroValue9 }
open Go.Lib in
theorem Tryz.internal_strconv_small (i:Nat)(h:i<100)(w:World) :
 Calls Tryz.prog 233 #[.int .i64 i] w fun e w'=>e=.returned (.string ⟨(Lib.decDigits i).toArray⟩)/\w'=w:=Any.internal_strconv_small Tryz.lays283 i h w
def Tryz.laysM284_ren:Go.Shelf.Ren:=⟨fun|284=>234|129=>206|317=>254|318=>255|n=>n,fun|53=>236|3=>3|212=>312|0=>0|4=>4|46=>197|5=>5|9=>9|n=>n,fun|17=>1|n=>n⟩
theorem Tryz.laysM284:Go.Proofs.LaysM.n284 Tryz.prog Tryz.laysM284_ren:={
 mixed:=by kernel_rfl
 f129:=Tryz.func206.trans (congrArg some (by kernel_rfl))
 f284:=Tryz.func234.trans (congrArg some (by kernel_rfl))
 f317:=Tryz.func254.trans (congrArg some (by kernel_rfl))
 f318:=Tryz.func255.trans (congrArg some (by kernel_rfl))
 t0:=Tryz.underlying0
 a0:=Tryz.isAgg0
 z0:=Tryz.sizeOf0
 v0:=Tryz.zeroValue0
 t3:=Tryz.underlying3
 a3:=Tryz.isAgg3
 z3:=Tryz.sizeOf3
 v3:=Tryz.zeroValue3
 t4:=Tryz.underlying4
 a4:=Tryz.isAgg4
 z4:=Tryz.sizeOf4
 v4:=Tryz.zeroValue4
 t5:=Tryz.underlying5
 a5:=Tryz.isAgg5
 z5:=Tryz.sizeOf5
 v5:=Tryz.zeroValue5
 t9:=Tryz.underlying9
 a9:=Tryz.isAgg9
 z9:=Tryz.sizeOf9
 v9:=Tryz.zeroValue9
 t46:=Tryz.underlying197
 a46:=Tryz.isAgg197
 z46:=Tryz.sizeOf197
 v46:=Tryz.zeroValue197
 t53:=Tryz.underlying236
 a53:=Tryz.isAgg236
 z53:=Tryz.sizeOf236
 v53:=Tryz.zeroValue236
 t212:=Tryz.underlying312
 a212:=Tryz.isAgg312
 z212:=Tryz.sizeOf312
 v212:=Tryz.zeroValue312
 g17:=by kernel_rfl
 i0:=by kernel_rfl
 i3:=by kernel_rfl
 i4:=by kernel_rfl
 i5:=by kernel_rfl
 i9:=by kernel_rfl
 i46:=by kernel_rfl
 i53:=by kernel_rfl
 i212:=by kernel_rfl
 m17:=by kernel_rfl }
open Go.Lib in
theorem Tryz.internal_strconv_numDigits (u:Nat)(h1:1<=u)(h2:u<18446744073709551616)(w:World)(htab:Lib.TabIs Tryz.prog w "internal/strconv.uint64pow10" .u64 Lib.pow10Tab) :
 Calls Tryz.prog 234 #[.int .u64 u] w fun e w'=>e=.returned (.int .i64 (Lib.nDigits u))/\w'=w:=Any.internal_strconv_numDigits Tryz.laysM284 u h1 h2 w htab
def Tryz.lays285_ren:Go.Shelf.Ren:=⟨fun|285=>235|n=>n,fun|37=>217|53=>236|3=>3|4=>4|51=>247|9=>9|5=>5|0=>0|n=>n,fun|n=>n⟩
theorem Tryz.lays285:Go.Proofs.Lays.n285 Tryz.prog Tryz.lays285_ren:={
 mixed:=by kernel_rfl
 f285:=Tryz.func235.trans (congrArg some (by kernel_rfl))
 t0:=Tryz.underlying0
 a0:=Tryz.isAgg0
 z0:=Tryz.sizeOf0
 v0:=Tryz.zeroValue0
 t3:=Tryz.underlying3
 a3:=Tryz.isAgg3
 z3:=Tryz.sizeOf3
 v3:=Tryz.zeroValue3
 t4:=Tryz.underlying4
 a4:=Tryz.isAgg4
 z4:=Tryz.sizeOf4
 v4:=Tryz.zeroValue4
 t5:=Tryz.underlying5
 a5:=Tryz.isAgg5
 z5:=Tryz.sizeOf5
 v5:=Tryz.zeroValue5
 t9:=Tryz.underlying9
 a9:=Tryz.isAgg9
 z9:=Tryz.sizeOf9
 v9:=Tryz.zeroValue9
 t37:=Tryz.underlying217
 a37:=Tryz.isAgg217
 z37:=Tryz.sizeOf217
 v37:=Tryz.zeroValue217
 t51:=Tryz.underlying247
 a51:=Tryz.isAgg247
 z51:=Tryz.sizeOf247
 v51:=Tryz.zeroValue247
 t53:=Tryz.underlying236
 a53:=Tryz.isAgg236
 z53:=Tryz.sizeOf236
 v53:=Tryz.zeroValue236 }
open Go.RowKit Go.Sort Go.Lib in
theorem Tryz.internal_strconv_formatBase10 (blk off cap:Nat)(u:Nat)(d:Array UInt8)(w:World)(hH:Holds (fun (b:UInt8)=>Value.int .u8 (b.toNat:Int)) w blk off d)(hu:u<10^d.size)(hu64:u<18446744073709551616)(hsz:d.size<4611686018427387904) :
 Calls Tryz.prog 235 #[.slice (some ⟨blk,off,none⟩) d.size cap,.int .u64 u] w fun e w' =>
  e=.returned (.tuple #[])/\∃ (n v':Nat) (dk:Array UInt8),w'=(putRow (fun (b:UInt8)=>Value.int .u8 (b.toNat:Int)) w blk off dk).drewN n/\FmtInv d.size u 0 v' dk:=Any.internal_strconv_formatBase10 Tryz.lays285 blk off cap u d w hH hu hu64 hsz
def Tryz.laysPu14_ren:Go.Shelf.Ren:=⟨fun|14=>171|16=>217|17=>218|19=>246|20=>247|21=>248|22=>249|23=>250|24=>251|25=>262|27=>264|26=>263|28=>268|29=>269|30=>233|31=>234|32=>235|33=>236|35=>206|34=>254|36=>255|37=>256|38=>257|39=>265|40=>266|n=>n,fun|9=>9|3=>3|22=>236|24=>242|25=>243|4=>4|34=>303|5=>5|36=>197|37=>217|0=>0|39=>305|21=>21|44=>319|47=>301|50=>324|48=>322|2=>2|52=>295|55=>297|59=>312|60=>247|20=>20|61=>313|65=>325|66=>326|67=>211|n=>n,fun|0=>2|1=>3|2=>1|3=>4|4=>5|n=>n⟩
theorem Tryz.laysPu14:Go.Proofs.LaysPu.n14 Tryz.prog Tryz.laysPu14_ren:={
 mixed:=by kernel_rfl
 f14:=Tryz.func171.trans (congrArg some (by kernel_rfl))
 f16:=Tryz.func217.trans (congrArg some (by kernel_rfl))
 f17:=Tryz.func218.trans (congrArg some (by kernel_rfl))
 f19:=Tryz.func246.trans (congrArg some (by kernel_rfl))
 f20:=Tryz.func247.trans (congrArg some (by kernel_rfl))
 f21:=Tryz.func248.trans (congrArg some (by kernel_rfl))
 f22:=Tryz.func249.trans (congrArg some (by kernel_rfl))
 f23:=Tryz.func250.trans (congrArg some (by kernel_rfl))
 f24:=Tryz.func251.trans (congrArg some (by kernel_rfl))
 f25:=Tryz.func262.trans (congrArg some (by kernel_rfl))
 f26:=Tryz.func263.trans (congrArg some (by kernel_rfl))
 f27:=Tryz.func264.trans (congrArg some (by kernel_rfl))
 f28:=Tryz.func268.trans (congrArg some (by kernel_rfl))
 f29:=Tryz.func269.trans (congrArg some (by kernel_rfl))
 f30:=Tryz.func233.trans (congrArg some (by kernel_rfl))
 f31:=Tryz.func234.trans (congrArg some (by kernel_rfl))
 f32:=Tryz.func235.trans (congrArg some (by kernel_rfl))
 f33:=Tryz.func236.trans (congrArg some (by kernel_rfl))
 f34:=Tryz.func254.trans (congrArg some (by kernel_rfl))
 f35:=Tryz.func206.trans (congrArg some (by kernel_rfl))
 f36:=Tryz.func255.trans (congrArg some (by kernel_rfl))
 f37:=Tryz.func256.trans (congrArg some (by kernel_rfl))
 f38:=Tryz.func257.trans (congrArg some (by kernel_rfl))
 f39:=Tryz.func265.trans (congrArg some (by kernel_rfl))
 f40:=Tryz.func266.trans (congrArg some (by kernel_rfl))
 t0:=Tryz.underlying0
 a0:=Tryz.isAgg0
 z0:=Tryz.sizeOf0
 v0:=Tryz.zeroValue0
 i0:=by kernel_rfl
 t2:=Tryz.underlying2
 a2:=Tryz.isAgg2
 z2:=Tryz.sizeOf2
 v2:=Tryz.zeroValue2
 i2:=by kernel_rfl
 t3:=Tryz.underlying3
 a3:=Tryz.isAgg3
 z3:=Tryz.sizeOf3
 v3:=Tryz.zeroValue3
 i3:=by kernel_rfl
 t4:=Tryz.underlying4
 a4:=Tryz.isAgg4
 z4:=Tryz.sizeOf4
 v4:=Tryz.zeroValue4
 i4:=by kernel_rfl
 t5:=Tryz.underlying5
 a5:=Tryz.isAgg5
 z5:=Tryz.sizeOf5
 v5:=Tryz.zeroValue5
 i5:=by kernel_rfl
 t9:=Tryz.underlying9
 a9:=Tryz.isAgg9
 z9:=Tryz.sizeOf9
 v9:=Tryz.zeroValue9
 i9:=by kernel_rfl
 t20:=Tryz.underlying20
 a20:=Tryz.isAgg20
 z20:=Tryz.sizeOf20
 v20:=Tryz.zeroValue20
 i20:=by kernel_rfl
 t21:=Tryz.underlying21
 a21:=Tryz.isAgg21
 z21:=Tryz.sizeOf21
 v21:=Tryz.zeroValue21
 i21:=by kernel_rfl
 t22:=Tryz.underlying236
 a22:=Tryz.isAgg236
 z22:=Tryz.sizeOf236
 v22:=Tryz.zeroValue236
 i22:=by kernel_rfl
 t24:=Tryz.underlying242
 a24:=Tryz.isAgg242
 z24:=Tryz.sizeOf242
 v24:=Tryz.zeroValue242
 i24:=by kernel_rfl
 t25:=Tryz.underlying243
 a25:=Tryz.isAgg243
 z25:=Tryz.sizeOf243
 v25:=Tryz.zeroValue243
 i25:=by kernel_rfl
 t34:=Tryz.underlying303
 a34:=Tryz.isAgg303
 z34:=Tryz.sizeOf303
 v34:=Tryz.zeroValue303
 i34:=by kernel_rfl
 c34:=by kernel_rfl
 t36:=Tryz.underlying197
 a36:=Tryz.isAgg197
 z36:=Tryz.sizeOf197
 v36:=Tryz.zeroValue197
 i36:=by kernel_rfl
 t37:=Tryz.underlying217
 a37:=Tryz.isAgg217
 z37:=Tryz.sizeOf217
 v37:=Tryz.zeroValue217
 i37:=by kernel_rfl
 t39:=Tryz.underlying305
 a39:=Tryz.isAgg305
 z39:=Tryz.sizeOf305
 v39:=Tryz.zeroValue305
 i39:=by kernel_rfl
 t44:=Tryz.underlying319
 a44:=Tryz.isAgg319
 z44:=Tryz.sizeOf319
 v44:=Tryz.zeroValue319
 i44:=by kernel_rfl
 t47:=Tryz.underlying301
 a47:=Tryz.isAgg301
 z47:=Tryz.sizeOf301
 v47:=Tryz.zeroValue301
 i47:=by kernel_rfl
 t48:=Tryz.underlying322
 a48:=Tryz.isAgg322
 z48:=Tryz.sizeOf322
 v48:=Tryz.zeroValue322
 i48:=by kernel_rfl
 t50:=Tryz.underlying324
 a50:=Tryz.isAgg324
 z50:=Tryz.sizeOf324
 v50:=Tryz.zeroValue324
 i50:=by kernel_rfl
 t52:=Tryz.underlying295
 a52:=Tryz.isAgg295
 z52:=Tryz.sizeOf295
 v52:=Tryz.zeroValue295
 i52:=by kernel_rfl
 t55:=Tryz.underlying297
 a55:=Tryz.isAgg297
 z55:=Tryz.sizeOf297
 v55:=Tryz.zeroValue297
 i55:=by kernel_rfl
 t59:=Tryz.underlying312
 a59:=Tryz.isAgg312
 z59:=Tryz.sizeOf312
 v59:=Tryz.zeroValue312
 i59:=by kernel_rfl
 t60:=Tryz.underlying247
 a60:=Tryz.isAgg247
 z60:=Tryz.sizeOf247
 v60:=Tryz.zeroValue247
 i60:=by kernel_rfl
 t61:=Tryz.underlying313
 a61:=Tryz.isAgg313
 z61:=Tryz.sizeOf313
 t65:=Tryz.underlying325
 a65:=Tryz.isAgg325
 z65:=Tryz.sizeOf325
 v65:=Tryz.zeroValue325
 i65:=by kernel_rfl
 t66:=Tryz.underlying326
 a66:=Tryz.isAgg326
 z66:=Tryz.sizeOf326
 v66:=Tryz.zeroValue326
 i66:=by kernel_rfl
 t67:=Tryz.underlying211
 a67:=Tryz.isAgg211
 z67:=Tryz.sizeOf211
 v67:=Tryz.zeroValue211
 i67:=by kernel_rfl
 g0:=by kernel_rfl
 m0:=by kernel_rfl
 g1:=by kernel_rfl
 m1:=by kernel_rfl
 g2:=by kernel_rfl
 m2:=by kernel_rfl
 g3:=by kernel_rfl
 m3:=by kernel_rfl
 g4:=by kernel_rfl
 m4:=by kernel_rfl }
open Go.RowKit in
theorem Tryz.strconv_ParseUint_10_at64_ok (s:ByteArray)(hmax:s.size<=9223372036854775806)(u:Nat)(h:Lib.parseUintB 64 s.data.toList=.ok u)(w:World) :
 Calls Tryz.prog 171 #[.string s,.int .i64 10,.int .i64 64] w fun e w'=>e=.returned (.tuple #[.int .u64 u,.nilIface])/\(w'=w\/w'=Lib.bytesWorld w 5 s):=Any.strconv_ParseUint_10_at64_ok Tryz.laysPu14 s hmax u h w
def Tryz.lays219_ren:Go.Shelf.Ren:=⟨fun|219=>214|217=>241|225=>242|224=>243|267=>244|266=>260|314=>261|n=>n,fun|9=>9|3=>3|4=>4|5=>5|46=>197|146=>248|51=>247|n=>n,fun|1=>0|n=>n⟩
theorem Tryz.lays219:Go.Proofs.Lays.n219 Tryz.prog Tryz.lays219_ren:={
 mixed:=by kernel_rfl
 f217:=Tryz.func241.trans (congrArg some (by kernel_rfl))
 f219:=Tryz.func214.trans (congrArg some (by kernel_rfl))
 f224:=Tryz.func243.trans (congrArg some (by kernel_rfl))
 f225:=Tryz.func242.trans (congrArg some (by kernel_rfl))
 f266:=Tryz.func260.trans (congrArg some (by kernel_rfl))
 f267:=Tryz.func244.trans (congrArg some (by kernel_rfl))
 f314:=Tryz.func261.trans (congrArg some (by kernel_rfl))
 t3:=Tryz.underlying3
 a3:=Tryz.isAgg3
 z3:=Tryz.sizeOf3
 v3:=Tryz.zeroValue3
 t4:=Tryz.underlying4
 a4:=Tryz.isAgg4
 z4:=Tryz.sizeOf4
 v4:=Tryz.zeroValue4
 t5:=Tryz.underlying5
 a5:=Tryz.isAgg5
 z5:=Tryz.sizeOf5
 v5:=Tryz.zeroValue5
 t9:=Tryz.underlying9
 a9:=Tryz.isAgg9
 z9:=Tryz.sizeOf9
 v9:=Tryz.zeroValue9
 t46:=Tryz.underlying197
 a46:=Tryz.isAgg197
 z46:=Tryz.sizeOf197
 v46:=Tryz.zeroValue197
 t51:=Tryz.underlying247
 a51:=Tryz.isAgg247
 z51:=Tryz.sizeOf247
 v51:=Tryz.zeroValue247
 t146:=Tryz.underlying248
 a146:=Tryz.isAgg248
 z146:=Tryz.sizeOf248
 v146:=Tryz.zeroValue248
 g1:=by kernel_rfl }
open Go.RowKit Go.Lib in
theorem Tryz.stringslite_Index_one (s:ByteArray)(c:UInt8)(w:World) :
 Calls Tryz.prog 214 #[.string s,.string ⟨#[c]⟩] w fun e w'=>e=.returned (.int .i64 (Lib.indexByte s.data.toList c))/\w'=w:=Any.stringslite_Index_one Tryz.lays219 s c w
def Tryz.lays101_ren:Go.Shelf.Ren:=⟨fun|101=>168|208=>215|206=>245|n=>n,fun|9=>9|4=>4|3=>3|n=>n,fun|n=>n⟩
theorem Tryz.lays101:Go.Proofs.Lays.n101 Tryz.prog Tryz.lays101_ren:={
 mixed:=by kernel_rfl
 f101:=Tryz.func168.trans (congrArg some (by kernel_rfl))
 f206:=Tryz.func245.trans (congrArg some (by kernel_rfl))
 f208:=Tryz.func215.trans (congrArg some (by kernel_rfl))
 t3:=Tryz.underlying3
 a3:=Tryz.isAgg3
 z3:=Tryz.sizeOf3
 v3:=Tryz.zeroValue3
 t4:=Tryz.underlying4
 a4:=Tryz.isAgg4
 z4:=Tryz.sizeOf4
 v4:=Tryz.zeroValue4
 t9:=Tryz.underlying9
 a9:=Tryz.isAgg9
 z9:=Tryz.sizeOf9
 v9:=Tryz.zeroValue9 }
open Go.RowKit Go.Lib in
theorem Tryz.strings_TrimPrefix (s p:ByteArray)(w:World) :
 Calls Tryz.prog 168 #[.string s,.string p] w fun e w'=>e=.returned (.string ⟨(Lib.trimPrefix s.data.toList p.data.toList).toArray⟩)/\w'=w:=Any.strings_TrimPrefix Tryz.lays101 s p w
def Tryz.lays212_ren:Go.Shelf.Ren:=⟨fun|212=>116|263=>178|264=>179|n=>n,fun|46=>197|51=>247|146=>248|53=>236|148=>250|n=>n,fun|n=>n⟩
theorem Tryz.lays212:Go.Proofs.Lays.n212 Tryz.prog Tryz.lays212_ren:={
 mixed:=by kernel_rfl
 f212:=Tryz.func116.trans (congrArg some (by kernel_rfl))
 f263:=Tryz.func178.trans (congrArg some (by kernel_rfl))
 f264:=Tryz.func179.trans (congrArg some (by kernel_rfl))
 t46:=Tryz.underlying197
 a46:=Tryz.isAgg197
 z46:=Tryz.sizeOf197
 v46:=Tryz.zeroValue197
 t51:=Tryz.underlying247
 a51:=Tryz.isAgg247
 z51:=Tryz.sizeOf247
 v51:=Tryz.zeroValue247
 t53:=Tryz.underlying236
 a53:=Tryz.isAgg236
 z53:=Tryz.sizeOf236
 v53:=Tryz.zeroValue236
 t146:=Tryz.underlying248
 a146:=Tryz.isAgg248
 z146:=Tryz.sizeOf248
 v146:=Tryz.zeroValue248
 t148:=Tryz.underlying250
 a148:=Tryz.isAgg250
 z148:=Tryz.sizeOf250
 v148:=Tryz.zeroValue250 }
open Go.RowKit Go.Lib in
theorem Tryz.bits_Mul (x y:Nat)(hx:x<18446744073709551616)(hy:y<18446744073709551616)(w:World) :
 Calls Tryz.prog 116 #[.int .u64 x,.int .u64 y] w fun e w'=>e=.returned (.tuple #[.int .u64 ((x*y/18446744073709551616:Nat):Int),.int .u64 ((x*y%18446744073709551616:Nat):Int)])/\w'=w:=Any.bits_Mul Tryz.lays212 x y hx hy w
def Tryz.lays105_ren:Go.Shelf.Ren:=⟨fun|105=>212|212=>116|99=>238|165=>239|166=>211|170=>240|169=>213|263=>178|264=>179|206=>245|240=>237|241=>259|276=>258|277=>267|n=>n,fun|9=>9|3=>3|4=>4|20=>20|0=>0|46=>197|109=>198|5=>5|72=>276|76=>277|51=>247|146=>248|53=>236|148=>250|70=>274|37=>217|75=>242|127=>301|164=>314|80=>211|n=>n,fun|n=>n⟩
theorem Tryz.lays105:Go.Proofs.Lays.n105 Tryz.prog Tryz.lays105_ren:={
 mixed:=by kernel_rfl
 f99:=Tryz.func238.trans (congrArg some (by kernel_rfl))
 f105:=Tryz.func212.trans (congrArg some (by kernel_rfl))
 f165:=Tryz.func239.trans (congrArg some (by kernel_rfl))
 f166:=Tryz.func211.trans (congrArg some (by kernel_rfl))
 f169:=Tryz.func213.trans (congrArg some (by kernel_rfl))
 f170:=Tryz.func240.trans (congrArg some (by kernel_rfl))
 f206:=Tryz.func245.trans (congrArg some (by kernel_rfl))
 f212:=Tryz.func116.trans (congrArg some (by kernel_rfl))
 f240:=Tryz.func237.trans (congrArg some (by kernel_rfl))
 f241:=Tryz.func259.trans (congrArg some (by kernel_rfl))
 f263:=Tryz.func178.trans (congrArg some (by kernel_rfl))
 f264:=Tryz.func179.trans (congrArg some (by kernel_rfl))
 f276:=Tryz.func258.trans (congrArg some (by kernel_rfl))
 f277:=Tryz.func267.trans (congrArg some (by kernel_rfl))
 t0:=Tryz.underlying0
 a0:=Tryz.isAgg0
 z0:=Tryz.sizeOf0
 v0:=Tryz.zeroValue0
 t3:=Tryz.underlying3
 a3:=Tryz.isAgg3
 z3:=Tryz.sizeOf3
 v3:=Tryz.zeroValue3
 t4:=Tryz.underlying4
 a4:=Tryz.isAgg4
 z4:=Tryz.sizeOf4
 v4:=Tryz.zeroValue4
 t5:=Tryz.underlying5
 a5:=Tryz.isAgg5
 z5:=Tryz.sizeOf5
 v5:=Tryz.zeroValue5
 t9:=Tryz.underlying9
 a9:=Tryz.isAgg9
 z9:=Tryz.sizeOf9
 v9:=Tryz.zeroValue9
 t20:=Tryz.underlying20
 a20:=Tryz.isAgg20
 z20:=Tryz.sizeOf20
 v20:=Tryz.zeroValue20
 t37:=Tryz.underlying217
 a37:=Tryz.isAgg217
 z37:=Tryz.sizeOf217
 v37:=Tryz.zeroValue217
 t46:=Tryz.underlying197
 a46:=Tryz.isAgg197
 z46:=Tryz.sizeOf197
 v46:=Tryz.zeroValue197
 t51:=Tryz.underlying247
 a51:=Tryz.isAgg247
 z51:=Tryz.sizeOf247
 v51:=Tryz.zeroValue247
 t53:=Tryz.underlying236
 a53:=Tryz.isAgg236
 z53:=Tryz.sizeOf236
 v53:=Tryz.zeroValue236
 t70:=Tryz.underlying274
 a70:=Tryz.isAgg274
 z70:=Tryz.sizeOf274
 v70:=Tryz.zeroValue274
 t72:=Tryz.underlying276
 a72:=Tryz.isAgg276
 z72:=Tryz.sizeOf276
 v72:=Tryz.zeroValue276
 t75:=Tryz.underlying242
 a75:=Tryz.isAgg242
 z75:=Tryz.sizeOf242
 v75:=Tryz.zeroValue242
 t76:=Tryz.underlying277
 a76:=Tryz.isAgg277
 z76:=Tryz.sizeOf277
 v76:=Tryz.zeroValue277
 t109:=Tryz.underlying198
 a109:=Tryz.isAgg198
 z109:=Tryz.sizeOf198
 v109:=Tryz.zeroValue198
 t127:=Tryz.underlying301
 a127:=Tryz.isAgg301
 z127:=Tryz.sizeOf301
 v127:=Tryz.zeroValue301
 t146:=Tryz.underlying248
 a146:=Tryz.isAgg248
 z146:=Tryz.sizeOf248
 v146:=Tryz.zeroValue248
 t148:=Tryz.underlying250
 a148:=Tryz.isAgg250
 z148:=Tryz.sizeOf250
 v148:=Tryz.zeroValue250
 t164:=Tryz.underlying314
 a164:=Tryz.isAgg314
 z164:=Tryz.sizeOf314
 v164:=Tryz.zeroValue314 }
theorem Tryz.Builder_Extra_105:Builder.Extra Tryz.prog Tryz.lays105_ren:={
 sizeBuilder:=by kernel_rfl
 liesBuilder:=by kernel_rfl
 t5:=Tryz.underlying5
 a5:=Tryz.isAgg5
 z5:=Tryz.sizeOf5
 v5:=Tryz.zeroValue5
 infoByte:=by kernel_rfl
 cellsByte:=by kernel_rfl
 sizeByte:=by kernel_rfl
 neB5:=by decide }
open Go.RowKit Go.Lib in
theorem Tryz.strings_Repeat (s:ByteArray)(c:Nat)(w:World)(hc:c<=9223372036854775807)(hlen:s.size*c<=140737488355328) :
 Calls Tryz.prog 212 #[.string s,.int .i64 c] w fun e w'=>e=.returned (.string ⟨(Lib.repeatL s.data.toList c).toArray⟩)/\Below w.heap.size w w':=Any.strings_Repeat Tryz.lays105 Tryz.Builder_Extra_105 s c w hc hlen
end Go.Proofs
end
namespace Go.Proofs.YtnafchoihfnkeaaGreatDoor
open Go.Proofs.Tryz
open Go.RowKit
section
open Go.Shelf Go.RowKit
def Abw:(prog.info? 276).map (·.size)=some 2:=kV
def Akk:liesAt prog prog.depth 276 (2/prog.cellsOf 276) 0 276 1=true:=kV
def Ahf:(prog.info? 5).map (fun i=>(i.zero,i.size,i.bytes))=some (some (.int .u8 0),1,1):=kV
set_option maxRecDepth 100000 in
def U1 (b:Nat)(w:World)(h0:w.cell? ⟨b,0,none⟩=some (.pointer (some ⟨b,0,none⟩))) :
 Calls prog 237 #[.pointer (some ⟨b,0,none⟩)] w fun e w'=>e=.returned (.tuple #[])/\w'=w:=by
 obtain⟨j,d,_⟩:=Axk.1 Abw
 go_enter func237,ntmps237
 go_wp2
 rw[Lib.run_neq_ptr_same w _ Tryz.underlying274 d]
 go_wp2
 go_end0
 exact⟨rfl,rfl⟩
set_option maxRecDepth 100000 in
def Rm (b:Nat)(w:World)(h0:w.cell? ⟨b,0,none⟩=some (.pointer none))(d:w.shape? b=some (276,2))(h:w.frozen? ⟨b,0,none⟩=false) :
 Calls prog 237 #[.pointer (some ⟨b,0,none⟩)] w fun e w'=>e=.returned (.tuple #[])/\w'=w.setCell ⟨b,0,none⟩ (.pointer (some ⟨b,0,none⟩)):=by
 obtain⟨j,g,f⟩:=Axk.1 Abw
 go_enter func237,ntmps237
 go_wp2
 rw[Lib.run_to_unsafe w ⟨b,0,none⟩ Tryz.underlying274 Tryz.underlying314 g (by rw[f];decide) d (Nat.zero_lt_succ 1)];simp only[Result.andThen];rw[Oper.upon_value]
 go_wp2
 rw[run_callFunc_extern func258 kV kV kV (e:=Extern.AbiNoEscape.same) kV];rw[Lib.run_noEscape];simp only[Result.andThen];rw[Oper.upon_value]
 go_wp2
 rw[Lib.run_from_unsafe w ⟨b,0,none⟩ Tryz.underlying314 Tryz.underlying274 g d Akk];simp only[Result.andThen];rw[Oper.upon_value]
 go_wp2
 go_end0
 exact⟨rfl,rfl⟩
def Vp (B b:Nat)(d:List Value)(w:World)(h:Lib.IsBuilder 276 5 B b d w) :
 Calls prog 237 #[.pointer (some ⟨b,0,none⟩)] w fun e w'=>e=.returned (.tuple #[])/\(Lib.BuilderAt 276 5 B b (.pointer (some ⟨b,0,none⟩)) d w'/\Below B w w'):=by
 rcases h with h|h
 ·refine (Rm b w h.cell0 h.shape h.frozen0).mono ?_;rintro e w' ⟨rfl,rfl⟩;exact⟨rfl,h.used _,(Below.refl B w).setCell (p:=⟨b,0,none⟩) h.1 _⟩
 refine (U1 b w h.cell0).mono ?_;rintro e w' ⟨rfl,rfl⟩;exact⟨rfl,h,Below.refl B _⟩
set_option maxRecDepth 100000 in
def Cq (B b:Nat)(u:List Value)(s:ByteArray)(w:World)(h:Lib.IsBuilder 276 5 B b u w)(N:u.length+s.size<=140737488355328)(R:B<=w.heap.size) :
 Calls prog 211 #[.pointer (some ⟨b,0,none⟩),.string s] w fun e w'=>e=.returned (.tuple #[.int .i64 s.size,.nilIface])/\(Lib.BuilderAt 276 5 B b (.pointer (some ⟨b,0,none⟩)) (u++Lib.strCells s) w'/\Below B w w'):=by
 obtain⟨V,hi,H,I,J⟩:=info_parts Ahf
 go_enter func211,ntmps211
 go_wp2_with fail
 refine (Vp B b u _ h).mono ?_;rintro e z ⟨rfl,Q,t⟩;obtain⟨L,v,m,n,E⟩:=Q;have c0:z.cell? ⟨b,0,none⟩=some (.pointer (some ⟨b,0,none⟩)):=by rw[Lib.cell_of_heap m];rfl
 have X:z.cell? ⟨b,1,none⟩=some v:=by rw[Lib.cell_of_heap m];rfl
 go_wp2_with (at_builtin;refine Lib.wpList_append_own_string _ rfl _ _ 217 9 rfl B 5 V Tryz.underlying217 Tryz.underlying9 hi H I J _ _ _ rfl n s rfl ?c3 ?c4 ?c5 ?_)
 case c3=>unfold maxLen;omega
 case c4=>omega
 case c5=>have:=t.size;omega
 intro W A f d _;have D:b<z.heap.size:=by
  rcases At8 b z.heap.size with C|C
  ·exact C
  simp[Awu C]at m
 have j:A.heap[b]?=some (.cells #[.pointer (some ⟨b,0,none⟩),v] 276 (0,0)):=by
  rw[d.block b D (fun e=>E e.symm)];exact m
 have Y:A.cell? ⟨b,0,none⟩=some (.pointer (some ⟨b,0,none⟩)):=by rw[Lib.cell_of_heap j];rfl
 have Z:A.cell? ⟨b,1,none⟩=some v:=by rw[Lib.cell_of_heap j];rfl
 have f1:A.frozen? ⟨b,1,none⟩=false:=Lib.frozen_of_heap j 1;obtain⟨K,O,cap,rfl⟩:∃ K O cap,W=.slice K O cap:=by
  rcases f.2 with ⟨F,_⟩|⟨g,cap,P,F,_⟩
  ·exact⟨_,_,_,F⟩
  exact⟨_,_,_,F⟩
 go_wp2
 go_ret2
 refine⟨rfl,?_,?_⟩
 ·exact Lib.BuilderAt.put (T:=276) (e:=5) L j (bs':=u++Lib.strCells s) (by simpa[Lib.strCells_length] using f) fV
 exact (t.grown d (by have:=t.size;omega) (fun k U=>(n.lt k U).1)).setCell (p:=⟨b,1,none⟩) L _
end
section
open Go.Shelf Go.RowKit Go.Sort Go.Lib
set_option maxRecDepth 100000 in
def Ur (u:Nat)(d:u<18446744073709551616)(w:World)(t:Lib.TabIs prog w "internal/strconv.uint64pow10" .u64 Lib.pow10Tab) :
 Calls prog 210 #[.int .u64 u,.int .i64 10] w fun e w'=>e=.returned (.string ⟨(Lib.decDigits u).toArray⟩)/\Below w.heap.size w w':=by
 by_cases H:u<100
 ·go_enter func210,ntmps210
  go_wp2_with fail
  refine (Tryz.internal_strconv_small u H _).mono ?_;rintro e w' ⟨rfl,rfl⟩
  go_wp2_with fail
  go_ret
  exact⟨rfl,Below.refl _ _⟩
 have v:1<=u:=oV;have C:Lib.nDigits u<=20:=by have:=Lib.numDigits_eq u v d;split at this<;>omega
 have n:prog.arrayLen 295=24:=kV;have D:∀ W,(Instr.sliceAt 295 (.pointer (some ⟨w.heap.size,0,none⟩)) none (some (.int .i64 (Lib.nDigits u:Int))) none).run prog W=.ok (.slice (some ⟨w.heap.size,0,none⟩) (Lib.nDigits u) 24) W:=fun W=>by
  rw[run_sliceAt_array_h W 295 ⟨w.heap.size,0,none⟩ kV .i64 (Lib.nDigits u:Int) oV (by rw[n];omega)]
  go_simp
 have g:=Lib.holds_zero0 w 295 (Lib.nDigits u) oV;have f:=Tryz.internal_strconv_formatBase10 w.heap.size 0 24 u (Array.replicate (Lib.nDigits u) 0) (w.alloc (.cells Lib.zeros24 295)) g (by rw[Ayw];exact Lib.lt_pow_nDigits u) d (by rw[Ayw];omega);rw[Ayw]at f;have z:=Lib.hid g;clear g n
 go_enter func210,ntmps210
 go_wp2_with fail
 refine (Tryz.internal_strconv_numDigits u v d _ (Lib.tabIs_alloc t _)).mono ?_;rintro e w' ⟨rfl,rfl⟩
 go_wp2_with fail
 refine f.mono ?_;rintro e w' ⟨rfl,k,J,m,rfl,hF⟩;have F:(convert 217 9 (.slice (some ⟨w.heap.size,0,none⟩) (Lib.nDigits u) 24)).run prog ((putRow (fun (b:UInt8)=>Value.int .u8 (b.toNat:Int)) (w.alloc (.cells Lib.zeros24 295)) w.heap.size 0 m).drewN k)=.ok (.string ⟨(Lib.decDigits u).toArray⟩) ((putRow (fun (b:UInt8)=>Value.int .u8 (b.toNat:Int)) (w.alloc (.cells Lib.zeros24 295)) w.heap.size 0 m).drewN k):=by
  have h:=run_convert_bytes_back (P:=prog) ((putRow (fun (b:UInt8)=>Value.int .u8 (b.toNat:Int)) (w.alloc (.cells Lib.zeros24 295)) w.heap.size 0 m).drewN k) 217 9 5 ⟨w.heap.size,0,none⟩ 24 (Lib.decDigits u) Tryz.underlying217 Tryz.underlying5 Tryz.underlying9 (fun j A=>by
   rw[Lib.row_is_numeral hF j A,Lib.add_plain,World.cell?_drewN];exact cell?_putRow (fun (b:UInt8)=>Value.int .u8 (b.toNat:Int)) _ w.heap.size 0 _ m z.out (by rw[hF.size,Ayw]) j (by rw[hF.size];rw[Lib.decDigits_length]at A;exact A))
  rw[Lib.decDigits_length]at h;exact h
 go_wp2_with fail
 go_ret
 refine⟨rfl,?_⟩;obtain⟨I,E⟩:=Lib.fin_at w (.cells Lib.zeros24 295) m k 0;rw[E];exact Lib.below_grow _ w (Atb _) k I
end
section
open Go.Shelf Go.RowKit Go.Sort Go.Lib
variable {B b d k n:Nat}{T e:TypeId}{bs:List Value}{neg:Bool}{w w':World}
def Ml {P:Program}{f:String}{k:IntKind}{t:List Int}(h:TabIs P w f k t)(x:Ext w w'):TabIs P w' f k t:=by
 unfold TabIs World.var? at *
 cases hg:P.globalNamed f with
 |none=>simp[hg]at h
 |some g =>
  simp only[hg,Option.bind_some]at h⊢;have m:g<w.heap.size:=by
   rcases At8 g w.heap.size with j|j
   ·exact j
   simp[Awu j]at h
  rw[Below.block x g m];exact h
def Q3 {size:Nat}{v:Value}{xs:List Value}(h:w.ownsRow B e size v n xs)(x:Ext w w'):w'.ownsRow B e size v n xs:=by
 obtain⟨m,h0|⟨g,cap,f,u,t,j,r⟩⟩:=h
 ·exact⟨m,.inl h0⟩
 exact⟨m,.inr ⟨g,cap,f,u,t,by rw[Below.block x g (B0 j)];exact j,r⟩⟩
def M7 {p:Value}(h:BuilderAt T e B b p bs w)(x:Ext w w'):BuilderAt T e B b p bs w':=by
 obtain⟨j,v,g,m,f⟩:=h;exact⟨j,v,by rw[Below.block x b (B0 g)];exact g,Q3 m x,f⟩
def Ed (h:IsBuilder T e B b bs w)(x:Ext w w'):IsBuilder T e B b bs w' :=
 h.elim (fun h=>.inl (M7 h x)) (fun h=>.inr (M7 h x))
def Ajh (n j k:Nat):ld n (j+k)=ld n j++ld (n/10^j) k:=by
 induction k with
 |zero=>simp[ld]
 |succ k ih =>
  rw[<-Avl,Rx,Rx,ih,Au1]
  congr 3
  unfold dg;rw[Awy,<-Aww]
def Aqv (d:Nat)(h:∀ j,j<k->n/10^j%10=d/10^j%10):ld n k=ld d k:=by
 unfold ld;refine Ay6 fun j f=>?_;unfold dg;rw[h j (Axf.1 f)]
def Gc (k:Nat):repeatL [48] k=List.replicate k 48:=by
 induction k with
 |zero=>rfl
 |succ k ih=>rw[repeatL,ih];rfl
def Iz (m:d<1000000000):nDigits d<=9:=by
 rcases At5 d with h|h
 ·subst h;rw[nDigits_small oV];omega
 have f:=Ft (n:=d) oV;have g:10^(nDigits d-1)<10^9:=Aum f oV;have j:=(Azc (by omega:1<10)).1 g;omega
def Asq (f:d<1000000000):(ld d 9).reverse=repeatL [48] (9-nDigits d)++decDigits d:=by
 have g:=Iz f;have e:9=nDigits d+(9-nDigits d):=oV
 rw[show ld d 9=ld d (nDigits d+(9-nDigits d)) by rw[<-e],Ajh,A0c,Ze]
 congr 1
 have h0:d/10^nDigits d=0:=Aw1 (lt_pow_nDigits d);rw[h0,Gc];have:∀ k,ld 0 k=List.replicate k 48:=by
  intro k;induction k with
  |zero=>rfl
  |succ k ih=>rw[Rx,ih,Ayv];congr 1;simp[dg]
 rw[this,List.reverse_replicate]
def Ajz {x d:Nat}(t:x≠0)(h:d<1000000000):decDigits (x*1000000000+d)=decDigits x++(repeatL [48] (9-nDigits d)++decDigits d):=by
 have f:(x*1000000000+d)/10^9=x:=oV
 have g:nDigits (x*1000000000+d)=9+nDigits x:=by
  rw[M8 (j:=9) oV,f]
 rw[<-Ze,g,Ajh,f,A0c,Ze,<-Asq h]
 congr 2
 refine Aqv d fun j m=>?_;have e:(1000000000:Nat)=10^j*10^(9-j):=by rw[<-Aww,show j+(9-j)=9 by omega]
 rw[e,At7 x,Atz,Nat.mul_add_div (Aym oV),show 9-j=(8-j)+1 by omega,Auc];rw[Nat.mul_right_comm,At7 _ 10,Nat.mul_add_mod]
def mid (n k:Nat):List UInt8:=if k=(Aa n).length then [] else decDigits (n/1000000000^k)
def Agv (n:Nat):mid n (Aa n).length = []:=by simp[mid]
def Yc (h:k≠(Aa n).length):mid n k=decDigits (n/1000000000^k):=by simp[mid,h]
def Cp (neg:Bool)(n k:Nat):List UInt8:=(if neg then [45] else [])++mid n k
def Sg (neg:Bool)(n:Nat):Cp neg n (Aa n).length=if neg then [45] else []:=by rw[Cp,Agv,Auu]
def Kx (z:Int)(h:z≠0):Cp (decide (z<0)) z.natAbs 0=itoa z:=by
 have f:(Aa z.natAbs).length≠0:=fun h0=>h (by have:=Fu.1 (Auo h0);omega);rw[Cp,Yc (fun h0=>f h0.symm),Cz,Bg,A0z,A2q];split<;>rfl
def Va (n k:Nat):n/1000000000^k=n/1000000000^(k+1)*1000000000+(Aa n).getD k 0:=by
 rw[Ny,Auc,<-Awy];omega
def Ve (f:k+1=(Aa n).length):Cp neg n k=Cp neg n (k+1)++decDigits ((Aa n).getD k 0):=by
 have h0:n/1000000000^(k+1)=0:=Aw1 (by rw[f];exact Ck n);rw[Cp,Cp,Yc oV,f,Agv,Auu,Va,h0];simp
def Vd (f:k+1<(Aa n).length):Cp neg n k=Cp neg n (k+1)++(repeatL [48] (9-nDigits ((Aa n).getD k 0))++decDigits ((Aa n).getD k 0)):=by
 have j:n≠0:=by rintro rfl;rw[Bc]at f;simp at f
 have m:n/1000000000^(k+1)≠0:=by
  have g:=Pr j;have h:1000000000^(k+1)<=1000000000^(nl n-1):=Atq oV (by have:nl n=(Aa n).length:=rfl;omega);have t:=Nat.div_pos (As9 h g) (Aym oV);omega
 rw[Cp,Cp,Yc oV,Yc oV,Au1]
 congr 1
 rw[Va n k,Ajz m ((Am n).getD k)]
def Q5 (neg:Bool)(n k:Nat):(Cp neg n k).length<=1+9*(Aa n).length+1:=by
 have j:nDigits (n/1000000000^k)<=9*(Aa n).length+1:=by
  rcases At5 (n/1000000000^k) with h|h
  ·rw[h,nDigits_small oV];omega
  have f:=Ft (n:=n/1000000000^k) oV;have g:10^(nDigits (n/1000000000^k)-1)<10^(9*(Aa n).length):=Aum f (Aum (Awa _ _) (O7 n));have m:=(Azc (by omega:1<10)).1 g;omega
 unfold Cp mid;split<;>split<;>simp[decDigits_length]<;>omega
end
section
open Go.Shelf Go.RowKit Go.Sort Go.Lib
set_option maxRecDepth 100000 in
def D6 (u:Nat)(f:u<18446744073709551616)(w:World)(d:Lib.TabIs prog w "internal/strconv.uint64pow10" .u64 Lib.pow10Tab) :
 Calls prog 165 #[.int .u64 u,.int .i64 10] w fun e w'=>e=.returned (.string ⟨(Lib.decDigits u).toArray⟩)/\Ext w w':=by
 go_enter func165,ntmps165
 go_wp2_with fail
 refine (Ur u f _ d).mono ?_;rintro e w' ⟨rfl,g⟩
 go_wp2_with fail
 go_ret
 exact⟨rfl,g⟩
def Amj (W0:World)(B:Nat)(neg:Bool)(n:Nat)(i:Value)(wr:World):Prop :=
 ∃ k:Nat,k<=(Aa n).length/\i=.int .i64 ((k:Int)-1)/\IsBuilder 276 5 B B (byteCells (Cp neg n k)) wr/\Below B W0 wr
def C2 (l d:List UInt8):byteCells l++byteCells d=byteCells (l++d):=by simp[byteCells]
set_option maxRecDepth 100000 in
theorem Vx (v:Value)(z:Int)(w:World)(hv:Oi w v z)(hs:nl z.natAbs<=100000000000)(htab:Lib.TabIs prog w "internal/strconv.uint64pow10" .u64 Lib.pow10Tab) :
 Calls prog 166 #[v] w fun e w'=>e=.returned (.string ⟨(Lib.itoa z).toArray⟩)/\Ext w w':=by
 obtain⟨a,n,c,rfl,hn⟩:=hv;obtain⟨a',c',e,hcap,hrow⟩:=hn;simp only[Value.slice.injEq]at e;obtain⟨rfl,rfl,rfl⟩:=e;have hlen:(Aa z.natAbs).length<=100000000000:=hs;by_cases hz:z=0
 ·subst hz;rw[show (Aa (0:Int).natAbs).length=0 by rw[show (0:Int).natAbs=0 from rfl,Bc];rfl];clear hrow hcap hlen
  go_enter func166,ntmps166
  go_wp2_with fail
  go_ret
  exact⟨by rw[Ea];rfl,Ext.alloc (Ext.refl w) _⟩
 ·have hp:0<(Aa z.natAbs).length:=Cl.2 oV;obtain⟨L,hL⟩:∃ L,L=(Aa z.natAbs).length:=⟨_,rfl⟩;rw[<-hL]at hp hlen⊢;have HL:=Lib.hid hL;have HROW:=Lib.hid hrow;have HTAB:=Lib.hid htab;clear hL hrow htab hcap;obtain⟨neg,hneg⟩:∃ neg,neg=decide (z<0):=⟨_,rfl⟩;rw[<-hneg];have HNEG:=Lib.hid hneg;clear hneg;obtain⟨w1,hw1⟩:∃ w1,w1=w.alloc (Obj.cells #[Value.bool neg,Value.slice a L c] 101):=⟨_,rfl⟩;have hs1:w1.heap.size=w.heap.size+1:=by rw[hw1];exact Bu _ _
  have HX1:RowKit.Hid (Ext w w1):=Lib.hid (by rw[hw1];exact Ext.alloc (Ext.refl w) _);have HB0:=Lib.hid (Lib.fresh_isBuilder 276 5 w1);have HW1:=Lib.hid hw1;have HS1:=Lib.hid hs1;clear hw1 hs1;cases neg
  ·go_enter func166,ntmps166
   go_wp2_with fail
   rw[<-HW1.out,<-HS1.out,show ((L:Int)==0)=false by rw[beq_eq_false_iff_ne];omega]
   go_loopw [4] (Amj (w1.alloc (Obj.cells #[Value.pointer none,Value.slice none 0 0] 276)) w1.heap.size false z.natAbs) (fun i _=>(RowKit.intOf i+1).toNat)
   case atStart=>exact⟨(Aa z.natAbs).length,Atb _,by rw[<-HL.out],by rw[Sg];exact HB0.out,Below.refl _ _⟩
   case round =>
    obtain⟨k,hk,rfl,hbd,hbel⟩:=hrel;have hsz0:=hbel.size;rw[Bu]at hsz0;have HXW:RowKit.Hid (Ext w wr):=Lib.hid (Ext.trans HX1.out (Below.trans (Ext.alloc (Ext.refl w1) (Obj.cells #[Value.pointer none,Value.slice none 0 0] 276)) hbel));rcases k with _|k
    ·have hne:Cp false z.natAbs 0≠[]:=by rw[HNEG.out,Kx z hz,Cz,Bg];split;simp;exact H7 _
     have HBD:=Lib.hid hbd;clear hbd
     go_wp2_with fail
     refine (Tryz.Builder_String w1.heap.size w1.heap.size (Cp false z.natAbs 0) wr HBD.out hne).mono ?_;rintro e w2 ⟨rfl,hb2⟩
     go_wp2_with fail
     go_ret
     refine⟨?_,Below.trans HXW.out ?_⟩
     ·rw[HNEG.out,Kx z hz];rfl
     ·exact Below.mono hb2 (by have:=HS1.out;omega)
    ·have hsz1:w.heap.size<w1.heap.size:=by rw[HS1.out];omega
     have hc1:wr.cell? ⟨w.heap.size,1,none⟩=some (.slice a L c):=by
      rw[Below.cell hbel hsz1,Below.cell (Ext.alloc (Ext.refl w1) _) hsz1,HW1.out,World.cell?_alloc_new];rfl
     obtain⟨ba,offa,rfl,hca⟩:=HROW.out.at (j:=k) oV;have hcb:=HXW.out.cell hca;clear hca;have hlow:(Aa z.natAbs).getD k 0<1000000000:=(Am _).getD k;obtain⟨x,hx⟩:∃ x,x=(Aa z.natAbs).getD k 0:=⟨_,rfl⟩;rw[<-hx]at hcb hlow;have XX:=Lib.hid hx;have HBD:=Lib.hid hbd;have HBEL:=Lib.hid hbel;have HK:=Lib.hid hk;clear hx hbd hbel hk hsz1;rw[show ((k+1:Nat):Int)-1=k by omega];have hkL:k<L:=by have:=HK.out;have:=HL.out;omega
     have hsw:(Cp false z.natAbs (k+1)).length<=1+9*L+1:=by have:=Q5 false z.natAbs (k+1);rw[<-HL.out]at this;exact this
     have hd9:=Iz hlow;have hdl:=decDigits_length x;have HSW:=Lib.hid hsw;have HDL:=Lib.hid hdl;have HD9:=Lib.hid hd9;clear hsw hdl hd9;by_cases htop:k+1=L
     ·have hkt:¬ ((k:Int)<(L:Int)-1):=oV
      have HTOP:=Lib.hid htop;clear htop
      go_wp2_with fail
      refine (D6 x oV _ (Ml HTAB.out HXW.out)).mono ?_;rintro e w2 ⟨rfl,hx2⟩;have HX2:=Lib.hid hx2;clear hx2;have hc2:=HX2.out.cell hc1;clear hc1 hcb
      go_wp2_with fail
      refine (Cq w1.heap.size w1.heap.size (byteCells (Cp false z.natAbs (k+1))) ⟨(decDigits x).toArray⟩ w2 (Ed HBD.out HX2.out) (by rw[byteCells_length,Lib.size_mk,HDL.out];have:=HSW.out;have:=HD9.out;omega) (by have:=HX2.out.size;omega)).mono ?_;rintro e w3 ⟨rfl,hb3,hbel3⟩;have htx:=Ve (neg:=false) (n:=z.natAbs) (k:=k) (by rw[<-HL.out];exact HTOP.out);rw[<-XX.out]at htx;rw[strCells_toArray,C2,<-htx]at hb3
      go_wp2_with fail
      refine⟨⟨k,by rw[<-HL.out];omega,by go_num,.inr hb3,Below.trans HBEL.out (Below.trans (Below.mono HX2.out oV) hbel3)⟩,by simp only[RowKit.intOf];omega⟩
     ·have hkt:(k:Int)<(L:Int)-1:=oV
      have HTOP:=Lib.hid htop;clear htop
      go_wp2_with fail
      refine (D6 x oV _ (Ml HTAB.out HXW.out)).mono ?_;rintro e w2 ⟨rfl,hx2⟩;have HX2:=Lib.hid hx2;clear hx2;have hc2:=HX2.out.cell hc1;clear hc1 hcb;have hsl:(⟨(decDigits x).toArray⟩:ByteArray).size=nDigits x:=by rw[Lib.size_mk];exact HDL.out
      go_wp2_with fail
      rw[show wrap64 (9-(nDigits x:Int))=((9-nDigits x:Nat):Int) by have:=HD9.out;unfold wrap64;omega];have hrep:=Tryz.strings_Repeat ⟨#[48]⟩ (9-nDigits x) w2 oV (by have:=HD9.out;simp[ByteArray.size];omega);refine hrep.mono ?_;rintro e w4 ⟨rfl,hx4⟩;have HX4:RowKit.Hid (Ext w2 w4):=Lib.hid hx4;clear hx4 hrep
      go_wp2_with fail
      refine (Cq w1.heap.size w1.heap.size (byteCells (Cp false z.natAbs (k+1))) ⟨(repeatL [48] (9-nDigits x)).toArray⟩ w4 (Ed (Ed HBD.out HX2.out) HX4.out) (by rw[byteCells_length,Lib.size_mk,Gc,Aur];have:=HSW.out;omega) (by have:=HX2.out.size;have:=HX4.out.size;omega)).mono ?_;rintro e w5 ⟨rfl,hb5,hbel5⟩;rw[strCells_toArray,C2]at hb5
      go_wp2_with fail
      refine (Cq w1.heap.size w1.heap.size _ ⟨(decDigits x).toArray⟩ w5 (.inr hb5) (by rw[byteCells_length,Lib.size_mk,HDL.out,Atg,Gc,Aur];have:=HSW.out;have:=HD9.out;omega) (by have:=HX2.out.size;have:=HX4.out.size;have:=hbel5.size;omega)).mono ?_;rintro e w3 ⟨rfl,hb3,hbel3⟩;have htx:=Vd (neg:=false) (n:=z.natAbs) (k:=k) (by rw[<-HL.out];have:=HTOP.out;omega);rw[<-XX.out]at htx;rw[strCells_toArray,C2,Au1,<-htx]at hb3;have h6:=HX2.out.size
      go_wp2_with fail
      refine⟨⟨k,by rw[<-HL.out];omega,by go_num,.inr hb3,Below.trans HBEL.out (Below.trans (Below.mono HX2.out oV) (Below.trans (Below.mono HX4.out oV) (Below.trans hbel5 hbel3)))⟩,by simp only[RowKit.intOf];omega⟩
  ·go_enter func166,ntmps166
   go_wp2_with fail
   rw[<-HW1.out,<-HS1.out,show ((L:Int)==0)=false by rw[beq_eq_false_iff_ne];omega];refine (Cq w1.heap.size w1.heap.size [] ⟨#[45]⟩ _ HB0.out (by simp[ByteArray.size]) (by rw[Bu];omega)).mono ?_;rintro e w4 ⟨rfl,hb4,hbel4⟩;have HB4:RowKit.Hid (BuilderAt 276 5 w1.heap.size w1.heap.size (.pointer (some ⟨w1.heap.size,0,none⟩)) (byteCells [45]) w4):=Lib.hid hb4;have HBEL4:=Lib.hid hbel4;have hs4:=hbel4.size;rw[Bu]at hs4;have hc0:w4.cell? ⟨w.heap.size,1,none⟩=some (.slice a L c):=by
    have hsz1:w.heap.size<w1.heap.size:=by rw[HS1.out];omega
    rw[Below.cell hbel4 hsz1,Below.cell (Ext.alloc (Ext.refl w1) _) hsz1,HW1.out,World.cell?_alloc_new];rfl
   clear hb4 hbel4
   go_wp2_with fail
   go_loopw [4] (Amj (w1.alloc (Obj.cells #[Value.pointer none,Value.slice none 0 0] 276)) w1.heap.size true z.natAbs) (fun i _=>(RowKit.intOf i+1).toNat)
   case atStart=>exact⟨(Aa z.natAbs).length,Atb _,by rw[<-HL.out],by rw[Sg];exact .inr HB4.out,HBEL4.out⟩
   case round =>
    obtain⟨k,hk,rfl,hbd,hbel⟩:=hrel;have hsz0:=hbel.size;rw[Bu]at hsz0;have HXW:RowKit.Hid (Ext w wr):=Lib.hid (Ext.trans HX1.out (Below.trans (Ext.alloc (Ext.refl w1) (Obj.cells #[Value.pointer none,Value.slice none 0 0] 276)) hbel));rcases k with _|k
    ·have hne:Cp true z.natAbs 0≠[]:=by rw[HNEG.out,Kx z hz,Cz,Bg];split;simp;exact H7 _
     have HBD:=Lib.hid hbd;clear hbd
     go_wp2_with fail
     refine (Tryz.Builder_String w1.heap.size w1.heap.size (Cp true z.natAbs 0) wr HBD.out hne).mono ?_;rintro e w2 ⟨rfl,hb2⟩
     go_wp2_with fail
     go_ret
     refine⟨?_,Below.trans HXW.out ?_⟩
     ·rw[HNEG.out,Kx z hz];rfl
     ·exact Below.mono hb2 (by have:=HS1.out;omega)
    ·have hsz1:w.heap.size<w1.heap.size:=by rw[HS1.out];omega
     have hc1:wr.cell? ⟨w.heap.size,1,none⟩=some (.slice a L c):=by
      rw[Below.cell hbel hsz1,Below.cell (Ext.alloc (Ext.refl w1) _) hsz1,HW1.out,World.cell?_alloc_new];rfl
     obtain⟨ba,offa,rfl,hca⟩:=HROW.out.at (j:=k) oV;have hcb:=HXW.out.cell hca;clear hca;have hlow:(Aa z.natAbs).getD k 0<1000000000:=(Am _).getD k;obtain⟨x,hx⟩:∃ x,x=(Aa z.natAbs).getD k 0:=⟨_,rfl⟩;rw[<-hx]at hcb hlow;have XX:=Lib.hid hx;have HBD:=Lib.hid hbd;have HBEL:=Lib.hid hbel;have HK:=Lib.hid hk;clear hx hbd hbel hk hsz1;rw[show ((k+1:Nat):Int)-1=k by omega];have hkL:k<L:=by have:=HK.out;have:=HL.out;omega
     have hsw:(Cp true z.natAbs (k+1)).length<=1+9*L+1:=by have:=Q5 true z.natAbs (k+1);rw[<-HL.out]at this;exact this
     have hd9:=Iz hlow;have hdl:=decDigits_length x;have HSW:=Lib.hid hsw;have HDL:=Lib.hid hdl;have HD9:=Lib.hid hd9;clear hsw hdl hd9;by_cases htop:k+1=L
     ·have hkt:¬ ((k:Int)<(L:Int)-1):=oV
      have HTOP:=Lib.hid htop;clear htop
      go_wp2_with fail
      refine (D6 x oV _ (Ml HTAB.out HXW.out)).mono ?_;rintro e w2 ⟨rfl,hx2⟩;have HX2:=Lib.hid hx2;clear hx2;have hc2:=HX2.out.cell hc1;clear hc1 hcb
      go_wp2_with fail
      refine (Cq w1.heap.size w1.heap.size (byteCells (Cp true z.natAbs (k+1))) ⟨(decDigits x).toArray⟩ w2 (Ed HBD.out HX2.out) (by rw[byteCells_length,Lib.size_mk,HDL.out];have:=HSW.out;have:=HD9.out;omega) (by have:=HX2.out.size;omega)).mono ?_;rintro e w3 ⟨rfl,hb3,hbel3⟩;have htx:=Ve (neg:=true) (n:=z.natAbs) (k:=k) (by rw[<-HL.out];exact HTOP.out);rw[<-XX.out]at htx;rw[strCells_toArray,C2,<-htx]at hb3
      go_wp2_with fail
      refine⟨⟨k,by rw[<-HL.out];omega,by go_num,.inr hb3,Below.trans HBEL.out (Below.trans (Below.mono HX2.out oV) hbel3)⟩,by simp only[RowKit.intOf];omega⟩
     ·have hkt:(k:Int)<(L:Int)-1:=oV
      have HTOP:=Lib.hid htop;clear htop
      go_wp2_with fail
      refine (D6 x oV _ (Ml HTAB.out HXW.out)).mono ?_;rintro e w2 ⟨rfl,hx2⟩;have HX2:=Lib.hid hx2;clear hx2;have hc2:=HX2.out.cell hc1;clear hc1 hcb;have hsl:(⟨(decDigits x).toArray⟩:ByteArray).size=nDigits x:=by rw[Lib.size_mk];exact HDL.out
      go_wp2_with fail
      rw[show wrap64 (9-(nDigits x:Int))=((9-nDigits x:Nat):Int) by have:=HD9.out;unfold wrap64;omega];have hrep:=Tryz.strings_Repeat ⟨#[48]⟩ (9-nDigits x) w2 oV (by have:=HD9.out;simp[ByteArray.size];omega);refine hrep.mono ?_;rintro e w4 ⟨rfl,hx4⟩;have HX4:RowKit.Hid (Ext w2 w4):=Lib.hid hx4;clear hx4 hrep
      go_wp2_with fail
      refine (Cq w1.heap.size w1.heap.size (byteCells (Cp true z.natAbs (k+1))) ⟨(repeatL [48] (9-nDigits x)).toArray⟩ w4 (Ed (Ed HBD.out HX2.out) HX4.out) (by rw[byteCells_length,Lib.size_mk,Gc,Aur];have:=HSW.out;omega) (by have:=HX2.out.size;have:=HX4.out.size;omega)).mono ?_;rintro e w5 ⟨rfl,hb5,hbel5⟩;rw[strCells_toArray,C2]at hb5
      go_wp2_with fail
      refine (Cq w1.heap.size w1.heap.size _ ⟨(decDigits x).toArray⟩ w5 (.inr hb5) (by rw[byteCells_length,Lib.size_mk,HDL.out,Atg,Gc,Aur];have:=HSW.out;have:=HD9.out;omega) (by have:=HX2.out.size;have:=HX4.out.size;have:=hbel5.size;omega)).mono ?_;rintro e w3 ⟨rfl,hb3,hbel3⟩;have htx:=Vd (neg:=true) (n:=z.natAbs) (k:=k) (by rw[<-HL.out];have:=HTOP.out;omega);rw[<-XX.out]at htx;rw[strCells_toArray,C2,Au1,<-htx]at hb3;have h6:=HX2.out.size
      go_wp2_with fail
      refine⟨⟨k,by rw[<-HL.out];omega,by go_num,.inr hb3,Below.trans HBEL.out (Below.trans (Below.mono HX2.out oV) (Below.trans (Below.mono HX4.out oV) (Below.trans hbel5 hbel3)))⟩,by simp only[RowKit.intOf];omega⟩
end
section
open Go.Shelf Go.RowKit Go.Sort Go.Lib
variable {l:List UInt8}
def Ahc (f:G6 l):∀ (d:Nat),rdA d l<1000000000000000000->parseUintM 18446744073709551615 d l=.ok (rdA d l):=by
 induction l with
 |nil=>intro d _;rfl
 |cons b l ih =>
  intro d h;have m:=f b mV;have g:rdA d (b::l)=rdA (10*d+(b.toNat-48)) l:=rfl;rw[g]at h⊢;have j:10*d+(b.toNat-48)<=rdA (10*d+(b.toNat-48)) l:=by
   rw[Aef];have:1<=10^l.length:=Nat.one_le_pow _ _ oV;have:=Aul (10*d+(b.toNat-48)) this;omega
  have e:=ih (fun x n=>f x (by simp[n])) (10*d+(b.toNat-48)) h;rw[parseUintM,if_pos m,if_neg oV];rw[show 10*d+(b.toNat-48)=d*10+(b.toNat-48) by omega]at e h j⊢
  first
   |(rw[if_neg oV];exact e)
   |(simp only[];rw[if_neg oV];exact e)
def Ahj (d:G6 l)(f:l≠[])(e:l.length<=9):parseUintB 64 l=.ok (rd l):=by
 rw[parseUintB,if_neg f];refine Ahc d 0 ?_;have g:=V7 d;have h:10^l.length<=10^9:=Atq oV e;have j:rdA 0 l=rd l:=rfl;omega
def Iw {neg:Bool}(e:G6 l)(f:l≠[]):trimPrefix (Bg neg l) [45]=l/\hasPrefix (Bg neg l) [45]=neg:=by
 cases neg
 ·cases l with
  |nil=>exact absurd rfl f
  |cons b l =>
   have d:=e b mV;have:¬ (45:UInt8)=b:=by rintro rfl;simp at d
   simp[Bg,trimPrefix,hasPrefix,List.isPrefixOf,this]
 simp[Bg,trimPrefix,hasPrefix,List.isPrefixOf]
def Aav {w:World}{B:Nat}{e:TypeId}{a:Option Addr}{n c:Nat}{xs:List Value}(h:w.ownsRow B e 1 (.slice a n c) n xs)(u:xs.length=n):Row w a xs:=by
 intro j t;rcases h.2 with ⟨d,m⟩|⟨g,cap,f,d,m⟩
 ·omega
 simp only[Value.slice.injEq]at d;obtain⟨rfl,_,rfl⟩:=d;refine⟨g,0,rfl,?_⟩;have:=h.cells (g:=g) rfl j (xs.getD j (.bool false)) (by rw[As7,As5 t];rfl);rw[Lib.add_plain]at this;exact this
def Uw (w:World)(e:TypeId)(s:ByteArray):Ext w (bytesWorld w e s):=bytesWorld_below w e s
def Am8 (W0:World)(B:Nat)(l:List UInt8)(v i:Value)(wr:World):Prop :=
 ∃ (e:Int) (ys:List Nat),e<=l.length/\i=.int .i64 e/\-9<e/\ys.length+e.toNat<=l.length/\P3 (rd l) (l.take e.toNat) ys/\wr.ownsRow B 236 1 v ys.length (Ay ys)/\Below B W0 wr
def Ajt:(prog.info? 236).map (fun i=>(i.zero,i.size,i.bytes))=some (some (.int .u64 0),1,8):=kV
set_option maxRecDepth 100000 in
def Ab3 (neg:Bool)(l:List UInt8)(w:World)(hd:G6 l)(hl:l≠[])(ao:l.length<=1000000000) :
 Calls prog 110 #[.string ⟨(Bg neg l).toArray⟩] w (Yp w (Bt neg (rd l))):=by
 obtain⟨i0,hi,al,am,an⟩:=info_parts Ajt;obtain⟨a7,a8⟩:=Iw (neg:=neg) hd hl;have HD:=Lib.hid hd;have HL:=Lib.hid hl;clear hd hl;obtain⟨w1,U⟩:∃ w1,w1=w.alloc (Obj.cells #[Value.bool false,Value.slice none 0 0] 101):=⟨_,rfl⟩;have a3:w1.heap.size=w.heap.size+1:=by rw[U];exact Bu _ _
 have N:=Lib.hid U;have ac:=Lib.hid a3;clear U a3
 go_enter func110,ntmps110
 go_wp2_with fail
 rw[<-N.out];refine (Tryz.strings_CutPrefix ⟨(Bg neg l).toArray⟩ ⟨#[45]⟩ w1).mono ?_;rintro e X ⟨rfl,rfl⟩;rw[show trimPrefix (⟨(Bg neg l).toArray⟩:ByteArray).data.toList (⟨#[45]⟩:ByteArray).data.toList=l from a7,show hasPrefix (⟨(Bg neg l).toArray⟩:ByteArray).data.toList (⟨#[45]⟩:ByteArray).data.toList=neg from a8];clear a7 a8
 go_wp2_with fail
 go_loopw [5,6] (Am8 X X.heap.size l) (fun _ i _=>(RowKit.intOf i+9).toNat)
 case atStart=>exact⟨l.length,[],oV,mV,oV,mV,⟨Low.nil,by simpa using HD.out,by simp[val]⟩,⟨rfl,.inl ⟨rfl,rfl⟩⟩,Below.refl _ _⟩
 case round =>
  obtain⟨e,ys,he,rfl,ar,au,a6,A,v⟩:=hrel;obtain⟨a,n,c,rfl⟩:∃ a n c,u5=.slice a n c:=by
   rcases A.2 with ⟨C,h2⟩|⟨g,cap,af,C,h2⟩
   ·exact⟨_,_,_,C⟩
   exact⟨_,_,_,C⟩
  have K:=Lib.hid a6;have f:=Lib.hid A;have t:=Lib.hid v;have ax:=v.size;clear a6 A v;by_cases h0:0<e
  ·obtain⟨E,rfl⟩:∃ E:Nat,e=E:=⟨e.toNat,oV⟩;have ag:E<=l.length:=oV;have aq:0<E:=oV;have av:max (0:Int) ((E:Int)-9)=((E-9:Nat):Int):=oV;have aw:∀ W,(Instr.sliceAt 9 (.string ⟨l.toArray⟩) (some (.int .i64 (E-9:Nat))) (some (.int .i64 E)) none).run prog W=.ok (.string ⟨((l.take E).drop (E-9)).toArray⟩) W:=by
    intro W;have C:(0:Int)<=((E-9:Nat):Int)/\((E-9:Nat):Int)<=(E:Int):=oV;have h2:(0:Int)<=(E:Int)/\(E:Int)<=(⟨l.toArray⟩:ByteArray).size:=by rw[Lib.size_mk];omega
    have h3:(⟨l.toArray⟩:ByteArray).extract (E-9) E=⟨((l.take E).drop (E-9)).toArray⟩:=by
     rw[Lib.extract_mk,List.drop_take]
    simp only[Instr.sliceAt,Sem.run_bind,run_underlying Tryz.underlying9,Result.andThen_ok,Instr.slice,Instr.sliceBounds,Instr.sliceBound,asIntOf,Sem.run_pure,if_true,Option.isSome,Sem.run_ite,C,h2,and_self,Avo];simp[h3]
   have P:G6 ((l.take E).drop (E-9)):=(HD.out.take E).drop (E-9);have R:((l.take E).drop (E-9)).length<=9:=gV;have a0:(l.take E).drop (E-9)≠[]:=by intro h;have:=congrArg List.length h;simp at this;omega
   have a2:=V7 P;have aj:rd ((l.take E).drop (E-9))<1000000000:=Auf a2 (by rw[show (1000000000:Nat)=10^9 from rfl];exact Atq oV R);have m:=K.out.step;rw[show (l.take ((E:Int)).toNat)=l.take E from rfl,Atm,Av6 ag]at m;have a1:=Tryz.strconv_ParseUint_10_at64_ok ⟨((l.take E).drop (E-9)).toArray⟩ (by rw[Lib.size_mk];omega) (rd ((l.take E).drop (E-9))) (Ahj P a0 R) wr;have ab:=Lib.hid a1;have L:=Lib.hid m;clear a1 m a2 P a0 R
   go_wp2_with fail
   obtain⟨d,z⟩:∃ d,d=rd ((l.take E).drop (E-9)):=⟨_,rfl⟩;rw[<-z]at aj;have D:=Lib.hid z;clear z;refine ab.out.mono ?_;rintro e w3 ⟨rfl,a9⟩;rw[<-D.out];have O:RowKit.Hid (Ext wr w3):=Lib.hid (by
    rcases a9 with rfl|rfl
    ·exact Ext.refl _
    exact Uw _ _ _)
   clear a9;have ap:=O.out.size
   go_wp2_with (at_builtin;refine wpList_append_own _ rfl _ _ 99 rfl X.heap.size 236 i0 (.int .u64 0) 1 8 Tryz.underlying99 hi al am an rfl fV _ _ _ rfl ((Q3 f.out O.out).alloc _) ⟨w3.heap.size,0,none⟩ 1 1 [.int .u64 (d:Int)] rfl rfl ?c1 ?c2 ?c3 ?c4 ?c5 ?_)
   case c1 =>
    intro j u hj
    match j,hj with
    |0,hj=>simp at hj;subst hj;simp[Addr.add]
   case c2=>intro u hu;simp at hu;subst hu;rfl
   case c3=>unfold maxLen;omega
   case c4=>omega
   case c5=>simp;omega
   intro v' w4 T Q _
   go_wp2_with fail
   refine⟨⟨(E:Int)-9,ys++[d],oV,by go_num,oV,gV,?_,by simpa[Ay] using T,?_⟩,by simp only[RowKit.intOf];omega⟩
   ·rw[D.out,show (l.take ((E:Int)-9).toNat)=(l.take E).take (E-9) by rw[List.take_take];congr 1;omega];exact L.out
   have h5:Below X.heap.size wr w3:=Below.mono O.out oV;exact (((t.out.trans h5).alloc oV _).grown Q gV (fun k hk=>(f.out.lt k hk).1))
  have ah:=f.out.1;have J:val ys=rd l:=by
   have:=K.out.sum;rw[show e.toNat=0 by omega]at this;simpa[rd,rdA] using this.symm
  obtain⟨rfl,H⟩:n=ys.length/\ys.length<=c:=by
   rcases f.out.2 with ⟨C,h2⟩|⟨g,cap,af,C,h2,h3,h4,_⟩
   ·simp at C;omega
   simp at C;obtain⟨_,rfl,rfl⟩:=C;exact⟨rfl,h4⟩
  have I:=Aav f.out mV;have F:=Lib.hid I;have Y:=Lib.hid J;clear I J ah
  go_wp2_with fail
  refine (F7 a c ys.length ys wr rfl oV H F.out).mono ?_;rintro e w' ⟨rfl,ak⟩;subst ak
  go_wp2_with fail
  refine (Aeu neg _ (rd l) wr (Dd K.out.low F.out Y.out H) (As9 (A0 (k:=l.length) (Auf (V7 HD.out) (by rw[Ade];exact Atq oV oV))) oV)).mono ?_;rintro e w5 ⟨v5,rfl,⟨a5,n5,c5,rfl,a4⟩,aa⟩;have Z:=Lib.hid aa;have ad:=Lib.hid a4;have ai:w.heap.size<X.heap.size:=by rw[ac.out];omega
  have V:RowKit.Hid (w5.heap[w.heap.size]?=some (.cells #[.bool false,.slice none 0 0] 101 (0,0))):=Lib.hid (by
   rw[Below.block Z.out _ oV,t.out.block _ ai,N.out,Cf])
  have d0:=Ape V.out;have d1:=Am6 V.out;have f0:=frozen_of_row _ _ 0 _ _ V.out;have f1:=frozen_of_row _ _ 1 _ _ V.out;clear a4 aa
  go_wp2_with fail
  have ae:Ext w w5:=by
   refine Ext.trans (b:=X) (by rw[N.out];exact Ext.alloc (Ext.refl w) _) ?_;exact Below.trans t.out (Below.mono Z.out oV)
  refine Y8 rfl rfl (Amc V.out) rfl ⟨_,rfl,?_,As0 ae (Atb _) _ _⟩;have hs:=ad.out.grown (Aoc V.out) (Aqp _ _ (.bool (decide (Bt neg (rd l)<0))) (.slice a5 n5 c5));exact Apg rfl hs
end
section
variable {q:Rat}{z:Int}
def D1 (u:PH):Prop:=∀ w,Em u w->Lib.TabIs prog w "internal/strconv.uint64pow10" .u64 Lib.pow10Tab
def D1.mono {u d:PH}(h:D1 u)(f:PH.le u d):D1 d:=fun w hp=>h w (fun g o e=>hp g o (f g o e))
section
variable {u:PH} {x:Value}
def Aaf {k:Nat}(f:D1 u)(d:k<18446744073709551616):Fn0 prog 165 [.int .u64 (k:Int),.int .i64 10] u fun v _=>v=.string (mkS (Lib.decDigits k)) :=
 Fn0.ofW (fun v _=>v=.string (mkS (Lib.decDigits k))) (fun w hp=>(D6 k d w (f w hp)).mono fun _ _ ⟨e,h⟩=>⟨_,e,rfl,h⟩) (fun _ _ _ h _ _ _=>h)
def Ie (h:Lib.nDigits z.natAbs<=400):Fn0 prog 110 [.string (mkS (Lib.itoa z))] u fun v d=>Bx d v z:=by
 refine Fn0.ofW (fun v w=>Oi w v z) (fun w _=>?_) (fun _ _ _ h _ c _=>Bx.ofW h c);have:=Ab3 (decide (z<0)) (Lib.decDigits z.natAbs) w (Mo _) (H7 _) (by rw[Lib.decDigits_length];omega);rw[Xa,<-Cz]at this;exact this
def Nn (f:D1 u)(h:Bx u x z)(d:nl z.natAbs<=100000000000):Fn0 prog 166 [x] u fun v _=>v=.string (mkS (Lib.itoa z)) :=
 Fn0.ofW (fun v _=>v=.string (mkS (Lib.itoa z))) (fun w hp=>(Vx x z w (h.toW hp) d (f w hp)).mono fun _ _ ⟨e,h⟩=>⟨_,e,rfl,h⟩) (fun _ _ _ h _ _ _=>h)
end
def Cu.at {u:PH}{a:Option Addr}{n c k j:Nat}(h:Cu u (.slice a n c) k)(f:j<(Aa k).length):∃ b off,a=some ⟨b,off,none⟩/\ElP u b (off+j*1) (.int .u64 ((Aa k).getD j 0:Nat)):=by
 obtain⟨v,c',e,A,m⟩:=h;simp only[Value.slice.injEq]at e;obtain⟨rfl,_,rfl⟩:=e;obtain⟨b,off,g,d⟩:=m j (by simpa using f);refine⟨b,off,g,fun i y hi=>?_⟩;have t:(Ay (Aa k)).getD j (.bool false)=.int .u64 ((Aa k).getD j 0:Nat):=by simp[Ay,f]
 rw[t]at d;have:i=0/\y=.int .u64 ((Aa k).getD j 0:Nat):=by
  match i,hi with
  |0,hi=>simp[Value.cells]at hi;simp[hi]
 obtain⟨rfl,rfl⟩:=this;simpa using d
def Kr {u:PH}{x:Value}(F:D1 u)(h:Bx u x z)(C:nl z.natAbs<=100000000000):Fn0 prog 103 [x] u fun v _=>v=.int .i64 (Lib.nDigits z.natAbs:Nat):=by
 obtain⟨a,n,c,rfl,g⟩:=h;obtain rfl:n=(Aa z.natAbs).length:=by obtain⟨_,_,f,_⟩:=id g;simp at f;exact f.2.1
 generalize decide (z<0)=b;have D:(Aa z.natAbs).length<=100000000000:=C;refine Fn0.o func103 ?_;by_cases h0:z.natAbs=0
 ·exact G.eT' ((Aa z.natAbs).length:Int) 0 (by rw[h0,Bc];rfl)<|G.r (.int .i64 1) ⟨rfl,by rw[h0,Lib.nDigits_small oV];rfl⟩
 have hp:0<(Aa z.natAbs).length:=Cl.2 oV;have m:=Ra h0;have d:=(Am z.natAbs).getD ((Aa z.natAbs).length-1);obtain⟨e,off,rfl,A⟩:=g.at (j:=(Aa z.natAbs).length-1) oV;have H:=Iz d;have t:=Lib.decDigits_length ((Aa z.natAbs).getD ((Aa z.natAbs).length-1) 0);have E:(mkS (Lib.decDigits ((Aa z.natAbs).getD ((Aa z.natAbs).length-1) 0))).size=(Lib.decDigits ((Aa z.natAbs).getD ((Aa z.natAbs).length-1) 0)).length:=Go.Lib.size_mk _;refine G.eF ((Aa z.natAbs).length:Int) 0<|G.s ((Aa z.natAbs).length:Int) 1 (((Aa z.natAbs).length-1:Nat):Int)<|G.mul 9 (((Aa z.natAbs).length-1:Nat):Int) ((9*((Aa z.natAbs).length-1):Nat):Int) kV oV oV oV<|G.a e off (Aa z.natAbs).length c ((Aa z.natAbs).length-1) 1 oV<|G.lU none e (off+((Aa z.natAbs).length-1)*1) (.int .u64 ((Aa z.natAbs).getD ((Aa z.natAbs).length-1) 0:Nat)) A<|G.c call165 (Aaf (k:=(Aa z.natAbs).getD ((Aa z.natAbs).length-1) 0) F oV) ?_;rintro K J I rfl;exact G.p ((9*((Aa z.natAbs).length-1):Nat):Int) ((Lib.decDigits ((Aa z.natAbs).getD ((Aa z.natAbs).length-1) 0)).length:Int) ((Lib.nDigits z.natAbs:Nat):Int)<|G.r _ ⟨rfl,rfl⟩
def Al6 {u:PH}{x:Value}(g:D1 u)(e:An u x q)(h:Tx q):Fn0 prog 104 [x] u fun v _=>v=.string (mkS (Ap q)):=by
 obtain⟨b,a,n,c,b',A,F,c',rfl⟩:=e.opn;have j:=As9 (Bi h.2) (show 400<=4000000000000 by omega);refine Fn0.o func104<|G.c call101 (H6 e j) ?_;rintro J H d rfl;by_cases f:q.den=1
 ·rw[decide_eq_true f];refine G.c call166 (Nn (g.mono d) (e.num.mono d) (As9 (Bi h.1) oV)) ?_;rintro t m l2 rfl;exact G.r (.string (mkS (Lib.itoa q.num))) ⟨rfl,by rw[Ap,if_pos f]⟩
 rw[decide_eq_false f];refine G.c call166 (Nn (g.mono d) (e.num.mono d) (As9 (Bi h.1) oV)) ?_;rintro t m l2 rfl;have C:=F2 h.1;have D:=F2 h.den;refine G.addS (Lib.itoa q.num) [47] kV gV<|G.c call166 (Nn (g.mono (d.trans l2)) (e.den.mono (d.trans l2)) (As9 (Bi h.den) oV)) ?_;rintro K I E rfl;exact G.addS (Lib.itoa q.num++[47]) (Lib.itoa (q.den:Int)) kV gV<|G.r (.string (mkS (Lib.itoa q.num++[47]++Lib.itoa (q.den:Int)))) ⟨rfl,by rw[Ap,if_neg f];simp⟩
def Qu {u:PH}{x:Value}(f:D1 u)(d:An u x q)(h:Tx q):Fn0 prog 43 [x] u fun v _=>v=.tuple #[.string (mkS (Ap q)),.int .i64 0]:=by
 obtain⟨b,a,n,c,b',g,C,c',rfl⟩:=d.opn;have m:=h.2;have j:=h.1;refine Fn0.o func43<|G.c call103 (Kr f d.num (As9 (Bi h.1) oV)) ?_;rintro H D e rfl;refine G.gF (Lib.nDigits q.num.natAbs:Nat) 400<|G.c call103 (Kr (f.mono e) (d.den.mono e) (As9 (Bi h.den) oV)) ?_;rintro I E l2 rfl;have t:=h.den;refine G.gF ((Lib.nDigits ((q.den:Int)).natAbs:Nat):Int) 400<|G.c call104 (Al6 (f.mono (e.trans l2)) (d.mono (e.trans l2)) h) ?_;rintro J F A rfl;exact G.r _ ⟨rfl,rfl⟩
end
section
variable {c:UInt8}{l:List UInt8}{q:Rat}{u:PH}
def Acq (h:∀ b∈l,b≠c):Lib.indexByte l c = -1:=by
 induction l with
 |nil=>rfl
 |cons b l ih =>
  have d:(b==c)=false:=by rw[beq_eq_false_iff_ne];exact h b mV
  rw[Lib.indexByte,d,ih (fun x e=>h x (by simp[e]))];rfl
def Akg {l r:List UInt8}(h:∀ b∈l,b≠c):Lib.indexByte (l++c::r) c=l.length:=by
 induction l with
 |nil=>simp[Lib.indexByte]
 |cons b l ih =>
  have d:(b==c)=false:=by rw[beq_eq_false_iff_ne];exact h b mV
  have e:=ih (fun x g=>h x (by simp[g]));rw[Ayt,Lib.indexByte,d,e];have f:(((l.length:Nat):Int) == -1)=false:=by rw[beq_eq_false_iff_ne];omega
  simp[f]
def Aju :Fn0 prog 214 [.string (mkS l),.string (mkS [c])] u fun v _=>v=.int .i64 (Lib.indexByte l c) :=
 Fn0.ofW (fun v _=>v=.int .i64 (Lib.indexByte l c)) (fun w _=>(Tryz.stringslite_Index_one (mkS l) c w).mono fun _ _ ⟨e,h⟩=>⟨_,e,rfl,by rw[h];exact Ext.refl _⟩) (fun _ _ _ h _ _ _=>h)
theorem Asu {T:List UInt8}(h:∀ b∈T,b≠47):Fn0 prog 107 [.string (mkS T),.string (mkS [47])] u fun v _=>v=.tuple #[.string (mkS T),.string (mkS []),.bool false]:=by
 have hin:Fn0 prog 167 [.string (mkS T),.string (mkS [47])] u fun v _=>v=.tuple #[.string (mkS T),.string (mkS []),.bool false]:=by
  refine Fn0.o func167 ?_;refine G.c call214 (Aju (l:=T) (c:=47)) ?_;rintro v1 u1 l1 rfl;rw[Acq h];refine G.hF (-1) 0 ?_;exact G.r (.tuple #[.string (mkS T),.string (mkS []),.bool false]) ⟨rfl,rfl⟩
 refine Fn0.o func107 ?_;refine G.c call167 hin ?_;rintro v1 u1 l1 rfl;exact G.r _ ⟨rfl,rfl⟩
def Asz {A B:List UInt8}(h:∀ b∈A,b≠47)(C:(A++47::B).length<=1000000):Fn0 prog 107 [.string (mkS (A++47::B)),.string (mkS [47])] u fun v _=>v=.tuple #[.string (mkS A),.string (mkS B),.bool true]:=by
 have m:(A++47::B).length=A.length+1+B.length:=gV
 have j:(A++47::B).take A.length=A:=mV
 have d:(A++47::B).drop (A.length+1)=B:=by rw[<-A0e];simp
 have f:=Akg (r:=B) h;generalize A++47::B=T at *
 have g:(mkS T).size=T.length:=Go.Lib.size_mk _;have e:Fn0 prog 167 [.string (mkS T),.string (mkS [47])] u fun v _=>v=.tuple #[.string (mkS A),.string (mkS B),.bool true]:=by
  refine Fn0.o func167<|G.c call214 (Aju (l:=T) (c:=47)) ?_;rintro z t n rfl;rw[f];refine G.hT A.length 0<|G.sliceSTo T A.length kV kV oV ?_;rw[j];refine G.p A.length 1 (A.length+1:Nat)<|G.sliceSFrom T (A.length+1) kV kV oV ?_;rw[d];exact G.r (.tuple #[.string (mkS A),.string (mkS B),.bool true]) ⟨rfl,rfl⟩
 refine Fn0.o func107<|G.c call167 e ?_;rintro z t n rfl;exact G.r _ ⟨rfl,rfl⟩
def Ar0 (h:Tx q):Fn0 prog 107 [.string (mkS (Ap q)),.string (mkS [47])] u fun v _=>v=.tuple #[.string (mkS (Lib.itoa q.num)),.string (mkS (if q.den=1 then [] else Lib.itoa (q.den:Int))),.bool (decide (q.den≠1))]:=by
 have e:=F2 h.1;have l2:=F2 h.den;unfold Ap;by_cases d:q.den=1
 ·rw[if_pos d,if_pos d,decide_eq_false (by simp[d])];exact Asu (My _)
 rw[if_neg d,if_neg d,decide_eq_true d];exact Asz (My _) gV
def An.mk {u:PH}{q:Rat}{y z:Int}{b b':Bool}{a e:Option Addr}{n c g c':Nat}(h:Bx u (.agg #[.bool b,.slice a n c]) y)(j:Bx u (.agg #[.bool b',.slice e g c']) z)(m:q.num=y)(t:(q.den:Int)=z) :
 An u (.agg #[.bool b,.slice a n c,.bool b',.slice e g c']) q:=by
 obtain⟨_,_,_,f,v⟩:=h;obtain⟨_,_,_,d,A⟩:=j;subst m t;rw[decide_eq_false oV]at d;simp only[Value.agg.injEq,Axh,Ave,Value.bool.injEq,Value.slice.injEq,and_true]at f d;obtain⟨rfl,rfl,rfl,rfl⟩:=f;obtain⟨rfl,rfl,rfl,rfl⟩:=d;exact⟨_,_,_,_,_,_,rfl,v,A⟩
def Eq (h:Tx q):Fn0 prog 54 [.string (mkS (Ap q))] u fun v I=>An I v q:=by
 refine Fn0.o func54<|G.c call107 (Ar0 h) ?_;rintro P O N rfl;by_cases d:q.den=1
 ·rw[if_pos d,decide_eq_false (by simp[d])];refine G.c call110 (Ie h.1) ?_;intro K H l2 f;obtain⟨n,j,E,A,rfl⟩:=f.opn;have e:=Ie (u:=H) (z:=1) (by rw[Lib.nDigits_small fV];omega);rw[G3]at e;refine G.c call110 e ?_;intro L J D g;obtain⟨t,m,F,C,rfl⟩:=g.opn;exact G.r (.agg #[.bool n,.slice j E A,.bool t,.slice m F C]) ⟨rfl,An.mk (f.mono D) g rfl (by rw[d];rfl)⟩
 rw[if_neg d,decide_eq_true d];refine G.c call110 (Ie h.1) ?_;intro K H l2 f;obtain⟨n,j,E,A,rfl⟩:=f.opn;refine G.c call110 (Ie h.den) ?_;intro L J D g;obtain⟨t,m,F,C,rfl⟩:=g.opn;exact G.r (.agg #[.bool n,.slice j E A,.bool t,.slice m F C]) ⟨rfl,An.mk (f.mono D) g rfl rfl⟩
end
section
variable {e v:Value}{es:List Value}{q:Rat}{qs:List Rat}{sz:Nat}{u:PH}
def Bo (ts:List (List UInt8)):List Value:=ts.map fun t=>Value.string (mkS t)
def Bm (ts:List (List UInt8)):(Bo ts).length=ts.length:=by simp[Bo]
def Sw (ts:List (List UInt8))(t:List UInt8):Bo ts++[.string (mkS t)]=Bo (ts++[t]):=by simp[Bo]
def Dp (ts:List (List UInt8)):Ax 1 (Bo ts):=by
 intro e d;simp only[Bo,Ate]at d;obtain⟨b,_,rfl⟩:=d;exact⟨rfl,fun x f=>by simp[Value.cells]at f;subst f;rfl⟩
def Eh (u:PH)(v:Value)(ts:List (List UInt8)):Prop:=Ad u v 1 (Bo ts)
def Iy (u:PH)(es:List Value)(qs:List Rat):Prop:=es.length=qs.length/\∀ (j:Nat) (q:Rat),qs[j]?=some q->∃ e,es[j]?=some e/\An u e q
def Iy.mono {u d:PH}{es:List Value}{qs:List Rat}(h:Iy u es qs)(n:PH.le u d):Iy d es qs :=
 ⟨h.1,fun j q m=>by obtain⟨e,f,g⟩:=h.2 j q m;exact⟨e,f,g.mono n⟩⟩
def Iy.snoc (h:Iy u es qs)(t:An u e q):Iy u (es++[e]) (qs++[q]):=by
 refine⟨by simp[h.1],fun j r d=>?_⟩;by_cases f:j<qs.length
 ·rw[Atl f]at d;obtain⟨g,m,n⟩:=h.2 j r d;exact⟨g,by rw[Atl (by rw[h.1];exact f)];exact m,n⟩
 rw[At1 oV]at d;have:j-qs.length=0:=by
  rcases At5 (j-qs.length) with h0|h0
  ·exact h0
  rw[Att gV]at d;cases d
 rw[this]at d;simp at d;subst d;refine⟨e,?_,t⟩;rw[At1 (by rw[h.1];omega),h.1,this];rfl
def Bn (u:PH)(v:Value)(qs:List Rat):Prop:=∃ es,Ad u v 4 es/\Iy u es qs
def Bn.mono {u f:PH}{v:Value}{qs:List Rat}(h:Bn u v qs)(d:PH.le u f):Bn f v qs:=by
 obtain⟨es,g,j⟩:=h;exact⟨es,g.mono d,j.mono d⟩
def An.ok (h:An u e q):Ax 4 [e]:=by
 obtain⟨b,a,n,c,b',g,j,c',rfl⟩:=h.opn;intro x d;simp at d;subst d;exact⟨rfl,fun y f=>by simp[Value.cells]at f;rcases f with rfl|rfl|rfl|rfl<;>rfl⟩
def Ad.opn (h:Ad u v sz es):∃ a c,v=.slice a es.length c:=by
 obtain⟨a,c,rfl,_⟩:=h;exact⟨a,c,rfl⟩
def Ad.at' {a:Option Addr}{n c sz:Nat}(h:Ad u (.slice a n c) sz es){j:Nat}(g:es[j]?=some e):∃ b off,a=some ⟨b,off,none⟩/\ElP u b (off+j*sz) e:=by
 obtain⟨m,c',d,t,f⟩:=h;simp only[Value.slice.injEq]at d;obtain⟨rfl,_,rfl⟩:=d;exact f j e g
def Qe (h:Eh u v (qs.map Ap))(hq:∀ q∈qs,Tx q)(hl:qs.length<=1000000):Fn0 prog 117 [v] u fun v' N=>Bn N v' qs:=by
 obtain⟨a,c,rfl⟩:=Ad.opn h;have A:(Bo (qs.map Ap)).length=qs.length:=by rw[Bm,Ata]
 rw[A]at h⊢;refine Fn0.o func117<|G.l (ι:=Nat×List Value×(Option Addr×Nat×Nat)) (fun i=>[(3,sV i.2.2.1 i.2.2.2.1 i.2.2.2.2),(6,sV a qs.length c),(7,iV qs.length),(8,iV i.1)]) (fun _=>[])
  (fun i N W=>i.1<=qs.length/\Iy N i.2.1 (qs.take i.1)/\Ae PH.mt W (.slice i.2.2.1 i.2.2.2.1 i.2.2.2.2) 103 4 i.2.1) (fun i=>qs.length-i.1) (0,[],(none,0,0)) ⟨mV,⟨mV,fun j q hj=>by simp at hj⟩,Ae.nil _ _ _⟩ ?_
 rintro J ⟨k,es,⟨R,X,U⟩⟩ V N W z ⟨hk,hF,O⟩;simp only at hk hF O V;have P:=hF.1;rw[Atm]at P;by_cases C:k<qs.length
 ·refine G.lT k qs.length ?_;have D:qs[k]?=some qs[k]:=As5 C;obtain⟨T,Y,rfl,ea⟩:=Ad.at' (Ad.mono h z) (j:=k) (e:=.string (mkS (Ap qs[k]))) (by simp[Bo,D]);have Q:=hq qs[k] (Ath C);refine G.a T Y qs.length c k 1 oV<|G.lU none T (Y+k*1) (.string (mkS (Ap qs[k]))) ea<|G.c call54 (Eq Q) ?_;intro v2 u2 l2 K;obtain⟨H,F,L,I,f,d,n,m,rfl⟩:=K.opn;refine G.B 103 4 64 (.agg #[.bool false,.slice none 0 0,.bool false,.slice none 0 0]) [.agg #[.bool H,.slice F L I,.bool f,.slice d n m]] K.ok ?_;intro g u3 E e3;refine G.append 103 4 64 (.agg #[.bool false,.slice none 0 0,.bool false,.slice none 0 0]) PH.mt es [.agg #[.bool H,.slice F L I,.bool f,.slice d n m]] (.slice R X U) g 0 1 1 kV rfl rfl oV O e3 K.ok rfl oV oV oV ?_;intro v4 m4 t;obtain⟨Z,c4,rfl⟩:=t.shape;refine G.i k<|G.b (V (k+1,es++[Value.agg #[.bool H,.slice F L I,.bool f,.slice d n m]],(Z,(es++[Value.agg #[.bool H,.slice F L I,.bool f,.slice d n m]]).length,c4)) _ _ _ cV ((z.trans l2).trans E) ⟨dV,?_,t⟩ dV);dsimp only;rw[At0,D];exact (hF.mono (l2.trans E)).snoc (K.mono E)
 have:k=qs.length:=oV;subst this;refine G.lF qs.length qs.length<|G.give PH.mt es _ kV O (fun _=>.inl rfl) ?_;intro u3 E hL;rw[At9]at hF;exact G.r (.slice R X U) ⟨rfl,es,hL,hF.mono E⟩
def Ug (ht:D1 u)(h:Bn u v qs)(hq:∀ q∈qs,Tx q)(hl:qs.length<=1000000):Fn0 prog 67 [v] u fun v' I=>∃ r,v'=.tuple #[r,.int .i64 0]/\Eh I r (qs.map Ap):=by
 obtain⟨es,m,hF⟩:=h;obtain⟨a,c,rfl⟩:=Ad.opn m;rw[hF.1]at m⊢;refine Fn0.o func67<|G.l (ι:=Nat×(Option Addr×Nat×Nat)) (fun i=>[(4,sV i.2.1 i.2.2.1 i.2.2.2),(9,sV a qs.length c),(10,iV qs.length),(11,iV i.1)]) (fun _=>[])
  (fun i I Q=>i.1<=qs.length/\Ae PH.mt Q (.slice i.2.1 i.2.2.1 i.2.2.2) 34 1 (Bo ((qs.take i.1).map Ap))) (fun i=>qs.length-i.1) (0,(none,0,0)) ⟨mV,Ae.nil _ _ _⟩ ?_
 rintro J ⟨k,⟨K,R,N⟩⟩ O I Q d ⟨hk,E⟩;simp only at hk E O;have a0:(Bo ((qs.take k).map Ap)).length=k:=by simp[Bo];omega
 by_cases t:k<qs.length
 ·refine G.lT k qs.length ?_;have z:qs[k]?=some qs[k]:=As5 t;obtain⟨e,he,n⟩:=hF.2 k _ z;obtain⟨L,T,rfl,ea⟩:=Ad.at' (m.mono d) (j:=k) he;have F:=hq qs[k] (Ath t);obtain⟨W,U,n2,X,C,A,H,D,rfl⟩:=n.opn;refine G.a L T qs.length c k 4 oV<|G.lU (some 4) L (T+k*4) (.agg #[.bool W,.slice U n2 X,.bool C,.slice A H D]) ea<|G.c call43 (Qu (ht.mono d) (n.mono d) F) ?_;rintro v2 u2 l2 rfl;refine G.nF 0 0<|G.B 34 1 16 (.string (mkS [])) [.string (mkS (Ap qs[k]))] (Dp [Ap qs[k]]) ?_;intro g u3 P Z;refine G.append 34 1 16 (.string (mkS [])) PH.mt (Bo ((qs.take k).map Ap)) [.string (mkS (Ap qs[k]))] (.slice K R N) g 0 1 1 kV rfl rfl oV E Z (Dp [Ap qs[k]]) rfl oV oV oV ?_;intro v4 m4 f;rw[Sw,show (qs.take k).map Ap++[Ap qs[k]]=(qs.take (k+1)).map Ap by rw[At0,z,Atk];rfl]at f;obtain⟨V,Y,rfl⟩:=f.shape;exact G.i k<|G.b (O (k+1,(V,(Bo ((qs.take (k+1)).map Ap)).length,Y)) _ _ _ cV ((d.trans l2).trans P) ⟨dV,f⟩ dV)
 have:k=qs.length:=oV;subst this;refine G.lF qs.length qs.length<|G.give PH.mt _ _ kV E (fun _=>.inl rfl) ?_;intro u3 P m;rw[At9]at m;exact G.r (.tuple #[.slice K R N,.int .i64 0]) ⟨rfl,_,rfl,m⟩
end
def Acu {u:PH}{v:Value}{ts:List (List UInt8)}{fid:Nat}{cap:Array Value}(h:Eh u v ts)(L:ts.length<=1000000)
 (d:∀ args w,(callFunc fid args).run prog w=.ok (.enter fid args) w) (F:∀ t∈ts,∀ m,PH.le u m->Fn0 prog fid [.string (mkS t)] m fun v _=>v=.bool false) :
 Fn0 prog 220 [v,.func (.func fid) #[] #[]] u fun I _=>I=.int .i64 (-1):=by
 obtain⟨a,c,rfl⟩:=Ad.opn h;rw[Bm]at h⊢;refine Fn0.o func220<|G.l (ι:=Nat) (fun i=>[(0,sV a ts.length c),(1,.v (.func (.func fid) #[] #[])),(7,iV ts.length),(8,iV i)]) (fun _=>[])
  (fun i m A=>i<=ts.length/\A=PH.mt) (fun i=>ts.length-i) 0 ⟨oV,rfl⟩ ?_
 rintro J k E m A f ⟨K,rfl⟩;by_cases g:k<ts.length
 ·refine G.lT k ts.length ?_;have n:ts[k]?=some ts[k]:=As5 g;obtain⟨z,C,rfl,D⟩:=Ad.at' (Ad.mono h f) (j:=k) (e:=.string (mkS ts[k])) (by simp[Bo,n]);refine G.a z C ts.length c k 1 oV<|G.lU none z (C+k*1) (.string (mkS ts[k])) D<|G.c d (F ts[k] (Ath g) m f) ?_;rintro O N H rfl;exact G.i k<|G.b (E (k+1) _ _ _ cV (f.trans H) ⟨oV,rfl⟩ oV)
 exact G.lF k ts.length<|G.r (.int .i64 (-1)) ⟨rfl,rfl⟩
def Nc {u:PH}{v:Value}{ts:List (List UInt8)}{fid:Nat}(h:Eh u v ts)(g:ts.length<=1000000)
 (d:∀ args w,(callFunc fid args).run prog w=.ok (.enter fid args) w) (f:∀ t∈ts,∀ e,PH.le u e->Fn0 prog fid [.string (mkS t)] e fun v _=>v=.bool false) :
 Fn0 prog 181 [v,.func (.func fid) #[] #[]] u fun j _=>j=.bool false:=by
 obtain⟨a,c,rfl⟩:=Ad.opn h;refine Fn0.o func181<|G.c call220 (Acu (cap:=#[]) h g d f) ?_;rintro z n m rfl;exact G.hF (-1) 0<|G.r (.bool false) ⟨rfl,rfl⟩
def Amy {u:PH}{v K:Value}{ts d:List (List UInt8)}(h:Eh u v ts)(A:Eh u K d)(V:ts.length<=1000000)(Q:d.length<=1000000) :
 Fn0 prog 21 [v,K] u fun r _=>r=.bool (decide (ts=d)):=by
 obtain⟨a,c,rfl⟩:=Ad.opn h;obtain⟨L,c',rfl⟩:=Ad.opn A;rw[Bm]at h A⊢;rw[Bm];refine Fn0.o func21 ?_;by_cases R:ts.length=d.length
 ·refine G.nF ts.length d.length<|G.l (ι:=Nat) (fun i=>[(0,sV a ts.length c),(1,sV L d.length c'),(12,iV ts.length),(13,iV i)]) (fun _=>[])
   (fun i T F=>(i<=ts.length/\ts.take i=d.take i)/\F=PH.mt) (fun i=>ts.length-i) 0 ⟨⟨oV,mV⟩,rfl⟩ ?_
  rintro J k P T F m ⟨⟨U,g⟩,rfl⟩;by_cases C:k<ts.length
  ·refine G.lT k ts.length ?_;have n:k<d.length:=oV;have t:ts[k]?=some ts[k]:=As5 C;have f:d[k]?=some d[k]:=As5 n;obtain⟨D,H,rfl,N⟩:=Ad.at' (Ad.mono h m) (j:=k) (e:=.string (mkS ts[k])) (by simp[Bo,t]);obtain⟨E,I,rfl,O⟩:=Ad.at' (Ad.mono A m) (j:=k) (e:=.string (mkS d[k])) (by simp[Bo,f]);refine G.a D H ts.length c k 1 oV<|G.lU none D (H+k*1) (.string (mkS ts[k])) N<|G.a E I d.length c' k 1 oV<|G.lU none E (I+k*1) (.string (mkS d[k])) O ?_;by_cases z:ts[k]=d[k]
   ·exact G.y ts[k] d[k] z<|G.i k<|G.b (P (k+1) _ _ _ cV m ⟨⟨oV,by rw[At0,At0,g,t,f,z]⟩,rfl⟩ oV)
   exact G.x ts[k] d[k] z<|G.r (.bool false) ⟨rfl,by rw[decide_eq_false];rintro rfl;exact z rfl⟩
  refine G.lF k ts.length ?_;have:ts=d:=by rw[Atp oV,Atp oV]at g;exact g
  exact G.r (.bool true) ⟨rfl,by simp[this]⟩
 exact G.nT ts.length d.length<|G.r (.bool false) ⟨rfl,by rw[decide_eq_false];rintro rfl;exact R rfl⟩
section
section rules
variable [Ca] {P:Program} [A7 P] {fn:Func} {Post:Bz} {st:List KI×S} {u m:PH}
def B1.heap {w w':World}(h:B1 u m w)(e:∀ g:Nat,w'.heap[g]?=w.heap[g]?):B1 u m w' :=
 ⟨fun g o d=>by rw[e];exact h.pu g o d,fun g o d=>by rw[e];exact h.pm g o d,h.ap,fun g cs t fr j z d f=>h.cl g cs t fr j z (by rw[<-e];exact d) f⟩
def G.convSB (d:Option TypeDesc)(e:TypeId)(l:List UInt8)(h:Al P (adv P st)=.conv d (some (.slice e)) (.string (mkS l)))(hd:d.isSome=true)(he:P.underlying e=some (.int .u8))
 (k:∀ v f,PH.le u f->Ad f v 1 (Bb l)->G P fn Post (nx (adv P st) v) f m):G P fn Post st u m:=by
 refine G.big (K:=fun R f Q=>Q=m/\Ad f R 1 (Bb l)) h mV (fun H op hv=>?_) (.inl fun v f Q C=>by rw[C.1];exact PH.le_refl _) (fun H o n w L=>?_) (fun R f Q N C=>?_)
 ·obtain⟨s,T,X,rfl,_,_,F⟩:=Jv hv;exact Y4 F mV
 ·obtain⟨s,T,X,U,Y,Z,F⟩:=Jv n;obtain⟨W,a0,V,pos,E,I⟩:=o;simp only at U;subst U;obtain⟨dd,rfl⟩:=Azd.1 hd;have hr:=Lib.run_convert_string_bytes (P:=P) w s T e (mkS l) Z F he;have O:(mkS l).size=l.length:=Go.Lib.size_mk l;obtain⟨g1,g2,g3,g4⟩:=L.newU (.cells (Lib.bytesCells w e (mkS l)) e ((Lib.bytesCells w e (mkS l)).size,(Lib.bytesCells w e (mkS l)).size+1));have hh:∀ g:Nat,(Lib.bytesWorld w e (mkS l)).heap[g]?=(w.alloc (.cells (Lib.bytesCells w e (mkS l)) e ((Lib.bytesCells w e (mkS l)).size,(Lib.bytesCells w e (mkS l)).size+1))).heap[g]?:=by
   intro g;rcases Axu g w.heap.size with t|t|t
   ·rw[Lib.bytesWorld_at_old w e _ g t,A9 _ _ t]
   ·subst t;rw[Lib.bytesWorld_at_new,Cf]
   rw[Awu (by rw[Lib.bytesWorld_size];omega),Awu (by rw[Bu];omega)]
  refine Bs (by simp[execOp,Y,hr];rfl) ⟨_,m,g1.heap hh,⟨by rw[Lib.bytesWorld_size];omega,fun g hg hm=>Lib.bytesWorld_at_old w e _ g hg,g2.us,g2.ms,⟨rfl,rfl⟩,fun _=>⟨rfl,by first|exact Atb _|exact Nat.le_succ _⟩⟩,rfl,?_⟩
  refine⟨some ⟨w.heap.size,0,none⟩,grownCap w l.length 0 e,by rw[As,O],by rw[As];exact grownCap_ge w _ _ e,fun j x z=>⟨_,0,rfl,fun i y D=>⟨_,_,_,Ab _ _ _,?_⟩⟩⟩;have A:j<l.length:=by
   rcases At8 j l.length with J|J
   ·exact J
   rw[Att (by rw[As];exact J)]at z;cases z
  rw[Gt A]at z;simp only[Atd]at z;subst z;have:i=0/\y=.int .u8 ((l.getD j 0).toNat:Int):=by
   match i,D with
   |0,D=>simp[Value.cells]at D;simp[D]
  obtain⟨rfl,rfl⟩:=this;simp[Lib.bytesCells,Array.getElem?_append,A,List.getD]
 obtain⟨rfl,C⟩:=C;exact k R f N C
end rules
def Ab8 {u:PH}{s p:List UInt8}:Fn0 prog 168 [.string (mkS s),.string (mkS p)] u fun v _=>v=.string (mkS (Lib.trimPrefix s p)) :=
 Fn0.ofW (fun v _=>v=.string (mkS (Lib.trimPrefix s p))) (fun w _=>(Tryz.strings_TrimPrefix (mkS s) (mkS p) w).mono fun _ _ ⟨e,h⟩=>⟨_,e,rfl,by rw[h];exact Ext.refl _⟩) (fun _ _ _ h _ _ _=>h)
def Kb {u:PH}{z:Int}(h:Lib.nDigits z.natAbs<=400):Fn0 prog 108 [.string (mkS (Lib.itoa z))] u fun v _=>v=.bool true:=by
 refine Fn0.o func108 ?_;by_cases h0:z=0
 ·subst h0;exact G.q (Lib.itoa 0) [48] Ea<|G.r (.bool true) ⟨rfl,rfl⟩
 refine G.w (Lib.itoa z) [48] (fun e=>h0 (Hc (e.trans Ea.symm)))<|G.c call168 (Ab8 (s:=Lib.itoa z) (p:=[45])) ?_;rintro Y W U rfl;have g:=Lib.decDigits_length z.natAbs;have Q:=Lib.nDigits_pos z.natAbs;have f:=Mo z.natAbs;obtain⟨D,d,N,O⟩:=Oe (z:=(z.natAbs:Int)) oV oV;rw[Si]at d;rw[Cz z,(Iw f (H7 _)).1];generalize R:Lib.decDigits z.natAbs=L at *
 have A:(mkS L).size=L.length:=Go.Lib.size_mk _;refine G.w L [] (by intro e;rw[e]at g;simp at g;omega)<|G.gF L.length 400<|G.idxS L 0 D kV d<|G.cmpG .eql .u8 (D.toNat:Int) 48 false kV rfl (by simp only[Cj,decide_eq_false_iff_not];omega)<|G.convSB (some .string) 5 L kV rfl kV ?_;intro Z X l2 C;obtain⟨a,c,rfl⟩:=Ad.opn C;rw[As]at C⊢;refine G.l (ι:=Nat) (fun i=>[(23,sV a L.length c),(24,iV L.length),(25,iV i)]) (fun _=>[]) (fun i _ F=>i<=L.length/\F=PH.mt) (fun i=>L.length-i) 0 ⟨oV,rfl⟩ ?_;rintro J i K V F n ⟨hi,rfl⟩;by_cases t:i<L.length
 ·refine G.lT i L.length ?_;have T:=Jz f t;obtain⟨E,H,rfl,I⟩:=Ad.at' (Ad.mono C n) (j:=i) (Gt t);exact G.a E H L.length c i 1 oV<|G.lU none E (H+i*1) (.int .u8 ((L.getD i 0).toNat:Int)) I<|G.cmpG .lss .u8 ((L.getD i 0).toNat:Int) 48 false kV rfl (by simp only[Cj,decide_eq_false_iff_not];omega)<|G.cmpG .gtr .u8 ((L.getD i 0).toNat:Int) 57 false kV rfl (by simp only[Cj,decide_eq_false_iff_not];omega)<|G.i i<|G.b (K (i+1) _ _ _ cV n ⟨oV,rfl⟩ oV)
 exact G.lF i L.length<|G.r (.bool true) ⟨rfl,rfl⟩
end
section
variable {q:Rat}{qs:List Rat}{u:PH}{v:Value}{z:Int}
def Abd (h:Lib.nDigits z.natAbs<=400):Fn0 prog 169 [.string (mkS (Lib.itoa z))] u fun v m=>Bx m v z:=by
 refine Fn0.o func169<|G.c call110 (Ie h) ?_;intro t n l2 d;obtain⟨f,e,j,g,rfl⟩:=d.opn;exact G.r (.agg #[.bool f,.slice e j g]) ⟨rfl,d⟩
def Abp {y z:Int}(h:Lib.nDigits y.natAbs<=400)(d:Lib.nDigits z.natAbs<=400):Fn0 prog 109 [.string (mkS (Lib.itoa y)),.string (mkS (Lib.itoa z))] u fun v _=>v=.int .i64 (sgn (y-z)):=by
 refine Fn0.o func109<|G.c call108 (Kb h) ?_;rintro P J D rfl;refine G.c call108 (Kb d) ?_;rintro Q K l2 rfl;refine G.c call169 (Abd h) ?_;intro R L E e;obtain⟨n,j,H,A,rfl⟩:=e.opn;refine G.c call169 (Abd d) ?_;intro T N g f;obtain⟨t,m,I,C,rfl⟩:=f.opn;refine G.c call112 (G8 (e.mono g) f (As9 (Bi h) oV) (As9 (Bi d) oV)) ?_;rintro U O F rfl;exact G.r _ ⟨rfl,rfl⟩
def Fp (h:Tx q):Fn0 prog 47 [.string (mkS (Ap q))] u fun v _=>v=.bool true:=by
 refine Fn0.o func47<|G.c call107 (Ar0 h) ?_;rintro v1 u1 W rfl;refine G.c call108 (Kb h.1) ?_;rintro v2 u2 l2 rfl;by_cases d:q.den=1
 ·rw[if_pos d,decide_eq_false (by simp[d])];refine G.c call108 (Kb h.1) ?_;rintro H t D rfl;exact G.r (.bool true) ⟨rfl,rfl⟩
 rw[if_neg d,decide_eq_true d];have C:=Akv d;have A:=q.den_nz;refine G.w (Lib.itoa q.num) [48] (fun e=>C (Hc (e.trans Ea.symm)))<|G.c call108 (Kb h.den) ?_;rintro H t D rfl;have g:=Abp (u:=t) (y:=(q.den:Int)) (z:=1) h.den (by rw[Lib.nDigits_small fV];omega);rw[G3]at g;refine G.c call109 g ?_;rintro v4 u4 X rfl;refine G.kF' (sgn ((q.den:Int)-1)) 0 (by rw[Cg oV];omega)<|G.c call110 (Ie h.1) ?_;intro v5 u5 Y j;obtain⟨N,I,n5,R,rfl⟩:=j.opn;refine G.c call110 (Ie h.den) ?_;intro v6 u6 E m;obtain⟨O,J,n6,T,rfl⟩:=m.opn;refine G.c call111 (Xu (j.mono E) m (As9 (Bi h.1) oV) (As9 (Bi h.den) oV)) ?_;intro v7 u7 Z f;rw[show Nat.gcd q.num.natAbs ((q.den:Int)).natAbs=1 from q.reduced]at f;obtain⟨P,K,n7,U,rfl⟩:=f.opn;refine G.c call113 (Qn (z:=1) oV oV) ?_;intro v8 u8 F n;obtain⟨Q,L,n8,V,rfl⟩:=n.opn;refine G.c call112 (G8 (f.mono F) n (As9 Qi oV) (As9 Qi oV)) ?_;rintro v9 u9 l9 rfl;exact G.eT' (sgn (((1:Nat):Int)-1)) 0 fV<|G.r (.bool true) ⟨rfl,rfl⟩
def Anw (h:Tx q):Fn0 prog 190 [.string (mkS (Ap q))] u fun v _=>v=.bool false:=by
 refine Fn0.o func190<|G.c call47 (Fp h) ?_;rintro f e d rfl;exact G.r (.bool false) ⟨rfl,rfl⟩
def Abe (h:Tx q):Fn0 prog 182 [.string (mkS (Ap q))] u fun v _=>v=.bool false:=by
 refine Fn0.o func182<|G.c call47 (Fp h) ?_;rintro f e d rfl;exact G.r (.bool false) ⟨rfl,rfl⟩
def Aek (h:Eh u v (qs.map Ap))(f:∀ q∈qs,Tx q)(e:qs.length<=1000000):Fn0 prog 140 [v] u fun j _=>j=.bool true:=by
 obtain⟨a,c,rfl⟩:=Ad.opn h;refine Fn0.o func140<|G.c call181 (Nc (fid:=190) h (by simpa using e) call190 (fun t g n _=>?_)) ?_
 ·obtain⟨q,d,rfl⟩:=Ate.1 g;exact Anw (f q d)
 rintro C A m rfl;exact G.r (.bool true) ⟨rfl,rfl⟩
def Alm (h:Eh u v (qs.map Ap))(f:∀ q∈qs,Tx q)(e:qs.length<=1000000):Fn0 prog 124 [v] u fun j _=>j=.bool true:=by
 obtain⟨a,c,rfl⟩:=Ad.opn h;refine Fn0.o func124<|G.c call181 (Nc (fid:=182) h (by simpa using e) call182 (fun t g n _=>?_)) ?_
 ·obtain⟨q,d,rfl⟩:=Ate.1 g;exact Abe (f q d)
 rintro C A m rfl;exact G.r (.bool true) ⟨rfl,rfl⟩
end
def Ae4 (q r:Rat):sgn (q.num*(r.den:Int)-r.num*(q.den:Int))=sgn (q-r).num:=by
 have h:=Apf q r;have n:=Sk q r;obtain⟨j,t,u⟩:=Ks (y:=q.num*(r.den:Int)-r.num*(q.den:Int)) n;rw[h]at j;rw[j];generalize q.num*(r.den:Int)-r.num*(q.den:Int)=y at *
 generalize (q.den:Int)*(r.den:Int)=z at *
 have v:0<Nat.gcd y.natAbs z.natAbs:=Ax7 _ oV;rw[U8];have e:((Nat.gcd y.natAbs z.natAbs:Nat):Int) ∣ y:=A19.2 (A04 _ _);obtain⟨k,m⟩:=e;generalize Nat.gcd y.natAbs z.natAbs=g at *
 have f:(g:Int)≠0:=oV;rw[m,Int.mul_ediv_cancel_left _ f];rcases Awd k 0 with d|d|d
 ·rw[Dc d,Dc (Int.mul_neg_of_pos_of_neg oV d)]
 ·subst d;simp
 rw[Cg d,Cg (Int.mul_pos oV d)]
def Rg {u:PH}{q r:Rat}(h:Tx q)(d:Tx r):Fn0 prog 72 [.string (mkS (Ap q)),.string (mkS (Ap r))] u fun v _=>v=.int .i64 (sgn (q-r).num):=by
 refine Fn0.o func72<|G.B 34 1 16 (.string (mkS [])) [.string (mkS (Ap q)),.string (mkS (Ap r))] (Dp [Ap q,Ap r]) ?_;intro g N V F;have H:Eh N (.slice (some ⟨g,0,none⟩) 2 2) ([q,r].map Ap):=⟨_,2,rfl,Atb _,fun j e I=>⟨g,0,rfl,F j e I⟩⟩;refine G.c call140 (Aek H (by intro x f;simp at f;rcases f with rfl|rfl;exact h;exact d) mV) ?_;rintro v2 u2 l2 rfl;refine G.c call54 (Eq h) ?_;intro v3 u3 W m;obtain⟨Q,O,Y,T,A,t,K,D,rfl⟩:=m.opn;refine G.c call54 (Eq d) ?_;intro v4 u4 J n;obtain⟨R,P,Z,U,C,z,L,E,rfl⟩:=n.opn;refine G.c call138 (Pq (m.mono J) n (h.sz.mono oV) (d.sz.mono oV)) ?_;rintro v5 u5 X rfl;rw[Ae4];exact G.r _ ⟨rfl,rfl⟩
section
variable {g j k:Nat}{x:SV}
variable [Ca] [Df]
def SV.pub (k g:Nat):SV->SV
 |.p j off=>cond (Nat.beq j k) (.v (.pointer (some ⟨g,off,none⟩))) (.p j off)
 |x=>x
def Blk.pub (k g:Nat)(b:Blk):Blk:=⟨b.t,b.cells.map (SV.pub k g)⟩
def S.pub (s:S)(k g:Nat):S:={ n:=s.n,tm:=fun d=>(s.tm d).pub k g,hp:=fun j=>cond (Nat.beq j k) none ((s.hp j).map (Blk.pub k g)) }
def SV.pub_den (k:Nat)(ρ:Nat->Nat)(x:SV):(x.pub k (ρ k)).den ρ=x.den ρ:=by
 cases x with
 |junk=>rfl
 |v x=>rfl
 |p j off =>
  cases hb:Nat.beq j k with
  |true=>have:=Aug hb;subst this;simp[SV.pub,SV.den]
  |false=>simp[SV.pub,hb]
def SV.pub_junk :x.pub k g≠.junk↔x≠.junk:=by
 cases x with
 |junk=>simp[SV.pub]
 |v x=>simp[SV.pub]
 |p j off=>cases hb:Nat.beq j k<;>simp[SV.pub,hb]
def SV.pub_p {k g j off:Nat}(h:x.pub k g=.p j off):x=.p j off/\j≠k:=by
 cases x with
 |junk=>cases h
 |v x=>cases h
 |p j' off' =>
  cases hb:Nat.beq j' k with
  |true=>simp[SV.pub,hb]at h
  |false =>
   simp[SV.pub,hb]at h;obtain⟨rfl,rfl⟩:=h;exact⟨rfl,fun e=>by subst e;simp at hb⟩
def Mi (s:S)(k g:Nat):(s.pub k g).hp k=none:=by simp[S.pub]
def Jm (s:S)(h:j≠k):(s.pub k g).hp j=(s.hp j).map (Blk.pub k g):=by
 have:Nat.beq j k=false:=by rw[<-A0x];exact fun d=>h (Aug d)
 simp[S.pub,this]
section rules
variable {c:Cx} {s:S} {u m:PH} {ρ:Nat->Nat} {a:Act} {w:World}
def Rel.pub (h:Rel c s u m ρ a w){k:Nat}{t:TypeId}{xs:List Value}(W:s.hp k=some ⟨t,xs.map SV.v⟩):Rel c (s.pub k (ρ k)) u (m.upd (ρ k) (.cells xs.toArray t (0,0))) ρ a w:=by
 obtain⟨⟨cs,V,Y,Z⟩,e4,e5,e6⟩:=h.box k _ W;have N:cs=xs.toArray:=by
  apply Array.ext
  ·simpa using Y
  intro i D E;have:=Z i (.v xs[i]) (by simp at E;simp[E]) mV;rw[Aup D]at this;simpa[SV.den] using this
 subst N;have R:∀ j,s.hp j≠none->j≠k->ρ j≠ρ k:=fun j C f e=>f (h.inj j k C (by rw[W];simp) e);refine⟨h.sz,fun d O=>?_,h.df.of fun r e _ hu F=>⟨e,hu,by rw[Ac _ _ (fun X=>by rw[X,V]at e;cases e)];exact F⟩,fun j b J=>?_,fun i j hi C he=>?_,⟨fun d j off O=>?_,fun i b j off hi F=>?_⟩,⟨h.gd.pu,fun g o A=>?_,fun g=>?_,h.gd.cl⟩,⟨h.gr.sz,h.gr.old,h.gr.us,fun g A F=>?_,h.gr.io,h.gr.dr⟩⟩
 ·have Q:s.tm d≠.junk:=SV.pub_junk.1 O;show a.tmps[d]?=some (((s.tm d).pub k (ρ k)).den ρ);rw[SV.pub_den];exact h.tm d Q
 ·by_cases f:j=k
  ·subst f;rw[Mi]at J;cases J
  rw[Jm _ f]at J;obtain⟨K,z,rfl⟩:=Axk.1 J;obtain⟨⟨L,f1,f2,f3⟩,f4,f5,f6⟩:=h.box j K z;refine⟨⟨L,f1,by simp[Blk.pub,f2],fun i x hi hx=>?_⟩,f4,f5,?_⟩
  ·simp only[Blk.pub,Aty]at hi;obtain⟨y,T,rfl⟩:=Axk.1 hi;rw[SV.pub_den];exact f3 i y T (SV.pub_junk.1 hx)
  rw[Ac _ _ (R j (by rw[z];simp) f)];exact f6
 ·have D:∀ j,(s.pub k (ρ k)).hp j≠none->s.hp j≠none:=by
   intro j C I;by_cases f:j=k
   ·subst f;exact C (Mi _ _ _)
   rw[Jm _ f,I]at C;exact C rfl
  exact h.inj i j (D i hi) (D j C) he
 ·obtain⟨D,E⟩:=SV.pub_p O;rw[Jm _ E];have:=h.lv.1 d j off D;intro I;exact this (by simpa using I)
 ·by_cases H:i=k
  ·subst H;rw[Mi]at hi;cases hi
  rw[Jm _ H]at hi;obtain⟨K,z,rfl⟩:=Axk.1 hi;simp only[Blk.pub,Ate]at F;obtain⟨y,T,U⟩:=F;obtain⟨rfl,E⟩:=SV.pub_p U;rw[Jm _ E];have:=h.lv.2 i K j off z T;intro I;exact this (by simpa using I)
 ·by_cases n:g=ρ k
  ·subst n;rw[Ab]at A;simp only[Atd]at A;subst A;exact V
  rw[Ac _ _ n]at A;exact h.gd.pm g o A
 ·by_cases n:g=ρ k
  ·subst n;exact .inl e5
  rw[Ac _ _ n];exact h.gd.ap g
 rw[Ac _ _ oV];exact h.gr.ms g A F
end rules
section rules2
variable {P:Program} [A7 P] {fn:Func} {Post:Bz} {st:List KI×S} {u m:PH}
def G.pub (k:Nat)(t:TypeId)(xs:List Value)(h:Gf (ctl P 100 st).1=true)(e:(ctl P 100 st).2.hp k=some ⟨t,xs.map SV.v⟩)
 (A:∀ g,u g=none->m g=none->G P fn Post ((ctl P 100 st).1,(ctl P 100 st).2.pub k g) u (m.upd g (.cells xs.toArray t (0,0)))):G P fn Post st u m:=by
 refine⟨Jq 100 st ?_⟩;rw[Sym.ofNo h];intro c ρ a w d f;obtain⟨_,_,n,z⟩:=f.box k _ e;have:=(A (ρ k) n z).out;rw[Sym.ofNo (by exact h)]at this;exact this c ρ a w d (f.pub e)
end rules2
end
section
variable {g:Nat}{x y:PH}
variable [Ca] [Df] [Pu]
def PH.or (x y:PH):PH:=fun g=>match x g with|some o=>some o|none=>y g
def PH.or_l {o:Obj}(h:x g=some o):x.or y g=some o:=by simp[PH.or,h]
def PH.or_r (h:x g=none):x.or y g=y g:=by simp[PH.or,h]
def B1.frameM {u mf mc t f:PH}{w w':World}(h:B1 u (mf.or mc) w)(A:Jt mf mc)(g1:B1 t f w')(g2:B8 u mc w t f w'):B1 t (mf.or f) w'/\B8 u (mf.or mc) w t (mf.or f) w':=by
 have n:∀ g o,mf g=some o->g<w.heap.size/\mc g=none/\w'.heap[g]?=some o/\t g=none:=by
  intro g o d;have v:=h.pm g o (PH.or_l d);have z:mc g=none:=(A g).resolve_left (by rw[d];simp);have j:=B0 v;refine⟨j,z,by rw[g2.old g j z];exact v,?_⟩;rw[g2.us g j];exact (h.ap g).resolve_right (by rw[PH.or_l d];simp)
 refine⟨⟨g1.pu,fun g o d=>?_,fun g=>?_,g1.cl⟩,⟨g2.sz,fun g d e=>?_,g2.us,fun g d e=>?_,g2.io,g2.dr⟩⟩
 ·cases hx:mf g with
  |some o'=>rw[PH.or_l hx]at d;cases d;exact (n g _ hx).2.2.1
  |none=>rw[PH.or_r hx]at d;exact g1.pm g o d
 ·cases hx:mf g with
  |some o'=>exact .inl (n g _ hx).2.2.2
  |none=>rw[PH.or_r hx];exact g1.ap g
 ·cases hx:mf g with
  |some o'=>rw[PH.or_l hx]at e;cases e
  |none=>rw[PH.or_r hx]at e;exact g2.old g d e
 cases hx:mf g with
 |some o'=>rw[PH.or_l hx]at e;cases e
 |none=>rw[PH.or_r hx]at e⊢;exact g2.ms g d e
section rules
variable {P:Program} [A7 P] {fn:Func} {Post:Bz} {st:List KI×S} {u m:PH}
def Rl (st:List KI×S):Bool:=match st.1 with
 |.reg _ _ false _::_=>true
 |.reg _ ops true (i::_)::_=>match ops[i]? with|some o=>Nh ops i o.op||Ja ops st.2|none=>false
 |_=>false
def Xg {j:Nat}{d:Array Oper}{e:Bool}{i:Nat}{l:List Nat}{k:List KI}{s:S}{o:Oper}(f:d[i]?=some o)(h:Rl (.reg j d e (i::l)::k,s)=true):e=false\/Nh d i o.op=true\/Ja d s=true\/Pu.b=true:=by
 cases e with
 |false=>exact .inl rfl
 |true =>
  right;have h:=(by simpa[Rl,f] using h:Nh d i o.op=true\/Ja d s=true);exact h.imp (fun x=>x) .inl
def G.bigN {V:Vk}{K:Value->PH->PH->Prop}(h:Al P (adv P st)=V)(I:V≠.other)(z:Rl (adv P st)=true)(L:∀ j E,A8 P j E=V->Ek E=false)
 (O:∀ j (o:Oper),A8 P j o.op=V->∀ w,B1 u m w->E2 P j o w fun v w'=>∃ f n,B1 f n w'/\B8 u m w f n w'/\K v f n)
 (k:∀ v f n,PH.le u f->K v f n->G P fn Post (nx (adv P st) v) f n):G P fn Post st u m:=by
 refine G.stp ?_;obtain⟨X,T,U,i,l,Y,s,o,e,D,N,J,R,Q,d,C⟩:=Kk h I;have t:=Xg D (e▸z);rw[e];refine⟨?_⟩;refine Ob.big (K:=K) D N J R Q (L _ _ d) (fun v f n W=>.inr t) (fun w A=>O _ o d w A) (fun v f n F H=>?_);have:=(k v f n F H).out;rw[C]at this;exact this
def G.callM (f:Nat)(args:List Value){mf mc:PH}{R:Value->PH->PH->Prop}(h:Al P (adv P st)=.call f args)(z:Rl (adv P st)=true)(T:∀ args w,(callFunc f args).run P w=.ok (.enter f args) w)(V:m=mf.or mc)(D:Jt mf mc)(c:Aj P f args u mc R)
 (k:∀ v j d,PH.le u j->R v j d->G P fn Post (nx (adv P st) v) j (mf.or d)):G P fn Post st u m:=by
 subst V;refine G.bigN (K:=fun v j E=>∃ d,E=mf.or d/\R v j d) h mV z En (fun L o n w t=>?_) (fun v j E N O=>?_)
 ·have C:B1 u mc w:=t.less (fun g o A=>by
   cases hx:mf g with
   |some o'=>have:=(D g).resolve_left (by rw[hx];simp);rw[this]at A;cases A
   |none=>rw[PH.or_r hx];exact A)
  refine J9 n T w _ (Calls.mono (c w C) fun e w' U=>?_);obtain⟨v,j,d,F,H,I,J⟩:=U;obtain⟨g1,g2⟩:=t.frameM D H I;exact⟨v,F,j,mf.or d,g1,g2,d,rfl,J⟩
 obtain⟨d,rfl,Q⟩:=O;exact k v j d N Q
end rules
end
def Hh (u:PH)(es:List Value)(rs:List (List (List UInt8))):Prop:=es.length=rs.length/\∀ (j:Nat) (r:List (List UInt8)),rs[j]?=some r->∃ a c,es[j]?=some (.slice a r.length c)/\Eh u (.slice a r.length c) r
def Hh.mono {u e:PH}{es:List Value}{d:List (List (List UInt8))}(h:Hh u es d)(n:PH.le u e):Hh e es d :=
 ⟨h.1,fun j r m=>by obtain⟨a,c,f,g⟩:=h.2 j r m;exact⟨a,c,f,Ad.mono g n⟩⟩
def Bw (u:PH)(v:Value)(rs:List (List (List UInt8))):Prop:=∃ es,Ad u v 1 es/\Hh u es rs
def Bw.mono {u f:PH}{v:Value}{e:List (List (List UInt8))}(h:Bw u v e)(d:PH.le u f):Bw f v e:=by
 obtain⟨es,g,j⟩:=h;exact⟨es,g.mono d,j.mono d⟩
def Bw.opn {u:PH}{v:Value}{d:List (List (List UInt8))}(h:Bw u v d):∃ a c,v=.slice a d.length c:=by
 obtain⟨es,e,f⟩:=h;obtain⟨a,c,rfl⟩:=e.opn;exact⟨a,c,by rw[f.1]⟩
def Bw.row {u:PH}{a:Option Addr}{n c j:Nat}{e:List (List (List UInt8))}{r:List (List UInt8)}(h:Bw u (.slice a n c) e)(z:e[j]?=some r) :
 ∃ b off d c',a=some ⟨b,off,none⟩/\ElP u b (off+j*1) (.slice d r.length c')/\Eh u (.slice d r.length c') r:=by
 obtain⟨es,t,v⟩:=h;obtain⟨d,c',f,g⟩:=v.2 j r z;obtain⟨b,off,rfl,m⟩:=t.at' f;exact⟨b,off,d,c',rfl,m,g⟩
def Ad9 {u:PH}{v:Value}{d:List (List (List UInt8))}{fid:Nat}{cap:List Value}(h:Bw u v d)(K:d.length<=1000000)
 (e:∀ args w,(callFunc fid args).run prog w=.ok (.enter fid args) w) (E:∀ r∈d,∀ g x,PH.le u g->Eh g x r->Fn0 prog fid (x::cap) g fun v _=>v=.bool false) :
 Fn0 prog 180 [v,.func (.func fid) #[] cap.toArray] u fun H _=>H=.int .i64 (-1):=by
 obtain⟨a,c,rfl⟩:=h.opn;refine Fn0.o func180<|G.l (ι:=Nat) (fun i=>[(0,sV a d.length c),(1,.v (.func (.func fid) #[] cap.toArray)),(7,iV d.length),(8,iV i)]) (fun _=>[])
  (fun i g z=>i<=d.length/\z=PH.mt) (fun i=>d.length-i) 0 ⟨oV,rfl⟩ ?_
 rintro J k D g z f ⟨I,rfl⟩;by_cases j:k<d.length
 ·refine G.lT k d.length ?_;have m:d[k]?=some d[k]:=As5 j;obtain⟨t,A,n,c',rfl,C,es⟩:=(h.mono f).row m;refine G.a t A d.length c k 1 oV<|G.lU none t (A+k*1) (.slice n d[k].length c') C<|G.call0 fid (.slice n d[k].length c'::cap) kV e (E d[k] (Ath j) g _ f es) ?_;rintro N L F rfl;exact G.i k<|G.b (D (k+1) _ _ _ cV (f.trans F) ⟨oV,rfl⟩ oV)
 exact G.lF k d.length<|G.r (.int .i64 (-1)) ⟨rfl,rfl⟩
def I6 {u:PH}{v:Value}{e:List (List (List UInt8))}{fid:Nat}{cap:List Value}(h:Bw u v e)(j:e.length<=1000000)
 (d:∀ args w,(callFunc fid args).run prog w=.ok (.enter fid args) w) (g:∀ r∈e,∀ f x,PH.le u f->Eh f x r->Fn0 prog fid (x::cap) f fun v _=>v=.bool false) :
 Fn0 prog 120 [v,.func (.func fid) #[] cap.toArray] u fun m _=>m=.bool false:=by
 obtain⟨a,c,rfl⟩:=h.opn;refine Fn0.o func120<|G.c call180 (Ad9 h j d g) ?_;rintro z t n rfl;exact G.hF (-1) 0<|G.r (.bool false) ⟨rfl,rfl⟩
section
variable {es:List Value}{u:PH}
def Oj (h:∀ e∈es,∃ a n c,e=.slice a n c):Ax 1 es:=by
 intro e f;obtain⟨a,n,c,rfl⟩:=h e f;exact⟨rfl,fun x d=>by simp[Value.cells]at d;subst d;rfl⟩
def Hh.snoc {f:List (List (List UInt8))}{a:Option Addr}{c:Nat}{r:List (List UInt8)}(h:Hh u es f)(t:Eh u (.slice a r.length c) r):Hh u (es++[.slice a r.length c]) (f++[r]):=by
 refine⟨by simp[h.1],fun j v d=>?_⟩;by_cases e:j<f.length
 ·rw[Atl e]at d;obtain⟨g,c',m,n⟩:=h.2 j v d;exact⟨g,c',by rw[Atl (by rw[h.1];exact e)];exact m,n⟩
 rw[At1 oV]at d;have:j-f.length=0:=by
  rcases At5 (j-f.length) with h0|h0
  ·exact h0
  rw[Att gV]at d;cases d
 rw[this]at d;simp at d;subst d;refine⟨a,c,?_,t⟩;rw[At1 (by rw[h.1];omega),h.1,this];rfl
def Ane {v:Value}{ts:List (List UInt8)}(h:Eh u v ts)(hl:ts.length<=1000000):Fn0 prog 50 [v] u fun v' A=>Bw A v' (ts.map fun t=>[t]):=by
 obtain⟨a,c,rfl⟩:=Ad.opn h;rw[Bm]at h⊢;refine Fn0.o func50<|G.l (ι:=Nat×List Value×(Option Addr×Nat×Nat)) (fun i=>[(3,sV i.2.2.1 i.2.2.2.1 i.2.2.2.2),(6,sV a ts.length c),(7,iV ts.length),(8,iV i.1)]) (fun _=>[])
  (fun i A N=>i.1<=ts.length/\Hh A i.2.1 ((ts.take i.1).map fun t=>[t])/\Ae PH.mt N (.slice i.2.2.1 i.2.2.2.1 i.2.2.2.2) 60 1 i.2.1) (fun i=>ts.length-i.1) (0,[],(none,0,0)) ⟨mV,⟨mV,fun j q E=>by simp at E⟩,Ae.nil _ _ _⟩ ?_
 rintro J ⟨k,es,⟨H,O,K⟩⟩ L A N m ⟨Z,hF,C⟩;simp only at Z hF C L;have D:=hF.1;rw[Ata,Atm]at D;by_cases F:k<ts.length
 ·refine G.lT k ts.length ?_;have n:ts[k]?=some ts[k]:=As5 F;obtain⟨I,P,rfl,V⟩:=Ad.at' (Ad.mono h m) (j:=k) (e:=.string (mkS ts[k])) (by simp[Bo,n]);refine G.a I P ts.length c k 1 oV<|G.lU none I (P+k*1) (.string (mkS ts[k])) V<|G.B 34 1 16 (.string (mkS [])) [.string (mkS ts[k])] (Dp [ts[k]]) ?_;intro g u2 l2 T;have Y:Eh u2 (.slice (some ⟨g,0,none⟩) 1 1) [ts[k]]:=⟨_,1,rfl,Atb _,fun j e E=>⟨g,0,rfl,T j e E⟩⟩;refine G.B 60 1 24 (.slice none 0 0) [.slice (some ⟨g,0,none⟩) 1 1] (Oj (by intro e f;simp at f;exact⟨_,_,_,f⟩)) ?_;intro W u3 z U;refine G.append 60 1 24 (.slice none 0 0) PH.mt es [.slice (some ⟨g,0,none⟩) 1 1] (.slice H O K) W 0 1 1 kV rfl rfl oV C U (Oj (by intro e f;simp at f;exact⟨_,_,_,f⟩)) rfl oV oV oV ?_;intro v4 m4 d;obtain⟨Q,R,rfl⟩:=d.shape;refine G.i k<|G.b (L (k+1,es++[Value.slice (some ⟨g,0,none⟩) 1 1],(Q,(es++[Value.slice (some ⟨g,0,none⟩) 1 1]).length,R)) _ _ _ cV ((m.trans l2).trans z) ⟨dV,?_,d⟩ dV);dsimp only;rw[At0,n,Atk];exact (hF.mono (l2.trans z)).snoc (r:=[ts[k]]) (Ad.mono Y z)
 have:k=ts.length:=oV;subst this;refine G.lF ts.length ts.length<|G.give PH.mt es _ kV C (fun _=>.inl rfl) ?_;intro u3 z X;rw[At9]at hF;exact G.r (.slice H O K) ⟨rfl,es,X,hF.mono z⟩
end
section
variable {u:PH}{x:Value}
def Bq (A:List (List Rat)):List (List (List UInt8)):=A.map fun r=>r.map Ap
def P4:Ap 0 = [48]:=by rw[Ap,if_pos (by rfl)];exact Ea
def U7:Ap 1 = [49]:=by rw[Ap,if_pos (by rfl)];exact G3
def Ang {r:List (List UInt8)}(h:Eh u x r)(d:r.length<=12):Fn0 prog 121 [x] u fun v _=>v=.bool false:=by
 obtain⟨a,c,rfl⟩:=Ad.opn h;rw[Bm];exact Fn0.o func121<|G.gF r.length 12<|G.r (.bool false) ⟨rfl,rfl⟩
def Aff {d:List Rat}(h:Eh u x (d.map Ap))(f:∀ q∈d,Tx q)(e:d.length<=1000000):Fn0 prog 123 [x] u fun v _=>v=.bool false:=by
 obtain⟨a,c,rfl⟩:=Ad.opn h;refine Fn0.o func123<|G.c call124 (Alm h f e) ?_;rintro m j g rfl;exact G.r (.bool false) ⟨rfl,rfl⟩
end
def FnR (P:Program)(f:FuncId)(args:List Value)(u mc:PH)(R:Value->PH->Prop):Prop:=Aj P f args u mc (fun v u' m'=>m'=mc/\R v u')
def C3 (mc:PH):PH.mt.or mc=mc:=by funext g;rfl
def Il (mc:PH):Jt PH.mt mc:=fun _=>.inl rfl
def Agf {u mc:PH}{x:Value}{r:List (List UInt8)}{g n:Nat}{t:TypeId}(h:Eh u x r)(f:r.length=n)(j:n<=12)(e:mc g=some (.cells #[.int .i64 n] t (0,0))) :
 FnR prog 122 [x,.pointer (some ⟨g,0,none⟩)] u mc fun v _=>v=.bool false:=by
 obtain⟨a,c,rfl⟩:=Ad.opn h;rw[Bm];refine Aj.o func122<|G.lM none g 0 (.int .i64 n) (fun i y d=>by
  match i,d with
  |0,d=>simp[Value.cells]at d;subst d;exact⟨_,_,_,e,rfl⟩) ?_
 exact G.nF r.length n<|G.r (.bool false) ⟨rfl,rfl⟩
def Adu {u mc:PH}{v:Value}{d:List (List (List UInt8))}{fid:Nat}{cap:List Value}(h:Bw u v d)(L:d.length<=1000000)
 (e:∀ args w,(callFunc fid args).run prog w=.ok (.enter fid args) w) (E:∀ r∈d,∀ g x,PH.le u g->Eh g x r->FnR prog fid (x::cap) g mc fun v _=>v=.bool false) :
 FnR prog 180 [v,.func (.func fid) #[] cap.toArray] u mc fun I _=>I=.int .i64 (-1):=by
 obtain⟨a,c,rfl⟩:=h.opn;refine Aj.o func180<|G.l (ι:=Nat) (fun i=>[(0,sV a d.length c),(1,.v (.func (.func fid) #[] cap.toArray)),(7,iV d.length),(8,iV i)]) (fun _=>[])
  (fun i g z=>i<=d.length/\z=mc) (fun i=>d.length-i) 0 ⟨oV,rfl⟩ ?_
 rintro J k D g z f ⟨K,rfl⟩;by_cases j:k<d.length
 ·refine G.lT k d.length ?_;have m:d[k]?=some d[k]:=As5 j;obtain⟨t,A,n,c',rfl,C,es⟩:=(h.mono f).row m;refine G.a t A d.length c k 1 oV<|G.lU none t (A+k*1) (.slice n d[k].length c') C<|G.callM fid (.slice n d[k].length c'::cap) kV kV e (C3 _).symm (Il _) (E d[k] (Ath j) g _ f es) ?_;rintro O N H F ⟨rfl,rfl⟩;rw[C3];exact G.i k<|G.b (D (k+1) _ _ _ cV (f.trans F) ⟨oV,rfl⟩ oV)
 exact G.lF k d.length<|G.r (.int .i64 (-1)) ⟨rfl,rfl⟩
def Nl {u mc:PH}{v:Value}{e:List (List (List UInt8))}{fid:Nat}{cap:List Value}(h:Bw u v e)(j:e.length<=1000000)
 (d:∀ args w,(callFunc fid args).run prog w=.ok (.enter fid args) w) (g:∀ r∈e,∀ f x,PH.le u f->Eh f x r->FnR prog fid (x::cap) f mc fun v _=>v=.bool false) :
 FnR prog 120 [v,.func (.func fid) #[] cap.toArray] u mc fun n _=>n=.bool false:=by
 obtain⟨a,c,rfl⟩:=h.opn;refine Aj.o func120<|G.callM _ _ kV kV call180 (C3 _).symm (Il _) (Adu h j d g) ?_;rintro A z m t ⟨rfl,rfl⟩;rw[C3];exact G.hF (-1) 0<|G.r (.bool false) ⟨rfl,rfl⟩
section
variable [Ca] [Df] [Pu]
section rules
variable {P:Program} [A7 P] {fn:Func} {Post:Bz} {st:List KI×S} {u m:PH}
def G.storeM (sz b off:Nat)(t:TypeId)(cs:List Value)(e:Value)(h:Al P (adv P st)=.store (some sz) (.pointer (some ⟨b,off,none⟩)) e)(O:m b=some (.cells cs.toArray t (0,0)))(Q:∀ x∈cs,Bh x=true)(hl:off+sz<=cs.length)(F:e.cells.size=sz)(E:e.cells.toList.all Bh=true)
 (k:G P fn Post (nx (adv P st) undef) u (m.upd b (.cells (cs.take off++e.cells.toList++cs.drop (off+sz)).toArray t (0,0)))):G P fn Post st u m:=by
 refine G.big (K:=fun U T R=>T=u/\U=undef/\R=m.upd b (.cells (cs.take off++e.cells.toList++cs.drop (off+sz)).toArray t (0,0))) h mV (fun g op J=>?_) (.inr fun g op J=>?_) (fun g o z w A=>?_) (fun U T R _ Z=>?_)
 ·obtain⟨L,X,Y,rfl,_⟩:=Gk J;rfl
 ·obtain⟨L,X,Y,rfl,_⟩:=Gk J;rfl
 ·obtain⟨L,X,Y,N,V,W,ht⟩:=Gk z;obtain⟨D,a0,C,pos,f,j⟩:=o;simp only at N;subst N;rw[Atx]at E;have I:=A.pm b _ O;have v:=run_storeCells_at P b off t e.cells.toList 0 cs.toArray w I (by simp[F];omega) (fun x d=>Ic (E x d));simp only[Avb,Awc,F,Av4]at v;have n:∀ x∈(cs.take off++e.cells.toList++cs.drop (off+sz)).toArray.toList,Bh x=true:=by
   intro x d;simp only[Av4,Ati]at d;rcases d with (d|d)|d
   ·exact Q x (Avd d)
   ·exact E x d
   exact Q x (Avz d)
  obtain⟨g1,g2⟩:=A.setM O n;unfold E2;have H:(execOp g ⟨D,.store L X Y,C,pos,f,j⟩).run P w=.ok .skip (w.setRow b (cs.take off++e.cells.toList++cs.drop (off+sz)).toArray):=by
   simp only[execOp,V,W];simp only[Au1]at v⊢;simp[Instr.storeAt,Instr.sureAddr,storeVar,Be ht,F,v]
  rw[H];exact⟨u,_,g1,g2,rfl,rfl,rfl⟩
 obtain⟨rfl,rfl,rfl⟩:=Z;exact k
end rules
end
section
variable {a:Act}{c:Cx}{s:S}{w:World}{ρ:Nat->Nat}
variable [Ca] [Pu]
section rules
variable {P:Program} [A7 P] {fn:Func} {Post:Bz} {st:List KI×S} {u m:PH}
section based
variable [Df]
def Rel.less {c:Cx}{s:S}{ρ:Nat->Nat}{a:Act}{w:World}(h:Rel c s u m ρ a w){f:PH}(t:PH.le f m):Rel c s u f ρ a w:=by
 have n:∀ g,m g=none->f g=none:=fun g d=>by
  cases e:f g with
  |none=>rfl
  |some o=>rw[t g o e]at d;cases d
 refine⟨h.sz,h.tm,h.df.of fun r e _ E j=>⟨e,E,n _ j⟩,fun k b D=>?_,h.inj,h.lv,h.gd.less t,⟨h.gr.sz,h.gr.old,h.gr.us,fun g d j=>n g (h.gr.ms g d j),h.gr.io,h.gr.dr⟩⟩;obtain⟨v,z,A,C⟩:=h.box k b D;exact⟨v,z,A,n _ C⟩
def G.drop (f:PH)(h:Gf (ctl P 100 st).1=true)(g:PH.le f m)(k:G P fn Post (ctl P 100 st) u f):G P fn Post st u m:=by
 refine⟨Jq 100 st ?_⟩;have e:=k.out;rw[Sym.ofNo h]at e⊢;intro c ρ a w d j;exact e c ρ a w d (j.less g)
def Aj3 (P:Program)(s:S)(m:PH)(r:ResultVar)(v:Value):Prop :=
 T0 P s r=some v\/∃ a t g off kd,r=.cell a t/\s.tm a=.v (.pointer (some ⟨g,off,none⟩))/\Tm P t=some kd/\Zz kd v=true/\ElP m g off v
def Xz (P:Program)(s:S)(m:PH):List ResultVar->List Value->Prop
 |[],[]=>True
 |r::rs,v::vs=>Aj3 P s m r v/\Xz P s m rs vs
 |_,_=>False
def Ads (d:Rel c s u m ρ a w){r:ResultVar}{x:Value}(h:Aj3 P s m r x):(Km a.tmps r).run P w=.ok x w:=by
 rcases h with h|⟨p,t,g,off,v,rfl,e,f,j,n⟩
 ·exact Uc d h
 have:=d.tm p (by rw[e];simp);rw[e]at this;simp[Km,this,SV.den,asAddr,Nu f j n d.gd.pm]
def Tc (f:Rel c s u m ρ a w){l:List Value}(h:Xz P s m fn.results.toList l):(results fn a.tmps).run P w=.ok (Sc l) w:=by
 have key:∀ (d:List ResultVar) (l:List Value),Xz P s m d l->(d.mapM (Km a.tmps)).run P w=.ok l w:=by
  intro d;induction d with
  |nil=>intro l h;cases l with|nil=>simp|cons=>exact h.elim
  |cons r d ih =>
   intro l h;cases l with
   |nil=>exact h.elim
   |cons x xs =>
    rw[A1l];simp only[Sem.run_bind,Ads f h.1,Result.andThen_ok,ih xs h.2,Sem.run_pure]
 have e:results fn a.tmps=(do let vs <-fn.results.mapM (Km a.tmps);pure (if h:vs.size=1 then vs[0] else .tuple vs)):=by
  unfold results;rfl
 rw[e,<-Ays (xs:=fn.results),A0t];simp only[Sem.run_bind,Sem.run_map,key _ l h,Result.andThen_ok,Sem.run_pure]
 congr 1
 match l with
 |[]=>rfl
 |[x]=>rfl
 |x::y::l=>rfl
def Apm (st:List KI×S):Bool:=match st.1 with
 |.code .ret::_=>true
 |[]=>true
 |_=>false
end based
def G.retM (l:List Value)(n:PH)(h:Apm (adv P st)=true)(j:Xz P (adv P st).2 m fn.results.toList l)(f:PH.le n m)(hp:Post.post (Sc l) u n):G P fn Post st u m:=by
 refine G.stp ?_;generalize adv P st=st' at h j;obtain⟨t,s⟩:=st';unfold Apm at h;simp only at h;split at h
 ·refine⟨?_⟩;intro c ρ a w g d;exact wp_ret (Kc (d.ends fun w' e=>⟨Tc (a:=⟨a.tmps,[]⟩) e j,_,_,_,rfl,(e.less f).gd,(e.less f).gr,hp⟩).1 _)
 ·refine⟨?_⟩;intro c ρ a w g d;exact (d.ends fun w' e=>⟨Tc (a:=⟨a.tmps,[]⟩) e j,_,_,_,rfl,(e.less f).gd,(e.less f).gr,hp⟩).2
 cases h
def PH.mt_le (m:PH):PH.le PH.mt m:=fun _ _ h=>by cases h
end rules
end
section
variable {A:List (List Rat)}
def Ba (A:List (List Rat)):(Bq A).length=A.length:=by simp[Bq]
def Es {j:Nat}{r:List Rat}(h:A[j]?=some r):(Bq A)[j]?=some (r.map Ap):=by simp[Bq,h]
def Ph {r:List (List UInt8)}(h:r∈Bq A):∃ q∈A,r=q.map Ap:=by
 simp only[Bq,Ate]at h;obtain⟨q,d,rfl⟩:=h;exact⟨q,d,rfl⟩
def Rs (m:PH)(g:Nat)(z:Int)(t:TypeId):ElP (m.upd g (.cells [Value.int .i64 z].toArray t (0,0))) g 0 (.int .i64 z):=fun i y d=>by
 match i,d with
 |0,d=>simp[Value.cells]at d;subst d;exact⟨_,_,_,Ab _ _ _,rfl⟩
def Aq8 {u:PH}{v:Value}{k:Nat}(h:Bw u v (Bq A))(U:A.length<=12)(H:k<=12)(n:∀ r∈A,r.length=k)(h0:A.length=0->k=0)(hT:∀ r∈A,∀ q∈r,Tx q) :
 Fn0 prog 55 [v] u fun Q _=>Q=.tuple #[.int .i64 A.length,.int .i64 k,.int .i64 0]:=by
 obtain⟨a,c,rfl⟩:=h.opn;rw[Ba]at h⊢;refine Fn0.o func55<|G.gF A.length 12<|G.c call120 (I6 (fid:=121) (cap:=[]) h (by rw[Ba];omega) call121 (fun r d z x _ e=>?_)) ?_
 ·obtain⟨q,f,rfl⟩:=Ph d;exact Ang e (by rw[Ata,n q f];omega)
 rintro W V t rfl;have j:∀ r∈Bq A,r.length=k:=fun r d=>by
  obtain⟨q,f,rfl⟩:=Ph d;rw[Ata,n q f]
 by_cases m:0<A.length
 ·refine G.gT A.length 0 ?_;have C:A[0]?=some A[0]:=As5 m;obtain⟨E,I,J,c',rfl,F,es⟩:=(h.mono t).row (Es C);rw[Ata,n _ (Ath m)]at F;refine G.a E I A.length c 0 1 oV<|G.lU none E (I+0*1) (.slice J k c') F<|G.pub 1 3 [.int .i64 k] kV kV ?_;intro g L K;refine G.callM _ _ kV kV call120 (C3 _).symm (Il _) (Nl (fid:=122) (cap:=[.pointer (some ⟨g,0,none⟩)]) (h.mono t) (by rw[Ba];omega) call122 (fun r d z x _ e=>Agf e (j r d) H (Ab _ _ _))) ?_;rintro R O D l2 ⟨rfl,rfl⟩;rw[C3];refine G.c call120 (I6 (fid:=123) (cap:=[]) (h.mono (t.trans l2)) (by rw[Ba];omega) call123 (fun r d z x _ e=>?_)) ?_
  ·obtain⟨q,f,rfl⟩:=Ph d;exact Aff e (hT q f) (by rw[n q f];omega)
  rintro T P N rfl;exact G.lM none g 0 (.int .i64 k) (Rs _ _ _ _)<|G.storeM 1 g 0 3 [.int .i64 k] (.int .i64 k) kV (Ab _ _ _) (fun x e=>by simp at e;subst e;rfl) mV rfl rfl<|G.retM [.int .i64 A.length,.int .i64 k,.int .i64 0] PH.mt kV ⟨.inl kV,.inr ⟨3,3,g,0,none,rfl,kV,kV,rfl,Rs _ _ _ _⟩,.inl kV,trivial⟩ (PH.mt_le _) ⟨rfl,rfl⟩
 refine G.gF A.length 0 ?_;obtain rfl:k=0:=h0 oV;refine G.pub 1 3 [.int .i64 (0:Nat)] kV kV ?_;intro g L K;refine G.callM _ _ kV kV call120 (C3 _).symm (Il _) (Nl (fid:=122) (cap:=[.pointer (some ⟨g,0,none⟩)]) (h.mono t) (by rw[Ba];omega) call122 (fun r d z x _ e=>Agf e (j r d) H (Ab _ _ _))) ?_;rintro R O D l2 ⟨rfl,rfl⟩;rw[C3];refine G.c call120 (I6 (fid:=123) (cap:=[]) (h.mono (t.trans l2)) (by rw[Ba];omega) call123 (fun r d z x _ e=>?_)) ?_
 ·obtain⟨q,f,rfl⟩:=Ph d;exact Aff e (hT q f) (by rw[n q f];omega)
 rintro T P N rfl;exact G.lM none g 0 (.int .i64 (0:Nat)) (Rs _ _ _ _)<|G.storeM 1 g 0 3 [.int .i64 (0:Nat)] (.int .i64 (0:Nat)) kV (Ab _ _ _) (fun x e=>by simp at e;subst e;rfl) mV rfl rfl<|G.retM [.int .i64 A.length,.int .i64 (0:Nat),.int .i64 0] PH.mt kV ⟨.inl kV,.inr ⟨3,3,g,0,none,rfl,kV,kV,rfl,Rs _ _ _ _⟩,.inl kV,trivial⟩ (PH.mt_le _) ⟨rfl,rfl⟩
end
section
variable {A:List (List Rat)}{i j:Nat}{u:PH}{v:Value}
def Bw.cell {a:Option Addr}{n c i j:Nat}(h:Bw u (.slice a n c) (Bq A))(hi:i<A.length)(t:j<A[i].length) :
 ∃ b off b' d c',a=some ⟨b,off,none⟩/\ElP u b (off+i*1) (.slice (some ⟨b',d,none⟩) A[i].length c')/\ElP u b' (d+j*1) (.string (mkS (Ap A[i][j]))):=by
 obtain⟨b,off,z,c',rfl,f,g⟩:=h.row (Es (As5 hi));rw[Ata]at f g;obtain⟨b',d,rfl,m⟩:=Ad.at' g (j:=j) (e:=.string (mkS (Ap A[i][j]))) (by simp[Bo,As5 t]);exact⟨b,off,b',d,c',rfl,f,m⟩
structure Sq (A:List (List Rat)):Prop where
 le:A.length<=12
 row:∀ r∈A,r.length=A.length
 tx:∀ r∈A,∀ q∈r,Tx q
def Sq.len (h:Sq A)(hi:i<A.length):A[i].length=A.length:=h.row _ (Ath hi)
def Sq.tx' (h:Sq A)(hi:i<A.length)(d:j<A[i].length):Tx A[i][j]:=h.tx _ (Ath hi) _ (Ath d)
def Aan (A:List (List Rat)):Prop:=∀ (i k:Nat) (hi:i<A.length) (hk:k<A.length) (h1:k<A[i].length) (h2:i<A[k].length),A[i][k]=A[k][i]
def Ye (h:Bw u v (Bq A))(d:Sq A):Fn0 prog 55 [v] u fun e _=>e=.tuple #[.int .i64 A.length,.int .i64 A.length,.int .i64 0] :=
 Aq8 h d.le d.le d.row (fun h=>h) d.tx
def Aem (h:Bw u v (Bq A))(n:Sq A)(X:Aan A):Fn0 prog 106 [v] u fun v' _=>v'=.bool true:=by
 obtain⟨a,c,rfl⟩:=h.opn;rw[Ba]at h⊢;have W:=n.le;refine Fn0.o func106<|G.c call55 (Ye h n) ?_;rintro v1 u1 Y rfl;refine G.nF 0 0<|G.nF A.length A.length<|G.l (ι:=Nat) (fun i=>[(0,sV a A.length c),(22,iV A.length),(23,iV i)]) (fun _=>[])
  (fun i Z D=>i<=A.length/\D=PH.mt) (fun i=>A.length-i) 0 ⟨oV,rfl⟩ ?_
 rintro J i V u2 m2 l2 ⟨hi,rfl⟩;by_cases g:i<A.length
 ·refine G.lT i A.length<|G.l (ι:=Nat) (fun k=>[(0,sV a A.length c),(22,iV A.length),(23,iV i),(6,iV i),(26,iV i),(27,iV k)]) (fun _=>[])
   (fun k Z D=>k<=i/\D=PH.mt) (fun k=>i-k) 0 ⟨oV,rfl⟩ ?_
  rintro J2 k z u3 m3 C ⟨hk,rfl⟩;by_cases I:k<i
  ·refine G.lT k i ?_;have f:k<A.length:=oV;have e:k<A[i].length:=by rw[n.len g];omega
   have d:i<A[k].length:=by rw[n.len f];omega
   have H:=h.mono (Y.trans (l2.trans C));obtain⟨m,t,E,K,N,rfl,Q,R⟩:=H.cell g e;refine G.a m t A.length c i 1 oV<|G.lU none m (t+i*1) _ Q<|G.a E K A[i].length N k 1 e<|G.lU none E (K+k*1) _ R ?_;obtain⟨b3,o3,F,L,O,P,T,U⟩:=H.cell f d;cases P;exact G.a m t A.length c k 1 oV<|G.lU none m (t+k*1) _ T<|G.a F L A[k].length O i 1 d<|G.lU none F (L+i*1) _ U<|G.y (Ap A[i][k]) (Ap A[k][i]) (by rw[X i k g f e d])<|G.i k<|G.b (z (k+1) _ _ _ cV C ⟨oV,rfl⟩ oV)
  exact G.lF k i<|G.i i<|G.b (V (i+1) _ _ _ cV (l2.trans C) ⟨oV,rfl⟩ oV)
 exact G.lF i A.length<|G.r (.bool true) ⟨rfl,rfl⟩
def V1 (h:Bw u v (Bq A))(d:Sq A)(e:Aan A):Fn0 prog 46 [v] u fun g _=>g=.int .i64 0:=by
 obtain⟨a,c,rfl⟩:=h.opn;rw[Ba]at h⊢;refine Fn0.o func46<|G.c call55 (Ye h d) ?_;rintro t m f rfl;refine G.eT 0 0<|G.c call106 (Aem (h.mono f) d e) ?_;rintro z n l2 rfl;exact G.r (.int .i64 0) ⟨rfl,rfl⟩
end
end Go.Proofs.YtnafchoihfnkeaaGreatDoor
