/- Parts of one proof, joined by a program. -/
import Derived.Test.YtemmheaocgmebaaGreatDoorR04
import Derived.Shelf.Strings.Builder1
import Derived.Shelf.Strings.Builder2
import Derived.Shelf.Small.Bits
import Derived.Shelf.Small.Wraps
import Derived.Shelf.Strings.BuilderF
import Derived.Shelf.Strings.BuilderK
import Derived.Shelf.Strings.Builder2Cap
import Derived.Shelf.Strconv.Itoa0
import Derived.Shelf.Strconv.Itoa1
import Derived.Shelf.LaysM
import Derived.Shelf.Strconv.Itoa2
import Derived.Shelf.Strconv.Itoa3
import Derived.Shelf.Strconv.Lower
import Derived.Shelf.Strconv.ParseUint10
import Derived.Shelf.Strconv.ParseUintEmpty
import Derived.Shelf.Strconv.ParseUint10b64
import Derived.Shelf.Strconv.ParseUint10b32
import Derived.Shelf.Strconv.ParseUint10b16
import Derived.Shelf.Strconv.ParseUint10b8
import Derived.Shelf.Strconv.ParseUint10At
import Derived.Ground.MpProg
import Derived.Shelf.Pu.ParseUintPublic10
import Derived.Shelf.Strings.Search1
import Derived.Shelf.Strings.Search2
import Derived.Shelf.Strings.Cut
import Derived.Shelf.Strings.Shaped
import Derived.Shelf.Strings.Prefix
import Derived.Shelf.Bits.Mul64
import Derived.Shelf.Strings.Repeat
import Derived.Shelf.Strings.BuilderCap
import Derived.Test.YtemmheaocgmebaaGreatDoorProg
import Derived.Lib.AppendIntMem
import Derived.Lib.AtoiErrMem
import Derived.Lib.ConvBytes
set_option linter.defProp false
set_option linter.unusedVariables false
set_option linter.unusedSimpArgs false
set_option linter.unusedSectionVars false
set_option maxHeartbeats 16000000
namespace Go.Proofs.YtemmheaocgmebaaGreatDoor
open Go.Proofs.Tryz
open Go.RowKit
def A5n:=@Option.map_eq_some_iff
def A6y:=@Array.size_replicate
def A6a:=@Option.isSome_iff_exists
end Go.Proofs.YtemmheaocgmebaaGreatDoor
section
namespace Go.Proofs
open Go.Shelf
def Tryz.lays169_ren:Go.Shelf.Ren:=⟨fun|169=>255|n=>n,fun|70=>292|9=>9|0=>0|72=>294|37=>263|127=>326|3=>3|5=>5|n=>n,fun|n=>n⟩
theorem Tryz.lays169:Go.Proofs.Lays.n169 Tryz.prog Tryz.lays169_ren:={
 mixed:=by kernel_rfl
 f169:=Tryz.func255.trans (congrArg some (by kernel_rfl))
 t0:=Tryz.underlying0
 a0:=Tryz.isAgg0
 z0:=Tryz.sizeOf0
 v0:=Tryz.zeroValue0
 t3:=Tryz.underlying3
 a3:=Tryz.isAgg3
 z3:=Tryz.sizeOf3
 v3:=Tryz.zeroValue3
 t9:=Tryz.underlying9
 a9:=Tryz.isAgg9
 z9:=Tryz.sizeOf9
 v9:=Tryz.zeroValue9
 t37:=Tryz.underlying263
 a37:=Tryz.isAgg263
 z37:=Tryz.sizeOf263
 v37:=Tryz.zeroValue263
 t70:=Tryz.underlying292
 a70:=Tryz.isAgg292
 z70:=Tryz.sizeOf292
 v70:=Tryz.zeroValue292
 t72:=Tryz.underlying294
 a72:=Tryz.isAgg294
 z72:=Tryz.sizeOf294
 v72:=Tryz.zeroValue294
 t127:=Tryz.underlying326
 a127:=Tryz.isAgg326
 z127:=Tryz.sizeOf326
 v127:=Tryz.zeroValue326 }
theorem Tryz.Builder_Extra_169:Builder.Extra Tryz.prog Tryz.lays169_ren:={
 sizeBuilder:=by kernel_rfl
 liesBuilder:=by kernel_rfl
 t5:=Tryz.underlying5
 a5:=Tryz.isAgg5
 z5:=Tryz.sizeOf5
 v5:=Tryz.zeroValue5
 infoByte:=by kernel_rfl
 cellsByte:=by kernel_rfl
 sizeByte:=by kernel_rfl
 neB5:=by decide }
open Go.RowKit in
theorem Tryz.Builder_String (B b:Nat)(l:List UInt8)(w:World)(h:Lib.IsBuilder 294 5 B b (Lib.byteCells l) w)(h0:l≠[]) :
 Calls Tryz.prog 255 #[.pointer (some ⟨b,0,none⟩)] w fun e w'=>e=.returned (.string ⟨l.toArray⟩)/\Below B w w':=Any.Builder_String Tryz.lays169 Tryz.Builder_Extra_169 B b l w h h0
def Tryz.lays210_ren:Go.Shelf.Ren:=⟨fun|210=>277|206=>308|n=>n,fun|9=>9|4=>4|3=>3|n=>n,fun|n=>n⟩
def Tryz.lays103_ren:Go.Shelf.Ren:=⟨fun|103=>248|210=>277|206=>308|n=>n,fun|9=>9|4=>4|24=>282|3=>3|n=>n,fun|n=>n⟩
theorem Tryz.lays103:Go.Proofs.Lays.n103 Tryz.prog Tryz.lays103_ren:={
 mixed:=by kernel_rfl
 f103:=Tryz.func248.trans (congrArg some (by kernel_rfl))
 f206:=Tryz.func308.trans (congrArg some (by kernel_rfl))
 f210:=Tryz.func277.trans (congrArg some (by kernel_rfl))
 t3:=Tryz.underlying3
 a3:=Tryz.isAgg3
 z3:=Tryz.sizeOf3
 v3:=Tryz.zeroValue3
 t4:=Tryz.underlying4
 a4:=Tryz.isAgg4
 z4:=Tryz.sizeOf4
 v4:=Tryz.zeroValue4
 t9:=Tryz.underlying9
 a9:=Tryz.isAgg9
 z9:=Tryz.sizeOf9
 v9:=Tryz.zeroValue9
 t24:=Tryz.underlying282
 a24:=Tryz.isAgg282
 z24:=Tryz.sizeOf282
 v24:=Tryz.zeroValue282 }
open Go.RowKit in
theorem Tryz.strings_CutPrefix (s p:ByteArray)(w:World) :
 Calls Tryz.prog 248 #[.string s,.string p] w fun e w'=>e=.returned (.tuple #[.string ⟨(Lib.trimPrefix s.data.toList p.data.toList).toArray⟩,.bool (Lib.hasPrefix s.data.toList p.data.toList)])/\w'=w:=Any.strings_CutPrefix Tryz.lays103 s p w
def Tryz.lays283_ren:Go.Shelf.Ren:=⟨fun|283=>282|n=>n,fun|3=>3|9=>9|4=>4|n=>n,fun|n=>n⟩
theorem Tryz.lays283:Go.Proofs.Lays.n283 Tryz.prog Tryz.lays283_ren:={
 mixed:=by kernel_rfl
 f283:=Tryz.func282.trans (congrArg some (by kernel_rfl))
 t3:=Tryz.underlying3
 a3:=Tryz.isAgg3
 z3:=Tryz.sizeOf3
 v3:=Tryz.zeroValue3
 t4:=Tryz.underlying4
 a4:=Tryz.isAgg4
 z4:=Tryz.sizeOf4
 v4:=Tryz.zeroValue4
 t9:=Tryz.underlying9
 a9:=Tryz.isAgg9
 z9:=Tryz.sizeOf9
 v9:=Tryz.zeroValue9 }
open Go.Lib in
theorem Tryz.internal_strconv_small (i:Nat)(h:i<100)(w:World) :
 Calls Tryz.prog 282 #[.int .i64 i] w fun e w'=>e=.returned (.string ⟨(Lib.decDigits i).toArray⟩)/\w'=w:=Any.internal_strconv_small Tryz.lays283 i h w
def Tryz.laysM284_ren:Go.Shelf.Ren:=⟨fun|284=>283|129=>316|317=>315|318=>317|n=>n,fun|53=>246|3=>3|212=>343|0=>0|4=>4|46=>288|5=>5|9=>9|n=>n,fun|17=>1|n=>n⟩
theorem Tryz.laysM284:Go.Proofs.LaysM.n284 Tryz.prog Tryz.laysM284_ren:={
 mixed:=by kernel_rfl
 f129:=Tryz.func316.trans (congrArg some (by kernel_rfl))
 f284:=Tryz.func283.trans (congrArg some (by kernel_rfl))
 f317:=Tryz.func315.trans (congrArg some (by kernel_rfl))
 f318:=Tryz.func317.trans (congrArg some (by kernel_rfl))
 t0:=Tryz.underlying0
 a0:=Tryz.isAgg0
 z0:=Tryz.sizeOf0
 v0:=Tryz.zeroValue0
 t3:=Tryz.underlying3
 a3:=Tryz.isAgg3
 z3:=Tryz.sizeOf3
 v3:=Tryz.zeroValue3
 t4:=Tryz.underlying4
 a4:=Tryz.isAgg4
 z4:=Tryz.sizeOf4
 v4:=Tryz.zeroValue4
 t5:=Tryz.underlying5
 a5:=Tryz.isAgg5
 z5:=Tryz.sizeOf5
 v5:=Tryz.zeroValue5
 t9:=Tryz.underlying9
 a9:=Tryz.isAgg9
 z9:=Tryz.sizeOf9
 v9:=Tryz.zeroValue9
 t46:=Tryz.underlying288
 a46:=Tryz.isAgg288
 z46:=Tryz.sizeOf288
 v46:=Tryz.zeroValue288
 t53:=Tryz.underlying246
 a53:=Tryz.isAgg246
 z53:=Tryz.sizeOf246
 v53:=Tryz.zeroValue246
 t212:=Tryz.underlying343
 a212:=Tryz.isAgg343
 z212:=Tryz.sizeOf343
 v212:=Tryz.zeroValue343
 g17:=by kernel_rfl
 i0:=by kernel_rfl
 i3:=by kernel_rfl
 i4:=by kernel_rfl
 i5:=by kernel_rfl
 i9:=by kernel_rfl
 i46:=by kernel_rfl
 i53:=by kernel_rfl
 i212:=by kernel_rfl
 m17:=by kernel_rfl }
open Go.Lib in
theorem Tryz.internal_strconv_numDigits (u:Nat)(h1:1<=u)(h2:u<18446744073709551616)(w:World)(htab:Lib.TabIs Tryz.prog w "internal/strconv.uint64pow10" .u64 Lib.pow10Tab) :
 Calls Tryz.prog 283 #[.int .u64 u] w fun e w'=>e=.returned (.int .i64 (Lib.nDigits u))/\w'=w:=Any.internal_strconv_numDigits Tryz.laysM284 u h1 h2 w htab
def Tryz.lays285_ren:Go.Shelf.Ren:=⟨fun|285=>284|n=>n,fun|37=>263|53=>246|3=>3|4=>4|51=>314|9=>9|5=>5|0=>0|n=>n,fun|n=>n⟩
theorem Tryz.lays285:Go.Proofs.Lays.n285 Tryz.prog Tryz.lays285_ren:={
 mixed:=by kernel_rfl
 f285:=Tryz.func284.trans (congrArg some (by kernel_rfl))
 t0:=Tryz.underlying0
 a0:=Tryz.isAgg0
 z0:=Tryz.sizeOf0
 v0:=Tryz.zeroValue0
 t3:=Tryz.underlying3
 a3:=Tryz.isAgg3
 z3:=Tryz.sizeOf3
 v3:=Tryz.zeroValue3
 t4:=Tryz.underlying4
 a4:=Tryz.isAgg4
 z4:=Tryz.sizeOf4
 v4:=Tryz.zeroValue4
 t5:=Tryz.underlying5
 a5:=Tryz.isAgg5
 z5:=Tryz.sizeOf5
 v5:=Tryz.zeroValue5
 t9:=Tryz.underlying9
 a9:=Tryz.isAgg9
 z9:=Tryz.sizeOf9
 v9:=Tryz.zeroValue9
 t37:=Tryz.underlying263
 a37:=Tryz.isAgg263
 z37:=Tryz.sizeOf263
 v37:=Tryz.zeroValue263
 t51:=Tryz.underlying314
 a51:=Tryz.isAgg314
 z51:=Tryz.sizeOf314
 v51:=Tryz.zeroValue314
 t53:=Tryz.underlying246
 a53:=Tryz.isAgg246
 z53:=Tryz.sizeOf246
 v53:=Tryz.zeroValue246 }
open Go.RowKit Go.Sort Go.Lib in
theorem Tryz.internal_strconv_formatBase10 (blk off cap:Nat)(u:Nat)(d:Array UInt8)(w:World)(hH:Holds (fun (b:UInt8)=>Value.int .u8 (b.toNat:Int)) w blk off d)(hu:u<10^d.size)(hu64:u<18446744073709551616)(hsz:d.size<4611686018427387904) :
 Calls Tryz.prog 284 #[.slice (some ⟨blk,off,none⟩) d.size cap,.int .u64 u] w fun e w' =>
  e=.returned (.tuple #[])/\∃ (n v':Nat) (dk:Array UInt8),w'=(putRow (fun (b:UInt8)=>Value.int .u8 (b.toNat:Int)) w blk off dk).drewN n/\FmtInv d.size u 0 v' dk:=Any.internal_strconv_formatBase10 Tryz.lays285 blk off cap u d w hH hu hu64 hsz
def Tryz.laysPu14_ren:Go.Shelf.Ren:=⟨fun|14=>249|16=>278|17=>279|19=>309|20=>310|21=>311|22=>312|23=>313|24=>314|25=>334|27=>336|26=>335|28=>345|29=>347|30=>282|31=>283|32=>284|33=>285|35=>316|34=>315|36=>317|37=>318|38=>319|39=>337|40=>338|n=>n,fun|9=>9|3=>3|22=>246|24=>285|25=>286|4=>4|34=>337|5=>5|36=>288|37=>263|0=>0|39=>339|21=>21|44=>359|47=>326|50=>369|48=>367|2=>2|52=>320|55=>323|59=>343|60=>314|20=>20|61=>344|65=>370|66=>371|67=>212|n=>n,fun|0=>2|1=>3|2=>1|3=>4|4=>5|n=>n⟩
theorem Tryz.laysPu14:Go.Proofs.LaysPu.n14 Tryz.prog Tryz.laysPu14_ren:={
 mixed:=by kernel_rfl
 f14:=Tryz.func249.trans (congrArg some (by kernel_rfl))
 f16:=Tryz.func278.trans (congrArg some (by kernel_rfl))
 f17:=Tryz.func279.trans (congrArg some (by kernel_rfl))
 f19:=Tryz.func309.trans (congrArg some (by kernel_rfl))
 f20:=Tryz.func310.trans (congrArg some (by kernel_rfl))
 f21:=Tryz.func311.trans (congrArg some (by kernel_rfl))
 f22:=Tryz.func312.trans (congrArg some (by kernel_rfl))
 f23:=Tryz.func313.trans (congrArg some (by kernel_rfl))
 f24:=Tryz.func314.trans (congrArg some (by kernel_rfl))
 f25:=Tryz.func334.trans (congrArg some (by kernel_rfl))
 f26:=Tryz.func335.trans (congrArg some (by kernel_rfl))
 f27:=Tryz.func336.trans (congrArg some (by kernel_rfl))
 f28:=Tryz.func345.trans (congrArg some (by kernel_rfl))
 f29:=Tryz.func347.trans (congrArg some (by kernel_rfl))
 f30:=Tryz.func282.trans (congrArg some (by kernel_rfl))
 f31:=Tryz.func283.trans (congrArg some (by kernel_rfl))
 f32:=Tryz.func284.trans (congrArg some (by kernel_rfl))
 f33:=Tryz.func285.trans (congrArg some (by kernel_rfl))
 f34:=Tryz.func315.trans (congrArg some (by kernel_rfl))
 f35:=Tryz.func316.trans (congrArg some (by kernel_rfl))
 f36:=Tryz.func317.trans (congrArg some (by kernel_rfl))
 f37:=Tryz.func318.trans (congrArg some (by kernel_rfl))
 f38:=Tryz.func319.trans (congrArg some (by kernel_rfl))
 f39:=Tryz.func337.trans (congrArg some (by kernel_rfl))
 f40:=Tryz.func338.trans (congrArg some (by kernel_rfl))
 t0:=Tryz.underlying0
 a0:=Tryz.isAgg0
 z0:=Tryz.sizeOf0
 v0:=Tryz.zeroValue0
 i0:=by kernel_rfl
 t2:=Tryz.underlying2
 a2:=Tryz.isAgg2
 z2:=Tryz.sizeOf2
 v2:=Tryz.zeroValue2
 i2:=by kernel_rfl
 t3:=Tryz.underlying3
 a3:=Tryz.isAgg3
 z3:=Tryz.sizeOf3
 v3:=Tryz.zeroValue3
 i3:=by kernel_rfl
 t4:=Tryz.underlying4
 a4:=Tryz.isAgg4
 z4:=Tryz.sizeOf4
 v4:=Tryz.zeroValue4
 i4:=by kernel_rfl
 t5:=Tryz.underlying5
 a5:=Tryz.isAgg5
 z5:=Tryz.sizeOf5
 v5:=Tryz.zeroValue5
 i5:=by kernel_rfl
 t9:=Tryz.underlying9
 a9:=Tryz.isAgg9
 z9:=Tryz.sizeOf9
 v9:=Tryz.zeroValue9
 i9:=by kernel_rfl
 t20:=Tryz.underlying20
 a20:=Tryz.isAgg20
 z20:=Tryz.sizeOf20
 v20:=Tryz.zeroValue20
 i20:=by kernel_rfl
 t21:=Tryz.underlying21
 a21:=Tryz.isAgg21
 z21:=Tryz.sizeOf21
 v21:=Tryz.zeroValue21
 i21:=by kernel_rfl
 t22:=Tryz.underlying246
 a22:=Tryz.isAgg246
 z22:=Tryz.sizeOf246
 v22:=Tryz.zeroValue246
 i22:=by kernel_rfl
 t24:=Tryz.underlying285
 a24:=Tryz.isAgg285
 z24:=Tryz.sizeOf285
 v24:=Tryz.zeroValue285
 i24:=by kernel_rfl
 t25:=Tryz.underlying286
 a25:=Tryz.isAgg286
 z25:=Tryz.sizeOf286
 v25:=Tryz.zeroValue286
 i25:=by kernel_rfl
 t34:=Tryz.underlying337
 a34:=Tryz.isAgg337
 z34:=Tryz.sizeOf337
 v34:=Tryz.zeroValue337
 i34:=by kernel_rfl
 c34:=by kernel_rfl
 t36:=Tryz.underlying288
 a36:=Tryz.isAgg288
 z36:=Tryz.sizeOf288
 v36:=Tryz.zeroValue288
 i36:=by kernel_rfl
 t37:=Tryz.underlying263
 a37:=Tryz.isAgg263
 z37:=Tryz.sizeOf263
 v37:=Tryz.zeroValue263
 i37:=by kernel_rfl
 t39:=Tryz.underlying339
 a39:=Tryz.isAgg339
 z39:=Tryz.sizeOf339
 v39:=Tryz.zeroValue339
 i39:=by kernel_rfl
 t44:=Tryz.underlying359
 a44:=Tryz.isAgg359
 z44:=Tryz.sizeOf359
 v44:=Tryz.zeroValue359
 i44:=by kernel_rfl
 t47:=Tryz.underlying326
 a47:=Tryz.isAgg326
 z47:=Tryz.sizeOf326
 v47:=Tryz.zeroValue326
 i47:=by kernel_rfl
 t48:=Tryz.underlying367
 a48:=Tryz.isAgg367
 z48:=Tryz.sizeOf367
 v48:=Tryz.zeroValue367
 i48:=by kernel_rfl
 t50:=Tryz.underlying369
 a50:=Tryz.isAgg369
 z50:=Tryz.sizeOf369
 v50:=Tryz.zeroValue369
 i50:=by kernel_rfl
 t52:=Tryz.underlying320
 a52:=Tryz.isAgg320
 z52:=Tryz.sizeOf320
 v52:=Tryz.zeroValue320
 i52:=by kernel_rfl
 t55:=Tryz.underlying323
 a55:=Tryz.isAgg323
 z55:=Tryz.sizeOf323
 v55:=Tryz.zeroValue323
 i55:=by kernel_rfl
 t59:=Tryz.underlying343
 a59:=Tryz.isAgg343
 z59:=Tryz.sizeOf343
 v59:=Tryz.zeroValue343
 i59:=by kernel_rfl
 t60:=Tryz.underlying314
 a60:=Tryz.isAgg314
 z60:=Tryz.sizeOf314
 v60:=Tryz.zeroValue314
 i60:=by kernel_rfl
 t61:=Tryz.underlying344
 a61:=Tryz.isAgg344
 z61:=Tryz.sizeOf344
 t65:=Tryz.underlying370
 a65:=Tryz.isAgg370
 z65:=Tryz.sizeOf370
 v65:=Tryz.zeroValue370
 i65:=by kernel_rfl
 t66:=Tryz.underlying371
 a66:=Tryz.isAgg371
 z66:=Tryz.sizeOf371
 v66:=Tryz.zeroValue371
 i66:=by kernel_rfl
 t67:=Tryz.underlying212
 a67:=Tryz.isAgg212
 z67:=Tryz.sizeOf212
 v67:=Tryz.zeroValue212
 i67:=by kernel_rfl
 g0:=by kernel_rfl
 m0:=by kernel_rfl
 g1:=by kernel_rfl
 m1:=by kernel_rfl
 g2:=by kernel_rfl
 m2:=by kernel_rfl
 g3:=by kernel_rfl
 m3:=by kernel_rfl
 g4:=by kernel_rfl
 m4:=by kernel_rfl }
open Go.RowKit in
theorem Tryz.strconv_ParseUint_10_at64_ok (s:ByteArray)(hmax:s.size<=9223372036854775806)(u:Nat)(h:Lib.parseUintB 64 s.data.toList=.ok u)(w:World) :
 Calls Tryz.prog 249 #[.string s,.int .i64 10,.int .i64 64] w fun e w'=>e=.returned (.tuple #[.int .u64 u,.nilIface])/\(w'=w\/w'=Lib.bytesWorld w 5 s):=Any.strconv_ParseUint_10_at64_ok Tryz.laysPu14 s hmax u h w
def Tryz.lays219_ren:Go.Shelf.Ren:=⟨fun|219=>276|217=>304|225=>305|224=>306|267=>307|266=>332|314=>333|n=>n,fun|9=>9|3=>3|4=>4|5=>5|46=>288|146=>315|51=>314|n=>n,fun|1=>0|n=>n⟩
theorem Tryz.lays219:Go.Proofs.Lays.n219 Tryz.prog Tryz.lays219_ren:={
 mixed:=by kernel_rfl
 f217:=Tryz.func304.trans (congrArg some (by kernel_rfl))
 f219:=Tryz.func276.trans (congrArg some (by kernel_rfl))
 f224:=Tryz.func306.trans (congrArg some (by kernel_rfl))
 f225:=Tryz.func305.trans (congrArg some (by kernel_rfl))
 f266:=Tryz.func332.trans (congrArg some (by kernel_rfl))
 f267:=Tryz.func307.trans (congrArg some (by kernel_rfl))
 f314:=Tryz.func333.trans (congrArg some (by kernel_rfl))
 t3:=Tryz.underlying3
 a3:=Tryz.isAgg3
 z3:=Tryz.sizeOf3
 v3:=Tryz.zeroValue3
 t4:=Tryz.underlying4
 a4:=Tryz.isAgg4
 z4:=Tryz.sizeOf4
 v4:=Tryz.zeroValue4
 t5:=Tryz.underlying5
 a5:=Tryz.isAgg5
 z5:=Tryz.sizeOf5
 v5:=Tryz.zeroValue5
 t9:=Tryz.underlying9
 a9:=Tryz.isAgg9
 z9:=Tryz.sizeOf9
 v9:=Tryz.zeroValue9
 t46:=Tryz.underlying288
 a46:=Tryz.isAgg288
 z46:=Tryz.sizeOf288
 v46:=Tryz.zeroValue288
 t51:=Tryz.underlying314
 a51:=Tryz.isAgg314
 z51:=Tryz.sizeOf314
 v51:=Tryz.zeroValue314
 t146:=Tryz.underlying315
 a146:=Tryz.isAgg315
 z146:=Tryz.sizeOf315
 v146:=Tryz.zeroValue315
 g1:=by kernel_rfl }
open Go.RowKit Go.Lib in
theorem Tryz.stringslite_Index_one (s:ByteArray)(c:UInt8)(w:World) :
 Calls Tryz.prog 276 #[.string s,.string ⟨#[c]⟩] w fun e w'=>e=.returned (.int .i64 (Lib.indexByte s.data.toList c))/\w'=w:=Any.stringslite_Index_one Tryz.lays219 s c w
def Tryz.lays101_ren:Go.Shelf.Ren:=⟨fun|101=>258|208=>290|206=>308|n=>n,fun|9=>9|4=>4|3=>3|n=>n,fun|n=>n⟩
theorem Tryz.lays101:Go.Proofs.Lays.n101 Tryz.prog Tryz.lays101_ren:={
 mixed:=by kernel_rfl
 f101:=Tryz.func258.trans (congrArg some (by kernel_rfl))
 f206:=Tryz.func308.trans (congrArg some (by kernel_rfl))
 f208:=Tryz.func290.trans (congrArg some (by kernel_rfl))
 t3:=Tryz.underlying3
 a3:=Tryz.isAgg3
 z3:=Tryz.sizeOf3
 v3:=Tryz.zeroValue3
 t4:=Tryz.underlying4
 a4:=Tryz.isAgg4
 z4:=Tryz.sizeOf4
 v4:=Tryz.zeroValue4
 t9:=Tryz.underlying9
 a9:=Tryz.isAgg9
 z9:=Tryz.sizeOf9
 v9:=Tryz.zeroValue9 }
open Go.RowKit Go.Lib in
theorem Tryz.strings_TrimPrefix (s p:ByteArray)(w:World) :
 Calls Tryz.prog 258 #[.string s,.string p] w fun e w'=>e=.returned (.string ⟨(Lib.trimPrefix s.data.toList p.data.toList).toArray⟩)/\w'=w:=Any.strings_TrimPrefix Tryz.lays101 s p w
def Tryz.lays212_ren:Go.Shelf.Ren:=⟨fun|212=>250|263=>280|264=>281|n=>n,fun|46=>288|51=>314|146=>315|53=>246|148=>317|n=>n,fun|n=>n⟩
theorem Tryz.lays212:Go.Proofs.Lays.n212 Tryz.prog Tryz.lays212_ren:={
 mixed:=by kernel_rfl
 f212:=Tryz.func250.trans (congrArg some (by kernel_rfl))
 f263:=Tryz.func280.trans (congrArg some (by kernel_rfl))
 f264:=Tryz.func281.trans (congrArg some (by kernel_rfl))
 t46:=Tryz.underlying288
 a46:=Tryz.isAgg288
 z46:=Tryz.sizeOf288
 v46:=Tryz.zeroValue288
 t51:=Tryz.underlying314
 a51:=Tryz.isAgg314
 z51:=Tryz.sizeOf314
 v51:=Tryz.zeroValue314
 t53:=Tryz.underlying246
 a53:=Tryz.isAgg246
 z53:=Tryz.sizeOf246
 v53:=Tryz.zeroValue246
 t146:=Tryz.underlying315
 a146:=Tryz.isAgg315
 z146:=Tryz.sizeOf315
 v146:=Tryz.zeroValue315
 t148:=Tryz.underlying317
 a148:=Tryz.isAgg317
 z148:=Tryz.sizeOf317
 v148:=Tryz.zeroValue317 }
open Go.RowKit Go.Lib in
theorem Tryz.bits_Mul (x y:Nat)(hx:x<18446744073709551616)(hy:y<18446744073709551616)(w:World) :
 Calls Tryz.prog 250 #[.int .u64 x,.int .u64 y] w fun e w'=>e=.returned (.tuple #[.int .u64 ((x*y/18446744073709551616:Nat):Int),.int .u64 ((x*y%18446744073709551616:Nat):Int)])/\w'=w:=Any.bits_Mul Tryz.lays212 x y hx hy w
def Tryz.lays105_ren:Go.Shelf.Ren:=⟨fun|105=>254|212=>250|99=>287|165=>288|166=>253|170=>289|169=>255|263=>280|264=>281|206=>308|240=>286|241=>321|276=>320|277=>339|n=>n,fun|9=>9|3=>3|4=>4|20=>20|0=>0|46=>288|109=>289|5=>5|72=>294|76=>295|51=>314|146=>315|53=>246|148=>317|70=>292|37=>263|75=>285|127=>326|164=>345|80=>212|n=>n,fun|n=>n⟩
theorem Tryz.lays105:Go.Proofs.Lays.n105 Tryz.prog Tryz.lays105_ren:={
 mixed:=by kernel_rfl
 f99:=Tryz.func287.trans (congrArg some (by kernel_rfl))
 f105:=Tryz.func254.trans (congrArg some (by kernel_rfl))
 f165:=Tryz.func288.trans (congrArg some (by kernel_rfl))
 f166:=Tryz.func253.trans (congrArg some (by kernel_rfl))
 f169:=Tryz.func255.trans (congrArg some (by kernel_rfl))
 f170:=Tryz.func289.trans (congrArg some (by kernel_rfl))
 f206:=Tryz.func308.trans (congrArg some (by kernel_rfl))
 f212:=Tryz.func250.trans (congrArg some (by kernel_rfl))
 f240:=Tryz.func286.trans (congrArg some (by kernel_rfl))
 f241:=Tryz.func321.trans (congrArg some (by kernel_rfl))
 f263:=Tryz.func280.trans (congrArg some (by kernel_rfl))
 f264:=Tryz.func281.trans (congrArg some (by kernel_rfl))
 f276:=Tryz.func320.trans (congrArg some (by kernel_rfl))
 f277:=Tryz.func339.trans (congrArg some (by kernel_rfl))
 t0:=Tryz.underlying0
 a0:=Tryz.isAgg0
 z0:=Tryz.sizeOf0
 v0:=Tryz.zeroValue0
 t3:=Tryz.underlying3
 a3:=Tryz.isAgg3
 z3:=Tryz.sizeOf3
 v3:=Tryz.zeroValue3
 t4:=Tryz.underlying4
 a4:=Tryz.isAgg4
 z4:=Tryz.sizeOf4
 v4:=Tryz.zeroValue4
 t5:=Tryz.underlying5
 a5:=Tryz.isAgg5
 z5:=Tryz.sizeOf5
 v5:=Tryz.zeroValue5
 t9:=Tryz.underlying9
 a9:=Tryz.isAgg9
 z9:=Tryz.sizeOf9
 v9:=Tryz.zeroValue9
 t20:=Tryz.underlying20
 a20:=Tryz.isAgg20
 z20:=Tryz.sizeOf20
 v20:=Tryz.zeroValue20
 t37:=Tryz.underlying263
 a37:=Tryz.isAgg263
 z37:=Tryz.sizeOf263
 v37:=Tryz.zeroValue263
 t46:=Tryz.underlying288
 a46:=Tryz.isAgg288
 z46:=Tryz.sizeOf288
 v46:=Tryz.zeroValue288
 t51:=Tryz.underlying314
 a51:=Tryz.isAgg314
 z51:=Tryz.sizeOf314
 v51:=Tryz.zeroValue314
 t53:=Tryz.underlying246
 a53:=Tryz.isAgg246
 z53:=Tryz.sizeOf246
 v53:=Tryz.zeroValue246
 t70:=Tryz.underlying292
 a70:=Tryz.isAgg292
 z70:=Tryz.sizeOf292
 v70:=Tryz.zeroValue292
 t72:=Tryz.underlying294
 a72:=Tryz.isAgg294
 z72:=Tryz.sizeOf294
 v72:=Tryz.zeroValue294
 t75:=Tryz.underlying285
 a75:=Tryz.isAgg285
 z75:=Tryz.sizeOf285
 v75:=Tryz.zeroValue285
 t76:=Tryz.underlying295
 a76:=Tryz.isAgg295
 z76:=Tryz.sizeOf295
 v76:=Tryz.zeroValue295
 t109:=Tryz.underlying289
 a109:=Tryz.isAgg289
 z109:=Tryz.sizeOf289
 v109:=Tryz.zeroValue289
 t127:=Tryz.underlying326
 a127:=Tryz.isAgg326
 z127:=Tryz.sizeOf326
 v127:=Tryz.zeroValue326
 t146:=Tryz.underlying315
 a146:=Tryz.isAgg315
 z146:=Tryz.sizeOf315
 v146:=Tryz.zeroValue315
 t148:=Tryz.underlying317
 a148:=Tryz.isAgg317
 z148:=Tryz.sizeOf317
 v148:=Tryz.zeroValue317
 t164:=Tryz.underlying345
 a164:=Tryz.isAgg345
 z164:=Tryz.sizeOf345
 v164:=Tryz.zeroValue345 }
theorem Tryz.Builder_Extra_105:Builder.Extra Tryz.prog Tryz.lays105_ren:={
 sizeBuilder:=by kernel_rfl
 liesBuilder:=by kernel_rfl
 t5:=Tryz.underlying5
 a5:=Tryz.isAgg5
 z5:=Tryz.sizeOf5
 v5:=Tryz.zeroValue5
 infoByte:=by kernel_rfl
 cellsByte:=by kernel_rfl
 sizeByte:=by kernel_rfl
 neB5:=by decide }
open Go.RowKit Go.Lib in
theorem Tryz.strings_Repeat (s:ByteArray)(c:Nat)(w:World)(hc:c<=9223372036854775807)(hlen:s.size*c<=140737488355328) :
 Calls Tryz.prog 254 #[.string s,.int .i64 c] w fun e w'=>e=.returned (.string ⟨(Lib.repeatL s.data.toList c).toArray⟩)/\Below w.heap.size w w':=Any.strings_Repeat Tryz.lays105 Tryz.Builder_Extra_105 s c w hc hlen
end Go.Proofs
end
namespace Go.Proofs.YtemmheaocgmebaaGreatDoor
open Go.Proofs.Tryz
open Go.RowKit
section
open Go.Shelf Go.RowKit
def Af0:(prog.info? 294).map (·.size)=some 2:=kV
def Ars:liesAt prog prog.depth 294 (2/prog.cellsOf 294) 0 294 1=true:=kV
def Ann:(prog.info? 5).map (fun i=>(i.zero,i.size,i.bytes))=some (some (.int .u8 0),1,1):=kV
set_option maxRecDepth 100000 in
def Yk (b:Nat)(w:World)(h0:w.cell? ⟨b,0,none⟩=some (.pointer (some ⟨b,0,none⟩))) :
 Calls prog 286 #[.pointer (some ⟨b,0,none⟩)] w fun e w'=>e=.returned (.tuple #[])/\w'=w:=by
 obtain⟨j,f,_⟩:=A5n.1 Af0
 go_enter func286,ntmps286
 go_wp2
 rw[Lib.run_neq_ptr_same w _ Tryz.underlying292 f]
 go_wp2
 go_end0
 exact⟨rfl,rfl⟩
set_option maxRecDepth 100000 in
def Vk (b:Nat)(w:World)(h0:w.cell? ⟨b,0,none⟩=some (.pointer none))(f:w.shape? b=some (294,2))(m:w.frozen? ⟨b,0,none⟩=false) :
 Calls prog 286 #[.pointer (some ⟨b,0,none⟩)] w fun e w'=>e=.returned (.tuple #[])/\w'=w.setCell ⟨b,0,none⟩ (.pointer (some ⟨b,0,none⟩)):=by
 obtain⟨j,h,g⟩:=A5n.1 Af0
 go_enter func286,ntmps286
 go_wp2
 rw[Lib.run_to_unsafe w ⟨b,0,none⟩ Tryz.underlying292 Tryz.underlying345 h (by rw[g];decide) f (Nat.zero_lt_succ 1)];simp only[Result.andThen];rw[Oper.upon_value]
 go_wp2
 rw[run_callFunc_extern func320 kV kV kV (e:=Extern.AbiNoEscape.same) kV];rw[Lib.run_noEscape];simp only[Result.andThen];rw[Oper.upon_value]
 go_wp2
 rw[Lib.run_from_unsafe w ⟨b,0,none⟩ Tryz.underlying345 Tryz.underlying292 h f Ars];simp only[Result.andThen];rw[Oper.upon_value]
 go_wp2
 go_end0
 exact⟨rfl,rfl⟩
def Zf (B b:Nat)(f:List Value)(w:World)(h:Lib.IsBuilder 294 5 B b f w) :
 Calls prog 286 #[.pointer (some ⟨b,0,none⟩)] w fun e w'=>e=.returned (.tuple #[])/\(Lib.BuilderAt 294 5 B b (.pointer (some ⟨b,0,none⟩)) f w'/\Below B w w'):=by
 rcases h with h|h
 ·refine (Vk b w h.cell0 h.shape h.frozen0).mono ?_;rintro e w' ⟨rfl,rfl⟩;exact⟨rfl,h.used _,(Below.refl B w).setCell (p:=⟨b,0,none⟩) h.1 _⟩
 refine (Yk b w h.cell0).mono ?_;rintro e w' ⟨rfl,rfl⟩;exact⟨rfl,h,Below.refl B _⟩
set_option maxRecDepth 100000 in
def Dl (B b:Nat)(z:List Value)(s:ByteArray)(w:World)(h:Lib.IsBuilder 294 5 B b z w)(O:z.length+s.size<=140737488355328)(U:B<=w.heap.size) :
 Calls prog 253 #[.pointer (some ⟨b,0,none⟩),.string s] w fun e w'=>e=.returned (.tuple #[.int .i64 s.size,.nilIface])/\(Lib.BuilderAt 294 5 B b (.pointer (some ⟨b,0,none⟩)) (z++Lib.strCells s) w'/\Below B w w'):=by
 obtain⟨W,hi,I,J,K⟩:=info_parts Ann
 go_enter func253,ntmps253
 go_wp2_with fail
 refine (Zf B b z _ h).mono ?_;rintro e A ⟨rfl,R,u⟩;obtain⟨N,v,n,t,F⟩:=R;have c0:A.cell? ⟨b,0,none⟩=some (.pointer (some ⟨b,0,none⟩)):=by rw[Lib.cell_of_heap n];rfl
 have c1:A.cell? ⟨b,1,none⟩=some v:=by rw[Lib.cell_of_heap n];rfl
 go_wp2_with (at_builtin;refine Lib.wpList_append_own_string _ rfl _ _ 263 9 rfl B 5 W Tryz.underlying263 Tryz.underlying9 hi I J K _ _ _ rfl t s rfl ?c3 ?c4 ?c5 ?_)
 case c3=>unfold maxLen;omega
 case c4=>omega
 case c5=>have:=u.size;omega
 intro X C j f _;have E:b<A.heap.size:=by
  rcases A2e b A.heap.size with D|D
  ·exact D
  simp[A43 D]at n
 have m:C.heap[b]?=some (.cells #[.pointer (some ⟨b,0,none⟩),v] 294 (0,0)):=by
  rw[f.block b E (fun e=>F e.symm)];exact n
 have d0:C.cell? ⟨b,0,none⟩=some (.pointer (some ⟨b,0,none⟩)):=by rw[Lib.cell_of_heap m];rfl
 have Y:C.cell? ⟨b,1,none⟩=some v:=by rw[Lib.cell_of_heap m];rfl
 have f1:C.frozen? ⟨b,1,none⟩=false:=Lib.frozen_of_heap m 1;obtain⟨L,P,cap,rfl⟩:∃ L P cap,X=.slice L P cap:=by
  rcases j.2 with ⟨H,_⟩|⟨g,cap,Q,H,_⟩
  ·exact⟨_,_,_,H⟩
  exact⟨_,_,_,H⟩
 go_wp2
 go_ret2
 refine⟨rfl,?_,?_⟩
 ·exact Lib.BuilderAt.put (T:=294) (e:=5) N m (bs':=z++Lib.strCells s) (by simpa[Lib.strCells_length] using j) fV
 exact (u.grown f (by have:=u.size;omega) (fun k V=>(t.lt k V).1)).setCell (p:=⟨b,1,none⟩) N _
end
section
open Go.Shelf Go.RowKit Go.Sort Go.Lib
set_option maxRecDepth 100000 in
def Wo (u:Nat)(f:u<18446744073709551616)(w:World)(z:Lib.TabIs prog w "internal/strconv.uint64pow10" .u64 Lib.pow10Tab) :
 Calls prog 252 #[.int .u64 u,.int .i64 10] w fun e w'=>e=.returned (.string ⟨(Lib.decDigits u).toArray⟩)/\Below w.heap.size w w':=by
 by_cases J:u<100
 ·go_enter func252,ntmps252
  go_wp2_with fail
  refine (Tryz.internal_strconv_small u J _).mono ?_;rintro e w' ⟨rfl,rfl⟩
  go_wp2_with fail
  go_ret
  exact⟨rfl,Below.refl _ _⟩
 have A:1<=u:=oV;have E:Lib.nDigits u<=20:=by have:=Lib.numDigits_eq u A f;split at this<;>omega
 have t:prog.arrayLen 320=24:=kV;have F:∀ W,(Instr.sliceAt 320 (.pointer (some ⟨w.heap.size,0,none⟩)) none (some (.int .i64 (Lib.nDigits u:Int))) none).run prog W=.ok (.slice (some ⟨w.heap.size,0,none⟩) (Lib.nDigits u) 24) W:=fun W=>by
  rw[run_sliceAt_array_h W 320 ⟨w.heap.size,0,none⟩ kV .i64 (Lib.nDigits u:Int) oV (by rw[t];omega)]
  go_simp
 have m:=Lib.holds_zero0 w 320 (Lib.nDigits u) oV;have g:=Tryz.internal_strconv_formatBase10 w.heap.size 0 24 u (Array.replicate (Lib.nDigits u) 0) (w.alloc (.cells Lib.zeros24 320)) m (by rw[A6y];exact Lib.lt_pow_nDigits u) f (by rw[A6y];omega);rw[A6y]at g;have C:=Lib.hid m;clear m t
 go_enter func252,ntmps252
 go_wp2_with fail
 refine (Tryz.internal_strconv_numDigits u A f _ (Lib.tabIs_alloc z _)).mono ?_;rintro e w' ⟨rfl,rfl⟩
 go_wp2_with fail
 refine g.mono ?_;rintro e w' ⟨rfl,k,L,n,rfl,hF⟩;have I:(convert 263 9 (.slice (some ⟨w.heap.size,0,none⟩) (Lib.nDigits u) 24)).run prog ((putRow (fun (b:UInt8)=>Value.int .u8 (b.toNat:Int)) (w.alloc (.cells Lib.zeros24 320)) w.heap.size 0 n).drewN k)=.ok (.string ⟨(Lib.decDigits u).toArray⟩) ((putRow (fun (b:UInt8)=>Value.int .u8 (b.toNat:Int)) (w.alloc (.cells Lib.zeros24 320)) w.heap.size 0 n).drewN k):=by
  have h:=run_convert_bytes_back (P:=prog) ((putRow (fun (b:UInt8)=>Value.int .u8 (b.toNat:Int)) (w.alloc (.cells Lib.zeros24 320)) w.heap.size 0 n).drewN k) 263 9 5 ⟨w.heap.size,0,none⟩ 24 (Lib.decDigits u) Tryz.underlying263 Tryz.underlying5 Tryz.underlying9 (fun j D=>by
   rw[Lib.row_is_numeral hF j D,Lib.add_plain,World.cell?_drewN];exact cell?_putRow (fun (b:UInt8)=>Value.int .u8 (b.toNat:Int)) _ w.heap.size 0 _ n C.out (by rw[hF.size,A6y]) j (by rw[hF.size];rw[Lib.decDigits_length]at D;exact D))
  rw[Lib.decDigits_length]at h;exact h
 go_wp2_with fail
 go_ret
 refine⟨rfl,?_⟩;obtain⟨K,H⟩:=Lib.fin_at w (.cells Lib.zeros24 320) n k 0;rw[H];exact Lib.below_grow _ w (A08 _) k K
end
section
open Go.Shelf Go.RowKit Go.Sort Go.Lib
variable {B b d k n:Nat}{T e:TypeId}{bs:List Value}{neg:Bool}{w w':World}
def Pg {P:Program}{f:String}{k:IntKind}{zs:List Int}(h:TabIs P w f k zs)(x:Ext w w'):TabIs P w' f k zs:=by
 unfold TabIs World.var? at *
 cases hg:P.globalNamed f with
 |none=>simp[hg]at h
 |some g =>
  simp only[hg,Option.bind_some]at h⊢;have m:g<w.heap.size:=by
   rcases A2e g w.heap.size with j|j
   ·exact j
   simp[A43 j]at h
  rw[Below.block x g m];exact h
def Uq {size:Nat}{v:Value}{xs:List Value}(h:w.ownsRow B e size v n xs)(x:Ext w w'):w'.ownsRow B e size v n xs:=by
 obtain⟨m,h0|⟨g,cap,f,u,t,j,r⟩⟩:=h
 ·exact⟨m,.inl h0⟩
 exact⟨m,.inr ⟨g,cap,f,u,t,by rw[Below.block x g (Aw j)];exact j,r⟩⟩
def Pr {p:Value}(h:BuilderAt T e B b p bs w)(x:Ext w w'):BuilderAt T e B b p bs w':=by
 obtain⟨j,v,g,m,f⟩:=h;exact⟨j,v,by rw[Below.block x b (Aw g)];exact g,Uq m x,f⟩
def E1 (h:IsBuilder T e B b bs w)(x:Ext w w'):IsBuilder T e B b bs w' :=
 h.elim (fun h=>.inl (Pr h x)) (fun h=>.inr (Pr h x))
def Arn (n j k:Nat):ld n (j+k)=ld n j++ld (n/10^j) k:=by
 induction k with
 |zero=>simp[ld]
 |succ k ih =>
  rw[<-A3p,V5,V5,ih,A2k]
  congr 3
  unfold dg;rw[A45,<-A4k]
def Ayu (d:Nat)(h:∀ j,j<k->n/10^j%10=d/10^j%10):ld n k=ld d k:=by
 unfold ld;refine A41 fun j f=>?_;unfold dg;rw[h j (A6q.1 f)]
def Ha (k:Nat):repeatL [48] k=List.replicate k 48:=by
 induction k with
 |zero=>rfl
 |succ k ih=>rw[repeatL,ih];rfl
def Ks (m:d<1000000000):nDigits d<=9:=by
 rcases A2a d with h|h
 ·subst h;rw[nDigits_small oV];omega
 have f:=Hd (n:=d) oV;have g:10^(nDigits d-1)<10^9:=A22 f oV;have j:=(A7l (by omega:1<10)).1 g;omega
def A0x (f:d<1000000000):(ld d 9).reverse=repeatL [48] (9-nDigits d)++decDigits d:=by
 have g:=Ks f;have e:9=nDigits d+(9-nDigits d):=oV
 rw[show ld d 9=ld d (nDigits d+(9-nDigits d)) by rw[<-e],Arn,A8q,Ac2]
 congr 1
 have h0:d/10^nDigits d=0:=A49 (lt_pow_nDigits d);rw[h0,Ha];have:∀ k,ld 0 k=List.replicate k 48:=by
  intro k;induction k with
  |zero=>rfl
  |succ k ih=>rw[V5,ih,A90];congr 1;simp[dg]
 rw[this,List.reverse_replicate]
def Aq6 {x d:Nat}(t:x≠0)(h:d<1000000000):decDigits (x*1000000000+d)=decDigits x++(repeatL [48] (9-nDigits d)++decDigits d):=by
 have f:(x*1000000000+d)/10^9=x:=oV
 have g:nDigits (x*1000000000+d)=9+nDigits x:=by
  rw[Pz (j:=9) oV,f]
 rw[<-Ac2,g,Arn,f,A8q,Ac2,<-A0x h]
 congr 2
 refine Ayu d fun j m=>?_;have e:(1000000000:Nat)=10^j*10^(9-j):=by rw[<-A4k,show j+(9-j)=9 by omega]
 rw[e,A19 x,A17,Nat.mul_add_div (A66 oV),show 9-j=(8-j)+1 by omega,A2d];rw[Nat.mul_right_comm,A19 _ 10,Nat.mul_add_mod]
def mid (n k:Nat):List UInt8:=if k=(Aa n).length then [] else decDigits (n/1000000000^k)
def Alp (n:Nat):mid n (Aa n).length = []:=by simp[mid]
def Adk (h:k≠(Aa n).length):mid n k=decDigits (n/1000000000^k):=by simp[mid,h]
def Dj (neg:Bool)(n k:Nat):List UInt8:=(if neg then [45] else [])++mid n k
def Xf (neg:Bool)(n:Nat):Dj neg n (Aa n).length=if neg then [45] else []:=by rw[Dj,Alp,A1x]
def M9 (z:Int)(h:z≠0):Dj (decide (z<0)) z.natAbs 0=itoa z:=by
 have f:(Aa z.natAbs).length≠0:=fun h0=>h (by have:=Hj.1 (A2l h0);omega);rw[Dj,Adk (fun h0=>f h0.symm),D5,Bj,A8j,Ba5];split<;>rfl
def Yn (n k:Nat):n/1000000000^k=n/1000000000^(k+1)*1000000000+(Aa n).getD k 0:=by
 rw[Qw,A2d,<-A45];omega
def Wq (f:k+1=(Aa n).length):Dj neg n k=Dj neg n (k+1)++decDigits ((Aa n).getD k 0):=by
 have h0:n/1000000000^(k+1)=0:=A49 (by rw[f];exact Dd n);rw[Dj,Dj,Adk oV,f,Alp,A1x,Yn,h0];simp
def Wc (f:k+1<(Aa n).length):Dj neg n k=Dj neg n (k+1)++(repeatL [48] (9-nDigits ((Aa n).getD k 0))++decDigits ((Aa n).getD k 0)):=by
 have j:n≠0:=by rintro rfl;rw[A7]at f;simp at f
 have m:n/1000000000^(k+1)≠0:=by
  have g:=Rw j;have h:1000000000^(k+1)<=1000000000^(nl n-1):=A10 oV (by have:nl n=(Aa n).length:=rfl;omega);have t:=Nat.div_pos (A04 h g) (A66 oV);omega
 rw[Dj,Dj,Adk oV,Adk oV,A2k]
 congr 1
 rw[Yn n k,Aq6 m ((Ao n).getD k)]
def U5 (neg:Bool)(n k:Nat):(Dj neg n k).length<=1+9*(Aa n).length+1:=by
 have j:nDigits (n/1000000000^k)<=9*(Aa n).length+1:=by
  rcases A2a (n/1000000000^k) with h|h
  ·rw[h,nDigits_small oV];omega
  have f:=Hd (n:=n/1000000000^k) oV;have g:10^(nDigits (n/1000000000^k)-1)<10^(9*(Aa n).length):=A22 f (A22 (A3u _ _) (Rv n));have m:=(A7l (by omega:1<10)).1 g;omega
 unfold Dj mid;split<;>split<;>simp[decDigits_length]<;>omega
end
section
open Go.Shelf Go.RowKit Go.Sort Go.Lib
set_option maxRecDepth 100000 in
def Es (u:Nat)(g:u<18446744073709551616)(w:World)(f:Lib.TabIs prog w "internal/strconv.uint64pow10" .u64 Lib.pow10Tab) :
 Calls prog 210 #[.int .u64 u,.int .i64 10] w fun e w'=>e=.returned (.string ⟨(Lib.decDigits u).toArray⟩)/\Ext w w':=by
 go_enter func210,ntmps210
 go_wp2_with fail
 refine (Wo u g _ f).mono ?_;rintro e w' ⟨rfl,h⟩
 go_wp2_with fail
 go_ret
 exact⟨rfl,h⟩
def Ap2 (W0:World)(B:Nat)(neg:Bool)(n:Nat)(i:Value)(wr:World):Prop :=
 ∃ k:Nat,k<=(Aa n).length/\i=.int .i64 ((k:Int)-1)/\IsBuilder 294 5 B B (byteCells (Dj neg n k)) wr/\Below B W0 wr
def Dr (l l':List UInt8):byteCells l++byteCells l'=byteCells (l++l'):=by simp[byteCells]
set_option maxRecDepth 100000 in
theorem Zj (v:Value)(z:Int)(w:World)(hv:St w v z)(hs:nl z.natAbs<=100000000000)(htab:Lib.TabIs prog w "internal/strconv.uint64pow10" .u64 Lib.pow10Tab) :
 Calls prog 211 #[v] w fun e w'=>e=.returned (.string ⟨(Lib.itoa z).toArray⟩)/\Ext w w':=by
 obtain⟨a,n,c,rfl,hn⟩:=hv;obtain⟨a',c',e,hcap,hrow⟩:=hn;simp only[Value.slice.injEq]at e;obtain⟨rfl,rfl,rfl⟩:=e;have hlen:(Aa z.natAbs).length<=100000000000:=hs;by_cases hz:z=0
 ·subst hz;rw[show (Aa (0:Int).natAbs).length=0 by rw[show (0:Int).natAbs=0 from rfl,A7];rfl];clear hrow hcap hlen
  go_enter func211,ntmps211
  go_wp2_with fail
  go_ret
  exact⟨by rw[E5];rfl,Ext.alloc (Ext.refl w) _⟩
 ·have hp:0<(Aa z.natAbs).length:=Df.2 oV;obtain⟨L,hL⟩:∃ L,L=(Aa z.natAbs).length:=⟨_,rfl⟩;rw[<-hL]at hp hlen⊢;have HL:=Lib.hid hL;have HROW:=Lib.hid hrow;have HTAB:=Lib.hid htab;clear hL hrow htab hcap;obtain⟨neg,hneg⟩:∃ neg,neg=decide (z<0):=⟨_,rfl⟩;rw[<-hneg];have HNEG:=Lib.hid hneg;clear hneg;obtain⟨w1,hw1⟩:∃ w1,w1=w.alloc (Obj.cells #[Value.bool neg,Value.slice a L c] 141):=⟨_,rfl⟩;have hs1:w1.heap.size=w.heap.size+1:=by rw[hw1];exact B6 _ _
  have HX1:RowKit.Hid (Ext w w1):=Lib.hid (by rw[hw1];exact Ext.alloc (Ext.refl w) _);have HB0:=Lib.hid (Lib.fresh_isBuilder 294 5 w1);have HW1:=Lib.hid hw1;have HS1:=Lib.hid hs1;clear hw1 hs1;cases neg
  ·go_enter func211,ntmps211
   go_wp2_with fail
   rw[<-HW1.out,<-HS1.out,show ((L:Int)==0)=false by rw[beq_eq_false_iff_ne];omega]
   go_loopw [4] (Ap2 (w1.alloc (Obj.cells #[Value.pointer none,Value.slice none 0 0] 294)) w1.heap.size false z.natAbs) (fun i _=>(RowKit.intOf i+1).toNat)
   case atStart=>exact⟨(Aa z.natAbs).length,A08 _,by rw[<-HL.out],by rw[Xf];exact HB0.out,Below.refl _ _⟩
   case round =>
    obtain⟨k,hk,rfl,hbd,hbel⟩:=hrel;have hsz0:=hbel.size;rw[B6]at hsz0;have HXW:RowKit.Hid (Ext w wr):=Lib.hid (Ext.trans HX1.out (Below.trans (Ext.alloc (Ext.refl w1) (Obj.cells #[Value.pointer none,Value.slice none 0 0] 294)) hbel));rcases k with _|k
    ·have hne:Dj false z.natAbs 0≠[]:=by rw[HNEG.out,M9 z hz,D5,Bj];split;simp;exact Gk _
     have HBD:=Lib.hid hbd;clear hbd
     go_wp2_with fail
     refine (Tryz.Builder_String w1.heap.size w1.heap.size (Dj false z.natAbs 0) wr HBD.out hne).mono ?_;rintro e w2 ⟨rfl,hb2⟩
     go_wp2_with fail
     go_ret
     refine⟨?_,Below.trans HXW.out ?_⟩
     ·rw[HNEG.out,M9 z hz];rfl
     ·exact Below.mono hb2 (by have:=HS1.out;omega)
    ·have hsz1:w.heap.size<w1.heap.size:=by rw[HS1.out];omega
     have hc1:wr.cell? ⟨w.heap.size,1,none⟩=some (.slice a L c):=by
      rw[Below.cell hbel hsz1,Below.cell (Ext.alloc (Ext.refl w1) _) hsz1,HW1.out,World.cell?_alloc_new];rfl
     obtain⟨ba,offa,rfl,hca⟩:=HROW.out.at (j:=k) oV;have hcb:=HXW.out.cell hca;clear hca;have hlow:(Aa z.natAbs).getD k 0<1000000000:=(Ao _).getD k;obtain⟨x,hx⟩:∃ x,x=(Aa z.natAbs).getD k 0:=⟨_,rfl⟩;rw[<-hx]at hcb hlow;have XX:=Lib.hid hx;have HBD:=Lib.hid hbd;have HBEL:=Lib.hid hbel;have HK:=Lib.hid hk;clear hx hbd hbel hk hsz1;rw[show ((k+1:Nat):Int)-1=k by omega];have hkL:k<L:=by have:=HK.out;have:=HL.out;omega
     have hsw:(Dj false z.natAbs (k+1)).length<=1+9*L+1:=by have:=U5 false z.natAbs (k+1);rw[<-HL.out]at this;exact this
     have hd9:=Ks hlow;have hdl:=decDigits_length x;have HSW:=Lib.hid hsw;have HDL:=Lib.hid hdl;have HD9:=Lib.hid hd9;clear hsw hdl hd9;by_cases htop:k+1=L
     ·have hkt:¬ ((k:Int)<(L:Int)-1):=oV
      have HTOP:=Lib.hid htop;clear htop
      go_wp2_with fail
      refine (Es x oV _ (Pg HTAB.out HXW.out)).mono ?_;rintro e w2 ⟨rfl,hx2⟩;have HX2:=Lib.hid hx2;clear hx2;have hc2:=HX2.out.cell hc1;clear hc1 hcb
      go_wp2_with fail
      refine (Dl w1.heap.size w1.heap.size (byteCells (Dj false z.natAbs (k+1))) ⟨(decDigits x).toArray⟩ w2 (E1 HBD.out HX2.out) (by rw[byteCells_length,Lib.size_mk,HDL.out];have:=HSW.out;have:=HD9.out;omega) (by have:=HX2.out.size;omega)).mono ?_;rintro e w3 ⟨rfl,hb3,hbel3⟩;have htx:=Wq (neg:=false) (n:=z.natAbs) (k:=k) (by rw[<-HL.out];exact HTOP.out);rw[<-XX.out]at htx;rw[strCells_toArray,Dr,<-htx]at hb3
      go_wp2_with fail
      refine⟨⟨k,by rw[<-HL.out];omega,by go_num,.inr hb3,Below.trans HBEL.out (Below.trans (Below.mono HX2.out oV) hbel3)⟩,by simp only[RowKit.intOf];omega⟩
     ·have hkt:(k:Int)<(L:Int)-1:=oV
      have HTOP:=Lib.hid htop;clear htop
      go_wp2_with fail
      refine (Es x oV _ (Pg HTAB.out HXW.out)).mono ?_;rintro e w2 ⟨rfl,hx2⟩;have HX2:=Lib.hid hx2;clear hx2;have hc2:=HX2.out.cell hc1;clear hc1 hcb;have hsl:(⟨(decDigits x).toArray⟩:ByteArray).size=nDigits x:=by rw[Lib.size_mk];exact HDL.out
      go_wp2_with fail
      rw[show wrap64 (9-(nDigits x:Int))=((9-nDigits x:Nat):Int) by have:=HD9.out;unfold wrap64;omega];have hrep:=Tryz.strings_Repeat ⟨#[48]⟩ (9-nDigits x) w2 oV (by have:=HD9.out;simp[ByteArray.size];omega);refine hrep.mono ?_;rintro e w4 ⟨rfl,hx4⟩;have HX4:RowKit.Hid (Ext w2 w4):=Lib.hid hx4;clear hx4 hrep
      go_wp2_with fail
      refine (Dl w1.heap.size w1.heap.size (byteCells (Dj false z.natAbs (k+1))) ⟨(repeatL [48] (9-nDigits x)).toArray⟩ w4 (E1 (E1 HBD.out HX2.out) HX4.out) (by rw[byteCells_length,Lib.size_mk,Ha,A3k];have:=HSW.out;omega) (by have:=HX2.out.size;have:=HX4.out.size;omega)).mono ?_;rintro e w5 ⟨rfl,hb5,hbel5⟩;rw[strCells_toArray,Dr]at hb5
      go_wp2_with fail
      refine (Dl w1.heap.size w1.heap.size _ ⟨(decDigits x).toArray⟩ w5 (.inr hb5) (by rw[byteCells_length,Lib.size_mk,HDL.out,A1d,Ha,A3k];have:=HSW.out;have:=HD9.out;omega) (by have:=HX2.out.size;have:=HX4.out.size;have:=hbel5.size;omega)).mono ?_;rintro e w3 ⟨rfl,hb3,hbel3⟩;have htx:=Wc (neg:=false) (n:=z.natAbs) (k:=k) (by rw[<-HL.out];have:=HTOP.out;omega);rw[<-XX.out]at htx;rw[strCells_toArray,Dr,A2k,<-htx]at hb3;have h6:=HX2.out.size
      go_wp2_with fail
      refine⟨⟨k,by rw[<-HL.out];omega,by go_num,.inr hb3,Below.trans HBEL.out (Below.trans (Below.mono HX2.out oV) (Below.trans (Below.mono HX4.out oV) (Below.trans hbel5 hbel3)))⟩,by simp only[RowKit.intOf];omega⟩
  ·go_enter func211,ntmps211
   go_wp2_with fail
   rw[<-HW1.out,<-HS1.out,show ((L:Int)==0)=false by rw[beq_eq_false_iff_ne];omega];refine (Dl w1.heap.size w1.heap.size [] ⟨#[45]⟩ _ HB0.out (by simp[ByteArray.size]) (by rw[B6];omega)).mono ?_;rintro e w4 ⟨rfl,hb4,hbel4⟩;have HB4:RowKit.Hid (BuilderAt 294 5 w1.heap.size w1.heap.size (.pointer (some ⟨w1.heap.size,0,none⟩)) (byteCells [45]) w4):=Lib.hid hb4;have HBEL4:=Lib.hid hbel4;have hs4:=hbel4.size;rw[B6]at hs4;have hc0:w4.cell? ⟨w.heap.size,1,none⟩=some (.slice a L c):=by
    have hsz1:w.heap.size<w1.heap.size:=by rw[HS1.out];omega
    rw[Below.cell hbel4 hsz1,Below.cell (Ext.alloc (Ext.refl w1) _) hsz1,HW1.out,World.cell?_alloc_new];rfl
   clear hb4 hbel4
   go_wp2_with fail
   go_loopw [4] (Ap2 (w1.alloc (Obj.cells #[Value.pointer none,Value.slice none 0 0] 294)) w1.heap.size true z.natAbs) (fun i _=>(RowKit.intOf i+1).toNat)
   case atStart=>exact⟨(Aa z.natAbs).length,A08 _,by rw[<-HL.out],by rw[Xf];exact .inr HB4.out,HBEL4.out⟩
   case round =>
    obtain⟨k,hk,rfl,hbd,hbel⟩:=hrel;have hsz0:=hbel.size;rw[B6]at hsz0;have HXW:RowKit.Hid (Ext w wr):=Lib.hid (Ext.trans HX1.out (Below.trans (Ext.alloc (Ext.refl w1) (Obj.cells #[Value.pointer none,Value.slice none 0 0] 294)) hbel));rcases k with _|k
    ·have hne:Dj true z.natAbs 0≠[]:=by rw[HNEG.out,M9 z hz,D5,Bj];split;simp;exact Gk _
     have HBD:=Lib.hid hbd;clear hbd
     go_wp2_with fail
     refine (Tryz.Builder_String w1.heap.size w1.heap.size (Dj true z.natAbs 0) wr HBD.out hne).mono ?_;rintro e w2 ⟨rfl,hb2⟩
     go_wp2_with fail
     go_ret
     refine⟨?_,Below.trans HXW.out ?_⟩
     ·rw[HNEG.out,M9 z hz];rfl
     ·exact Below.mono hb2 (by have:=HS1.out;omega)
    ·have hsz1:w.heap.size<w1.heap.size:=by rw[HS1.out];omega
     have hc1:wr.cell? ⟨w.heap.size,1,none⟩=some (.slice a L c):=by
      rw[Below.cell hbel hsz1,Below.cell (Ext.alloc (Ext.refl w1) _) hsz1,HW1.out,World.cell?_alloc_new];rfl
     obtain⟨ba,offa,rfl,hca⟩:=HROW.out.at (j:=k) oV;have hcb:=HXW.out.cell hca;clear hca;have hlow:(Aa z.natAbs).getD k 0<1000000000:=(Ao _).getD k;obtain⟨x,hx⟩:∃ x,x=(Aa z.natAbs).getD k 0:=⟨_,rfl⟩;rw[<-hx]at hcb hlow;have XX:=Lib.hid hx;have HBD:=Lib.hid hbd;have HBEL:=Lib.hid hbel;have HK:=Lib.hid hk;clear hx hbd hbel hk hsz1;rw[show ((k+1:Nat):Int)-1=k by omega];have hkL:k<L:=by have:=HK.out;have:=HL.out;omega
     have hsw:(Dj true z.natAbs (k+1)).length<=1+9*L+1:=by have:=U5 true z.natAbs (k+1);rw[<-HL.out]at this;exact this
     have hd9:=Ks hlow;have hdl:=decDigits_length x;have HSW:=Lib.hid hsw;have HDL:=Lib.hid hdl;have HD9:=Lib.hid hd9;clear hsw hdl hd9;by_cases htop:k+1=L
     ·have hkt:¬ ((k:Int)<(L:Int)-1):=oV
      have HTOP:=Lib.hid htop;clear htop
      go_wp2_with fail
      refine (Es x oV _ (Pg HTAB.out HXW.out)).mono ?_;rintro e w2 ⟨rfl,hx2⟩;have HX2:=Lib.hid hx2;clear hx2;have hc2:=HX2.out.cell hc1;clear hc1 hcb
      go_wp2_with fail
      refine (Dl w1.heap.size w1.heap.size (byteCells (Dj true z.natAbs (k+1))) ⟨(decDigits x).toArray⟩ w2 (E1 HBD.out HX2.out) (by rw[byteCells_length,Lib.size_mk,HDL.out];have:=HSW.out;have:=HD9.out;omega) (by have:=HX2.out.size;omega)).mono ?_;rintro e w3 ⟨rfl,hb3,hbel3⟩;have htx:=Wq (neg:=true) (n:=z.natAbs) (k:=k) (by rw[<-HL.out];exact HTOP.out);rw[<-XX.out]at htx;rw[strCells_toArray,Dr,<-htx]at hb3
      go_wp2_with fail
      refine⟨⟨k,by rw[<-HL.out];omega,by go_num,.inr hb3,Below.trans HBEL.out (Below.trans (Below.mono HX2.out oV) hbel3)⟩,by simp only[RowKit.intOf];omega⟩
     ·have hkt:(k:Int)<(L:Int)-1:=oV
      have HTOP:=Lib.hid htop;clear htop
      go_wp2_with fail
      refine (Es x oV _ (Pg HTAB.out HXW.out)).mono ?_;rintro e w2 ⟨rfl,hx2⟩;have HX2:=Lib.hid hx2;clear hx2;have hc2:=HX2.out.cell hc1;clear hc1 hcb;have hsl:(⟨(decDigits x).toArray⟩:ByteArray).size=nDigits x:=by rw[Lib.size_mk];exact HDL.out
      go_wp2_with fail
      rw[show wrap64 (9-(nDigits x:Int))=((9-nDigits x:Nat):Int) by have:=HD9.out;unfold wrap64;omega];have hrep:=Tryz.strings_Repeat ⟨#[48]⟩ (9-nDigits x) w2 oV (by have:=HD9.out;simp[ByteArray.size];omega);refine hrep.mono ?_;rintro e w4 ⟨rfl,hx4⟩;have HX4:RowKit.Hid (Ext w2 w4):=Lib.hid hx4;clear hx4 hrep
      go_wp2_with fail
      refine (Dl w1.heap.size w1.heap.size (byteCells (Dj true z.natAbs (k+1))) ⟨(repeatL [48] (9-nDigits x)).toArray⟩ w4 (E1 (E1 HBD.out HX2.out) HX4.out) (by rw[byteCells_length,Lib.size_mk,Ha,A3k];have:=HSW.out;omega) (by have:=HX2.out.size;have:=HX4.out.size;omega)).mono ?_;rintro e w5 ⟨rfl,hb5,hbel5⟩;rw[strCells_toArray,Dr]at hb5
      go_wp2_with fail
      refine (Dl w1.heap.size w1.heap.size _ ⟨(decDigits x).toArray⟩ w5 (.inr hb5) (by rw[byteCells_length,Lib.size_mk,HDL.out,A1d,Ha,A3k];have:=HSW.out;have:=HD9.out;omega) (by have:=HX2.out.size;have:=HX4.out.size;have:=hbel5.size;omega)).mono ?_;rintro e w3 ⟨rfl,hb3,hbel3⟩;have htx:=Wc (neg:=true) (n:=z.natAbs) (k:=k) (by rw[<-HL.out];have:=HTOP.out;omega);rw[<-XX.out]at htx;rw[strCells_toArray,Dr,A2k,<-htx]at hb3;have h6:=HX2.out.size
      go_wp2_with fail
      refine⟨⟨k,by rw[<-HL.out];omega,by go_num,.inr hb3,Below.trans HBEL.out (Below.trans (Below.mono HX2.out oV) (Below.trans (Below.mono HX4.out oV) (Below.trans hbel5 hbel3)))⟩,by simp only[RowKit.intOf];omega⟩
end
section
open Go.Shelf Go.RowKit Go.Sort Go.Lib
variable {l:List UInt8}
def Anw (g:Il l):∀ (e:Nat),rdA e l<1000000000000000000->parseUintM 18446744073709551615 e l=.ok (rdA e l):=by
 induction l with
 |nil=>intro e _;rfl
 |cons b l ih =>
  intro e h;have n:=g b mV;have j:rdA e (b::l)=rdA (10*e+(b.toNat-48)) l:=rfl;rw[j]at h⊢;have m:10*e+(b.toNat-48)<=rdA (10*e+(b.toNat-48)) l:=by
   rw[Ajz];have:1<=10^l.length:=Nat.one_le_pow _ _ oV;have:=A2h (10*e+(b.toNat-48)) this;omega
  have f:=ih (fun x t=>g x (by simp[t])) (10*e+(b.toNat-48)) h;rw[parseUintM,if_pos n,if_neg oV];rw[show 10*e+(b.toNat-48)=e*10+(b.toNat-48) by omega]at f h m⊢
  first
   |(rw[if_neg oV];exact f)
   |(simp only[];rw[if_neg oV];exact f)
def Anf (e:Il l)(g:l≠[])(f:l.length<=9):parseUintB 64 l=.ok (rd l):=by
 rw[parseUintB,if_neg g];refine Anw e 0 ?_;have h:=Aat e;have j:10^l.length<=10^9:=A10 oV f;have m:rdA 0 l=rd l:=rfl;omega
def K7 {neg:Bool}(f:Il l)(g:l≠[]):trimPrefix (Bj neg l) [45]=l/\hasPrefix (Bj neg l) [45]=neg:=by
 cases neg
 ·cases l with
  |nil=>exact absurd rfl g
  |cons b l =>
   have e:=f b mV;have:¬ (45:UInt8)=b:=by rintro rfl;simp at e
   simp[Bj,trimPrefix,hasPrefix,List.isPrefixOf,this]
 simp[Bj,trimPrefix,hasPrefix,List.isPrefixOf]
def Ag1 {w:World}{B:Nat}{e:TypeId}{a:Option Addr}{n c:Nat}{xs:List Value}(h:w.ownsRow B e 1 (.slice a n c) n xs)(z:xs.length=n):Row w a xs:=by
 intro j u;rcases h.2 with ⟨f,t⟩|⟨g,cap,m,f,t⟩
 ·omega
 simp only[Value.slice.injEq]at f;obtain⟨rfl,_,rfl⟩:=f;refine⟨g,0,rfl,?_⟩;have:=h.cells (g:=g) rfl j (xs.getD j (.bool false)) (by rw[A02,A01 u];rfl);rw[Lib.add_plain]at this;exact this
def Xk (w:World)(e:TypeId)(s:ByteArray):Ext w (bytesWorld w e s):=bytesWorld_below w e s
def At7 (W0:World)(B:Nat)(l:List UInt8)(v i:Value)(wr:World):Prop :=
 ∃ (e:Int) (ys:List Nat),e<=l.length/\i=.int .i64 e/\-9<e/\ys.length+e.toNat<=l.length/\Ty (rd l) (l.take e.toNat) ys/\wr.ownsRow B 246 1 v ys.length (A8 ys)/\Below B W0 wr
def Ao7:(prog.info? 246).map (fun i=>(i.zero,i.size,i.bytes))=some (some (.int .u64 0),1,8):=kV
set_option maxRecDepth 100000 in
def Afn (neg:Bool)(l:List UInt8)(w:World)(hd:Il l)(hl:l≠[])(ap:l.length<=1000000000) :
 Calls prog 205 #[.string ⟨(Bj neg l).toArray⟩] w (Ac0 w (Cd neg (rd l))):=by
 obtain⟨i0,hi,am,an,ao⟩:=info_parts Ao7;obtain⟨a8,a9⟩:=K7 (neg:=neg) hd hl;have HD:=Lib.hid hd;have HL:=Lib.hid hl;clear hd hl;obtain⟨w1,V⟩:∃ w1,w1=w.alloc (Obj.cells #[Value.bool false,Value.slice none 0 0] 141):=⟨_,rfl⟩;have a4:w1.heap.size=w.heap.size+1:=by rw[V];exact B6 _ _
 have O:=Lib.hid V;have ad:=Lib.hid a4;clear V a4
 go_enter func205,ntmps205
 go_wp2_with fail
 rw[<-O.out];refine (Tryz.strings_CutPrefix ⟨(Bj neg l).toArray⟩ ⟨#[45]⟩ w1).mono ?_;rintro e Y ⟨rfl,rfl⟩;rw[show trimPrefix (⟨(Bj neg l).toArray⟩:ByteArray).data.toList (⟨#[45]⟩:ByteArray).data.toList=l from a8,show hasPrefix (⟨(Bj neg l).toArray⟩:ByteArray).data.toList (⟨#[45]⟩:ByteArray).data.toList=neg from a9];clear a8 a9
 go_wp2_with fail
 go_loopw [5,6] (At7 Y Y.heap.size l) (fun _ i _=>(RowKit.intOf i+9).toNat)
 case atStart=>exact⟨l.length,[],oV,mV,oV,mV,⟨Low.nil,by simpa using HD.out,by simp[val]⟩,⟨rfl,.inl ⟨rfl,rfl⟩⟩,Below.refl _ _⟩
 case round =>
  obtain⟨e,ys,he,rfl,au,av,a7,C,z⟩:=hrel;obtain⟨a,n,c,rfl⟩:∃ a n c,u5=.slice a n c:=by
   rcases C.2 with ⟨D,h2⟩|⟨g,cap,ag,D,h2⟩
   ·exact⟨_,_,_,D⟩
   exact⟨_,_,_,D⟩
  have L:=Lib.hid a7;have f:=Lib.hid C;have t:=Lib.hid z;have ay:=z.size;clear a7 C z;by_cases h0:0<e
  ·obtain⟨E,rfl⟩:∃ E:Nat,e=E:=⟨e.toNat,oV⟩;have ah:E<=l.length:=oV;have ar:0<E:=oV;have aw:max (0:Int) ((E:Int)-9)=((E-9:Nat):Int):=oV;have ax:∀ W,(Instr.sliceAt 9 (.string ⟨l.toArray⟩) (some (.int .i64 (E-9:Nat))) (some (.int .i64 E)) none).run prog W=.ok (.string ⟨((l.take E).drop (E-9)).toArray⟩) W:=by
    intro W;have D:(0:Int)<=((E-9:Nat):Int)/\((E-9:Nat):Int)<=(E:Int):=oV;have h2:(0:Int)<=(E:Int)/\(E:Int)<=(⟨l.toArray⟩:ByteArray).size:=by rw[Lib.size_mk];omega
    have h3:(⟨l.toArray⟩:ByteArray).extract (E-9) E=⟨((l.take E).drop (E-9)).toArray⟩:=by
     rw[Lib.extract_mk,List.drop_take]
    simp only[Instr.sliceAt,Sem.run_bind,run_underlying Tryz.underlying9,Result.andThen_ok,Instr.slice,Instr.sliceBounds,Instr.sliceBound,asIntOf,Sem.run_pure,if_true,Option.isSome,Sem.run_ite,D,h2,and_self,A23];simp[h3]
   have Q:Il ((l.take E).drop (E-9)):=(HD.out.take E).drop (E-9);have T:((l.take E).drop (E-9)).length<=9:=gV;have a1:(l.take E).drop (E-9)≠[]:=by intro h;have:=congrArg List.length h;simp at this;omega
   have a3:=Aat Q;have ak:rd ((l.take E).drop (E-9))<1000000000:=A2s a3 (by rw[show (1000000000:Nat)=10^9 from rfl];exact A10 oV T);have m:=L.out.step;rw[show (l.take ((E:Int)).toNat)=l.take E from rfl,A1e,A4a ah]at m;have a2:=Tryz.strconv_ParseUint_10_at64_ok ⟨((l.take E).drop (E-9)).toArray⟩ (by rw[Lib.size_mk];omega) (rd ((l.take E).drop (E-9))) (Anf Q a1 T) wr;have ac:=Lib.hid a2;have N:=Lib.hid m;clear a2 m a3 Q a1 T
   go_wp2_with fail
   obtain⟨d,A⟩:∃ d,d=rd ((l.take E).drop (E-9)):=⟨_,rfl⟩;rw[<-A]at ak;have F:=Lib.hid A;clear A;refine ac.out.mono ?_;rintro e w3 ⟨rfl,aa⟩;rw[<-F.out];have P:RowKit.Hid (Ext wr w3):=Lib.hid (by
    rcases aa with rfl|rfl
    ·exact Ext.refl _
    exact Xk _ _ _)
   clear aa;have aq:=P.out.size
   go_wp2_with (at_builtin;refine wpList_append_own _ rfl _ _ 139 rfl Y.heap.size 246 i0 (.int .u64 0) 1 8 Tryz.underlying139 hi am an ao rfl fV _ _ _ rfl ((Uq f.out P.out).alloc _) ⟨w3.heap.size,0,none⟩ 1 1 [.int .u64 (d:Int)] rfl rfl ?c1 ?c2 ?c3 ?c4 ?c5 ?_)
   case c1 =>
    intro j u hj
    match j,hj with
    |0,hj=>simp at hj;subst hj;simp[Addr.add]
   case c2=>intro u hu;simp at hu;subst hu;rfl
   case c3=>unfold maxLen;omega
   case c4=>omega
   case c5=>simp;omega
   intro v' w4 U R _
   go_wp2_with fail
   refine⟨⟨(E:Int)-9,ys++[d],oV,by go_num,oV,gV,?_,by simpa[A8] using U,?_⟩,by simp only[RowKit.intOf];omega⟩
   ·rw[F.out,show (l.take ((E:Int)-9).toNat)=(l.take E).take (E-9) by rw[List.take_take];congr 1;omega];exact N.out
   have h5:Below Y.heap.size wr w3:=Below.mono P.out oV;exact (((t.out.trans h5).alloc oV _).grown R gV (fun k hk=>(f.out.lt k hk).1))
  have ai:=f.out.1;have K:val ys=rd l:=by
   have:=L.out.sum;rw[show e.toNat=0 by omega]at this;simpa[rd,rdA] using this.symm
  obtain⟨rfl,I⟩:n=ys.length/\ys.length<=c:=by
   rcases f.out.2 with ⟨D,h2⟩|⟨g,cap,ag,D,h2,h3,h4,_⟩
   ·simp at D;omega
   simp at D;obtain⟨_,rfl,rfl⟩:=D;exact⟨rfl,h4⟩
  have J:=Ag1 f.out mV;have H:=Lib.hid J;have Z:=Lib.hid K;clear J K ai
  go_wp2_with fail
  refine (G5 a c ys.length ys wr rfl oV I H.out).mono ?_;rintro e w' ⟨rfl,al⟩;subst al
  go_wp2_with fail
  refine (Aji neg _ (rd l) wr (D3 L.out.low H.out Z.out I) (A04 (A4 (k:=l.length) (A2s (Aat HD.out) (by rw[Ajo];exact A10 oV oV))) oV)).mono ?_;rintro e w5 ⟨v5,rfl,⟨a5,n5,c5,rfl,a6⟩,ab⟩;have a0:=Lib.hid ab;have ae:=Lib.hid a6;have aj:w.heap.size<Y.heap.size:=by rw[ad.out];omega
  have X:RowKit.Hid (w5.heap[w.heap.size]?=some (.cells #[.bool false,.slice none 0 0] 141 (0,0))):=Lib.hid (by
   rw[Below.block a0.out _ oV,t.out.block _ aj,O.out,Cn])
  have d0:=Auo X.out;have d1:=As2 X.out;have f0:=frozen_of_row _ _ 0 _ _ X.out;have f1:=frozen_of_row _ _ 1 _ _ X.out;clear a6 ab
  go_wp2_with fail
  have af:Ext w w5:=by
   refine Ext.trans (b:=Y) (by rw[O.out];exact Ext.alloc (Ext.refl w) _) ?_;exact Below.trans t.out (Below.mono a0.out oV)
  refine Ac5 rfl rfl (Asg X.out) rfl ⟨_,rfl,?_,A0h af (A08 _) _ _⟩;have hs:=ae.out.grown (Awa X.out) (Aza _ _ (.bool (decide (Cd neg (rd l)<0))) (.slice a5 n5 c5));exact Aty rfl hs
end
section
variable {q:Rat}{z:Int}
def Hx (u:PH):Prop:=∀ w,Fj u w->Lib.TabIs prog w "internal/strconv.uint64pow10" .u64 Lib.pow10Tab
def Hx.mono {u e:PH}(h:Hx u)(j:PH.le u e):Hx e:=fun w hp=>h w (fun g o f=>hp g o (j g o f))
section
variable {u:PH} {x:Value}
def Agb {k:Nat}(g:Hx u)(f:k<18446744073709551616):Fn0 prog 210 [.int .u64 (k:Int),.int .i64 10] u fun v _=>v=.string (mkS (Lib.decDigits k)) :=
 Fn0.ofW (fun v _=>v=.string (mkS (Lib.decDigits k))) (fun w hp=>(Es k f w (g w hp)).mono fun _ _ ⟨e,h⟩=>⟨_,e,rfl,h⟩) (fun _ _ _ h _ _ _=>h)
def Jz (h:Lib.nDigits z.natAbs<=400):Fn0 prog 205 [.string (mkS (Lib.itoa z))] u fun v e=>Bi e v z:=by
 refine Fn0.ofW (fun v w=>St w v z) (fun w _=>?_) (fun _ _ _ h _ c _=>Bi.ofW h c);have:=Afn (decide (z<0)) (Lib.decDigits z.natAbs) w (O8 _) (Gk _) (by rw[Lib.decDigits_length];omega);rw[Z8,<-D5]at this;exact this
def Qu (g:Hx u)(h:Bi u x z)(f:nl z.natAbs<=100000000000):Fn0 prog 211 [x] u fun v _=>v=.string (mkS (Lib.itoa z)) :=
 Fn0.ofW (fun v _=>v=.string (mkS (Lib.itoa z))) (fun w hp=>(Zj x z w (h.toW hp) f (g w hp)).mono fun _ _ ⟨e,h⟩=>⟨_,e,rfl,h⟩) (fun _ _ _ h _ _ _=>h)
end
def Dk.at {u:PH}{a:Option Addr}{n c k j:Nat}(h:Dk u (.slice a n c) k)(g:j<(Aa k).length):∃ b off,a=some ⟨b,off,none⟩/\ElP u b (off+j*1) (.int .u64 ((Aa k).getD j 0:Nat)):=by
 obtain⟨C,D,f,E,t⟩:=h;simp only[Value.slice.injEq]at f;obtain⟨rfl,_,rfl⟩:=f;obtain⟨b,off,m,e⟩:=t j (by simpa using g);refine⟨b,off,m,fun i y hi=>?_⟩;have A:(A8 (Aa k)).getD j (.bool false)=.int .u64 ((Aa k).getD j 0:Nat):=by simp[A8,g]
 rw[A]at e;have:i=0/\y=.int .u64 ((Aa k).getD j 0:Nat):=by
  match i,hi with
  |0,hi=>simp[Value.cells]at hi;simp[hi]
 obtain⟨rfl,rfl⟩:=this;simpa using e
def M7 {u:PH}{x:Value}(H:Hx u)(h:Bi u x z)(D:nl z.natAbs<=100000000000):Fn0 prog 142 [x] u fun v _=>v=.int .i64 (Lib.nDigits z.natAbs:Nat):=by
 obtain⟨a,n,c,rfl,m⟩:=h;obtain rfl:n=(Aa z.natAbs).length:=by obtain⟨_,_,g,_⟩:=id m;simp at g;exact g.2.1
 generalize decide (z<0)=b;have E:(Aa z.natAbs).length<=100000000000:=D;refine Fn0.o func142 ?_;by_cases h0:z.natAbs=0
 ·exact G.eT' ((Aa z.natAbs).length:Int) 0 (by rw[h0,A7];rfl)<|G.r (.int .i64 1) ⟨rfl,by rw[h0,Lib.nDigits_small oV];rfl⟩
 have hp:0<(Aa z.natAbs).length:=Df.2 oV;have t:=U4 h0;have e:=(Ao z.natAbs).getD ((Aa z.natAbs).length-1);obtain⟨f,off,rfl,C⟩:=m.at (j:=(Aa z.natAbs).length-1) oV;have I:=Ks e;have A:=Lib.decDigits_length ((Aa z.natAbs).getD ((Aa z.natAbs).length-1) 0);have F:(mkS (Lib.decDigits ((Aa z.natAbs).getD ((Aa z.natAbs).length-1) 0))).size=(Lib.decDigits ((Aa z.natAbs).getD ((Aa z.natAbs).length-1) 0)).length:=Go.Lib.size_mk _;refine G.eF ((Aa z.natAbs).length:Int) 0<|G.s ((Aa z.natAbs).length:Int) 1 (((Aa z.natAbs).length-1:Nat):Int)<|G.mul 9 (((Aa z.natAbs).length-1:Nat):Int) ((9*((Aa z.natAbs).length-1):Nat):Int) kV oV oV oV<|G.a f off (Aa z.natAbs).length c ((Aa z.natAbs).length-1) 1 oV<|G.lU none f (off+((Aa z.natAbs).length-1)*1) (.int .u64 ((Aa z.natAbs).getD ((Aa z.natAbs).length-1) 0:Nat)) C<|G.c call210 (Agb (k:=(Aa z.natAbs).getD ((Aa z.natAbs).length-1) 0) H oV) ?_;rintro L K J rfl;exact G.p ((9*((Aa z.natAbs).length-1):Nat):Int) ((Lib.decDigits ((Aa z.natAbs).getD ((Aa z.natAbs).length-1) 0)).length:Int) ((Lib.nDigits z.natAbs:Nat):Int)<|G.r _ ⟨rfl,rfl⟩
def Aqm {u:PH}{x:Value}(j:Hx u)(f:Bg u x q)(h:Tx q):Fn0 prog 143 [x] u fun v _=>v=.string (mkS (Ae q)):=by
 obtain⟨b,a,n,c,b',C,I,D,rfl⟩:=f.opn;have m:=A04 (Bd h.2) (show 400<=4000000000000 by omega);refine Fn0.o func143<|G.c call202 (Jr f m) ?_;rintro L J e rfl;by_cases g:q.den=1
 ·rw[decide_eq_true g];refine G.c call211 (Qu (j.mono e) (f.num.mono e) (A04 (Bd h.1) oV)) ?_;rintro A t l2 rfl;exact G.r (.string (mkS (Lib.itoa q.num))) ⟨rfl,by rw[Ae,if_pos g]⟩
 rw[decide_eq_false g];refine G.c call211 (Qu (j.mono e) (f.num.mono e) (A04 (Bd h.1) oV)) ?_;rintro A t l2 rfl;have E:=Hh h.1;have F:=Hh h.den;refine G.addS (Lib.itoa q.num) [47] kV gV<|G.c call211 (Qu (j.mono (e.trans l2)) (f.den.mono (e.trans l2)) (A04 (Bd h.den) oV)) ?_;rintro N K H rfl;exact G.addS (Lib.itoa q.num++[47]) (Lib.itoa (q.den:Int)) kV gV<|G.r (.string (mkS (Lib.itoa q.num++[47]++Lib.itoa (q.den:Int)))) ⟨rfl,by rw[Ae,if_neg g];simp⟩
def Uf {u:PH}{x:Value}(g:Hx u)(e:Bg u x q)(h:Tx q):Fn0 prog 71 [x] u fun v _=>v=.tuple #[.string (mkS (Ae q)),.int .i64 0]:=by
 obtain⟨b,a,n,c,b',j,E,m,rfl⟩:=e.opn;have A:=h.2;have t:=h.1;refine Fn0.o func71<|G.c call142 (M7 g e.num (A04 (Bd h.1) oV)) ?_;rintro J F f rfl;refine G.gF (Lib.nDigits q.num.natAbs:Nat) 400<|G.c call142 (M7 (g.mono f) (e.den.mono f) (A04 (Bd h.den) oV)) ?_;rintro K H l2 rfl;have C:=h.den;refine G.gF ((Lib.nDigits ((q.den:Int)).natAbs:Nat):Int) 400<|G.c call143 (Aqm (g.mono (f.trans l2)) (e.mono (f.trans l2)) h) ?_;rintro L I D rfl;exact G.r _ ⟨rfl,rfl⟩
end
section
variable {c:UInt8}{l:List UInt8}{q:Rat}{u:PH}
def Ah1 (h:∀ b∈l,b≠c):Lib.indexByte l c = -1:=by
 induction l with
 |nil=>rfl
 |cons b l ih =>
  have e:(b==c)=false:=by rw[beq_eq_false_iff_ne];exact h b mV
  rw[Lib.indexByte,e,ih (fun x f=>h x (by simp[f]))];rfl
def App {l r:List UInt8}(h:∀ b∈l,b≠c):Lib.indexByte (l++c::r) c=l.length:=by
 induction l with
 |nil=>simp[Lib.indexByte]
 |cons b l ih =>
  have e:(b==c)=false:=by rw[beq_eq_false_iff_ne];exact h b mV
  have f:=ih (fun x j=>h x (by simp[j]));rw[A4x,Lib.indexByte,e,f];have g:(((l.length:Nat):Int) == -1)=false:=by rw[beq_eq_false_iff_ne];omega
  simp[g]
def Ap4 :Fn0 prog 276 [.string (mkS l),.string (mkS [c])] u fun v _=>v=.int .i64 (Lib.indexByte l c) :=
 Fn0.ofW (fun v _=>v=.int .i64 (Lib.indexByte l c)) (fun w _=>(Tryz.stringslite_Index_one (mkS l) c w).mono fun _ _ ⟨e,h⟩=>⟨_,e,rfl,by rw[h];exact Ext.refl _⟩) (fun _ _ _ h _ _ _=>h)
def Azn {T:List UInt8}(h:∀ b∈T,b≠47):Fn0 prog 204 [.string (mkS T),.string (mkS [47])] u fun v _=>v=.tuple #[.string (mkS T),.string (mkS []),.bool false]:=by
 have e:Fn0 prog 247 [.string (mkS T),.string (mkS [47])] u fun v _=>v=.tuple #[.string (mkS T),.string (mkS []),.bool false]:=by
  refine Fn0.o func247<|G.c call276 (Ap4 (l:=T) (c:=47)) ?_;rintro j g f rfl;rw[Ah1 h];exact G.hF (-1) 0<|G.r (.tuple #[.string (mkS T),.string (mkS []),.bool false]) ⟨rfl,rfl⟩
 refine Fn0.o func204<|G.c call247 e ?_;rintro j g f rfl;exact G.r _ ⟨rfl,rfl⟩
def A0l {A B:List UInt8}(h:∀ b∈A,b≠47)(D:(A++47::B).length<=1000000):Fn0 prog 204 [.string (mkS (A++47::B)),.string (mkS [47])] u fun v _=>v=.tuple #[.string (mkS A),.string (mkS B),.bool true]:=by
 have n:(A++47::B).length=A.length+1+B.length:=gV
 have m:(A++47::B).take A.length=A:=mV
 have e:(A++47::B).drop (A.length+1)=B:=by rw[<-A8r];simp
 have g:=App (r:=B) h;generalize A++47::B=T at *
 have j:(mkS T).size=T.length:=Go.Lib.size_mk _;have f:Fn0 prog 247 [.string (mkS T),.string (mkS [47])] u fun v _=>v=.tuple #[.string (mkS A),.string (mkS B),.bool true]:=by
  refine Fn0.o func247<|G.c call276 (Ap4 (l:=T) (c:=47)) ?_;rintro C z t rfl;rw[g];refine G.hT A.length 0<|G.sliceSTo T A.length kV kV oV ?_;rw[m];refine G.p A.length 1 (A.length+1:Nat)<|G.sliceSFrom T (A.length+1) kV kV oV ?_;rw[e];exact G.r (.tuple #[.string (mkS A),.string (mkS B),.bool true]) ⟨rfl,rfl⟩
 refine Fn0.o func204<|G.c call247 f ?_;rintro C z t rfl;exact G.r _ ⟨rfl,rfl⟩
def Ay5 (h:Tx q):Fn0 prog 204 [.string (mkS (Ae q)),.string (mkS [47])] u fun v _=>v=.tuple #[.string (mkS (Lib.itoa q.num)),.string (mkS (if q.den=1 then [] else Lib.itoa (q.den:Int))),.bool (decide (q.den≠1))]:=by
 have f:=Hh h.1;have l2:=Hh h.den;unfold Ae;by_cases e:q.den=1
 ·rw[if_pos e,if_pos e,decide_eq_false (by simp[e])];exact Azn (O0 _)
 rw[if_neg e,if_neg e,decide_eq_true e];exact A0l (O0 _) gV
def Bg.mk {u:PH}{q:Rat}{y z:Int}{b b':Bool}{a f:Option Addr}{n c j g:Nat}(m:Bi u (.agg #[.bool b,.slice a n c]) y)(t:Bi u (.agg #[.bool b',.slice f j g]) z)(A:q.num=y)(C:(q.den:Int)=z) :
 Bg u (.agg #[.bool b,.slice a n c,.bool b',.slice f j g]) q:=by
 obtain⟨_,_,_,h,D⟩:=m;obtain⟨_,_,_,e,E⟩:=t;subst A C;rw[decide_eq_false oV]at e;simp only[Value.agg.injEq,A5j,A3g,Value.bool.injEq,Value.slice.injEq,and_true]at h e;obtain⟨rfl,rfl,rfl,rfl⟩:=h;obtain⟨rfl,rfl,rfl,rfl⟩:=e;exact⟨_,_,_,_,_,_,rfl,D,E⟩
def Gs (h:Tx q):Fn0 prog 133 [.string (mkS (Ae q))] u fun v C=>Bg C v q:=by
 refine Fn0.o func133<|G.c call204 (Ay5 h) ?_;rintro J I H rfl;by_cases e:q.den=1
 ·rw[if_pos e,decide_eq_false (by simp[e])];refine G.c call205 (Jz h.1) ?_;intro E A l2 g;obtain⟨m,a2,n2,c2,rfl⟩:=g.opn;have f:=Jz (u:=A) (z:=1) (by rw[Lib.nDigits_small fV];omega);rw[Hf]at f;refine G.c call205 f ?_;intro F D t j;obtain⟨n,a3,n3,c3,rfl⟩:=j.opn;exact G.r (.agg #[.bool m,.slice a2 n2 c2,.bool n,.slice a3 n3 c3]) ⟨rfl,Bg.mk (g.mono t) j rfl (by rw[e];rfl)⟩
 rw[if_neg e,decide_eq_true e];refine G.c call205 (Jz h.1) ?_;intro E A l2 g;obtain⟨m,a2,n2,c2,rfl⟩:=g.opn;refine G.c call205 (Jz h.den) ?_;intro F D t j;obtain⟨n,a3,n3,c3,rfl⟩:=j.opn;exact G.r (.agg #[.bool m,.slice a2 n2 c2,.bool n,.slice a3 n3 c3]) ⟨rfl,Bg.mk (g.mono t) j rfl rfl⟩
end
section
variable {e v:Value}{es:List Value}{q:Rat}{qs:List Rat}{sz:Nat}{u:PH}
def Cc (ts:List (List UInt8)):List Value:=ts.map fun t=>Value.string (mkS t)
def Cb (ts:List (List UInt8)):(Cc ts).length=ts.length:=by simp[Cc]
def Gc (ts:List (List UInt8)):A9 1 (Cc ts):=by
 intro e f;simp only[Cc,A1b]at f;obtain⟨b,_,rfl⟩:=f;exact⟨rfl,fun x g=>by simp[Value.cells]at g;subst g;rfl⟩
def Cj (u:PH)(v:Value)(ts:List (List UInt8)):Prop:=Ac u v 1 (Cc ts)
def Kt (u:PH)(es:List Value)(qs:List Rat):Prop:=es.length=qs.length/\∀ (j:Nat) (q:Rat),qs[j]?=some q->∃ e,es[j]?=some e/\Bg u e q
def Kt.mono {u f:PH}{es:List Value}{qs:List Rat}(h:Kt u es qs)(t:PH.le u f):Kt f es qs :=
 ⟨h.1,fun j q n=>by obtain⟨e,g,m⟩:=h.2 j q n;exact⟨e,g,m.mono t⟩⟩
def Kt.snoc (h:Kt u es qs)(z:Bg u e q):Kt u (es++[e]) (qs++[q]):=by
 refine⟨by simp[h.1],fun j r f=>?_⟩;by_cases g:j<qs.length
 ·rw[A1r g]at f;obtain⟨m,n,t⟩:=h.2 j r f;exact⟨m,by rw[A1r (by rw[h.1];exact g)];exact n,t⟩
 rw[A18 oV]at f;have:j-qs.length=0:=by
  rcases A2a (j-qs.length) with h0|h0
  ·exact h0
  rw[A1v gV]at f;cases f
 rw[this]at f;simp at f;subst f;refine⟨e,?_,z⟩;rw[A18 (by rw[h.1];omega),h.1,this];rfl
def F6 (u:PH)(v:Value)(qs:List Rat):Prop:=∃ es,Ac u v 4 es/\Kt u es qs
def F6.mono {u g:PH}{v:Value}{qs:List Rat}(h:F6 u v qs)(f:PH.le u g):F6 g v qs:=by
 obtain⟨es,j,m⟩:=h;exact⟨es,j.mono f,m.mono f⟩
def Bg.ok (h:Bg u e q):A9 4 [e]:=by
 obtain⟨b,a,n,c,b',j,t,m,rfl⟩:=h.opn;intro x f;simp at f;subst f;exact⟨rfl,fun y g=>by simp[Value.cells]at g;rcases g with rfl|rfl|rfl|rfl<;>rfl⟩
def Ac.opn (h:Ac u v sz es):∃ a c,v=.slice a es.length c:=by
 obtain⟨a,c,rfl,_⟩:=h;exact⟨a,c,rfl⟩
def Ac.at' {a:Option Addr}{n c sz:Nat}(h:Ac u (.slice a n c) sz es){j:Nat}(m:es[j]?=some e):∃ b off,a=some ⟨b,off,none⟩/\ElP u b (off+j*sz) e:=by
 obtain⟨t,z,f,A,g⟩:=h;simp only[Value.slice.injEq]at f;obtain⟨rfl,_,rfl⟩:=f;exact g j e m
def T0 (h:Cj u v (qs.map Ae))(hq:∀ q∈qs,Tx q)(hl:qs.length<=1000000):Fn0 prog 141 [v] u fun v' K=>F6 K v' qs:=by
 obtain⟨a,c,rfl⟩:=Ac.opn h;have C:(Cc (qs.map Ae)).length=qs.length:=by rw[Cb,A03]
 rw[C]at h⊢;refine Fn0.o func141<|G.l (ι:=Nat×List Value×(Option Addr×Nat×Nat)) (fun i=>[(3,sV i.2.2.1 i.2.2.2.1 i.2.2.2.2),(6,sV a qs.length c),(7,iV qs.length),(8,iV i.1)]) (fun _=>[])
  (fun i K R=>i.1<=qs.length/\Kt K i.2.1 (qs.take i.1)/\Af PH.mt R (.slice i.2.2.1 i.2.2.2.1 i.2.2.2.2) 143 4 i.2.1) (fun i=>qs.length-i.1) (0,[],(none,0,0)) ⟨mV,⟨mV,fun j q Z=>by simp at Z⟩,Af.nil _ _ _⟩ ?_
 rintro J ⟨k,es,⟨a1,n1,c1⟩⟩ Q K R A ⟨hk,hF,L⟩;simp only at hk hF L Q;have N:=hF.1;rw[A1e]at N;by_cases D:k<qs.length
 ·refine G.lT k qs.length ?_;have E:qs[k]?=some qs[k]:=A01 D;obtain⟨P,T,rfl,X⟩:=Ac.at' (Ac.mono h A) (j:=k) (e:=.string (mkS (Ae qs[k]))) (by simp[Cc,E]);have O:=hq qs[k] (A09 D);refine G.a P T qs.length c k 1 oV<|G.lU none P (T+k*1) (.string (mkS (Ae qs[k]))) X<|G.c call133 (Gs O) ?_;intro v2 u2 l2 I;obtain⟨H,a2,n2,c2,m,f,t,n,rfl⟩:=I.opn;refine G.B 143 4 64 (.agg #[.bool false,.slice none 0 0,.bool false,.slice none 0 0]) [.agg #[.bool H,.slice a2 n2 c2,.bool m,.slice f t n]] I.ok ?_;intro g u3 F W;refine G.append 143 4 64 (.agg #[.bool false,.slice none 0 0,.bool false,.slice none 0 0]) PH.mt es [.agg #[.bool H,.slice a2 n2 c2,.bool m,.slice f t n]] (.slice a1 n1 c1) g 0 1 1 kV rfl rfl oV L W I.ok rfl oV oV oV ?_;intro v4 m4 z;obtain⟨U,V,rfl⟩:=z.shape;refine G.i k<|G.b (Q (k+1,es++[Value.agg #[.bool H,.slice a2 n2 c2,.bool m,.slice f t n]],(U,(es++[Value.agg #[.bool H,.slice a2 n2 c2,.bool m,.slice f t n]]).length,V)) _ _ _ cV ((A.trans l2).trans F) ⟨dV,?_,z⟩ dV);dsimp only;rw[A1n,E];exact (hF.mono (l2.trans F)).snoc (I.mono F)
 have:k=qs.length:=oV;subst this;refine G.lF qs.length qs.length<|G.give PH.mt es _ kV L (fun _=>.inl rfl) ?_;intro u3 F Y;rw[A15]at hF;exact G.r (.slice a1 n1 c1) ⟨rfl,es,Y,hF.mono F⟩
end
def Ajx {u:PH}{v:Value}{ts:List (List UInt8)}{fid:Nat}{cap:Array Value}(h:Cj u v ts)(N:ts.length<=1000000)
 (f:∀ args w,(callFunc fid args).run prog w=.ok (.enter fid args) w) (H:∀ t∈ts,∀ n,PH.le u n->Fn0 prog fid [.string (mkS t)] n fun v _=>v=.bool false) :
 Fn0 prog 221 [v,.func (.func fid) #[] #[]] u fun K _=>K=.int .i64 (-1):=by
 obtain⟨a,c,rfl⟩:=Ac.opn h;rw[Cb]at h⊢;refine Fn0.o func221<|G.l (ι:=Nat) (fun i=>[(0,sV a ts.length c),(1,.v (.func (.func fid) #[] #[])),(7,iV ts.length),(8,iV i)]) (fun _=>[])
  (fun i n C=>i<=ts.length/\C=PH.mt) (fun i=>ts.length-i) 0 ⟨oV,rfl⟩ ?_
 rintro J k F n C g ⟨L,rfl⟩;by_cases m:k<ts.length
 ·refine G.lT k ts.length ?_;have z:ts[k]?=some ts[k]:=A01 m;obtain⟨A,D,rfl,E⟩:=Ac.at' (Ac.mono h g) (j:=k) (e:=.string (mkS ts[k])) (by simp[Cc,z]);refine G.a A D ts.length c k 1 oV<|G.lU none A (D+k*1) (.string (mkS ts[k])) E<|G.c f (H ts[k] (A09 m) n g) ?_;rintro P O I rfl;exact G.i k<|G.b (F (k+1) _ _ _ cV (g.trans I) ⟨oV,rfl⟩ oV)
 exact G.lF k ts.length<|G.r (.int .i64 (-1)) ⟨rfl,rfl⟩
def Lc {u:PH}{v:Value}{ts:List (List UInt8)}{fid:Nat}(h:Cj u v ts)(j:ts.length<=1000000)
 (e:∀ args w,(callFunc fid args).run prog w=.ok (.enter fid args) w) (g:∀ t∈ts,∀ f,PH.le u f->Fn0 prog fid [.string (mkS t)] f fun v _=>v=.bool false) :
 Fn0 prog 167 [v,.func (.func fid) #[] #[]] u fun m _=>m=.bool false:=by
 obtain⟨a,c,rfl⟩:=Ac.opn h;refine Fn0.o func167<|G.c call221 (Ajx (cap:=#[]) h j e g) ?_;rintro A z n rfl;exact G.hF (-1) 0<|G.r (.bool false) ⟨rfl,rfl⟩
def Ag2 {u:PH}{v N:Value}{ts f:List (List UInt8)}(h:Cj u v ts)(C:Cj u N f)(X:ts.length<=1000000)(T:f.length<=1000000) :
 Fn0 prog 64 [v,N] u fun r _=>r=.bool (decide (ts=f)):=by
 obtain⟨a,c,rfl⟩:=Ac.opn h;obtain⟨O,H,rfl⟩:=Ac.opn C;rw[Cb]at h C⊢;rw[Cb];refine Fn0.o func64 ?_;by_cases U:ts.length=f.length
 ·refine G.nF ts.length f.length<|G.l (ι:=Nat) (fun i=>[(0,sV a ts.length c),(1,sV O f.length H),(12,iV ts.length),(13,iV i)]) (fun _=>[])
   (fun i V I=>(i<=ts.length/\ts.take i=f.take i)/\I=PH.mt) (fun i=>ts.length-i) 0 ⟨⟨oV,mV⟩,rfl⟩ ?_
  rintro J k R V I n ⟨⟨W,m⟩,rfl⟩;by_cases D:k<ts.length
  ·refine G.lT k ts.length ?_;have t:k<f.length:=oV;have z:ts[k]?=some ts[k]:=A01 D;have g:f[k]?=some f[k]:=A01 t;obtain⟨E,K,rfl,P⟩:=Ac.at' (Ac.mono h n) (j:=k) (e:=.string (mkS ts[k])) (by simp[Cc,z]);obtain⟨F,L,rfl,Q⟩:=Ac.at' (Ac.mono C n) (j:=k) (e:=.string (mkS f[k])) (by simp[Cc,g]);refine G.a E K ts.length c k 1 oV<|G.lU none E (K+k*1) (.string (mkS ts[k])) P<|G.a F L f.length H k 1 oV<|G.lU none F (L+k*1) (.string (mkS f[k])) Q ?_;by_cases A:ts[k]=f[k]
   ·exact G.y ts[k] f[k] A<|G.i k<|G.b (R (k+1) _ _ _ cV n ⟨⟨oV,by rw[A1n,A1n,m,z,g,A]⟩,rfl⟩ oV)
   exact G.x ts[k] f[k] A<|G.r (.bool false) ⟨rfl,by rw[decide_eq_false];rintro rfl;exact A rfl⟩
  refine G.lF k ts.length ?_;have:ts=f:=by rw[A1j oV,A1j oV]at m;exact m
  exact G.r (.bool true) ⟨rfl,by simp[this]⟩
 exact G.nT ts.length f.length<|G.r (.bool false) ⟨rfl,by rw[decide_eq_false];rintro rfl;exact U rfl⟩
section
section rules
variable [Cl] {P:Program} [A6 P] {fn:Func} {Post:Ce} {st:List KI×S} {u m:PH}
def Bv.heap {w w':World}(h:Bv u m w)(e:∀ g:Nat,w'.heap[g]?=w.heap[g]?):Bv u m w' :=
 ⟨fun g o f=>by rw[e];exact h.pu g o f,fun g o f=>by rw[e];exact h.pm g o f,h.ap,fun g cs t fr j z f n=>h.cl g cs t fr j z (by rw[<-e];exact f) n⟩
def G.convSB (d:Option TypeDesc)(e:TypeId)(l:List UInt8)(h:Aj P (adv P st)=.conv d (some (.slice e)) (.string (mkS l)))(Z:d.isSome=true)(he:P.underlying e=some (.int .u8))
 (k:∀ v f,PH.le u f->Ac f v 1 (Bm l)->G P fn Post (nx (adv P st) v) f m):G P fn Post st u m:=by
 refine G.big (K:=fun Q f O=>O=m/\Ac f Q 1 (Bm l)) h mV (fun F op hv=>?_) (.inl fun v f O C=>by rw[C.1];exact PH.le_refl _) (fun F o n w J=>?_) (fun Q f O L C=>?_)
 ·obtain⟨s,R,X,rfl,_,_,E⟩:=Ln hv;exact Acg E mV
 ·obtain⟨s,R,X,T,W,Y,E⟩:=Ln n;obtain⟨V,a0,U,pos,after,H⟩:=o;simp only at T;subst T;obtain⟨dd,rfl⟩:=A6a.1 Z;have hr:=Lib.run_convert_string_bytes (P:=P) w s R e (mkS l) Y E he;have N:(mkS l).size=l.length:=Go.Lib.size_mk l;obtain⟨g1,g2,g3,g4⟩:=J.newU (.cells (Lib.bytesCells w e (mkS l)) e ((Lib.bytesCells w e (mkS l)).size,(Lib.bytesCells w e (mkS l)).size+1));have hh:∀ g:Nat,(Lib.bytesWorld w e (mkS l)).heap[g]?=(w.alloc (.cells (Lib.bytesCells w e (mkS l)) e ((Lib.bytesCells w e (mkS l)).size,(Lib.bytesCells w e (mkS l)).size+1))).heap[g]?:=by
   intro g;rcases A5u g w.heap.size with t|t|t
   ·rw[Lib.bytesWorld_at_old w e _ g t,Aq _ _ t]
   ·subst t;rw[Lib.bytesWorld_at_new,Cn]
   rw[A43 (by rw[Lib.bytesWorld_size];omega),A43 (by rw[B6];omega)]
  refine B8 (by simp[execOp,W,hr];rfl) ⟨_,m,g1.heap hh,⟨by rw[Lib.bytesWorld_size];omega,fun g hg hm=>Lib.bytesWorld_at_old w e _ g hg,g2.us,g2.ms,⟨rfl,rfl⟩,fun _=>⟨rfl,by first|exact A08 _|exact Nat.le_succ _⟩⟩,rfl,?_⟩
  refine⟨some ⟨w.heap.size,0,none⟩,grownCap w l.length 0 e,by rw[Au,N],by rw[Au];exact grownCap_ge w _ _ e,fun j x z=>⟨_,0,rfl,fun i y D=>⟨_,_,_,Ab _ _ _,?_⟩⟩⟩;have A:j<l.length:=by
   rcases A2e j l.length with I|I
   ·exact I
   rw[A1v (by rw[Au];exact I)]at z;cases z
  rw[Ht A]at z;simp only[A1f]at z;subst z;have:i=0/\y=.int .u8 ((l.getD j 0).toNat:Int):=by
   match i,D with
   |0,D=>simp[Value.cells]at D;simp[D]
  obtain⟨rfl,rfl⟩:=this;simp[Lib.bytesCells,Array.getElem?_append,A,List.getD]
 obtain⟨rfl,C⟩:=C;exact k Q f L C
end rules
def Ux {u:PH}{s p:List UInt8}:Fn0 prog 258 [.string (mkS s),.string (mkS p)] u fun v _=>v=.string (mkS (Lib.trimPrefix s p)) :=
 Fn0.ofW (fun v _=>v=.string (mkS (Lib.trimPrefix s p))) (fun w _=>(Tryz.strings_TrimPrefix (mkS s) (mkS p) w).mono fun _ _ ⟨e,h⟩=>⟨_,e,rfl,by rw[h];exact Ext.refl _⟩) (fun _ _ _ h _ _ _=>h)
def Jn {u:PH}{z:Int}(h:Lib.nDigits z.natAbs<=400):Fn0 prog 222 [.string (mkS (Lib.itoa z))] u fun v _=>v=.bool true:=by
 refine Fn0.o func222 ?_;by_cases h0:z=0
 ·subst h0;exact G.q (Lib.itoa 0) [48] E5<|G.r (.bool true) ⟨rfl,rfl⟩
 refine G.w (Lib.itoa z) [48] (fun e=>h0 (Im (e.trans E5.symm)))<|G.c call258 (Ux (s:=Lib.itoa z) (p:=[45])) ?_;rintro Z X V rfl;have n:=Lib.decDigits_length z.natAbs;have R:=Lib.nDigits_pos z.natAbs;have g:=O8 z.natAbs;obtain⟨E,f,O,Q⟩:=Qv (z:=(z.natAbs:Int)) oV oV;rw[Yc]at f;rw[D5 z,(K7 g (Gk _)).1];generalize T:Lib.decDigits z.natAbs=L at *
 have C:(mkS L).size=L.length:=Go.Lib.size_mk _;refine G.w L [] (by intro e;rw[e]at n;simp at n;omega)<|G.gF L.length 400<|G.idxS L 0 E kV f<|G.cmpG .eql .u8 (E.toNat:Int) 48 false kV rfl (by simp only[Db,decide_eq_false_iff_not];omega)<|G.convSB (some .string) 5 L kV rfl kV ?_;intro v2 Y l2 D;obtain⟨a,c,rfl⟩:=Ac.opn D;rw[Au]at D⊢;refine G.l (ι:=Nat) (fun i=>[(23,sV a L.length c),(24,iV L.length),(25,iV i)]) (fun _=>[]) (fun i _ H=>i<=L.length/\H=PH.mt) (fun i=>L.length-i) 0 ⟨oV,rfl⟩ ?_;rintro J i N W H t ⟨hi,rfl⟩;by_cases A:i<L.length
 ·refine G.lT i L.length ?_;have U:=Mh g A;obtain⟨F,I,rfl,K⟩:=Ac.at' (Ac.mono D t) (j:=i) (Ht A);exact G.a F I L.length c i 1 oV<|G.lU none F (I+i*1) (.int .u8 ((L.getD i 0).toNat:Int)) K<|G.cmpG .lss .u8 ((L.getD i 0).toNat:Int) 48 false kV rfl (by simp only[Db,decide_eq_false_iff_not];omega)<|G.cmpG .gtr .u8 ((L.getD i 0).toNat:Int) 57 false kV rfl (by simp only[Db,decide_eq_false_iff_not];omega)<|G.i i<|G.b (N (i+1) _ _ _ cV t ⟨oV,rfl⟩ oV)
 exact G.lF i L.length<|G.r (.bool true) ⟨rfl,rfl⟩
end
section
variable {q:Rat}{qs:List Rat}{u:PH}{v:Value}{z:Int}
def Zc (h:Lib.nDigits z.natAbs<=400):Fn0 prog 256 [.string (mkS (Lib.itoa z))] u fun v g=>Bi g v z:=by
 refine Fn0.o func256<|G.c call205 (Jz h) ?_;intro m j l2 e;obtain⟨f,a2,n2,c2,rfl⟩:=e.opn;exact G.r (.agg #[.bool f,.slice a2 n2 c2]) ⟨rfl,e⟩
def Aet {y z:Int}(h:Lib.nDigits y.natAbs<=400)(e:Lib.nDigits z.natAbs<=400):Fn0 prog 223 [.string (mkS (Lib.itoa y)),.string (mkS (Lib.itoa z))] u fun v _=>v=.int .i64 (sgn (y-z)):=by
 refine Fn0.o func223<|G.c call222 (Jn h) ?_;rintro N H C rfl;refine G.c call222 (Jn e) ?_;rintro O I l2 rfl;refine G.c call256 (Zc h) ?_;intro P J D f;obtain⟨n,a3,n3,c3,rfl⟩:=f.opn;refine G.c call256 (Zc e) ?_;intro Q K j g;obtain⟨t,m,F,A,rfl⟩:=g.opn;refine G.c call198 (Kx (f.mono j) g (A04 (Bd h) oV) (A04 (Bd e) oV)) ?_;rintro R L E rfl;exact G.r _ ⟨rfl,rfl⟩
def Gu (h:Tx q):Fn0 prog 169 [.string (mkS (Ae q))] u fun v _=>v=.bool true:=by
 refine Fn0.o func169<|G.c call204 (Ay5 h) ?_;rintro v1 u1 X rfl;refine G.c call222 (Jn h.1) ?_;rintro v2 u2 l2 rfl;by_cases f:q.den=1
 ·rw[if_pos f,decide_eq_false (by simp[f])];refine G.c call222 (Jn h.1) ?_;rintro I A E rfl;exact G.r (.bool true) ⟨rfl,rfl⟩
 rw[if_neg f,decide_eq_true f];have D:=Ao0 f;have C:=q.den_nz;refine G.w (Lib.itoa q.num) [48] (fun e=>D (Im (e.trans E5.symm)))<|G.c call222 (Jn h.den) ?_;rintro I A E rfl;have j:=Aet (u:=A) (y:=(q.den:Int)) (z:=1) h.den (by rw[Lib.nDigits_small fV];omega);rw[Hf]at j;refine G.c call223 j ?_;rintro v4 u4 Y rfl;refine G.kF' (sgn ((q.den:Int)-1)) 0 (by rw[C5 oV];omega)<|G.c call205 (Jz h.1) ?_;intro v5 u5 Z m;obtain⟨O,J,n5,T,rfl⟩:=m.opn;refine G.c call205 (Jz h.den) ?_;intro v6 u6 F n;obtain⟨P,K,n6,U,rfl⟩:=n.opn;refine G.c call197 (Ac4 (m.mono F) n (A04 (Bd h.1) oV) (A04 (Bd h.den) oV)) ?_;intro v7 u7 l7 g;rw[show Nat.gcd q.num.natAbs ((q.den:Int)).natAbs=1 from q.reduced]at g;obtain⟨Q,L,n7,V,rfl⟩:=g.opn;refine G.c call121 (Kf (z:=1) oV oV) ?_;intro v8 u8 H t;obtain⟨R,N,n8,W,rfl⟩:=t.opn;refine G.c call198 (Kx (g.mono H) t (A04 Tm oV) (A04 Tm oV)) ?_;rintro v9 u9 l9 rfl;exact G.eT' (sgn (((1:Nat):Int)-1)) 0 fV<|G.r (.bool true) ⟨rfl,rfl⟩
def Aub (h:Tx q):Fn0 prog 268 [.string (mkS (Ae q))] u fun v _=>v=.bool false:=by
 refine Fn0.o func268<|G.c call169 (Gu h) ?_;rintro g f e rfl;exact G.r (.bool false) ⟨rfl,rfl⟩
def Agh (h:Tx q):Fn0 prog 220 [.string (mkS (Ae q))] u fun v _=>v=.bool false:=by
 refine Fn0.o func220<|G.c call169 (Gu h) ?_;rintro g f e rfl;exact G.r (.bool false) ⟨rfl,rfl⟩
def Ajw (h:Cj u v (qs.map Ae))(g:∀ q∈qs,Tx q)(f:qs.length<=1000000):Fn0 prog 234 [v] u fun m _=>m=.bool true:=by
 obtain⟨a,c,rfl⟩:=Ac.opn h;refine Fn0.o func234<|G.c call167 (Lc (fid:=268) h (by simpa using f) call268 (fun t j A _=>?_)) ?_
 ·obtain⟨q,e,rfl⟩:=A1b.1 j;exact Aub (g q e)
 rintro D C n rfl;exact G.r (.bool true) ⟨rfl,rfl⟩
def Apy (h:Cj u v (qs.map Ae))(g:∀ q∈qs,Tx q)(f:qs.length<=1000000):Fn0 prog 164 [v] u fun m _=>m=.bool true:=by
 obtain⟨a,c,rfl⟩:=Ac.opn h;refine Fn0.o func164<|G.c call167 (Lc (fid:=220) h (by simpa using f) call220 (fun t j A _=>?_)) ?_
 ·obtain⟨q,e,rfl⟩:=A1b.1 j;exact Agh (g q e)
 rintro D C n rfl;exact G.r (.bool true) ⟨rfl,rfl⟩
end
section
variable {g j k:Nat}{x:SV}
variable [Cl] [Co]
def SV.pub (k g:Nat):SV->SV
 |.p j off=>cond (Nat.beq j k) (.v (.pointer (some ⟨g,off,none⟩))) (.p j off)
 |x=>x
def Blk.pub (k g:Nat)(b:Blk):Blk:=⟨b.t,b.cells.map (SV.pub k g)⟩
def S.pub (s:S)(k g:Nat):S:={ n:=s.n,tm:=fun d=>(s.tm d).pub k g,hp:=fun j=>cond (Nat.beq j k) none ((s.hp j).map (Blk.pub k g)) }
def SV.pub_den (k:Nat)(ρ:Nat->Nat)(x:SV):(x.pub k (ρ k)).den ρ=x.den ρ:=by
 cases x with
 |junk=>rfl
 |v x=>rfl
 |p j off =>
  cases hb:Nat.beq j k with
  |true=>have:=A1y hb;subst this;simp[SV.pub,SV.den]
  |false=>simp[SV.pub,hb]
def SV.pub_junk :x.pub k g≠.junk↔x≠.junk:=by
 cases x with
 |junk=>simp[SV.pub]
 |v x=>simp[SV.pub]
 |p j off=>cases hb:Nat.beq j k<;>simp[SV.pub,hb]
def SV.pub_p {k g j off:Nat}(h:x.pub k g=.p j off):x=.p j off/\j≠k:=by
 cases x with
 |junk=>cases h
 |v x=>cases h
 |p j' off' =>
  cases hb:Nat.beq j' k with
  |true=>simp[SV.pub,hb]at h
  |false =>
   simp[SV.pub,hb]at h;obtain⟨rfl,rfl⟩:=h;exact⟨rfl,fun e=>by subst e;simp at hb⟩
def Om (s:S)(k g:Nat):(s.pub k g).hp k=none:=by simp[S.pub]
def Lo (s:S)(h:j≠k):(s.pub k g).hp j=(s.hp j).map (Blk.pub k g):=by
 have:Nat.beq j k=false:=by rw[<-A87];exact fun e=>h (A1y e)
 simp[S.pub,this]
section rules
variable {c:Cx} {s:S} {u m:PH} {ρ:Nat->Nat} {a:Act} {w:World}
def Rel.pub (h:Rel c s u m ρ a w){k:Nat}{t:TypeId}{xs:List Value}(W:s.hp k=some ⟨t,xs.map SV.v⟩):Rel c (s.pub k (ρ k)) u (m.upd (ρ k) (.cells xs.toArray t (0,0))) ρ a w:=by
 obtain⟨⟨cs,V,Y,Z⟩,e4,e5,e6⟩:=h.box k _ W;have N:cs=xs.toArray:=by
  apply Array.ext
  ·simpa using Y
  intro i D E;have:=Z i (.v xs[i]) (by simp at E;simp[E]) mV;rw[A2v D]at this;simpa[SV.den] using this
 subst N;have R:∀ j,s.hp j≠none->j≠k->ρ j≠ρ k:=fun j C f e=>f (h.inj j k C (by rw[W];simp) e);refine⟨h.sz,fun d O=>?_,h.df.of fun r e _ hu F=>⟨e,hu,by rw[Ad _ _ (fun X=>by rw[X,V]at e;cases e)];exact F⟩,fun j b J=>?_,fun i j hi C he=>?_,⟨fun d j off O=>?_,fun i b j off hi F=>?_⟩,⟨h.gd.pu,fun g o A=>?_,fun g=>?_,h.gd.cl⟩,⟨h.gr.sz,h.gr.old,h.gr.us,fun g A F=>?_,h.gr.io,h.gr.dr⟩⟩
 ·have Q:s.tm d≠.junk:=SV.pub_junk.1 O;show a.tmps[d]?=some (((s.tm d).pub k (ρ k)).den ρ);rw[SV.pub_den];exact h.tm d Q
 ·by_cases f:j=k
  ·subst f;rw[Om]at J;cases J
  rw[Lo _ f]at J;obtain⟨K,z,rfl⟩:=A5n.1 J;obtain⟨⟨L,f1,f2,f3⟩,f4,f5,f6⟩:=h.box j K z;refine⟨⟨L,f1,by simp[Blk.pub,f2],fun i x hi hx=>?_⟩,f4,f5,?_⟩
  ·simp only[Blk.pub,A1a]at hi;obtain⟨y,T,rfl⟩:=A5n.1 hi;rw[SV.pub_den];exact f3 i y T (SV.pub_junk.1 hx)
  rw[Ad _ _ (R j (by rw[z];simp) f)];exact f6
 ·have D:∀ j,(s.pub k (ρ k)).hp j≠none->s.hp j≠none:=by
   intro j C I;by_cases f:j=k
   ·subst f;exact C (Om _ _ _)
   rw[Lo _ f,I]at C;exact C rfl
  exact h.inj i j (D i hi) (D j C) he
 ·obtain⟨D,E⟩:=SV.pub_p O;rw[Lo _ E];have:=h.lv.1 d j off D;intro I;exact this (by simpa using I)
 ·by_cases H:i=k
  ·subst H;rw[Om]at hi;cases hi
  rw[Lo _ H]at hi;obtain⟨K,z,rfl⟩:=A5n.1 hi;simp only[Blk.pub,A1b]at F;obtain⟨y,T,U⟩:=F;obtain⟨rfl,E⟩:=SV.pub_p U;rw[Lo _ E];have:=h.lv.2 i K j off z T;intro I;exact this (by simpa using I)
 ·by_cases n:g=ρ k
  ·subst n;rw[Ab]at A;simp only[A1f]at A;subst A;exact V
  rw[Ad _ _ n]at A;exact h.gd.pm g o A
 ·by_cases n:g=ρ k
  ·subst n;exact .inl e5
  rw[Ad _ _ n];exact h.gd.ap g
 rw[Ad _ _ oV];exact h.gr.ms g A F
end rules
section rules2
variable {P:Program} [A6 P] {fn:Func} {Post:Ce} {st:List KI×S} {u m:PH}
def G.pub (k:Nat)(t:TypeId)(xs:List Value)(h:F2 (ctl P 100 st).1=true)(f:(ctl P 100 st).2.hp k=some ⟨t,xs.map SV.v⟩)
 (C:∀ g,u g=none->m g=none->G P fn Post ((ctl P 100 st).1,(ctl P 100 st).2.pub k g) u (m.upd g (.cells xs.toArray t (0,0)))):G P fn Post st u m:=by
 refine⟨L3 100 st ?_⟩;rw[Sym.ofNo h];intro c ρ a w e n;obtain⟨_,_,z,A⟩:=n.box k _ f;have:=(C (ρ k) z A).out;rw[Sym.ofNo (by exact h)]at this;exact this c ρ a w e (n.pub f)
end rules2
end
section
variable {g:Nat}{x y:PH}
variable [Cl] [Co] [Pu]
def PH.or (x y:PH):PH:=fun g=>match x g with|some o=>some o|none=>y g
def PH.or_l {o:Obj}(h:x g=some o):x.or y g=some o:=by simp[PH.or,h]
def PH.or_r (h:x g=none):x.or y g=y g:=by simp[PH.or,h]
def Bv.frameM {u mf mc z j:PH}{w w':World}(h:Bv u (mf.or mc) w)(D:Hp mf mc)(g1:Bv z j w')(g2:B0 u mc w z j w'):Bv z (mf.or j) w'/\B0 u (mf.or mc) w z (mf.or j) w':=by
 have t:∀ g o,mf g=some o->g<w.heap.size/\mc g=none/\w'.heap[g]?=some o/\z g=none:=by
  intro g o e;have A:=h.pm g o (PH.or_l e);have C:mc g=none:=(D g).resolve_left (by rw[e];simp);have n:=Aw A;refine⟨n,C,by rw[g2.old g n C];exact A,?_⟩;rw[g2.us g n];exact (h.ap g).resolve_right (by rw[PH.or_l e];simp)
 refine⟨⟨g1.pu,fun g o e=>?_,fun g=>?_,g1.cl⟩,⟨g2.sz,fun g e f=>?_,g2.us,fun g e f=>?_,g2.io,g2.dr⟩⟩
 ·cases hx:mf g with
  |some o'=>rw[PH.or_l hx]at e;cases e;exact (t g _ hx).2.2.1
  |none=>rw[PH.or_r hx]at e;exact g1.pm g o e
 ·cases hx:mf g with
  |some o'=>exact .inl (t g _ hx).2.2.2
  |none=>rw[PH.or_r hx];exact g1.ap g
 ·cases hx:mf g with
  |some o'=>rw[PH.or_l hx]at f;cases f
  |none=>rw[PH.or_r hx]at f;exact g2.old g e f
 cases hx:mf g with
 |some o'=>rw[PH.or_l hx]at f;cases f
 |none=>rw[PH.or_r hx]at f⊢;exact g2.ms g e f
section rules
variable {P:Program} [A6 P] {fn:Func} {Post:Ce} {st:List KI×S} {u m:PH}
def Vl (st:List KI×S):Bool:=match st.1 with
 |.reg _ _ false _::_=>true
 |.reg _ ops true (i::_)::_=>match ops[i]? with|some o=>L6 ops i o.op||La ops st.2|none=>false
 |_=>false
def Abl {n:Nat}{e:Array Oper}{f:Bool}{i:Nat}{l:List Nat}{k:List KI}{s:S}{o:Oper}(j:e[i]?=some o)(h:Vl (.reg n e f (i::l)::k,s)=true):f=false\/L6 e i o.op=true\/La e s=true\/Pu.b=true:=by
 cases f with
 |false=>exact .inl rfl
 |true =>
  right;have h:=(by simpa[Vl,j] using h:L6 e i o.op=true\/La e s=true);exact h.imp (fun x=>x) .inl
def G.bigN {V:Vm}{K:Value->PH->PH->Prop}(h:Aj P (adv P st)=V)(J:V≠.other)(A:Vl (adv P st)=true)(N:∀ n F,Bc P n F=V->Fa F=false)
 (Q:∀ n (o:Oper),Bc P n o.op=V->∀ w,Bv u m w->Eg P n o w fun v w'=>∃ j t,Bv j t w'/\B0 u m w j t w'/\K v j t)
 (k:∀ v j t,PH.le u j->K v j t->G P fn Post (nx (adv P st) v) j t):G P fn Post st u m:=by
 refine G.stp ?_;obtain⟨Y,U,W,i,l,Z,s,o,e,E,O,L,T,R,f,D⟩:=Eq h J;have z:=Abl E (e▸A);rw[e];refine⟨?_⟩;refine Ob.big (K:=K) E O L T R (N _ _ f) (fun v j t X=>.inr z) (fun w C=>Q _ o f w C) (fun v j t H I=>?_);have:=(k v j t H I).out;rw[D]at this;exact this
def G.bigP {V:Vm}{K:Value->PH->PH->Prop}(h:Aj P (adv P st)=V)(H:V≠.other)(C:Pu.b=true)(J:∀ n D,Bc P n D=V->Fa D=false)
 (O:∀ n (o:Oper),Bc P n o.op=V->∀ w,Bv u m w->Eg P n o w fun v w'=>∃ j t,Bv j t w'/\B0 u m w j t w'/\K v j t)
 (k:∀ v j t,PH.le u j->K v j t->G P fn Post (nx (adv P st) v) j t):G P fn Post st u m:=by
 refine G.stp ?_;obtain⟨X,T,U,i,l,Y,s,o,e,N,L,I,R,Q,f,A⟩:=Eq h H;rw[e];refine⟨?_⟩;refine Ob.big (K:=K) N L I R Q (J _ _ f) (fun v j t W=>.inr (.inr (.inr (.inr C)))) (fun w z=>O _ o f w z) (fun v j t E F=>?_);have:=(k v j t E F).out;rw[A]at this;exact this
def G.callM (f:Nat)(args:List Value){mf mc:PH}{R:Value->PH->PH->Prop}(h:Aj P (adv P st)=.call f args)(A:Vl (adv P st)=true)(U:∀ args w,(callFunc f args).run P w=.ok (.enter f args) w)(W:m=mf.or mc)(E:Hp mf mc)(c:Ag P f args u mc R)
 (k:∀ v n j,PH.le u n->R v n j->G P fn Post (nx (adv P st) v) n (mf.or j)):G P fn Post st u m:=by
 subst W;refine G.bigN (K:=fun v n F=>∃ j,F=mf.or j/\R v n j) h mV A Dv (fun N o t w z=>?_) (fun v n F O Q=>?_)
 ·have D:Bv u mc w:=z.less (fun g o C=>by
   cases hx:mf g with
   |some o'=>have:=(E g).resolve_left (by rw[hx];simp);rw[this]at C;cases C
   |none=>rw[PH.or_r hx];exact C)
  refine Hq t U w _ (Calls.mono (c w D) fun e w' V=>?_);obtain⟨v,n,j,H,I,J,L⟩:=V;obtain⟨g1,g2⟩:=z.frameM E I J;exact⟨v,H,n,mf.or j,g1,g2,j,rfl,L⟩
 obtain⟨j,rfl,T⟩:=Q;exact k v n j O T
end rules
end
def N4 (u:PH)(es:List Value)(rs:List (List (List UInt8))):Prop:=es.length=rs.length/\∀ (j:Nat) (r:List (List UInt8)),rs[j]?=some r->∃ a c,es[j]?=some (.slice a r.length c)/\Cj u (.slice a r.length c) r
def N4.mono {u f:PH}{es:List Value}{e:List (List (List UInt8))}(h:N4 u es e)(t:PH.le u f):N4 f es e :=
 ⟨h.1,fun j r n=>by obtain⟨a,c,g,m⟩:=h.2 j r n;exact⟨a,c,g,Ac.mono m t⟩⟩
def C7 (u:PH)(v:Value)(rs:List (List (List UInt8))):Prop:=∃ es,Ac u v 1 es/\N4 u es rs
def C7.mono {u g:PH}{v:Value}{f:List (List (List UInt8))}(h:C7 u v f)(e:PH.le u g):C7 g v f:=by
 obtain⟨es,j,m⟩:=h;exact⟨es,j.mono e,m.mono e⟩
def C7.opn {u:PH}{v:Value}{e:List (List (List UInt8))}(h:C7 u v e):∃ a c,v=.slice a e.length c:=by
 obtain⟨es,f,g⟩:=h;obtain⟨a,c,rfl⟩:=f.opn;exact⟨a,c,by rw[g.1]⟩
def C7.row {u:PH}{a:Option Addr}{n c j:Nat}{g:List (List (List UInt8))}{r:List (List UInt8)}(h:C7 u (.slice a n c) g)(D:g[j]?=some r) :
 ∃ b off e f,a=some ⟨b,off,none⟩/\ElP u b (off+j*1) (.slice e r.length f)/\Cj u (.slice e r.length f) r:=by
 obtain⟨es,A,C⟩:=h;obtain⟨e,f,m,t⟩:=C.2 j r D;obtain⟨b,off,rfl,z⟩:=A.at' m;exact⟨b,off,e,f,rfl,z,t⟩
def Ajj {u:PH}{v:Value}{e:List (List (List UInt8))}{fid:Nat}{cap:List Value}(h:C7 u v e)(N:e.length<=1000000)
 (f:∀ args w,(callFunc fid args).run prog w=.ok (.enter fid args) w) (H:∀ r∈e,∀ j x,PH.le u j->Cj j x r->Fn0 prog fid (x::cap) j fun v _=>v=.bool false) :
 Fn0 prog 227 [v,.func (.func fid) #[] cap.toArray] u fun K _=>K=.int .i64 (-1):=by
 obtain⟨a,c,rfl⟩:=h.opn;refine Fn0.o func227<|G.l (ι:=Nat) (fun i=>[(0,sV a e.length c),(1,.v (.func (.func fid) #[] cap.toArray)),(7,iV e.length),(8,iV i)]) (fun _=>[])
  (fun i j C=>i<=e.length/\C=PH.mt) (fun i=>e.length-i) 0 ⟨oV,rfl⟩ ?_
 rintro J k F j C g ⟨L,rfl⟩;by_cases m:k<e.length
 ·refine G.lT k e.length ?_;have n:e[k]?=some e[k]:=A01 m;obtain⟨z,D,t,A,rfl,E,es⟩:=(h.mono g).row n;refine G.a z D e.length c k 1 oV<|G.lU none z (D+k*1) (.slice t e[k].length A) E<|G.call0 fid (.slice t e[k].length A::cap) kV f (H e[k] (A09 m) j _ g es) ?_;rintro P O I rfl;exact G.i k<|G.b (F (k+1) _ _ _ cV (g.trans I) ⟨oV,rfl⟩ oV)
 exact G.lF k e.length<|G.r (.int .i64 (-1)) ⟨rfl,rfl⟩
def Gd {u:PH}{v:Value}{f:List (List (List UInt8))}{fid:Nat}{cap:List Value}(h:C7 u v f)(m:f.length<=1000000)
 (e:∀ args w,(callFunc fid args).run prog w=.ok (.enter fid args) w) (j:∀ r∈f,∀ g x,PH.le u g->Cj g x r->Fn0 prog fid (x::cap) g fun v _=>v=.bool false) :
 Fn0 prog 175 [v,.func (.func fid) #[] cap.toArray] u fun n _=>n=.bool false:=by
 obtain⟨a,c,rfl⟩:=h.opn;refine Fn0.o func175<|G.c call227 (Ajj h m e j) ?_;rintro A z t rfl;exact G.hF (-1) 0<|G.r (.bool false) ⟨rfl,rfl⟩
def As5 {es:List Value}(h:∀ e∈es,∃ a n c,e=.slice a n c):A9 1 es:=by
 intro e g;obtain⟨a,n,c,rfl⟩:=h e g;exact⟨rfl,fun x f=>by simp[Value.cells]at f;subst f;rfl⟩
section
variable {u:PH}{x:Value}
def Cv (A:List (List Rat)):List (List (List UInt8)):=A.map fun r=>r.map Ae
def Fz:Ae 0 = [48]:=by rw[Ae,if_pos (by rfl)];exact E5
def Sv:Ae 1 = [49]:=by rw[Ae,if_pos (by rfl)];exact Hf
def Atu {r:List (List UInt8)}(h:Cj u x r)(e:r.length<=12):Fn0 prog 235 [x] u fun v _=>v=.bool false:=by
 obtain⟨a,c,rfl⟩:=Ac.opn h;rw[Cb];exact Fn0.o func235<|G.gF r.length 12<|G.r (.bool false) ⟨rfl,rfl⟩
def Al0 {e:List Rat}(h:Cj u x (e.map Ae))(g:∀ q∈e,Tx q)(f:e.length<=1000000):Fn0 prog 237 [x] u fun v _=>v=.bool false:=by
 obtain⟨a,c,rfl⟩:=Ac.opn h;refine Fn0.o func237<|G.c call164 (Apy h g f) ?_;rintro n m j rfl;exact G.r (.bool false) ⟨rfl,rfl⟩
end
def FnR (P:Program)(f:FuncId)(args:List Value)(u mc:PH)(R:Value->PH->Prop):Prop:=Ag P f args u mc (fun v u' m'=>m'=mc/\R v u')
def By (mc:PH):PH.mt.or mc=mc:=by funext g;rfl
def Ef (mc:PH):Hp PH.mt mc:=fun _=>.inl rfl
def Aj3 {u mc:PH}{x:Value}{r:List (List UInt8)}{g n:Nat}{t:TypeId}(h:Cj u x r)(j:r.length=n)(m:n<=12)(f:mc g=some (.cells #[.int .i64 n] t (0,0))) :
 FnR prog 236 [x,.pointer (some ⟨g,0,none⟩)] u mc fun v _=>v=.bool false:=by
 obtain⟨a,c,rfl⟩:=Ac.opn h;rw[Cb];refine Ag.o func236<|G.lM none g 0 (.int .i64 n) (fun i y e=>by
  match i,e with
  |0,e=>simp[Value.cells]at e;subst e;exact⟨_,_,_,f,rfl⟩) ?_
 exact G.nF r.length n<|G.r (.bool false) ⟨rfl,rfl⟩
def Ajr {u mc:PH}{v:Value}{e:List (List (List UInt8))}{fid:Nat}{cap:List Value}(h:C7 u v e)(O:e.length<=1000000)
 (f:∀ args w,(callFunc fid args).run prog w=.ok (.enter fid args) w) (H:∀ r∈e,∀ j x,PH.le u j->Cj j x r->FnR prog fid (x::cap) j mc fun v _=>v=.bool false) :
 FnR prog 227 [v,.func (.func fid) #[] cap.toArray] u mc fun L _=>L=.int .i64 (-1):=by
 obtain⟨a,c,rfl⟩:=h.opn;refine Ag.o func227<|G.l (ι:=Nat) (fun i=>[(0,sV a e.length c),(1,.v (.func (.func fid) #[] cap.toArray)),(7,iV e.length),(8,iV i)]) (fun _=>[])
  (fun i j C=>i<=e.length/\C=mc) (fun i=>e.length-i) 0 ⟨oV,rfl⟩ ?_
 rintro J k F j C g ⟨N,rfl⟩;by_cases m:k<e.length
 ·refine G.lT k e.length ?_;have n:e[k]?=some e[k]:=A01 m;obtain⟨z,D,t,A,rfl,E,es⟩:=(h.mono g).row n;refine G.a z D e.length c k 1 oV<|G.lU none z (D+k*1) (.slice t e[k].length A) E<|G.callM fid (.slice t e[k].length A::cap) kV kV f (By _).symm (Ef _) (H e[k] (A09 m) j _ g es) ?_;rintro Q P K I ⟨rfl,rfl⟩;rw[By];exact G.i k<|G.b (F (k+1) _ _ _ cV (g.trans I) ⟨oV,rfl⟩ oV)
 exact G.lF k e.length<|G.r (.int .i64 (-1)) ⟨rfl,rfl⟩
def Pk {u mc:PH}{v:Value}{f:List (List (List UInt8))}{fid:Nat}{cap:List Value}(h:C7 u v f)(m:f.length<=1000000)
 (e:∀ args w,(callFunc fid args).run prog w=.ok (.enter fid args) w) (j:∀ r∈f,∀ g x,PH.le u g->Cj g x r->FnR prog fid (x::cap) g mc fun v _=>v=.bool false) :
 FnR prog 175 [v,.func (.func fid) #[] cap.toArray] u mc fun t _=>t=.bool false:=by
 obtain⟨a,c,rfl⟩:=h.opn;refine Ag.o func175<|G.callM _ _ kV kV call227 (By _).symm (Ef _) (Ajr h m e j) ?_;rintro C A n z ⟨rfl,rfl⟩;rw[By];exact G.hF (-1) 0<|G.r (.bool false) ⟨rfl,rfl⟩
section
variable [Cl] [Co] [Pu]
section rules
variable {P:Program} [A6 P] {fn:Func} {Post:Ce} {st:List KI×S} {u m:PH}
def G.storeM (sz b off:Nat)(t:TypeId)(cs:List Value)(e:Value)(h:Aj P (adv P st)=.store (some sz) (.pointer (some ⟨b,off,none⟩)) e)(Q:m b=some (.cells cs.toArray t (0,0)))(R:∀ x∈cs,Ax x=true)(hl:off+sz<=cs.length)(H:e.cells.size=sz)(F:e.cells.toList.all Ax=true)
 (k:G P fn Post (nx (adv P st) undef) u (m.upd b (.cells (cs.take off++e.cells.toList++cs.drop (off+sz)).toArray t (0,0)))):G P fn Post st u m:=by
 refine G.big (K:=fun V U T=>U=u/\V=undef/\T=m.upd b (.cells (cs.take off++e.cells.toList++cs.drop (off+sz)).toArray t (0,0))) h mV (fun g op L=>?_) (.inr fun g op L=>?_) (fun g o A w C=>?_) (fun V U T _ hk=>?_)
 ·obtain⟨N,X,Y,rfl,_⟩:=Fq L;rfl
 ·obtain⟨N,X,Y,rfl,_⟩:=Fq L;rfl
 ·obtain⟨N,X,Y,O,W,Z,ht⟩:=Fq A;obtain⟨E,a0,D,pos,after,j⟩:=o;simp only at O;subst O;rw[A1o]at F;have J:=C.pm b _ Q;have z:=run_storeCells_at P b off t e.cells.toList 0 cs.toArray w J (by simp[H];omega) (fun x f=>Gl (F x f));simp only[A3s,A3o,H,A3t]at z;have n:∀ x∈(cs.take off++e.cells.toList++cs.drop (off+sz)).toArray.toList,Ax x=true:=by
   intro x f;simp only[A3t,A1h]at f;rcases f with (f|f)|f
   ·exact R x (A27 f)
   ·exact F x f
   exact R x (A3x f)
  obtain⟨g1,g2⟩:=C.setM Q n;unfold Eg;have I:(execOp g ⟨E,.store N X Y,D,pos,after,j⟩).run P w=.ok .skip (w.setRow b (cs.take off++e.cells.toList++cs.drop (off+sz)).toArray):=by
   simp only[execOp,W,Z];simp only[A2k]at z⊢;simp[Instr.storeAt,Instr.sureAddr,storeVar,Bf ht,H,z]
  rw[I];exact⟨u,_,g1,g2,rfl,rfl,rfl⟩
 obtain⟨rfl,rfl,rfl⟩:=hk;exact k
end rules
end
section
variable {a:Act}{c:Cx}{s:S}{w:World}{ρ:Nat->Nat}
variable [Cl] [Pu]
section rules
variable {P:Program} [A6 P] {fn:Func} {Post:Ce} {st:List KI×S} {u m:PH}
section based
variable [Co]
def Rel.less {c:Cx}{s:S}{ρ:Nat->Nat}{a:Act}{w:World}(h:Rel c s u m ρ a w){j:PH}(z:PH.le j m):Rel c s u j ρ a w:=by
 have t:∀ g,m g=none->j g=none:=fun g f=>by
  cases e:j g with
  |none=>rfl
  |some o=>rw[z g o e]at f;cases f
 refine⟨h.sz,h.tm,h.df.of fun r e _ H n=>⟨e,H,t _ n⟩,fun k b F=>?_,h.inj,h.lv,h.gd.less z,⟨h.gr.sz,h.gr.old,h.gr.us,fun g f n=>t g (h.gr.ms g f n),h.gr.io,h.gr.dr⟩⟩;obtain⟨A,C,D,E⟩:=h.box k b F;exact⟨A,C,D,t _ E⟩
def G.drop (g:PH)(h:F2 (ctl P 100 st).1=true)(j:PH.le g m)(k:G P fn Post (ctl P 100 st) u g):G P fn Post st u m:=by
 refine⟨L3 100 st ?_⟩;have f:=k.out;rw[Sym.ofNo h]at f⊢;intro c ρ a w e n;exact f c ρ a w e (n.less j)
def Asq (P:Program)(s:S)(m:PH)(r:ResultVar)(v:Value):Prop :=
 Yx P s r=some v\/∃ a t g off kd,r=.cell a t/\s.tm a=.v (.pointer (some ⟨g,off,none⟩))/\Zd P t=some kd/\Wg kd v=true/\ElP m g off v
def T6 (P:Program)(s:S)(m:PH):List ResultVar->List Value->Prop
 |[],[]=>True
 |r::rs,v::vs=>Asq P s m r v/\T6 P s m rs vs
 |_,_=>False
def Aio (e:Rel c s u m ρ a w){r:ResultVar}{x:Value}(h:Asq P s m r x):(Ms a.tmps r).run P w=.ok x w:=by
 rcases h with h|⟨p,t,g,off,A,rfl,f,j,n,z⟩
 ·exact Ys e h
 have:=e.tm p (by rw[f];simp);rw[f]at this;simp[Ms,this,SV.den,asAddr,Kj j n z e.gd.pm]
def Qo (g:Rel c s u m ρ a w){l:List Value}(h:T6 P s m fn.results.toList l):(results fn a.tmps).run P w=.ok (Pc l) w:=by
 have key:∀ (f:List ResultVar) (l:List Value),T6 P s m f l->(f.mapM (Ms a.tmps)).run P w=.ok l w:=by
  intro f;induction f with
  |nil=>intro l h;cases l with|nil=>simp|cons=>exact h.elim
  |cons r f ih =>
   intro l h;cases l with
   |nil=>exact h.elim
   |cons x xs =>
    rw[A9p];simp only[Sem.run_bind,Aio g h.1,Result.andThen_ok,ih xs h.2,Sem.run_pure]
 have e:results fn a.tmps=(do let vs <-fn.results.mapM (Ms a.tmps);pure (if h:vs.size=1 then vs[0] else .tuple vs)):=by
  unfold results;rfl
 rw[e,<-A5x (xs:=fn.results),A81];simp only[Sem.run_bind,Sem.run_map,key _ l h,Result.andThen_ok,Sem.run_pure]
 congr 1
 match l with
 |[]=>rfl
 |[x]=>rfl
 |x::y::l=>rfl
def Akf (st:List KI×S):Bool:=match st.1 with
 |.code .ret::_=>true
 |[]=>true
 |_=>false
end based
def G.retM (l:List Value)(t:PH)(h:Akf (adv P st)=true)(n:T6 P (adv P st).2 m fn.results.toList l)(g:PH.le t m)(hp:Post.post (Pc l) u t):G P fn Post st u m:=by
 refine G.stp ?_;generalize adv P st=st' at h n;obtain⟨z,s⟩:=st';unfold Akf at h;simp only at h;split at h
 ·refine⟨?_⟩;intro c ρ a w j e;exact wp_ret (J6 (e.ends fun w' f=>⟨Qo (a:=⟨a.tmps,[]⟩) f n,_,_,_,rfl,(f.less g).gd,(f.less g).gr,hp⟩).1 _)
 ·refine⟨?_⟩;intro c ρ a w j e;exact (e.ends fun w' f=>⟨Qo (a:=⟨a.tmps,[]⟩) f n,_,_,_,rfl,(f.less g).gd,(f.less g).gr,hp⟩).2
 cases h
def PH.mt_le (m:PH):PH.le PH.mt m:=fun _ _ h=>by cases h
end rules
end
section
variable {A:List (List Rat)}
def A3 (A:List (List Rat)):(Cv A).length=A.length:=by simp[Cv]
def Dw {j:Nat}{r:List Rat}(h:A[j]?=some r):(Cv A)[j]?=some (r.map Ae):=by simp[Cv,h]
def Mg {r:List (List UInt8)}(h:r∈Cv A):∃ q∈A,r=q.map Ae:=by
 simp only[Cv,A1b]at h;obtain⟨q,e,rfl⟩:=h;exact⟨q,e,rfl⟩
def Vs (m:PH)(g:Nat)(z:Int)(t:TypeId):ElP (m.upd g (.cells [Value.int .i64 z].toArray t (0,0))) g 0 (.int .i64 z):=fun i y e=>by
 match i,e with
 |0,e=>simp[Value.cells]at e;subst e;exact⟨_,_,_,Ab _ _ _,rfl⟩
def Ayc {u:PH}{v:Value}{k:Nat}(h:C7 u v (Cv A))(W:A.length<=12)(I:k<=12)(t:∀ r∈A,r.length=k)(h0:A.length=0->k=0)(hT:∀ r∈A,∀ q∈r,Tx q) :
 Fn0 prog 186 [v] u fun T _=>T=.tuple #[.int .i64 A.length,.int .i64 k,.int .i64 0]:=by
 obtain⟨a,c,rfl⟩:=h.opn;rw[A3]at h⊢;refine Fn0.o func186<|G.gF A.length 12<|G.c call175 (Gd (fid:=235) (cap:=[]) h (by rw[A3];omega) call235 (fun r e C x _ f=>?_)) ?_
 ·obtain⟨q,j,rfl⟩:=Mg e;exact Atu f (by rw[A03,t q j];omega)
 rintro Y X z rfl;have m:∀ r∈Cv A,r.length=k:=fun r e=>by
  obtain⟨q,j,rfl⟩:=Mg e;rw[A03,t q j]
 by_cases n:0<A.length
 ·refine G.gT A.length 0 ?_;have D:A[0]?=some A[0]:=A01 n;obtain⟨F,J,K,L,rfl,H,es⟩:=(h.mono z).row (Dw D);rw[A03,t _ (A09 n)]at H;refine G.a F J A.length c 0 1 oV<|G.lU none F (J+0*1) (.slice K k L) H<|G.pub 1 3 [.int .i64 k] kV kV ?_;intro g O N;refine G.callM _ _ kV kV call175 (By _).symm (Ef _) (Pk (fid:=236) (cap:=[.pointer (some ⟨g,0,none⟩)]) (h.mono z) (by rw[A3];omega) call236 (fun r e C x _ f=>Aj3 f (m r e) I (Ab _ _ _))) ?_;rintro U Q E l2 ⟨rfl,rfl⟩;rw[By];refine G.c call175 (Gd (fid:=237) (cap:=[]) (h.mono (z.trans l2)) (by rw[A3];omega) call237 (fun r e C x _ f=>?_)) ?_
  ·obtain⟨q,j,rfl⟩:=Mg e;exact Al0 f (hT q j) (by rw[t q j];omega)
  rintro V R P rfl;exact G.lM none g 0 (.int .i64 k) (Vs _ _ _ _)<|G.storeM 1 g 0 3 [.int .i64 k] (.int .i64 k) kV (Ab _ _ _) (fun x f=>by simp at f;subst f;rfl) mV rfl rfl<|G.retM [.int .i64 A.length,.int .i64 k,.int .i64 0] PH.mt kV ⟨.inl kV,.inr ⟨3,3,g,0,none,rfl,kV,kV,rfl,Vs _ _ _ _⟩,.inl kV,trivial⟩ (PH.mt_le _) ⟨rfl,rfl⟩
 refine G.gF A.length 0 ?_;obtain rfl:k=0:=h0 oV;refine G.pub 1 3 [.int .i64 (0:Nat)] kV kV ?_;intro g O N;refine G.callM _ _ kV kV call175 (By _).symm (Ef _) (Pk (fid:=236) (cap:=[.pointer (some ⟨g,0,none⟩)]) (h.mono z) (by rw[A3];omega) call236 (fun r e C x _ f=>Aj3 f (m r e) I (Ab _ _ _))) ?_;rintro U Q E l2 ⟨rfl,rfl⟩;rw[By];refine G.c call175 (Gd (fid:=237) (cap:=[]) (h.mono (z.trans l2)) (by rw[A3];omega) call237 (fun r e C x _ f=>?_)) ?_
 ·obtain⟨q,j,rfl⟩:=Mg e;exact Al0 f (hT q j) (by rw[t q j];omega)
 rintro V R P rfl;exact G.lM none g 0 (.int .i64 (0:Nat)) (Vs _ _ _ _)<|G.storeM 1 g 0 3 [.int .i64 (0:Nat)] (.int .i64 (0:Nat)) kV (Ab _ _ _) (fun x f=>by simp at f;subst f;rfl) mV rfl rfl<|G.retM [.int .i64 A.length,.int .i64 (0:Nat),.int .i64 0] PH.mt kV ⟨.inl kV,.inr ⟨3,3,g,0,none,rfl,kV,kV,rfl,Vs _ _ _ _⟩,.inl kV,trivial⟩ (PH.mt_le _) ⟨rfl,rfl⟩
end
section
variable {A:List (List Rat)}{i j:Nat}{u:PH}{v:Value}
def C7.cell {a:Option Addr}{n c i j:Nat}(h:C7 u (.slice a n c) (Cv A))(hi:i<A.length)(C:j<A[i].length) :
 ∃ b off b' f g,a=some ⟨b,off,none⟩/\ElP u b (off+i*1) (.slice (some ⟨b',f,none⟩) A[i].length g)/\ElP u b' (f+j*1) (.string (mkS (Ae A[i][j]))):=by
 obtain⟨b,off,D,g,rfl,m,t⟩:=h.row (Dw (A01 hi));rw[A03]at m t;obtain⟨b',f,rfl,z⟩:=Ac.at' t (j:=j) (e:=.string (mkS (Ae A[i][j]))) (by simp[Cc,A01 C]);exact⟨b,off,b',f,g,rfl,m,z⟩
structure Sq (A:List (List Rat)):Prop where
 le:A.length<=12
 row:∀ r∈A,r.length=A.length
 tx:∀ r∈A,∀ q∈r,Tx q
def Sq.len (h:Sq A)(hi:i<A.length):A[i].length=A.length:=h.row _ (A09 hi)
def Sq.tx' (h:Sq A)(hi:i<A.length)(e:j<A[i].length):Tx A[i][j]:=h.tx _ (A09 hi) _ (A09 e)
def Avc (A:List (List Rat)):Prop:=∀ (i k:Nat) (hi:i<A.length) (hk:k<A.length) (h1:k<A[i].length) (h2:i<A[k].length),A[i][k]=A[k][i]
def Adf (h:C7 u v (Cv A))(e:Sq A):Fn0 prog 186 [v] u fun f _=>f=.tuple #[.int .i64 A.length,.int .i64 A.length,.int .i64 0] :=
 Ayc h e.le e.le e.row (fun h=>h) e.tx
def Aiy (h:C7 u v (Cv A))(t:Sq A)(X:Avc A):Fn0 prog 229 [v] u fun v' _=>v'=.bool true:=by
 obtain⟨a,c,rfl⟩:=h.opn;rw[A3]at h⊢;have W:=t.le;refine Fn0.o func229<|G.c call186 (Adf h t) ?_;rintro v1 u1 Y rfl;refine G.nF 0 0<|G.nF A.length A.length<|G.l (ι:=Nat) (fun i=>[(0,sV a A.length c),(22,iV A.length),(23,iV i)]) (fun _=>[])
  (fun i Z E=>i<=A.length/\E=PH.mt) (fun i=>A.length-i) 0 ⟨oV,rfl⟩ ?_
 rintro J i V u2 m2 l2 ⟨hi,rfl⟩;by_cases m:i<A.length
 ·refine G.lT i A.length<|G.l (ι:=Nat) (fun k=>[(0,sV a A.length c),(22,iV A.length),(23,iV i),(6,iV i),(26,iV i),(27,iV k)]) (fun _=>[])
   (fun k Z E=>k<=i/\E=PH.mt) (fun k=>i-k) 0 ⟨oV,rfl⟩ ?_
  rintro J2 k C u3 m3 D ⟨hk,rfl⟩;by_cases K:k<i
  ·refine G.lT k i ?_;have g:k<A.length:=oV;have f:k<A[i].length:=by rw[t.len m];omega
   have e:i<A[k].length:=by rw[t.len g];omega
   have I:=h.mono (Y.trans (l2.trans D));obtain⟨n,z,F,L,c2,rfl,Q,R⟩:=I.cell m f;refine G.a n z A.length c i 1 oV<|G.lU none n (z+i*1) _ Q<|G.a F L A[i].length c2 k 1 f<|G.lU none F (L+k*1) _ R ?_;obtain⟨b3,o3,H,N,O,P,T,U⟩:=I.cell g e;cases P;exact G.a n z A.length c k 1 oV<|G.lU none n (z+k*1) _ T<|G.a H N A[k].length O i 1 e<|G.lU none H (N+i*1) _ U<|G.y (Ae A[i][k]) (Ae A[k][i]) (by rw[X i k m g f e])<|G.i k<|G.b (C (k+1) _ _ _ cV D ⟨oV,rfl⟩ oV)
  exact G.lF k i<|G.i i<|G.b (V (i+1) _ _ _ cV (l2.trans D) ⟨oV,rfl⟩ oV)
 exact G.lF i A.length<|G.r (.bool true) ⟨rfl,rfl⟩
end
end Go.Proofs.YtemmheaocgmebaaGreatDoor
