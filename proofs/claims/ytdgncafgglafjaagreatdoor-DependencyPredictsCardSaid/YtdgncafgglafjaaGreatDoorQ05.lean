/- Parts of one proof, joined by a program. -/
import Derived.Test.YtdgncafgglafjaaGreatDoorQ04
import Derived.Shelf.Strings.Builder1
import Derived.Shelf.Strings.Builder2
import Derived.Shelf.Small.Bits
import Derived.Shelf.Small.Wraps
import Derived.Shelf.Strings.BuilderF
import Derived.Shelf.Strings.BuilderK
import Derived.Shelf.Strings.Builder2Cap
import Derived.Shelf.Strconv.Itoa0
import Derived.Shelf.Strconv.Itoa1
import Derived.Shelf.LaysM
import Derived.Shelf.Strconv.Itoa2
import Derived.Shelf.Strconv.Itoa3
import Derived.Shelf.Strconv.Lower
import Derived.Shelf.Strconv.ParseUint10
import Derived.Shelf.Strconv.ParseUintEmpty
import Derived.Shelf.Strconv.ParseUint10b64
import Derived.Shelf.Strconv.ParseUint10b32
import Derived.Shelf.Strconv.ParseUint10b16
import Derived.Shelf.Strconv.ParseUint10b8
import Derived.Shelf.Strconv.ParseUint10At
import Derived.Ground.MpProg
import Derived.Shelf.Pu.ParseUintPublic10
import Derived.Shelf.Strings.Search1
import Derived.Shelf.Strings.Search2
import Derived.Shelf.Strings.Cut
import Derived.Shelf.Strings.Shaped
import Derived.Shelf.Strings.Prefix
import Derived.Shelf.Bits.Mul64
import Derived.Shelf.Strings.Repeat
import Derived.Shelf.Strings.BuilderCap
import Derived.Test.YtdgncafgglafjaaGreatDoorProg
import Derived.Lib.AppendIntMem
import Derived.Lib.AtoiErrMem
import Derived.Lib.ConvBytes
set_option linter.defProp false
set_option linter.unusedVariables false
set_option linter.unusedSimpArgs false
set_option linter.unusedSectionVars false
set_option maxHeartbeats 16000000
namespace Go.Proofs.YtdgncafgglafjaaGreatDoor
open Go.Proofs.Tryz
open Go.RowKit
def A5f:=@Option.map_eq_some_iff
def A6t:=@Array.size_replicate
def A02:=@List.map_append
def A55:=@Option.isSome_iff_exists
def A4l:=@Nat.le_of_dvd
def Baq:=@Nat.one_dvd
def Bas:=@Nat.lcm_dvd
def A7v:=@Nat.dvd_trans
def A71:=@Nat.dvd_lcm_left
end Go.Proofs.YtdgncafgglafjaaGreatDoor
section
namespace Go.Proofs
open Go.Shelf
def Tryz.lays169_ren:Go.Shelf.Ren:=⟨fun|169=>241|n=>n,fun|70=>288|9=>9|0=>0|72=>290|37=>262|127=>328|3=>3|5=>5|n=>n,fun|n=>n⟩
theorem Tryz.lays169:Go.Proofs.Lays.n169 Tryz.prog Tryz.lays169_ren:={
 mixed:=by kernel_rfl
 f169:=Tryz.func241.trans (congrArg some (by kernel_rfl))
 t0:=Tryz.underlying0
 a0:=Tryz.isAgg0
 z0:=Tryz.sizeOf0
 v0:=Tryz.zeroValue0
 t3:=Tryz.underlying3
 a3:=Tryz.isAgg3
 z3:=Tryz.sizeOf3
 v3:=Tryz.zeroValue3
 t9:=Tryz.underlying9
 a9:=Tryz.isAgg9
 z9:=Tryz.sizeOf9
 v9:=Tryz.zeroValue9
 t37:=Tryz.underlying262
 a37:=Tryz.isAgg262
 z37:=Tryz.sizeOf262
 v37:=Tryz.zeroValue262
 t70:=Tryz.underlying288
 a70:=Tryz.isAgg288
 z70:=Tryz.sizeOf288
 v70:=Tryz.zeroValue288
 t72:=Tryz.underlying290
 a72:=Tryz.isAgg290
 z72:=Tryz.sizeOf290
 v72:=Tryz.zeroValue290
 t127:=Tryz.underlying328
 a127:=Tryz.isAgg328
 z127:=Tryz.sizeOf328
 v127:=Tryz.zeroValue328 }
theorem Tryz.Builder_Extra_169:Builder.Extra Tryz.prog Tryz.lays169_ren:={
 sizeBuilder:=by kernel_rfl
 liesBuilder:=by kernel_rfl
 t5:=Tryz.underlying5
 a5:=Tryz.isAgg5
 z5:=Tryz.sizeOf5
 v5:=Tryz.zeroValue5
 infoByte:=by kernel_rfl
 cellsByte:=by kernel_rfl
 sizeByte:=by kernel_rfl
 neB5:=by decide }
open Go.RowKit in
theorem Tryz.Builder_String (B b:Nat)(l:List UInt8)(w:World)(h:Lib.IsBuilder 290 5 B b (Lib.byteCells l) w)(h0:l≠[]) :
 Calls Tryz.prog 241 #[.pointer (some ⟨b,0,none⟩)] w fun e w'=>e=.returned (.string ⟨l.toArray⟩)/\Below B w w':=Any.Builder_String Tryz.lays169 Tryz.Builder_Extra_169 B b l w h h0
def Tryz.lays210_ren:Go.Shelf.Ren:=⟨fun|210=>233|206=>267|n=>n,fun|9=>9|4=>4|3=>3|n=>n,fun|n=>n⟩
def Tryz.lays103_ren:Go.Shelf.Ren:=⟨fun|103=>193|210=>233|206=>267|n=>n,fun|9=>9|4=>4|24=>253|3=>3|n=>n,fun|n=>n⟩
theorem Tryz.lays103:Go.Proofs.Lays.n103 Tryz.prog Tryz.lays103_ren:={
 mixed:=by kernel_rfl
 f103:=Tryz.func193.trans (congrArg some (by kernel_rfl))
 f206:=Tryz.func267.trans (congrArg some (by kernel_rfl))
 f210:=Tryz.func233.trans (congrArg some (by kernel_rfl))
 t3:=Tryz.underlying3
 a3:=Tryz.isAgg3
 z3:=Tryz.sizeOf3
 v3:=Tryz.zeroValue3
 t4:=Tryz.underlying4
 a4:=Tryz.isAgg4
 z4:=Tryz.sizeOf4
 v4:=Tryz.zeroValue4
 t9:=Tryz.underlying9
 a9:=Tryz.isAgg9
 z9:=Tryz.sizeOf9
 v9:=Tryz.zeroValue9
 t24:=Tryz.underlying253
 a24:=Tryz.isAgg253
 z24:=Tryz.sizeOf253
 v24:=Tryz.zeroValue253 }
open Go.RowKit in
theorem Tryz.strings_CutPrefix (s p:ByteArray)(w:World) :
 Calls Tryz.prog 193 #[.string s,.string p] w fun e w'=>e=.returned (.tuple #[.string ⟨(Lib.trimPrefix s.data.toList p.data.toList).toArray⟩,.bool (Lib.hasPrefix s.data.toList p.data.toList)])/\w'=w:=Any.strings_CutPrefix Tryz.lays103 s p w
def Tryz.lays283_ren:Go.Shelf.Ren:=⟨fun|283=>274|n=>n,fun|3=>3|9=>9|4=>4|n=>n,fun|n=>n⟩
theorem Tryz.lays283:Go.Proofs.Lays.n283 Tryz.prog Tryz.lays283_ren:={
 mixed:=by kernel_rfl
 f283:=Tryz.func274.trans (congrArg some (by kernel_rfl))
 t3:=Tryz.underlying3
 a3:=Tryz.isAgg3
 z3:=Tryz.sizeOf3
 v3:=Tryz.zeroValue3
 t4:=Tryz.underlying4
 a4:=Tryz.isAgg4
 z4:=Tryz.sizeOf4
 v4:=Tryz.zeroValue4
 t9:=Tryz.underlying9
 a9:=Tryz.isAgg9
 z9:=Tryz.sizeOf9
 v9:=Tryz.zeroValue9 }
open Go.Lib in
theorem Tryz.internal_strconv_small (i:Nat)(h:i<100)(w:World) :
 Calls Tryz.prog 274 #[.int .i64 i] w fun e w'=>e=.returned (.string ⟨(Lib.decDigits i).toArray⟩)/\w'=w:=Any.internal_strconv_small Tryz.lays283 i h w
def Tryz.laysM284_ren:Go.Shelf.Ren:=⟨fun|284=>275|129=>254|317=>294|318=>295|n=>n,fun|53=>251|3=>3|212=>342|0=>0|4=>4|46=>274|5=>5|9=>9|n=>n,fun|17=>3|n=>n⟩
theorem Tryz.laysM284:Go.Proofs.LaysM.n284 Tryz.prog Tryz.laysM284_ren:={
 mixed:=by kernel_rfl
 f129:=Tryz.func254.trans (congrArg some (by kernel_rfl))
 f284:=Tryz.func275.trans (congrArg some (by kernel_rfl))
 f317:=Tryz.func294.trans (congrArg some (by kernel_rfl))
 f318:=Tryz.func295.trans (congrArg some (by kernel_rfl))
 t0:=Tryz.underlying0
 a0:=Tryz.isAgg0
 z0:=Tryz.sizeOf0
 v0:=Tryz.zeroValue0
 t3:=Tryz.underlying3
 a3:=Tryz.isAgg3
 z3:=Tryz.sizeOf3
 v3:=Tryz.zeroValue3
 t4:=Tryz.underlying4
 a4:=Tryz.isAgg4
 z4:=Tryz.sizeOf4
 v4:=Tryz.zeroValue4
 t5:=Tryz.underlying5
 a5:=Tryz.isAgg5
 z5:=Tryz.sizeOf5
 v5:=Tryz.zeroValue5
 t9:=Tryz.underlying9
 a9:=Tryz.isAgg9
 z9:=Tryz.sizeOf9
 v9:=Tryz.zeroValue9
 t46:=Tryz.underlying274
 a46:=Tryz.isAgg274
 z46:=Tryz.sizeOf274
 v46:=Tryz.zeroValue274
 t53:=Tryz.underlying251
 a53:=Tryz.isAgg251
 z53:=Tryz.sizeOf251
 v53:=Tryz.zeroValue251
 t212:=Tryz.underlying342
 a212:=Tryz.isAgg342
 z212:=Tryz.sizeOf342
 v212:=Tryz.zeroValue342
 g17:=by kernel_rfl
 i0:=by kernel_rfl
 i3:=by kernel_rfl
 i4:=by kernel_rfl
 i5:=by kernel_rfl
 i9:=by kernel_rfl
 i46:=by kernel_rfl
 i53:=by kernel_rfl
 i212:=by kernel_rfl
 m17:=by kernel_rfl }
open Go.Lib in
theorem Tryz.internal_strconv_numDigits (u:Nat)(h1:1<=u)(h2:u<18446744073709551616)(w:World)(htab:Lib.TabIs Tryz.prog w "internal/strconv.uint64pow10" .u64 Lib.pow10Tab) :
 Calls Tryz.prog 275 #[.int .u64 u] w fun e w'=>e=.returned (.int .i64 (Lib.nDigits u))/\w'=w:=Any.internal_strconv_numDigits Tryz.laysM284 u h1 h2 w htab
def Tryz.lays285_ren:Go.Shelf.Ren:=⟨fun|285=>276|n=>n,fun|37=>262|53=>251|3=>3|4=>4|51=>304|9=>9|5=>5|0=>0|n=>n,fun|n=>n⟩
theorem Tryz.lays285:Go.Proofs.Lays.n285 Tryz.prog Tryz.lays285_ren:={
 mixed:=by kernel_rfl
 f285:=Tryz.func276.trans (congrArg some (by kernel_rfl))
 t0:=Tryz.underlying0
 a0:=Tryz.isAgg0
 z0:=Tryz.sizeOf0
 v0:=Tryz.zeroValue0
 t3:=Tryz.underlying3
 a3:=Tryz.isAgg3
 z3:=Tryz.sizeOf3
 v3:=Tryz.zeroValue3
 t4:=Tryz.underlying4
 a4:=Tryz.isAgg4
 z4:=Tryz.sizeOf4
 v4:=Tryz.zeroValue4
 t5:=Tryz.underlying5
 a5:=Tryz.isAgg5
 z5:=Tryz.sizeOf5
 v5:=Tryz.zeroValue5
 t9:=Tryz.underlying9
 a9:=Tryz.isAgg9
 z9:=Tryz.sizeOf9
 v9:=Tryz.zeroValue9
 t37:=Tryz.underlying262
 a37:=Tryz.isAgg262
 z37:=Tryz.sizeOf262
 v37:=Tryz.zeroValue262
 t51:=Tryz.underlying304
 a51:=Tryz.isAgg304
 z51:=Tryz.sizeOf304
 v51:=Tryz.zeroValue304
 t53:=Tryz.underlying251
 a53:=Tryz.isAgg251
 z53:=Tryz.sizeOf251
 v53:=Tryz.zeroValue251 }
open Go.RowKit Go.Sort Go.Lib in
theorem Tryz.internal_strconv_formatBase10 (blk off cap:Nat)(u:Nat)(d:Array UInt8)(w:World)(hH:Holds (fun (b:UInt8)=>Value.int .u8 (b.toNat:Int)) w blk off d)(hu:u<10^d.size)(hu64:u<18446744073709551616)(hsz:d.size<4611686018427387904) :
 Calls Tryz.prog 276 #[.slice (some ⟨blk,off,none⟩) d.size cap,.int .u64 u] w fun e w' =>
  e=.returned (.tuple #[])/\∃ (n v':Nat) (dk:Array UInt8),w'=(putRow (fun (b:UInt8)=>Value.int .u8 (b.toNat:Int)) w blk off dk).drewN n/\FmtInv d.size u 0 v' dk:=Any.internal_strconv_formatBase10 Tryz.lays285 blk off cap u d w hH hu hu64 hsz
def Tryz.laysPu14_ren:Go.Shelf.Ren:=⟨fun|14=>194|16=>234|17=>235|19=>268|20=>269|21=>270|22=>271|23=>272|24=>273|25=>291|27=>293|26=>292|28=>303|29=>307|30=>274|31=>275|32=>276|33=>277|35=>254|34=>294|36=>295|37=>296|38=>297|39=>304|40=>305|n=>n,fun|9=>9|3=>3|22=>251|24=>256|25=>257|4=>4|34=>316|5=>5|36=>274|37=>262|0=>0|39=>318|21=>21|44=>339|47=>328|50=>354|48=>352|2=>2|52=>322|55=>324|59=>342|60=>304|20=>20|61=>343|65=>357|66=>358|67=>222|n=>n,fun|0=>1|1=>2|2=>3|3=>4|4=>5|n=>n⟩
theorem Tryz.laysPu14:Go.Proofs.LaysPu.n14 Tryz.prog Tryz.laysPu14_ren:={
 mixed:=by kernel_rfl
 f14:=Tryz.func194.trans (congrArg some (by kernel_rfl))
 f16:=Tryz.func234.trans (congrArg some (by kernel_rfl))
 f17:=Tryz.func235.trans (congrArg some (by kernel_rfl))
 f19:=Tryz.func268.trans (congrArg some (by kernel_rfl))
 f20:=Tryz.func269.trans (congrArg some (by kernel_rfl))
 f21:=Tryz.func270.trans (congrArg some (by kernel_rfl))
 f22:=Tryz.func271.trans (congrArg some (by kernel_rfl))
 f23:=Tryz.func272.trans (congrArg some (by kernel_rfl))
 f24:=Tryz.func273.trans (congrArg some (by kernel_rfl))
 f25:=Tryz.func291.trans (congrArg some (by kernel_rfl))
 f26:=Tryz.func292.trans (congrArg some (by kernel_rfl))
 f27:=Tryz.func293.trans (congrArg some (by kernel_rfl))
 f28:=Tryz.func303.trans (congrArg some (by kernel_rfl))
 f29:=Tryz.func307.trans (congrArg some (by kernel_rfl))
 f30:=Tryz.func274.trans (congrArg some (by kernel_rfl))
 f31:=Tryz.func275.trans (congrArg some (by kernel_rfl))
 f32:=Tryz.func276.trans (congrArg some (by kernel_rfl))
 f33:=Tryz.func277.trans (congrArg some (by kernel_rfl))
 f34:=Tryz.func294.trans (congrArg some (by kernel_rfl))
 f35:=Tryz.func254.trans (congrArg some (by kernel_rfl))
 f36:=Tryz.func295.trans (congrArg some (by kernel_rfl))
 f37:=Tryz.func296.trans (congrArg some (by kernel_rfl))
 f38:=Tryz.func297.trans (congrArg some (by kernel_rfl))
 f39:=Tryz.func304.trans (congrArg some (by kernel_rfl))
 f40:=Tryz.func305.trans (congrArg some (by kernel_rfl))
 t0:=Tryz.underlying0
 a0:=Tryz.isAgg0
 z0:=Tryz.sizeOf0
 v0:=Tryz.zeroValue0
 i0:=by kernel_rfl
 t2:=Tryz.underlying2
 a2:=Tryz.isAgg2
 z2:=Tryz.sizeOf2
 v2:=Tryz.zeroValue2
 i2:=by kernel_rfl
 t3:=Tryz.underlying3
 a3:=Tryz.isAgg3
 z3:=Tryz.sizeOf3
 v3:=Tryz.zeroValue3
 i3:=by kernel_rfl
 t4:=Tryz.underlying4
 a4:=Tryz.isAgg4
 z4:=Tryz.sizeOf4
 v4:=Tryz.zeroValue4
 i4:=by kernel_rfl
 t5:=Tryz.underlying5
 a5:=Tryz.isAgg5
 z5:=Tryz.sizeOf5
 v5:=Tryz.zeroValue5
 i5:=by kernel_rfl
 t9:=Tryz.underlying9
 a9:=Tryz.isAgg9
 z9:=Tryz.sizeOf9
 v9:=Tryz.zeroValue9
 i9:=by kernel_rfl
 t20:=Tryz.underlying20
 a20:=Tryz.isAgg20
 z20:=Tryz.sizeOf20
 v20:=Tryz.zeroValue20
 i20:=by kernel_rfl
 t21:=Tryz.underlying21
 a21:=Tryz.isAgg21
 z21:=Tryz.sizeOf21
 v21:=Tryz.zeroValue21
 i21:=by kernel_rfl
 t22:=Tryz.underlying251
 a22:=Tryz.isAgg251
 z22:=Tryz.sizeOf251
 v22:=Tryz.zeroValue251
 i22:=by kernel_rfl
 t24:=Tryz.underlying256
 a24:=Tryz.isAgg256
 z24:=Tryz.sizeOf256
 v24:=Tryz.zeroValue256
 i24:=by kernel_rfl
 t25:=Tryz.underlying257
 a25:=Tryz.isAgg257
 z25:=Tryz.sizeOf257
 v25:=Tryz.zeroValue257
 i25:=by kernel_rfl
 t34:=Tryz.underlying316
 a34:=Tryz.isAgg316
 z34:=Tryz.sizeOf316
 v34:=Tryz.zeroValue316
 i34:=by kernel_rfl
 c34:=by kernel_rfl
 t36:=Tryz.underlying274
 a36:=Tryz.isAgg274
 z36:=Tryz.sizeOf274
 v36:=Tryz.zeroValue274
 i36:=by kernel_rfl
 t37:=Tryz.underlying262
 a37:=Tryz.isAgg262
 z37:=Tryz.sizeOf262
 v37:=Tryz.zeroValue262
 i37:=by kernel_rfl
 t39:=Tryz.underlying318
 a39:=Tryz.isAgg318
 z39:=Tryz.sizeOf318
 v39:=Tryz.zeroValue318
 i39:=by kernel_rfl
 t44:=Tryz.underlying339
 a44:=Tryz.isAgg339
 z44:=Tryz.sizeOf339
 v44:=Tryz.zeroValue339
 i44:=by kernel_rfl
 t47:=Tryz.underlying328
 a47:=Tryz.isAgg328
 z47:=Tryz.sizeOf328
 v47:=Tryz.zeroValue328
 i47:=by kernel_rfl
 t48:=Tryz.underlying352
 a48:=Tryz.isAgg352
 z48:=Tryz.sizeOf352
 v48:=Tryz.zeroValue352
 i48:=by kernel_rfl
 t50:=Tryz.underlying354
 a50:=Tryz.isAgg354
 z50:=Tryz.sizeOf354
 v50:=Tryz.zeroValue354
 i50:=by kernel_rfl
 t52:=Tryz.underlying322
 a52:=Tryz.isAgg322
 z52:=Tryz.sizeOf322
 v52:=Tryz.zeroValue322
 i52:=by kernel_rfl
 t55:=Tryz.underlying324
 a55:=Tryz.isAgg324
 z55:=Tryz.sizeOf324
 v55:=Tryz.zeroValue324
 i55:=by kernel_rfl
 t59:=Tryz.underlying342
 a59:=Tryz.isAgg342
 z59:=Tryz.sizeOf342
 v59:=Tryz.zeroValue342
 i59:=by kernel_rfl
 t60:=Tryz.underlying304
 a60:=Tryz.isAgg304
 z60:=Tryz.sizeOf304
 v60:=Tryz.zeroValue304
 i60:=by kernel_rfl
 t61:=Tryz.underlying343
 a61:=Tryz.isAgg343
 z61:=Tryz.sizeOf343
 t65:=Tryz.underlying357
 a65:=Tryz.isAgg357
 z65:=Tryz.sizeOf357
 v65:=Tryz.zeroValue357
 i65:=by kernel_rfl
 t66:=Tryz.underlying358
 a66:=Tryz.isAgg358
 z66:=Tryz.sizeOf358
 v66:=Tryz.zeroValue358
 i66:=by kernel_rfl
 t67:=Tryz.underlying222
 a67:=Tryz.isAgg222
 z67:=Tryz.sizeOf222
 v67:=Tryz.zeroValue222
 i67:=by kernel_rfl
 g0:=by kernel_rfl
 m0:=by kernel_rfl
 g1:=by kernel_rfl
 m1:=by kernel_rfl
 g2:=by kernel_rfl
 m2:=by kernel_rfl
 g3:=by kernel_rfl
 m3:=by kernel_rfl
 g4:=by kernel_rfl
 m4:=by kernel_rfl }
open Go.RowKit in
theorem Tryz.strconv_ParseUint_10_at64_ok (s:ByteArray)(hmax:s.size<=9223372036854775806)(u:Nat)(h:Lib.parseUintB 64 s.data.toList=.ok u)(w:World) :
 Calls Tryz.prog 194 #[.string s,.int .i64 10,.int .i64 64] w fun e w'=>e=.returned (.tuple #[.int .u64 u,.nilIface])/\(w'=w\/w'=Lib.bytesWorld w 5 s):=Any.strconv_ParseUint_10_at64_ok Tryz.laysPu14 s hmax u h w
def Tryz.lays219_ren:Go.Shelf.Ren:=⟨fun|219=>232|217=>263|225=>264|224=>265|267=>266|266=>289|314=>290|n=>n,fun|9=>9|3=>3|4=>4|5=>5|46=>274|146=>335|51=>304|n=>n,fun|1=>0|n=>n⟩
theorem Tryz.lays219:Go.Proofs.Lays.n219 Tryz.prog Tryz.lays219_ren:={
 mixed:=by kernel_rfl
 f217:=Tryz.func263.trans (congrArg some (by kernel_rfl))
 f219:=Tryz.func232.trans (congrArg some (by kernel_rfl))
 f224:=Tryz.func265.trans (congrArg some (by kernel_rfl))
 f225:=Tryz.func264.trans (congrArg some (by kernel_rfl))
 f266:=Tryz.func289.trans (congrArg some (by kernel_rfl))
 f267:=Tryz.func266.trans (congrArg some (by kernel_rfl))
 f314:=Tryz.func290.trans (congrArg some (by kernel_rfl))
 t3:=Tryz.underlying3
 a3:=Tryz.isAgg3
 z3:=Tryz.sizeOf3
 v3:=Tryz.zeroValue3
 t4:=Tryz.underlying4
 a4:=Tryz.isAgg4
 z4:=Tryz.sizeOf4
 v4:=Tryz.zeroValue4
 t5:=Tryz.underlying5
 a5:=Tryz.isAgg5
 z5:=Tryz.sizeOf5
 v5:=Tryz.zeroValue5
 t9:=Tryz.underlying9
 a9:=Tryz.isAgg9
 z9:=Tryz.sizeOf9
 v9:=Tryz.zeroValue9
 t46:=Tryz.underlying274
 a46:=Tryz.isAgg274
 z46:=Tryz.sizeOf274
 v46:=Tryz.zeroValue274
 t51:=Tryz.underlying304
 a51:=Tryz.isAgg304
 z51:=Tryz.sizeOf304
 v51:=Tryz.zeroValue304
 t146:=Tryz.underlying335
 a146:=Tryz.isAgg335
 z146:=Tryz.sizeOf335
 v146:=Tryz.zeroValue335
 g1:=by kernel_rfl }
open Go.RowKit Go.Lib in
theorem Tryz.stringslite_Index_one (s:ByteArray)(c:UInt8)(w:World) :
 Calls Tryz.prog 232 #[.string s,.string ⟨#[c]⟩] w fun e w'=>e=.returned (.int .i64 (Lib.indexByte s.data.toList c))/\w'=w:=Any.stringslite_Index_one Tryz.lays219 s c w
def Tryz.lays101_ren:Go.Shelf.Ren:=⟨fun|101=>200|208=>242|206=>267|n=>n,fun|9=>9|4=>4|3=>3|n=>n,fun|n=>n⟩
theorem Tryz.lays101:Go.Proofs.Lays.n101 Tryz.prog Tryz.lays101_ren:={
 mixed:=by kernel_rfl
 f101:=Tryz.func200.trans (congrArg some (by kernel_rfl))
 f206:=Tryz.func267.trans (congrArg some (by kernel_rfl))
 f208:=Tryz.func242.trans (congrArg some (by kernel_rfl))
 t3:=Tryz.underlying3
 a3:=Tryz.isAgg3
 z3:=Tryz.sizeOf3
 v3:=Tryz.zeroValue3
 t4:=Tryz.underlying4
 a4:=Tryz.isAgg4
 z4:=Tryz.sizeOf4
 v4:=Tryz.zeroValue4
 t9:=Tryz.underlying9
 a9:=Tryz.isAgg9
 z9:=Tryz.sizeOf9
 v9:=Tryz.zeroValue9 }
open Go.RowKit Go.Lib in
theorem Tryz.strings_TrimPrefix (s p:ByteArray)(w:World) :
 Calls Tryz.prog 200 #[.string s,.string p] w fun e w'=>e=.returned (.string ⟨(Lib.trimPrefix s.data.toList p.data.toList).toArray⟩)/\w'=w:=Any.strings_TrimPrefix Tryz.lays101 s p w
def Tryz.lays105_ren:Go.Shelf.Ren:=⟨fun|105=>240|212=>279|99=>280|165=>281|166=>239|170=>282|169=>241|263=>299|264=>300|206=>267|240=>278|241=>301|276=>298|277=>306|n=>n,fun|9=>9|3=>3|4=>4|20=>20|0=>0|46=>274|109=>326|5=>5|72=>290|76=>291|51=>304|146=>335|53=>251|148=>347|70=>288|37=>262|75=>256|127=>328|164=>344|80=>222|n=>n,fun|n=>n⟩
theorem Tryz.lays105:Go.Proofs.Lays.n105 Tryz.prog Tryz.lays105_ren:={
 mixed:=by kernel_rfl
 f99:=Tryz.func280.trans (congrArg some (by kernel_rfl))
 f105:=Tryz.func240.trans (congrArg some (by kernel_rfl))
 f165:=Tryz.func281.trans (congrArg some (by kernel_rfl))
 f166:=Tryz.func239.trans (congrArg some (by kernel_rfl))
 f169:=Tryz.func241.trans (congrArg some (by kernel_rfl))
 f170:=Tryz.func282.trans (congrArg some (by kernel_rfl))
 f206:=Tryz.func267.trans (congrArg some (by kernel_rfl))
 f212:=Tryz.func279.trans (congrArg some (by kernel_rfl))
 f240:=Tryz.func278.trans (congrArg some (by kernel_rfl))
 f241:=Tryz.func301.trans (congrArg some (by kernel_rfl))
 f263:=Tryz.func299.trans (congrArg some (by kernel_rfl))
 f264:=Tryz.func300.trans (congrArg some (by kernel_rfl))
 f276:=Tryz.func298.trans (congrArg some (by kernel_rfl))
 f277:=Tryz.func306.trans (congrArg some (by kernel_rfl))
 t0:=Tryz.underlying0
 a0:=Tryz.isAgg0
 z0:=Tryz.sizeOf0
 v0:=Tryz.zeroValue0
 t3:=Tryz.underlying3
 a3:=Tryz.isAgg3
 z3:=Tryz.sizeOf3
 v3:=Tryz.zeroValue3
 t4:=Tryz.underlying4
 a4:=Tryz.isAgg4
 z4:=Tryz.sizeOf4
 v4:=Tryz.zeroValue4
 t5:=Tryz.underlying5
 a5:=Tryz.isAgg5
 z5:=Tryz.sizeOf5
 v5:=Tryz.zeroValue5
 t9:=Tryz.underlying9
 a9:=Tryz.isAgg9
 z9:=Tryz.sizeOf9
 v9:=Tryz.zeroValue9
 t20:=Tryz.underlying20
 a20:=Tryz.isAgg20
 z20:=Tryz.sizeOf20
 v20:=Tryz.zeroValue20
 t37:=Tryz.underlying262
 a37:=Tryz.isAgg262
 z37:=Tryz.sizeOf262
 v37:=Tryz.zeroValue262
 t46:=Tryz.underlying274
 a46:=Tryz.isAgg274
 z46:=Tryz.sizeOf274
 v46:=Tryz.zeroValue274
 t51:=Tryz.underlying304
 a51:=Tryz.isAgg304
 z51:=Tryz.sizeOf304
 v51:=Tryz.zeroValue304
 t53:=Tryz.underlying251
 a53:=Tryz.isAgg251
 z53:=Tryz.sizeOf251
 v53:=Tryz.zeroValue251
 t70:=Tryz.underlying288
 a70:=Tryz.isAgg288
 z70:=Tryz.sizeOf288
 v70:=Tryz.zeroValue288
 t72:=Tryz.underlying290
 a72:=Tryz.isAgg290
 z72:=Tryz.sizeOf290
 v72:=Tryz.zeroValue290
 t75:=Tryz.underlying256
 a75:=Tryz.isAgg256
 z75:=Tryz.sizeOf256
 v75:=Tryz.zeroValue256
 t76:=Tryz.underlying291
 a76:=Tryz.isAgg291
 z76:=Tryz.sizeOf291
 v76:=Tryz.zeroValue291
 t109:=Tryz.underlying326
 a109:=Tryz.isAgg326
 z109:=Tryz.sizeOf326
 v109:=Tryz.zeroValue326
 t127:=Tryz.underlying328
 a127:=Tryz.isAgg328
 z127:=Tryz.sizeOf328
 v127:=Tryz.zeroValue328
 t146:=Tryz.underlying335
 a146:=Tryz.isAgg335
 z146:=Tryz.sizeOf335
 v146:=Tryz.zeroValue335
 t148:=Tryz.underlying347
 a148:=Tryz.isAgg347
 z148:=Tryz.sizeOf347
 v148:=Tryz.zeroValue347
 t164:=Tryz.underlying344
 a164:=Tryz.isAgg344
 z164:=Tryz.sizeOf344
 v164:=Tryz.zeroValue344 }
theorem Tryz.Builder_Extra_105:Builder.Extra Tryz.prog Tryz.lays105_ren:={
 sizeBuilder:=by kernel_rfl
 liesBuilder:=by kernel_rfl
 t5:=Tryz.underlying5
 a5:=Tryz.isAgg5
 z5:=Tryz.sizeOf5
 v5:=Tryz.zeroValue5
 infoByte:=by kernel_rfl
 cellsByte:=by kernel_rfl
 sizeByte:=by kernel_rfl
 neB5:=by decide }
open Go.RowKit Go.Lib in
theorem Tryz.strings_Repeat (s:ByteArray)(c:Nat)(w:World)(hc:c<=9223372036854775807)(hlen:s.size*c<=140737488355328) :
 Calls Tryz.prog 240 #[.string s,.int .i64 c] w fun e w'=>e=.returned (.string ⟨(Lib.repeatL s.data.toList c).toArray⟩)/\Below w.heap.size w w':=Any.strings_Repeat Tryz.lays105 Tryz.Builder_Extra_105 s c w hc hlen
end Go.Proofs
end
namespace Go.Proofs.YtdgncafgglafjaaGreatDoor
open Go.Proofs.Tryz
open Go.RowKit
section
open Go.Shelf Go.RowKit
def Afl:(prog.info? 290).map (·.size)=some 2:=kV
def Apa:liesAt prog prog.depth 290 (2/prog.cellsOf 290) 0 290 1=true:=kV
def Amm:(prog.info? 5).map (fun i=>(i.zero,i.size,i.bytes))=some (some (.int .u8 0),1,1):=kV
set_option maxRecDepth 100000 in
def Xm (b:Nat)(w:World)(h0:w.cell? ⟨b,0,none⟩=some (.pointer (some ⟨b,0,none⟩))) :
 Calls prog 278 #[.pointer (some ⟨b,0,none⟩)] w fun e w'=>e=.returned (.tuple #[])/\w'=w:=by
 obtain⟨j,d,_⟩:=A5f.1 Afl
 go_enter func278,ntmps278
 go_wp2
 rw[Lib.run_neq_ptr_same w _ Tryz.underlying288 d]
 go_wp2
 go_end0
 exact⟨rfl,rfl⟩
set_option maxRecDepth 100000 in
def Uu (b:Nat)(w:World)(h0:w.cell? ⟨b,0,none⟩=some (.pointer none))(d:w.shape? b=some (290,2))(h:w.frozen? ⟨b,0,none⟩=false) :
 Calls prog 278 #[.pointer (some ⟨b,0,none⟩)] w fun e w'=>e=.returned (.tuple #[])/\w'=w.setCell ⟨b,0,none⟩ (.pointer (some ⟨b,0,none⟩)):=by
 obtain⟨j,g,f⟩:=A5f.1 Afl
 go_enter func278,ntmps278
 go_wp2
 rw[Lib.run_to_unsafe w ⟨b,0,none⟩ Tryz.underlying288 Tryz.underlying344 g (by rw[f];decide) d (Nat.zero_lt_succ 1)];simp only[Result.andThen];rw[Oper.upon_value]
 go_wp2
 rw[run_callFunc_extern func298 kV kV kV (e:=Extern.AbiNoEscape.same) kV];rw[Lib.run_noEscape];simp only[Result.andThen];rw[Oper.upon_value]
 go_wp2
 rw[Lib.run_from_unsafe w ⟨b,0,none⟩ Tryz.underlying344 Tryz.underlying288 g d Apa];simp only[Result.andThen];rw[Oper.upon_value]
 go_wp2
 go_end0
 exact⟨rfl,rfl⟩
def Y5 (B b:Nat)(d:List Value)(w:World)(h:Lib.IsBuilder 290 5 B b d w) :
 Calls prog 278 #[.pointer (some ⟨b,0,none⟩)] w fun e w'=>e=.returned (.tuple #[])/\(Lib.BuilderAt 290 5 B b (.pointer (some ⟨b,0,none⟩)) d w'/\Below B w w'):=by
 rcases h with h|h
 ·refine (Uu b w h.cell0 h.shape h.frozen0).mono ?_;rintro e w' ⟨rfl,rfl⟩;exact⟨rfl,h.used _,(Below.refl B w).setCell (p:=⟨b,0,none⟩) h.1 _⟩
 refine (Xm b w h.cell0).mono ?_;rintro e w' ⟨rfl,rfl⟩;exact⟨rfl,h,Below.refl B _⟩
set_option maxRecDepth 100000 in
def C6 (B b:Nat)(u:List Value)(s:ByteArray)(w:World)(h:Lib.IsBuilder 290 5 B b u w)(N:u.length+s.size<=140737488355328)(R:B<=w.heap.size) :
 Calls prog 239 #[.pointer (some ⟨b,0,none⟩),.string s] w fun e w'=>e=.returned (.tuple #[.int .i64 s.size,.nilIface])/\(Lib.BuilderAt 290 5 B b (.pointer (some ⟨b,0,none⟩)) (u++Lib.strCells s) w'/\Below B w w'):=by
 obtain⟨W,U,H,I,J⟩:=info_parts Amm
 go_enter func239,ntmps239
 go_wp2_with fail
 refine (Y5 B b u _ h).mono ?_;rintro e z ⟨rfl,Q,t⟩;obtain⟨L,v,m,n,E⟩:=Q;have c0:z.cell? ⟨b,0,none⟩=some (.pointer (some ⟨b,0,none⟩)):=by rw[Lib.cell_of_heap m];rfl
 have Y:z.cell? ⟨b,1,none⟩=some v:=by rw[Lib.cell_of_heap m];rfl
 go_wp2_with (at_builtin;refine Lib.wpList_append_own_string _ rfl _ _ 262 9 rfl B 5 W Tryz.underlying262 Tryz.underlying9 U H I J _ _ _ rfl n s rfl ?c3 ?c4 ?c5 ?_)
 case c3=>unfold maxLen;omega
 case c4=>omega
 case c5=>have:=t.size;omega
 intro X A f d _;have D:b<z.heap.size:=by
  rcases A16 b z.heap.size with C|C
  ·exact C
  simp[A4q C]at m
 have j:A.heap[b]?=some (.cells #[.pointer (some ⟨b,0,none⟩),v] 290 (0,0)):=by
  rw[d.block b D (fun e=>E e.symm)];exact m
 have Z:A.cell? ⟨b,0,none⟩=some (.pointer (some ⟨b,0,none⟩)):=by rw[Lib.cell_of_heap j];rfl
 have d1:A.cell? ⟨b,1,none⟩=some v:=by rw[Lib.cell_of_heap j];rfl
 have f1:A.frozen? ⟨b,1,none⟩=false:=Lib.frozen_of_heap j 1;obtain⟨K,O,cap,rfl⟩:∃ K O cap,X=.slice K O cap:=by
  rcases f.2 with ⟨F,_⟩|⟨g,cap,P,F,_⟩
  ·exact⟨_,_,_,F⟩
  exact⟨_,_,_,F⟩
 go_wp2
 go_ret2
 refine⟨rfl,?_,?_⟩
 ·exact Lib.BuilderAt.put (T:=290) (e:=5) L j (bs':=u++Lib.strCells s) (by simpa[Lib.strCells_length] using f) fV
 exact (t.grown d (by have:=t.size;omega) (fun k V=>(n.lt k V).1)).setCell (p:=⟨b,1,none⟩) L _
end
section
open Go.Shelf Go.RowKit Go.Sort Go.Lib
set_option maxRecDepth 100000 in
def Wl (u:Nat)(d:u<18446744073709551616)(w:World)(t:Lib.TabIs prog w "internal/strconv.uint64pow10" .u64 Lib.pow10Tab) :
 Calls prog 238 #[.int .u64 u,.int .i64 10] w fun e w'=>e=.returned (.string ⟨(Lib.decDigits u).toArray⟩)/\Below w.heap.size w w':=by
 by_cases I:u<100
 ·go_enter func238,ntmps238
  go_wp2_with fail
  refine (Tryz.internal_strconv_small u I _).mono ?_;rintro e w' ⟨rfl,rfl⟩
  go_wp2_with fail
  go_ret
  exact⟨rfl,Below.refl _ _⟩
 have z:1<=u:=oV;have D:Lib.nDigits u<=20:=by have:=Lib.numDigits_eq u z d;split at this<;>omega
 have n:prog.arrayLen 322=24:=kV;have E:∀ W,(Instr.sliceAt 322 (.pointer (some ⟨w.heap.size,0,none⟩)) none (some (.int .i64 (Lib.nDigits u:Int))) none).run prog W=.ok (.slice (some ⟨w.heap.size,0,none⟩) (Lib.nDigits u) 24) W:=fun W=>by
  rw[run_sliceAt_array_h W 322 ⟨w.heap.size,0,none⟩ kV .i64 (Lib.nDigits u:Int) oV (by rw[n];omega)]
  go_simp
 have g:=Lib.holds_zero0 w 322 (Lib.nDigits u) oV;have f:=Tryz.internal_strconv_formatBase10 w.heap.size 0 24 u (Array.replicate (Lib.nDigits u) 0) (w.alloc (.cells Lib.zeros24 322)) g (by rw[A6t];exact Lib.lt_pow_nDigits u) d (by rw[A6t];omega);rw[A6t]at f;have A:=Lib.hid g;clear g n
 go_enter func238,ntmps238
 go_wp2_with fail
 refine (Tryz.internal_strconv_numDigits u z d _ (Lib.tabIs_alloc t _)).mono ?_;rintro e w' ⟨rfl,rfl⟩
 go_wp2_with fail
 refine f.mono ?_;rintro e w' ⟨rfl,k,K,m,rfl,hF⟩;have H:(convert 262 9 (.slice (some ⟨w.heap.size,0,none⟩) (Lib.nDigits u) 24)).run prog ((putRow (fun (b:UInt8)=>Value.int .u8 (b.toNat:Int)) (w.alloc (.cells Lib.zeros24 322)) w.heap.size 0 m).drewN k)=.ok (.string ⟨(Lib.decDigits u).toArray⟩) ((putRow (fun (b:UInt8)=>Value.int .u8 (b.toNat:Int)) (w.alloc (.cells Lib.zeros24 322)) w.heap.size 0 m).drewN k):=by
  have h:=run_convert_bytes_back (P:=prog) ((putRow (fun (b:UInt8)=>Value.int .u8 (b.toNat:Int)) (w.alloc (.cells Lib.zeros24 322)) w.heap.size 0 m).drewN k) 262 9 5 ⟨w.heap.size,0,none⟩ 24 (Lib.decDigits u) Tryz.underlying262 Tryz.underlying5 Tryz.underlying9 (fun j C=>by
   rw[Lib.row_is_numeral hF j C,Lib.add_plain,World.cell?_drewN];exact cell?_putRow (fun (b:UInt8)=>Value.int .u8 (b.toNat:Int)) _ w.heap.size 0 _ m A.out (by rw[hF.size,A6t]) j (by rw[hF.size];rw[Lib.decDigits_length]at C;exact C))
  rw[Lib.decDigits_length]at h;exact h
 go_wp2_with fail
 go_ret
 refine⟨rfl,?_⟩;obtain⟨J,F⟩:=Lib.fin_at w (.cells Lib.zeros24 322) m k 0;rw[F];exact Lib.below_grow _ w (A0s _) k J
end
section
open Go.Shelf Go.RowKit Go.Sort Go.Lib
variable {B b d k n:Nat}{T e:TypeId}{bs:List Value}{neg:Bool}{w w':World}
def Oj {P:Program}{f:String}{k:IntKind}{zs:List Int}(h:TabIs P w f k zs)(x:Ext w w'):TabIs P w' f k zs:=by
 unfold TabIs World.var? at *
 cases hg:P.globalNamed f with
 |none=>simp[hg]at h
 |some g =>
  simp only[hg,Option.bind_some]at h⊢;have m:g<w.heap.size:=by
   rcases A16 g w.heap.size with j|j
   ·exact j
   simp[A4q j]at h
  rw[Below.block x g m];exact h
def Ui {size:Nat}{v:Value}{xs:List Value}(h:w.ownsRow B e size v n xs)(x:Ext w w'):w'.ownsRow B e size v n xs:=by
 obtain⟨m,h0|⟨g,cap,f,u,t,j,r⟩⟩:=h
 ·exact⟨m,.inl h0⟩
 exact⟨m,.inr ⟨g,cap,f,u,t,by rw[Below.block x g (Cf j)];exact j,r⟩⟩
def Pp {p:Value}(h:BuilderAt T e B b p bs w)(x:Ext w w'):BuilderAt T e B b p bs w':=by
 obtain⟨j,v,g,m,f⟩:=h;exact⟨j,v,by rw[Below.block x b (Cf g)];exact g,Ui m x,f⟩
def Ey (h:IsBuilder T e B b bs w)(x:Ext w w'):IsBuilder T e B b bs w' :=
 h.elim (fun h=>.inl (Pp h x)) (fun h=>.inr (Pp h x))
def Asd (n j k:Nat):ld n (j+k)=ld n j++ld (n/10^j) k:=by
 induction k with
 |zero=>simp[ld]
 |succ k ih =>
  rw[<-A21,U0,U0,ih,A2m]
  congr 3
  unfold dg;rw[A4s,<-A4k]
def Ax7 (d:Nat)(h:∀ j,j<k->n/10^j%10=d/10^j%10):ld n k=ld d k:=by
 unfold ld;refine A9z fun j f=>?_;unfold dg;rw[h j (A5x.1 f)]
def Gs (k:Nat):repeatL [48] k=List.replicate k 48:=by
 induction k with
 |zero=>rfl
 |succ k ih=>rw[repeatL,ih];rfl
def Ks (m:d<1000000000):nDigits d<=9:=by
 rcases A1p d with h|h
 ·subst h;rw[nDigits_small oV];omega
 have f:=G3 (n:=d) oV;have g:10^(nDigits d-1)<10^9:=A2i f oV;have j:=(A7d (by omega:1<10)).1 g;omega
def A0h (f:d<1000000000):(ld d 9).reverse=repeatL [48] (9-nDigits d)++decDigits d:=by
 have g:=Ks f;have e:9=nDigits d+(9-nDigits d):=oV
 rw[show ld d 9=ld d (nDigits d+(9-nDigits d)) by rw[<-e],Asd,A8f,Ac0]
 congr 1
 have h0:d/10^nDigits d=0:=A4i (lt_pow_nDigits d);rw[h0,Gs];have:∀ k,ld 0 k=List.replicate k 48:=by
  intro k;induction k with
  |zero=>rfl
  |succ k ih=>rw[U0,ih,A9r];congr 1;simp[dg]
 rw[this,List.reverse_replicate]
def Ar8 {x d:Nat}(t:x≠0)(h:d<1000000000):decDigits (x*1000000000+d)=decDigits x++(repeatL [48] (9-nDigits d)++decDigits d):=by
 have f:(x*1000000000+d)/10^9=x:=oV
 have g:nDigits (x*1000000000+d)=9+nDigits x:=by
  rw[Ph (j:=9) oV,f]
 rw[<-Ac0,g,Asd,f,A8f,Ac0,<-A0h h]
 congr 2
 refine Ax7 d fun j m=>?_;have e:(1000000000:Nat)=10^j*10^(9-j):=by rw[<-A4k,show j+(9-j)=9 by omega]
 rw[e,A1r x,A1o,A86 (A60 oV),show 9-j=(8-j)+1 by omega,A1w];rw[Nat.mul_right_comm,A1r _ 10,Nat.mul_add_mod]
def mid (n k:Nat):List UInt8:=if k=(Aa n).length then [] else decDigits (n/1000000000^k)
def Ak8 (n:Nat):mid n (Aa n).length = []:=by simp[mid]
def Aco (h:k≠(Aa n).length):mid n k=decDigits (n/1000000000^k):=by simp[mid,h]
def C7 (neg:Bool)(n k:Nat):List UInt8:=(if neg then [45] else [])++mid n k
def Vy (neg:Bool)(n:Nat):C7 neg n (Aa n).length=if neg then [45] else []:=by rw[C7,Ak8,A1i]
def Lz (z:Int)(h:z≠0):C7 (decide (z<0)) z.natAbs 0=itoa z:=by
 have f:(Aa z.natAbs).length≠0:=fun h0=>h (by have:=Gk.1 (A14 h0);omega);rw[C7,Aco (fun h0=>f h0.symm),Dz,Bu,A8y,Bap];split<;>rfl
def Xe (n k:Nat):n/1000000000^k=n/1000000000^(k+1)*1000000000+(Aa n).getD k 0:=by
 rw[Pw,A1w,<-A4s];omega
def Yf (f:k+1=(Aa n).length):C7 neg n k=C7 neg n (k+1)++decDigits ((Aa n).getD k 0):=by
 have h0:n/1000000000^(k+1)=0:=A4i (by rw[f];exact C2 n);rw[C7,C7,Aco oV,f,Ak8,A1i,Xe,h0];simp
def Ws (f:k+1<(Aa n).length):C7 neg n k=C7 neg n (k+1)++(repeatL [48] (9-nDigits ((Aa n).getD k 0))++decDigits ((Aa n).getD k 0)):=by
 have j:n≠0:=by rintro rfl;rw[Bn]at f;simp at f
 have m:n/1000000000^(k+1)≠0:=by
  have g:=R1 j;have h:1000000000^(k+1)<=1000000000^(nl n-1):=A1h oV (by have:nl n=(Aa n).length:=rfl;omega);have t:=Nat.div_pos (A0l h g) (A60 oV);omega
 rw[C7,C7,Aco oV,Aco oV,A2m]
 congr 1
 rw[Xe n k,Ar8 m ((Ar n).getD k)]
def Un (neg:Bool)(n k:Nat):(C7 neg n k).length<=1+9*(Aa n).length+1:=by
 have j:nDigits (n/1000000000^k)<=9*(Aa n).length+1:=by
  rcases A1p (n/1000000000^k) with h|h
  ·rw[h,nDigits_small oV];omega
  have f:=G3 (n:=n/1000000000^k) oV;have g:10^(nDigits (n/1000000000^k)-1)<10^(9*(Aa n).length):=A2i f (A2i (A24 _ _) (Re n));have m:=(A7d (by omega:1<10)).1 g;omega
 unfold C7 mid;split<;>split<;>simp[decDigits_length]<;>omega
end
section
open Go.Shelf Go.RowKit Go.Sort Go.Lib
set_option maxRecDepth 100000 in
def Et (u:Nat)(f:u<18446744073709551616)(w:World)(d:Lib.TabIs prog w "internal/strconv.uint64pow10" .u64 Lib.pow10Tab) :
 Calls prog 198 #[.int .u64 u,.int .i64 10] w fun e w'=>e=.returned (.string ⟨(Lib.decDigits u).toArray⟩)/\Ext w w':=by
 go_enter func198,ntmps198
 go_wp2_with fail
 refine (Wl u f _ d).mono ?_;rintro e w' ⟨rfl,g⟩
 go_wp2_with fail
 go_ret
 exact⟨rfl,g⟩
def Aoz (W0:World)(B:Nat)(neg:Bool)(n:Nat)(i:Value)(wr:World):Prop :=
 ∃ k:Nat,k<=(Aa n).length/\i=.int .i64 ((k:Int)-1)/\IsBuilder 290 5 B B (byteCells (C7 neg n k)) wr/\Below B W0 wr
def Dc (l d:List UInt8):byteCells l++byteCells d=byteCells (l++d):=by simp[byteCells]
set_option maxRecDepth 100000 in
theorem Zd (v:Value)(z:Int)(w:World)(hv:Qr w v z)(hs:nl z.natAbs<=100000000000)(htab:Lib.TabIs prog w "internal/strconv.uint64pow10" .u64 Lib.pow10Tab) :
 Calls prog 199 #[v] w fun e w'=>e=.returned (.string ⟨(Lib.itoa z).toArray⟩)/\Ext w w':=by
 obtain⟨a,n,c,rfl,hn⟩:=hv;obtain⟨a',c',e,hcap,hrow⟩:=hn;simp only[Value.slice.injEq]at e;obtain⟨rfl,rfl,rfl⟩:=e;have hlen:(Aa z.natAbs).length<=100000000000:=hs;by_cases hz:z=0
 ·subst hz;rw[show (Aa (0:Int).natAbs).length=0 by rw[show (0:Int).natAbs=0 from rfl,Bn];rfl];clear hrow hcap hlen
  go_enter func199,ntmps199
  go_wp2_with fail
  go_ret
  exact⟨by rw[Ew];rfl,Ext.alloc (Ext.refl w) _⟩
 ·have hp:0<(Aa z.natAbs).length:=C5.2 oV;obtain⟨L,hL⟩:∃ L,L=(Aa z.natAbs).length:=⟨_,rfl⟩;rw[<-hL]at hp hlen⊢;have HL:=Lib.hid hL;have HROW:=Lib.hid hrow;have HTAB:=Lib.hid htab;clear hL hrow htab hcap;obtain⟨neg,hneg⟩:∃ neg,neg=decide (z<0):=⟨_,rfl⟩;rw[<-hneg];have HNEG:=Lib.hid hneg;clear hneg;obtain⟨w1,hw1⟩:∃ w1,w1=w.alloc (Obj.cells #[Value.bool neg,Value.slice a L c] 124):=⟨_,rfl⟩;have hs1:w1.heap.size=w.heap.size+1:=by rw[hw1];exact Cd _ _
  have HX1:RowKit.Hid (Ext w w1):=Lib.hid (by rw[hw1];exact Ext.alloc (Ext.refl w) _);have HB0:=Lib.hid (Lib.fresh_isBuilder 290 5 w1);have HW1:=Lib.hid hw1;have HS1:=Lib.hid hs1;clear hw1 hs1;cases neg
  ·go_enter func199,ntmps199
   go_wp2_with fail
   rw[<-HW1.out,<-HS1.out,show ((L:Int)==0)=false by rw[beq_eq_false_iff_ne];omega]
   go_loopw [4] (Aoz (w1.alloc (Obj.cells #[Value.pointer none,Value.slice none 0 0] 290)) w1.heap.size false z.natAbs) (fun i _=>(RowKit.intOf i+1).toNat)
   case atStart=>exact⟨(Aa z.natAbs).length,A0s _,by rw[<-HL.out],by rw[Vy];exact HB0.out,Below.refl _ _⟩
   case round =>
    obtain⟨k,hk,rfl,hbd,hbel⟩:=hrel;have hsz0:=hbel.size;rw[Cd]at hsz0;have HXW:RowKit.Hid (Ext w wr):=Lib.hid (Ext.trans HX1.out (Below.trans (Ext.alloc (Ext.refl w1) (Obj.cells #[Value.pointer none,Value.slice none 0 0] 290)) hbel));rcases k with _|k
    ·have hne:C7 false z.natAbs 0≠[]:=by rw[HNEG.out,Lz z hz,Dz,Bu];split;simp;exact Jn _
     have HBD:=Lib.hid hbd;clear hbd
     go_wp2_with fail
     refine (Tryz.Builder_String w1.heap.size w1.heap.size (C7 false z.natAbs 0) wr HBD.out hne).mono ?_;rintro e w2 ⟨rfl,hb2⟩
     go_wp2_with fail
     go_ret
     refine⟨?_,Below.trans HXW.out ?_⟩
     ·rw[HNEG.out,Lz z hz];rfl
     ·exact Below.mono hb2 (by have:=HS1.out;omega)
    ·have hsz1:w.heap.size<w1.heap.size:=by rw[HS1.out];omega
     have hc1:wr.cell? ⟨w.heap.size,1,none⟩=some (.slice a L c):=by
      rw[Below.cell hbel hsz1,Below.cell (Ext.alloc (Ext.refl w1) _) hsz1,HW1.out,World.cell?_alloc_new];rfl
     obtain⟨ba,offa,rfl,hca⟩:=HROW.out.at (j:=k) oV;have hcb:=HXW.out.cell hca;clear hca;have hlow:(Aa z.natAbs).getD k 0<1000000000:=(Ar _).getD k;obtain⟨x,hx⟩:∃ x,x=(Aa z.natAbs).getD k 0:=⟨_,rfl⟩;rw[<-hx]at hcb hlow;have XX:=Lib.hid hx;have HBD:=Lib.hid hbd;have HBEL:=Lib.hid hbel;have HK:=Lib.hid hk;clear hx hbd hbel hk hsz1;rw[show ((k+1:Nat):Int)-1=k by omega];have hkL:k<L:=by have:=HK.out;have:=HL.out;omega
     have hsw:(C7 false z.natAbs (k+1)).length<=1+9*L+1:=by have:=Un false z.natAbs (k+1);rw[<-HL.out]at this;exact this
     have hd9:=Ks hlow;have hdl:=decDigits_length x;have HSW:=Lib.hid hsw;have HDL:=Lib.hid hdl;have HD9:=Lib.hid hd9;clear hsw hdl hd9;by_cases htop:k+1=L
     ·have hkt:¬ ((k:Int)<(L:Int)-1):=oV
      have HTOP:=Lib.hid htop;clear htop
      go_wp2_with fail
      refine (Et x oV _ (Oj HTAB.out HXW.out)).mono ?_;rintro e w2 ⟨rfl,hx2⟩;have HX2:=Lib.hid hx2;clear hx2;have hc2:=HX2.out.cell hc1;clear hc1 hcb
      go_wp2_with fail
      refine (C6 w1.heap.size w1.heap.size (byteCells (C7 false z.natAbs (k+1))) ⟨(decDigits x).toArray⟩ w2 (Ey HBD.out HX2.out) (by rw[byteCells_length,Lib.size_mk,HDL.out];have:=HSW.out;have:=HD9.out;omega) (by have:=HX2.out.size;omega)).mono ?_;rintro e w3 ⟨rfl,hb3,hbel3⟩;have htx:=Yf (neg:=false) (n:=z.natAbs) (k:=k) (by rw[<-HL.out];exact HTOP.out);rw[<-XX.out]at htx;rw[strCells_toArray,Dc,<-htx]at hb3
      go_wp2_with fail
      refine⟨⟨k,by rw[<-HL.out];omega,by go_num,.inr hb3,Below.trans HBEL.out (Below.trans (Below.mono HX2.out oV) hbel3)⟩,by simp only[RowKit.intOf];omega⟩
     ·have hkt:(k:Int)<(L:Int)-1:=oV
      have HTOP:=Lib.hid htop;clear htop
      go_wp2_with fail
      refine (Et x oV _ (Oj HTAB.out HXW.out)).mono ?_;rintro e w2 ⟨rfl,hx2⟩;have HX2:=Lib.hid hx2;clear hx2;have hc2:=HX2.out.cell hc1;clear hc1 hcb;have hsl:(⟨(decDigits x).toArray⟩:ByteArray).size=nDigits x:=by rw[Lib.size_mk];exact HDL.out
      go_wp2_with fail
      rw[show wrap64 (9-(nDigits x:Int))=((9-nDigits x:Nat):Int) by have:=HD9.out;unfold wrap64;omega];have hrep:=Tryz.strings_Repeat ⟨#[48]⟩ (9-nDigits x) w2 oV (by have:=HD9.out;simp[ByteArray.size];omega);refine hrep.mono ?_;rintro e w4 ⟨rfl,hx4⟩;have HX4:RowKit.Hid (Ext w2 w4):=Lib.hid hx4;clear hx4 hrep
      go_wp2_with fail
      refine (C6 w1.heap.size w1.heap.size (byteCells (C7 false z.natAbs (k+1))) ⟨(repeatL [48] (9-nDigits x)).toArray⟩ w4 (Ey (Ey HBD.out HX2.out) HX4.out) (by rw[byteCells_length,Lib.size_mk,Gs,A2z];have:=HSW.out;omega) (by have:=HX2.out.size;have:=HX4.out.size;omega)).mono ?_;rintro e w5 ⟨rfl,hb5,hbel5⟩;rw[strCells_toArray,Dc]at hb5
      go_wp2_with fail
      refine (C6 w1.heap.size w1.heap.size _ ⟨(decDigits x).toArray⟩ w5 (.inr hb5) (by rw[byteCells_length,Lib.size_mk,HDL.out,A03,Gs,A2z];have:=HSW.out;have:=HD9.out;omega) (by have:=HX2.out.size;have:=HX4.out.size;have:=hbel5.size;omega)).mono ?_;rintro e w3 ⟨rfl,hb3,hbel3⟩;have htx:=Ws (neg:=false) (n:=z.natAbs) (k:=k) (by rw[<-HL.out];have:=HTOP.out;omega);rw[<-XX.out]at htx;rw[strCells_toArray,Dc,A2m,<-htx]at hb3;have h6:=HX2.out.size
      go_wp2_with fail
      refine⟨⟨k,by rw[<-HL.out];omega,by go_num,.inr hb3,Below.trans HBEL.out (Below.trans (Below.mono HX2.out oV) (Below.trans (Below.mono HX4.out oV) (Below.trans hbel5 hbel3)))⟩,by simp only[RowKit.intOf];omega⟩
  ·go_enter func199,ntmps199
   go_wp2_with fail
   rw[<-HW1.out,<-HS1.out,show ((L:Int)==0)=false by rw[beq_eq_false_iff_ne];omega];refine (C6 w1.heap.size w1.heap.size [] ⟨#[45]⟩ _ HB0.out (by simp[ByteArray.size]) (by rw[Cd];omega)).mono ?_;rintro e w4 ⟨rfl,hb4,hbel4⟩;have HB4:RowKit.Hid (BuilderAt 290 5 w1.heap.size w1.heap.size (.pointer (some ⟨w1.heap.size,0,none⟩)) (byteCells [45]) w4):=Lib.hid hb4;have HBEL4:=Lib.hid hbel4;have hs4:=hbel4.size;rw[Cd]at hs4;have hc0:w4.cell? ⟨w.heap.size,1,none⟩=some (.slice a L c):=by
    have hsz1:w.heap.size<w1.heap.size:=by rw[HS1.out];omega
    rw[Below.cell hbel4 hsz1,Below.cell (Ext.alloc (Ext.refl w1) _) hsz1,HW1.out,World.cell?_alloc_new];rfl
   clear hb4 hbel4
   go_wp2_with fail
   go_loopw [4] (Aoz (w1.alloc (Obj.cells #[Value.pointer none,Value.slice none 0 0] 290)) w1.heap.size true z.natAbs) (fun i _=>(RowKit.intOf i+1).toNat)
   case atStart=>exact⟨(Aa z.natAbs).length,A0s _,by rw[<-HL.out],by rw[Vy];exact .inr HB4.out,HBEL4.out⟩
   case round =>
    obtain⟨k,hk,rfl,hbd,hbel⟩:=hrel;have hsz0:=hbel.size;rw[Cd]at hsz0;have HXW:RowKit.Hid (Ext w wr):=Lib.hid (Ext.trans HX1.out (Below.trans (Ext.alloc (Ext.refl w1) (Obj.cells #[Value.pointer none,Value.slice none 0 0] 290)) hbel));rcases k with _|k
    ·have hne:C7 true z.natAbs 0≠[]:=by rw[HNEG.out,Lz z hz,Dz,Bu];split;simp;exact Jn _
     have HBD:=Lib.hid hbd;clear hbd
     go_wp2_with fail
     refine (Tryz.Builder_String w1.heap.size w1.heap.size (C7 true z.natAbs 0) wr HBD.out hne).mono ?_;rintro e w2 ⟨rfl,hb2⟩
     go_wp2_with fail
     go_ret
     refine⟨?_,Below.trans HXW.out ?_⟩
     ·rw[HNEG.out,Lz z hz];rfl
     ·exact Below.mono hb2 (by have:=HS1.out;omega)
    ·have hsz1:w.heap.size<w1.heap.size:=by rw[HS1.out];omega
     have hc1:wr.cell? ⟨w.heap.size,1,none⟩=some (.slice a L c):=by
      rw[Below.cell hbel hsz1,Below.cell (Ext.alloc (Ext.refl w1) _) hsz1,HW1.out,World.cell?_alloc_new];rfl
     obtain⟨ba,offa,rfl,hca⟩:=HROW.out.at (j:=k) oV;have hcb:=HXW.out.cell hca;clear hca;have hlow:(Aa z.natAbs).getD k 0<1000000000:=(Ar _).getD k;obtain⟨x,hx⟩:∃ x,x=(Aa z.natAbs).getD k 0:=⟨_,rfl⟩;rw[<-hx]at hcb hlow;have XX:=Lib.hid hx;have HBD:=Lib.hid hbd;have HBEL:=Lib.hid hbel;have HK:=Lib.hid hk;clear hx hbd hbel hk hsz1;rw[show ((k+1:Nat):Int)-1=k by omega];have hkL:k<L:=by have:=HK.out;have:=HL.out;omega
     have hsw:(C7 true z.natAbs (k+1)).length<=1+9*L+1:=by have:=Un true z.natAbs (k+1);rw[<-HL.out]at this;exact this
     have hd9:=Ks hlow;have hdl:=decDigits_length x;have HSW:=Lib.hid hsw;have HDL:=Lib.hid hdl;have HD9:=Lib.hid hd9;clear hsw hdl hd9;by_cases htop:k+1=L
     ·have hkt:¬ ((k:Int)<(L:Int)-1):=oV
      have HTOP:=Lib.hid htop;clear htop
      go_wp2_with fail
      refine (Et x oV _ (Oj HTAB.out HXW.out)).mono ?_;rintro e w2 ⟨rfl,hx2⟩;have HX2:=Lib.hid hx2;clear hx2;have hc2:=HX2.out.cell hc1;clear hc1 hcb
      go_wp2_with fail
      refine (C6 w1.heap.size w1.heap.size (byteCells (C7 true z.natAbs (k+1))) ⟨(decDigits x).toArray⟩ w2 (Ey HBD.out HX2.out) (by rw[byteCells_length,Lib.size_mk,HDL.out];have:=HSW.out;have:=HD9.out;omega) (by have:=HX2.out.size;omega)).mono ?_;rintro e w3 ⟨rfl,hb3,hbel3⟩;have htx:=Yf (neg:=true) (n:=z.natAbs) (k:=k) (by rw[<-HL.out];exact HTOP.out);rw[<-XX.out]at htx;rw[strCells_toArray,Dc,<-htx]at hb3
      go_wp2_with fail
      refine⟨⟨k,by rw[<-HL.out];omega,by go_num,.inr hb3,Below.trans HBEL.out (Below.trans (Below.mono HX2.out oV) hbel3)⟩,by simp only[RowKit.intOf];omega⟩
     ·have hkt:(k:Int)<(L:Int)-1:=oV
      have HTOP:=Lib.hid htop;clear htop
      go_wp2_with fail
      refine (Et x oV _ (Oj HTAB.out HXW.out)).mono ?_;rintro e w2 ⟨rfl,hx2⟩;have HX2:=Lib.hid hx2;clear hx2;have hc2:=HX2.out.cell hc1;clear hc1 hcb;have hsl:(⟨(decDigits x).toArray⟩:ByteArray).size=nDigits x:=by rw[Lib.size_mk];exact HDL.out
      go_wp2_with fail
      rw[show wrap64 (9-(nDigits x:Int))=((9-nDigits x:Nat):Int) by have:=HD9.out;unfold wrap64;omega];have hrep:=Tryz.strings_Repeat ⟨#[48]⟩ (9-nDigits x) w2 oV (by have:=HD9.out;simp[ByteArray.size];omega);refine hrep.mono ?_;rintro e w4 ⟨rfl,hx4⟩;have HX4:RowKit.Hid (Ext w2 w4):=Lib.hid hx4;clear hx4 hrep
      go_wp2_with fail
      refine (C6 w1.heap.size w1.heap.size (byteCells (C7 true z.natAbs (k+1))) ⟨(repeatL [48] (9-nDigits x)).toArray⟩ w4 (Ey (Ey HBD.out HX2.out) HX4.out) (by rw[byteCells_length,Lib.size_mk,Gs,A2z];have:=HSW.out;omega) (by have:=HX2.out.size;have:=HX4.out.size;omega)).mono ?_;rintro e w5 ⟨rfl,hb5,hbel5⟩;rw[strCells_toArray,Dc]at hb5
      go_wp2_with fail
      refine (C6 w1.heap.size w1.heap.size _ ⟨(decDigits x).toArray⟩ w5 (.inr hb5) (by rw[byteCells_length,Lib.size_mk,HDL.out,A03,Gs,A2z];have:=HSW.out;have:=HD9.out;omega) (by have:=HX2.out.size;have:=HX4.out.size;have:=hbel5.size;omega)).mono ?_;rintro e w3 ⟨rfl,hb3,hbel3⟩;have htx:=Ws (neg:=true) (n:=z.natAbs) (k:=k) (by rw[<-HL.out];have:=HTOP.out;omega);rw[<-XX.out]at htx;rw[strCells_toArray,Dc,A2m,<-htx]at hb3;have h6:=HX2.out.size
      go_wp2_with fail
      refine⟨⟨k,by rw[<-HL.out];omega,by go_num,.inr hb3,Below.trans HBEL.out (Below.trans (Below.mono HX2.out oV) (Below.trans (Below.mono HX4.out oV) (Below.trans hbel5 hbel3)))⟩,by simp only[RowKit.intOf];omega⟩
end
section
open Go.Shelf Go.RowKit Go.Sort Go.Lib
variable {l:List UInt8}
def Amv (f:Ht l):∀ (d:Nat),rdA d l<1000000000000000000->parseUintM 18446744073709551615 d l=.ok (rdA d l):=by
 induction l with
 |nil=>intro d _;rfl
 |cons b l ih =>
  intro d h;have m:=f b mV;have g:rdA d (b::l)=rdA (10*d+(b.toNat-48)) l:=rfl;rw[g]at h⊢;have j:10*d+(b.toNat-48)<=rdA (10*d+(b.toNat-48)) l:=by
   rw[Ain];have:1<=10^l.length:=Nat.one_le_pow _ _ oV;have:=A19 (10*d+(b.toNat-48)) this;omega
  have e:=ih (fun x n=>f x (by simp[n])) (10*d+(b.toNat-48)) h;rw[parseUintM,if_pos m,if_neg oV];rw[show 10*d+(b.toNat-48)=d*10+(b.toNat-48) by omega]at e h j⊢
  first
   |(rw[if_neg oV];exact e)
   |(simp only[];rw[if_neg oV];exact e)
def Amb (d:Ht l)(f:l≠[])(e:l.length<=9):parseUintB 64 l=.ok (rd l):=by
 rw[parseUintB,if_neg f];refine Amv d 0 ?_;have g:=Aaw d;have h:10^l.length<=10^9:=A1h oV e;have j:rdA 0 l=rd l:=rfl;omega
def Kf {neg:Bool}(e:Ht l)(f:l≠[]):trimPrefix (Bu neg l) [45]=l/\hasPrefix (Bu neg l) [45]=neg:=by
 cases neg
 ·cases l with
  |nil=>exact absurd rfl f
  |cons b l =>
   have d:=e b mV;have:¬ (45:UInt8)=b:=by rintro rfl;simp at d
   simp[Bu,trimPrefix,hasPrefix,List.isPrefixOf,this]
 simp[Bu,trimPrefix,hasPrefix,List.isPrefixOf]
def Adp {w:World}{B:Nat}{e:TypeId}{a:Option Addr}{n c:Nat}{xs:List Value}(h:w.ownsRow B e 1 (.slice a n c) n xs)(u:xs.length=n):Row w a xs:=by
 intro j t;rcases h.2 with ⟨d,m⟩|⟨g,cap,f,d,m⟩
 ·omega
 simp only[Value.slice.injEq]at d;obtain⟨rfl,_,rfl⟩:=d;refine⟨g,0,rfl,?_⟩;have:=h.cells (g:=g) rfl j (xs.getD j (.bool false)) (by rw[A0j,A0i t];rfl);rw[Lib.add_plain]at this;exact this
def Wh (w:World)(e:TypeId)(s:ByteArray):Ext w (bytesWorld w e s):=bytesWorld_below w e s
def Ata (W0:World)(B:Nat)(l:List UInt8)(v i:Value)(wr:World):Prop :=
 ∃ (e:Int) (ys:List Nat),e<=l.length/\i=.int .i64 e/\-9<e/\ys.length+e.toNat<=l.length/\S5 (rd l) (l.take e.toNat) ys/\wr.ownsRow B 251 1 v ys.length (A7 ys)/\Below B W0 wr
def Aor:(prog.info? 251).map (fun i=>(i.zero,i.size,i.bytes))=some (some (.int .u64 0),1,8):=kV
set_option maxRecDepth 100000 in
def Afg (neg:Bool)(l:List UInt8)(w:World)(hd:Ht l)(hl:l≠[])(ap:l.length<=1000000000) :
 Calls prog 117 #[.string ⟨(Bu neg l).toArray⟩] w (Ab8 w (Cc neg (rd l))):=by
 obtain⟨i0,hi,am,an,ao⟩:=info_parts Aor;obtain⟨a8,a9⟩:=Kf (neg:=neg) hd hl;have HD:=Lib.hid hd;have HL:=Lib.hid hl;clear hd hl;obtain⟨w1,V⟩:∃ w1,w1=w.alloc (Obj.cells #[Value.bool false,Value.slice none 0 0] 124):=⟨_,rfl⟩;have a4:w1.heap.size=w.heap.size+1:=by rw[V];exact Cd _ _
 have O:=Lib.hid V;have ad:=Lib.hid a4;clear V a4
 go_enter func117,ntmps117
 go_wp2_with fail
 rw[<-O.out];refine (Tryz.strings_CutPrefix ⟨(Bu neg l).toArray⟩ ⟨#[45]⟩ w1).mono ?_;rintro e Y ⟨rfl,rfl⟩;rw[show trimPrefix (⟨(Bu neg l).toArray⟩:ByteArray).data.toList (⟨#[45]⟩:ByteArray).data.toList=l from a8,show hasPrefix (⟨(Bu neg l).toArray⟩:ByteArray).data.toList (⟨#[45]⟩:ByteArray).data.toList=neg from a9];clear a8 a9
 go_wp2_with fail
 go_loopw [5,6] (Ata Y Y.heap.size l) (fun _ i _=>(RowKit.intOf i+9).toNat)
 case atStart=>exact⟨l.length,[],oV,mV,oV,mV,⟨Low.nil,by simpa using HD.out,by simp[val]⟩,⟨rfl,.inl ⟨rfl,rfl⟩⟩,Below.refl _ _⟩
 case round =>
  obtain⟨e,ys,he,rfl,au,av,a7,C,z⟩:=hrel;obtain⟨a,n,c,rfl⟩:∃ a n c,u5=.slice a n c:=by
   rcases C.2 with ⟨D,h2⟩|⟨g,cap,ag,D,h2⟩
   ·exact⟨_,_,_,D⟩
   exact⟨_,_,_,D⟩
  have L:=Lib.hid a7;have f:=Lib.hid C;have t:=Lib.hid z;have ay:=z.size;clear a7 C z;by_cases h0:0<e
  ·obtain⟨E,rfl⟩:∃ E:Nat,e=E:=⟨e.toNat,oV⟩;have ah:E<=l.length:=oV;have ar:0<E:=oV;have aw:max (0:Int) ((E:Int)-9)=((E-9:Nat):Int):=oV;have ax:∀ W,(Instr.sliceAt 9 (.string ⟨l.toArray⟩) (some (.int .i64 (E-9:Nat))) (some (.int .i64 E)) none).run prog W=.ok (.string ⟨((l.take E).drop (E-9)).toArray⟩) W:=by
    intro W;have D:(0:Int)<=((E-9:Nat):Int)/\((E-9:Nat):Int)<=(E:Int):=oV;have h2:(0:Int)<=(E:Int)/\(E:Int)<=(⟨l.toArray⟩:ByteArray).size:=by rw[Lib.size_mk];omega
    have h3:(⟨l.toArray⟩:ByteArray).extract (E-9) E=⟨((l.take E).drop (E-9)).toArray⟩:=by
     rw[Lib.extract_mk,List.drop_take]
    simp only[Instr.sliceAt,Sem.run_bind,run_underlying Tryz.underlying9,Result.andThen_ok,Instr.slice,Instr.sliceBounds,Instr.sliceBound,asIntOf,Sem.run_pure,if_true,Option.isSome,Sem.run_ite,D,h2,and_self,A2r];simp[h3]
   have Q:Ht ((l.take E).drop (E-9)):=(HD.out.take E).drop (E-9);have T:((l.take E).drop (E-9)).length<=9:=gV;have a1:(l.take E).drop (E-9)≠[]:=by intro h;have:=congrArg List.length h;simp at this;omega
   have a3:=Aaw Q;have ak:rd ((l.take E).drop (E-9))<1000000000:=A12 a3 (by rw[show (1000000000:Nat)=10^9 from rfl];exact A1h oV T);have m:=L.out.step;rw[show (l.take ((E:Int)).toNat)=l.take E from rfl,A0q,A3o ah]at m;have a2:=Tryz.strconv_ParseUint_10_at64_ok ⟨((l.take E).drop (E-9)).toArray⟩ (by rw[Lib.size_mk];omega) (rd ((l.take E).drop (E-9))) (Amb Q a1 T) wr;have ac:=Lib.hid a2;have N:=Lib.hid m;clear a2 m a3 Q a1 T
   go_wp2_with fail
   obtain⟨d,A⟩:∃ d,d=rd ((l.take E).drop (E-9)):=⟨_,rfl⟩;rw[<-A]at ak;have F:=Lib.hid A;clear A;refine ac.out.mono ?_;rintro e w3 ⟨rfl,aa⟩;rw[<-F.out];have P:RowKit.Hid (Ext wr w3):=Lib.hid (by
    rcases aa with rfl|rfl
    ·exact Ext.refl _
    exact Wh _ _ _)
   clear aa;have aq:=P.out.size
   go_wp2_with (at_builtin;refine wpList_append_own _ rfl _ _ 122 rfl Y.heap.size 251 i0 (.int .u64 0) 1 8 Tryz.underlying122 hi am an ao rfl fV _ _ _ rfl ((Ui f.out P.out).alloc _) ⟨w3.heap.size,0,none⟩ 1 1 [.int .u64 (d:Int)] rfl rfl ?c1 ?c2 ?c3 ?c4 ?c5 ?_)
   case c1 =>
    intro j u hj
    match j,hj with
    |0,hj=>simp at hj;subst hj;simp[Addr.add]
   case c2=>intro u hu;simp at hu;subst hu;rfl
   case c3=>unfold maxLen;omega
   case c4=>omega
   case c5=>simp;omega
   intro v' w4 U R _
   go_wp2_with fail
   refine⟨⟨(E:Int)-9,ys++[d],oV,by go_num,oV,gV,?_,by simpa[A7] using U,?_⟩,by simp only[RowKit.intOf];omega⟩
   ·rw[F.out,show (l.take ((E:Int)-9).toNat)=(l.take E).take (E-9) by rw[List.take_take];congr 1;omega];exact N.out
   have h5:Below Y.heap.size wr w3:=Below.mono P.out oV;exact (((t.out.trans h5).alloc oV _).grown R gV (fun k hk=>(f.out.lt k hk).1))
  have ai:=f.out.1;have K:val ys=rd l:=by
   have:=L.out.sum;rw[show e.toNat=0 by omega]at this;simpa[rd,rdA] using this.symm
  obtain⟨rfl,I⟩:n=ys.length/\ys.length<=c:=by
   rcases f.out.2 with ⟨D,h2⟩|⟨g,cap,ag,D,h2,h3,h4,_⟩
   ·simp at D;omega
   simp at D;obtain⟨_,rfl,rfl⟩:=D;exact⟨rfl,h4⟩
  have J:=Adp f.out mV;have H:=Lib.hid J;have Z:=Lib.hid K;clear J K ai
  go_wp2_with fail
  refine (G5 a c ys.length ys wr rfl oV I H.out).mono ?_;rintro e w' ⟨rfl,al⟩;subst al
  go_wp2_with fail
  refine (Ag5 neg _ (rd l) wr (D0 L.out.low H.out Z.out I) (A0l (A8 (k:=l.length) (A12 (Aaw HD.out) (by rw[Aie];exact A1h oV oV))) oV)).mono ?_;rintro e w5 ⟨v5,rfl,⟨a5,n5,c5,rfl,a6⟩,ab⟩;have a0:=Lib.hid ab;have ae:=Lib.hid a6;have aj:w.heap.size<Y.heap.size:=by rw[ad.out];omega
  have X:RowKit.Hid (w5.heap[w.heap.size]?=some (.cells #[.bool false,.slice none 0 0] 124 (0,0))):=Lib.hid (by
   rw[Below.block a0.out _ oV,t.out.block _ aj,O.out,Cy])
  have d0:=Asw X.out;have d1:=Atg X.out;have f0:=frozen_of_row _ _ 0 _ _ X.out;have f1:=frozen_of_row _ _ 1 _ _ X.out;clear a6 ab
  go_wp2_with fail
  have af:Ext w w5:=by
   refine Ext.trans (b:=Y) (by rw[O.out];exact Ext.alloc (Ext.refl w) _) ?_;exact Below.trans t.out (Below.mono a0.out oV)
  refine Ack rfl rfl (Aov X.out) rfl ⟨_,rfl,?_,A0a af (A0s _) _ _⟩;have hs:=ae.out.grown (Auq X.out) (Axe _ _ (.bool (decide (Cc neg (rd l)<0))) (.slice a5 n5 c5));exact Au0 rfl hs
end
section
variable {q:Rat}{z:Int}
def Ls (u:PH):Prop:=∀ w,F7 u w->Lib.TabIs prog w "internal/strconv.uint64pow10" .u64 Lib.pow10Tab
def Ls.mono {u u':PH}(h:Ls u)(hl:PH.le u u'):Ls u':=fun w hp=>h w (fun g o hg=>hp g o (hl g o hg))
section
variable {u:PH} {x:Value}
def Afa {k:Nat}(f:Ls u)(d:k<18446744073709551616):Fn0 prog 198 [.int .u64 (k:Int),.int .i64 10] u fun v _=>v=.string (mkS (Lib.decDigits k)) :=
 Fn0.ofW (fun v _=>v=.string (mkS (Lib.decDigits k))) (fun w hp=>(Et k d w (f w hp)).mono fun _ _ ⟨e,h⟩=>⟨_,e,rfl,h⟩) (fun _ _ _ h _ _ _=>h)
def I6 (h:Lib.nDigits z.natAbs<=400):Fn0 prog 117 [.string (mkS (Lib.itoa z))] u fun v d=>Br d v z:=by
 refine Fn0.ofW (fun v w=>Qr w v z) (fun w _=>?_) (fun _ _ _ h _ c _=>Br.ofW h c);have:=Afg (decide (z<0)) (Lib.decDigits z.natAbs) w (Mo _) (Jn _) (by rw[Lib.decDigits_length];omega);rw[Aaf,<-Dz]at this;exact this
def Px (f:Ls u)(h:Br u x z)(d:nl z.natAbs<=100000000000):Fn0 prog 199 [x] u fun v _=>v=.string (mkS (Lib.itoa z)) :=
 Fn0.ofW (fun v _=>v=.string (mkS (Lib.itoa z))) (fun w hp=>(Zd x z w (h.toW hp) d (f w hp)).mono fun _ _ ⟨e,h⟩=>⟨_,e,rfl,h⟩) (fun _ _ _ h _ _ _=>h)
end
def Da.at {u:PH}{a:Option Addr}{n c k j:Nat}(h:Da u (.slice a n c) k)(m:j<(Aa k).length):∃ b d,a=some ⟨b,d,none⟩/\ElP u b (d+j*1) (.int .u64 ((Aa k).getD j 0:Nat)):=by
 obtain⟨D,E,g,F,A⟩:=h;simp only[Value.slice.injEq]at g;obtain⟨rfl,_,rfl⟩:=g;obtain⟨b,d,t,f⟩:=A j (by simpa using m);refine⟨b,d,t,fun i y e=>?_⟩;have C:(A7 (Aa k)).getD j (.bool false)=.int .u64 ((Aa k).getD j 0:Nat):=by simp[A7,m]
 rw[C]at f;have:i=0/\y=.int .u64 ((Aa k).getD j 0:Nat):=by
  match i,e with
  |0,e=>simp[Value.cells]at e;simp[e]
 obtain⟨rfl,rfl⟩:=this;simpa using f
def Mg {u:PH}{x:Value}(H:Ls u)(h:Br u x z)(D:nl z.natAbs<=100000000000):Fn0 prog 121 [x] u fun v _=>v=.int .i64 (Lib.nDigits z.natAbs:Nat):=by
 obtain⟨a,n,c,rfl,m⟩:=h;obtain rfl:n=(Aa z.natAbs).length:=by obtain⟨_,_,g,_⟩:=id m;simp at g;exact g.2.1
 generalize decide (z<0)=b;have E:(Aa z.natAbs).length<=100000000000:=D;refine Fn0.o func121 ?_;by_cases h0:z.natAbs=0
 ·exact G.eT' ((Aa z.natAbs).length:Int) 0 (by rw[h0,Bn];rfl)<|G.r (.int .i64 1) ⟨rfl,by rw[h0,Lib.nDigits_small oV];rfl⟩
 have hp:0<(Aa z.natAbs).length:=C5.2 oV;have t:=Uc h0;have d:=(Ar z.natAbs).getD ((Aa z.natAbs).length-1);obtain⟨f,e,rfl,C⟩:=m.at (j:=(Aa z.natAbs).length-1) oV;have I:=Ks d;have A:=Lib.decDigits_length ((Aa z.natAbs).getD ((Aa z.natAbs).length-1) 0);have F:(mkS (Lib.decDigits ((Aa z.natAbs).getD ((Aa z.natAbs).length-1) 0))).size=(Lib.decDigits ((Aa z.natAbs).getD ((Aa z.natAbs).length-1) 0)).length:=Go.Lib.size_mk _;refine G.eF ((Aa z.natAbs).length:Int) 0<|G.s ((Aa z.natAbs).length:Int) 1 (((Aa z.natAbs).length-1:Nat):Int)<|G.mul 9 (((Aa z.natAbs).length-1:Nat):Int) ((9*((Aa z.natAbs).length-1):Nat):Int) kV oV oV oV<|G.a f e (Aa z.natAbs).length c ((Aa z.natAbs).length-1) 1 oV<|G.lU none f (e+((Aa z.natAbs).length-1)*1) (.int .u64 ((Aa z.natAbs).getD ((Aa z.natAbs).length-1) 0:Nat)) C<|G.c call198 (Afa (k:=(Aa z.natAbs).getD ((Aa z.natAbs).length-1) 0) H oV) ?_;rintro L K J rfl;exact G.p ((9*((Aa z.natAbs).length-1):Nat):Int) ((Lib.decDigits ((Aa z.natAbs).getD ((Aa z.natAbs).length-1) 0)).length:Int) ((Lib.nDigits z.natAbs:Nat):Int)<|G.r _ ⟨rfl,rfl⟩
def Aqd {u:PH}{x:Value}(g:Ls u)(e:A9 u x q)(h:Tx q):Fn0 prog 122 [x] u fun v _=>v=.string (mkS (Ag q)):=by
 obtain⟨b,a,n,c,b',A,H,C,rfl⟩:=e.opn;have j:=A0l (Bh h.2) (show 400<=4000000000000 by omega);refine Fn0.o func122<|G.c call118 (I8 e j) ?_;rintro K I d rfl;by_cases f:q.den=1
 ·rw[decide_eq_true f];refine G.c call199 (Px (g.mono d) (e.num.mono d) (A0l (Bh h.1) oV)) ?_;rintro t m l2 rfl;exact G.r (.string (mkS (Lib.itoa q.num))) ⟨rfl,by rw[Ag,if_pos f]⟩
 rw[decide_eq_false f];refine G.c call199 (Px (g.mono d) (e.num.mono d) (A0l (Bh h.1) oV)) ?_;rintro t m l2 rfl;have D:=Gy h.1;have E:=Gy h.den;refine G.addS (Lib.itoa q.num) [47] kV gV<|G.c call199 (Px (g.mono (d.trans l2)) (e.den.mono (d.trans l2)) (A0l (Bh h.den) oV)) ?_;rintro L J F rfl;exact G.addS (Lib.itoa q.num++[47]) (Lib.itoa (q.den:Int)) kV gV<|G.r (.string (mkS (Lib.itoa q.num++[47]++Lib.itoa (q.den:Int)))) ⟨rfl,by rw[Ag,if_neg f];simp⟩
def Ts {u:PH}{x:Value}(f:Ls u)(d:A9 u x q)(h:Tx q):Fn0 prog 52 [x] u fun v _=>v=.tuple #[.string (mkS (Ag q)),.int .i64 0]:=by
 obtain⟨b,a,n,c,b',g,D,j,rfl⟩:=d.opn;have t:=h.2;have m:=h.1;refine Fn0.o func52<|G.c call121 (Mg f d.num (A0l (Bh h.1) oV)) ?_;rintro I E e rfl;refine G.gF (Lib.nDigits q.num.natAbs:Nat) 400<|G.c call121 (Mg (f.mono e) (d.den.mono e) (A0l (Bh h.den) oV)) ?_;rintro J F l2 rfl;have A:=h.den;refine G.gF ((Lib.nDigits ((q.den:Int)).natAbs:Nat):Int) 400<|G.c call122 (Aqd (f.mono (e.trans l2)) (d.mono (e.trans l2)) h) ?_;rintro K H C rfl;exact G.r _ ⟨rfl,rfl⟩
end
section
variable {c:UInt8}{l:List UInt8}{q:Rat}{u:PH}
def Aip (h:∀ b∈l,b≠c):Lib.indexByte l c = -1:=by
 induction l with
 |nil=>rfl
 |cons b l ih =>
  have d:(b==c)=false:=by rw[beq_eq_false_iff_ne];exact h b mV
  rw[Lib.indexByte,d,ih (fun x e=>h x (by simp[e]))];rfl
def Apv {l r:List UInt8}(h:∀ b∈l,b≠c):Lib.indexByte (l++c::r) c=l.length:=by
 induction l with
 |nil=>simp[Lib.indexByte]
 |cons b l ih =>
  have d:(b==c)=false:=by rw[beq_eq_false_iff_ne];exact h b mV
  have e:=ih (fun x g=>h x (by simp[g]));rw[A5a,Lib.indexByte,d,e];have f:(((l.length:Nat):Int) == -1)=false:=by rw[beq_eq_false_iff_ne];omega
  simp[f]
def Ar5 :Fn0 prog 232 [.string (mkS l),.string (mkS [c])] u fun v _=>v=.int .i64 (Lib.indexByte l c) :=
 Fn0.ofW (fun v _=>v=.int .i64 (Lib.indexByte l c)) (fun w _=>(Tryz.stringslite_Index_one (mkS l) c w).mono fun _ _ ⟨e,h⟩=>⟨_,e,rfl,by rw[h];exact Ext.refl _⟩) (fun _ _ _ h _ _ _=>h)
def A0f {T:List UInt8}(h:∀ b∈T,b≠47):Fn0 prog 116 [.string (mkS T),.string (mkS [47])] u fun v _=>v=.tuple #[.string (mkS T),.string (mkS []),.bool false]:=by
 have d:Fn0 prog 192 [.string (mkS T),.string (mkS [47])] u fun v _=>v=.tuple #[.string (mkS T),.string (mkS []),.bool false]:=by
  refine Fn0.o func192<|G.c call232 (Ar5 (l:=T) (c:=47)) ?_;rintro g f e rfl;rw[Aip h];exact G.hF (-1) 0<|G.r (.tuple #[.string (mkS T),.string (mkS []),.bool false]) ⟨rfl,rfl⟩
 refine Fn0.o func116<|G.c call192 d ?_;rintro g f e rfl;exact G.r _ ⟨rfl,rfl⟩
def Az3 {A B:List UInt8}(h:∀ b∈A,b≠47)(C:(A++47::B).length<=1000000):Fn0 prog 116 [.string (mkS (A++47::B)),.string (mkS [47])] u fun v _=>v=.tuple #[.string (mkS A),.string (mkS B),.bool true]:=by
 have m:(A++47::B).length=A.length+1+B.length:=gV
 have j:(A++47::B).take A.length=A:=mV
 have d:(A++47::B).drop (A.length+1)=B:=by rw[<-A31];simp
 have f:=Apv (r:=B) h;generalize A++47::B=T at *
 have g:(mkS T).size=T.length:=Go.Lib.size_mk _;have e:Fn0 prog 192 [.string (mkS T),.string (mkS [47])] u fun v _=>v=.tuple #[.string (mkS A),.string (mkS B),.bool true]:=by
  refine Fn0.o func192<|G.c call232 (Ar5 (l:=T) (c:=47)) ?_;rintro z t n rfl;rw[f];refine G.hT A.length 0<|G.sliceSTo T A.length kV kV oV ?_;rw[j];refine G.p A.length 1 (A.length+1:Nat)<|G.sliceSFrom T (A.length+1) kV kV oV ?_;rw[d];exact G.r (.tuple #[.string (mkS A),.string (mkS B),.bool true]) ⟨rfl,rfl⟩
 refine Fn0.o func116<|G.c call192 e ?_;rintro z t n rfl;exact G.r _ ⟨rfl,rfl⟩
def Azh (h:Tx q):Fn0 prog 116 [.string (mkS (Ag q)),.string (mkS [47])] u fun v _=>v=.tuple #[.string (mkS (Lib.itoa q.num)),.string (mkS (if q.den=1 then [] else Lib.itoa (q.den:Int))),.bool (decide (q.den≠1))]:=by
 have e:=Gy h.1;have l2:=Gy h.den;unfold Ag;by_cases d:q.den=1
 ·rw[if_pos d,if_pos d,decide_eq_false (by simp[d])];exact A0f (Hi _)
 rw[if_neg d,if_neg d,decide_eq_true d];exact Az3 (Hi _) gV
def A9.mk {u:PH}{q:Rat}{y z:Int}{b b':Bool}{a e:Option Addr}{n c h f:Nat}(j:Br u (.agg #[.bool b,.slice a n c]) y)(m:Br u (.agg #[.bool b',.slice e h f]) z)(t:q.num=y)(A:(q.den:Int)=z) :
 A9 u (.agg #[.bool b,.slice a n c,.bool b',.slice e h f]) q:=by
 obtain⟨_,_,_,g,C⟩:=j;obtain⟨_,_,_,d,D⟩:=m;subst t A;rw[decide_eq_false oV]at d;simp only[Value.agg.injEq,A5b,A3b,Value.bool.injEq,Value.slice.injEq,and_true]at g d;obtain⟨rfl,rfl,rfl,rfl⟩:=g;obtain⟨rfl,rfl,rfl,rfl⟩:=d;exact⟨_,_,_,_,_,_,rfl,C,D⟩
def Lh (h:Tx q):Fn0 prog 48 [.string (mkS (Ag q))] u fun v I=>A9 I v q:=by
 refine Fn0.o func48<|G.c call116 (Azh h) ?_;rintro P O N rfl;by_cases d:q.den=1
 ·rw[if_pos d,decide_eq_false (by simp[d])];refine G.c call117 (I6 h.1) ?_;intro K H l2 f;obtain⟨n,j,E,A,rfl⟩:=f.opn;have e:=I6 (u:=H) (z:=1) (by rw[Lib.nDigits_small fV];omega);rw[H5]at e;refine G.c call117 e ?_;intro L J D g;obtain⟨t,m,F,C,rfl⟩:=g.opn;exact G.r (.agg #[.bool n,.slice j E A,.bool t,.slice m F C]) ⟨rfl,A9.mk (f.mono D) g rfl (by rw[d];rfl)⟩
 rw[if_neg d,decide_eq_true d];refine G.c call117 (I6 h.1) ?_;intro K H l2 f;obtain⟨n,j,E,A,rfl⟩:=f.opn;refine G.c call117 (I6 h.den) ?_;intro L J D g;obtain⟨t,m,F,C,rfl⟩:=g.opn;exact G.r (.agg #[.bool n,.slice j E A,.bool t,.slice m F C]) ⟨rfl,A9.mk (f.mono D) g rfl rfl⟩
end
section
variable {e v:Value}{es:List Value}{q:Rat}{qs:List Rat}{sz:Nat}{u:PH}
def B4 (ts:List (List UInt8)):List Value:=ts.map fun t=>Value.string (mkS t)
def Du (ts:List (List UInt8)):(B4 ts).length=ts.length:=by simp[B4]
def Aiz (ts:List (List UInt8))(t:List UInt8):B4 ts++[.string (mkS t)]=B4 (ts++[t]):=by simp[B4]
def Jc (ts:List (List UInt8)):Bm 1 (B4 ts):=by
 intro e d;simp only[B4,A0r]at d;obtain⟨b,_,rfl⟩:=d;exact⟨rfl,fun x f=>by simp[Value.cells]at f;subst f;rfl⟩
def Ck (u:PH)(v:Value)(ts:List (List UInt8)):Prop:=Ab u v 1 (B4 ts)
def Kl (u:PH)(es:List Value)(qs:List Rat):Prop:=es.length=qs.length/\∀ (j:Nat) (q:Rat),qs[j]?=some q->∃ e,es[j]?=some e/\A9 u e q
def Kl.mono {u u':PH}{es:List Value}{qs:List Rat}(h:Kl u es qs)(hl:PH.le u u'):Kl u' es qs :=
 ⟨h.1,fun j q hj=>by obtain⟨e,h1,h2⟩:=h.2 j q hj;exact⟨e,h1,h2.mono hl⟩⟩
def Kl.snoc (h:Kl u es qs)(t:A9 u e q):Kl u (es++[e]) (qs++[q]):=by
 refine⟨by simp[h.1],fun j r d=>?_⟩;by_cases f:j<qs.length
 ·rw[A09 f]at d;obtain⟨g,m,n⟩:=h.2 j r d;exact⟨g,by rw[A09 (by rw[h.1];exact f)];exact m,n⟩
 rw[A1d oV]at d;have:j-qs.length=0:=by
  rcases A1p (j-qs.length) with h0|h0
  ·exact h0
  rw[A1k gV]at d;cases d
 rw[this]at d;simp at d;subst d;refine⟨e,?_,t⟩;rw[A1d (by rw[h.1];omega),h.1,this];rfl
def Jx (u:PH)(v:Value)(qs:List Rat):Prop:=∃ es,Ab u v 4 es/\Kl u es qs
def Jx.mono {u u':PH}{v:Value}{qs:List Rat}(h:Jx u v qs)(hl:PH.le u u'):Jx u' v qs:=by
 obtain⟨es,h1,h2⟩:=h;exact⟨es,h1.mono hl,h2.mono hl⟩
def A9.ok (h:A9 u e q):Bm 4 [e]:=by
 obtain⟨b,a,n,c,b',g,m,j,rfl⟩:=h.opn;intro x d;simp at d;subst d;exact⟨rfl,fun y f=>by simp[Value.cells]at f;rcases f with rfl|rfl|rfl|rfl<;>rfl⟩
def Ab.opn (h:Ab u v sz es):∃ a c,v=.slice a es.length c:=by
 obtain⟨a,c,rfl,_⟩:=h;exact⟨a,c,rfl⟩
def Ab.at' {a:Option Addr}{n c sz:Nat}(h:Ab u (.slice a n c) sz es){j:Nat}(m:es[j]?=some e):∃ b d,a=some ⟨b,d,none⟩/\ElP u b (d+j*sz) e:=by
 obtain⟨t,z,f,A,g⟩:=h;simp only[Value.slice.injEq]at f;obtain⟨rfl,_,rfl⟩:=f;exact g j e m
def Z1 (h:Ck u v (qs.map Ag))(hq:∀ q∈qs,Tx q)(hl:qs.length<=1000000):Fn0 prog 173 [v] u fun v' N=>Jx N v' qs:=by
 obtain⟨a,c,rfl⟩:=Ab.opn h;have A:(B4 (qs.map Ag)).length=qs.length:=by rw[Du,A0k]
 rw[A]at h⊢;refine Fn0.o func173<|G.l (ι:=Nat×List Value×(Option Addr×Nat×Nat)) (fun i=>[(3,sV i.2.2.1 i.2.2.2.1 i.2.2.2.2),(6,sV a qs.length c),(7,iV qs.length),(8,iV i.1)]) (fun _=>[])
  (fun i N W=>i.1<=qs.length/\Kl N i.2.1 (qs.take i.1)/\Af PH.mt W (.slice i.2.2.1 i.2.2.2.1 i.2.2.2.2) 126 4 i.2.1) (fun i=>qs.length-i.1) (0,[],(none,0,0)) ⟨mV,⟨mV,fun j q hj=>by simp at hj⟩,Af.nil _ _ _⟩ ?_
 rintro J ⟨k,es,⟨R,X,U⟩⟩ V N W z ⟨hk,hF,O⟩;simp only at hk hF O V;have P:=hF.1;rw[A0q]at P;by_cases C:k<qs.length
 ·refine G.lT k qs.length ?_;have D:qs[k]?=some qs[k]:=A0i C;obtain⟨T,Y,rfl,ea⟩:=Ab.at' (Ab.mono h z) (j:=k) (e:=.string (mkS (Ag qs[k]))) (by simp[B4,D]);have Q:=hq qs[k] (A0y C);refine G.a T Y qs.length c k 1 oV<|G.lU none T (Y+k*1) (.string (mkS (Ag qs[k]))) ea<|G.c call48 (Lh Q) ?_;intro v2 u2 l2 K;obtain⟨H,F,L,I,f,d,n,m,rfl⟩:=K.opn;refine G.B 126 4 64 (.agg #[.bool false,.slice none 0 0,.bool false,.slice none 0 0]) [.agg #[.bool H,.slice F L I,.bool f,.slice d n m]] K.ok ?_;intro g u3 E e3;refine G.append 126 4 64 (.agg #[.bool false,.slice none 0 0,.bool false,.slice none 0 0]) PH.mt es [.agg #[.bool H,.slice F L I,.bool f,.slice d n m]] (.slice R X U) g 0 1 1 kV rfl rfl oV O e3 K.ok rfl oV oV oV ?_;intro v4 m4 t;obtain⟨Z,c4,rfl⟩:=t.shape;refine G.i k<|G.b (V (k+1,es++[Value.agg #[.bool H,.slice F L I,.bool f,.slice d n m]],(Z,(es++[Value.agg #[.bool H,.slice F L I,.bool f,.slice d n m]]).length,c4)) _ _ _ cV ((z.trans l2).trans E) ⟨dV,?_,t⟩ dV);dsimp only;rw[A0t,D];exact (hF.mono (l2.trans E)).snoc (K.mono E)
 have:k=qs.length:=oV;subst this;refine G.lF qs.length qs.length<|G.give PH.mt es _ kV O (fun _=>.inl rfl) ?_;intro u3 E hL;rw[A05]at hF;exact G.r (.slice R X U) ⟨rfl,es,hL,hF.mono E⟩
def Ail (ht:Ls u)(h:Jx u v qs)(hq:∀ q∈qs,Tx q)(hl:qs.length<=1000000):Fn0 prog 101 [v] u fun v' I=>∃ r,v'=.tuple #[r,.int .i64 0]/\Ck I r (qs.map Ag):=by
 obtain⟨es,m,hF⟩:=h;obtain⟨a,c,rfl⟩:=Ab.opn m;rw[hF.1]at m⊢;refine Fn0.o func101<|G.l (ι:=Nat×(Option Addr×Nat×Nat)) (fun i=>[(4,sV i.2.1 i.2.2.1 i.2.2.2),(9,sV a qs.length c),(10,iV qs.length),(11,iV i.1)]) (fun _=>[])
  (fun i I Q=>i.1<=qs.length/\Af PH.mt Q (.slice i.2.1 i.2.2.1 i.2.2.2) 30 1 (B4 ((qs.take i.1).map Ag))) (fun i=>qs.length-i.1) (0,(none,0,0)) ⟨mV,Af.nil _ _ _⟩ ?_
 rintro J ⟨k,⟨K,R,N⟩⟩ O I Q d ⟨hk,E⟩;simp only at hk E O;have a0:(B4 ((qs.take k).map Ag)).length=k:=by simp[B4];omega
 by_cases t:k<qs.length
 ·refine G.lT k qs.length ?_;have z:qs[k]?=some qs[k]:=A0i t;obtain⟨e,he,n⟩:=hF.2 k _ z;obtain⟨L,T,rfl,ea⟩:=Ab.at' (m.mono d) (j:=k) he;have F:=hq qs[k] (A0y t);obtain⟨W,U,n2,X,C,A,H,D,rfl⟩:=n.opn;refine G.a L T qs.length c k 4 oV<|G.lU (some 4) L (T+k*4) (.agg #[.bool W,.slice U n2 X,.bool C,.slice A H D]) ea<|G.c call52 (Ts (ht.mono d) (n.mono d) F) ?_;rintro v2 u2 l2 rfl;refine G.nF 0 0<|G.B 30 1 16 (.string (mkS [])) [.string (mkS (Ag qs[k]))] (Jc [Ag qs[k]]) ?_;intro g u3 P Z;refine G.append 30 1 16 (.string (mkS [])) PH.mt (B4 ((qs.take k).map Ag)) [.string (mkS (Ag qs[k]))] (.slice K R N) g 0 1 1 kV rfl rfl oV E Z (Jc [Ag qs[k]]) rfl oV oV oV ?_;intro v4 m4 f;rw[Aiz,show (qs.take k).map Ag++[Ag qs[k]]=(qs.take (k+1)).map Ag by rw[A0t,z,A02];rfl]at f;obtain⟨V,Y,rfl⟩:=f.shape;exact G.i k<|G.b (O (k+1,(V,(B4 ((qs.take (k+1)).map Ag)).length,Y)) _ _ _ cV ((d.trans l2).trans P) ⟨dV,f⟩ dV)
 have:k=qs.length:=oV;subst this;refine G.lF qs.length qs.length<|G.give PH.mt _ _ kV E (fun _=>.inl rfl) ?_;intro u3 P m;rw[A05]at m;exact G.r (.tuple #[.slice K R N,.int .i64 0]) ⟨rfl,_,rfl,m⟩
end
def Ahd {u:PH}{v:Value}{ts:List (List UInt8)}{fid:Nat}{cap:Array Value}(h:Ck u v ts)(L:ts.length<=1000000)
 (d:∀ args w,(callFunc fid args).run prog w=.ok (.enter fid args) w) (F:∀ t∈ts,∀ m,PH.le u m->Fn0 prog fid [.string (mkS t)] m fun v _=>v=.bool false) :
 Fn0 prog 184 [v,.func (.func fid) #[] #[]] u fun I _=>I=.int .i64 (-1):=by
 obtain⟨a,c,rfl⟩:=Ab.opn h;rw[Du]at h⊢;refine Fn0.o func184<|G.l (ι:=Nat) (fun i=>[(0,sV a ts.length c),(1,.v (.func (.func fid) #[] #[])),(7,iV ts.length),(8,iV i)]) (fun _=>[])
  (fun i m A=>i<=ts.length/\A=PH.mt) (fun i=>ts.length-i) 0 ⟨oV,rfl⟩ ?_
 rintro J k E m A f ⟨K,rfl⟩;by_cases g:k<ts.length
 ·refine G.lT k ts.length ?_;have n:ts[k]?=some ts[k]:=A0i g;obtain⟨z,C,rfl,D⟩:=Ab.at' (Ab.mono h f) (j:=k) (e:=.string (mkS ts[k])) (by simp[B4,n]);refine G.a z C ts.length c k 1 oV<|G.lU none z (C+k*1) (.string (mkS ts[k])) D<|G.c d (F ts[k] (A0y g) m f) ?_;rintro O N H rfl;exact G.i k<|G.b (E (k+1) _ _ _ cV (f.trans H) ⟨oV,rfl⟩ oV)
 exact G.lF k ts.length<|G.r (.int .i64 (-1)) ⟨rfl,rfl⟩
def Pl {u:PH}{v:Value}{ts:List (List UInt8)}{fid:Nat}(h:Ck u v ts)(g:ts.length<=1000000)
 (d:∀ args w,(callFunc fid args).run prog w=.ok (.enter fid args) w) (f:∀ t∈ts,∀ e,PH.le u e->Fn0 prog fid [.string (mkS t)] e fun v _=>v=.bool false) :
 Fn0 prog 103 [v,.func (.func fid) #[] #[]] u fun j _=>j=.bool false:=by
 obtain⟨a,c,rfl⟩:=Ab.opn h;refine Fn0.o func103<|G.c call184 (Ahd (cap:=#[]) h g d f) ?_;rintro z n m rfl;exact G.hF (-1) 0<|G.r (.bool false) ⟨rfl,rfl⟩
section
section rules
variable [Cj] {P:Program} [A6 P] {fn:Func} {Post:Ca} {st:List KI×S} {u m:PH}
def Ci.heap {w w':World}(h:Ci u m w)(e:∀ g:Nat,w'.heap[g]?=w.heap[g]?):Ci u m w' :=
 ⟨fun g o d=>by rw[e];exact h.pu g o d,fun g o d=>by rw[e];exact h.pm g o d,h.ap,fun g cs t fr j z d f=>h.cl g cs t fr j z (by rw[<-e];exact d) f⟩
def G.convSB (d:Option TypeDesc)(e:TypeId)(l:List UInt8)(h:Ak P (adv P st)=.conv d (some (.slice e)) (.string (mkS l)))(hd:d.isSome=true)(he:P.underlying e=some (.int .u8))
 (k:∀ v f,PH.le u f->Ab f v 1 (Bv l)->G P fn Post (nx (adv P st) v) f m):G P fn Post st u m:=by
 refine G.big (K:=fun R f Q=>Q=m/\Ab f R 1 (Bv l)) h mV (fun H op hv=>?_) (.inl fun v f Q C=>by rw[C.1];exact PH.le_refl _) (fun H o n w L=>?_) (fun R f Q N C=>?_)
 ·obtain⟨s,T,X,rfl,_,_,F⟩:=On hv;exact Alc F mV
 ·obtain⟨s,T,X,U,Y,Z,F⟩:=On n;obtain⟨W,a0,V,pos,E,I⟩:=o;simp only at U;subst U;obtain⟨dd,rfl⟩:=A55.1 hd;have hr:=Lib.run_convert_string_bytes (P:=P) w s T e (mkS l) Z F he;have O:(mkS l).size=l.length:=Go.Lib.size_mk l;obtain⟨g1,g2,g3,g4⟩:=L.newU (.cells (Lib.bytesCells w e (mkS l)) e ((Lib.bytesCells w e (mkS l)).size,(Lib.bytesCells w e (mkS l)).size+1));have hh:∀ g:Nat,(Lib.bytesWorld w e (mkS l)).heap[g]?=(w.alloc (.cells (Lib.bytesCells w e (mkS l)) e ((Lib.bytesCells w e (mkS l)).size,(Lib.bytesCells w e (mkS l)).size+1))).heap[g]?:=by
   intro g;rcases A5q g w.heap.size with t|t|t
   ·rw[Lib.bytesWorld_at_old w e _ g t,Bi _ _ t]
   ·subst t;rw[Lib.bytesWorld_at_new,Cy]
   rw[A4q (by rw[Lib.bytesWorld_size];omega),A4q (by rw[Cd];omega)]
  refine B0 (by simp[execOp,Y,hr];rfl) ⟨_,m,g1.heap hh,⟨by rw[Lib.bytesWorld_size];omega,fun g hg hm=>Lib.bytesWorld_at_old w e _ g hg,g2.us,g2.ms,⟨rfl,rfl⟩,fun _=>⟨rfl,by first|exact A0s _|exact Nat.le_succ _⟩⟩,rfl,?_⟩
  refine⟨some ⟨w.heap.size,0,none⟩,grownCap w l.length 0 e,by rw[Az,O],by rw[Az];exact grownCap_ge w _ _ e,fun j x z=>⟨_,0,rfl,fun i y D=>⟨_,_,_,Ac _ _ _,?_⟩⟩⟩;have A:j<l.length:=by
   rcases A16 j l.length with J|J
   ·exact J
   rw[A1k (by rw[Az];exact J)]at z;cases z
  rw[Hh A]at z;simp only[A0u]at z;subst z;have:i=0/\y=.int .u8 ((l.getD j 0).toNat:Int):=by
   match i,D with
   |0,D=>simp[Value.cells]at D;simp[D]
  obtain⟨rfl,rfl⟩:=this;simp[Lib.bytesCells,Array.getElem?_append,A,List.getD]
 obtain⟨rfl,C⟩:=C;exact k R f N C
end rules
def Af5 {u:PH}{s p:List UInt8}:Fn0 prog 200 [.string (mkS s),.string (mkS p)] u fun v _=>v=.string (mkS (Lib.trimPrefix s p)) :=
 Fn0.ofW (fun v _=>v=.string (mkS (Lib.trimPrefix s p))) (fun w _=>(Tryz.strings_TrimPrefix (mkS s) (mkS p) w).mono fun _ _ ⟨e,h⟩=>⟨_,e,rfl,by rw[h];exact Ext.refl _⟩) (fun _ _ _ h _ _ _=>h)
def Lr {u:PH}{z:Int}(h:Lib.nDigits z.natAbs<=400):Fn0 prog 130 [.string (mkS (Lib.itoa z))] u fun v _=>v=.bool true:=by
 refine Fn0.o func130 ?_;by_cases h0:z=0
 ·subst h0;exact G.q (Lib.itoa 0) [48] Ew<|G.r (.bool true) ⟨rfl,rfl⟩
 refine G.w (Lib.itoa z) [48] (fun e=>h0 (H0 (e.trans Ew.symm)))<|G.c call200 (Af5 (s:=Lib.itoa z) (p:=[45])) ?_;rintro Z X V rfl;have g:=Lib.decDigits_length z.natAbs;have Q:=Lib.nDigits_pos z.natAbs;have f:=Mo z.natAbs;obtain⟨D,d,N,O⟩:=Qc (z:=(z.natAbs:Int)) oV oV;rw[Wc]at d;rw[Dz z,(Kf f (Jn _)).1];generalize R:Lib.decDigits z.natAbs=L at *
 have A:(mkS L).size=L.length:=Go.Lib.size_mk _;refine G.w L [] (by intro e;rw[e]at g;simp at g;omega)<|G.gF L.length 400<|G.idxS L 0 D kV d<|G.cmpG .eql .u8 (D.toNat:Int) 48 false kV rfl (by simp only[C8,decide_eq_false_iff_not];omega)<|G.convSB (some .string) 5 L kV rfl kV ?_;intro v2 Y l2 C;obtain⟨a,c,rfl⟩:=Ab.opn C;rw[Az]at C⊢;refine G.l (ι:=Nat) (fun i=>[(23,sV a L.length c),(24,iV L.length),(25,iV i)]) (fun _=>[]) (fun i _ F=>i<=L.length/\F=PH.mt) (fun i=>L.length-i) 0 ⟨oV,rfl⟩ ?_;rintro J i K W F n ⟨U,rfl⟩;by_cases t:i<L.length
 ·refine G.lT i L.length ?_;have T:=Lm f t;obtain⟨E,H,rfl,I⟩:=Ab.at' (Ab.mono C n) (j:=i) (Hh t);exact G.a E H L.length c i 1 oV<|G.lU none E (H+i*1) (.int .u8 ((L.getD i 0).toNat:Int)) I<|G.cmpG .lss .u8 ((L.getD i 0).toNat:Int) 48 false kV rfl (by simp only[C8,decide_eq_false_iff_not];omega)<|G.cmpG .gtr .u8 ((L.getD i 0).toNat:Int) 57 false kV rfl (by simp only[C8,decide_eq_false_iff_not];omega)<|G.i i<|G.b (K (i+1) _ _ _ cV n ⟨oV,rfl⟩ oV)
 exact G.lF i L.length<|G.r (.bool true) ⟨rfl,rfl⟩
end
section
variable {q:Rat}{u:PH}{z:Int}
def Aft (h:Lib.nDigits z.natAbs<=400):Fn0 prog 201 [.string (mkS (Lib.itoa z))] u fun v m=>Br m v z:=by
 refine Fn0.o func201<|G.c call117 (I6 h) ?_;intro t n l2 d;obtain⟨f,e,j,g,rfl⟩:=d.opn;exact G.r (.agg #[.bool f,.slice e j g]) ⟨rfl,d⟩
def Aeb {y z:Int}(h:Lib.nDigits y.natAbs<=400)(d:Lib.nDigits z.natAbs<=400):Fn0 prog 131 [.string (mkS (Lib.itoa y)),.string (mkS (Lib.itoa z))] u fun v _=>v=.int .i64 (sgn (y-z)):=by
 refine Fn0.o func131<|G.c call130 (Lr h) ?_;rintro P J D rfl;refine G.c call130 (Lr d) ?_;rintro Q K l2 rfl;refine G.c call201 (Aft h) ?_;intro R L E e;obtain⟨n,j,H,A,rfl⟩:=e.opn;refine G.c call201 (Aft d) ?_;intro T N g f;obtain⟨t,m,I,C,rfl⟩:=f.opn;refine G.c call133 (Kg (e.mono g) f (A0l (Bh h) oV) (A0l (Bh d) oV)) ?_;rintro U O F rfl;exact G.r _ ⟨rfl,rfl⟩
def Ge (h:Tx q):Fn0 prog 59 [.string (mkS (Ag q))] u fun v _=>v=.bool true:=by
 refine Fn0.o func59<|G.c call116 (Azh h) ?_;rintro v1 u1 W rfl;refine G.c call130 (Lr h.1) ?_;rintro v2 u2 l2 rfl;by_cases d:q.den=1
 ·rw[if_pos d,decide_eq_false (by simp[d])];refine G.c call130 (Lr h.1) ?_;rintro H t D rfl;exact G.r (.bool true) ⟨rfl,rfl⟩
 rw[if_neg d,decide_eq_true d];have C:=Arw d;have A:=q.den_nz;refine G.w (Lib.itoa q.num) [48] (fun e=>C (H0 (e.trans Ew.symm)))<|G.c call130 (Lr h.den) ?_;rintro H t D rfl;have g:=Aeb (u:=t) (y:=(q.den:Int)) (z:=1) h.den (by rw[Lib.nDigits_small fV];omega);rw[H5]at g;refine G.c call131 g ?_;rintro v4 u4 X rfl;refine G.kF' (sgn ((q.den:Int)-1)) 0 (by rw[Db oV];omega)<|G.c call117 (I6 h.1) ?_;intro v5 u5 Y j;obtain⟨N,I,n5,R,rfl⟩:=j.opn;refine G.c call117 (I6 h.den) ?_;intro v6 u6 E m;obtain⟨O,J,n6,T,rfl⟩:=m.opn;refine G.c call132 (Abx (j.mono E) m (A0l (Bh h.1) oV) (A0l (Bh h.den) oV)) ?_;intro v7 u7 Z f;rw[show Nat.gcd q.num.natAbs ((q.den:Int)).natAbs=1 from q.reduced]at f;obtain⟨P,K,n7,U,rfl⟩:=f.opn;refine G.c call115 (N8 (z:=1) oV oV) ?_;intro v8 u8 F n;obtain⟨Q,L,n8,V,rfl⟩:=n.opn;refine G.c call133 (Kg (f.mono F) n (A0l S9 oV) (A0l S9 oV)) ?_;rintro v9 u9 l9 rfl;exact G.eT' (sgn (((1:Nat):Int)-1)) 0 fV<|G.r (.bool true) ⟨rfl,rfl⟩
def Ael (h:Tx q):Fn0 prog 171 [.string (mkS (Ag q))] u fun v _=>v=.bool false:=by
 refine Fn0.o func171<|G.c call59 (Ge h) ?_;rintro f e d rfl;exact G.r (.bool false) ⟨rfl,rfl⟩
def Afx {v:Value}{qs:List Rat}(h:Ck u v (qs.map Ag))(f:∀ q∈qs,Tx q)(e:qs.length<=1000000):Fn0 prog 94 [v] u fun j _=>j=.bool true:=by
 obtain⟨a,c,rfl⟩:=Ab.opn h;refine Fn0.o func94<|G.c call103 (Pl (fid:=171) h (by simpa using e) call171 (fun t g n _=>?_)) ?_
 ·obtain⟨q,d,rfl⟩:=A0r.1 g;exact Ael (f q d)
 rintro C A m rfl;exact G.r (.bool true) ⟨rfl,rfl⟩
end
section
variable {g j k:Nat}{x:SV}
variable [Cj] [Dd]
def SV.pub (k g:Nat):SV->SV
 |.p j off=>cond (Nat.beq j k) (.v (.pointer (some ⟨g,off,none⟩))) (.p j off)
 |x=>x
def Blk.pub (k g:Nat)(b:Blk):Blk:=⟨b.t,b.cells.map (SV.pub k g)⟩
def S.pub (s:S)(k g:Nat):S:={ n:=s.n,tm:=fun d=>(s.tm d).pub k g,hp:=fun j=>cond (Nat.beq j k) none ((s.hp j).map (Blk.pub k g)) }
def SV.pub_den (k:Nat)(ρ:Nat->Nat)(x:SV):(x.pub k (ρ k)).den ρ=x.den ρ:=by
 cases x with
 |junk=>rfl
 |v x=>rfl
 |p j off =>
  cases hb:Nat.beq j k with
  |true=>have:=A1u hb;subst this;simp[SV.pub,SV.den]
  |false=>simp[SV.pub,hb]
def SV.pub_junk :x.pub k g≠.junk↔x≠.junk:=by
 cases x with
 |junk=>simp[SV.pub]
 |v x=>simp[SV.pub]
 |p j off=>cases hb:Nat.beq j k<;>simp[SV.pub,hb]
def SV.pub_p {k g j d:Nat}(h:x.pub k g=.p j d):x=.p j d/\j≠k:=by
 cases x with
 |junk=>cases h
 |v x=>cases h
 |p j' off' =>
  cases hb:Nat.beq j' k with
  |true=>simp[SV.pub,hb]at h
  |false =>
   simp[SV.pub,hb]at h;obtain⟨rfl,rfl⟩:=h;exact⟨rfl,fun e=>by subst e;simp at hb⟩
def Oc (s:S)(k g:Nat):(s.pub k g).hp k=none:=by simp[S.pub]
def Lo (s:S)(h:j≠k):(s.pub k g).hp j=(s.hp j).map (Blk.pub k g):=by
 have:Nat.beq j k=false:=by rw[<-A8v];exact fun d=>h (A1u d)
 simp[S.pub,this]
section rules
variable {c:Cx} {s:S} {u m:PH} {ρ:Nat->Nat} {a:Act} {w:World}
def Rel.pub (h:Rel c s u m ρ a w){k:Nat}{t:TypeId}{xs:List Value}(Y:s.hp k=some ⟨t,xs.map SV.v⟩):Rel c (s.pub k (ρ k)) u (m.upd (ρ k) (.cells xs.toArray t (0,0))) ρ a w:=by
 obtain⟨⟨cs,X,e2,e3⟩,e4,e5,e6⟩:=h.box k _ Y;have Q:cs=xs.toArray:=by
  apply Array.ext
  ·simpa using e2
  intro i F H;have:=e3 i (.v xs[i]) (by simp at H;simp[H]) mV;rw[A15 F]at this;simpa[SV.den] using this
 subst Q;have U:∀ j,s.hp j≠none->j≠k->ρ j≠ρ k:=fun j D f e=>f (h.inj j k D (by rw[Y];simp) e);refine⟨h.sz,fun d R=>?_,h.df.of fun r e _ hu I=>⟨e,hu,by rw[Ad _ _ (fun Z=>by rw[Z,X]at e;cases e)];exact I⟩,fun j b L=>?_,fun i j A D he=>?_,⟨fun d j E R=>?_,fun i b j E A I=>?_⟩,⟨h.gd.pu,fun g o C=>?_,fun g=>?_,h.gd.cl⟩,⟨h.gr.sz,h.gr.old,h.gr.us,fun g C I=>?_,h.gr.io,h.gr.dr⟩⟩
 ·have T:s.tm d≠.junk:=SV.pub_junk.1 R;show a.tmps[d]?=some (((s.tm d).pub k (ρ k)).den ρ);rw[SV.pub_den];exact h.tm d T
 ·by_cases f:j=k
  ·subst f;rw[Oc]at L;cases L
  rw[Lo _ f]at L;obtain⟨N,z,rfl⟩:=A5f.1 L;obtain⟨⟨O,f1,f2,f3⟩,f4,f5,f6⟩:=h.box j N z;refine⟨⟨O,f1,by simp[Blk.pub,f2],fun i x A hx=>?_⟩,f4,f5,?_⟩
  ·simp only[Blk.pub,A0n]at A;obtain⟨y,V,rfl⟩:=A5f.1 A;rw[SV.pub_den];exact f3 i y V (SV.pub_junk.1 hx)
  rw[Ad _ _ (U j (by rw[z];simp) f)];exact f6
 ·have F:∀ j,(s.pub k (ρ k)).hp j≠none->s.hp j≠none:=by
   intro j D K;by_cases f:j=k
   ·subst f;exact D (Oc _ _ _)
   rw[Lo _ f,K]at D;exact D rfl
  exact h.inj i j (F i A) (F j D) he
 ·obtain⟨F,H⟩:=SV.pub_p R;rw[Lo _ H];have:=h.lv.1 d j E F;intro K;exact this (by simpa using K)
 ·by_cases J:i=k
  ·subst J;rw[Oc]at A;cases A
  rw[Lo _ J]at A;obtain⟨N,z,rfl⟩:=A5f.1 A;simp only[Blk.pub,A0r]at I;obtain⟨y,V,W⟩:=I;obtain⟨rfl,H⟩:=SV.pub_p W;rw[Lo _ H];have:=h.lv.2 i N j E z V;intro K;exact this (by simpa using K)
 ·by_cases n:g=ρ k
  ·subst n;rw[Ac]at C;simp only[A0u]at C;subst C;exact X
  rw[Ad _ _ n]at C;exact h.gd.pm g o C
 ·by_cases n:g=ρ k
  ·subst n;exact .inl e5
  rw[Ad _ _ n];exact h.gd.ap g
 rw[Ad _ _ oV];exact h.gr.ms g C I
end rules
section rules2
variable {P:Program} [A6 P] {fn:Func} {Post:Ca} {st:List KI×S} {u m:PH}
def G.pub (k:Nat)(t:TypeId)(xs:List Value)(h:G2 (ctl P 100 st).1=true)(e:(ctl P 100 st).2.hp k=some ⟨t,xs.map SV.v⟩)
 (A:∀ g,u g=none->m g=none->G P fn Post ((ctl P 100 st).1,(ctl P 100 st).2.pub k g) u (m.upd g (.cells xs.toArray t (0,0)))):G P fn Post st u m:=by
 refine⟨Ll 100 st ?_⟩;rw[Sym.ofNo h];intro c ρ a w d f;obtain⟨_,_,n,z⟩:=f.box k _ e;have:=(A (ρ k) n z).out;rw[Sym.ofNo (by exact h)]at this;exact this c ρ a w d (f.pub e)
end rules2
end
section
variable {g:Nat}{x y:PH}
variable [Cj] [Dd] [Pu]
def PH.or (x y:PH):PH:=fun g=>match x g with|some o=>some o|none=>y g
def PH.or_l {o:Obj}(h:x g=some o):x.or y g=some o:=by simp[PH.or,h]
def PH.or_r (h:x g=none):x.or y g=y g:=by simp[PH.or,h]
def Ci.frameM {u mf mc t f:PH}{w w':World}(h:Ci u (mf.or mc) w)(C:G1 mf mc)(g1:Ci t f w')(g2:Cn u mc w t f w'):Ci t (mf.or f) w'/\Cn u (mf.or mc) w t (mf.or f) w':=by
 have n:∀ g o,mf g=some o->g<w.heap.size/\mc g=none/\w'.heap[g]?=some o/\t g=none:=by
  intro g o d;have z:=h.pm g o (PH.or_l d);have A:mc g=none:=(C g).resolve_left (by rw[d];simp);have j:=Cf z;refine⟨j,A,by rw[g2.old g j A];exact z,?_⟩;rw[g2.us g j];exact (h.ap g).resolve_right (by rw[PH.or_l d];simp)
 refine⟨⟨g1.pu,fun g o d=>?_,fun g=>?_,g1.cl⟩,⟨g2.sz,fun g d e=>?_,g2.us,fun g d e=>?_,g2.io,g2.dr⟩⟩
 ·cases hx:mf g with
  |some o'=>rw[PH.or_l hx]at d;cases d;exact (n g _ hx).2.2.1
  |none=>rw[PH.or_r hx]at d;exact g1.pm g o d
 ·cases hx:mf g with
  |some o'=>exact .inl (n g _ hx).2.2.2
  |none=>rw[PH.or_r hx];exact g1.ap g
 ·cases hx:mf g with
  |some o'=>rw[PH.or_l hx]at e;cases e
  |none=>rw[PH.or_r hx]at e;exact g2.old g d e
 cases hx:mf g with
 |some o'=>rw[PH.or_l hx]at e;cases e
 |none=>rw[PH.or_r hx]at e⊢;exact g2.ms g d e
section rules
variable {P:Program} [A6 P] {fn:Func} {Post:Ca} {st:List KI×S} {u m:PH}
def Q7 (st:List KI×S):Bool:=match st.1 with
 |.reg _ _ false _::_=>true
 |.reg _ ops true (i::_)::_=>match ops[i]? with|some o=>Pq ops i o.op||Ky ops st.2|none=>false
 |_=>false
def Aa7 {j:Nat}{d:Array Oper}{e:Bool}{i:Nat}{l:List Nat}{k:List KI}{s:S}{o:Oper}(f:d[i]?=some o)(h:Q7 (.reg j d e (i::l)::k,s)=true):e=false\/Pq d i o.op=true\/Ky d s=true\/Pu.b=true:=by
 cases e with
 |false=>exact .inl rfl
 |true =>
  right;have h:=(by simpa[Q7,f] using h:Pq d i o.op=true\/Ky d s=true);exact h.imp (fun x=>x) .inl
def G.bigN {V:Tn}{K:Value->PH->PH->Prop}(h:Ak P (adv P st)=V)(I:V≠.other)(z:Q7 (adv P st)=true)(L:∀ j E,Bc P j E=V->E9 E=false)
 (O:∀ j (o:Oper),Bc P j o.op=V->∀ w,Ci u m w->Ft P j o w fun v w'=>∃ f n,Ci f n w'/\Cn u m w f n w'/\K v f n)
 (k:∀ v f n,PH.le u f->K v f n->G P fn Post (nx (adv P st) v) f n):G P fn Post st u m:=by
 refine G.stp ?_;obtain⟨X,T,U,i,l,Y,s,o,e,D,N,J,R,Q,d,C⟩:=E8 h I;have t:=Aa7 D (e▸z);rw[e];refine⟨?_⟩;refine Ob.big (K:=K) D N J R Q (L _ _ d) (fun v f n W=>.inr t) (fun w A=>O _ o d w A) (fun v f n F H=>?_);have:=(k v f n F H).out;rw[C]at this;exact this
def G.bigP {V:Tn}{K:Value->PH->PH->Prop}(h:Ak P (adv P st)=V)(F:V≠.other)(A:Pu.b=true)(I:∀ j C,Bc P j C=V->E9 C=false)
 (N:∀ j (o:Oper),Bc P j o.op=V->∀ w,Ci u m w->Ft P j o w fun v w'=>∃ f n,Ci f n w'/\Cn u m w f n w'/\K v f n)
 (k:∀ v f n,PH.le u f->K v f n->G P fn Post (nx (adv P st) v) f n):G P fn Post st u m:=by
 refine G.stp ?_;obtain⟨W,R,T,i,l,X,s,o,e,L,J,H,Q,O,d,z⟩:=E8 h F;rw[e];refine⟨?_⟩;refine Ob.big (K:=K) L J H Q O (I _ _ d) (fun v f n U=>.inr (.inr (.inr (.inr A)))) (fun w t=>N _ o d w t) (fun v f n D E=>?_);have:=(k v f n D E).out;rw[z]at this;exact this
def G.callM (f:Nat)(args:List Value){mf mc:PH}{R:Value->PH->PH->Prop}(h:Ak P (adv P st)=.call f args)(z:Q7 (adv P st)=true)(T:∀ args w,(callFunc f args).run P w=.ok (.enter f args) w)(V:m=mf.or mc)(D:G1 mf mc)(c:Ah P f args u mc R)
 (k:∀ v j d,PH.le u j->R v j d->G P fn Post (nx (adv P st) v) j (mf.or d)):G P fn Post st u m:=by
 subst V;refine G.bigN (K:=fun v j E=>∃ d,E=mf.or d/\R v j d) h mV z Dh (fun L o n w t=>?_) (fun v j E N O=>?_)
 ·have C:Ci u mc w:=t.less (fun g o A=>by
   cases hx:mf g with
   |some o'=>have:=(D g).resolve_left (by rw[hx];simp);rw[this]at A;cases A
   |none=>rw[PH.or_r hx];exact A)
  refine Hf n T w _ (Calls.mono (c w C) fun e w' U=>?_);obtain⟨v,j,d,F,H,I,J⟩:=U;obtain⟨g1,g2⟩:=t.frameM D H I;exact⟨v,F,j,mf.or d,g1,g2,d,rfl,J⟩
 obtain⟨d,rfl,Q⟩:=O;exact k v j d N Q
end rules
end
def F5 (u:PH)(es:List Value)(rs:List (List (List UInt8))):Prop:=es.length=rs.length/\∀ (j:Nat) (r:List (List UInt8)),rs[j]?=some r->∃ a c,es[j]?=some (.slice a r.length c)/\Ck u (.slice a r.length c) r
def F5.mono {u u':PH}{es:List Value}{rs:List (List (List UInt8))}(h:F5 u es rs)(hl:PH.le u u'):F5 u' es rs :=
 ⟨h.1,fun j r hj=>by obtain⟨a,c,h1,h2⟩:=h.2 j r hj;exact⟨a,c,h1,Ab.mono h2 hl⟩⟩
def Fm (u:PH)(v:Value)(rs:List (List (List UInt8))):Prop:=∃ es,Ab u v 1 es/\F5 u es rs
def Fm.mono {u u':PH}{v:Value}{rs:List (List (List UInt8))}(h:Fm u v rs)(hl:PH.le u u'):Fm u' v rs:=by
 obtain⟨es,h1,h2⟩:=h;exact⟨es,h1.mono hl,h2.mono hl⟩
def Fm.opn {u:PH}{v:Value}{d:List (List (List UInt8))}(h:Fm u v d):∃ a c,v=.slice a d.length c:=by
 obtain⟨es,e,f⟩:=h;obtain⟨a,c,rfl⟩:=e.opn;exact⟨a,c,by rw[f.1]⟩
def Fm.row {u:PH}{a:Option Addr}{n c j:Nat}{g:List (List (List UInt8))}{r:List (List UInt8)}(h:Fm u (.slice a n c) g)(D:g[j]?=some r) :
 ∃ b d e f,a=some ⟨b,d,none⟩/\ElP u b (d+j*1) (.slice e r.length f)/\Ck u (.slice e r.length f) r:=by
 obtain⟨es,A,C⟩:=h;obtain⟨e,f,m,t⟩:=C.2 j r D;obtain⟨b,d,rfl,z⟩:=A.at' m;exact⟨b,d,e,f,rfl,z,t⟩
def Ah2 {u:PH}{v:Value}{d:List (List (List UInt8))}{fid:Nat}{cap:List Value}(h:Fm u v d)(L:d.length<=1000000)
 (e:∀ args w,(callFunc fid args).run prog w=.ok (.enter fid args) w) (F:∀ r∈d,∀ g x,PH.le u g->Ck g x r->Fn0 prog fid (x::cap) g fun v _=>v=.bool false) :
 Fn0 prog 257 [v,.func (.func fid) #[] cap.toArray] u fun I _=>I=.int .i64 (-1):=by
 obtain⟨a,c,rfl⟩:=h.opn;refine Fn0.o func257<|G.l (ι:=Nat) (fun i=>[(0,sV a d.length c),(1,.v (.func (.func fid) #[] cap.toArray)),(7,iV d.length),(8,iV i)]) (fun _=>[])
  (fun i g A=>i<=d.length/\A=PH.mt) (fun i=>d.length-i) 0 ⟨oV,rfl⟩ ?_
 rintro J k E g A f ⟨K,rfl⟩;by_cases j:k<d.length
 ·refine G.lT k d.length ?_;have m:d[k]?=some d[k]:=A0i j;obtain⟨t,C,n,z,rfl,D,es⟩:=(h.mono f).row m;refine G.a t C d.length c k 1 oV<|G.lU none t (C+k*1) (.slice n d[k].length z) D<|G.call0 fid (.slice n d[k].length z::cap) kV e (F d[k] (A0y j) g _ f es) ?_;rintro O N H rfl;exact G.i k<|G.b (E (k+1) _ _ _ cV (f.trans H) ⟨oV,rfl⟩ oV)
 exact G.lF k d.length<|G.r (.int .i64 (-1)) ⟨rfl,rfl⟩
def Kw {u:PH}{v:Value}{e:List (List (List UInt8))}{fid:Nat}{cap:List Value}(h:Fm u v e)(j:e.length<=1000000)
 (d:∀ args w,(callFunc fid args).run prog w=.ok (.enter fid args) w) (g:∀ r∈e,∀ f x,PH.le u f->Ck f x r->Fn0 prog fid (x::cap) f fun v _=>v=.bool false) :
 Fn0 prog 223 [v,.func (.func fid) #[] cap.toArray] u fun m _=>m=.bool false:=by
 obtain⟨a,c,rfl⟩:=h.opn;refine Fn0.o func223<|G.c call257 (Ah2 h j d g) ?_;rintro z t n rfl;exact G.hF (-1) 0<|G.r (.bool false) ⟨rfl,rfl⟩
section
variable {es:List Value}{u:PH}
def Abl (h:∀ e∈es,∃ a n c,e=.slice a n c):Bm 1 es:=by
 intro e f;obtain⟨a,n,c,rfl⟩:=h e f;exact⟨rfl,fun x d=>by simp[Value.cells]at d;subst d;rfl⟩
def F5.snoc {f:List (List (List UInt8))}{a:Option Addr}{c:Nat}{r:List (List UInt8)}(h:F5 u es f)(z:Ck u (.slice a r.length c) r):F5 u (es++[.slice a r.length c]) (f++[r]):=by
 refine⟨by simp[h.1],fun j r' d=>?_⟩;by_cases e:j<f.length
 ·rw[A09 e]at d;obtain⟨g,m,n,t⟩:=h.2 j r' d;exact⟨g,m,by rw[A09 (by rw[h.1];exact e)];exact n,t⟩
 rw[A1d oV]at d;have:j-f.length=0:=by
  rcases A1p (j-f.length) with h0|h0
  ·exact h0
  rw[A1k gV]at d;cases d
 rw[this]at d;simp at d;subst d;refine⟨a,c,?_,z⟩;rw[A1d (by rw[h.1];omega),h.1,this];rfl
def Ald {v:Value}{ts:List (List UInt8)}(h:Ck u v ts)(hl:ts.length<=1000000):Fn0 prog 96 [v] u fun v' A=>Fm A v' (ts.map fun t=>[t]):=by
 obtain⟨a,c,rfl⟩:=Ab.opn h;rw[Du]at h⊢;refine Fn0.o func96<|G.l (ι:=Nat×List Value×(Option Addr×Nat×Nat)) (fun i=>[(3,sV i.2.2.1 i.2.2.2.1 i.2.2.2.2),(6,sV a ts.length c),(7,iV ts.length),(8,iV i.1)]) (fun _=>[])
  (fun i A N=>i.1<=ts.length/\F5 A i.2.1 ((ts.take i.1).map fun t=>[t])/\Af PH.mt N (.slice i.2.2.1 i.2.2.2.1 i.2.2.2.2) 70 1 i.2.1) (fun i=>ts.length-i.1) (0,[],(none,0,0)) ⟨mV,⟨mV,fun j q E=>by simp at E⟩,Af.nil _ _ _⟩ ?_
 rintro J ⟨k,es,⟨H,O,K⟩⟩ L A N m ⟨Y,hF,C⟩;simp only at Y hF C L;have D:=hF.1;rw[A0k,A0q]at D;by_cases F:k<ts.length
 ·refine G.lT k ts.length ?_;have n:ts[k]?=some ts[k]:=A0i F;obtain⟨I,P,rfl,V⟩:=Ab.at' (Ab.mono h m) (j:=k) (e:=.string (mkS ts[k])) (by simp[B4,n]);refine G.a I P ts.length c k 1 oV<|G.lU none I (P+k*1) (.string (mkS ts[k])) V<|G.B 30 1 16 (.string (mkS [])) [.string (mkS ts[k])] (Jc [ts[k]]) ?_;intro g Z l2 T;have X:Ck Z (.slice (some ⟨g,0,none⟩) 1 1) [ts[k]]:=⟨_,1,rfl,A0s _,fun j e E=>⟨g,0,rfl,T j e E⟩⟩;refine G.B 70 1 24 (.slice none 0 0) [.slice (some ⟨g,0,none⟩) 1 1] (Abl (by intro e f;simp at f;exact⟨_,_,_,f⟩)) ?_;intro g3 u3 z U;refine G.append 70 1 24 (.slice none 0 0) PH.mt es [.slice (some ⟨g,0,none⟩) 1 1] (.slice H O K) g3 0 1 1 kV rfl rfl oV C U (Abl (by intro e f;simp at f;exact⟨_,_,_,f⟩)) rfl oV oV oV ?_;intro v4 m4 d;obtain⟨Q,R,rfl⟩:=d.shape;refine G.i k<|G.b (L (k+1,es++[Value.slice (some ⟨g,0,none⟩) 1 1],(Q,(es++[Value.slice (some ⟨g,0,none⟩) 1 1]).length,R)) _ _ _ cV ((m.trans l2).trans z) ⟨dV,?_,d⟩ dV);dsimp only;rw[A0t,n,A02];exact (hF.mono (l2.trans z)).snoc (r:=[ts[k]]) (Ab.mono X z)
 have:k=ts.length:=oV;subst this;refine G.lF ts.length ts.length<|G.give PH.mt es _ kV C (fun _=>.inl rfl) ?_;intro u3 z W;rw[A05]at hF;exact G.r (.slice H O K) ⟨rfl,es,W,hF.mono z⟩
end
section
variable {u:PH}{x:Value}
def Dv (A:List (List Rat)):List (List (List UInt8)):=A.map fun r=>r.map Ag
def Ex:Ag 0 = [48]:=by rw[Ag,if_pos (by rfl)];exact Ew
def Vs:Ag 1 = [49]:=by rw[Ag,if_pos (by rfl)];exact H5
def As9 {r:List (List UInt8)}(h:Ck u x r)(d:r.length<=12):Fn0 prog 224 [x] u fun v _=>v=.bool false:=by
 obtain⟨a,c,rfl⟩:=Ab.opn h;rw[Du];exact Fn0.o func224<|G.gF r.length 12<|G.r (.bool false) ⟨rfl,rfl⟩
def Akb {qs:List Rat}(h:Ck u x (qs.map Ag))(e:∀ q∈qs,Tx q)(d:qs.length<=1000000):Fn0 prog 226 [x] u fun v _=>v=.bool false:=by
 obtain⟨a,c,rfl⟩:=Ab.opn h;refine Fn0.o func226<|G.c call94 (Afx h e d) ?_;rintro j g f rfl;exact G.r (.bool false) ⟨rfl,rfl⟩
end
def FnR (P:Program)(f:FuncId)(args:List Value)(u mc:PH)(R:Value->PH->Prop):Prop:=Ah P f args u mc (fun v u' m'=>m'=mc/\R v u')
def Cm (mc:PH):PH.mt.or mc=mc:=by funext g;rfl
def Jl (mc:PH):G1 PH.mt mc:=fun _=>.inl rfl
def Ajy {u mc:PH}{x:Value}{r:List (List UInt8)}{g n:Nat}{t:TypeId}(h:Ck u x r)(f:r.length=n)(j:n<=12)(e:mc g=some (.cells #[.int .i64 n] t (0,0))) :
 FnR prog 225 [x,.pointer (some ⟨g,0,none⟩)] u mc fun v _=>v=.bool false:=by
 obtain⟨a,c,rfl⟩:=Ab.opn h;rw[Du];refine Ah.o func225<|G.lM none g 0 (.int .i64 n) (fun i y d=>by
  match i,d with
  |0,d=>simp[Value.cells]at d;subst d;exact⟨_,_,_,e,rfl⟩) ?_
 exact G.nF r.length n<|G.r (.bool false) ⟨rfl,rfl⟩
def Agw {u mc:PH}{v:Value}{d:List (List (List UInt8))}{fid:Nat}{cap:List Value}(h:Fm u v d)(N:d.length<=1000000)
 (e:∀ args w,(callFunc fid args).run prog w=.ok (.enter fid args) w) (F:∀ r∈d,∀ g x,PH.le u g->Ck g x r->FnR prog fid (x::cap) g mc fun v _=>v=.bool false) :
 FnR prog 257 [v,.func (.func fid) #[] cap.toArray] u mc fun K _=>K=.int .i64 (-1):=by
 obtain⟨a,c,rfl⟩:=h.opn;refine Ah.o func257<|G.l (ι:=Nat) (fun i=>[(0,sV a d.length c),(1,.v (.func (.func fid) #[] cap.toArray)),(7,iV d.length),(8,iV i)]) (fun _=>[])
  (fun i g A=>i<=d.length/\A=mc) (fun i=>d.length-i) 0 ⟨oV,rfl⟩ ?_
 rintro J k E g A f ⟨L,rfl⟩;by_cases j:k<d.length
 ·refine G.lT k d.length ?_;have m:d[k]?=some d[k]:=A0i j;obtain⟨t,C,n,z,rfl,D,es⟩:=(h.mono f).row m;refine G.a t C d.length c k 1 oV<|G.lU none t (C+k*1) (.slice n d[k].length z) D<|G.callM fid (.slice n d[k].length z::cap) kV kV e (Cm _).symm (Jl _) (F d[k] (A0y j) g _ f es) ?_;rintro P O I H ⟨rfl,rfl⟩;rw[Cm];exact G.i k<|G.b (E (k+1) _ _ _ cV (f.trans H) ⟨oV,rfl⟩ oV)
 exact G.lF k d.length<|G.r (.int .i64 (-1)) ⟨rfl,rfl⟩
def Pt {u mc:PH}{v:Value}{e:List (List (List UInt8))}{fid:Nat}{cap:List Value}(h:Fm u v e)(j:e.length<=1000000)
 (d:∀ args w,(callFunc fid args).run prog w=.ok (.enter fid args) w) (g:∀ r∈e,∀ f x,PH.le u f->Ck f x r->FnR prog fid (x::cap) f mc fun v _=>v=.bool false) :
 FnR prog 223 [v,.func (.func fid) #[] cap.toArray] u mc fun n _=>n=.bool false:=by
 obtain⟨a,c,rfl⟩:=h.opn;refine Ah.o func223<|G.callM _ _ kV kV call257 (Cm _).symm (Jl _) (Agw h j d g) ?_;rintro A z m t ⟨rfl,rfl⟩;rw[Cm];exact G.hF (-1) 0<|G.r (.bool false) ⟨rfl,rfl⟩
section
variable [Cj] [Dd] [Pu]
section rules
variable {P:Program} [A6 P] {fn:Func} {Post:Ca} {st:List KI×S} {u m:PH}
def G.storeM (sz b d:Nat)(t:TypeId)(cs:List Value)(e:Value)(h:Ak P (adv P st)=.store (some sz) (.pointer (some ⟨b,d,none⟩)) e)(R:m b=some (.cells cs.toArray t (0,0)))(T:∀ x∈cs,Be x=true)(hl:d+sz<=cs.length)(I:e.cells.size=sz)(H:e.cells.toList.all Be=true)
 (k:G P fn Post (nx (adv P st) undef) u (m.upd b (.cells (cs.take d++e.cells.toList++cs.drop (d+sz)).toArray t (0,0)))):G P fn Post st u m:=by
 refine G.big (K:=fun W V U=>V=u/\W=undef/\U=m.upd b (.cells (cs.take d++e.cells.toList++cs.drop (d+sz)).toArray t (0,0))) h mV (fun j op N=>?_) (.inr fun j op N=>?_) (fun j o C w D=>?_) (fun W V U _ hk=>?_)
 ·obtain⟨O,X,Y,rfl,_⟩:=Hj N;rfl
 ·obtain⟨O,X,Y,rfl,_⟩:=Hj N;rfl
 ·obtain⟨O,X,Y,Q,Z,e3,ht⟩:=Hj C;obtain⟨F,a0,E,pos,g,n⟩:=o;simp only at Q;subst Q;rw[A06]at H;have L:=D.pm b _ R;have A:=run_storeCells_at P b d t e.cells.toList 0 cs.toArray w L (by simp[I];omega) (fun x f=>Ja (H x f));simp only[A2w,A4n,I,A3v]at A;have z:∀ x∈(cs.take d++e.cells.toList++cs.drop (d+sz)).toArray.toList,Be x=true:=by
   intro x f;simp only[A3v,A04]at f;rcases f with (f|f)|f
   ·exact T x (A23 f)
   ·exact H x f
   exact T x (A3w f)
  obtain⟨g1,g2⟩:=D.setM R z;unfold Ft;have J:(execOp j ⟨F,.store O X Y,E,pos,g,n⟩).run P w=.ok .skip (w.setRow b (cs.take d++e.cells.toList++cs.drop (d+sz)).toArray):=by
   simp only[execOp,Z,e3];simp only[A2m]at A⊢;simp[Instr.storeAt,Instr.sureAddr,storeVar,Bg ht,I,A]
  rw[J];exact⟨u,_,g1,g2,rfl,rfl,rfl⟩
 obtain⟨rfl,rfl,rfl⟩:=hk;exact k
end rules
end
section
variable {a:Act}{c:Cx}{s:S}{w:World}{ρ:Nat->Nat}
variable [Cj] [Pu]
section rules
variable {P:Program} [A6 P] {fn:Func} {Post:Ca} {st:List KI×S} {u m:PH}
section based
variable [Dd]
def Rel.less {c:Cx}{s:S}{ρ:Nat->Nat}{a:Act}{w:World}(h:Rel c s u m ρ a w){f:PH}(t:PH.le f m):Rel c s u f ρ a w:=by
 have n:∀ g,m g=none->f g=none:=fun g d=>by
  cases e:f g with
  |none=>rfl
  |some o=>rw[t g o e]at d;cases d
 refine⟨h.sz,h.tm,h.df.of fun r e _ F j=>⟨e,F,n _ j⟩,fun k b E=>?_,h.inj,h.lv,h.gd.less t,⟨h.gr.sz,h.gr.old,h.gr.us,fun g d j=>n g (h.gr.ms g d j),h.gr.io,h.gr.dr⟩⟩;obtain⟨z,A,C,D⟩:=h.box k b E;exact⟨z,A,C,n _ D⟩
def G.drop (f:PH)(h:G2 (ctl P 100 st).1=true)(g:PH.le f m)(k:G P fn Post (ctl P 100 st) u f):G P fn Post st u m:=by
 refine⟨Ll 100 st ?_⟩;have e:=k.out;rw[Sym.ofNo h]at e⊢;intro c ρ a w d j;exact e c ρ a w d (j.less g)
def Aqh (P:Program)(s:S)(m:PH)(r:ResultVar)(v:Value):Prop :=
 Yd P s r=some v\/∃ a t g off kd,r=.cell a t/\s.tm a=.v (.pointer (some ⟨g,off,none⟩))/\Xb P t=some kd/\Aed kd v=true/\ElP m g off v
def Ac7 (P:Program)(s:S)(m:PH):List ResultVar->List Value->Prop
 |[],[]=>True
 |r::rs,v::vs=>Aqh P s m r v/\Ac7 P s m rs vs
 |_,_=>False
def Agt (d:Rel c s u m ρ a w){r:ResultVar}{x:Value}(h:Aqh P s m r x):(Ml a.tmps r).run P w=.ok x w:=by
 rcases h with h|⟨p,t,g,z,A,rfl,e,f,j,n⟩
 ·exact Wz d h
 have:=d.tm p (by rw[e];simp);rw[e]at this;simp[Ml,this,SV.den,asAddr,P0 f j n d.gd.pm]
def Wu (f:Rel c s u m ρ a w){l:List Value}(h:Ac7 P s m fn.results.toList l):(results fn a.tmps).run P w=.ok (Vc l) w:=by
 have key:∀ (d:List ResultVar) (l:List Value),Ac7 P s m d l->(d.mapM (Ml a.tmps)).run P w=.ok l w:=by
  intro d;induction d with
  |nil=>intro l h;cases l with|nil=>simp|cons=>exact h.elim
  |cons r d ih =>
   intro l h;cases l with
   |nil=>exact h.elim
   |cons x xs =>
    rw[A9g];simp only[Sem.run_bind,Agt f h.1,Result.andThen_ok,ih xs h.2,Sem.run_pure]
 have e:results fn a.tmps=(do let vs <-fn.results.mapM (Ml a.tmps);pure (if h:vs.size=1 then vs[0] else .tuple vs)):=by
  unfold results;rfl
 rw[e,<-A6r (xs:=fn.results),A8n];simp only[Sem.run_bind,Sem.run_map,key _ l h,Result.andThen_ok,Sem.run_pure]
 congr 1
 match l with
 |[]=>rfl
 |[x]=>rfl
 |x::y::l=>rfl
def Avx (st:List KI×S):Bool:=match st.1 with
 |.code .ret::_=>true
 |[]=>true
 |_=>false
end based
def G.retM (l:List Value)(n:PH)(h:Avx (adv P st)=true)(j:Ac7 P (adv P st).2 m fn.results.toList l)(f:PH.le n m)(hp:Post.post (Vc l) u n):G P fn Post st u m:=by
 refine G.stp ?_;generalize adv P st=st' at h j;obtain⟨t,s⟩:=st';unfold Avx at h;simp only at h;split at h
 ·refine⟨?_⟩;intro c ρ a w g d;exact wp_ret (K4 (d.ends fun w' e=>⟨Wu (a:=⟨a.tmps,[]⟩) e j,_,_,_,rfl,(e.less f).gd,(e.less f).gr,hp⟩).1 _)
 ·refine⟨?_⟩;intro c ρ a w g d;exact (d.ends fun w' e=>⟨Wu (a:=⟨a.tmps,[]⟩) e j,_,_,_,rfl,(e.less f).gd,(e.less f).gr,hp⟩).2
 cases h
def PH.mt_le (m:PH):PH.le PH.mt m:=fun _ _ h=>by cases h
end rules
end
section
variable {A:List (List Rat)}
def Bs (A:List (List Rat)):(Dv A).length=A.length:=by simp[Dv]
def Em {j:Nat}{r:List Rat}(h:A[j]?=some r):(Dv A)[j]?=some (r.map Ag):=by simp[Dv,h]
def Sd {r:List (List UInt8)}(h:r∈Dv A):∃ q∈A,r=q.map Ag:=by
 simp only[Dv,A0r]at h;obtain⟨q,d,rfl⟩:=h;exact⟨q,d,rfl⟩
def U8 (m:PH)(g:Nat)(z:Int)(t:TypeId):ElP (m.upd g (.cells [Value.int .i64 z].toArray t (0,0))) g 0 (.int .i64 z):=fun i y d=>by
 match i,d with
 |0,d=>simp[Value.cells]at d;subst d;exact⟨_,_,_,Ac _ _ _,rfl⟩
def Ayt {u:PH}{v:Value}{k:Nat}(h:Fm u v (Dv A))(V:A.length<=12)(H:k<=12)(n:∀ r∈A,r.length=k)(h0:A.length=0->k=0)(hT:∀ r∈A,∀ q∈r,Tx q) :
 Fn0 prog 170 [v] u fun R _=>R=.tuple #[.int .i64 A.length,.int .i64 k,.int .i64 0]:=by
 obtain⟨a,c,rfl⟩:=h.opn;rw[Bs]at h⊢;refine Fn0.o func170<|G.gF A.length 12<|G.c call223 (Kw (fid:=224) (cap:=[]) h (by rw[Bs];omega) call224 (fun r d z x _ e=>?_)) ?_
 ·obtain⟨q,f,rfl⟩:=Sd d;exact As9 e (by rw[A0k,n q f];omega)
 rintro X W t rfl;have j:∀ r∈Dv A,r.length=k:=fun r d=>by
  obtain⟨q,f,rfl⟩:=Sd d;rw[A0k,n q f]
 by_cases m:0<A.length
 ·refine G.gT A.length 0 ?_;have C:A[0]?=some A[0]:=A0i m;obtain⟨E,I,J,K,rfl,F,es⟩:=(h.mono t).row (Em C);rw[A0k,n _ (A0y m)]at F;refine G.a E I A.length c 0 1 oV<|G.lU none E (I+0*1) (.slice J k K) F<|G.pub 1 3 [.int .i64 k] kV kV ?_;intro g N L;refine G.callM _ _ kV kV call223 (Cm _).symm (Jl _) (Pt (fid:=225) (cap:=[.pointer (some ⟨g,0,none⟩)]) (h.mono t) (by rw[Bs];omega) call225 (fun r d z x _ e=>Ajy e (j r d) H (Ac _ _ _))) ?_;rintro T P D l2 ⟨rfl,rfl⟩;rw[Cm];refine G.c call223 (Kw (fid:=226) (cap:=[]) (h.mono (t.trans l2)) (by rw[Bs];omega) call226 (fun r d z x _ e=>?_)) ?_
  ·obtain⟨q,f,rfl⟩:=Sd d;exact Akb e (hT q f) (by rw[n q f];omega)
  rintro U Q O rfl;exact G.lM none g 0 (.int .i64 k) (U8 _ _ _ _)<|G.storeM 1 g 0 3 [.int .i64 k] (.int .i64 k) kV (Ac _ _ _) (fun x e=>by simp at e;subst e;rfl) mV rfl rfl<|G.retM [.int .i64 A.length,.int .i64 k,.int .i64 0] PH.mt kV ⟨.inl kV,.inr ⟨3,3,g,0,none,rfl,kV,kV,rfl,U8 _ _ _ _⟩,.inl kV,trivial⟩ (PH.mt_le _) ⟨rfl,rfl⟩
 refine G.gF A.length 0 ?_;obtain rfl:k=0:=h0 oV;refine G.pub 1 3 [.int .i64 (0:Nat)] kV kV ?_;intro g N L;refine G.callM _ _ kV kV call223 (Cm _).symm (Jl _) (Pt (fid:=225) (cap:=[.pointer (some ⟨g,0,none⟩)]) (h.mono t) (by rw[Bs];omega) call225 (fun r d z x _ e=>Ajy e (j r d) H (Ac _ _ _))) ?_;rintro T P D l2 ⟨rfl,rfl⟩;rw[Cm];refine G.c call223 (Kw (fid:=226) (cap:=[]) (h.mono (t.trans l2)) (by rw[Bs];omega) call226 (fun r d z x _ e=>?_)) ?_
 ·obtain⟨q,f,rfl⟩:=Sd d;exact Akb e (hT q f) (by rw[n q f];omega)
 rintro U Q O rfl;exact G.lM none g 0 (.int .i64 (0:Nat)) (U8 _ _ _ _)<|G.storeM 1 g 0 3 [.int .i64 (0:Nat)] (.int .i64 (0:Nat)) kV (Ac _ _ _) (fun x e=>by simp at e;subst e;rfl) mV rfl rfl<|G.retM [.int .i64 A.length,.int .i64 (0:Nat),.int .i64 0] PH.mt kV ⟨.inl kV,.inr ⟨3,3,g,0,none,rfl,kV,kV,rfl,U8 _ _ _ _⟩,.inl kV,trivial⟩ (PH.mt_le _) ⟨rfl,rfl⟩
end
section
variable {A:List (List Rat)}{i j:Nat}{u:PH}
def Fm.cell {a:Option Addr}{n c i j:Nat}(h:Fm u (.slice a n c) (Dv A))(hi:i<A.length)(hj:j<A[i].length) :
 ∃ b off b' off' c',a=some ⟨b,off,none⟩/\ElP u b (off+i*1) (.slice (some ⟨b',off',none⟩) A[i].length c')/\ElP u b' (off'+j*1) (.string (mkS (Ag A[i][j]))):=by
 obtain⟨b,off,a',c',rfl,e1,e2⟩:=h.row (Em (A0i hi));rw[A0k]at e1 e2;obtain⟨b',off',rfl,e3⟩:=Ab.at' e2 (j:=j) (e:=.string (mkS (Ag A[i][j]))) (by simp[B4,A0i hj]);exact⟨b,off,b',off',c',rfl,e1,e3⟩
structure Sq (A:List (List Rat)):Prop where
 le:A.length<=12
 row:∀ r∈A,r.length=A.length
 tx:∀ r∈A,∀ q∈r,Tx q
def Sq.len (h:Sq A)(d:i<A.length):A[i].length=A.length:=h.row _ (A0y d)
def Sq.tx' (h:Sq A)(d:i<A.length)(e:j<A[i].length):Tx A[i][j]:=h.tx _ (A0y d) _ (A0y e)
def Aue (A:List (List Rat)):Prop:=∀ (i k:Nat) (hi:i<A.length) (hk:k<A.length) (h1:k<A[i].length) (h2:i<A[k].length),A[i][k]=A[k][i]
def Ate {v:Value}(h:Fm u v (Dv A))(d:Sq A):Fn0 prog 170 [v] u fun e _=>e=.tuple #[.int .i64 A.length,.int .i64 A.length,.int .i64 0] :=
 Ayt h d.le d.le d.row (fun h=>h) d.tx
end
section
variable {c j n sz:Nat}{e v:Value}{es:List Value}
section lists
variable {α:Type} {R:PH->Value->α->Prop} {u u':PH}
def AtP (R:PH->Value->α->Prop)(u:PH)(es:List Value)(xs:List α):Prop:=es.length=xs.length/\∀ (j:Nat) (x:α),xs[j]?=some x->∃ e,es[j]?=some e/\R u e x
def AtP.nil:AtP R u [] []:=⟨rfl,fun j x h=>by simp at h⟩
def AtP.mono {xs:List α}(hR:∀ e x,R u e x->R u' e x)(h:AtP R u es xs):AtP R u' es xs :=
 ⟨h.1,fun j x hj=>by obtain⟨e,h1,h2⟩:=h.2 j x hj;exact⟨e,h1,hR e x h2⟩⟩
theorem AtP.snoc {xs:List α}{x:α}(h:AtP R u es xs)(z:R u e x):AtP R u (es++[e]) (xs++[x]):=by
 refine⟨by simp[h.1],fun j r d=>?_⟩;by_cases f:j<xs.length
 ·rw[A09 f]at d;obtain⟨g,m,t⟩:=h.2 j r d;exact⟨g,by rw[A09 (by rw[h.1];exact f)];exact m,t⟩
 rw[A1d oV]at d;have:j-xs.length=0:=by grind
 rw[this]at d;simp at d;subst d;refine⟨e,?_,z⟩;rw[A1d (by rw[h.1];omega),h.1,this];rfl
def AtP.set {xs:List α}{x:α}(h:AtP R u es xs)(k:Nat)(f:R u e x):AtP R u (es.set k e) (xs.set k x):=by
 refine⟨by simp[h.1],fun j r d=>?_⟩;rw[A2g]at d⊢;split at d
 ·rename_i e';subst e';split at d
  ·rename_i hlt;simp only[A0u]at d;subst d;exact⟨e,by rw[if_pos rfl,if_pos (by rw[h.1];exact hlt)],f⟩
  cases d
 rename_i e';rw[if_neg e'];exact h.2 j r d
def LP (R:PH->Value->α->Prop)(sz:Nat)(u:PH)(v:Value)(xs:List α):Prop:=∃ es,Ab u v sz es/\AtP R u es xs
def LP.mono {sz:Nat}{v:Value}{xs:List α}(hR:∀ e x,R u e x->R u' e x)(h:LP R sz u v xs)(hl:PH.le u u'):LP R sz u' v xs:=by
 obtain⟨es,h1,h2⟩:=h;exact⟨es,h1.mono hl,h2.mono hR⟩
def LP.opn {sz:Nat}{v:Value}{xs:List α}(h:LP R sz u v xs):∃ a c,v=.slice a xs.length c:=by
 obtain⟨es,d,f⟩:=h;obtain⟨a,c,rfl⟩:=d.opn;exact⟨a,c,by rw[f.1]⟩
def LP.at {a:Option Addr}{xs:List α}(h:LP R sz u (.slice a n c) xs){x:α}(A:xs[j]?=some x):∃ b d e,a=some ⟨b,d,none⟩/\ElP u b (d+j*sz) e/\R u e x:=by
 obtain⟨es,t,z⟩:=h;obtain⟨e,f,g⟩:=z.2 j x A;obtain⟨b,d,rfl,m⟩:=t.at' f;exact⟨b,d,e,rfl,m,g⟩
end lists
def Vk (u:PH)(v:Value)(zs:List Int):Prop:=LP Br 2 u v zs
def K0 (u:PH)(v:Value)(zs:List (List Int)):Prop:=LP Vk 1 u v zs
def Af1 (u:PH)(v:Value)(qs:List (List Rat)):Prop:=LP Jx 1 u v qs
def Vk.mono {u u':PH}{v:Value}{zs:List Int}(h:Vk u v zs)(hl:PH.le u u'):Vk u' v zs:=LP.mono (fun _ _ h=>h.mono hl) h hl
def K0.mono {u u':PH}{v:Value}{zs:List (List Int)}(h:K0 u v zs)(hl:PH.le u u'):K0 u' v zs:=LP.mono (fun _ _ h=>h.mono hl) h hl
def Af1.mono {u u':PH}{v:Value}{zs:List (List Rat)}(h:Af1 u v zs)(hl:PH.le u u'):Af1 u' v zs:=LP.mono (fun _ _ h=>h.mono hl) h hl
def Jx.lp {u:PH}{qs:List Rat}(h:Jx u v qs):LP A9 4 u v qs:=h
def Br.ok {u:PH}{q:Int}(h:Br u e q):Bm 2 [e]:=by
 obtain⟨b,a,n,c,rfl⟩:=h.opn;intro x d;simp at d;subst d;exact⟨rfl,fun y f=>by simp[Value.cells]at f;rcases f with rfl|rfl<;>rfl⟩
def B6 (a:Option Addr)(n c:Nat):Bm 1 [.slice a n c]:=Abl (by intro e d;simp at d;exact⟨_,_,_,d⟩)
theorem Af.some' {m0 m:PH}{t:TypeId}{a:Addr}(d:Af m0 m (.slice (some a) n c) t sz es):∃ g,a=⟨g,0,none⟩/\m0 g=none:=by
 rcases d.2 with ⟨h,_,_⟩|⟨g,cap,rest,h0,_,h,_⟩
 ·grind
 grind
def Agl {α:Type}{l:List α}{e z:α}(d:l.length=j)(f:j<n):(l++List.replicate (n-j) z).set j e=l++[e]++List.replicate (n-(j+1)) z:=by
 subst d;rw[show n-l.length=(n-(l.length+1))+1 by omega,A8e];simp
def Aph (d e:Nat):((d:Int)/((Nat.gcd (d:Int).natAbs (e:Int).natAbs:Nat):Int)*(e:Int))=((Nat.lcm d e:Nat):Int):=by
 rw[A1e,A1e,Nat.lcm,<-Nat.div_mul_right_comm (Nat.gcd_dvd_left d e)];rfl
def Axx (u:PH)(v:Value)(D:Nat)(cs:List (List Int)):Prop:=∃ b a n c a' n' c',v=.agg #[.bool b,.slice a n c,.slice a' n' c']/\Br u (.agg #[.bool b,.slice a n c]) (D:Int)/\K0 u (.slice a' n' c') cs
def Bl (D:Nat)(r:List Rat):List Int:=r.map fun q=>q.num*((D/q.den:Nat):Int)
structure DI where
 b:Bool
 a:Option Addr
 n:Nat
 c:Nat
 D:Nat
def A0d (d:DI):Value:=.agg #[.bool d.b,.slice d.a d.n d.c]
def Vn (u:PH)(d:DI)(L:Nat):Prop:=Br u (A0d d) (d.D:Int)/\0<d.D/\d.D ∣ L
def Vn.mono {u u':PH}{d:DI}{L:Nat}(h:Vn u d L)(hl:PH.le u u'):Vn u' d L:=⟨h.1.mono hl,h.2⟩
def Aky {u:PH}{A:List (List Rat)}{L:Nat}(h:Fm u v (Dv A))(hT:∀ r∈A,∀ q∈r,Tx q)(hl:A.length<=1000000)(ac:∀ r∈A,r.length<=1000000)(hL:∀ r∈A,∀ q∈r,q.den ∣ L)(b9:0<L)(bd:nl L<=1000000000) :
 Fn0 prog 97 [v] u fun v' u'=>∃ D,0<D/\D ∣ L/\(∀ r∈A,∀ q∈r,q.den ∣ D)/\Axx u' v' D (A.map (Bl D)):=by
 obtain⟨a,c,rfl⟩:=h.opn;rw[Bs]at h⊢;have a9:∀ D:Nat,D ∣ L->nl (D:Int).natAbs<=1000000000:=fun D N=>A0l (Cl (A4l b9 N)) bd;refine Fn0.o func97<|G.c call115 (N8 (z:=1) oV oV) ?_;intro v1 u1 l1 k1;obtain⟨b1,a1,n1,c1,rfl⟩:=k1.opn;refine G.l (ι:=Nat×List Value×(Option Addr×Nat×Nat)×DI)
  (fun i=>[(2,.p 0 0),(3,.p 1002 0),(4,sV i.2.2.1.1 i.2.2.1.2.1 i.2.2.1.2.2),(19,sV a A.length c),(20,iV A.length),(21,iV i.1)])
  (fun i=>[(0,⟨181,[bV false,sV none 0 0,sV none 0 0]⟩),(1002,⟨181,[bV i.2.2.2.b,sV i.2.2.2.a i.2.2.2.n i.2.2.2.c,sV none 0 0]⟩)])
  (fun i u' m'=>i.1<=A.length/\AtP Jx u' i.2.1 (A.take i.1)/\Af PH.mt m' (.slice i.2.2.1.1 i.2.2.1.2.1 i.2.2.1.2.2) 187 1 i.2.1/\Vn u' i.2.2.2 L/\∀ r∈A.take i.1,∀ q∈r,q.den ∣ i.2.2.2.D)
  (fun i=>A.length-i.1) (0,[],(none,0,0),⟨b1,a1,n1,c1,1⟩)
  ⟨A1c _,AtP.nil,Af.nil _ _ _,⟨k1,Nat.one_pos,Baq _⟩,fun r C=>by simp at C⟩ ?_
 rintro J ⟨k,J8,⟨a2,n2,c2⟩,⟨db,da,dn,dc,D⟩⟩ hJ u2 m2 l2 ⟨hk,hF,hA,N,Q⟩;simp only at hk hF hA N Q hJ;have bf:=hF.1;rw[A0q]at bf;by_cases I:k<A.length
 ·refine G.lT k A.length ?_;have m:A[k]?=some A[k]:=A0i I;have f:=A0y I;obtain⟨ba,oa,a3,c3,rfl,e3,s3⟩:=(h.mono (l1.trans l2)).row (Em m);rw[A0k]at e3 s3;refine G.a ba oa A.length c k 1 oV<|G.lU none ba (oa+k*1) _ e3<|G.c call173 (Z1 s3 (hT _ f) (ac _ f)) ?_;intro v4 u4 l4 k4;obtain⟨a4,Z,rfl⟩:=k4.lp.opn;refine G.l (ι:=Nat×DI)
   (fun i=>[(2,.p 0 0),(3,.p 1002 0),(4,sV a2 n2 c2),(19,sV (some ⟨ba,oa,none⟩) A.length c),(20,iV A.length),(21,iV k),(7,sV a4 A[k].length Z),(27,sV a4 A[k].length Z),(28,iV (A[k].length)),(29,iV i.1)])
   (fun i=>[(0,⟨181,[bV false,sV none 0 0,sV none 0 0]⟩),(1002,⟨181,[bV i.2.b,sV i.2.a i.2.n i.2.c,sV none 0 0]⟩)])
   (fun i u' m'=>i.1<=A[k].length/\m'=m2/\Vn u' i.2 L/\(∀ r∈A.take k,∀ q∈r,q.den ∣ i.2.D)/\∀ q∈A[k].take i.1,q.den ∣ i.2.D)
   (fun i=>A[k].length-i.1) (0,⟨db,da,dn,dc,D⟩)
   ⟨A1c _,rfl,N.mono l4,Q,fun q t=>by simp at t⟩ ?_
  rintro J2 ⟨j,⟨eb,ea,en,ec,E⟩⟩ F u5 m5 O ⟨hj,rfl,hE,ab,U⟩;simp only at hj hE ab U F;by_cases d:j<A[k].length
  ·refine G.lT j (A[k].length:Int) ?_;have K:A[k][j]?=some A[k][j]:=A0i d;have T:=A0y d;have V:=hT _ f _ T;obtain⟨b6,o6,e6,rfl,h6,f6⟩:=(k4.mono O).lp.at K;obtain⟨x1,x2,x3,x4,x5,x6,x7,x8,rfl⟩:=f6.opn;refine G.a b6 o6 A[k].length Z j 4 d<|G.lU (some 4) b6 (o6+j*4) _ h6<|G.c call175 (Rn f6) ?_;intro v7 u7 l7 k7;obtain⟨b7,a7,n7,c7,rfl⟩:=k7.opn;refine G.c call174 (Akj ((hE.mono l7).1) k7 (A0l (a9 _ hE.2.2) oV) (A0l (Bh V.den) oV) (by have:=hE.2.1;dsimp only at this⊢;omega)) ?_;intro v8 u8 l8 k8;rw[Aph]at k8;obtain⟨b8,a8,n8,c8,rfl⟩:=k8.opn;refine G.add (j:Int) 1 ((j+1:Nat):Int) kV oV oV (by have:=ac _ f;omega)<|G.b (F (j+1,⟨b8,a8,n8,c8,Nat.lcm E A[k][j].den⟩) _ _ _ cV ((O.trans l7).trans l8) ⟨dV,rfl,⟨k8,?_,?_⟩,?_,?_⟩ dV)
   ·have:=hE.2.1;simp only at this⊢;exact Nat.lcm_pos this (A[k][j]).den_pos
   ·exact Bas hE.2.2 (hL _ f _ T)
   ·exact fun r C q t=>A7v (ab r C q t) (A71 _ _)
   intro q t;dsimp only at t⊢;rw[A0t,K]at t;rcases A04.1 t with t|t
   ·exact A7v (U q t) (A71 _ _)
   simp at t;subst t;exact Nat.dvd_lcm_right _ _
  have:j=A[k].length:=oV;subst this;rw[A05]at U;refine G.lF (A[k].length:Int) (A[k].length:Int)<|G.B 187 1 24 (.slice none 0 0) [.slice a4 A[k].length Z] (B6 _ _ _) ?_;intro g6 u6 l6 e6;refine G.append 187 1 24 (.slice none 0 0) PH.mt J8 [.slice a4 A[k].length Z] (.slice a2 n2 c2) g6 0 1 1 kV rfl rfl oV hA e6 (B6 _ _ _) rfl oV oV oV ?_;intro v7 m7 al;obtain⟨a7,c7,rfl⟩:=al.shape;refine G.i k<|G.b (hJ (k+1,J8++[Value.slice a4 A[k].length Z],(a7,(J8++[Value.slice a4 A[k].length Z]).length,c7),⟨eb,ea,en,ec,E⟩) _ _ _ cV (((l2.trans l4).trans O).trans l6) ⟨dV,?_,al,hE.mono l6,?_⟩ dV)
  ·dsimp only;rw[A0t,m];exact (hF.mono (fun _ _ h=>h.mono ((l4.trans O).trans l6))).snoc (k4.mono (O.trans l6))
  intro r C;dsimp only at C⊢;rw[A0t,m]at C;rcases A04.1 C with C|C
  ·exact ab r C
  simp at C;subst C;exact U
 have:k=A.length:=oV;subst this;rw[A05]at hF Q;refine G.lF A.length A.length<|G.give PH.mt J8 _ kV hA (fun _=>.inl rfl) ?_;intro u3 l3 aa;have bi:J8.length=A.length:=by rw[hF.1]
 obtain⟨_,_,e0⟩:=aa.opn;simp only[Value.slice.injEq]at e0;obtain⟨rfl,rfl,rfl⟩:=e0;rw[bi]at aa⊢;have b5:Af1 u3 (.slice a2 A.length c2) A:=⟨J8,aa,hF.mono (fun _ _ h=>h.mono l3)⟩;refine G.l (ι:=Nat×List Value×(Option Addr×Nat×Nat))
  (fun i=>[(2,.p 0 0),(3,.p 1002 0),(45,sV a2 A.length c2),(46,iV A.length),(47,iV i.1)])
  (fun i=>[(0,⟨181,[bV false,sV none 0 0,sV none 0 0]⟩),(1002,⟨181,[bV db,sV da dn dc,sV i.2.2.1 i.2.2.2.1 i.2.2.2.2]⟩)])
  (fun i u' m'=>i.1<=A.length/\AtP Vk u' i.2.1 ((A.take i.1).map (Bl D))/\Af PH.mt m' (.slice i.2.2.1 i.2.2.2.1 i.2.2.2.2) 183 1 i.2.1)
  (fun i=>A.length-i.1) (0,[],(none,0,0))
  ⟨A1c _,AtP.nil,Af.nil _ _ _⟩ ?_
 rintro J2 ⟨k,cv,⟨a5,n5,c5⟩⟩ F u5 m5 O ⟨bh,hN,a6⟩;simp only at bh hN a6 F;have ap:=hN.1;rw[A0k,A0q]at ap;by_cases I:k<A.length
 ·refine G.lT k A.length ?_;have m:A[k]?=some A[k]:=A0i I;have f:=A0y I;have ca:=ac _ f;obtain⟨b6,o6,e6,rfl,h6,f6⟩:=LP.at (b5.mono O) m;obtain⟨a7,c7,rfl⟩:=f6.lp.opn;refine G.a b6 o6 A.length c2 k 1 oV<|G.lU none b6 (o6+k*1) _ h6<|G.make 124 2 32 (.agg #[.bool false,.slice none 0 0]) A[k].length kV rfl rfl oV oV oV ?_;rintro v8 m8 am ⟨a8,rfl⟩;obtain⟨W,rfl,c6⟩:=am.some';refine G.l (ι:=Nat×List Value)
   (fun i=>[(2,.p 0 0),(3,.p 1002 0),(45,sV (some ⟨b6,o6,none⟩) A.length c2),(46,iV A.length),(47,iV k),(12,sV (some ⟨W,0,none⟩) A[k].length A[k].length),(54,sV a7 A[k].length c7),(55,iV (A[k].length)),(56,iV i.1)])
   (fun i=>[(0,⟨181,[bV false,sV none 0 0,sV none 0 0]⟩),(1002,⟨181,[bV db,sV da dn dc,sV a5 n5 c5]⟩)])
   (fun i u' m'=>i.1<=A[k].length/\AtP Br u' i.2 (Bl D (A[k].take i.1))/\Af m5 m' (.slice (some ⟨W,0,none⟩) A[k].length A[k].length) 124 2 (i.2++List.replicate (A[k].length-i.1) (.agg #[.bool false,.slice none 0 0])))
   (fun i=>A[k].length-i.1) (0,[])
   ⟨A1c _,AtP.nil,by simpa using am⟩ ?_
  rintro J3 ⟨j,done⟩ an u9 m9 l9 ⟨bg,H,P⟩;simp only at bg H P an;have aq:=H.1;rw[Bl,A0k,A0q]at aq;by_cases d:j<A[k].length
  ·refine G.lT j (A[k].length:Int) ?_;have K:A[k][j]?=some A[k][j]:=A0i d;have T:=A0y d;have V:=hT _ f _ T;have c9:=(A[k][j]).den_pos;obtain⟨ai,ay,c0,rfl,b4,a0⟩:=(f6.mono l9).lp.at K;obtain⟨x1,x2,x3,x4,x5,x6,x7,x8,rfl⟩:=a0.opn;refine G.a ai ay A[k].length c7 j 4 d<|G.lU (some 4) ai (ay+j*4) _ b4<|G.c call175 (Rn a0) ?_;intro cm bk g ar;obtain⟨bq,bm,cd,bu,rfl⟩:=ar.opn;refine G.c call176 (Oi ((N.mono (((l3.trans O).trans l9).trans g)).1) ar (A0l (a9 _ N.2.2) oV) (A0l (Bh V.den) oV) oV) ?_;rintro bl cj af ⟨cn,co,rfl,ad,bj⟩;obtain⟨br,bn,ce,bw,rfl⟩:=ad.opn;obtain⟨bs,bo,cg,bx,rfl⟩:=bj.opn;refine G.c call177 (Adz (a0.mono (g.trans af))) ?_;intro cp ck ag au;obtain⟨bt,bp,ch,bz,rfl⟩:=au.opn;have be:((D:Int)/(A[k][j].den:Int))=((D/A[k][j].den:Nat):Int):=by push_cast;rfl
   rw[be]at ad;refine G.c call100 (El au (ad.mono ag) (A0l (Bh V.1) oV) (by rw[A1e];exact A0l (S3 _ _) (A0l (a9 _ N.2.2) oV))) ?_;intro cq cl aw av;obtain⟨aj,ah,ax,ak,rfl⟩:=av.opn;refine G.a W 0 A[k].length A[k].length j 2 d<|G.storeA 2 m5 _ W A[k].length A[k].length j (.agg #[.bool aj,.slice ah ax ak]) kV P gV rfl rfl ?_;intro cc Y;rw[Agl oV d]at Y;refine G.i j<|G.b (an (j+1,done++[.agg #[.bool aj,.slice ah ax ak]]) _ _ _ cV ((((l9.trans g).trans af).trans ag).trans aw) ⟨dV,?_,Y⟩ dV);dsimp only;rw[A0t,K,Bl,A02];exact (H.mono (fun _ _ h=>h.mono (((g.trans af).trans ag).trans aw))).snoc av
  have:j=A[k].length:=oV;subst this;rw[A05]at H;rw[A4r,A62,A1i]at P;refine G.lF (A[k].length:Int) (A[k].length:Int)<|G.give m5 done _ kV P (fun _=>.inl rfl) ?_;intro ci ae ao;refine G.B 183 1 24 (.slice none 0 0) [.slice (some ⟨W,0,none⟩) A[k].length A[k].length] (B6 _ _ _) ?_;intro b3 bk g b2;refine G.append 183 1 24 (.slice none 0 0) PH.mt cv [.slice (some ⟨W,0,none⟩) A[k].length A[k].length] (.slice a5 n5 c5) b3 0 1 1 kV rfl rfl oV a6 b2 (B6 _ _ _) rfl oV oV oV ?_;intro bl cb X;obtain⟨az,b0,rfl⟩:=X.shape;refine G.i k<|G.b (F (k+1,cv++[.slice (some ⟨W,0,none⟩) A[k].length A[k].length],(az,(cv++[Value.slice (some ⟨W,0,none⟩) A[k].length A[k].length]).length,b0)) _ _ _ cV (((O.trans l9).trans ae).trans g) ⟨dV,?_,X⟩ dV);dsimp only;rw[A0t,m,A02];exact (hN.mono (fun _ _ h=>h.mono ((l9.trans ae).trans g))).snoc (x:=Bl D A[k]) ⟨done,ao.mono g,H.mono (fun _ _ h=>h.mono (ae.trans g))⟩
 have:k=A.length:=oV;subst this;rw[A05]at hN;refine G.lF A.length A.length<|G.give PH.mt cv _ kV a6 (fun _=>.inl rfl) ?_;intro u6 l6 bb;exact G.r (.agg #[.bool db,.slice da dn dc,.slice a5 n5 c5]) ⟨rfl,D,N.2.1,N.2.2,Q,db,da,dn,dc,a5,n5,c5,rfl,(N.mono ((l3.trans O).trans l6)).1,cv,bb,hN.mono (fun _ _ h=>h.mono l6)⟩
end
end Go.Proofs.YtdgncafgglafjaaGreatDoor
