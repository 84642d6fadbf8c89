/-
  DERIVED: THE SHELF's CONTRACTS AT THIS DUMP, IN PLAIN WORDS (tools/lay-plain.mjs out of 'TryzShelf.lean', which tools/lay-shelf.mjs wrote): THE SAME DECLARATIONS UNDER THE SAME NAMES: 'import', 'namespace', 'open', 'def', 'theorem' AND NOTHING ELSE: no command of the shelf's: FOR A HAND-IN. Each laying: the table of numbers ('.._ren') and one theorem, a field a fact of the dump's own or the kernel's comparison; each contract: ONE APPLICATION.
-/
import Derived.Shelf.Strings.Builder1
import Derived.Shelf.Small.Strs
import Derived.Shelf.Strconv.Itoa0
import Derived.Shelf.Strconv.Itoa1
import Derived.Shelf.LaysM
import Derived.Shelf.Strconv.Itoa2
import Derived.Shelf.Strconv.Itoa3
import Derived.Shelf.Strconv.Itoa4
import Derived.Shelf.Strconv.ParseIntEmpty
import Derived.Shelf.Strconv.Clone
import Derived.Shelf.Strconv.SyntaxError
import Derived.Shelf.LaysC
import Derived.Shelf.Strconv.ToError
import Derived.Shelf.Strconv.Lower
import Derived.Shelf.Strconv.ParseUint10
import Derived.Shelf.Strconv.ParseUint10Empty
import Derived.Shelf.Strconv.ParseUint10Any
import Derived.Shelf.Strconv.ParseInt10
import Derived.Shelf.Strconv.RangeError
import Derived.Shelf.Strconv.ToErrorRange
import Derived.Shelf.Strconv.ParseUintEmpty
import Derived.Shelf.Strconv.ParseUint10b64
import Derived.Shelf.Strconv.ParseUint10b32
import Derived.Shelf.Strconv.ParseUint10b16
import Derived.Shelf.Strconv.ParseUint10b8
import Derived.Shelf.Strconv.ParseUint10At
import Derived.Shelf.Strconv.ParseInt10At64
import Derived.Shelf.Strconv.ParseInt10At32
import Derived.Shelf.Strconv.ParseInt10At16
import Derived.Shelf.Strconv.ParseInt10At8
import Derived.Shelf.Strconv.ParseInt10All
import Derived.Shelf.Strconv.ParseIntPublic10
import Derived.Shelf.Strings.Search1
import Derived.Shelf.Strings.Search2
import Derived.Shelf.Strings.Search3
import Derived.Shelf.Strings.Count
import Derived.Shelf.Strings.Shaped
import Derived.Shelf.Strings.Split
import Derived.Shelf.Unicode.DecodeSlow
import Derived.Test.YtfinhhblcdkpgaaGreatDoorProg
set_option maxRecDepth 100000
set_option maxHeartbeats 64000000
set_option linter.unusedSimpArgs false
set_option linter.unusedVariables false
set_option linter.defProp false
namespace Go.Proofs
open Go.Shelf
def Tryz.lays170_ren:Go.Shelf.Ren:=⟨fun|170=>38|n=>n,fun|70=>75|3=>3|0=>0|72=>77|37=>22|5=>5|n=>n,fun|n=>n⟩
theorem Tryz.lays170:Go.Proofs.Lays.n170 Tryz.prog Tryz.lays170_ren:={
 mixed:=by kernel_rfl
 f170:=Tryz.func38.trans (congrArg some (by kernel_rfl))
 t0:=Tryz.underlying0
 a0:=Tryz.isAgg0
 z0:=Tryz.sizeOf0
 v0:=Tryz.zeroValue0
 t3:=Tryz.underlying3
 a3:=Tryz.isAgg3
 z3:=Tryz.sizeOf3
 v3:=Tryz.zeroValue3
 t37:=Tryz.underlying22
 a37:=Tryz.isAgg22
 z37:=Tryz.sizeOf22
 v37:=Tryz.zeroValue22
 t70:=Tryz.underlying75
 a70:=Tryz.isAgg75
 z70:=Tryz.sizeOf75
 v70:=Tryz.zeroValue75
 t72:=Tryz.underlying77
 a72:=Tryz.isAgg77
 z72:=Tryz.sizeOf77
 v72:=Tryz.zeroValue77 }
def Tryz.lays169_ren:Go.Shelf.Ren:=⟨fun|169=>39|n=>n,fun|70=>75|9=>9|0=>0|72=>77|37=>22|127=>119|3=>3|5=>5|n=>n,fun|n=>n⟩
theorem Tryz.lays169:Go.Proofs.Lays.n169 Tryz.prog Tryz.lays169_ren:={
 mixed:=by kernel_rfl
 f169:=Tryz.func39.trans (congrArg some (by kernel_rfl))
 t0:=Tryz.underlying0
 a0:=Tryz.isAgg0
 z0:=Tryz.sizeOf0
 v0:=Tryz.zeroValue0
 t3:=Tryz.underlying3
 a3:=Tryz.isAgg3
 z3:=Tryz.sizeOf3
 v3:=Tryz.zeroValue3
 t9:=Tryz.underlying9
 a9:=Tryz.isAgg9
 z9:=Tryz.sizeOf9
 v9:=Tryz.zeroValue9
 t37:=Tryz.underlying22
 a37:=Tryz.isAgg22
 z37:=Tryz.sizeOf22
 v37:=Tryz.zeroValue22
 t70:=Tryz.underlying75
 a70:=Tryz.isAgg75
 z70:=Tryz.sizeOf75
 v70:=Tryz.zeroValue75
 t72:=Tryz.underlying77
 a72:=Tryz.isAgg77
 z72:=Tryz.sizeOf77
 v72:=Tryz.zeroValue77
 t127:=Tryz.underlying119
 a127:=Tryz.isAgg119
 z127:=Tryz.sizeOf119
 v127:=Tryz.zeroValue119 }
theorem Tryz.Builder_Extra_169:Builder.Extra Tryz.prog Tryz.lays169_ren:={
 sizeBuilder:=by kernel_rfl
 liesBuilder:=by kernel_rfl
 t5:=Tryz.underlying5
 a5:=Tryz.isAgg5
 z5:=Tryz.sizeOf5
 v5:=Tryz.zeroValue5
 infoByte:=by kernel_rfl
 cellsByte:=by kernel_rfl
 sizeByte:=by kernel_rfl
 neB5:=by decide }
def Tryz.lays137_ren:Go.Shelf.Ren:=⟨fun|137=>179|217=>153|266=>172|n=>n,fun|9=>9|5=>5|3=>3|n=>n,fun|n=>n⟩
theorem Tryz.lays137:Go.Proofs.Lays.n137 Tryz.prog Tryz.lays137_ren:={
 mixed:=by kernel_rfl
 f137:=Tryz.func179.trans (congrArg some (by kernel_rfl))
 f217:=Tryz.func153.trans (congrArg some (by kernel_rfl))
 f266:=Tryz.func172.trans (congrArg some (by kernel_rfl))
 t3:=Tryz.underlying3
 a3:=Tryz.isAgg3
 z3:=Tryz.sizeOf3
 v3:=Tryz.zeroValue3
 t5:=Tryz.underlying5
 a5:=Tryz.isAgg5
 z5:=Tryz.sizeOf5
 v5:=Tryz.zeroValue5
 t9:=Tryz.underlying9
 a9:=Tryz.isAgg9
 z9:=Tryz.sizeOf9
 v9:=Tryz.zeroValue9 }
open Go.RowKit in
theorem Tryz.strings_IndexByte (s:ByteArray) (c:Int) (w:World) :
  Calls Tryz.prog 179 #[.string s,.int .u8 c] w fun e w'=>e=.returned (.int .i64 (Lib.indexByte s.data.toList c.toNat.toUInt8))∧w'=w:=Any.strings_IndexByte Tryz.lays137 s c w
def Tryz.laysM171_ren:Go.Shelf.Ren:=⟨fun|171=>35|243=>56|246=>82|283=>112|284=>113|285=>114|286=>115|129=>146|317=>145|318=>147|319=>148|320=>149|337=>168|338=>169|n=>n,fun|3=>3|9=>9|2=>2|4=>4|171=>180|0=>0|53=>102|37=>22|5=>5|173=>183|212=>204|51=>205|20=>20|213=>206|46=>207|232=>241|233=>242|n=>n,fun|17=>4|18=>8|19=>9|n=>n⟩
theorem Tryz.laysM171:Go.Proofs.LaysM.n171 Tryz.prog Tryz.laysM171_ren:={
 mixed:=by kernel_rfl
 f129:=Tryz.func146.trans (congrArg some (by kernel_rfl))
 f171:=Tryz.func35.trans (congrArg some (by kernel_rfl))
 f243:=Tryz.func56.trans (congrArg some (by kernel_rfl))
 f246:=Tryz.func82.trans (congrArg some (by kernel_rfl))
 f283:=Tryz.func112.trans (congrArg some (by kernel_rfl))
 f284:=Tryz.func113.trans (congrArg some (by kernel_rfl))
 f285:=Tryz.func114.trans (congrArg some (by kernel_rfl))
 f286:=Tryz.func115.trans (congrArg some (by kernel_rfl))
 f317:=Tryz.func145.trans (congrArg some (by kernel_rfl))
 f318:=Tryz.func147.trans (congrArg some (by kernel_rfl))
 f319:=Tryz.func148.trans (congrArg some (by kernel_rfl))
 f320:=Tryz.func149.trans (congrArg some (by kernel_rfl))
 f337:=Tryz.func168.trans (congrArg some (by kernel_rfl))
 f338:=Tryz.func169.trans (congrArg some (by kernel_rfl))
 t0:=Tryz.underlying0
 a0:=Tryz.isAgg0
 z0:=Tryz.sizeOf0
 v0:=Tryz.zeroValue0
 t2:=Tryz.underlying2
 a2:=Tryz.isAgg2
 z2:=Tryz.sizeOf2
 v2:=Tryz.zeroValue2
 t3:=Tryz.underlying3
 a3:=Tryz.isAgg3
 z3:=Tryz.sizeOf3
 v3:=Tryz.zeroValue3
 t4:=Tryz.underlying4
 a4:=Tryz.isAgg4
 z4:=Tryz.sizeOf4
 v4:=Tryz.zeroValue4
 t5:=Tryz.underlying5
 a5:=Tryz.isAgg5
 z5:=Tryz.sizeOf5
 v5:=Tryz.zeroValue5
 t9:=Tryz.underlying9
 a9:=Tryz.isAgg9
 z9:=Tryz.sizeOf9
 v9:=Tryz.zeroValue9
 t20:=Tryz.underlying20
 a20:=Tryz.isAgg20
 z20:=Tryz.sizeOf20
 v20:=Tryz.zeroValue20
 t37:=Tryz.underlying22
 a37:=Tryz.isAgg22
 z37:=Tryz.sizeOf22
 v37:=Tryz.zeroValue22
 t46:=Tryz.underlying207
 a46:=Tryz.isAgg207
 z46:=Tryz.sizeOf207
 v46:=Tryz.zeroValue207
 t51:=Tryz.underlying205
 a51:=Tryz.isAgg205
 z51:=Tryz.sizeOf205
 v51:=Tryz.zeroValue205
 t53:=Tryz.underlying102
 a53:=Tryz.isAgg102
 z53:=Tryz.sizeOf102
 v53:=Tryz.zeroValue102
 t171:=Tryz.underlying180
 a171:=Tryz.isAgg180
 z171:=Tryz.sizeOf180
 v171:=Tryz.zeroValue180
 t173:=Tryz.underlying183
 a173:=Tryz.isAgg183
 z173:=Tryz.sizeOf183
 v173:=Tryz.zeroValue183
 t212:=Tryz.underlying204
 a212:=Tryz.isAgg204
 z212:=Tryz.sizeOf204
 v212:=Tryz.zeroValue204
 t213:=Tryz.underlying206
 a213:=Tryz.isAgg206
 z213:=Tryz.sizeOf206
 t232:=Tryz.underlying241
 a232:=Tryz.isAgg241
 z232:=Tryz.sizeOf241
 v232:=Tryz.zeroValue241
 t233:=Tryz.underlying242
 a233:=Tryz.isAgg242
 z233:=Tryz.sizeOf242
 v233:=Tryz.zeroValue242
 g17:=by kernel_rfl
 g18:=by kernel_rfl
 g19:=by kernel_rfl
 i0:=by kernel_rfl
 i2:=by kernel_rfl
 i3:=by kernel_rfl
 i4:=by kernel_rfl
 i5:=by kernel_rfl
 i9:=by kernel_rfl
 i20:=by kernel_rfl
 i37:=by kernel_rfl
 i46:=by kernel_rfl
 i51:=by kernel_rfl
 i53:=by kernel_rfl
 i171:=by kernel_rfl
 i173:=by kernel_rfl
 i212:=by kernel_rfl
 i232:=by kernel_rfl
 i233:=by kernel_rfl
 m17:=by kernel_rfl
 m18:=by kernel_rfl
 m19:=by kernel_rfl }
open Go.RowKit Go.Sort Go.Lib in
theorem Tryz.strconv_Itoa (n : Int) (h0 : -9223372036854775808 ≤ n) (h1 : n ≤ 9223372036854775807) (w : World) (htab : Lib.TabIs Tryz.prog w "internal/strconv.uint64pow10" .u64 Lib.pow10Tab) :
  Calls Tryz.prog 35 #[.int .i64 n] w fun e w'=>e=.returned (.string ⟨(Lib.itoa n).toArray⟩)∧∃ k os,w'=grow (w.drewN k) os:=Any.strconv_Itoa Tryz.laysM171 n h0 h1 w htab
def Tryz.laysM173_ren:Go.Shelf.Ren:=⟨fun|173=>122|246=>82|283=>112|284=>113|285=>114|286=>115|129=>146|317=>145|318=>147|319=>148|320=>149|337=>168|338=>169|n=>n,fun|2=>2|3=>3|9=>9|4=>4|171=>180|0=>0|53=>102|37=>22|5=>5|173=>183|212=>204|51=>205|20=>20|213=>206|46=>207|232=>241|233=>242|n=>n,fun|17=>4|18=>8|19=>9|n=>n⟩
theorem Tryz.laysM173:Go.Proofs.LaysM.n173 Tryz.prog Tryz.laysM173_ren:={
 mixed:=by kernel_rfl
 f129:=Tryz.func146.trans (congrArg some (by kernel_rfl))
 f173:=Tryz.func122.trans (congrArg some (by kernel_rfl))
 f246:=Tryz.func82.trans (congrArg some (by kernel_rfl))
 f283:=Tryz.func112.trans (congrArg some (by kernel_rfl))
 f284:=Tryz.func113.trans (congrArg some (by kernel_rfl))
 f285:=Tryz.func114.trans (congrArg some (by kernel_rfl))
 f286:=Tryz.func115.trans (congrArg some (by kernel_rfl))
 f317:=Tryz.func145.trans (congrArg some (by kernel_rfl))
 f318:=Tryz.func147.trans (congrArg some (by kernel_rfl))
 f319:=Tryz.func148.trans (congrArg some (by kernel_rfl))
 f320:=Tryz.func149.trans (congrArg some (by kernel_rfl))
 f337:=Tryz.func168.trans (congrArg some (by kernel_rfl))
 f338:=Tryz.func169.trans (congrArg some (by kernel_rfl))
 t0:=Tryz.underlying0
 a0:=Tryz.isAgg0
 z0:=Tryz.sizeOf0
 v0:=Tryz.zeroValue0
 t2:=Tryz.underlying2
 a2:=Tryz.isAgg2
 z2:=Tryz.sizeOf2
 v2:=Tryz.zeroValue2
 t3:=Tryz.underlying3
 a3:=Tryz.isAgg3
 z3:=Tryz.sizeOf3
 v3:=Tryz.zeroValue3
 t4:=Tryz.underlying4
 a4:=Tryz.isAgg4
 z4:=Tryz.sizeOf4
 v4:=Tryz.zeroValue4
 t5:=Tryz.underlying5
 a5:=Tryz.isAgg5
 z5:=Tryz.sizeOf5
 v5:=Tryz.zeroValue5
 t9:=Tryz.underlying9
 a9:=Tryz.isAgg9
 z9:=Tryz.sizeOf9
 v9:=Tryz.zeroValue9
 t20:=Tryz.underlying20
 a20:=Tryz.isAgg20
 z20:=Tryz.sizeOf20
 v20:=Tryz.zeroValue20
 t37:=Tryz.underlying22
 a37:=Tryz.isAgg22
 z37:=Tryz.sizeOf22
 v37:=Tryz.zeroValue22
 t46:=Tryz.underlying207
 a46:=Tryz.isAgg207
 z46:=Tryz.sizeOf207
 v46:=Tryz.zeroValue207
 t51:=Tryz.underlying205
 a51:=Tryz.isAgg205
 z51:=Tryz.sizeOf205
 v51:=Tryz.zeroValue205
 t53:=Tryz.underlying102
 a53:=Tryz.isAgg102
 z53:=Tryz.sizeOf102
 v53:=Tryz.zeroValue102
 t171:=Tryz.underlying180
 a171:=Tryz.isAgg180
 z171:=Tryz.sizeOf180
 v171:=Tryz.zeroValue180
 t173:=Tryz.underlying183
 a173:=Tryz.isAgg183
 z173:=Tryz.sizeOf183
 v173:=Tryz.zeroValue183
 t212:=Tryz.underlying204
 a212:=Tryz.isAgg204
 z212:=Tryz.sizeOf204
 v212:=Tryz.zeroValue204
 t213:=Tryz.underlying206
 a213:=Tryz.isAgg206
 z213:=Tryz.sizeOf206
 t232:=Tryz.underlying241
 a232:=Tryz.isAgg241
 z232:=Tryz.sizeOf241
 v232:=Tryz.zeroValue241
 t233:=Tryz.underlying242
 a233:=Tryz.isAgg242
 z233:=Tryz.sizeOf242
 v233:=Tryz.zeroValue242
 g17:=by kernel_rfl
 g18:=by kernel_rfl
 g19:=by kernel_rfl
 i0:=by kernel_rfl
 i2:=by kernel_rfl
 i3:=by kernel_rfl
 i4:=by kernel_rfl
 i5:=by kernel_rfl
 i9:=by kernel_rfl
 i20:=by kernel_rfl
 i37:=by kernel_rfl
 i46:=by kernel_rfl
 i51:=by kernel_rfl
 i53:=by kernel_rfl
 i171:=by kernel_rfl
 i173:=by kernel_rfl
 i212:=by kernel_rfl
 i232:=by kernel_rfl
 i233:=by kernel_rfl
 m17:=by kernel_rfl
 m18:=by kernel_rfl
 m19:=by kernel_rfl }
open Go.RowKit Go.Sort Go.Lib in
theorem Tryz.strconv_FormatInt_10 (n : Int) (h0 : -9223372036854775808 ≤ n) (h1 : n ≤ 9223372036854775807) (w : World) (htab : Lib.TabIs Tryz.prog w "internal/strconv.uint64pow10" .u64 Lib.pow10Tab) :
  Calls Tryz.prog 122 #[.int .i64 n,.int .i64 10] w fun e w'=>e=.returned (.string ⟨(Lib.itoa n).toArray⟩)∧∃ k os,w'=grow (w.drewN k) os:=Any.strconv_FormatInt_10 Tryz.laysM173 n h0 h1 w htab
def Tryz.laysC174_ren:Go.Shelf.Ren:=⟨fun|174=>121|247=>157|245=>158|287=>174|279=>175|280=>176|281=>177|282=>178|321=>192|322=>193|316=>194|171=>35|205=>195|243=>56|246=>82|283=>112|284=>113|285=>114|286=>115|129=>146|317=>145|318=>147|319=>148|320=>149|337=>168|338=>169|n=>n,fun|9=>9|3=>3|2=>2|75=>79|85=>190|4=>4|167=>231|5=>5|53=>102|175=>232|46=>207|168=>234|37=>22|0=>0|210=>245|21=>21|127=>119|145=>249|143=>247|171=>180|173=>183|212=>204|51=>205|20=>20|213=>206|232=>241|233=>242|80=>46|n=>n,fun|15=>10|16=>11|17=>4|18=>8|19=>9|n=>n⟩
theorem Tryz.laysC174:Go.Proofs.LaysC.n174 Tryz.prog Tryz.laysC174_ren:={
 mixed:=by kernel_rfl
 f129:=Tryz.func146.trans (congrArg some (by kernel_rfl))
 f171:=Tryz.func35.trans (congrArg some (by kernel_rfl))
 f174:=Tryz.func121.trans (congrArg some (by kernel_rfl))
 f205:=Tryz.func195.trans (congrArg some (by kernel_rfl))
 f243:=Tryz.func56.trans (congrArg some (by kernel_rfl))
 f245:=Tryz.func158.trans (congrArg some (by kernel_rfl))
 f246:=Tryz.func82.trans (congrArg some (by kernel_rfl))
 f247:=Tryz.func157.trans (congrArg some (by kernel_rfl))
 f279:=Tryz.func175.trans (congrArg some (by kernel_rfl))
 f280:=Tryz.func176.trans (congrArg some (by kernel_rfl))
 f281:=Tryz.func177.trans (congrArg some (by kernel_rfl))
 f282:=Tryz.func178.trans (congrArg some (by kernel_rfl))
 f283:=Tryz.func112.trans (congrArg some (by kernel_rfl))
 f284:=Tryz.func113.trans (congrArg some (by kernel_rfl))
 f285:=Tryz.func114.trans (congrArg some (by kernel_rfl))
 f286:=Tryz.func115.trans (congrArg some (by kernel_rfl))
 f287:=Tryz.func174.trans (congrArg some (by kernel_rfl))
 f316:=Tryz.func194.trans (congrArg some (by kernel_rfl))
 f317:=Tryz.func145.trans (congrArg some (by kernel_rfl))
 f318:=Tryz.func147.trans (congrArg some (by kernel_rfl))
 f319:=Tryz.func148.trans (congrArg some (by kernel_rfl))
 f320:=Tryz.func149.trans (congrArg some (by kernel_rfl))
 f321:=Tryz.func192.trans (congrArg some (by kernel_rfl))
 f322:=Tryz.func193.trans (congrArg some (by kernel_rfl))
 f337:=Tryz.func168.trans (congrArg some (by kernel_rfl))
 f338:=Tryz.func169.trans (congrArg some (by kernel_rfl))
 t0:=Tryz.underlying0
 a0:=Tryz.isAgg0
 z0:=Tryz.sizeOf0
 v0:=Tryz.zeroValue0
 t2:=Tryz.underlying2
 a2:=Tryz.isAgg2
 z2:=Tryz.sizeOf2
 v2:=Tryz.zeroValue2
 t3:=Tryz.underlying3
 a3:=Tryz.isAgg3
 z3:=Tryz.sizeOf3
 v3:=Tryz.zeroValue3
 t4:=Tryz.underlying4
 a4:=Tryz.isAgg4
 z4:=Tryz.sizeOf4
 v4:=Tryz.zeroValue4
 t5:=Tryz.underlying5
 a5:=Tryz.isAgg5
 z5:=Tryz.sizeOf5
 v5:=Tryz.zeroValue5
 t9:=Tryz.underlying9
 a9:=Tryz.isAgg9
 z9:=Tryz.sizeOf9
 v9:=Tryz.zeroValue9
 t20:=Tryz.underlying20
 a20:=Tryz.isAgg20
 z20:=Tryz.sizeOf20
 v20:=Tryz.zeroValue20
 t21:=Tryz.underlying21
 a21:=Tryz.isAgg21
 z21:=Tryz.sizeOf21
 v21:=Tryz.zeroValue21
 t37:=Tryz.underlying22
 a37:=Tryz.isAgg22
 z37:=Tryz.sizeOf22
 v37:=Tryz.zeroValue22
 t46:=Tryz.underlying207
 a46:=Tryz.isAgg207
 z46:=Tryz.sizeOf207
 v46:=Tryz.zeroValue207
 t51:=Tryz.underlying205
 a51:=Tryz.isAgg205
 z51:=Tryz.sizeOf205
 v51:=Tryz.zeroValue205
 t53:=Tryz.underlying102
 a53:=Tryz.isAgg102
 z53:=Tryz.sizeOf102
 v53:=Tryz.zeroValue102
 t75:=Tryz.underlying79
 a75:=Tryz.isAgg79
 z75:=Tryz.sizeOf79
 v75:=Tryz.zeroValue79
 t85:=Tryz.underlying190
 a85:=Tryz.isAgg190
 z85:=Tryz.sizeOf190
 v85:=Tryz.zeroValue190
 t127:=Tryz.underlying119
 a127:=Tryz.isAgg119
 z127:=Tryz.sizeOf119
 v127:=Tryz.zeroValue119
 t143:=Tryz.underlying247
 a143:=Tryz.isAgg247
 z143:=Tryz.sizeOf247
 v143:=Tryz.zeroValue247
 t145:=Tryz.underlying249
 a145:=Tryz.isAgg249
 z145:=Tryz.sizeOf249
 v145:=Tryz.zeroValue249
 t167:=Tryz.underlying231
 a167:=Tryz.isAgg231
 z167:=Tryz.sizeOf231
 v167:=Tryz.zeroValue231
 t168:=Tryz.underlying234
 a168:=Tryz.isAgg234
 z168:=Tryz.sizeOf234
 v168:=Tryz.zeroValue234
 t171:=Tryz.underlying180
 a171:=Tryz.isAgg180
 z171:=Tryz.sizeOf180
 v171:=Tryz.zeroValue180
 t173:=Tryz.underlying183
 a173:=Tryz.isAgg183
 z173:=Tryz.sizeOf183
 v173:=Tryz.zeroValue183
 t175:=Tryz.underlying232
 a175:=Tryz.isAgg232
 z175:=Tryz.sizeOf232
 v175:=Tryz.zeroValue232
 t210:=Tryz.underlying245
 a210:=Tryz.isAgg245
 z210:=Tryz.sizeOf245
 v210:=Tryz.zeroValue245
 t212:=Tryz.underlying204
 a212:=Tryz.isAgg204
 z212:=Tryz.sizeOf204
 v212:=Tryz.zeroValue204
 t213:=Tryz.underlying206
 a213:=Tryz.isAgg206
 z213:=Tryz.sizeOf206
 t232:=Tryz.underlying241
 a232:=Tryz.isAgg241
 z232:=Tryz.sizeOf241
 v232:=Tryz.zeroValue241
 t233:=Tryz.underlying242
 a233:=Tryz.isAgg242
 z233:=Tryz.sizeOf242
 v233:=Tryz.zeroValue242
 g15:=by kernel_rfl
 g16:=by kernel_rfl
 g17:=by kernel_rfl
 g18:=by kernel_rfl
 g19:=by kernel_rfl
 t80:=Tryz.underlying46
 a80:=Tryz.isAgg46
 z80:=Tryz.sizeOf46
 v80:=Tryz.zeroValue46
 i0:=by kernel_rfl
 i2:=by kernel_rfl
 i3:=by kernel_rfl
 i4:=by kernel_rfl
 i5:=by kernel_rfl
 i9:=by kernel_rfl
 i20:=by kernel_rfl
 i21:=by kernel_rfl
 i37:=by kernel_rfl
 i46:=by kernel_rfl
 i51:=by kernel_rfl
 i53:=by kernel_rfl
 i75:=by kernel_rfl
 i80:=by kernel_rfl
 i85:=by kernel_rfl
 i127:=by kernel_rfl
 i143:=by kernel_rfl
 i145:=by kernel_rfl
 i167:=by kernel_rfl
 i168:=by kernel_rfl
 i171:=by kernel_rfl
 i173:=by kernel_rfl
 i175:=by kernel_rfl
 i210:=by kernel_rfl
 i212:=by kernel_rfl
 i232:=by kernel_rfl
 i233:=by kernel_rfl
 m15:=by kernel_rfl
 m16:=by kernel_rfl
 m17:=by kernel_rfl
 m18:=by kernel_rfl
 m19:=by kernel_rfl
 c0:=by kernel_rfl
 c2:=by kernel_rfl
 c3:=by kernel_rfl
 c4:=by kernel_rfl
 c5:=by kernel_rfl
 c9:=by kernel_rfl
 c20:=by kernel_rfl
 c21:=by kernel_rfl
 c37:=by kernel_rfl
 c46:=by kernel_rfl
 c51:=by kernel_rfl
 c53:=by kernel_rfl
 c75:=by kernel_rfl
 c80:=by kernel_rfl
 c85:=by kernel_rfl
 c127:=by kernel_rfl
 c143:=by kernel_rfl
 c145:=by kernel_rfl
 c167:=by kernel_rfl
 c168:=by kernel_rfl
 c171:=by kernel_rfl
 c173:=by kernel_rfl
 c175:=by kernel_rfl
 c210:=by kernel_rfl
 c212:=by kernel_rfl
 c213:=by kernel_rfl
 c232:=by kernel_rfl
 c233:=by kernel_rfl }
open Go.RowKit in
theorem Tryz.strconv_ParseInt_10_at64_ok (s:ByteArray) (hmax:s.size≤9223372036854775806) (v:Int) (h:Lib.parseIntB 64 s.data.toList=.ok v) (w:World) :
  Calls Tryz.prog 121 #[.string s,.int .i64 10,.int .i64 64] w fun e w'=>e=.returned (.tuple #[.int .i64 v,.nilIface])∧(w'=w∨∃ t,w'=Lib.bytesWorld w 5 t):=Any.strconv_ParseInt_10_at64_ok Tryz.laysC174 s hmax v h w
open Go.RowKit in
theorem Tryz.strconv_ParseInt_10_at64_syntax (s:ByteArray) (hlim:s.size≤281474976710656) (h:Lib.parseIntB 64 s.data.toList=Lib.NumEnd.syntax) (ev:Value) (w:World) (hv:w.cell? ⟨10,0,none⟩=some ev) (hev:ev=.nilIface∨∃ te pe,ev=.iface te pe) :
  Calls Tryz.prog 121 #[.string s,.int .i64 10,.int .i64 64] w fun e w'=>∃ N,e=.returned (.tuple #[.int .i64 (0),.iface 234 (.pointer (some ⟨N,0,none⟩))])∧w.heap.size≤N∧w'.heap[N]?=some (.cells #[.string ⟨#[80,97,114,115,101,73,110,116]⟩,.string s,ev] 245 (0,0))∧Below w.heap.size w w':=Any.strconv_ParseInt_10_at64_syntax Tryz.laysC174 s hlim h ev w hv hev
open Go.RowKit in
theorem Tryz.strconv_ParseInt_10_at64_range (s:ByteArray) (hlim:s.size≤281474976710656) (h:Lib.parseIntB 64 s.data.toList=.range) (ev:Value) (w:World) (hv:w.cell? ⟨11,0,none⟩=some ev) (hev:ev=.nilIface∨∃ te pe,ev=.iface te pe) :
  Calls Tryz.prog 121 #[.string s,.int .i64 10,.int .i64 64] w fun e w'=>∃ N,e=.returned (.tuple #[.int .i64 (Lib.intSat 64 s.data.toList),.iface 234 (.pointer (some ⟨N,0,none⟩))])∧w.heap.size≤N∧w'.heap[N]?=some (.cells #[.string ⟨#[80,97,114,115,101,73,110,116]⟩,.string s,ev] 245 (0,0))∧Below w.heap.size w w':=Any.strconv_ParseInt_10_at64_range Tryz.laysC174 s hlim h ev w hv hev
def Tryz.lays146_ren:Go.Shelf.Ren:=⟨fun|146=>40|221=>59|268=>85|138=>86|143=>87|195=>117|197=>118|218=>119|219=>120|260=>152|217=>153|225=>154|224=>155|267=>156|266=>172|314=>173|n=>n,fun|9=>9|31=>70|3=>3|4=>4|0=>0|105=>187|21=>21|5=>5|46=>207|119=>225|139=>228|138=>227|146=>229|51=>205|n=>n,fun|1=>5|3=>6|4=>7|n=>n⟩
theorem Tryz.lays146:Go.Proofs.Lays.n146 Tryz.prog Tryz.lays146_ren:={
 mixed:=by kernel_rfl
 f138:=Tryz.func86.trans (congrArg some (by kernel_rfl))
 f143:=Tryz.func87.trans (congrArg some (by kernel_rfl))
 f146:=Tryz.func40.trans (congrArg some (by kernel_rfl))
 f195:=Tryz.func117.trans (congrArg some (by kernel_rfl))
 f197:=Tryz.func118.trans (congrArg some (by kernel_rfl))
 f217:=Tryz.func153.trans (congrArg some (by kernel_rfl))
 f218:=Tryz.func119.trans (congrArg some (by kernel_rfl))
 f219:=Tryz.func120.trans (congrArg some (by kernel_rfl))
 f221:=Tryz.func59.trans (congrArg some (by kernel_rfl))
 f224:=Tryz.func155.trans (congrArg some (by kernel_rfl))
 f225:=Tryz.func154.trans (congrArg some (by kernel_rfl))
 f260:=Tryz.func152.trans (congrArg some (by kernel_rfl))
 f266:=Tryz.func172.trans (congrArg some (by kernel_rfl))
 f267:=Tryz.func156.trans (congrArg some (by kernel_rfl))
 f268:=Tryz.func85.trans (congrArg some (by kernel_rfl))
 f314:=Tryz.func173.trans (congrArg some (by kernel_rfl))
 t0:=Tryz.underlying0
 a0:=Tryz.isAgg0
 z0:=Tryz.sizeOf0
 v0:=Tryz.zeroValue0
 t3:=Tryz.underlying3
 a3:=Tryz.isAgg3
 z3:=Tryz.sizeOf3
 v3:=Tryz.zeroValue3
 t4:=Tryz.underlying4
 a4:=Tryz.isAgg4
 z4:=Tryz.sizeOf4
 v4:=Tryz.zeroValue4
 t5:=Tryz.underlying5
 a5:=Tryz.isAgg5
 z5:=Tryz.sizeOf5
 v5:=Tryz.zeroValue5
 t9:=Tryz.underlying9
 a9:=Tryz.isAgg9
 z9:=Tryz.sizeOf9
 v9:=Tryz.zeroValue9
 t21:=Tryz.underlying21
 a21:=Tryz.isAgg21
 z21:=Tryz.sizeOf21
 v21:=Tryz.zeroValue21
 t31:=Tryz.underlying70
 a31:=Tryz.isAgg70
 z31:=Tryz.sizeOf70
 v31:=Tryz.zeroValue70
 t46:=Tryz.underlying207
 a46:=Tryz.isAgg207
 z46:=Tryz.sizeOf207
 v46:=Tryz.zeroValue207
 t51:=Tryz.underlying205
 a51:=Tryz.isAgg205
 z51:=Tryz.sizeOf205
 v51:=Tryz.zeroValue205
 t105:=Tryz.underlying187
 a105:=Tryz.isAgg187
 z105:=Tryz.sizeOf187
 v105:=Tryz.zeroValue187
 t119:=Tryz.underlying225
 a119:=Tryz.isAgg225
 z119:=Tryz.sizeOf225
 t138:=Tryz.underlying227
 a138:=Tryz.isAgg227
 z138:=Tryz.sizeOf227
 v138:=Tryz.zeroValue227
 t139:=Tryz.underlying228
 a139:=Tryz.isAgg228
 z139:=Tryz.sizeOf228
 v139:=Tryz.zeroValue228
 t146:=Tryz.underlying229
 a146:=Tryz.isAgg229
 z146:=Tryz.sizeOf229
 v146:=Tryz.zeroValue229
 g1:=by kernel_rfl
 g3:=by kernel_rfl
 g4:=by kernel_rfl }
open Go.RowKit Go.Lib in
theorem Tryz.strings_Split (s sep:ByteArray) (m:Int) (w:World) (hs:s.size<4294967281) (hm:w.cell? ⟨5,0,none⟩=some (.int .i64 m)) (h1:1≤sep.size) :
  Calls Tryz.prog 40 #[.string s,.string sep] w fun e w'=>
   e=.returned (.slice (some ⟨w.heap.size,0,none⟩) (Lib.countB s sep+1) (Lib.countB s sep+1))∧w'=w.alloc (.cells ((Lib.splitB sep 0 (Lib.countB s sep) s).map Value.string).toArray 9):=Any.strings_Split Tryz.lays146 (by kernel_rfl) s sep m w hs hm h1
end Go.Proofs
