import Derived.Shelf.Small.Bits
import Derived.Shelf.Small.Wraps
import Derived.Shelf.Strconv.Itoa0
import Derived.Shelf.Strconv.Itoa1
import Derived.Shelf.LaysM
import Derived.Shelf.Strconv.Itoa2
import Derived.Shelf.Strconv.Itoa3
import Derived.Shelf.Strings.Search1
import Derived.Shelf.Strings.Search2
import Derived.Shelf.Strings.Cut
import Derived.Shelf.Strings.Shaped
import Derived.Shelf.Sort.Plain
import Derived.Shelf.Bits.Mul64
import Derived.Shelf.Slices.Turned
import Derived.Shelf.Slices.Reverse
import Derived.Shelf.Slices.Equal
import Derived.Ground.Names2Prog
import Derived.Shelf.Slices.Clone
import Derived.Shelf.Slices.SearchI
import Derived.Shelf.Slices.Cells
import Derived.Shelf.Slices.In.SortNone
import Derived.Shelf.Slices.Empties2
import Derived.Test.YtaghhncnicbedaaGreatDoorProg
set_option linter.all false
set_option maxHeartbeats 16000000
set_option maxRecDepth 1000000
namespace Go.Proofs
open Go.Shelf
def Tryz.laysM171_ren:Go.Shelf.Ren:=⟨fun|171=>234|243=>237|246=>240|283=>242|284=>243|285=>244|286=>245|129=>164|317=>247|318=>248|319=>249|320=>250|337=>255|338=>256|n=>n,fun|3=>3|9=>9|2=>2|4=>4|171=>283|0=>0|53=>138|37=>142|5=>5|173=>285|212=>289|51=>260|20=>20|213=>290|46=>200|232=>294|233=>295|n=>n,fun|17=>2|18=>4|19=>5|n=>n⟩
theorem Tryz.laysM171:Go.Proofs.LaysM.n171 Tryz.prog Tryz.laysM171_ren:={
 mixed:=by kernel_rfl
 f129:=Tryz.func164.trans (congrArg some (by kernel_rfl))
 f171:=Tryz.func234.trans (congrArg some (by kernel_rfl))
 f243:=Tryz.func237.trans (congrArg some (by kernel_rfl))
 f246:=Tryz.func240.trans (congrArg some (by kernel_rfl))
 f283:=Tryz.func242.trans (congrArg some (by kernel_rfl))
 f284:=Tryz.func243.trans (congrArg some (by kernel_rfl))
 f285:=Tryz.func244.trans (congrArg some (by kernel_rfl))
 f286:=Tryz.func245.trans (congrArg some (by kernel_rfl))
 f317:=Tryz.func247.trans (congrArg some (by kernel_rfl))
 f318:=Tryz.func248.trans (congrArg some (by kernel_rfl))
 f319:=Tryz.func249.trans (congrArg some (by kernel_rfl))
 f320:=Tryz.func250.trans (congrArg some (by kernel_rfl))
 f337:=Tryz.func255.trans (congrArg some (by kernel_rfl))
 f338:=Tryz.func256.trans (congrArg some (by kernel_rfl))
 t0:=Tryz.underlying0
 a0:=Tryz.isAgg0
 z0:=Tryz.sizeOf0
 v0:=Tryz.zeroValue0
 t2:=Tryz.underlying2
 a2:=Tryz.isAgg2
 z2:=Tryz.sizeOf2
 v2:=Tryz.zeroValue2
 t3:=Tryz.underlying3
 a3:=Tryz.isAgg3
 z3:=Tryz.sizeOf3
 v3:=Tryz.zeroValue3
 t4:=Tryz.underlying4
 a4:=Tryz.isAgg4
 z4:=Tryz.sizeOf4
 v4:=Tryz.zeroValue4
 t5:=Tryz.underlying5
 a5:=Tryz.isAgg5
 z5:=Tryz.sizeOf5
 v5:=Tryz.zeroValue5
 t9:=Tryz.underlying9
 a9:=Tryz.isAgg9
 z9:=Tryz.sizeOf9
 v9:=Tryz.zeroValue9
 t20:=Tryz.underlying20
 a20:=Tryz.isAgg20
 z20:=Tryz.sizeOf20
 v20:=Tryz.zeroValue20
 t37:=Tryz.underlying142
 a37:=Tryz.isAgg142
 z37:=Tryz.sizeOf142
 v37:=Tryz.zeroValue142
 t46:=Tryz.underlying200
 a46:=Tryz.isAgg200
 z46:=Tryz.sizeOf200
 v46:=Tryz.zeroValue200
 t51:=Tryz.underlying260
 a51:=Tryz.isAgg260
 z51:=Tryz.sizeOf260
 v51:=Tryz.zeroValue260
 t53:=Tryz.underlying138
 a53:=Tryz.isAgg138
 z53:=Tryz.sizeOf138
 v53:=Tryz.zeroValue138
 t171:=Tryz.underlying283
 a171:=Tryz.isAgg283
 z171:=Tryz.sizeOf283
 v171:=Tryz.zeroValue283
 t173:=Tryz.underlying285
 a173:=Tryz.isAgg285
 z173:=Tryz.sizeOf285
 v173:=Tryz.zeroValue285
 t212:=Tryz.underlying289
 a212:=Tryz.isAgg289
 z212:=Tryz.sizeOf289
 v212:=Tryz.zeroValue289
 t213:=Tryz.underlying290
 a213:=Tryz.isAgg290
 z213:=Tryz.sizeOf290
 t232:=Tryz.underlying294
 a232:=Tryz.isAgg294
 z232:=Tryz.sizeOf294
 v232:=Tryz.zeroValue294
 t233:=Tryz.underlying295
 a233:=Tryz.isAgg295
 z233:=Tryz.sizeOf295
 v233:=Tryz.zeroValue295
 g17:=by kernel_rfl
 g18:=by kernel_rfl
 g19:=by kernel_rfl
 i0:=by kernel_rfl
 i2:=by kernel_rfl
 i3:=by kernel_rfl
 i4:=by kernel_rfl
 i5:=by kernel_rfl
 i9:=by kernel_rfl
 i20:=by kernel_rfl
 i37:=by kernel_rfl
 i46:=by kernel_rfl
 i51:=by kernel_rfl
 i53:=by kernel_rfl
 i171:=by kernel_rfl
 i173:=by kernel_rfl
 i212:=by kernel_rfl
 i232:=by kernel_rfl
 i233:=by kernel_rfl
 m17:=by kernel_rfl
 m18:=by kernel_rfl
 m19:=by kernel_rfl}
open Go.RowKit Go.Sort Go.Lib in
theorem Tryz.strconv_Itoa(n:Int)(h0:-9223372036854775808≤n)(h1:n≤9223372036854775807)(w:World)(htab:Lib.TabIs Tryz.prog w "internal/strconv.uint64pow10" .u64 Lib.pow10Tab) :
 Calls Tryz.prog 234 #[.int .i64 n] w fun e w'=>e= .returned (.string ⟨(Lib.itoa n).toArray⟩)∧∃k os,w'=grow (w.drewN k) os:=Any.strconv_Itoa Tryz.laysM171 n h0 h1 w htab
def Tryz.lays171_ren:Go.Shelf.Ren:=⟨fun|171=>234|243=>237|246=>240|283=>242|284=>243|285=>244|286=>245|129=>164|317=>247|318=>248|319=>249|320=>250|337=>255|338=>256|n=>n,fun|3=>3|9=>9|2=>2|4=>4|171=>283|0=>0|53=>138|37=>142|5=>5|173=>285|212=>289|51=>260|20=>20|213=>290|46=>200|232=>294|233=>295|n=>n,fun|17=>2|18=>4|19=>5|n=>n⟩
theorem Tryz.lays171:Go.Proofs.Lays.n171 Tryz.prog Tryz.lays171_ren:={
 mixed:=by kernel_rfl
 f129:=Tryz.func164.trans (congrArg some (by kernel_rfl))
 f171:=Tryz.func234.trans (congrArg some (by kernel_rfl))
 f243:=Tryz.func237.trans (congrArg some (by kernel_rfl))
 f246:=Tryz.func240.trans (congrArg some (by kernel_rfl))
 f283:=Tryz.func242.trans (congrArg some (by kernel_rfl))
 f284:=Tryz.func243.trans (congrArg some (by kernel_rfl))
 f285:=Tryz.func244.trans (congrArg some (by kernel_rfl))
 f286:=Tryz.func245.trans (congrArg some (by kernel_rfl))
 f317:=Tryz.func247.trans (congrArg some (by kernel_rfl))
 f318:=Tryz.func248.trans (congrArg some (by kernel_rfl))
 f319:=Tryz.func249.trans (congrArg some (by kernel_rfl))
 f320:=Tryz.func250.trans (congrArg some (by kernel_rfl))
 f337:=Tryz.func255.trans (congrArg some (by kernel_rfl))
 f338:=Tryz.func256.trans (congrArg some (by kernel_rfl))
 t0:=Tryz.underlying0
 a0:=Tryz.isAgg0
 z0:=Tryz.sizeOf0
 v0:=Tryz.zeroValue0
 t2:=Tryz.underlying2
 a2:=Tryz.isAgg2
 z2:=Tryz.sizeOf2
 v2:=Tryz.zeroValue2
 t3:=Tryz.underlying3
 a3:=Tryz.isAgg3
 z3:=Tryz.sizeOf3
 v3:=Tryz.zeroValue3
 t4:=Tryz.underlying4
 a4:=Tryz.isAgg4
 z4:=Tryz.sizeOf4
 v4:=Tryz.zeroValue4
 t5:=Tryz.underlying5
 a5:=Tryz.isAgg5
 z5:=Tryz.sizeOf5
 v5:=Tryz.zeroValue5
 t9:=Tryz.underlying9
 a9:=Tryz.isAgg9
 z9:=Tryz.sizeOf9
 v9:=Tryz.zeroValue9
 t20:=Tryz.underlying20
 a20:=Tryz.isAgg20
 z20:=Tryz.sizeOf20
 v20:=Tryz.zeroValue20
 t37:=Tryz.underlying142
 a37:=Tryz.isAgg142
 z37:=Tryz.sizeOf142
 v37:=Tryz.zeroValue142
 t46:=Tryz.underlying200
 a46:=Tryz.isAgg200
 z46:=Tryz.sizeOf200
 v46:=Tryz.zeroValue200
 t51:=Tryz.underlying260
 a51:=Tryz.isAgg260
 z51:=Tryz.sizeOf260
 v51:=Tryz.zeroValue260
 t53:=Tryz.underlying138
 a53:=Tryz.isAgg138
 z53:=Tryz.sizeOf138
 v53:=Tryz.zeroValue138
 t171:=Tryz.underlying283
 a171:=Tryz.isAgg283
 z171:=Tryz.sizeOf283
 v171:=Tryz.zeroValue283
 t173:=Tryz.underlying285
 a173:=Tryz.isAgg285
 z173:=Tryz.sizeOf285
 v173:=Tryz.zeroValue285
 t212:=Tryz.underlying289
 a212:=Tryz.isAgg289
 z212:=Tryz.sizeOf289
 v212:=Tryz.zeroValue289
 t213:=Tryz.underlying290
 a213:=Tryz.isAgg290
 z213:=Tryz.sizeOf290
 t232:=Tryz.underlying294
 a232:=Tryz.isAgg294
 z232:=Tryz.sizeOf294
 v232:=Tryz.zeroValue294
 t233:=Tryz.underlying295
 a233:=Tryz.isAgg295
 z233:=Tryz.sizeOf295
 v233:=Tryz.zeroValue295
 g17:=by kernel_rfl
 g18:=by kernel_rfl
 g19:=by kernel_rfl}
open Go.RowKit Go.Sort Go.Lib in
theorem Tryz.strconv_Itoa_small(i:Nat)(hi:i<100)(w:World) :
 Calls Tryz.prog 234 #[.int .i64 i] w fun e w'=>e= .returned (.string ⟨(Lib.decDigits i).toArray⟩)∧w'=w:=Any.strconv_Itoa_small Tryz.lays171 i hi w
def Tryz.lays219_ren:Go.Shelf.Ren:=⟨fun|219=>246|217=>251|225=>252|224=>253|267=>254|266=>257|314=>258|n=>n,fun|9=>9|3=>3|4=>4|5=>5|46=>200|146=>292|51=>260|n=>n,fun|1=>3|n=>n⟩
theorem Tryz.lays219:Go.Proofs.Lays.n219 Tryz.prog Tryz.lays219_ren:={
 mixed:=by kernel_rfl
 f217:=Tryz.func251.trans (congrArg some (by kernel_rfl))
 f219:=Tryz.func246.trans (congrArg some (by kernel_rfl))
 f224:=Tryz.func253.trans (congrArg some (by kernel_rfl))
 f225:=Tryz.func252.trans (congrArg some (by kernel_rfl))
 f266:=Tryz.func257.trans (congrArg some (by kernel_rfl))
 f267:=Tryz.func254.trans (congrArg some (by kernel_rfl))
 f314:=Tryz.func258.trans (congrArg some (by kernel_rfl))
 t3:=Tryz.underlying3
 a3:=Tryz.isAgg3
 z3:=Tryz.sizeOf3
 v3:=Tryz.zeroValue3
 t4:=Tryz.underlying4
 a4:=Tryz.isAgg4
 z4:=Tryz.sizeOf4
 v4:=Tryz.zeroValue4
 t5:=Tryz.underlying5
 a5:=Tryz.isAgg5
 z5:=Tryz.sizeOf5
 v5:=Tryz.zeroValue5
 t9:=Tryz.underlying9
 a9:=Tryz.isAgg9
 z9:=Tryz.sizeOf9
 v9:=Tryz.zeroValue9
 t46:=Tryz.underlying200
 a46:=Tryz.isAgg200
 z46:=Tryz.sizeOf200
 v46:=Tryz.zeroValue200
 t51:=Tryz.underlying260
 a51:=Tryz.isAgg260
 z51:=Tryz.sizeOf260
 v51:=Tryz.zeroValue260
 t146:=Tryz.underlying292
 a146:=Tryz.isAgg292
 z146:=Tryz.sizeOf292
 v146:=Tryz.zeroValue292
 g1:=by kernel_rfl}
open Go.RowKit Go.Lib in
theorem Tryz.stringslite_Index_one(s:ByteArray)(c:UInt8)(w:World) :
 Calls Tryz.prog 246 #[.string s,.string ⟨#[c]⟩] w fun e w'=>e= .returned (.int .i64 (Lib.indexByte s.data.toList c))∧w'=w:=Any.stringslite_Index_one Tryz.lays219 s c w
end Go.Proofs
