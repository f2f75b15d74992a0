import Derived.Shelf.Small.Bits
import Derived.Shelf.Strconv.Itoa0
import Derived.Shelf.Strconv.Itoa1
import Derived.Shelf.LaysM
import Derived.Shelf.Strconv.Itoa2
import Derived.Shelf.Strconv.Itoa3
import Derived.Shelf.Strings.Search1
import Derived.Shelf.Strings.Search2
import Derived.Shelf.Strings.Cut
import Derived.Shelf.Strings.Shaped
import Derived.Shelf.Bits.Mul64
import Derived.Shelf.Slices.Turned
import Derived.Shelf.Slices.Reverse
import Derived.Shelf.Slices.Cells
import Derived.Test.YtfoefpoaomepbaaGreatDoorProg
set_option linter.all false
set_option maxHeartbeats 16000000
set_option maxRecDepth 1000000
namespace Go.Proofs
open Go.Shelf
def Tryz.laysM171_ren:Go.Shelf.Ren:=⟨fun|171=>186|243=>202|246=>211|283=>217|284=>218|285=>219|286=>220|129=>214|317=>223|318=>224|319=>225|320=>226|337=>231|338=>232|n=>n,fun|3=>3|9=>9|2=>2|4=>4|171=>251|0=>0|53=>165|37=>184|5=>5|173=>253|212=>257|51=>258|20=>20|213=>259|46=>246|232=>265|233=>266|n=>n,fun|17=>2|18=>4|19=>5|n=>n⟩
theorem Tryz.laysM171:Go.Proofs.LaysM.n171 Tryz.prog Tryz.laysM171_ren:={
 mixed:=by kernel_rfl
 f129:=Tryz.func214.trans (congrArg some (by kernel_rfl))
 f171:=Tryz.func186.trans (congrArg some (by kernel_rfl))
 f243:=Tryz.func202.trans (congrArg some (by kernel_rfl))
 f246:=Tryz.func211.trans (congrArg some (by kernel_rfl))
 f283:=Tryz.func217.trans (congrArg some (by kernel_rfl))
 f284:=Tryz.func218.trans (congrArg some (by kernel_rfl))
 f285:=Tryz.func219.trans (congrArg some (by kernel_rfl))
 f286:=Tryz.func220.trans (congrArg some (by kernel_rfl))
 f317:=Tryz.func223.trans (congrArg some (by kernel_rfl))
 f318:=Tryz.func224.trans (congrArg some (by kernel_rfl))
 f319:=Tryz.func225.trans (congrArg some (by kernel_rfl))
 f320:=Tryz.func226.trans (congrArg some (by kernel_rfl))
 f337:=Tryz.func231.trans (congrArg some (by kernel_rfl))
 f338:=Tryz.func232.trans (congrArg some (by kernel_rfl))
 t0:=Tryz.underlying0
 a0:=Tryz.isAgg0
 z0:=Tryz.sizeOf0
 v0:=Tryz.zeroValue0
 t2:=Tryz.underlying2
 a2:=Tryz.isAgg2
 z2:=Tryz.sizeOf2
 v2:=Tryz.zeroValue2
 t3:=Tryz.underlying3
 a3:=Tryz.isAgg3
 z3:=Tryz.sizeOf3
 v3:=Tryz.zeroValue3
 t4:=Tryz.underlying4
 a4:=Tryz.isAgg4
 z4:=Tryz.sizeOf4
 v4:=Tryz.zeroValue4
 t5:=Tryz.underlying5
 a5:=Tryz.isAgg5
 z5:=Tryz.sizeOf5
 v5:=Tryz.zeroValue5
 t9:=Tryz.underlying9
 a9:=Tryz.isAgg9
 z9:=Tryz.sizeOf9
 v9:=Tryz.zeroValue9
 t20:=Tryz.underlying20
 a20:=Tryz.isAgg20
 z20:=Tryz.sizeOf20
 v20:=Tryz.zeroValue20
 t37:=Tryz.underlying184
 a37:=Tryz.isAgg184
 z37:=Tryz.sizeOf184
 v37:=Tryz.zeroValue184
 t46:=Tryz.underlying246
 a46:=Tryz.isAgg246
 z46:=Tryz.sizeOf246
 v46:=Tryz.zeroValue246
 t51:=Tryz.underlying258
 a51:=Tryz.isAgg258
 z51:=Tryz.sizeOf258
 v51:=Tryz.zeroValue258
 t53:=Tryz.underlying165
 a53:=Tryz.isAgg165
 z53:=Tryz.sizeOf165
 v53:=Tryz.zeroValue165
 t171:=Tryz.underlying251
 a171:=Tryz.isAgg251
 z171:=Tryz.sizeOf251
 v171:=Tryz.zeroValue251
 t173:=Tryz.underlying253
 a173:=Tryz.isAgg253
 z173:=Tryz.sizeOf253
 v173:=Tryz.zeroValue253
 t212:=Tryz.underlying257
 a212:=Tryz.isAgg257
 z212:=Tryz.sizeOf257
 v212:=Tryz.zeroValue257
 t213:=Tryz.underlying259
 a213:=Tryz.isAgg259
 z213:=Tryz.sizeOf259
 t232:=Tryz.underlying265
 a232:=Tryz.isAgg265
 z232:=Tryz.sizeOf265
 v232:=Tryz.zeroValue265
 t233:=Tryz.underlying266
 a233:=Tryz.isAgg266
 z233:=Tryz.sizeOf266
 v233:=Tryz.zeroValue266
 g17:=by kernel_rfl
 g18:=by kernel_rfl
 g19:=by kernel_rfl
 i0:=by kernel_rfl
 i2:=by kernel_rfl
 i3:=by kernel_rfl
 i4:=by kernel_rfl
 i5:=by kernel_rfl
 i9:=by kernel_rfl
 i20:=by kernel_rfl
 i37:=by kernel_rfl
 i46:=by kernel_rfl
 i51:=by kernel_rfl
 i53:=by kernel_rfl
 i171:=by kernel_rfl
 i173:=by kernel_rfl
 i212:=by kernel_rfl
 i232:=by kernel_rfl
 i233:=by kernel_rfl
 m17:=by kernel_rfl
 m18:=by kernel_rfl
 m19:=by kernel_rfl}
open Go.RowKit Go.Sort Go.Lib in
theorem Tryz.strconv_Itoa(n:Int)(h0:-9223372036854775808≤n)(h1:n≤9223372036854775807)(w:World)(htab:Lib.TabIs Tryz.prog w "internal/strconv.uint64pow10" .u64 Lib.pow10Tab) :
 Calls Tryz.prog 186 #[.int .i64 n] w fun e w'=>e= .returned (.string ⟨(Lib.itoa n).toArray⟩)∧∃k os,w'=grow (w.drewN k) os:=Any.strconv_Itoa Tryz.laysM171 n h0 h1 w htab
def Tryz.lays171_ren:Go.Shelf.Ren:=⟨fun|171=>186|243=>202|246=>211|283=>217|284=>218|285=>219|286=>220|129=>214|317=>223|318=>224|319=>225|320=>226|337=>231|338=>232|n=>n,fun|3=>3|9=>9|2=>2|4=>4|171=>251|0=>0|53=>165|37=>184|5=>5|173=>253|212=>257|51=>258|20=>20|213=>259|46=>246|232=>265|233=>266|n=>n,fun|17=>2|18=>4|19=>5|n=>n⟩
theorem Tryz.lays171:Go.Proofs.Lays.n171 Tryz.prog Tryz.lays171_ren:={
 mixed:=by kernel_rfl
 f129:=Tryz.func214.trans (congrArg some (by kernel_rfl))
 f171:=Tryz.func186.trans (congrArg some (by kernel_rfl))
 f243:=Tryz.func202.trans (congrArg some (by kernel_rfl))
 f246:=Tryz.func211.trans (congrArg some (by kernel_rfl))
 f283:=Tryz.func217.trans (congrArg some (by kernel_rfl))
 f284:=Tryz.func218.trans (congrArg some (by kernel_rfl))
 f285:=Tryz.func219.trans (congrArg some (by kernel_rfl))
 f286:=Tryz.func220.trans (congrArg some (by kernel_rfl))
 f317:=Tryz.func223.trans (congrArg some (by kernel_rfl))
 f318:=Tryz.func224.trans (congrArg some (by kernel_rfl))
 f319:=Tryz.func225.trans (congrArg some (by kernel_rfl))
 f320:=Tryz.func226.trans (congrArg some (by kernel_rfl))
 f337:=Tryz.func231.trans (congrArg some (by kernel_rfl))
 f338:=Tryz.func232.trans (congrArg some (by kernel_rfl))
 t0:=Tryz.underlying0
 a0:=Tryz.isAgg0
 z0:=Tryz.sizeOf0
 v0:=Tryz.zeroValue0
 t2:=Tryz.underlying2
 a2:=Tryz.isAgg2
 z2:=Tryz.sizeOf2
 v2:=Tryz.zeroValue2
 t3:=Tryz.underlying3
 a3:=Tryz.isAgg3
 z3:=Tryz.sizeOf3
 v3:=Tryz.zeroValue3
 t4:=Tryz.underlying4
 a4:=Tryz.isAgg4
 z4:=Tryz.sizeOf4
 v4:=Tryz.zeroValue4
 t5:=Tryz.underlying5
 a5:=Tryz.isAgg5
 z5:=Tryz.sizeOf5
 v5:=Tryz.zeroValue5
 t9:=Tryz.underlying9
 a9:=Tryz.isAgg9
 z9:=Tryz.sizeOf9
 v9:=Tryz.zeroValue9
 t20:=Tryz.underlying20
 a20:=Tryz.isAgg20
 z20:=Tryz.sizeOf20
 v20:=Tryz.zeroValue20
 t37:=Tryz.underlying184
 a37:=Tryz.isAgg184
 z37:=Tryz.sizeOf184
 v37:=Tryz.zeroValue184
 t46:=Tryz.underlying246
 a46:=Tryz.isAgg246
 z46:=Tryz.sizeOf246
 v46:=Tryz.zeroValue246
 t51:=Tryz.underlying258
 a51:=Tryz.isAgg258
 z51:=Tryz.sizeOf258
 v51:=Tryz.zeroValue258
 t53:=Tryz.underlying165
 a53:=Tryz.isAgg165
 z53:=Tryz.sizeOf165
 v53:=Tryz.zeroValue165
 t171:=Tryz.underlying251
 a171:=Tryz.isAgg251
 z171:=Tryz.sizeOf251
 v171:=Tryz.zeroValue251
 t173:=Tryz.underlying253
 a173:=Tryz.isAgg253
 z173:=Tryz.sizeOf253
 v173:=Tryz.zeroValue253
 t212:=Tryz.underlying257
 a212:=Tryz.isAgg257
 z212:=Tryz.sizeOf257
 v212:=Tryz.zeroValue257
 t213:=Tryz.underlying259
 a213:=Tryz.isAgg259
 z213:=Tryz.sizeOf259
 t232:=Tryz.underlying265
 a232:=Tryz.isAgg265
 z232:=Tryz.sizeOf265
 v232:=Tryz.zeroValue265
 t233:=Tryz.underlying266
 a233:=Tryz.isAgg266
 z233:=Tryz.sizeOf266
 v233:=Tryz.zeroValue266
 g17:=by kernel_rfl
 g18:=by kernel_rfl
 g19:=by kernel_rfl}
open Go.RowKit Go.Sort Go.Lib in
theorem Tryz.strconv_Itoa_small(i:Nat)(hi:i<100)(w:World) :
 Calls Tryz.prog 186 #[.int .i64 i] w fun e w'=>e= .returned (.string ⟨(Lib.decDigits i).toArray⟩)∧w'=w:=Any.strconv_Itoa_small Tryz.lays171 i hi w
def Tryz.lays219_ren:Go.Shelf.Ren:=⟨fun|219=>221|217=>227|225=>228|224=>229|267=>230|266=>233|314=>234|n=>n,fun|9=>9|3=>3|4=>4|5=>5|46=>246|146=>263|51=>258|n=>n,fun|1=>3|n=>n⟩
theorem Tryz.lays219:Go.Proofs.Lays.n219 Tryz.prog Tryz.lays219_ren:={
 mixed:=by kernel_rfl
 f217:=Tryz.func227.trans (congrArg some (by kernel_rfl))
 f219:=Tryz.func221.trans (congrArg some (by kernel_rfl))
 f224:=Tryz.func229.trans (congrArg some (by kernel_rfl))
 f225:=Tryz.func228.trans (congrArg some (by kernel_rfl))
 f266:=Tryz.func233.trans (congrArg some (by kernel_rfl))
 f267:=Tryz.func230.trans (congrArg some (by kernel_rfl))
 f314:=Tryz.func234.trans (congrArg some (by kernel_rfl))
 t3:=Tryz.underlying3
 a3:=Tryz.isAgg3
 z3:=Tryz.sizeOf3
 v3:=Tryz.zeroValue3
 t4:=Tryz.underlying4
 a4:=Tryz.isAgg4
 z4:=Tryz.sizeOf4
 v4:=Tryz.zeroValue4
 t5:=Tryz.underlying5
 a5:=Tryz.isAgg5
 z5:=Tryz.sizeOf5
 v5:=Tryz.zeroValue5
 t9:=Tryz.underlying9
 a9:=Tryz.isAgg9
 z9:=Tryz.sizeOf9
 v9:=Tryz.zeroValue9
 t46:=Tryz.underlying246
 a46:=Tryz.isAgg246
 z46:=Tryz.sizeOf246
 v46:=Tryz.zeroValue246
 t51:=Tryz.underlying258
 a51:=Tryz.isAgg258
 z51:=Tryz.sizeOf258
 v51:=Tryz.zeroValue258
 t146:=Tryz.underlying263
 a146:=Tryz.isAgg263
 z146:=Tryz.sizeOf263
 v146:=Tryz.zeroValue263
 g1:=by kernel_rfl}
open Go.RowKit Go.Lib in
theorem Tryz.stringslite_Index_one(s:ByteArray)(c:UInt8)(w:World) :
 Calls Tryz.prog 221 #[.string s,.string ⟨#[c]⟩] w fun e w'=>e= .returned (.int .i64 (Lib.indexByte s.data.toList c))∧w'=w:=Any.stringslite_Index_one Tryz.lays219 s c w
end Go.Proofs
