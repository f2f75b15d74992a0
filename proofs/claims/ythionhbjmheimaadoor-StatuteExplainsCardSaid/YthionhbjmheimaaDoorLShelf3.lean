import Derived.Shelf.Small.Bits
import Derived.Shelf.Strconv.Itoa0
import Derived.Shelf.Strconv.Itoa1
import Derived.Shelf.LaysM
import Derived.Shelf.Strconv.Itoa2
import Derived.Shelf.Strconv.Itoa3
import Derived.Shelf.Bits.Mul64
import Derived.Test.YthionhbjmheimaaDoorProg
set_option linter.all false
set_option maxHeartbeats 16000000
set_option maxRecDepth 1000000
namespace Go.Proofs
open Go.Shelf
def Tryd.laysM171_ren:Go.Shelf.Ren:=⟨fun|171=>36|243=>61|246=>75|283=>86|284=>87|285=>88|286=>89|129=>76|317=>93|318=>94|319=>95|320=>96|337=>99|338=>100|n=>n,fun|3=>3|9=>9|2=>2|4=>4|171=>154|0=>0|53=>100|37=>104|5=>5|173=>156|212=>161|51=>162|20=>20|213=>163|46=>132|232=>167|233=>168|n=>n,fun|17=>2|18=>3|19=>4|n=>n⟩
theorem Tryd.laysM171:Go.Proofs.LaysM.n171 Tryd.prog Tryd.laysM171_ren:={
 mixed:=by kernel_rfl
 f129:=Tryd.func76.trans (congrArg some (by kernel_rfl))
 f171:=Tryd.func36.trans (congrArg some (by kernel_rfl))
 f243:=Tryd.func61.trans (congrArg some (by kernel_rfl))
 f246:=Tryd.func75.trans (congrArg some (by kernel_rfl))
 f283:=Tryd.func86.trans (congrArg some (by kernel_rfl))
 f284:=Tryd.func87.trans (congrArg some (by kernel_rfl))
 f285:=Tryd.func88.trans (congrArg some (by kernel_rfl))
 f286:=Tryd.func89.trans (congrArg some (by kernel_rfl))
 f317:=Tryd.func93.trans (congrArg some (by kernel_rfl))
 f318:=Tryd.func94.trans (congrArg some (by kernel_rfl))
 f319:=Tryd.func95.trans (congrArg some (by kernel_rfl))
 f320:=Tryd.func96.trans (congrArg some (by kernel_rfl))
 f337:=Tryd.func99.trans (congrArg some (by kernel_rfl))
 f338:=Tryd.func100.trans (congrArg some (by kernel_rfl))
 t0:=Tryd.underlying0
 a0:=Tryd.isAgg0
 z0:=Tryd.sizeOf0
 v0:=Tryd.zeroValue0
 t2:=Tryd.underlying2
 a2:=Tryd.isAgg2
 z2:=Tryd.sizeOf2
 v2:=Tryd.zeroValue2
 t3:=Tryd.underlying3
 a3:=Tryd.isAgg3
 z3:=Tryd.sizeOf3
 v3:=Tryd.zeroValue3
 t4:=Tryd.underlying4
 a4:=Tryd.isAgg4
 z4:=Tryd.sizeOf4
 v4:=Tryd.zeroValue4
 t5:=Tryd.underlying5
 a5:=Tryd.isAgg5
 z5:=Tryd.sizeOf5
 v5:=Tryd.zeroValue5
 t9:=Tryd.underlying9
 a9:=Tryd.isAgg9
 z9:=Tryd.sizeOf9
 v9:=Tryd.zeroValue9
 t20:=Tryd.underlying20
 a20:=Tryd.isAgg20
 z20:=Tryd.sizeOf20
 v20:=Tryd.zeroValue20
 t37:=Tryd.underlying104
 a37:=Tryd.isAgg104
 z37:=Tryd.sizeOf104
 v37:=Tryd.zeroValue104
 t46:=Tryd.underlying132
 a46:=Tryd.isAgg132
 z46:=Tryd.sizeOf132
 v46:=Tryd.zeroValue132
 t51:=Tryd.underlying162
 a51:=Tryd.isAgg162
 z51:=Tryd.sizeOf162
 v51:=Tryd.zeroValue162
 t53:=Tryd.underlying100
 a53:=Tryd.isAgg100
 z53:=Tryd.sizeOf100
 v53:=Tryd.zeroValue100
 t171:=Tryd.underlying154
 a171:=Tryd.isAgg154
 z171:=Tryd.sizeOf154
 v171:=Tryd.zeroValue154
 t173:=Tryd.underlying156
 a173:=Tryd.isAgg156
 z173:=Tryd.sizeOf156
 v173:=Tryd.zeroValue156
 t212:=Tryd.underlying161
 a212:=Tryd.isAgg161
 z212:=Tryd.sizeOf161
 v212:=Tryd.zeroValue161
 t213:=Tryd.underlying163
 a213:=Tryd.isAgg163
 z213:=Tryd.sizeOf163
 t232:=Tryd.underlying167
 a232:=Tryd.isAgg167
 z232:=Tryd.sizeOf167
 v232:=Tryd.zeroValue167
 t233:=Tryd.underlying168
 a233:=Tryd.isAgg168
 z233:=Tryd.sizeOf168
 v233:=Tryd.zeroValue168
 g17:=by kernel_rfl
 g18:=by kernel_rfl
 g19:=by kernel_rfl
 i0:=by kernel_rfl
 i2:=by kernel_rfl
 i3:=by kernel_rfl
 i4:=by kernel_rfl
 i5:=by kernel_rfl
 i9:=by kernel_rfl
 i20:=by kernel_rfl
 i37:=by kernel_rfl
 i46:=by kernel_rfl
 i51:=by kernel_rfl
 i53:=by kernel_rfl
 i171:=by kernel_rfl
 i173:=by kernel_rfl
 i212:=by kernel_rfl
 i232:=by kernel_rfl
 i233:=by kernel_rfl
 m17:=by kernel_rfl
 m18:=by kernel_rfl
 m19:=by kernel_rfl}
open Go.RowKit Go.Sort Go.Lib in
theorem Tryd.strconv_Itoa(n:Int)(h0:-9223372036854775808≤n)(h1:n≤9223372036854775807)(w:World)(htab:Lib.TabIs Tryd.prog w "internal/strconv.uint64pow10" .u64 Lib.pow10Tab) :
 Calls Tryd.prog 36 #[.int .i64 n] w fun e w'=>e= .returned (.string ⟨(Lib.itoa n).toArray⟩)∧∃k os,w'=grow (w.drewN k) os:=Any.strconv_Itoa Tryd.laysM171 n h0 h1 w htab
def Tryd.lays171_ren:Go.Shelf.Ren:=⟨fun|171=>36|243=>61|246=>75|283=>86|284=>87|285=>88|286=>89|129=>76|317=>93|318=>94|319=>95|320=>96|337=>99|338=>100|n=>n,fun|3=>3|9=>9|2=>2|4=>4|171=>154|0=>0|53=>100|37=>104|5=>5|173=>156|212=>161|51=>162|20=>20|213=>163|46=>132|232=>167|233=>168|n=>n,fun|17=>2|18=>3|19=>4|n=>n⟩
theorem Tryd.lays171:Go.Proofs.Lays.n171 Tryd.prog Tryd.lays171_ren:={
 mixed:=by kernel_rfl
 f129:=Tryd.func76.trans (congrArg some (by kernel_rfl))
 f171:=Tryd.func36.trans (congrArg some (by kernel_rfl))
 f243:=Tryd.func61.trans (congrArg some (by kernel_rfl))
 f246:=Tryd.func75.trans (congrArg some (by kernel_rfl))
 f283:=Tryd.func86.trans (congrArg some (by kernel_rfl))
 f284:=Tryd.func87.trans (congrArg some (by kernel_rfl))
 f285:=Tryd.func88.trans (congrArg some (by kernel_rfl))
 f286:=Tryd.func89.trans (congrArg some (by kernel_rfl))
 f317:=Tryd.func93.trans (congrArg some (by kernel_rfl))
 f318:=Tryd.func94.trans (congrArg some (by kernel_rfl))
 f319:=Tryd.func95.trans (congrArg some (by kernel_rfl))
 f320:=Tryd.func96.trans (congrArg some (by kernel_rfl))
 f337:=Tryd.func99.trans (congrArg some (by kernel_rfl))
 f338:=Tryd.func100.trans (congrArg some (by kernel_rfl))
 t0:=Tryd.underlying0
 a0:=Tryd.isAgg0
 z0:=Tryd.sizeOf0
 v0:=Tryd.zeroValue0
 t2:=Tryd.underlying2
 a2:=Tryd.isAgg2
 z2:=Tryd.sizeOf2
 v2:=Tryd.zeroValue2
 t3:=Tryd.underlying3
 a3:=Tryd.isAgg3
 z3:=Tryd.sizeOf3
 v3:=Tryd.zeroValue3
 t4:=Tryd.underlying4
 a4:=Tryd.isAgg4
 z4:=Tryd.sizeOf4
 v4:=Tryd.zeroValue4
 t5:=Tryd.underlying5
 a5:=Tryd.isAgg5
 z5:=Tryd.sizeOf5
 v5:=Tryd.zeroValue5
 t9:=Tryd.underlying9
 a9:=Tryd.isAgg9
 z9:=Tryd.sizeOf9
 v9:=Tryd.zeroValue9
 t20:=Tryd.underlying20
 a20:=Tryd.isAgg20
 z20:=Tryd.sizeOf20
 v20:=Tryd.zeroValue20
 t37:=Tryd.underlying104
 a37:=Tryd.isAgg104
 z37:=Tryd.sizeOf104
 v37:=Tryd.zeroValue104
 t46:=Tryd.underlying132
 a46:=Tryd.isAgg132
 z46:=Tryd.sizeOf132
 v46:=Tryd.zeroValue132
 t51:=Tryd.underlying162
 a51:=Tryd.isAgg162
 z51:=Tryd.sizeOf162
 v51:=Tryd.zeroValue162
 t53:=Tryd.underlying100
 a53:=Tryd.isAgg100
 z53:=Tryd.sizeOf100
 v53:=Tryd.zeroValue100
 t171:=Tryd.underlying154
 a171:=Tryd.isAgg154
 z171:=Tryd.sizeOf154
 v171:=Tryd.zeroValue154
 t173:=Tryd.underlying156
 a173:=Tryd.isAgg156
 z173:=Tryd.sizeOf156
 v173:=Tryd.zeroValue156
 t212:=Tryd.underlying161
 a212:=Tryd.isAgg161
 z212:=Tryd.sizeOf161
 v212:=Tryd.zeroValue161
 t213:=Tryd.underlying163
 a213:=Tryd.isAgg163
 z213:=Tryd.sizeOf163
 t232:=Tryd.underlying167
 a232:=Tryd.isAgg167
 z232:=Tryd.sizeOf167
 v232:=Tryd.zeroValue167
 t233:=Tryd.underlying168
 a233:=Tryd.isAgg168
 z233:=Tryd.sizeOf168
 v233:=Tryd.zeroValue168
 g17:=by kernel_rfl
 g18:=by kernel_rfl
 g19:=by kernel_rfl}
open Go.RowKit Go.Sort Go.Lib in
theorem Tryd.strconv_Itoa_small(i:Nat)(hi:i<100)(w:World) :
 Calls Tryd.prog 36 #[.int .i64 i] w fun e w'=>e= .returned (.string ⟨(Lib.decDigits i).toArray⟩)∧w'=w:=Any.strconv_Itoa_small Tryd.lays171 i hi w
end Go.Proofs
