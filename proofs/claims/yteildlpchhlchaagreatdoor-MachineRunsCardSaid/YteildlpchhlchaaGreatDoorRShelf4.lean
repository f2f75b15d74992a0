import Derived.Shelf.Small.Bits
import Derived.Shelf.Small.Wraps
import Derived.Shelf.Strconv.Itoa0
import Derived.Shelf.Strconv.Itoa1
import Derived.Shelf.LaysM
import Derived.Shelf.Strconv.Itoa2
import Derived.Shelf.Strconv.Itoa3
import Derived.Shelf.Strings.Search1
import Derived.Shelf.Strings.Search2
import Derived.Shelf.Strings.Cut
import Derived.Shelf.Strings.Shaped
import Derived.Shelf.Sort.Plain
import Derived.Shelf.Bits.Mul64
import Derived.Shelf.Slices.Turned
import Derived.Shelf.Slices.Reverse
import Derived.Shelf.Slices.Equal
import Derived.Ground.Names2Prog
import Derived.Shelf.Slices.Clone
import Derived.Shelf.Slices.SearchI
import Derived.Shelf.Slices.Cells
import Derived.Shelf.Slices.In.SortNone
import Derived.Shelf.Slices.Empties2
import Derived.Test.YteildlpchhlchaaGreatDoorProg
set_option linter.all false
set_option maxHeartbeats 16000000
set_option maxRecDepth 1000000
namespace Go.Proofs
open Go.Shelf
def Tryz.lays189_ren:Go.Shelf.Ren:=⟨fun|189=>179|125=>215|257=>214|128=>237|129=>238|294=>228|295=>229|296=>230|297=>231|298=>232|299=>233|216=>234|300=>235|301=>236|328=>243|329=>244|330=>245|331=>246|332=>247|215=>248|343=>256|n=>n,fun|28=>22|3=>3|46=>252|0=>0|51=>273|53=>155|4=>4|183=>266|182=>265|131=>106|5=>5|9=>9|218=>276|222=>280|228=>287|229=>288|n=>n,fun|n=>n⟩
theorem Tryz.lays189:Go.Proofs.Lays.n189 Tryz.prog Tryz.lays189_ren:={
 mixed:=by kernel_rfl
 f125:=Tryz.func215.trans (congrArg some (by kernel_rfl))
 f128:=Tryz.func237.trans (congrArg some (by kernel_rfl))
 f129:=Tryz.func238.trans (congrArg some (by kernel_rfl))
 f189:=Tryz.func179.trans (congrArg some (by kernel_rfl))
 f215:=Tryz.func248.trans (congrArg some (by kernel_rfl))
 f216:=Tryz.func234.trans (congrArg some (by kernel_rfl))
 f257:=Tryz.func214.trans (congrArg some (by kernel_rfl))
 f294:=Tryz.func228.trans (congrArg some (by kernel_rfl))
 f295:=Tryz.func229.trans (congrArg some (by kernel_rfl))
 f296:=Tryz.func230.trans (congrArg some (by kernel_rfl))
 f297:=Tryz.func231.trans (congrArg some (by kernel_rfl))
 f298:=Tryz.func232.trans (congrArg some (by kernel_rfl))
 f299:=Tryz.func233.trans (congrArg some (by kernel_rfl))
 f300:=Tryz.func235.trans (congrArg some (by kernel_rfl))
 f301:=Tryz.func236.trans (congrArg some (by kernel_rfl))
 f328:=Tryz.func243.trans (congrArg some (by kernel_rfl))
 f329:=Tryz.func244.trans (congrArg some (by kernel_rfl))
 f330:=Tryz.func245.trans (congrArg some (by kernel_rfl))
 f331:=Tryz.func246.trans (congrArg some (by kernel_rfl))
 f332:=Tryz.func247.trans (congrArg some (by kernel_rfl))
 f343:=Tryz.func256.trans (congrArg some (by kernel_rfl))
 t0:=Tryz.underlying0
 a0:=Tryz.isAgg0
 z0:=Tryz.sizeOf0
 v0:=Tryz.zeroValue0
 t3:=Tryz.underlying3
 a3:=Tryz.isAgg3
 z3:=Tryz.sizeOf3
 v3:=Tryz.zeroValue3
 t4:=Tryz.underlying4
 a4:=Tryz.isAgg4
 z4:=Tryz.sizeOf4
 v4:=Tryz.zeroValue4
 t5:=Tryz.underlying5
 a5:=Tryz.isAgg5
 z5:=Tryz.sizeOf5
 v5:=Tryz.zeroValue5
 t9:=Tryz.underlying9
 a9:=Tryz.isAgg9
 z9:=Tryz.sizeOf9
 v9:=Tryz.zeroValue9
 t28:=Tryz.underlying22
 a28:=Tryz.isAgg22
 z28:=Tryz.sizeOf22
 v28:=Tryz.zeroValue22
 t46:=Tryz.underlying252
 a46:=Tryz.isAgg252
 z46:=Tryz.sizeOf252
 v46:=Tryz.zeroValue252
 t51:=Tryz.underlying273
 a51:=Tryz.isAgg273
 z51:=Tryz.sizeOf273
 v51:=Tryz.zeroValue273
 t53:=Tryz.underlying155
 a53:=Tryz.isAgg155
 z53:=Tryz.sizeOf155
 v53:=Tryz.zeroValue155
 t131:=Tryz.underlying106
 a131:=Tryz.isAgg106
 z131:=Tryz.sizeOf106
 v131:=Tryz.zeroValue106
 t182:=Tryz.underlying265
 a182:=Tryz.isAgg265
 z182:=Tryz.sizeOf265
 v182:=Tryz.zeroValue265
 t183:=Tryz.underlying266
 a183:=Tryz.isAgg266
 z183:=Tryz.sizeOf266
 v183:=Tryz.zeroValue266
 t218:=Tryz.underlying276
 a218:=Tryz.isAgg276
 z218:=Tryz.sizeOf276
 v218:=Tryz.zeroValue276
 t222:=Tryz.underlying280
 a222:=Tryz.isAgg280
 z222:=Tryz.sizeOf280
 v222:=Tryz.zeroValue280
 t228:=Tryz.underlying287
 a228:=Tryz.isAgg287
 z228:=Tryz.sizeOf287
 v228:=Tryz.zeroValue287
 t229:=Tryz.underlying288
 a229:=Tryz.isAgg288
 z229:=Tryz.sizeOf288
 v229:=Tryz.zeroValue288}
open Go.Sort Go.RowKit in
theorem Tryz.slices_Sort_int(blk off cap:Nat)(zs:List Int)(w:World)(hH:Holds (Value.int .i64) w blk off zs.toArray)(hblk:blk<w.heap.size)(hsz:zs.length<4611686018427387904) :
 Calls Tryz.prog 179 #[.slice (some ⟨blk,off,none⟩) zs.length cap] w fun e w'=>
  e= .returned (.tuple #[])∧∃n os,w'=grow (putRow (Value.int .i64) (Sort.ahead w n) blk off (zs.mergeSort fun x y=>decide (x≤y)).toArray) os:=Any.slices_Sort_int Tryz.lays189 blk off cap zs w hH hblk hsz
open Go.RowKit Go.Sort in
theorem Tryz.slices_Sort_int_none(p:Option Addr)(cap:Nat)(w:World) :
 Calls Tryz.prog 179 #[.slice p 0 cap] w fun e w'=>e= .returned (.tuple #[])∧w'=w:=Any.slices_Sort_int_none Tryz.lays189 p cap w
end Go.Proofs
