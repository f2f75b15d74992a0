import Derived.Shelf.Small.Bits
import Derived.Shelf.Small.Wraps
import Derived.Shelf.Strconv.Itoa0
import Derived.Shelf.Strconv.Itoa1
import Derived.Shelf.LaysM
import Derived.Shelf.Strconv.Itoa2
import Derived.Shelf.Strconv.Itoa3
import Derived.Shelf.Strings.Search1
import Derived.Shelf.Strings.Search2
import Derived.Shelf.Strings.Cut
import Derived.Shelf.Strings.Shaped
import Derived.Shelf.Sort.Plain
import Derived.Shelf.Bits.Mul64
import Derived.Shelf.Slices.Turned
import Derived.Shelf.Slices.Reverse
import Derived.Shelf.Slices.Equal
import Derived.Ground.Names2Prog
import Derived.Shelf.Slices.Clone
import Derived.Shelf.Slices.SearchI
import Derived.Shelf.Slices.Cells
import Derived.Shelf.Slices.In.SortNone
import Derived.Shelf.Slices.Empties2
import Derived.Test.YtaghhncnicbedaaGreatDoorProg
set_option linter.all false
set_option maxHeartbeats 16000000
set_option maxRecDepth 1000000
namespace Go.Proofs
open Go.Shelf
def Tryz.lays189_ren:Go.Shelf.Ren:=⟨fun|189=>145|125=>190|257=>189|128=>216|129=>164|294=>207|295=>208|296=>209|297=>210|298=>211|299=>212|216=>213|300=>214|301=>215|328=>223|329=>224|330=>225|331=>226|332=>227|215=>228|343=>233|n=>n,fun|28=>22|3=>3|46=>200|0=>0|51=>260|53=>138|4=>4|183=>253|182=>252|131=>174|5=>5|9=>9|218=>267|222=>271|228=>274|229=>275|n=>n,fun|n=>n⟩
theorem Tryz.lays189:Go.Proofs.Lays.n189 Tryz.prog Tryz.lays189_ren:={
 mixed:=by kernel_rfl
 f125:=Tryz.func190.trans (congrArg some (by kernel_rfl))
 f128:=Tryz.func216.trans (congrArg some (by kernel_rfl))
 f129:=Tryz.func164.trans (congrArg some (by kernel_rfl))
 f189:=Tryz.func145.trans (congrArg some (by kernel_rfl))
 f215:=Tryz.func228.trans (congrArg some (by kernel_rfl))
 f216:=Tryz.func213.trans (congrArg some (by kernel_rfl))
 f257:=Tryz.func189.trans (congrArg some (by kernel_rfl))
 f294:=Tryz.func207.trans (congrArg some (by kernel_rfl))
 f295:=Tryz.func208.trans (congrArg some (by kernel_rfl))
 f296:=Tryz.func209.trans (congrArg some (by kernel_rfl))
 f297:=Tryz.func210.trans (congrArg some (by kernel_rfl))
 f298:=Tryz.func211.trans (congrArg some (by kernel_rfl))
 f299:=Tryz.func212.trans (congrArg some (by kernel_rfl))
 f300:=Tryz.func214.trans (congrArg some (by kernel_rfl))
 f301:=Tryz.func215.trans (congrArg some (by kernel_rfl))
 f328:=Tryz.func223.trans (congrArg some (by kernel_rfl))
 f329:=Tryz.func224.trans (congrArg some (by kernel_rfl))
 f330:=Tryz.func225.trans (congrArg some (by kernel_rfl))
 f331:=Tryz.func226.trans (congrArg some (by kernel_rfl))
 f332:=Tryz.func227.trans (congrArg some (by kernel_rfl))
 f343:=Tryz.func233.trans (congrArg some (by kernel_rfl))
 t0:=Tryz.underlying0
 a0:=Tryz.isAgg0
 z0:=Tryz.sizeOf0
 v0:=Tryz.zeroValue0
 t3:=Tryz.underlying3
 a3:=Tryz.isAgg3
 z3:=Tryz.sizeOf3
 v3:=Tryz.zeroValue3
 t4:=Tryz.underlying4
 a4:=Tryz.isAgg4
 z4:=Tryz.sizeOf4
 v4:=Tryz.zeroValue4
 t5:=Tryz.underlying5
 a5:=Tryz.isAgg5
 z5:=Tryz.sizeOf5
 v5:=Tryz.zeroValue5
 t9:=Tryz.underlying9
 a9:=Tryz.isAgg9
 z9:=Tryz.sizeOf9
 v9:=Tryz.zeroValue9
 t28:=Tryz.underlying22
 a28:=Tryz.isAgg22
 z28:=Tryz.sizeOf22
 v28:=Tryz.zeroValue22
 t46:=Tryz.underlying200
 a46:=Tryz.isAgg200
 z46:=Tryz.sizeOf200
 v46:=Tryz.zeroValue200
 t51:=Tryz.underlying260
 a51:=Tryz.isAgg260
 z51:=Tryz.sizeOf260
 v51:=Tryz.zeroValue260
 t53:=Tryz.underlying138
 a53:=Tryz.isAgg138
 z53:=Tryz.sizeOf138
 v53:=Tryz.zeroValue138
 t131:=Tryz.underlying174
 a131:=Tryz.isAgg174
 z131:=Tryz.sizeOf174
 v131:=Tryz.zeroValue174
 t182:=Tryz.underlying252
 a182:=Tryz.isAgg252
 z182:=Tryz.sizeOf252
 v182:=Tryz.zeroValue252
 t183:=Tryz.underlying253
 a183:=Tryz.isAgg253
 z183:=Tryz.sizeOf253
 v183:=Tryz.zeroValue253
 t218:=Tryz.underlying267
 a218:=Tryz.isAgg267
 z218:=Tryz.sizeOf267
 v218:=Tryz.zeroValue267
 t222:=Tryz.underlying271
 a222:=Tryz.isAgg271
 z222:=Tryz.sizeOf271
 v222:=Tryz.zeroValue271
 t228:=Tryz.underlying274
 a228:=Tryz.isAgg274
 z228:=Tryz.sizeOf274
 v228:=Tryz.zeroValue274
 t229:=Tryz.underlying275
 a229:=Tryz.isAgg275
 z229:=Tryz.sizeOf275
 v229:=Tryz.zeroValue275}
open Go.Sort Go.RowKit in
theorem Tryz.slices_Sort_int(blk off cap:Nat)(zs:List Int)(w:World)(hH:Holds (Value.int .i64) w blk off zs.toArray)(hblk:blk<w.heap.size)(hsz:zs.length<4611686018427387904) :
 Calls Tryz.prog 145 #[.slice (some ⟨blk,off,none⟩) zs.length cap] w fun e w'=>
  e= .returned (.tuple #[])∧∃n os,w'=grow (putRow (Value.int .i64) (Sort.ahead w n) blk off (zs.mergeSort fun x y=>decide (x≤y)).toArray) os:=Any.slices_Sort_int Tryz.lays189 blk off cap zs w hH hblk hsz
open Go.RowKit Go.Sort in
theorem Tryz.slices_Sort_int_none(p:Option Addr)(cap:Nat)(w:World) :
 Calls Tryz.prog 145 #[.slice p 0 cap] w fun e w'=>e= .returned (.tuple #[])∧w'=w:=Any.slices_Sort_int_none Tryz.lays189 p cap w
end Go.Proofs
