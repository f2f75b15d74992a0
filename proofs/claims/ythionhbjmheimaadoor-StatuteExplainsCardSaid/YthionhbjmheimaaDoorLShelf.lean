import Derived.Shelf.Small.Bits
import Derived.Shelf.Small.Wraps
import Derived.Shelf.Bits.Mul64
import Derived.Test.YthionhbjmheimaaDoorProg
set_option linter.all false
set_option maxHeartbeats 16000000
set_option maxRecDepth 1000000
namespace Go.Proofs
open Go.Shelf
def Tryd.lays134_ren:Go.Shelf.Ren:=⟨fun|134=>62|129=>76|n=>n,fun|53=>100|3=>3|4=>4|46=>132|5=>5|9=>9|n=>n,fun|n=>n⟩
theorem Tryd.lays134:Go.Proofs.Lays.n134 Tryd.prog Tryd.lays134_ren:={
 mixed:=by kernel_rfl
 f129:=Tryd.func76.trans (congrArg some (by kernel_rfl))
 f134:=Tryd.func62.trans (congrArg some (by kernel_rfl))
 t3:=Tryd.underlying3
 a3:=Tryd.isAgg3
 z3:=Tryd.sizeOf3
 v3:=Tryd.zeroValue3
 t4:=Tryd.underlying4
 a4:=Tryd.isAgg4
 z4:=Tryd.sizeOf4
 v4:=Tryd.zeroValue4
 t5:=Tryd.underlying5
 a5:=Tryd.isAgg5
 z5:=Tryd.sizeOf5
 v5:=Tryd.zeroValue5
 t9:=Tryd.underlying9
 a9:=Tryd.isAgg9
 z9:=Tryd.sizeOf9
 v9:=Tryd.zeroValue9
 t46:=Tryd.underlying132
 a46:=Tryd.isAgg132
 z46:=Tryd.sizeOf132
 v46:=Tryd.zeroValue132
 t53:=Tryd.underlying100
 a53:=Tryd.isAgg100
 z53:=Tryd.sizeOf100
 v53:=Tryd.zeroValue100}
theorem Tryd.bits_LeadingZeros64(x:Int)(w:World)(h0:0≤x)(h1:x≤18446744073709551615) :
 Calls Tryd.prog 62 #[.int .u64 x] w fun e w'=>e= .returned (.int .i64 (64-(Lib.bitLen x.toNat:Int)))∧w'=w:=Any.bits_LeadingZeros64 Tryd.lays134 x w h0 h1
def Tryd.lays264_ren:Go.Shelf.Ren:=⟨fun|264=>41|n=>n,fun|53=>100|46=>132|n=>n,fun|n=>n⟩
theorem Tryd.lays264:Go.Proofs.Lays.n264 Tryd.prog Tryd.lays264_ren:={
 mixed:=by kernel_rfl
 f264:=Tryd.func41.trans (congrArg some (by kernel_rfl))
 t46:=Tryd.underlying132
 a46:=Tryd.isAgg132
 z46:=Tryd.sizeOf132
 v46:=Tryd.zeroValue132
 t53:=Tryd.underlying100
 a53:=Tryd.isAgg100
 z53:=Tryd.sizeOf100
 v53:=Tryd.zeroValue100}
open Go.RowKit Go.Lib in
theorem Tryd.bits_Mul64(x y:Nat)(hx:x<18446744073709551616)(hy:y<18446744073709551616)(w:World) :
 Calls Tryd.prog 41 #[.int .u64 x,.int .u64 y] w fun e w'=>e= .returned (.tuple #[.int .u64 ((x*y / 18446744073709551616:Nat):Int),.int .u64 ((x*y % 18446744073709551616:Nat):Int)])∧w'=w:=Any.bits_Mul64 Tryd.lays264 x y hx hy w
end Go.Proofs
