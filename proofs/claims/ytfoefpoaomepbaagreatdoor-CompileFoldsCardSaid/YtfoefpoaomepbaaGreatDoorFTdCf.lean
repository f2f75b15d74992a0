import Derived.Test.YtfoefpoaomepbaaGreatDoorCards
import Derived.Test.YtfoefpoaomepbaaGreatDoorTie
import Derived.Test.YtfoefpoaomepbaaGreatDoorChecked
import Derived.SevenTiedAt
set_option linter.all false
set_option maxHeartbeats 16000000
set_option maxRecDepth 1000000
namespace Go.Proofs.YtfoefpoaomepbaaGreatDoor
open Go.ChangeShapes Go.WideShapes
theorem cf_stand:(Tryz.f3.params.toList.all fun t=>!Tryz.prog.wantsStandIn t)=true:=by kernel_rfl
theorem cf_t1:OpenClaim.wfByText (OpenSpec.ofChange Rows.compileFoldsSpec) Rows.compileFoldsRow=true:=by kernel_rfl
theorem cf_t2:Tryz.pinned.checked.prog.mainIs=some (Rows.compileFoldsCard.stood.harness.1,Rows.compileFoldsCard.stood.harness.2.toList):=by kernel_rfl
theorem cf_t3:Tryz.pinned.checked.prog.funcNamed Rows.compileFoldsRow.func=some 3:=by kernel_rfl
theorem cf_t4:false=Tryz.pinned.checked.prog.looks []:=by kernel_rfl
theorem cf_t5:false=Rows.compileFoldsRow.goesBy Tryz.pinned.checked.prog:=by kernel_rfl
theorem cf_t6:Tryz.pinned.checked.prog.funcs[(3:FuncId)]? =some Tryz.f3:=Tryz.func3
end Go.Proofs.YtfoefpoaomepbaaGreatDoor
