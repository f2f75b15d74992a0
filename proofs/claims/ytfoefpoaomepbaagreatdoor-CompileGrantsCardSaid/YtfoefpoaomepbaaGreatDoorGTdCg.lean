import Derived.Test.YtfoefpoaomepbaaGreatDoorCards
import Derived.Test.YtfoefpoaomepbaaGreatDoorTie
import Derived.Test.YtfoefpoaomepbaaGreatDoorChecked
import Derived.SevenTiedAt
set_option linter.all false
set_option maxHeartbeats 16000000
set_option maxRecDepth 1000000
namespace Go.Proofs.YtfoefpoaomepbaaGreatDoor
open Go.Proofs.Tryz Tryz List
open Go.ChangeShapes Go.WideShapes
theorem M4:(f7.params.toList.all fun t=>!prog.wantsStandIn t)=true:=by kernel_rfl
theorem TU:OpenClaim.wfByText (OpenSpec.ofChange Rows.compileGrantsSpec) Rows.compileGrantsRow=true:=by kernel_rfl
theorem TT:pinned.checked.prog.mainIs=some (Rows.compileGrantsCard.stood.harness.1,Rows.compileGrantsCard.stood.harness.2.toList):=by kernel_rfl
theorem TR:pinned.checked.prog.funcNamed Rows.compileGrantsRow.func=some 7:=by kernel_rfl
theorem TQ:false=pinned.checked.prog.looks []:=by kernel_rfl
theorem TP:false=Rows.compileGrantsRow.goesBy pinned.checked.prog:=by kernel_rfl
theorem TN:pinned.checked.prog.funcs[(7:FuncId)]? =some f7:=func7
end Go.Proofs.YtfoefpoaomepbaaGreatDoor
