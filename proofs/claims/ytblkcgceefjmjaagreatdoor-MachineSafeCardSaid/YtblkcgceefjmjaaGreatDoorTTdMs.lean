import Derived.Test.YtblkcgceefjmjaaGreatDoorCards
import Derived.Test.YtblkcgceefjmjaaGreatDoorTie
import Derived.Test.YtblkcgceefjmjaaGreatDoorChecked
import Derived.SevenTiedAt
set_option linter.all false
set_option maxHeartbeats 16000000
set_option maxRecDepth 1000000
namespace Go.Proofs.YtblkcgceefjmjaaGreatDoor
open Go.ChangeShapes Go.WideShapes
theorem ms_stand:(Tryz.f10.params.toList.all fun t=>!Tryz.prog.wantsStandIn t)=true:=by kernel_rfl
theorem ms_t1:OpenClaim.wfByText (OpenSpec.ofChange Rows.machineSafeSpec) Rows.machineSafeRow=true:=by kernel_rfl
theorem ms_t2:Tryz.pinned.checked.prog.mainIs=some (Rows.machineSafeCard.stood.harness.1,Rows.machineSafeCard.stood.harness.2.toList):=by kernel_rfl
theorem ms_t3:Tryz.pinned.checked.prog.funcNamed Rows.machineSafeRow.func=some 10:=by kernel_rfl
theorem ms_t4:false=Tryz.pinned.checked.prog.looks []:=by kernel_rfl
theorem ms_t5:false=Rows.machineSafeRow.goesBy Tryz.pinned.checked.prog:=by kernel_rfl
theorem ms_t6:Tryz.pinned.checked.prog.funcs[(10:FuncId)]? =some Tryz.f10:=Tryz.func10
end Go.Proofs.YtblkcgceefjmjaaGreatDoor
