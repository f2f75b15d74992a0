import Derived.Test.YtblkcgceefjmjaaGreatDoorCards
import Derived.Test.YtblkcgceefjmjaaGreatDoorTie
import Derived.Test.YtblkcgceefjmjaaGreatDoorChecked
import Derived.SevenTiedAt
set_option linter.all false
set_option maxHeartbeats 16000000
set_option maxRecDepth 1000000
namespace Go.Proofs.YtblkcgceefjmjaaGreatDoor
open Go.ChangeShapes Go.WideShapes
theorem sp_stand:(Tryz.f11.params.toList.all fun t=>!Tryz.prog.wantsStandIn t)=true:=by kernel_rfl
theorem sp_t1:OpenClaim.wfByText (OpenSpec.ofChange Rows.machineSplicedSpec) Rows.machineSplicedRow=true:=by kernel_rfl
theorem sp_t2:Tryz.pinned.checked.prog.mainIs=some (Rows.machineSplicedCard.stood.harness.1,Rows.machineSplicedCard.stood.harness.2.toList):=by kernel_rfl
theorem sp_t3:Tryz.pinned.checked.prog.funcNamed Rows.machineSplicedRow.func=some 11:=by kernel_rfl
theorem sp_t4:false=Tryz.pinned.checked.prog.looks []:=by kernel_rfl
theorem sp_t5:false=Rows.machineSplicedRow.goesBy Tryz.pinned.checked.prog:=by kernel_rfl
theorem sp_t6:Tryz.pinned.checked.prog.funcs[(11:FuncId)]? =some Tryz.f11:=Tryz.func11
end Go.Proofs.YtblkcgceefjmjaaGreatDoor
