import Derived.Test.YteildlpchhlchaaGreatDoorCards
import Derived.Test.YteildlpchhlchaaGreatDoorTie
import Derived.Test.YteildlpchhlchaaGreatDoorChecked
import Derived.SevenTiedAt
set_option linter.all false
set_option maxHeartbeats 16000000
set_option maxRecDepth 1000000
namespace Go.Proofs.YteildlpchhlchaaGreatDoor
open Go.Proofs.Tryz Tryz List
open Go.ChangeShapes Go.WideShapes
theorem KT:(f7.params.toList.all fun t=>!prog.wantsStandIn t)=true:=by kernel_rfl
theorem Sn:OpenClaim.wfByText (OpenSpec.ofChange Rows.machineRunsSpec) Rows.machineRunsRow=true:=by kernel_rfl
theorem Sm:pinned.checked.prog.mainIs=some (Rows.machineRunsCard.stood.harness.1,Rows.machineRunsCard.stood.harness.2.toList):=by kernel_rfl
theorem Sl:pinned.checked.prog.funcNamed Rows.machineRunsRow.func=some 7:=by kernel_rfl
theorem Sk:false=pinned.checked.prog.looks []:=by kernel_rfl
theorem Sj:false=Rows.machineRunsRow.goesBy pinned.checked.prog:=by kernel_rfl
theorem Si:pinned.checked.prog.funcs[(7:FuncId)]? =some f7:=func7
end Go.Proofs.YteildlpchhlchaaGreatDoor
