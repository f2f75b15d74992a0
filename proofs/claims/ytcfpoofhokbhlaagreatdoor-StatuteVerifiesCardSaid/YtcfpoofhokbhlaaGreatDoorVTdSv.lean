import Derived.Test.YtcfpoofhokbhlaaGreatDoorCards
import Derived.Test.YtcfpoofhokbhlaaGreatDoorTie
import Derived.Test.YtcfpoofhokbhlaaGreatDoorChecked
import Derived.SevenTiedAt
set_option linter.all false
set_option maxHeartbeats 16000000
set_option maxRecDepth 1000000
namespace Go.Proofs.YtcfpoofhokbhlaaGreatDoor
open Go.Proofs.Tryz Tryz List
open Go.ChangeShapes Go.WideShapes
theorem KF:(f3.params.toList.all fun t=>!prog.wantsStandIn t)=true:=by kernel_rfl
theorem Sb:OpenClaim.wfByText (OpenSpec.ofChange Rows.statuteVerifiesSpec) Rows.statuteVerifiesRow=true:=by kernel_rfl
theorem Sa:pinned.checked.prog.mainIs=some (Rows.statuteVerifiesCard.stood.harness.1,Rows.statuteVerifiesCard.stood.harness.2.toList):=by kernel_rfl
theorem R9:pinned.checked.prog.funcNamed Rows.statuteVerifiesRow.func=some 3:=by kernel_rfl
theorem R8:false=pinned.checked.prog.looks []:=by kernel_rfl
theorem R7:false=Rows.statuteVerifiesRow.goesBy pinned.checked.prog:=by kernel_rfl
theorem R6:pinned.checked.prog.funcs[(3:FuncId)]? =some f3:=func3
end Go.Proofs.YtcfpoofhokbhlaaGreatDoor
