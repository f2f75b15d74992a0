import Derived.Test.YtfoefpoaomepbaaGreatDoorCards
import Derived.Test.YtfoefpoaomepbaaGreatDoorTie
import Derived.Test.YtfoefpoaomepbaaGreatDoorChecked
import Derived.SevenTiedAt
set_option linter.all false
set_option maxHeartbeats 16000000
set_option maxRecDepth 1000000
namespace Go.Proofs.YtfoefpoaomepbaaGreatDoor
open Go.ChangeShapes Go.WideShapes
theorem ct_stand:(Tryz.f6.params.toList.all fun t=>!Tryz.prog.wantsStandIn t)=true:=by kernel_rfl
theorem ct_t1:OpenClaim.wfByText (OpenSpec.ofChange Rows.compileTypedSpec) Rows.compileTypedRow=true:=by kernel_rfl
theorem ct_t2:Tryz.pinned.checked.prog.mainIs=some (Rows.compileTypedCard.stood.harness.1,Rows.compileTypedCard.stood.harness.2.toList):=by kernel_rfl
theorem ct_t3:Tryz.pinned.checked.prog.funcNamed Rows.compileTypedRow.func=some 6:=by kernel_rfl
theorem ct_t4:false=Tryz.pinned.checked.prog.looks []:=by kernel_rfl
theorem ct_t5:false=Rows.compileTypedRow.goesBy Tryz.pinned.checked.prog:=by kernel_rfl
theorem ct_t6:Tryz.pinned.checked.prog.funcs[(6:FuncId)]? =some Tryz.f6:=Tryz.func6
end Go.Proofs.YtfoefpoaomepbaaGreatDoor
