import Derived.Test.YtfoefpoaomepbaaGreatDoorCards
import Derived.Test.YtfoefpoaomepbaaGreatDoorTie
import Derived.Test.YtfoefpoaomepbaaGreatDoorChecked
import Derived.SevenTiedAt
set_option linter.all false
set_option maxHeartbeats 16000000
set_option maxRecDepth 1000000
namespace Go.Proofs.YtfoefpoaomepbaaGreatDoor
open Go.ChangeShapes Go.WideShapes
theorem ck_stand:(Tryz.f4.params.toList.all fun t=>!Tryz.prog.wantsStandIn t)=true:=by kernel_rfl
theorem ck_t1:OpenClaim.wfByText (OpenSpec.ofChange Rows.compileKeepsSpec) Rows.compileKeepsRow=true:=by kernel_rfl
theorem ck_t2:Tryz.pinned.checked.prog.mainIs=some (Rows.compileKeepsCard.stood.harness.1,Rows.compileKeepsCard.stood.harness.2.toList):=by kernel_rfl
theorem ck_t3:Tryz.pinned.checked.prog.funcNamed Rows.compileKeepsRow.func=some 4:=by kernel_rfl
theorem ck_t4:false=Tryz.pinned.checked.prog.looks []:=by kernel_rfl
theorem ck_t5:false=Rows.compileKeepsRow.goesBy Tryz.pinned.checked.prog:=by kernel_rfl
theorem ck_t6:Tryz.pinned.checked.prog.funcs[(4:FuncId)]? =some Tryz.f4:=Tryz.func4
end Go.Proofs.YtfoefpoaomepbaaGreatDoor
