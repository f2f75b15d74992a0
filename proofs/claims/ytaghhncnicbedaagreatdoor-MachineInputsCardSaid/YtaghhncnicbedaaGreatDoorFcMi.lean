/- MachineInputs: the closed facts of its row. No condition. -/
import Derived.Test.YtaghhncnicbedaaGreatDoorRows
import Derived.Test.YtaghhncnicbedaaGreatDoorChecked
import Derived.JoinedOf
set_option linter.all false
namespace Go.Proofs.YtaghhncnicbedaaGreatDoor
open Go.ChangeShapes Go.WideShapes
theorem mi_f1 : (Rows.machineInputsRow.inPlace == Tryz.pinned.checked.prog.inPlace 10) = true := by kernel_rfl
theorem mi_f2 : (Rows.machineInputsRow.unfollowed == Tryz.pinned.checked.prog.unfollowed 10) = true := by kernel_rfl
theorem mi_f3 : (Rows.machineInputsRow.recurses == Tryz.pinned.checked.prog.recurses 10) = true := by kernel_rfl
theorem mi_f4 : (Rows.machineInputsRow.named == Tryz.pinned.checked.prog.varsNamed 10) = true := by kernel_rfl
set_option maxRecDepth 1000000 in
set_option maxHeartbeats 4000000 in
theorem mi_facts : joinedFacts Tryz.pinned.checked.prog 10 Tryz.f10 Rows.machineInputsSpec Rows.machineInputsRow = true := by
  unfold joinedFacts
  repeat' (with_reducible refine Bool.and_eq_true_iff.2 ⟨?_, ?_⟩)
  all_goals first | (with_reducible exact mi_f1) | (with_reducible exact mi_f2) | (with_reducible exact mi_f3) | (with_reducible exact mi_f4) | kernel_rfl
end Go.Proofs.YtaghhncnicbedaaGreatDoor
