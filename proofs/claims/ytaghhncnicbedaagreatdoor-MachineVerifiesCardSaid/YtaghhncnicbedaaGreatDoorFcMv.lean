/- MachineVerifies: the closed facts of its row. No condition. -/
import Derived.Test.YtaghhncnicbedaaGreatDoorRows
import Derived.Test.YtaghhncnicbedaaGreatDoorChecked
import Derived.JoinedOf
set_option linter.all false
namespace Go.Proofs.YtaghhncnicbedaaGreatDoor
open Go.ChangeShapes Go.WideShapes
theorem mv_f1 : (Rows.machineVerifiesRow.inPlace == Tryz.pinned.checked.prog.inPlace 4) = true := by kernel_rfl
theorem mv_f2 : (Rows.machineVerifiesRow.unfollowed == Tryz.pinned.checked.prog.unfollowed 4) = true := by kernel_rfl
theorem mv_f3 : (Rows.machineVerifiesRow.recurses == Tryz.pinned.checked.prog.recurses 4) = true := by kernel_rfl
theorem mv_f4 : (Rows.machineVerifiesRow.named == Tryz.pinned.checked.prog.varsNamed 4) = true := by kernel_rfl
set_option maxRecDepth 1000000 in
set_option maxHeartbeats 4000000 in
theorem mv_facts : joinedFacts Tryz.pinned.checked.prog 4 Tryz.f4 Rows.machineVerifiesSpec Rows.machineVerifiesRow = true := by
  unfold joinedFacts
  repeat' (with_reducible refine Bool.and_eq_true_iff.2 ⟨?_, ?_⟩)
  all_goals first | (with_reducible exact mv_f1) | (with_reducible exact mv_f2) | (with_reducible exact mv_f3) | (with_reducible exact mv_f4) | kernel_rfl
end Go.Proofs.YtaghhncnicbedaaGreatDoor
