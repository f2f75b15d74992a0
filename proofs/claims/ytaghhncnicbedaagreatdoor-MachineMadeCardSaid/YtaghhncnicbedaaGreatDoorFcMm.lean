/- MachineMade: the closed facts of its row. No condition. -/
import Derived.Test.YtaghhncnicbedaaGreatDoorRows
import Derived.Test.YtaghhncnicbedaaGreatDoorChecked
import Derived.JoinedOf
set_option linter.all false
namespace Go.Proofs.YtaghhncnicbedaaGreatDoor
open Go.ChangeShapes Go.WideShapes
theorem mm_f1 : (Rows.machineMadeRow.inPlace == Tryz.pinned.checked.prog.inPlace 6) = true := by kernel_rfl
theorem mm_f2 : (Rows.machineMadeRow.unfollowed == Tryz.pinned.checked.prog.unfollowed 6) = true := by kernel_rfl
theorem mm_f3 : (Rows.machineMadeRow.recurses == Tryz.pinned.checked.prog.recurses 6) = true := by kernel_rfl
theorem mm_f4 : (Rows.machineMadeRow.named == Tryz.pinned.checked.prog.varsNamed 6) = true := by kernel_rfl
set_option maxRecDepth 1000000 in
set_option maxHeartbeats 4000000 in
theorem mm_facts : joinedFacts Tryz.pinned.checked.prog 6 Tryz.f6 Rows.machineMadeSpec Rows.machineMadeRow = true := by
  unfold joinedFacts
  repeat' (with_reducible refine Bool.and_eq_true_iff.2 ⟨?_, ?_⟩)
  all_goals first | (with_reducible exact mm_f1) | (with_reducible exact mm_f2) | (with_reducible exact mm_f3) | (with_reducible exact mm_f4) | kernel_rfl
end Go.Proofs.YtaghhncnicbedaaGreatDoor
