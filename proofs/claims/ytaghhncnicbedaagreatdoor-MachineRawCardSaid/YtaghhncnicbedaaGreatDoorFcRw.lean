/- MachineRaw: the closed facts of its row. No condition. -/
import Derived.Test.YtaghhncnicbedaaGreatDoorRows
import Derived.Test.YtaghhncnicbedaaGreatDoorChecked
import Derived.JoinedOf
set_option linter.all false
namespace Go.Proofs.YtaghhncnicbedaaGreatDoor
open Go.ChangeShapes Go.WideShapes
theorem rw_f1 : (Rows.machineRawRow.inPlace == Tryz.pinned.checked.prog.inPlace 5) = true := by kernel_rfl
theorem rw_f2 : (Rows.machineRawRow.unfollowed == Tryz.pinned.checked.prog.unfollowed 5) = true := by kernel_rfl
theorem rw_f3 : (Rows.machineRawRow.recurses == Tryz.pinned.checked.prog.recurses 5) = true := by kernel_rfl
theorem rw_f4 : (Rows.machineRawRow.named == Tryz.pinned.checked.prog.varsNamed 5) = true := by kernel_rfl
set_option maxRecDepth 1000000 in
set_option maxHeartbeats 4000000 in
theorem rw_facts : joinedFacts Tryz.pinned.checked.prog 5 Tryz.f5 Rows.machineRawSpec Rows.machineRawRow = true := by
  unfold joinedFacts
  repeat' (with_reducible refine Bool.and_eq_true_iff.2 ⟨?_, ?_⟩)
  all_goals first | (with_reducible exact rw_f1) | (with_reducible exact rw_f2) | (with_reducible exact rw_f3) | (with_reducible exact rw_f4) | kernel_rfl
end Go.Proofs.YtaghhncnicbedaaGreatDoor
