/- StatuteExplains: the closed facts of its row. No condition. -/
import Derived.Test.YthionhbjmheimaaDoorRows
import Derived.Test.YthionhbjmheimaaDoorChecked
import Derived.JoinedOf
set_option linter.all false
namespace Go.Proofs.YthionhbjmheimaaDoor
open Go.ChangeShapes Go.WideShapes
theorem xp_f1 : (Rows.statuteExplainsRow.inPlace == Tryd.pinned.checked.prog.inPlace 3) = true := by kernel_rfl
theorem xp_f2 : (Rows.statuteExplainsRow.unfollowed == Tryd.pinned.checked.prog.unfollowed 3) = true := by kernel_rfl
theorem xp_f3 : (Rows.statuteExplainsRow.recurses == Tryd.pinned.checked.prog.recurses 3) = true := by kernel_rfl
theorem xp_f4 : (Rows.statuteExplainsRow.named == Tryd.pinned.checked.prog.varsNamed 3) = true := by kernel_rfl
set_option maxRecDepth 1000000 in
set_option maxHeartbeats 4000000 in
theorem xp_facts : joinedFacts Tryd.pinned.checked.prog 3 Tryd.f3 Rows.statuteExplainsSpec Rows.statuteExplainsRow = true := by
  unfold joinedFacts
  repeat' (with_reducible refine Bool.and_eq_true_iff.2 ⟨?_, ?_⟩)
  all_goals first | (with_reducible exact xp_f1) | (with_reducible exact xp_f2) | (with_reducible exact xp_f3) | (with_reducible exact xp_f4) | kernel_rfl
end Go.Proofs.YthionhbjmheimaaDoor
