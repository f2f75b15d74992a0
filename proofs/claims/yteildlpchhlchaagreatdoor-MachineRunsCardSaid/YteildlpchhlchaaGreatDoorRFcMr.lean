import Derived.Test.YteildlpchhlchaaGreatDoorRows
import Derived.Test.YteildlpchhlchaaGreatDoorChecked
import Derived.JoinedOf
set_option linter.all false
set_option maxHeartbeats 16000000
set_option maxRecDepth 1000000
namespace Go.Proofs.YteildlpchhlchaaGreatDoor
open Go.Proofs.Tryz Tryz List
open Go.ChangeShapes Go.WideShapes
theorem Sv:(Rows.machineRunsRow.inPlace==pinned.checked.prog.inPlace 7)=true:=by kernel_rfl
theorem Su:(Rows.machineRunsRow.unfollowed==pinned.checked.prog.unfollowed 7)=true:=by kernel_rfl
theorem Sr:(Rows.machineRunsRow.recurses==pinned.checked.prog.recurses 7)=true:=by kernel_rfl
theorem Sq:(Rows.machineRunsRow.named==pinned.checked.prog.varsNamed 7)=true:=by kernel_rfl
theorem KU:joinedFacts pinned.checked.prog 7 f7 Rows.machineRunsSpec Rows.machineRunsRow=true:=by
 unfold joinedFacts
 repeat' (with_reducible refine Bool.and_eq_true_iff.2 ⟨?_, ?_⟩)
 all_goals first|(with_reducible exact Sv)|(with_reducible exact Su)|(with_reducible exact Sr)|(with_reducible exact Sq)|kernel_rfl
end Go.Proofs.YteildlpchhlchaaGreatDoor
