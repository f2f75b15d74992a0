import Derived.Test.YtblkcgceefjmjaaGreatDoorRows
import Derived.Test.YtblkcgceefjmjaaGreatDoorChecked
import Derived.JoinedOf
set_option linter.all false
set_option maxHeartbeats 16000000
set_option maxRecDepth 1000000
namespace Go.Proofs.YtblkcgceefjmjaaGreatDoor
open Go.ChangeShapes Go.WideShapes
theorem sp_f1:(Rows.machineSplicedRow.inPlace==Tryz.pinned.checked.prog.inPlace 11)=true:=by kernel_rfl
theorem sp_f2:(Rows.machineSplicedRow.unfollowed==Tryz.pinned.checked.prog.unfollowed 11)=true:=by kernel_rfl
theorem sp_f3:(Rows.machineSplicedRow.recurses==Tryz.pinned.checked.prog.recurses 11)=true:=by kernel_rfl
theorem sp_f4:(Rows.machineSplicedRow.named==Tryz.pinned.checked.prog.varsNamed 11)=true:=by kernel_rfl
theorem sp_facts:joinedFacts Tryz.pinned.checked.prog 11 Tryz.f11 Rows.machineSplicedSpec Rows.machineSplicedRow=true:=by
 unfold joinedFacts
 repeat' (with_reducible refine Bool.and_eq_true_iff.2 ⟨?_, ?_⟩)
 all_goals first|(with_reducible exact sp_f1)|(with_reducible exact sp_f2)|(with_reducible exact sp_f3)|(with_reducible exact sp_f4)|kernel_rfl
end Go.Proofs.YtblkcgceefjmjaaGreatDoor
