import Derived.Test.YtblkcgceefjmjaaGreatDoorRows
import Derived.Test.YtblkcgceefjmjaaGreatDoorChecked
import Derived.JoinedOf
set_option linter.all false
set_option maxHeartbeats 16000000
set_option maxRecDepth 1000000
namespace Go.Proofs.YtblkcgceefjmjaaGreatDoor
open Go.ChangeShapes Go.WideShapes
theorem ms_f1:(Rows.machineSafeRow.inPlace==Tryz.pinned.checked.prog.inPlace 10)=true:=by kernel_rfl
theorem ms_f2:(Rows.machineSafeRow.unfollowed==Tryz.pinned.checked.prog.unfollowed 10)=true:=by kernel_rfl
theorem ms_f3:(Rows.machineSafeRow.recurses==Tryz.pinned.checked.prog.recurses 10)=true:=by kernel_rfl
theorem ms_f4:(Rows.machineSafeRow.named==Tryz.pinned.checked.prog.varsNamed 10)=true:=by kernel_rfl
theorem ms_facts:joinedFacts Tryz.pinned.checked.prog 10 Tryz.f10 Rows.machineSafeSpec Rows.machineSafeRow=true:=by
 unfold joinedFacts
 repeat' (with_reducible refine Bool.and_eq_true_iff.2 ⟨?_, ?_⟩)
 all_goals first|(with_reducible exact ms_f1)|(with_reducible exact ms_f2)|(with_reducible exact ms_f3)|(with_reducible exact ms_f4)|kernel_rfl
end Go.Proofs.YtblkcgceefjmjaaGreatDoor
