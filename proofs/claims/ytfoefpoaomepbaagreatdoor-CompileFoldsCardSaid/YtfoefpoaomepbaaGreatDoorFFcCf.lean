import Derived.Test.YtfoefpoaomepbaaGreatDoorRows
import Derived.Test.YtfoefpoaomepbaaGreatDoorChecked
import Derived.JoinedOf
set_option linter.all false
set_option maxHeartbeats 16000000
set_option maxRecDepth 1000000
namespace Go.Proofs.YtfoefpoaomepbaaGreatDoor
open Go.ChangeShapes Go.WideShapes
theorem cf_f1:(Rows.compileFoldsRow.inPlace==Tryz.pinned.checked.prog.inPlace 3)=true:=by kernel_rfl
theorem cf_f2:(Rows.compileFoldsRow.unfollowed==Tryz.pinned.checked.prog.unfollowed 3)=true:=by kernel_rfl
theorem cf_f3:(Rows.compileFoldsRow.recurses==Tryz.pinned.checked.prog.recurses 3)=true:=by kernel_rfl
theorem cf_f4:(Rows.compileFoldsRow.named==Tryz.pinned.checked.prog.varsNamed 3)=true:=by kernel_rfl
theorem cf_facts:joinedFacts Tryz.pinned.checked.prog 3 Tryz.f3 Rows.compileFoldsSpec Rows.compileFoldsRow=true:=by
 unfold joinedFacts
 repeat' (with_reducible refine Bool.and_eq_true_iff.2 ⟨?_, ?_⟩)
 all_goals first|(with_reducible exact cf_f1)|(with_reducible exact cf_f2)|(with_reducible exact cf_f3)|(with_reducible exact cf_f4)|kernel_rfl
end Go.Proofs.YtfoefpoaomepbaaGreatDoor
