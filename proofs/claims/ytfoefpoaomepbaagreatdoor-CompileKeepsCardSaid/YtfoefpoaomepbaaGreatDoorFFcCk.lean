import Derived.Test.YtfoefpoaomepbaaGreatDoorRows
import Derived.Test.YtfoefpoaomepbaaGreatDoorChecked
import Derived.JoinedOf
set_option linter.all false
set_option maxHeartbeats 16000000
set_option maxRecDepth 1000000
namespace Go.Proofs.YtfoefpoaomepbaaGreatDoor
open Go.ChangeShapes Go.WideShapes
theorem ck_f1:(Rows.compileKeepsRow.inPlace==Tryz.pinned.checked.prog.inPlace 4)=true:=by kernel_rfl
theorem ck_f2:(Rows.compileKeepsRow.unfollowed==Tryz.pinned.checked.prog.unfollowed 4)=true:=by kernel_rfl
theorem ck_f3:(Rows.compileKeepsRow.recurses==Tryz.pinned.checked.prog.recurses 4)=true:=by kernel_rfl
theorem ck_f4:(Rows.compileKeepsRow.named==Tryz.pinned.checked.prog.varsNamed 4)=true:=by kernel_rfl
theorem ck_facts:joinedFacts Tryz.pinned.checked.prog 4 Tryz.f4 Rows.compileKeepsSpec Rows.compileKeepsRow=true:=by
 unfold joinedFacts
 repeat' (with_reducible refine Bool.and_eq_true_iff.2 ⟨?_, ?_⟩)
 all_goals first|(with_reducible exact ck_f1)|(with_reducible exact ck_f2)|(with_reducible exact ck_f3)|(with_reducible exact ck_f4)|kernel_rfl
end Go.Proofs.YtfoefpoaomepbaaGreatDoor
