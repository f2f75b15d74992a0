import Derived.Test.YtfoefpoaomepbaaGreatDoorRows
import Derived.Test.YtfoefpoaomepbaaGreatDoorChecked
import Derived.JoinedOf
set_option linter.all false
set_option maxHeartbeats 16000000
set_option maxRecDepth 1000000
namespace Go.Proofs.YtfoefpoaomepbaaGreatDoor
open Go.ChangeShapes Go.WideShapes
theorem ct_f1:(Rows.compileTypedRow.inPlace==Tryz.pinned.checked.prog.inPlace 6)=true:=by kernel_rfl
theorem ct_f2:(Rows.compileTypedRow.unfollowed==Tryz.pinned.checked.prog.unfollowed 6)=true:=by kernel_rfl
theorem ct_f3:(Rows.compileTypedRow.recurses==Tryz.pinned.checked.prog.recurses 6)=true:=by kernel_rfl
theorem ct_f4:(Rows.compileTypedRow.named==Tryz.pinned.checked.prog.varsNamed 6)=true:=by kernel_rfl
theorem ct_facts:joinedFacts Tryz.pinned.checked.prog 6 Tryz.f6 Rows.compileTypedSpec Rows.compileTypedRow=true:=by
 unfold joinedFacts
 repeat' (with_reducible refine Bool.and_eq_true_iff.2 ⟨?_, ?_⟩)
 all_goals first|(with_reducible exact ct_f1)|(with_reducible exact ct_f2)|(with_reducible exact ct_f3)|(with_reducible exact ct_f4)|kernel_rfl
end Go.Proofs.YtfoefpoaomepbaaGreatDoor
