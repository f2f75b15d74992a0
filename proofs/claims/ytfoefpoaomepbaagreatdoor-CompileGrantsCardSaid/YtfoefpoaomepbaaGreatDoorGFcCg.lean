import Derived.Test.YtfoefpoaomepbaaGreatDoorRows
import Derived.Test.YtfoefpoaomepbaaGreatDoorChecked
import Derived.JoinedOf
set_option linter.all false
set_option maxHeartbeats 16000000
set_option maxRecDepth 1000000
namespace Go.Proofs.YtfoefpoaomepbaaGreatDoor
open Go.Proofs.Tryz Tryz List
open Go.ChangeShapes Go.WideShapes
theorem TZ:(Rows.compileGrantsRow.inPlace==pinned.checked.prog.inPlace 7)=true:=by kernel_rfl
theorem TY:(Rows.compileGrantsRow.unfollowed==pinned.checked.prog.unfollowed 7)=true:=by kernel_rfl
theorem TW:(Rows.compileGrantsRow.recurses==pinned.checked.prog.recurses 7)=true:=by kernel_rfl
theorem TV:(Rows.compileGrantsRow.named==pinned.checked.prog.varsNamed 7)=true:=by kernel_rfl
theorem M6:joinedFacts pinned.checked.prog 7 f7 Rows.compileGrantsSpec Rows.compileGrantsRow=true:=by
 unfold joinedFacts
 repeat' (with_reducible refine Bool.and_eq_true_iff.2 ⟨?_, ?_⟩)
 all_goals first|(with_reducible exact TZ)|(with_reducible exact TY)|(with_reducible exact TW)|(with_reducible exact TV)|kernel_rfl
end Go.Proofs.YtfoefpoaomepbaaGreatDoor
