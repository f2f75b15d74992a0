import Derived.Test.YtcfpoofhokbhlaaGreatDoorRows
import Derived.Test.YtcfpoofhokbhlaaGreatDoorChecked
import Derived.JoinedOf
set_option linter.all false
set_option maxHeartbeats 16000000
set_option maxRecDepth 1000000
namespace Go.Proofs.YtcfpoofhokbhlaaGreatDoor
open Go.Proofs.Tryz Tryz List
open Go.ChangeShapes Go.WideShapes
theorem Si:(Rows.statuteVerifiesRow.inPlace==pinned.checked.prog.inPlace 3)=true:=by kernel_rfl
theorem Sg:(Rows.statuteVerifiesRow.unfollowed==pinned.checked.prog.unfollowed 3)=true:=by kernel_rfl
theorem Sd:(Rows.statuteVerifiesRow.recurses==pinned.checked.prog.recurses 3)=true:=by kernel_rfl
theorem Sc:(Rows.statuteVerifiesRow.named==pinned.checked.prog.varsNamed 3)=true:=by kernel_rfl
theorem KG:joinedFacts pinned.checked.prog 3 f3 Rows.statuteVerifiesSpec Rows.statuteVerifiesRow=true:=by
 unfold joinedFacts
 repeat' (with_reducible refine Bool.and_eq_true_iff.2 ⟨?_, ?_⟩)
 all_goals first|(with_reducible exact Si)|(with_reducible exact Sg)|(with_reducible exact Sd)|(with_reducible exact Sc)|kernel_rfl
end Go.Proofs.YtcfpoofhokbhlaaGreatDoor
