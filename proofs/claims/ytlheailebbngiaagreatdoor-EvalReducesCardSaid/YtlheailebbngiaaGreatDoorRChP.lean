import Derived.Test.YtlheailebbngiaaGreatDoorRSrt
import Derived.Test.YtlheailebbngiaaGreatDoorChecked
set_option linter.all false
set_option maxHeartbeats 16000000
set_option maxRecDepth 1000000
namespace Go.Proofs.YtlheailebbngiaaGreatDoor
open Go.Proofs.Tryz Tryz List
section
variable {ls : List (ByteArray × Ex)} {k : Nat} {E e : Ex} {v : Vw}
end
theorem Nq(V:cO)(b:Int)(v:Vw)(h:(lN V b v).2=0):0<=(lN V b v).1.1/\(lN V b v).1.1<=(lN V b v).1.2:=by
 revert h;unfold lN
 split
 ·intro h;cases h
 split
 ·intro h;rename_i h1;exact absurd h h1
 split
 ·intro h;cases h
 ·unfold Ay
  split
  ·intro h;rename_i h1;exact absurd h h1
  split
  ·intro _;exact⟨by decide,by decide⟩
  split
  ·intro _;exact⟨by decide,by decide⟩
  ·intro _;dsimp only;omega
open Go.ChangeShapes Go.WideShapes
theorem Rc:(Rows.evalReducesRow.inPlace==pinned.checked.prog.inPlace 11)=true:=by kernel_rfl
theorem Rb:(Rows.evalReducesRow.unfollowed==pinned.checked.prog.unfollowed 11)=true:=by kernel_rfl
theorem Ra:(Rows.evalReducesRow.recurses==pinned.checked.prog.recurses 11)=true:=by kernel_rfl
theorem Q9:(Rows.evalReducesRow.named==pinned.checked.prog.varsNamed 11)=true:=by kernel_rfl
theorem JZ:joinedFacts pinned.checked.prog 11 f11 Rows.evalReducesSpec Rows.evalReducesRow=true:=by
 unfold joinedFacts
 repeat' (with_reducible refine Bool.and_eq_true_iff.2 ⟨?_, ?_⟩)
 all_goals first|(with_reducible exact Rc)|(with_reducible exact Rb)|(with_reducible exact Ra)|(with_reducible exact Q9)|kernel_rfl
end Go.Proofs.YtlheailebbngiaaGreatDoor
