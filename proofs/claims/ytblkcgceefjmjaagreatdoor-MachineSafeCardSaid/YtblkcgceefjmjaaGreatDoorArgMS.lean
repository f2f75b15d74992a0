/- Rows of rows of integers that came in, and pokes. -/
import Derived.Test.YtblkcgceefjmjaaGreatDoorSMchV1
set_option linter.all false
set_option maxHeartbeats 16000000
set_option maxRecDepth 1000000
namespace Go.Proofs.YtblkcgceefjmjaaGreatDoor
open Go.RowKit Go.ChangeShapes Go.WideShapes Go.Deep
theorem rows_of{H:Type}{enc:TypeId × Value→H}{W:World}{v:Value}{d:DataW H}{p:List MemPlace}{r:Reach}{b0:Nat}(hv:Value.okWide Tryz.prog W r b0 47 v)(h:DataW.Trod enc Tryz.prog W 0 (fun _=>true) true 47 v d p)(hf:fits Tryz.prog 47 d):∃zs,RowsAt W v zs:=by
 obtain⟨fuel,h⟩:=h
 obtain⟨a,len,cap,rfl⟩:=okWide_slice Tryz.underlying47 hv
 exact RowsAt.of_trod (v:=.slice a len cap) Tryz.underlying47 Tryz.underlying22 Tryz.underlying3 c22 c3 b22 b3 (by simpa [Value.cells]using h) hf
end Go.Proofs.YtblkcgceefjmjaaGreatDoor
