import Derived.Test.YtfoefpoaomepbaaGreatDoorGEvN
set_option linter.all false
set_option maxHeartbeats 16000000
set_option maxRecDepth 1000000
namespace Go.Proofs.YtfoefpoaomepbaaGreatDoor
open Go.Proofs.Tryz Tryz List
open Go.RowKit
theorem wp_abs{P:Program}{c:Code}{Q:Exit->Act->World->Prop}{a:Act}{w:World}(h:∀W,w=W->c.wp P Q a W):c.wp P Q a w:=h w rfl
end Go.Proofs.YtfoefpoaomepbaaGreatDoor
