import Derived.Test.YtblkcgceefjmjaaGreatDoorValS
set_option linter.all false
set_option maxHeartbeats 16000000
set_option maxRecDepth 1000000
namespace Go.Proofs.YtblkcgceefjmjaaGreatDoor
open Go.RowKit
end Go.Proofs.YtblkcgceefjmjaaGreatDoor
