import Derived.Test.YtcfpoofhokbhlaaGreatDoorVExp2
import Derived.Test.YtcfpoofhokbhlaaGreatDoorVAwP
set_option linter.all false
set_option maxHeartbeats 16000000
set_option maxRecDepth 1000000
namespace Go.Proofs.YtcfpoofhokbhlaaGreatDoor
open Go.Proofs.Tryz Tryz List
open Go.RowKit
end Go.Proofs.YtcfpoofhokbhlaaGreatDoor
