import Derived.Test.YtlheailebbngiaaGreatDoorGUseP
set_option linter.all false
set_option maxHeartbeats 16000000
set_option maxRecDepth 1000000
namespace Go.Proofs.YtlheailebbngiaaGreatDoor
open Go.Proofs.Tryz List
end Go.Proofs.YtlheailebbngiaaGreatDoor
