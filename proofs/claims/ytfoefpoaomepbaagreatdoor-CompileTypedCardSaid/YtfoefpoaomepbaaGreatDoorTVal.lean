import Derived.Test.YtfoefpoaomepbaaGreatDoorTFrA2S
set_option linter.all false
set_option maxHeartbeats 16000000
set_option maxRecDepth 1000000
namespace Go.Proofs.YtfoefpoaomepbaaGreatDoor
open Go.RowKit
end Go.Proofs.YtfoefpoaomepbaaGreatDoor
