import Derived.Test.YtfoefpoaomepbaaGreatDoorGSyL
import Derived.Test.YtfoefpoaomepbaaGreatDoorGTyR
set_option linter.all false
set_option maxHeartbeats 16000000
set_option maxRecDepth 1000000
namespace Go.Proofs.YtfoefpoaomepbaaGreatDoor
open Go.Proofs.Tryz Tryz List
open Go.RowKit
end Go.Proofs.YtfoefpoaomepbaaGreatDoor
