import Derived.Test.YtfoefpoaomepbaaGreatDoorGEvX
set_option linter.all false
set_option maxHeartbeats 16000000
set_option maxRecDepth 1000000
namespace Go.Proofs.YtfoefpoaomepbaaGreatDoor
open Go.Proofs.Tryz Tryz List
section
variable {l : List Ins} {sl : List ByteArray} {v : Vw}
end
open Go.RowKit
end Go.Proofs.YtfoefpoaomepbaaGreatDoor
