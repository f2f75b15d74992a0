import Derived.Test.YteildlpchhlchaaGreatDoorRRunK
set_option linter.all false
set_option maxHeartbeats 16000000
set_option maxRecDepth 1000000
namespace Go.Proofs.YteildlpchhlchaaGreatDoor
open Go.Proofs.Tryz Tryz List
open Go.RowKit
end Go.Proofs.YteildlpchhlchaaGreatDoor
