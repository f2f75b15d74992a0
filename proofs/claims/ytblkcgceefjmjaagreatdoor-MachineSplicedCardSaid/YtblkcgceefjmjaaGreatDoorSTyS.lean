import Derived.Test.YtblkcgceefjmjaaGreatDoorSTyR
set_option linter.all false
set_option maxHeartbeats 16000000
set_option maxRecDepth 1000000
namespace Go.Proofs.YtblkcgceefjmjaaGreatDoor
open Go.RowKit
end Go.Proofs.YtblkcgceefjmjaaGreatDoor
namespace Go.Proofs.YtblkcgceefjmjaaGreatDoor
section
variable {set : List Bool} {dims : List Int} {i k : Nat} {m : Int} {c : List Ins}
end
section
variable {l : List Ins} {sl : List ByteArray} {v : Vw} {slots : List Val} {st : List (ByteArray × Val)} {i k : Nat} {x : Val}
end
end Go.Proofs.YtblkcgceefjmjaaGreatDoor
