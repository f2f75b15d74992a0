import Derived.Test.YtfoefpoaomepbaaGreatDoorFFrMd
import Derived.Test.YtfoefpoaomepbaaGreatDoorFGenT
import Derived.Test.YtfoefpoaomepbaaGreatDoorFLayA
set_option linter.all false
set_option maxHeartbeats 16000000
set_option maxRecDepth 1000000
namespace Go.Proofs.YtfoefpoaomepbaaGreatDoor
open Go.RowKit
end Go.Proofs.YtfoefpoaomepbaaGreatDoor
namespace Go.Proofs.YtfoefpoaomepbaaGreatDoor
section
variable {sett : List Bool} {dims : List Int} {i k : Nat} {m : Int} {c : List Ins}
end
section
variable {l : List Ins} {sl : List ByteArray} {v : Vw} {slots : List Val} {st : List (ByteArray × Val)} {i k : Nat} {x : Val}
end
end Go.Proofs.YtfoefpoaomepbaaGreatDoor
