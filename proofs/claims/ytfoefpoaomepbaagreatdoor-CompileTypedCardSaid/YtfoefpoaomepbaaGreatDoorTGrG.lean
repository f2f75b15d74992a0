import Derived.Test.YtfoefpoaomepbaaGreatDoorTExp2
import Derived.Laws.AppendOwnNone
import Derived.Deep.CutBlock
import Derived.Deep.CutRange
import Derived.Deep.DeepCutAuto
set_option linter.all false
set_option maxHeartbeats 16000000
set_option maxRecDepth 1000000
namespace Go.Proofs.YtfoefpoaomepbaaGreatDoor
section
variable {v : Vw} {ls : List (ByteArray × Ex)} {e : Ex} {nm : ByteArray} {D0 D D2 : List Nat} {st0 st st2 : List (ByteArray × Val)} {c : Int} {x p : Val} {g : Int × Ex × Ex}
end
section
variable {l l1 l2 : List Ins} {sl s1 s2 s3 : List ByteArray} {v : Vw} {F : List (Option (List Int × List Bool))} {D : List Int}
end
end Go.Proofs.YtfoefpoaomepbaaGreatDoor
namespace Go.Proofs.YtfoefpoaomepbaaGreatDoor
open Go.RowKit
end Go.Proofs.YtfoefpoaomepbaaGreatDoor
namespace Go
end Go
namespace Go
open Go.RowKit
end Go
namespace Go
end Go
namespace Go.Proofs.YtfoefpoaomepbaaGreatDoor
open Go.RowKit
end Go.Proofs.YtfoefpoaomepbaaGreatDoor
