import Derived.Test.YtfoefpoaomepbaaGreatDoorGGrP
import Derived.Test.YtfoefpoaomepbaaGreatDoorGExp2
set_option linter.all false
set_option maxHeartbeats 16000000
set_option maxRecDepth 1000000
namespace Go.Proofs.YtfoefpoaomepbaaGreatDoor
open Go.Proofs.Tryz Tryz List
section
variable {v : Vw} {ls : List (ByteArray × Ex)} {e : Ex} {nm : ByteArray} {D0 D D2 : List Nat} {st0 st st2 : List (ByteArray × Val)} {c : Int} {x p : Val} {g : Int × Ex × Ex}
end
section
variable {l : List Ins} {sl : List ByteArray} {v : Vw} {F : List (Option (List Int × List Bool))} {D : List Int}
end
section
variable {S S' R : List (Option (List Int × List Bool))} {s s' : List Int × List Bool} {x : Ins} {i dep dep' m : Nat} {dims dims' : List Int}
end
section
variable {m n m2 : Nat} {A : List Bool} {Sc Sb Sb' : List (Option (List Int × List Bool))} {Dc Db Db' : List Int} {s s' : List Int × List Bool} {x : Ins}
end
section
variable {l l1 l2 : List Ins} {sl s1 s2 s3 : List ByteArray} {v : Vw} {F : List (Option (List Int × List Bool))} {D : List Int}
end
open Go.RowKit
end Go.Proofs.YtfoefpoaomepbaaGreatDoor
namespace Go
end Go
namespace Go
open Go.RowKit
end Go
