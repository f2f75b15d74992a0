import Derived.Test.YtfoefpoaomepbaaGreatDoorGFlA
set_option linter.all false
set_option maxHeartbeats 16000000
set_option maxRecDepth 1000000
namespace Go.Proofs.YtfoefpoaomepbaaGreatDoor
open Go.Proofs.Tryz Tryz List
open Go.RowKit
section
variable {W0 w w' : World} {X N : Nat} {v : Vw} {y vb : Value} {n : Nat} {D : List Nat} {st : List (ByteArray × Val)}
end
section
variable {ls : List (ByteArray × Ex)} {env : List (ByteArray × Int)} (hl : iP ls ls.length env) {e : Ex} {m : Int}
end
section
variable {base : Nat} {w w' : World} {va vl vd : Value} {l : List (Ex × Value)} {xs : List Val} {ds : List Int}
end
end Go.Proofs.YtfoefpoaomepbaaGreatDoor
