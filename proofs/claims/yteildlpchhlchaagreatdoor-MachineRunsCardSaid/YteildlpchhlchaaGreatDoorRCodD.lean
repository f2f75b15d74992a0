import Derived.Test.YteildlpchhlchaaGreatDoorRMchC
set_option linter.all false
set_option maxHeartbeats 16000000
set_option maxRecDepth 1000000
namespace Go.Proofs.YteildlpchhlchaaGreatDoor
open Tryz List
section
variable {sett : List Bool} {dims : List Int} {i k : Nat} {m : Int} {c : List Ins}
end
section
variable {l : List Ins} {sl : List ByteArray} {v : Vw} {slots : List Val} {st : List (ByteArray × Val)} {i k : Nat} {x : Val}
end
open Go.RowKit
instance:DecidableEq Val:=fun a b=>decidable_of_iff (a.dim=b.dim/\a.yes=b.yes/\a.n=b.n/\a.d=b.d) (by cases a;cases b;simp)
end Go.Proofs.YteildlpchhlchaaGreatDoor
