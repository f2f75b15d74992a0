import Derived.Test.YtcfpoofhokbhlaaGreatDoorVSyF
set_option linter.all false
set_option maxHeartbeats 16000000
set_option maxRecDepth 1000000
namespace Go.Proofs.YtcfpoofhokbhlaaGreatDoor
open Tryz List
instance:DecidableEq Val:=fun a b=>decidable_of_iff (a.dim=b.dim/\a.yes=b.yes/\a.n=b.n/\a.d=b.d) (by cases a;cases b;simp)
open Go.RowKit

end Go.Proofs.YtcfpoofhokbhlaaGreatDoor
