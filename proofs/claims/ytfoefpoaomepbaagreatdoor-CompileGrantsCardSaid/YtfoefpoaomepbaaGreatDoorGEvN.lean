import Derived.Test.YtfoefpoaomepbaaGreatDoorGTyN
set_option linter.all false
set_option maxHeartbeats 16000000
set_option maxRecDepth 1000000
namespace Go.Proofs.YtfoefpoaomepbaaGreatDoor
open Go.Proofs.Tryz Tryz List
open Go.RowKit Go.Shelf
attribute [local go_sem] Oper.semAt_some
open Go.RowKit
open Go.RowKit Go.Sort
end Go.Proofs.YtfoefpoaomepbaaGreatDoor
