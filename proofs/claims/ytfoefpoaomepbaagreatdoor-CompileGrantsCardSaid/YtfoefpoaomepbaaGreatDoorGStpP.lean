import Derived.Test.YtfoefpoaomepbaaGreatDoorGLay
import Derived.Test.YtfoefpoaomepbaaGreatDoorGFrMd
import Derived.Test.YtfoefpoaomepbaaGreatDoorGShelf4
import Derived.Test.YtfoefpoaomepbaaGreatDoorGShelf5
set_option linter.all false
set_option maxHeartbeats 16000000
set_option maxRecDepth 1000000
namespace Go.Proofs.YtfoefpoaomepbaaGreatDoor
open Go.Proofs.Tryz Tryz List
open Go.RowKit

open Go.RowKit Go.Shelf Go.Sort Go.Lib
attribute [local go_sem] Oper.semAt_some
open Go.RowKit Go.Sort
instance:DecidableEq Val:=fun a b=>decidable_of_iff (a.dim=b.dim/\a.yes=b.yes/\a.n=b.n/\a.d=b.d) (by cases a;cases b;simp)
end Go.Proofs.YtfoefpoaomepbaaGreatDoor
