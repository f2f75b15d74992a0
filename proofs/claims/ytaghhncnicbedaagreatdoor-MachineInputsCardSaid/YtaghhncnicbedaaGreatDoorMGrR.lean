import Derived.Test.YtaghhncnicbedaaGreatDoorBBase
set_option linter.all false
set_option maxHeartbeats 16000000
set_option maxRecDepth 1000000
namespace Go
theorem growsR{w w':World}(h:RowKit.Below w.heap.size w w':=by(try simp only [World.grow_grow,World.grow_drew,World.drew_grow,←Array.append_assoc]);repeat' (first|(with_reducible exact Go.RowKit.Below.fin)|(with_reducible exact Go.RowKit.Below.refl _ _)|(with_reducible assumption)|(with_reducible refine Go.RowKit.Below.peel ?_ ?_)|(with_reducible refine Go.RowKit.Below.grow ?_ ?_ _ _)|(with_reducible refine Go.RowKit.Below.alloc ?_ ?_ _)|(with_reducible refine Go.RowKit.Below.drewN ?_ _)|(with_reducible refine Go.RowKit.Below.drew ?_)|(with_reducible refine Go.RowKit.Below.setCell ?_ ?_ _)|go_size)):w.Grows w':=.of_below h
end Go
namespace Go.Proofs.YtaghhncnicbedaaGreatDoor
open Go.RowKit
theorem World.Grows.grown{W w w':World}{row:Option Nat}(h:W.Grows w)(hg:w.grownBy w' row)(hr:∀k,row=some k→W.heap.size≤k):W.Grows w':=.of_below (Below.grown h.below hg h.below.size hr)
end Go.Proofs.YtaghhncnicbedaaGreatDoor
