/- StatuteVerifies: its tied card. No condition. -/
import Derived.Test.YtcfpoofhokbhlaaGreatDoorVRowSv
import Derived.Test.YtcfpoofhokbhlaaGreatDoorVTdSv
set_option linter.all false
set_option maxHeartbeats 16000000
set_option maxRecDepth 1000000
namespace Go.Proofs.YtcfpoofhokbhlaaGreatDoor
open Go.Proofs.Tryz Tryz List
open Go.ChangeShapes Go.WideShapes Go.ChangeAt Go.RowKit
theorem sv_proved:Rows.StatuteVerifiesCardSaid:=
 Claim7.holds_tied_plain_at .later [] [.data,.data,.data] true Rows.statuteVerifiesCard.stood.harness false
  QA (fun _ h=>by cases h) Sb (fun _ h=>by cases h) statuteVerifies_row_tie rfl ⟨rfl,rfl⟩ Sa rfl
  (fun f fn hf hfn=>by
   obtain rfl:f=3:=Option.some.inj (R9.symm.trans hf)|>.symm;obtain rfl:fn=f3:=(Option.some.inj (R6.symm.trans hfn)).symm
   exact⟨R8,fun j t ht=>by
    have hw:=all_eq_true.1 KF t (List.mem_of_getElem? (by simpa using ht));have hw2:prog.wantsStandIn t=false:=by simpa using hw
    exact hw2⟩)
  R7
#print axioms sv_proved
end Go.Proofs.YtcfpoofhokbhlaaGreatDoor
