/- MachineSpliced: its tied card. No condition. -/
import Derived.Test.YtblkcgceefjmjaaGreatDoorVRowSp
import Derived.Test.YtblkcgceefjmjaaGreatDoorVTdSp
set_option linter.all false
set_option maxHeartbeats 16000000
set_option maxRecDepth 1000000
namespace Go.Proofs.YtblkcgceefjmjaaGreatDoor
open Go.Proofs.Tryz Tryz List
open Go.ChangeShapes Go.WideShapes Go.ChangeAt Go.RowKit
theorem sp_proved:Rows.MachineSplicedCardSaid:=
 Claim7.holds_tied_plain_at .later [] [.data,.data,.data] true Rows.machineSplicedCard.stood.harness false
  jf (fun _ h=>by cases h) sp_t1 (fun _ h=>by cases h) machineSpliced_row_tie rfl ⟨rfl,rfl⟩ sp_t2 rfl
  (fun f fn hf hfn=>by
   obtain rfl:f=11:=Option.some.inj (sp_t3.symm.trans hf)|>.symm;obtain rfl:fn=f11:=(Option.some.inj (sp_t6.symm.trans hfn)).symm
   exact⟨sp_t4,fun j t ht=>by
    have hw:=all_eq_true.1 sp_stand t (List.mem_of_getElem? (by simpa using ht));have hw2:prog.wantsStandIn t=false:=by simpa using hw
    exact hw2⟩)
  sp_t5
#print axioms sp_proved
end Go.Proofs.YtblkcgceefjmjaaGreatDoor
