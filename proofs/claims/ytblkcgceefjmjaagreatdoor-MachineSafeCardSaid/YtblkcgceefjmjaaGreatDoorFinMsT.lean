/- MachineSafe: its tied card. No condition. -/
import Derived.Test.YtblkcgceefjmjaaGreatDoorTRowMs
import Derived.Test.YtblkcgceefjmjaaGreatDoorTTdMs
import Derived.Test.YtblkcgceefjmjaaGreatDoorCards
import Derived.Test.YtblkcgceefjmjaaGreatDoorTie
import Derived.SevenTiedAt
set_option linter.all false
set_option maxHeartbeats 16000000
set_option maxRecDepth 1000000
namespace Go.Proofs.YtblkcgceefjmjaaGreatDoor
open Go.ChangeShapes Go.WideShapes Go.ChangeAt Go.RowKit
theorem ms_proved:Rows.MachineSafeCardSaid:=
 Claim7.holds_tied_plain_at .later [] [.data,.data,.data] true Rows.machineSafeCard.stood.harness false
  ms_row (fun _ h=>by cases h) ms_t1 (fun _ h=>by cases h) machineSafe_row_tie rfl ⟨rfl,rfl⟩ ms_t2 rfl
  (fun f fn hf hfn=>by
   obtain rfl:f=10:=Option.some.inj (ms_t3.symm.trans hf)|>.symm
   obtain rfl:fn=Tryz.f10:=(Option.some.inj (ms_t6.symm.trans hfn)).symm
   exact⟨ms_t4,fun j t ht=>by
    have hw:=List.all_eq_true.1 ms_stand t (List.mem_of_getElem? (by simpa using ht))
    have hw2:Tryz.prog.wantsStandIn t=false:=by simpa using hw
    exact hw2⟩)
  ms_t5
#print axioms ms_proved
end Go.Proofs.YtblkcgceefjmjaaGreatDoor
