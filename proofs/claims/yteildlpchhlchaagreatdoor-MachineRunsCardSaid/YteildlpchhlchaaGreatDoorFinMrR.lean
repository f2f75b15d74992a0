/- MachineRuns: its tied card. No condition. -/
import Derived.Test.YteildlpchhlchaaGreatDoorRRowMr
import Derived.Test.YteildlpchhlchaaGreatDoorRTdMr
set_option linter.all false
set_option maxHeartbeats 16000000
set_option maxRecDepth 1000000
namespace Go.Proofs.YteildlpchhlchaaGreatDoor
open Go.Proofs.Tryz Tryz List
open Go.ChangeShapes Go.WideShapes Go.ChangeAt Go.RowKit
theorem mr_proved:Rows.MachineRunsCardSaid:=
 Claim7.holds_tied_plain_at .later [] [.data,.data,.data] true Rows.machineRunsCard.stood.harness false
  QD (fun _ h=>by cases h) Sn (fun _ h=>by cases h) machineRuns_row_tie rfl ⟨rfl,rfl⟩ Sm rfl
  (fun f fn hf hfn=>by
   obtain rfl:f=7:=Option.some.inj (Sl.symm.trans hf)|>.symm;obtain rfl:fn=f7:=(Option.some.inj (Si.symm.trans hfn)).symm
   exact⟨Sk,fun j t ht=>by
    have hw:=all_eq_true.1 KT t (List.mem_of_getElem? (by simpa using ht));have hw2:prog.wantsStandIn t=false:=by simpa using hw
    exact hw2⟩)
  Sj
#print axioms mr_proved
end Go.Proofs.YteildlpchhlchaaGreatDoor
