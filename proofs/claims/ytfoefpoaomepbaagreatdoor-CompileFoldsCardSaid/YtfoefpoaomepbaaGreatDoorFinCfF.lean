/- CompileFolds: its tied card. No condition. -/
import Derived.Test.YtfoefpoaomepbaaGreatDoorFRowCf
import Derived.Test.YtfoefpoaomepbaaGreatDoorFTdCf
import Derived.Test.YtfoefpoaomepbaaGreatDoorCards
import Derived.Test.YtfoefpoaomepbaaGreatDoorTie
import Derived.SevenTiedAt
set_option linter.all false
set_option maxHeartbeats 16000000
set_option maxRecDepth 1000000
namespace Go.Proofs.YtfoefpoaomepbaaGreatDoor
open Go.ChangeShapes Go.WideShapes Go.ChangeAt Go.RowKit
theorem cf_proved:Rows.CompileFoldsCardSaid:=
 Claim7.holds_tied_plain_at .later [] [.data,.data,.data] true Rows.compileFoldsCard.stood.harness false
  cf_row (fun _ h=>by cases h) cf_t1 (fun _ h=>by cases h) compileFolds_row_tie rfl ⟨rfl,rfl⟩ cf_t2 rfl
  (fun f fn hf hfn=>by
   obtain rfl:f=3:=Option.some.inj (cf_t3.symm.trans hf)|>.symm
   obtain rfl:fn=Tryz.f3:=(Option.some.inj (cf_t6.symm.trans hfn)).symm
   exact⟨cf_t4,fun j t ht=>by
    have hw:=List.all_eq_true.1 cf_stand t (List.mem_of_getElem? (by simpa using ht))
    have hw2:Tryz.prog.wantsStandIn t=false:=by simpa using hw
    exact hw2⟩)
  cf_t5
#print axioms cf_proved
end Go.Proofs.YtfoefpoaomepbaaGreatDoor
