/- CompileTyped: its tied card. No condition. -/
import Derived.Test.YtfoefpoaomepbaaGreatDoorTRowCt
import Derived.Test.YtfoefpoaomepbaaGreatDoorTTdCt
import Derived.Test.YtfoefpoaomepbaaGreatDoorCards
import Derived.Test.YtfoefpoaomepbaaGreatDoorTie
import Derived.SevenTiedAt
set_option linter.all false
set_option maxHeartbeats 16000000
set_option maxRecDepth 1000000
namespace Go.Proofs.YtfoefpoaomepbaaGreatDoor
open Go.ChangeShapes Go.WideShapes Go.ChangeAt Go.RowKit
theorem ct_proved:Rows.CompileTypedCardSaid:=
 Claim7.holds_tied_plain_at .later [] [.data,.data,.data] true Rows.compileTypedCard.stood.harness false
  ct_row (fun _ h=>by cases h) ct_t1 (fun _ h=>by cases h) compileTyped_row_tie rfl ⟨rfl,rfl⟩ ct_t2 rfl
  (fun f fn hf hfn=>by
   obtain rfl:f=6:=Option.some.inj (ct_t3.symm.trans hf)|>.symm
   obtain rfl:fn=Tryz.f6:=(Option.some.inj (ct_t6.symm.trans hfn)).symm
   exact⟨ct_t4,fun j t ht=>by
    have hw:=List.all_eq_true.1 ct_stand t (List.mem_of_getElem? (by simpa using ht))
    have hw2:Tryz.prog.wantsStandIn t=false:=by simpa using hw
    exact hw2⟩)
  ct_t5
#print axioms ct_proved
end Go.Proofs.YtfoefpoaomepbaaGreatDoor
