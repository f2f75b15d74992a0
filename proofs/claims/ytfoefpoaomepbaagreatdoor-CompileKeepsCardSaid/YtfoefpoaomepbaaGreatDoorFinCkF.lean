/- CompileKeeps: its tied card. No condition. -/
import Derived.Test.YtfoefpoaomepbaaGreatDoorFRowCk
import Derived.Test.YtfoefpoaomepbaaGreatDoorFTdCk
import Derived.Test.YtfoefpoaomepbaaGreatDoorCards
import Derived.Test.YtfoefpoaomepbaaGreatDoorTie
import Derived.SevenTiedAt
set_option linter.all false
set_option maxHeartbeats 16000000
set_option maxRecDepth 1000000
namespace Go.Proofs.YtfoefpoaomepbaaGreatDoor
open Go.ChangeShapes Go.WideShapes Go.ChangeAt Go.RowKit
theorem ck_proved:Rows.CompileKeepsCardSaid:=
 Claim7.holds_tied_plain_at .later [] [.data,.data,.data] true Rows.compileKeepsCard.stood.harness false
  ck_row (fun _ h=>by cases h) ck_t1 (fun _ h=>by cases h) compileKeeps_row_tie rfl ⟨rfl,rfl⟩ ck_t2 rfl
  (fun f fn hf hfn=>by
   obtain rfl:f=4:=Option.some.inj (ck_t3.symm.trans hf)|>.symm
   obtain rfl:fn=Tryz.f4:=(Option.some.inj (ck_t6.symm.trans hfn)).symm
   exact⟨ck_t4,fun j t ht=>by
    have hw:=List.all_eq_true.1 ck_stand t (List.mem_of_getElem? (by simpa using ht))
    have hw2:Tryz.prog.wantsStandIn t=false:=by simpa using hw
    exact hw2⟩)
  ck_t5
#print axioms ck_proved
end Go.Proofs.YtfoefpoaomepbaaGreatDoor
