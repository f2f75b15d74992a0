/- CompileGrants: its tied card. No condition. -/
import Derived.Test.YtfoefpoaomepbaaGreatDoorGRowCg
import Derived.Test.YtfoefpoaomepbaaGreatDoorGTdCg
set_option linter.all false
set_option maxHeartbeats 16000000
set_option maxRecDepth 1000000
namespace Go.Proofs.YtfoefpoaomepbaaGreatDoor
open Go.Proofs.Tryz Tryz List
open Go.ChangeShapes Go.WideShapes Go.ChangeAt Go.RowKit
theorem cg_proved:Rows.CompileGrantsCardSaid:=
 Claim7.holds_tied_plain_at .later [] [.data,.data,.data] true Rows.compileGrantsCard.stood.harness false
  RZ (fun _ h=>by cases h) TU (fun _ h=>by cases h) compileGrants_row_tie rfl ⟨rfl,rfl⟩ TT rfl
  (fun f fn hf hfn=>by
   obtain rfl:f=7:=Option.some.inj (TR.symm.trans hf)|>.symm;obtain rfl:fn=f7:=(Option.some.inj (TN.symm.trans hfn)).symm
   exact⟨TQ,fun j t ht=>by
    have hw:=all_eq_true.1 M4 t (List.mem_of_getElem? (by simpa using ht));have hw2:prog.wantsStandIn t=false:=by simpa using hw
    exact hw2⟩)
  TP
#print axioms cg_proved
end Go.Proofs.YtfoefpoaomepbaaGreatDoor
