/- MachineInputs: for every input the law returns true, and its arguments read as they did; its tied card. No condition. -/
import Derived.Test.YtaghhncnicbedaaGreatDoorLawMi
import Derived.Test.YtaghhncnicbedaaGreatDoorFcMi
import Derived.Test.YtaghhncnicbedaaGreatDoorTyEB
import Derived.Test.YtaghhncnicbedaaGreatDoorBTab
import Derived.Test.YtaghhncnicbedaaGreatDoorCards
import Derived.Test.YtaghhncnicbedaaGreatDoorTie
import Derived.SevenTiedAt
set_option linter.all false
namespace Go.Proofs.YtaghhncnicbedaaGreatDoor
open Go.ChangeShapes Go.WideShapes Go.ChangeAt Go.RowKit
theorem inf_said : InfSaid := fun S env e v ve w h hb ht hv => Infer2_any S env e v ve w h hb ht hv
set_option maxRecDepth 1000000 in
theorem mi_law {H : Type} (enc : TypeId × Value → H) : LawWalk enc Tryz.prog 10 [3] := by
  intro W base args ds p hL hval hA hfit
  obtain ⟨v0, vs0, d0, ds0, p0, q0, hargs, rfl, rfl, h0, r0⟩ := trodAll_cons hA
  obtain ⟨rfl, rfl, rfl⟩ := trodAll_nil r0
  obtain rfl : args = #[v0] := by cases args; simp_all
  obtain ⟨n, rfl, -, -, hw⟩ := open_int Tryz.underlying3 (hval 0 _ v0 rfl rfl) h0
  exact (mi_any (Lib.hid inf_said) n W (tab_of_laid hL)).mono fun e w' h => ⟨h.1, h.2.below⟩
set_option maxRecDepth 1000000 in
theorem mi_lifted (os : Os) (started : os.Started) (H : Type) (enc : TypeId × Value → H) :
    ReturnsInHanded {} Tryz.checked os 10 .any (fun w args => (Rows.machineInputsSpec.pre enc Tryz.prog Tryz.f10 [] false w args ∧ laidMetH Tryz.prog laidsX w) ∧ sizedMet enc Tryz.prog Tryz.f10 (OpenSpec.ofChange Rows.machineInputsSpec) false w args) (Rows.machineInputsSpec.post enc Tryz.prog Tryz.f10 false true false false) :=
  law_lift (C := Tryz.checked) (s := Rows.machineInputsSpec) own started (by kernel_rfl) Tryz.func10
    (ChangeSpec.witness_at (enc := enc) (C := Tryz.checked) (os := os) (X := fun w _ => laidMetH Tryz.prog laidsX w) false (World.laidAll Tryz.prog os laidsX) #[.int .i64 0] 8 (World.laidAll_os _ _ _) (by kernel_rfl) (by kernel_rfl) (by kernel_rfl) (by kernel_rfl) (by kernel_rfl) (laidsMet os _))
    laidOut (by kernel_rfl) rfl Tryz.underlying4 rfl (fun ds hds => by
      match ds, hds with
      | [d0], _ => rfl) (mi_law enc)
set_option maxRecDepth 1000000 in
theorem mi_row : Rows.MachineInputsSaid :=
  OpenClaim.holds_of_wide 10 Tryz.f10 rfl rfl rfl rfl rfl rfl rfl ⟨rfl, rfl, rfl, rfl, rfl⟩ rfl rfl rfl rfl rfl (by kernel_rfl) Tryz.func10 mi_facts
    (of_decide_eq_true (by kernel_rfl)) (by unfold Func.isWrapper; first | (rw [if_pos (by decide +kernel)]; kernel_rfl) | (rw [if_neg (by decide +kernel)]; exact ⟨rfl, rfl⟩))
    (fun os started H enc _ => mi_lifted os started H enc)
theorem mi_stand : (Tryz.f10.params.toList.all fun t => !Tryz.prog.wantsStandIn t) = true := by kernel_rfl
set_option maxRecDepth 1000000 in
theorem mi_proved : Rows.MachineInputsCardSaid :=
  Claim7.holds_tied_plain_at .later [] [.data, .data, .data] true Rows.machineInputsCard.stood.harness false
    mi_row (fun _ h => by cases h) (by kernel_rfl) (fun _ h => by cases h) machineInputs_row_tie rfl ⟨rfl, rfl⟩ (by kernel_rfl) rfl
    (fun f fn hf hfn => by
      obtain rfl : f = 10 := Option.some.inj ((show Tryz.prog.funcNamed "pension/pensionlaw9.MachineInputs" = some 10 by kernel_rfl).symm.trans hf) |>.symm
      obtain rfl : fn = Tryz.f10 := (Option.some.inj (Tryz.func10.symm.trans hfn)).symm
      exact ⟨by kernel_rfl, fun j t ht => by
        have hw := List.all_eq_true.1 mi_stand t (List.mem_of_getElem? (by simpa using ht))
        have hw2 : Tryz.prog.wantsStandIn t = false := by simpa using hw
        exact hw2⟩)
    (by kernel_rfl)
#print axioms mi_proved
end Go.Proofs.YtaghhncnicbedaaGreatDoor
