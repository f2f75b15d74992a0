/- MachineRaw: for every input the law returns true, and its arguments read as they did; its tied card. No condition. -/
import Derived.Test.YtaghhncnicbedaaGreatDoorLawRw
import Derived.Test.YtaghhncnicbedaaGreatDoorFcRw
import Derived.Test.YtaghhncnicbedaaGreatDoorTyEB
import Derived.Test.YtaghhncnicbedaaGreatDoorBTab
import Derived.Test.YtaghhncnicbedaaGreatDoorCards
import Derived.Test.YtaghhncnicbedaaGreatDoorTie
import Derived.SevenTiedAt
set_option linter.all false
namespace Go.Proofs.YtaghhncnicbedaaGreatDoor
open Go.ChangeShapes Go.WideShapes Go.ChangeAt Go.RowKit
theorem inf_said : InfSaid := fun S env e v ve w h hb ht hv => Infer2_any S env e v ve w h hb ht hv
set_option maxRecDepth 1000000 in
theorem rw_law {H : Type} (enc : TypeId × Value → H) : LawWalk enc Tryz.prog 5 [63] := by
  intro W base args ds p hL hval hA hfit
  obtain ⟨v0, vs0, d0, ds0, p0, q0, hargs, rfl, rfl, h0, r0⟩ := trodAll_cons hA
  obtain ⟨rfl, rfl, rfl⟩ := trodAll_nil r0
  obtain rfl : args = #[v0] := by cases args; simp_all
  obtain ⟨vi, vs, l, sl, rfl, hI, hS⟩ := code_of_trod (hval 0 _ v0 rfl rfl) h0
  exact (rw_any (Lib.hid inf_said) l sl vi vs W hI hS (tab_of_laid hL)).mono fun e w' h => ⟨h.1, h.2.below⟩
set_option maxRecDepth 1000000 in
theorem rw_lifted (os : Os) (started : os.Started) (H : Type) (enc : TypeId × Value → H) :
    ReturnsInHanded {} Tryz.checked os 5 .any (fun w args => (Rows.machineRawSpec.pre enc Tryz.prog Tryz.f5 [] false w args ∧ laidMetH Tryz.prog laidsX w) ∧ sizedMet enc Tryz.prog Tryz.f5 (OpenSpec.ofChange Rows.machineRawSpec) false w args) (Rows.machineRawSpec.post enc Tryz.prog Tryz.f5 false true false false) :=
  law_lift (C := Tryz.checked) (s := Rows.machineRawSpec) own started (by kernel_rfl) Tryz.func5
    (ChangeSpec.witness_at (enc := enc) (C := Tryz.checked) (os := os) (X := fun w _ => laidMetH Tryz.prog laidsX w) false (World.laidAll Tryz.prog os laidsX) #[.agg #[.slice none 0 0, .slice none 0 0]] 8 (World.laidAll_os _ _ _) (by kernel_rfl) (by kernel_rfl) (by kernel_rfl) (by kernel_rfl) (by kernel_rfl) (laidsMet os _))
    laidOut (by kernel_rfl) rfl Tryz.underlying4 rfl (fun ds hds => by
      match ds, hds with
      | [d0], _ => rfl) (rw_law enc)
set_option maxRecDepth 1000000 in
theorem rw_row : Rows.MachineRawSaid :=
  OpenClaim.holds_of_wide 5 Tryz.f5 rfl rfl rfl rfl rfl rfl rfl ⟨rfl, rfl, rfl, rfl, rfl⟩ rfl rfl rfl rfl rfl (by kernel_rfl) Tryz.func5 rw_facts
    (of_decide_eq_true (by kernel_rfl)) (by unfold Func.isWrapper; first | (rw [if_pos (by decide +kernel)]; kernel_rfl) | (rw [if_neg (by decide +kernel)]; exact ⟨rfl, rfl⟩))
    (fun os started H enc _ => rw_lifted os started H enc)
theorem rw_stand : (Tryz.f5.params.toList.all fun t => !Tryz.prog.wantsStandIn t) = true := by kernel_rfl
set_option maxRecDepth 1000000 in
theorem rw_proved : Rows.MachineRawCardSaid :=
  Claim7.holds_tied_plain_at .later [] [.data, .data, .data] true Rows.machineRawCard.stood.harness false
    rw_row (fun _ h => by cases h) (by kernel_rfl) (fun _ h => by cases h) machineRaw_row_tie rfl ⟨rfl, rfl⟩ (by kernel_rfl) rfl
    (fun f fn hf hfn => by
      obtain rfl : f = 5 := Option.some.inj ((show Tryz.prog.funcNamed "pension/pensionlaw9.MachineRaw" = some 5 by kernel_rfl).symm.trans hf) |>.symm
      obtain rfl : fn = Tryz.f5 := (Option.some.inj (Tryz.func5.symm.trans hfn)).symm
      exact ⟨by kernel_rfl, fun j t ht => by
        have hw := List.all_eq_true.1 rw_stand t (List.mem_of_getElem? (by simpa using ht))
        have hw2 : Tryz.prog.wantsStandIn t = false := by simpa using hw
        exact hw2⟩)
    (by kernel_rfl)
#print axioms rw_proved
end Go.Proofs.YtaghhncnicbedaaGreatDoor
