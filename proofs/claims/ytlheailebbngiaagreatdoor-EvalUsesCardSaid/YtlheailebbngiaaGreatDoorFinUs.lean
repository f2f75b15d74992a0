/- EvalUses: for every input the law returns true, and its arguments read as they did; its tied card. No condition. -/
import Derived.Test.YtlheailebbngiaaGreatDoorLawUs
import Derived.Test.YtlheailebbngiaaGreatDoorLOf
import Derived.Test.YtlheailebbngiaaGreatDoorLTwistR
import Derived.Test.YtlheailebbngiaaGreatDoorLVwOf
import Derived.Test.YtlheailebbngiaaGreatDoorLVwP
import Derived.Test.YtlheailebbngiaaGreatDoorCards
import Derived.Test.YtlheailebbngiaaGreatDoorTie
import Derived.SevenTiedAt
set_option linter.all false
namespace Go.Proofs.YtlheailebbngiaaGreatDoor
open Go.ChangeShapes Go.WideShapes Go.ChangeAt Go.RowKit
set_option maxRecDepth 1000000 in
theorem us_law {H : Type} (enc : TypeId × Value → H) : LawWalk enc Tryz.prog 10 [72, 24] := by
  intro W base args ds p hL hval hA hfit
  obtain ⟨v0, vs0, d0, ds0, p0, q0, hargs, rfl, rfl, h0, r0⟩ := trodAll_cons hA
  obtain ⟨v1, vs1, d1, ds1, p1, q1, rfl, rfl, rfl, h1, r1⟩ := trodAll_cons r0
  obtain ⟨rfl, rfl, rfl⟩ := trodAll_nil r1
  obtain rfl : args = #[v0, v1] := by cases args; simp_all
  obtain ⟨R, cs, rfl, hR⟩ := RawAt.of_trod (hval 0 _ v0 rfl rfl) h0 (hfit 0 _ _ rfl rfl)
  obtain ⟨zs, hI⟩ := ints_of (hval 1 _ v1 rfl rfl) h1 (hfit 1 _ _ rfl rfl)
  exact (us_any (Lib.hid of_said) zs _ cs R W hI hR (tab_of_laid hL)).mono fun e w' h => ⟨h.1, h.2.below⟩
set_option maxRecDepth 1000000 in
theorem us_lifted (os : Os) (started : os.Started) (H : Type) (enc : TypeId × Value → H) :
    ReturnsInHanded {} Tryz.checked os 10 .any (fun w args => (Rows.evalUsesSpec.pre enc Tryz.prog Tryz.f10 [] false w args ∧ laidMetH Tryz.prog laidsX w) ∧ sizedMet enc Tryz.prog Tryz.f10 (OpenSpec.ofChange Rows.evalUsesSpec) false w args) (Rows.evalUsesSpec.post enc Tryz.prog Tryz.f10 false true false false) :=
  law_lift (C := Tryz.checked) (s := Rows.evalUsesSpec) own started (by kernel_rfl) Tryz.func10
    (ChangeSpec.witness_at (enc := enc) (C := Tryz.checked) (os := os) (X := fun w _ => laidMetH Tryz.prog laidsX w) false (World.laidAll Tryz.prog os laidsX) #[.agg #[.int .i64 0, .int .i64 0, .int .i64 0, .slice none 0 0, .slice none 0 0, .slice none 0 0, .slice none 0 0, .slice none 0 0, .slice none 0 0, .int .i64 0], .slice none 0 0] 8 (World.laidAll_os _ _ _) (by kernel_rfl) (by kernel_rfl) (by kernel_rfl) (by kernel_rfl) (by kernel_rfl) (laidsMet os _))
    laidOut (by kernel_rfl) rfl Tryz.underlying4 rfl (fun ds hds => by
      match ds, hds with
      | [d0, d1], _ => rfl) (us_law enc)
set_option maxRecDepth 1000000 in
theorem us_row : Rows.EvalUsesSaid :=
  OpenClaim.holds_of_wide 10 Tryz.f10 rfl rfl rfl rfl rfl rfl rfl ⟨rfl, rfl, rfl, rfl, rfl⟩ rfl rfl rfl rfl rfl (by kernel_rfl) Tryz.func10 (by kernel_rfl)
    (of_decide_eq_true (by kernel_rfl)) (by unfold Func.isWrapper; first | (rw [if_pos (by decide +kernel)]; kernel_rfl) | (rw [if_neg (by decide +kernel)]; exact ⟨rfl, rfl⟩))
    (fun os started H enc _ => us_lifted os started H enc)
theorem us_stand : (Tryz.f10.params.toList.all fun t => !Tryz.prog.wantsStandIn t) = true := by kernel_rfl
set_option maxRecDepth 1000000 in
theorem us_proved : Rows.EvalUsesCardSaid :=
  Claim7.holds_tied_plain_at .later [] [.data, .data, .data] true Rows.evalUsesCard.stood.harness false
    us_row (fun _ h => by cases h) (by kernel_rfl) (fun _ h => by cases h) evalUses_row_tie rfl ⟨rfl, rfl⟩ (by kernel_rfl) rfl
    (fun f fn hf hfn => by
      obtain rfl : f = 10 := Option.some.inj ((show Tryz.prog.funcNamed "pension/pensionlaw8.EvalUses" = some 10 by kernel_rfl).symm.trans hf) |>.symm
      obtain rfl : fn = Tryz.f10 := (Option.some.inj (Tryz.func10.symm.trans hfn)).symm
      exact ⟨by kernel_rfl, fun j t ht => by
        have hw := List.all_eq_true.1 us_stand t (List.mem_of_getElem? (by simpa using ht))
        have hw2 : Tryz.prog.wantsStandIn t = false := by simpa using hw
        exact hw2⟩)
    (by kernel_rfl)
#print axioms us_proved
end Go.Proofs.YtlheailebbngiaaGreatDoor
