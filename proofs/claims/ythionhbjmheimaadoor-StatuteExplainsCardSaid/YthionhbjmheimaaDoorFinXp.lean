/- StatuteExplains: for every input the law returns true, and its arguments read as they did; its tied card. No condition. -/
import Derived.Test.YthionhbjmheimaaDoorLawXp
import Derived.Test.YthionhbjmheimaaDoorFcXp
import Derived.Test.YthionhbjmheimaaDoorLExpL
import Derived.Test.YthionhbjmheimaaDoorLUsR
import Derived.Test.YthionhbjmheimaaDoorLYrV
import Derived.Test.YthionhbjmheimaaDoorLDc3
import Derived.Test.YthionhbjmheimaaDoorCards
import Derived.Test.YthionhbjmheimaaDoorTie
import Derived.SevenTiedAt
set_option linter.all false
namespace Go.Proofs.YthionhbjmheimaaDoor
open Go.ChangeShapes Go.WideShapes Go.ChangeAt Go.RowKit
set_option maxRecDepth 1000000 in
theorem xp_law {H : Type} (enc : TypeId × Value → H) : LawWalk enc Tryd.prog 3 [25, 27, 3, 22] := by
  intro W base args ds p hL hval hA hfit
  obtain ⟨v0, vs0, d0, ds0, p0, q0, hargs, rfl, rfl, h0, r0⟩ := trodAll_cons hA
  obtain ⟨v1, vs1, d1, ds1, p1, q1, rfl, rfl, rfl, h1, r1⟩ := trodAll_cons r0
  obtain ⟨v2, vs2, d2, ds2, p2, q2, rfl, rfl, rfl, h2, r2⟩ := trodAll_cons r1
  obtain ⟨v3, vs3, d3, ds3, p3, q3, rfl, rfl, rfl, h3, r3⟩ := trodAll_cons r2
  obtain ⟨rfl, rfl, rfl⟩ := trodAll_nil r3
  obtain rfl : args = #[v0, v1, v2, v3] := by cases args; simp_all
  obtain ⟨R, cs, rfl, hR⟩ := RawAt.of_trod (hval 0 _ v0 rfl rfl) h0 (hfit 0 _ _ rfl rfl)
  obtain ⟨P, vd, vy, rfl, hd, hy⟩ := VwR.of_trod (hval 1 _ v1 rfl rfl) h1 (hfit 1 _ _ rfl rfl)
  obtain ⟨n, rfl, -, -, hw⟩ := open_int Tryd.underlying3 (hval 2 _ v2 rfl rfl) h2
  obtain ⟨zs, hI⟩ := ints_of (hval 3 _ v3 rfl rfl) h3 (hfit 3 _ _ rfl rfl)
  exact (xp_any (Lib.hid of_said) cs R P _ _ _ zs n W hR hd hy hI (tab_of_laid hL)).mono fun e w' h => ⟨h.1, h.2.below⟩
set_option maxRecDepth 1000000 in
theorem xp_lifted (os : Os) (started : os.Started) (H : Type) (enc : TypeId × Value → H) :
    ReturnsInHanded {} Tryd.checked os 3 .any (fun w args => (Rows.statuteExplainsSpec.pre enc Tryd.prog Tryd.f3 [] false w args ∧ laidMetH Tryd.prog laidsX w) ∧ sizedMet enc Tryd.prog Tryd.f3 (OpenSpec.ofChange Rows.statuteExplainsSpec) false w args) (Rows.statuteExplainsSpec.post enc Tryd.prog Tryd.f3 false true false false) :=
  law_lift (C := Tryd.checked) (s := Rows.statuteExplainsSpec) own started (by kernel_rfl) Tryd.func3
    (ChangeSpec.witness_at (enc := enc) (C := Tryd.checked) (os := os) (X := fun w _ => laidMetH Tryd.prog laidsX w) false (World.laidAll Tryd.prog os laidsX) #[.agg #[.int .i64 0, .int .i64 0, .int .i64 0, .slice none 0 0, .slice none 0 0, .slice none 0 0, .slice none 0 0, .slice none 0 0, .slice none 0 0, .int .i64 0], .agg #[.int .i64 0, .int .i64 0, .int .i64 0, .int .i64 0, .int .i64 0, .slice none 0 0, .slice none 0 0], .int .i64 0, .slice none 0 0] 8 (World.laidAll_os _ _ _) (by kernel_rfl) (by kernel_rfl) (by kernel_rfl) (by kernel_rfl) (by kernel_rfl) (laidsMet os _))
    laidOut (by kernel_rfl) rfl Tryd.underlying4 rfl (fun ds hds => by
      match ds, hds with
      | [d0, d1, d2, d3], _ => rfl) (xp_law enc)
set_option maxRecDepth 1000000 in
theorem xp_row : Rows.StatuteExplainsSaid :=
  OpenClaim.holds_of_wide 3 Tryd.f3 rfl rfl rfl rfl rfl rfl rfl ⟨rfl, rfl, rfl, rfl, rfl⟩ rfl rfl rfl rfl rfl (by kernel_rfl) Tryd.func3 xp_facts
    (of_decide_eq_true (by kernel_rfl)) (by unfold Func.isWrapper; first | (rw [if_pos (by decide +kernel)]; kernel_rfl) | (rw [if_neg (by decide +kernel)]; exact ⟨rfl, rfl⟩))
    (fun os started H enc _ => xp_lifted os started H enc)
theorem xp_stand : (Tryd.f3.params.toList.all fun t => !Tryd.prog.wantsStandIn t) = true := by kernel_rfl
set_option maxRecDepth 1000000 in
theorem xp_proved : Rows.StatuteExplainsCardSaid :=
  Claim7.holds_tied_plain_at .later [] [.data, .data, .data] true Rows.statuteExplainsCard.stood.harness false
    xp_row (fun _ h => by cases h) (by kernel_rfl) (fun _ h => by cases h) statuteExplains_row_tie rfl ⟨rfl, rfl⟩ (by kernel_rfl) rfl
    (fun f fn hf hfn => by
      obtain rfl : f = 3 := Option.some.inj ((show Tryd.prog.funcNamed "pension/pensionlaw11.StatuteExplains" = some 3 by kernel_rfl).symm.trans hf) |>.symm
      obtain rfl : fn = Tryd.f3 := (Option.some.inj (Tryd.func3.symm.trans hfn)).symm
      exact ⟨by kernel_rfl, fun j t ht => by
        have hw := List.all_eq_true.1 xp_stand t (List.mem_of_getElem? (by simpa using ht))
        have hw2 : Tryd.prog.wantsStandIn t = false := by simpa using hw
        exact hw2⟩)
    (by kernel_rfl)
#print axioms xp_proved
end Go.Proofs.YthionhbjmheimaaDoor
