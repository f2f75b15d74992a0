/- EvalBest: for every input the law returns true, and its arguments read as they did; its tied card. No condition. -/
import Derived.Test.YtlheailebbngiaaGreatDoorLawBb
import Derived.Test.YtlheailebbngiaaGreatDoorQDc2
import Derived.Test.YtlheailebbngiaaGreatDoorCards
import Derived.Test.YtlheailebbngiaaGreatDoorTie
import Derived.SevenTiedAt
set_option linter.all false
namespace Go.Proofs.YtlheailebbngiaaGreatDoor
open Go.ChangeShapes Go.WideShapes Go.ChangeAt Go.RowKit
set_option maxRecDepth 1000000 in
theorem ints_of {H : Type} {enc : TypeId × Value → H} {W : World} {v : Value} {d : DataW H} {p : List MemPlace} {r : Reach} {b0 : Nat} (hv : Value.okWide Tryz.prog W r b0 24 v) (h : DataW.Trod enc Tryz.prog W 0 (fun _ => true) true 24 v d p) (hf : fits Tryz.prog 24 d) : ∃ zs, IntsAt W v zs := by
  obtain ⟨fuel, h⟩ := h
  obtain ⟨a, len, cap, rfl⟩ := okWide_slice Tryz.underlying24 hv
  exact IntsAt.of_trod (v := .slice a len cap) Tryz.underlying24 Tryz.underlying3 c3 b3 (by simpa [Value.cells] using h) hf
set_option maxRecDepth 1000000 in
theorem bb_law {H : Type} (enc : TypeId × Value → H) : LawWalk enc Tryz.prog 4 [24, 3, 4] := by
  intro W base args ds p hL hval hA hfit
  obtain ⟨v0, vs0, d0, ds0, p0, q0, hargs, rfl, rfl, h0, r0⟩ := trodAll_cons hA
  obtain ⟨v1, vs1, d1, ds1, p1, q1, rfl, rfl, rfl, h1, r1⟩ := trodAll_cons r0
  obtain ⟨v2, vs2, d2, ds2, p2, q2, rfl, rfl, rfl, h2, r2⟩ := trodAll_cons r1
  obtain ⟨rfl, rfl, rfl⟩ := trodAll_nil r2
  obtain rfl : args = #[v0, v1, v2] := by cases args; simp_all
  obtain ⟨zs, hI⟩ := ints_of (hval 0 _ v0 rfl rfl) h0 (hfit 0 _ _ rfl rfl)
  obtain ⟨n, rfl, -, -, -⟩ := open_int Tryz.underlying3 (hval 1 _ v1 rfl rfl) h1
  obtain ⟨raw, rfl, -, -⟩ := open_bool Tryz.underlying4 (hval 2 _ v2 rfl rfl) h2
  exact (bb_any zs _ n raw W hI (tab_of_laid hL)).mono fun e w' h => ⟨h.1, h.2.below⟩
set_option maxRecDepth 1000000 in
theorem bb_lifted (os : Os) (started : os.Started) (H : Type) (enc : TypeId × Value → H) :
    ReturnsInHanded {} Tryz.checked os 4 .any (fun w args => (Rows.evalBestSpec.pre enc Tryz.prog Tryz.f4 [] false w args ∧ laidMetH Tryz.prog laidsX w) ∧ sizedMet enc Tryz.prog Tryz.f4 (OpenSpec.ofChange Rows.evalBestSpec) false w args) (Rows.evalBestSpec.post enc Tryz.prog Tryz.f4 false true false false) :=
  law_lift (C := Tryz.checked) (s := Rows.evalBestSpec) own started (by kernel_rfl) Tryz.func4
    (ChangeSpec.witness_at (enc := enc) (C := Tryz.checked) (os := os) (X := fun w _ => laidMetH Tryz.prog laidsX w) false (World.laidAll Tryz.prog os laidsX) #[.slice none 0 0, .int .i64 0, .bool false] 8 (World.laidAll_os _ _ _) (by kernel_rfl) (by kernel_rfl) (by kernel_rfl) (by kernel_rfl) (by kernel_rfl) (laidsMet os _))
    laidOut (by kernel_rfl) rfl Tryz.underlying4 rfl (fun ds hds => by
      match ds, hds with
      | [d0, d1, d2], _ => rfl) (bb_law enc)
set_option maxRecDepth 1000000 in
theorem bb_row : Rows.EvalBestSaid :=
  OpenClaim.holds_of_wide 4 Tryz.f4 rfl rfl rfl rfl rfl rfl rfl ⟨rfl, rfl, rfl, rfl, rfl⟩ rfl rfl rfl rfl rfl (by kernel_rfl) Tryz.func4 (by kernel_rfl)
    (of_decide_eq_true (by kernel_rfl)) (by unfold Func.isWrapper; first | (rw [if_pos (by decide +kernel)]; kernel_rfl) | (rw [if_neg (by decide +kernel)]; exact ⟨rfl, rfl⟩))
    (fun os started H enc _ => bb_lifted os started H enc)
theorem bb_stand : (Tryz.f4.params.toList.all fun t => !Tryz.prog.wantsStandIn t) = true := by kernel_rfl
set_option maxRecDepth 1000000 in
theorem bb_proved : Rows.EvalBestCardSaid :=
  Claim7.holds_tied_plain_at .later [] [.data, .data, .data] true Rows.evalBestCard.stood.harness false
    bb_row (fun _ h => by cases h) (by kernel_rfl) (fun _ h => by cases h) evalBest_row_tie rfl ⟨rfl, rfl⟩ (by kernel_rfl) rfl
    (fun f fn hf hfn => by
      obtain rfl : f = 4 := Option.some.inj ((show Tryz.prog.funcNamed "pension/pensionlaw8.EvalBest" = some 4 by kernel_rfl).symm.trans hf) |>.symm
      obtain rfl : fn = Tryz.f4 := (Option.some.inj (Tryz.func4.symm.trans hfn)).symm
      exact ⟨by kernel_rfl, fun j t ht => by
        have hw := List.all_eq_true.1 bb_stand t (List.mem_of_getElem? (by simpa using ht))
        have hw2 : Tryz.prog.wantsStandIn t = false := by simpa using hw
        exact hw2⟩)
    (by kernel_rfl)
#print axioms bb_proved
end Go.Proofs.YtlheailebbngiaaGreatDoor
