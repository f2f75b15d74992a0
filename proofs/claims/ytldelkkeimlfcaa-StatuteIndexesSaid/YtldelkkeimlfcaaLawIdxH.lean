/- StatuteIndexes: for every input the law returns true, and its arguments read as they did. No condition. -/
import Derived.Test.YtldelkkeimlfcaaLawIdx
import Derived.Test.YtldelkkeimlfcaaArgS
import Derived.Test.YtldelkkeimlfcaaFrame
set_option linter.all false
namespace Go.Proofs.Ytldelkkeimlfcaa
open Go.ChangeShapes Go.WideShapes Go.ChangeAt Go.RowKit
set_option maxRecDepth 1000000 in
theorem idx_law (hOf : Hid OfSaid) {H : Type} (enc : TypeId × Value → H) : LawWalk enc Try.prog 5 [25, 26, 3, 3, 3] := by
  intro W base args ds p hval hA hfit
  obtain ⟨v0, vs0, d0, ds0, p0, q0, hargs, rfl, rfl, h0, r0⟩ := trodAll_cons hA
  obtain ⟨v1, vs1, d1, ds1, p1, q1, rfl, rfl, rfl, h1, r1⟩ := trodAll_cons r0
  obtain ⟨v2, vs2, d2, ds2, p2, q2, rfl, rfl, rfl, h2, r2⟩ := trodAll_cons r1
  obtain ⟨v3, vs3, d3, ds3, p3, q3, rfl, rfl, rfl, h3, r3⟩ := trodAll_cons r2
  obtain ⟨v4, vs4, d4, ds4, p4, q4, rfl, rfl, rfl, h4, r4⟩ := trodAll_cons r3
  obtain ⟨rfl, rfl, rfl⟩ := trodAll_nil r4
  obtain rfl : args = #[v0, v1, v2, v3, v4] := by cases args; simp_all
  obtain ⟨R, cs, rfl, hR⟩ := RawAt.of_trod (hval 0 _ v0 rfl rfl) h0 (hfit 0 _ _ rfl rfl)
  obtain ⟨z2, rfl, -, -, w2⟩ := open_int Try.underlying3 (hval 2 _ v2 rfl rfl) h2
  obtain ⟨z3, rfl, -, -, w3⟩ := open_int Try.underlying3 (hval 3 _ v3 rfl rfl) h3
  obtain ⟨z4, rfl, -, -, w4⟩ := open_int Try.underlying3 (hval 4 _ v4 rfl rfl) h4
  obtain ⟨fuel, hf⟩ := h1
  obtain ⟨a, len, cap, rfl⟩ := okWide_slice Try.underlying26 (hval 1 _ v1 rfl rfl)
  obtain ⟨n, y, nu, de, hS, hi⟩ := SeriesAt.of_trod (v := .slice a len cap) (by simpa [Value.cells] using hf) (hfit 1 _ _ rfl rfl)
  exact (idx_any hOf R cs _ n y nu de z2 z3 z4 W hR hS ⟨fun i h => (hi i h).2.1, fun i h => (hi i h).2.2⟩).mono fun e w' h => ⟨h.1, h.2.below⟩
set_option maxRecDepth 1000000 in
theorem idx_lifted (hOf : Hid OfSaid) (os : Os) (started : os.Started) (H : Type) (enc : TypeId × Value → H) :
    ReturnsInHanded {} Try.checked os 5 .any (Rows.statuteIndexesSpec.pre6 enc Try.prog Try.f5 Rows.statuteIndexesRow.domain false) (Rows.statuteIndexesSpec.post enc Try.prog Try.f5 false true false false) :=
  law_lift (C := Try.checked) (s := Rows.statuteIndexesSpec) own started (by kernel_rfl) Try.func5
    (ChangeSpec.witness6 (enc := enc) (C := Try.checked) false ⟨#[], #[(.agg #[.int .i64 0, .int .i64 0, .int .i64 0, .slice none 0 0, .slice none 0 0, .slice none 0 0, .slice none 0 0, .slice none 0 0, .slice none 0 0, .int .i64 0]), .slice none 0 0, .int .i64 0, .int .i64 0, .int .i64 0], []⟩ 8 (by kernel_rfl) (by kernel_rfl) (by kernel_rfl) (by kernel_rfl))
    laidOut (by kernel_rfl) rfl Try.underlying4 rfl (fun ds hds => by
      match ds, hds with
      | [d0, d1, d2, d3, d4], _ => rfl) (idx_law hOf enc)
theorem idx_holds (hOf : Hid OfSaid) : Rows.StatuteIndexesSaid :=
  OpenClaim.holds_of_wide 5 Try.f5 rfl rfl rfl rfl rfl rfl rfl ⟨rfl, rfl, rfl, rfl, rfl⟩ rfl rfl rfl rfl rfl (by kernel_rfl) Try.func5 (by kernel_rfl)
    (of_decide_eq_true (by kernel_rfl)) (by unfold Func.isWrapper; first | (rw [if_pos (by decide +kernel)]; kernel_rfl) | (rw [if_neg (by decide +kernel)]; exact ⟨rfl, rfl⟩))
    (fun os started H enc _ => idx_lifted hOf os started H enc)
end Go.Proofs.Ytldelkkeimlfcaa
