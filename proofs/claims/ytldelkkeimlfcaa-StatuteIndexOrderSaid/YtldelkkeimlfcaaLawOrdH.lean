/- StatuteIndexOrder: for every input the law returns true, and its arguments read as they did. No condition. -/
import Derived.Test.YtldelkkeimlfcaaLawOrd
import Derived.Test.YtldelkkeimlfcaaFrame
set_option linter.all false
namespace Go.Proofs.Ytldelkkeimlfcaa
open Go.ChangeShapes Go.WideShapes Go.ChangeAt Go.RowKit
set_option maxRecDepth 1000000 in
theorem ord_law (hOf : Hid OfSaid) {H : Type} (enc : TypeId × Value → H) : LawWalk enc Try.prog 4 [25, 3, 3, 3, 3, 3] := by
  intro W base args ds p hval hA hfit
  obtain ⟨v0, vs0, d0, ds0, p0, q0, hargs, rfl, rfl, h0, r0⟩ := trodAll_cons hA
  obtain ⟨v1, vs1, d1, ds1, p1, q1, rfl, rfl, rfl, h1, r1⟩ := trodAll_cons r0
  obtain ⟨v2, vs2, d2, ds2, p2, q2, rfl, rfl, rfl, h2, r2⟩ := trodAll_cons r1
  obtain ⟨v3, vs3, d3, ds3, p3, q3, rfl, rfl, rfl, h3, r3⟩ := trodAll_cons r2
  obtain ⟨v4, vs4, d4, ds4, p4, q4, rfl, rfl, rfl, h4, r4⟩ := trodAll_cons r3
  obtain ⟨v5, vs5, d5, ds5, p5, q5, rfl, rfl, rfl, h5, r5⟩ := trodAll_cons r4
  obtain ⟨rfl, rfl, rfl⟩ := trodAll_nil r5
  obtain rfl : args = #[v0, v1, v2, v3, v4, v5] := by cases args; simp_all
  obtain ⟨R, cs, rfl, hR⟩ := RawAt.of_trod (hval 0 _ v0 rfl rfl) h0 (hfit 0 _ _ rfl rfl)
  obtain ⟨z1, rfl, -, -, w1⟩ := open_int Try.underlying3 (hval 1 _ v1 rfl rfl) h1
  obtain ⟨z2, rfl, -, -, w2⟩ := open_int Try.underlying3 (hval 2 _ v2 rfl rfl) h2
  obtain ⟨z3, rfl, -, -, w3⟩ := open_int Try.underlying3 (hval 3 _ v3 rfl rfl) h3
  obtain ⟨z4, rfl, -, -, w4⟩ := open_int Try.underlying3 (hval 4 _ v4 rfl rfl) h4
  obtain ⟨z5, rfl, -, -, w5⟩ := open_int Try.underlying3 (hval 5 _ v5 rfl rfl) h5
  exact (ord_any hOf R cs z1 z2 z3 z4 z5 W hR).mono fun e w' h => ⟨h.1, h.2.below⟩
set_option maxRecDepth 1000000 in
theorem ord_lifted (hOf : Hid OfSaid) (os : Os) (started : os.Started) (H : Type) (enc : TypeId × Value → H) :
    ReturnsInHanded {} Try.checked os 4 .any (Rows.statuteIndexOrderSpec.pre6 enc Try.prog Try.f4 Rows.statuteIndexOrderRow.domain false) (Rows.statuteIndexOrderSpec.post enc Try.prog Try.f4 false true false false) :=
  law_lift (C := Try.checked) (s := Rows.statuteIndexOrderSpec) own started (by kernel_rfl) Try.func4
    (ChangeSpec.witness6 (enc := enc) (C := Try.checked) false ⟨#[], #[(.agg #[.int .i64 0, .int .i64 0, .int .i64 0, .slice none 0 0, .slice none 0 0, .slice none 0 0, .slice none 0 0, .slice none 0 0, .slice none 0 0, .int .i64 0]), .int .i64 0, .int .i64 0, .int .i64 0, .int .i64 0, .int .i64 0], []⟩ 8 (by kernel_rfl) (by kernel_rfl) (by kernel_rfl) (by kernel_rfl))
    laidOut (by kernel_rfl) rfl Try.underlying4 rfl (fun ds hds => by
      match ds, hds with
      | [d0, d1, d2, d3, d4, d5], _ => rfl) (ord_law hOf enc)
theorem ord_holds (hOf : Hid OfSaid) : Rows.StatuteIndexOrderSaid :=
  OpenClaim.holds_of_wide 4 Try.f4 rfl rfl rfl rfl rfl rfl rfl ⟨rfl, rfl, rfl, rfl, rfl⟩ rfl rfl rfl rfl rfl (by kernel_rfl) Try.func4 (by kernel_rfl)
    (of_decide_eq_true (by kernel_rfl)) (by unfold Func.isWrapper; first | (rw [if_pos (by decide +kernel)]; kernel_rfl) | (rw [if_neg (by decide +kernel)]; exact ⟨rfl, rfl⟩))
    (fun os started H enc _ => ord_lifted hOf os started H enc)
end Go.Proofs.Ytldelkkeimlfcaa
