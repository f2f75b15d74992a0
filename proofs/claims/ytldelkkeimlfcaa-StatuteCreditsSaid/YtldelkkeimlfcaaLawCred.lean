/- StatuteCredits: for every input the law returns true, and its arguments read as they did. No condition. -/
import Derived.Test.YtldelkkeimlfcaaAwake
import Derived.Test.YtldelkkeimlfcaaCred
import Derived.Test.YtldelkkeimlfcaaFrame
set_option linter.all false
namespace Go.Proofs.Ytldelkkeimlfcaa
open Go.ChangeShapes Go.WideShapes Go.ChangeAt Go.RowKit
set_option maxHeartbeats 4000000 in
theorem cred_any (hOf : Hid OfSaid) (R : RawV) (cs : Array Value) (K : Int) (w : World) (hR : RawAt w cs.toList R) :
    Calls Try.prog 6 #[.agg cs, .int .i64 K] w fun e w' => e = .returned (.bool true) ∧ w.Grows w' := by
  have HR := Lib.hid hR
  obtain ⟨-, -, -, -, vc, vs, vl, vi, vp, vu, he, -⟩ := hR
  obtain ⟨l⟩ := cs
  simp only at he
  subst he
  obtain ⟨hp1, hp2⟩ := pick_bd K 17 (by omega)
  go_enter Try.func6, Try.ntmps6
  go_wp2_with fail
  refine (hOf.out R _ _ (HR.out.below (by (repeat' (first | (with_reducible exact Below.refl _ _) | (with_reducible assumption) | (with_reducible refine Below.grow ?_ ?_ _ _) | (with_reducible refine Below.alloc ?_ ?_ _) | (with_reducible refine Below.drewN ?_ _) | (with_reducible refine Below.drew ?_) | (with_reducible refine Below.setCell ?_ ?_ _) | go_size))))).mono ?_
  rintro e w' ⟨v3, v4, v5, v6, v7, rfl, ⟨bs, dr, rfl⟩, hver⟩
  have HSE := Lib.hid (hver.credits (ofP_cr R))
  obtain ⟨⟨a3, n3, k3, rfl⟩, ⟨a4, n4, k4, rfl⟩, ⟨a5, n5, k5, rfl⟩, ⟨a6, n6, k6, rfl⟩, ⟨a7, n7, k7, rfl⟩⟩ := hver.forms
  clear hver
  go_wp2_with (go_at_call 10; refine (Pick_any _ _ _ (by omega)).mono ?_; rintro e w' ⟨rfl, rfl⟩)
  refine (credit2_walk _ _ _ _ _ _ _ _ (ofP R).cr.length (crK (ofP R)) (crM (ofP R)) _ _ (by (repeat' (first | (with_reducible exact HSE.out) | (with_reducible refine CreditsAt.alloc ?_ _) | (with_reducible refine CreditsAt.grow ?_ _ _))))).mono ?_
  rintro e w' ⟨r, rfl, hf, bs2, dr2, rfl⟩
  have HF := Lib.hid hf
  rcases hf with ⟨rfl, -⟩ | ⟨k, hk, rfl, -, -⟩
  · simp only [credV_no]
    go_wp2_with fail
    refine (credit1_walk _ _ _ _ _ _ _ _ (ofP R).cr.length (crK (ofP R)) (crM (ofP R)) _ _ (by (repeat' (first | (with_reducible exact HSE.out) | (with_reducible refine CreditsAt.alloc ?_ _) | (with_reducible refine CreditsAt.grow ?_ _ _))))).mono ?_
    rintro e w' ⟨r', rfl, hf', bs3, dr3, rfl⟩
    obtain rfl := HF.out.eq hf'
    simp only [credV_no]
    clear hf'
    go_wp2_with (go_at_call 11; refine (awake_any _).mono ?_; rintro e w' ⟨rfl, bs4, dr4, rfl⟩)
    go_returns
    exact ⟨rfl, .of_below (by (repeat' (first | (with_reducible exact Below.refl _ _) | (with_reducible assumption) | (with_reducible refine Below.grow ?_ ?_ _ _) | (with_reducible refine Below.alloc ?_ ?_ _) | (with_reducible refine Below.drewN ?_ _) | (with_reducible refine Below.drew ?_) | (with_reducible refine Below.setCell ?_ ?_ _) | go_size)))⟩
  · simp only [credV_yes]
    go_wp2_with fail
    refine (credit1_walk _ _ _ _ _ _ _ _ (ofP R).cr.length (crK (ofP R)) (crM (ofP R)) _ _ (by (repeat' (first | (with_reducible exact HSE.out) | (with_reducible refine CreditsAt.alloc ?_ _) | (with_reducible refine CreditsAt.grow ?_ _ _))))).mono ?_
    rintro e w' ⟨r', rfl, hf', bs3, dr3, rfl⟩
    obtain rfl := HF.out.eq hf'
    simp only [credV_yes]
    clear hf'
    go_wp2_with (go_at_call 11; refine (awake_any _).mono ?_; rintro e w' ⟨rfl, bs4, dr4, rfl⟩)
    go_returns
    exact ⟨rfl, .of_below (by (repeat' (first | (with_reducible exact Below.refl _ _) | (with_reducible assumption) | (with_reducible refine Below.grow ?_ ?_ _ _) | (with_reducible refine Below.alloc ?_ ?_ _) | (with_reducible refine Below.drewN ?_ _) | (with_reducible refine Below.drew ?_) | (with_reducible refine Below.setCell ?_ ?_ _) | go_size)))⟩
set_option maxRecDepth 1000000 in
theorem cred_law (hOf : Hid OfSaid) {H : Type} (enc : TypeId × Value → H) : LawWalk enc Try.prog 6 [25, 3] := by
  intro W base args ds p hval hA hfit
  obtain ⟨v0, vs0, d0, ds0, p0, q0, hargs, rfl, rfl, h0, r0⟩ := trodAll_cons hA
  obtain ⟨v1, vs1, d1, ds1, p1, q1, rfl, rfl, rfl, h1, r1⟩ := trodAll_cons r0
  obtain ⟨rfl, rfl, rfl⟩ := trodAll_nil r1
  obtain rfl : args = #[v0, v1] := by cases args; simp_all
  obtain ⟨R, cs, rfl, hR⟩ := RawAt.of_trod (hval 0 _ v0 rfl rfl) h0 (hfit 0 _ _ rfl rfl)
  obtain ⟨z1, rfl, -, -, w1⟩ := open_int Try.underlying3 (hval 1 _ v1 rfl rfl) h1
  exact (cred_any hOf R cs z1 W hR).mono fun e w' h => ⟨h.1, h.2.below⟩
set_option maxRecDepth 1000000 in
theorem cred_lifted (hOf : Hid OfSaid) (os : Os) (started : os.Started) (H : Type) (enc : TypeId × Value → H) :
    ReturnsInHanded {} Try.checked os 6 .any (Rows.statuteCreditsSpec.pre6 enc Try.prog Try.f6 Rows.statuteCreditsRow.domain false) (Rows.statuteCreditsSpec.post enc Try.prog Try.f6 false true false false) :=
  law_lift (C := Try.checked) (s := Rows.statuteCreditsSpec) own started (by kernel_rfl) Try.func6
    (ChangeSpec.witness6 (enc := enc) (C := Try.checked) false ⟨#[], #[(.agg #[.int .i64 0, .int .i64 0, .int .i64 0, .slice none 0 0, .slice none 0 0, .slice none 0 0, .slice none 0 0, .slice none 0 0, .slice none 0 0, .int .i64 0]), .int .i64 0], []⟩ 8 (by kernel_rfl) (by kernel_rfl) (by kernel_rfl) (by kernel_rfl))
    laidOut (by kernel_rfl) rfl Try.underlying4 rfl (fun ds hds => by
      match ds, hds with
      | [d0, d1], _ => rfl) (cred_law hOf enc)
theorem cred_holds (hOf : Hid OfSaid) : Rows.StatuteCreditsSaid :=
  OpenClaim.holds_of_wide 6 Try.f6 rfl rfl rfl rfl rfl rfl rfl ⟨rfl, rfl, rfl, rfl, rfl⟩ rfl rfl rfl rfl rfl (by kernel_rfl) Try.func6 (by kernel_rfl)
    (of_decide_eq_true (by kernel_rfl)) (by unfold Func.isWrapper; first | (rw [if_pos (by decide +kernel)]; kernel_rfl) | (rw [if_neg (by decide +kernel)]; exact ⟨rfl, rfl⟩))
    (fun os started H enc _ => cred_lifted hOf os started H enc)
end Go.Proofs.Ytldelkkeimlfcaa
