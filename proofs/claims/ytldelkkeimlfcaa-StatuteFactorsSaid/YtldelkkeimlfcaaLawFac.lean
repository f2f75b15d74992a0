/- StatuteFactors: the walk. -/
import Derived.Test.YtldelkkeimlfcaaAwake
import Derived.Test.YtldelkkeimlfcaaOfSaid
set_option linter.all false
namespace Go.Proofs.Ytldelkkeimlfcaa
open Go.RowKit

set_option maxHeartbeats 4000000 in
theorem fac_short (hOf : Hid OfSaid) (R : RawV) (c0 c1 c2 c3 c4 c5 c6 c7 c8 c9 vr : Value) (n : Nat) (y nu de : Nat → Int) (year Y : Int) (w : World) (hR : RawAt w [c0, c1, c2, c3, c4, c5, c6, c7, c8, c9] R) (hS : SeriesAt w vr n y nu de) (hn : n ≤ 40) (hY : I64 year) (h5 : (year.tmod 5 = 0 ∧ Y = year) ∨ (¬ year.tmod 5 = 0 ∧ Y = 1900 + pick year 200)) :
    Calls Try.prog 3 #[.agg #[c0, c1, c2, c3, c4, c5, c6, c7, c8, c9], vr, .int .i64 year] w fun e w' => e = .returned (.bool true) ∧ w.Grows w' := by
  have HR := Lib.hid hR
  have HS := Lib.hid hS
  obtain ⟨-, a, cap, rfl, -⟩ := hS
  obtain ⟨-, -, -, -, vc, vs, vl, vi, vp, vu, he, -⟩ := hR
  simp only [List.cons.injEq, and_true] at he
  obtain ⟨rfl, rfl, rfl, rfl, rfl, rfl, rfl, rfl, rfl, rfl⟩ := he
  have hn40 : ¬ (40 : Int) < (n : Int) := by omega
  have hp := pick_bd year 200 (by omega)
  obtain ⟨hp1, hp2⟩ := hp
  rcases h5 with ⟨h5, rfl⟩ | ⟨h5, hYe⟩
  · have hb5 : (Y.tmod 5 != 0) = false := by simp [h5]
    clear h5
    go_enter Try.func3, Try.ntmps3
    go_wp2_with fail
    refine (hOf.out R _ _ (HR.out.below (by (repeat' (first | (with_reducible exact Below.refl _ _) | (with_reducible assumption) | (with_reducible refine Below.grow ?_ ?_ _ _) | (with_reducible refine Below.alloc ?_ ?_ _) | (with_reducible refine Below.drewN ?_ _) | (with_reducible refine Below.drew ?_) | (with_reducible refine Below.setCell ?_ ?_ _) | go_size))))).mono ?_
    rintro e w' ⟨v3, v4, v5, v6, v7, rfl, ⟨bs, dr, rfl⟩, hver⟩
    have HSE := Lib.hid (hver.series (ofP_se R))
    obtain ⟨⟨a3, n3, k3, rfl⟩, ⟨a4, n4, k4, rfl⟩, ⟨a5, n5, k5, rfl⟩, ⟨a6, n6, k6, rfl⟩, ⟨a7, n7, k7, rfl⟩⟩ := hver.forms
    clear hver
    go_wp2_with (fail)
    have HSX := Lib.hid ((HSE.out.alloc (.cells #[.int .i64 (ofP R).frm, .int .i64 (ofP R).mode, .int .i64 (ofP R).unit, .slice a3 n3 k3, .slice a4 n4 k4, .slice a5 n5 k5, .slice a6 n6 k6, .slice a7 n7 k7] 34)).alloc (.cells #[.int .i64 0, .int .i64 0, .int .i64 0, .slice none 0 0, .slice a n cap, .slice none 0 0, .slice none 0 0, .slice none 0 0] 34))
    have HSY := Lib.hid ((((HS.out.alloc (.cells #[.int .i64 R.frm, .int .i64 R.mode, .int .i64 R.unit, c3, c4, c5, c6, c7, c8, .int .i64 R.twist] 25)).grow bs dr).alloc (.cells #[.int .i64 (ofP R).frm, .int .i64 (ofP R).mode, .int .i64 (ofP R).unit, .slice a3 n3 k3, .slice a4 n4 k4, .slice a5 n5 k5, .slice a6 n6 k6, .slice a7 n7 k7] 34)).alloc (.cells #[.int .i64 0, .int .i64 0, .int .i64 0, .slice none 0 0, .slice a n cap, .slice none 0 0, .slice none 0 0, .slice none 0 0] 34))
    refine wp_region_quietG (by kernel_rfl) (by kernel_rfl) ?_
    repeat (go_big_quiet_step (first
      | (go_at_call 11; exact Calls.quietG (awake_any _))
      | (go_at_call 12; exact Calls.quietG (Factor2_any _ _ _ _ _ _ _ _ _ _ _ _ (Y) _ (HSX.out.grow _ _)))
      | (go_at_call 12; exact Calls.quietG (Factor2_any _ _ _ _ _ _ _ _ _ _ _ _ (Y) _ (HSY.out.grow _ _)))
      | (go_at_call 13; exact Calls.quietG (Factor1_any _ _ _ _ _ _ _ _ _ _ _ _ (Y) _ (HSX.out.grow _ _)))
      | (go_at_call 13; exact Calls.quietG (Factor1_any _ _ _ _ _ _ _ _ _ _ _ _ (Y) _ (HSY.out.grow _ _)))))
    refine wpQuiet_nil ?_
    intro _ hw'
    obtain ⟨⟨gb, gd⟩, hw''⟩ := hw'
    subst hw''
    go_wp2_with fail
    go_returns
    exact ⟨rfl, .of_below (by (repeat' (first | (with_reducible exact Below.refl _ _) | (with_reducible assumption) | (with_reducible refine Below.grow ?_ ?_ _ _) | (with_reducible refine Below.alloc ?_ ?_ _) | (with_reducible refine Below.drewN ?_ _) | (with_reducible refine Below.drew ?_) | (with_reducible refine Below.setCell ?_ ?_ _) | go_size)))⟩
  · have hb5 : (year.tmod 5 != 0) = true := by simp [h5]
    clear h5 hYe
    go_enter Try.func3, Try.ntmps3
    go_wp2_with fail
    refine (hOf.out R _ _ (HR.out.below (by (repeat' (first | (with_reducible exact Below.refl _ _) | (with_reducible assumption) | (with_reducible refine Below.grow ?_ ?_ _ _) | (with_reducible refine Below.alloc ?_ ?_ _) | (with_reducible refine Below.drewN ?_ _) | (with_reducible refine Below.drew ?_) | (with_reducible refine Below.setCell ?_ ?_ _) | go_size))))).mono ?_
    rintro e w' ⟨v3, v4, v5, v6, v7, rfl, ⟨bs, dr, rfl⟩, hver⟩
    have HSE := Lib.hid (hver.series (ofP_se R))
    obtain ⟨⟨a3, n3, k3, rfl⟩, ⟨a4, n4, k4, rfl⟩, ⟨a5, n5, k5, rfl⟩, ⟨a6, n6, k6, rfl⟩, ⟨a7, n7, k7, rfl⟩⟩ := hver.forms
    clear hver
    go_wp2_with (go_at_call 10; refine (Pick_any _ _ _ (by omega)).mono ?_; rintro e w' ⟨rfl, rfl⟩)
    have HSX := Lib.hid ((HSE.out.alloc (.cells #[.int .i64 (ofP R).frm, .int .i64 (ofP R).mode, .int .i64 (ofP R).unit, .slice a3 n3 k3, .slice a4 n4 k4, .slice a5 n5 k5, .slice a6 n6 k6, .slice a7 n7 k7] 34)).alloc (.cells #[.int .i64 0, .int .i64 0, .int .i64 0, .slice none 0 0, .slice a n cap, .slice none 0 0, .slice none 0 0, .slice none 0 0] 34))
    have HSY := Lib.hid ((((HS.out.alloc (.cells #[.int .i64 R.frm, .int .i64 R.mode, .int .i64 R.unit, c3, c4, c5, c6, c7, c8, .int .i64 R.twist] 25)).grow bs dr).alloc (.cells #[.int .i64 (ofP R).frm, .int .i64 (ofP R).mode, .int .i64 (ofP R).unit, .slice a3 n3 k3, .slice a4 n4 k4, .slice a5 n5 k5, .slice a6 n6 k6, .slice a7 n7 k7] 34)).alloc (.cells #[.int .i64 0, .int .i64 0, .int .i64 0, .slice none 0 0, .slice a n cap, .slice none 0 0, .slice none 0 0, .slice none 0 0] 34))
    refine wp_region_quietG (by kernel_rfl) (by kernel_rfl) ?_
    repeat (go_big_quiet_step (first
      | (go_at_call 11; exact Calls.quietG (awake_any _))
      | (go_at_call 12; exact Calls.quietG (Factor2_any _ _ _ _ _ _ _ _ _ _ _ _ (1900 + pick year 200) _ (HSX.out.grow _ _)))
      | (go_at_call 12; exact Calls.quietG (Factor2_any _ _ _ _ _ _ _ _ _ _ _ _ (1900 + pick year 200) _ (HSY.out.grow _ _)))
      | (go_at_call 13; exact Calls.quietG (Factor1_any _ _ _ _ _ _ _ _ _ _ _ _ (1900 + pick year 200) _ (HSX.out.grow _ _)))
      | (go_at_call 13; exact Calls.quietG (Factor1_any _ _ _ _ _ _ _ _ _ _ _ _ (1900 + pick year 200) _ (HSY.out.grow _ _)))))
    refine wpQuiet_nil ?_
    intro _ hw'
    obtain ⟨⟨gb, gd⟩, hw''⟩ := hw'
    subst hw''
    go_wp2_with fail
    go_returns
    exact ⟨rfl, .of_below (by (repeat' (first | (with_reducible exact Below.refl _ _) | (with_reducible assumption) | (with_reducible refine Below.grow ?_ ?_ _ _) | (with_reducible refine Below.alloc ?_ ?_ _) | (with_reducible refine Below.drewN ?_ _) | (with_reducible refine Below.drew ?_) | (with_reducible refine Below.setCell ?_ ?_ _) | go_size)))⟩
theorem fac_long (c0 c1 c2 c3 c4 c5 c6 c7 c8 c9 vr : Value) (n : Nat) (y nu de : Nat → Int) (year : Int) (w : World) (hS : SeriesAt w vr n y nu de) (hn : 40 < n) :
    Calls Try.prog 3 #[.agg #[c0, c1, c2, c3, c4, c5, c6, c7, c8, c9], vr, .int .i64 year] w fun e w' => e = .returned (.bool true) ∧ w.Grows w' := by
  obtain ⟨-, a, cap, rfl, -⟩ := hS
  have hn40 : (40 : Int) < (n : Int) := by omega
  go_enter Try.func3, Try.ntmps3
  go_wp2_with fail
  go_returns
  exact ⟨rfl, .of_below (by (repeat' (first | (with_reducible exact Below.refl _ _) | (with_reducible assumption) | (with_reducible refine Below.grow ?_ ?_ _ _) | (with_reducible refine Below.alloc ?_ ?_ _) | (with_reducible refine Below.drewN ?_ _) | (with_reducible refine Below.drew ?_) | (with_reducible refine Below.setCell ?_ ?_ _) | go_size)))⟩
theorem fac_any (hOf : Hid OfSaid) (R : RawV) (cs : Array Value) (vr : Value) (n : Nat) (y nu de : Nat → Int) (year : Int) (w : World) (hR : RawAt w cs.toList R) (hS : SeriesAt w vr n y nu de) (hY : I64 year) :
    Calls Try.prog 3 #[.agg cs, vr, .int .i64 year] w fun e w' => e = .returned (.bool true) ∧ w.Grows w' := by
  have hR' := hR
  obtain ⟨-, -, -, -, vc, vs, vl, vi, vp, vu, he, -⟩ := hR
  obtain ⟨l⟩ := cs
  simp only at he
  subst he
  by_cases hn : n ≤ 40
  · by_cases h5 : year.tmod 5 = 0
    · exact fac_short hOf R _ _ _ _ _ _ _ _ _ _ vr n y nu de year year w hR' hS hn hY (.inl ⟨h5, rfl⟩)
    · exact fac_short hOf R _ _ _ _ _ _ _ _ _ _ vr n y nu de year _ w hR' hS hn hY (.inr ⟨h5, rfl⟩)
  · exact fac_long _ _ _ _ _ _ _ _ _ _ vr n y nu de year w hS (by omega)
end Go.Proofs.Ytldelkkeimlfcaa
