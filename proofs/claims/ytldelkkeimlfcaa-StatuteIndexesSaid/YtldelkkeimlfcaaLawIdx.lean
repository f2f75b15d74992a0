/- StatuteIndexes: the walk. -/
import Derived.Test.YtldelkkeimlfcaaAwake
import Derived.Test.YtldelkkeimlfcaaSerLaw
set_option linter.all false
namespace Go.Proofs.Ytldelkkeimlfcaa
open Go.RowKit
theorem VerAt.forms' {B : Nat} {w : World} {V : VerP} {v3 v4 v5 v6 v7 : Value} (h : VerAt B w V v3 v4 v5 v6 v7) : ∃ a3 n3 k3 a4 n4 k4 a5 n5 k5 a6 n6 k6 a7 n7 k7, v3 = .slice a3 n3 k3 ∧ v4 = .slice a4 n4 k4 ∧ v5 = .slice a5 n5 k5 ∧ v6 = .slice a6 n6 k6 ∧ v7 = .slice a7 n7 k7 := by
  obtain ⟨⟨a3, n3, k3, e3⟩, ⟨a4, n4, k4, e4⟩, ⟨a5, n5, k5, e5⟩, ⟨a6, n6, k6, e6⟩, ⟨a7, n7, k7, e7⟩⟩ := h.forms
  exact ⟨a3, n3, k3, a4, n4, k4, a5, n5, k5, a6, n6, k6, a7, n7, k7, e3, e4, e5, e6, e7⟩
def IRng (n : Nat) (nu de : Nat → Int) : Prop := (∀ i, i < n → -9223372036854775808 ≤ nu i ∧ nu i ≤ 9223372036854775807) ∧ ∀ i, i < n → -9223372036854775808 ≤ de i ∧ de i ≤ 9223372036854775807
theorem made_rng (R : RawV) : IRng (ofP R).se.length (seN (ofP R)) (seD (ofP R)) :=
  ⟨fun i hi => by have := (seOk R i hi).rng; omega, fun i hi => by have := (seOk R i hi).rng; omega⟩
/-- Indexed on both sides, told of the series' place alone. -/
theorem idx_two (c0 c1 c2 c3 c4 c5 c6 c7 : Value) (n : Nat) (y nu de : Nat → Int) (N Y F : Int) (hr : IRng n nu de) : ∃ A E : Int, (∀ w, SeriesAt w c4 n y nu de → Calls Try.prog 14 #[.agg #[c0, c1, c2, c3, c4, c5, c6, c7], .int .i64 N, .int .i64 Y, .int .i64 F] w fun e w' => e = .returned (.tuple #[.int .i64 A, .int .i64 E]) ∧ w.Grows w') ∧
    ∀ w, SeriesAt w c4 n y nu de → Calls Try.prog 15 #[.agg #[c0, c1, c2, c3, c4, c5, c6, c7], .int .i64 N, .int .i64 Y, .int .i64 F] w fun e w' => e = .returned (.tuple #[.int .i64 A, .int .i64 E]) ∧ w.Grows w' :=
  ⟨_, _, fun w h => Indexed2_any c0 c1 c2 c3 c4 c5 c6 c7 n y nu de N Y F w h hr.1 hr.2, fun w h => Indexed1_any c0 c1 c2 c3 c4 c5 c6 c7 n y nu de N Y F w h hr.1 hr.2⟩
set_option maxHeartbeats 4000000 in
theorem idx_short (hOf : Hid OfSaid) (R : RawV) (c0 c1 c2 c3 c4 c5 c6 c7 c8 c9 vr : Value) (n : Nat) (y nu de : Nat → Int) (N Y F : Int) (w : World) (hR : RawAt w [c0, c1, c2, c3, c4, c5, c6, c7, c8, c9] R) (hS : SeriesAt w vr n y nu de) (hr : IRng n nu de) (hn : n ≤ 40) :
    Calls Try.prog 5 #[.agg #[c0, c1, c2, c3, c4, c5, c6, c7, c8, c9], vr, .int .i64 N, .int .i64 Y, .int .i64 F] w fun e w' => e = .returned (.bool true) ∧ w.Grows w' := by
  have HR := Lib.hid hR
  have HS := Lib.hid hS
  have HI := Lib.hid hr
  obtain ⟨-, a, cap, rfl, -⟩ := hS
  obtain ⟨-, -, -, -, vc, vs, vl, vi, vp, vu, he, -⟩ := hR
  simp only [List.cons.injEq, and_true] at he
  obtain ⟨rfl, rfl, rfl, rfl, rfl, rfl, rfl, rfl, rfl, rfl⟩ := he
  have hn40 : ¬ (40 : Int) < (n : Int) := by omega
  obtain ⟨hp1, hp2⟩ := pick_bd Y 200 (by omega)
  obtain ⟨hp3, hp4⟩ := pick_bd F 200 (by omega)
  obtain ⟨hp5, hp6⟩ := pick_bd N 100000000 (by omega)
  clear hr
  by_cases h4 : N.tmod 4 = 0
  · have hb4 : (N.tmod 4 == 0) = true := by simp [h4]
    by_cases h3 : N.tmod 3 = 0
    · have hb3 : (N.tmod 3 != 0) = false := by simp [h3]
      clear h3 h4
      go_enter Try.func5, Try.ntmps5
      go_wp2_with fail
      refine (hOf.out R _ _ (HR.out.below (by (repeat' (first | (with_reducible exact Below.refl _ _) | (with_reducible assumption) | (with_reducible refine Below.grow ?_ ?_ _ _) | (with_reducible refine Below.alloc ?_ ?_ _) | (with_reducible refine Below.drewN ?_ _) | (with_reducible refine Below.drew ?_) | (with_reducible refine Below.setCell ?_ ?_ _) | go_size))))).mono ?_
      rintro e w' ⟨v3, v4, v5, v6, v7, rfl, ⟨bs, dr, rfl⟩, hver⟩
      have HSE := Lib.hid (hver.series (ofP_se R))
      obtain ⟨a3, n3, k3, a4, n4, k4, a5, n5, k5, a6, n6, k6, a7, n7, k7, rfl, rfl, rfl, rfl, rfl⟩ := hver.forms'
      clear hver
      obtain ⟨X, E, hx2, hx1⟩ := idx_two (.int .i64 (ofP R).frm) (.int .i64 (ofP R).mode) (.int .i64 (ofP R).unit) (.slice a3 n3 k3) (.slice a n cap) (.slice a5 n5 k5) (.slice a6 n6 k6) (.slice a7 n7 k7) n y nu de (N) (Y) (F) HI.out
      have HX2 := Lib.hid hx2
      have HX1 := Lib.hid hx1
      clear hx2 hx1
      go_wp2_with (first
        | (go_at_call 10; refine (Pick_any _ _ _ (by omega)).mono ?_; rintro e w' ⟨rfl, rfl⟩)
        | (go_at_call 14; refine (HX2.out _ (by (repeat' (first | (with_reducible exact HSE.out) | (with_reducible exact HS.out) | (with_reducible refine SeriesAt.alloc ?_ _) | (with_reducible refine SeriesAt.grow ?_ _ _) | (with_reducible refine SeriesAt.drewN ?_ _))))).mono ?_; rintro e w' ⟨rfl, bs2, dr2, rfl⟩)
        | (go_at_call 15; refine (HX1.out _ (by (repeat' (first | (with_reducible exact HSE.out) | (with_reducible exact HS.out) | (with_reducible refine SeriesAt.alloc ?_ _) | (with_reducible refine SeriesAt.grow ?_ _ _) | (with_reducible refine SeriesAt.drewN ?_ _))))).mono ?_; rintro e w' ⟨rfl, bs3, dr3, rfl⟩)
        | (go_at_call 11; refine (awake_any _).mono ?_; rintro e w' ⟨rfl, bs4, dr4, rfl⟩))
      go_returns
      exact ⟨rfl, .of_below (by (repeat' (first | (with_reducible exact Below.refl _ _) | (with_reducible assumption) | (with_reducible refine Below.grow ?_ ?_ _ _) | (with_reducible refine Below.alloc ?_ ?_ _) | (with_reducible refine Below.drewN ?_ _) | (with_reducible refine Below.drew ?_) | (with_reducible refine Below.setCell ?_ ?_ _) | go_size)))⟩
    · have hb3 : (N.tmod 3 != 0) = true := by simp [h3]
      clear h3 h4
      go_enter Try.func5, Try.ntmps5
      go_wp2_with fail
      refine (hOf.out R _ _ (HR.out.below (by (repeat' (first | (with_reducible exact Below.refl _ _) | (with_reducible assumption) | (with_reducible refine Below.grow ?_ ?_ _ _) | (with_reducible refine Below.alloc ?_ ?_ _) | (with_reducible refine Below.drewN ?_ _) | (with_reducible refine Below.drew ?_) | (with_reducible refine Below.setCell ?_ ?_ _) | go_size))))).mono ?_
      rintro e w' ⟨v3, v4, v5, v6, v7, rfl, ⟨bs, dr, rfl⟩, hver⟩
      have HSE := Lib.hid (hver.series (ofP_se R))
      obtain ⟨a3, n3, k3, a4, n4, k4, a5, n5, k5, a6, n6, k6, a7, n7, k7, rfl, rfl, rfl, rfl, rfl⟩ := hver.forms'
      clear hver
      obtain ⟨X, E, hx2, hx1⟩ := idx_two (.int .i64 (ofP R).frm) (.int .i64 (ofP R).mode) (.int .i64 (ofP R).unit) (.slice a3 n3 k3) (.slice a n cap) (.slice a5 n5 k5) (.slice a6 n6 k6) (.slice a7 n7 k7) n y nu de (pick N 100000000) (1900 + pick Y 200) (1900 + pick F 200) HI.out
      have HX2 := Lib.hid hx2
      have HX1 := Lib.hid hx1
      clear hx2 hx1
      go_wp2_with (first
        | (go_at_call 10; refine (Pick_any _ _ _ (by omega)).mono ?_; rintro e w' ⟨rfl, rfl⟩)
        | (go_at_call 14; refine (HX2.out _ (by (repeat' (first | (with_reducible exact HSE.out) | (with_reducible exact HS.out) | (with_reducible refine SeriesAt.alloc ?_ _) | (with_reducible refine SeriesAt.grow ?_ _ _) | (with_reducible refine SeriesAt.drewN ?_ _))))).mono ?_; rintro e w' ⟨rfl, bs2, dr2, rfl⟩)
        | (go_at_call 15; refine (HX1.out _ (by (repeat' (first | (with_reducible exact HSE.out) | (with_reducible exact HS.out) | (with_reducible refine SeriesAt.alloc ?_ _) | (with_reducible refine SeriesAt.grow ?_ _ _) | (with_reducible refine SeriesAt.drewN ?_ _))))).mono ?_; rintro e w' ⟨rfl, bs3, dr3, rfl⟩)
        | (go_at_call 11; refine (awake_any _).mono ?_; rintro e w' ⟨rfl, bs4, dr4, rfl⟩))
      go_returns
      exact ⟨rfl, .of_below (by (repeat' (first | (with_reducible exact Below.refl _ _) | (with_reducible assumption) | (with_reducible refine Below.grow ?_ ?_ _ _) | (with_reducible refine Below.alloc ?_ ?_ _) | (with_reducible refine Below.drewN ?_ _) | (with_reducible refine Below.drew ?_) | (with_reducible refine Below.setCell ?_ ?_ _) | go_size)))⟩
  · have hb4 : (N.tmod 4 == 0) = false := by simp [h4]
    by_cases h3 : N.tmod 3 = 0
    · have hb3 : (N.tmod 3 != 0) = false := by simp [h3]
      clear h3 h4
      go_enter Try.func5, Try.ntmps5
      go_wp2_with fail
      refine (hOf.out R _ _ (HR.out.below (by (repeat' (first | (with_reducible exact Below.refl _ _) | (with_reducible assumption) | (with_reducible refine Below.grow ?_ ?_ _ _) | (with_reducible refine Below.alloc ?_ ?_ _) | (with_reducible refine Below.drewN ?_ _) | (with_reducible refine Below.drew ?_) | (with_reducible refine Below.setCell ?_ ?_ _) | go_size))))).mono ?_
      rintro e w' ⟨v3, v4, v5, v6, v7, rfl, ⟨bs, dr, rfl⟩, hver⟩
      have HSE := Lib.hid (hver.series (ofP_se R))
      obtain ⟨a3, n3, k3, a4, n4, k4, a5, n5, k5, a6, n6, k6, a7, n7, k7, rfl, rfl, rfl, rfl, rfl⟩ := hver.forms'
      clear hver
      obtain ⟨X, E, hx2, hx1⟩ := idx_two (.int .i64 (ofP R).frm) (.int .i64 (ofP R).mode) (.int .i64 (ofP R).unit) (.slice a3 n3 k3) (.slice a4 n4 k4) (.slice a5 n5 k5) (.slice a6 n6 k6) (.slice a7 n7 k7) (ofP R).se.length (seY (ofP R)) (seN (ofP R)) (seD (ofP R)) (N) (Y) (F) (made_rng R)
      have HX2 := Lib.hid hx2
      have HX1 := Lib.hid hx1
      clear hx2 hx1
      go_wp2_with (first
        | (go_at_call 10; refine (Pick_any _ _ _ (by omega)).mono ?_; rintro e w' ⟨rfl, rfl⟩)
        | (go_at_call 14; refine (HX2.out _ (by (repeat' (first | (with_reducible exact HSE.out) | (with_reducible exact HS.out) | (with_reducible refine SeriesAt.alloc ?_ _) | (with_reducible refine SeriesAt.grow ?_ _ _) | (with_reducible refine SeriesAt.drewN ?_ _))))).mono ?_; rintro e w' ⟨rfl, bs2, dr2, rfl⟩)
        | (go_at_call 15; refine (HX1.out _ (by (repeat' (first | (with_reducible exact HSE.out) | (with_reducible exact HS.out) | (with_reducible refine SeriesAt.alloc ?_ _) | (with_reducible refine SeriesAt.grow ?_ _ _) | (with_reducible refine SeriesAt.drewN ?_ _))))).mono ?_; rintro e w' ⟨rfl, bs3, dr3, rfl⟩)
        | (go_at_call 11; refine (awake_any _).mono ?_; rintro e w' ⟨rfl, bs4, dr4, rfl⟩))
      go_returns
      exact ⟨rfl, .of_below (by (repeat' (first | (with_reducible exact Below.refl _ _) | (with_reducible assumption) | (with_reducible refine Below.grow ?_ ?_ _ _) | (with_reducible refine Below.alloc ?_ ?_ _) | (with_reducible refine Below.drewN ?_ _) | (with_reducible refine Below.drew ?_) | (with_reducible refine Below.setCell ?_ ?_ _) | go_size)))⟩
    · have hb3 : (N.tmod 3 != 0) = true := by simp [h3]
      clear h3 h4
      go_enter Try.func5, Try.ntmps5
      go_wp2_with fail
      refine (hOf.out R _ _ (HR.out.below (by (repeat' (first | (with_reducible exact Below.refl _ _) | (with_reducible assumption) | (with_reducible refine Below.grow ?_ ?_ _ _) | (with_reducible refine Below.alloc ?_ ?_ _) | (with_reducible refine Below.drewN ?_ _) | (with_reducible refine Below.drew ?_) | (with_reducible refine Below.setCell ?_ ?_ _) | go_size))))).mono ?_
      rintro e w' ⟨v3, v4, v5, v6, v7, rfl, ⟨bs, dr, rfl⟩, hver⟩
      have HSE := Lib.hid (hver.series (ofP_se R))
      obtain ⟨a3, n3, k3, a4, n4, k4, a5, n5, k5, a6, n6, k6, a7, n7, k7, rfl, rfl, rfl, rfl, rfl⟩ := hver.forms'
      clear hver
      obtain ⟨X, E, hx2, hx1⟩ := idx_two (.int .i64 (ofP R).frm) (.int .i64 (ofP R).mode) (.int .i64 (ofP R).unit) (.slice a3 n3 k3) (.slice a4 n4 k4) (.slice a5 n5 k5) (.slice a6 n6 k6) (.slice a7 n7 k7) (ofP R).se.length (seY (ofP R)) (seN (ofP R)) (seD (ofP R)) (pick N 100000000) (1900 + pick Y 200) (1900 + pick F 200) (made_rng R)
      have HX2 := Lib.hid hx2
      have HX1 := Lib.hid hx1
      clear hx2 hx1
      go_wp2_with (first
        | (go_at_call 10; refine (Pick_any _ _ _ (by omega)).mono ?_; rintro e w' ⟨rfl, rfl⟩)
        | (go_at_call 14; refine (HX2.out _ (by (repeat' (first | (with_reducible exact HSE.out) | (with_reducible exact HS.out) | (with_reducible refine SeriesAt.alloc ?_ _) | (with_reducible refine SeriesAt.grow ?_ _ _) | (with_reducible refine SeriesAt.drewN ?_ _))))).mono ?_; rintro e w' ⟨rfl, bs2, dr2, rfl⟩)
        | (go_at_call 15; refine (HX1.out _ (by (repeat' (first | (with_reducible exact HSE.out) | (with_reducible exact HS.out) | (with_reducible refine SeriesAt.alloc ?_ _) | (with_reducible refine SeriesAt.grow ?_ _ _) | (with_reducible refine SeriesAt.drewN ?_ _))))).mono ?_; rintro e w' ⟨rfl, bs3, dr3, rfl⟩)
        | (go_at_call 11; refine (awake_any _).mono ?_; rintro e w' ⟨rfl, bs4, dr4, rfl⟩))
      go_returns
      exact ⟨rfl, .of_below (by (repeat' (first | (with_reducible exact Below.refl _ _) | (with_reducible assumption) | (with_reducible refine Below.grow ?_ ?_ _ _) | (with_reducible refine Below.alloc ?_ ?_ _) | (with_reducible refine Below.drewN ?_ _) | (with_reducible refine Below.drew ?_) | (with_reducible refine Below.setCell ?_ ?_ _) | go_size)))⟩
theorem idx_long (c0 c1 c2 c3 c4 c5 c6 c7 c8 c9 vr : Value) (n : Nat) (y nu de : Nat → Int) (N Y F : Int) (w : World) (hS : SeriesAt w vr n y nu de) (hn : 40 < n) :
    Calls Try.prog 5 #[.agg #[c0, c1, c2, c3, c4, c5, c6, c7, c8, c9], vr, .int .i64 N, .int .i64 Y, .int .i64 F] w fun e w' => e = .returned (.bool true) ∧ w.Grows w' := by
  obtain ⟨-, a, cap, rfl, -⟩ := hS
  have hn40 : (40 : Int) < (n : Int) := by omega
  go_enter Try.func5, Try.ntmps5
  go_wp2_with fail
  go_returns
  exact ⟨rfl, .of_below (by (repeat' (first | (with_reducible exact Below.refl _ _) | (with_reducible assumption) | (with_reducible refine Below.grow ?_ ?_ _ _) | (with_reducible refine Below.alloc ?_ ?_ _) | (with_reducible refine Below.drewN ?_ _) | (with_reducible refine Below.drew ?_) | (with_reducible refine Below.setCell ?_ ?_ _) | go_size)))⟩
theorem idx_any (hOf : Hid OfSaid) (R : RawV) (cs : Array Value) (vr : Value) (n : Nat) (y nu de : Nat → Int) (N Y F : Int) (w : World) (hR : RawAt w cs.toList R) (hS : SeriesAt w vr n y nu de) (hr : IRng n nu de) :
    Calls Try.prog 5 #[.agg cs, vr, .int .i64 N, .int .i64 Y, .int .i64 F] w fun e w' => e = .returned (.bool true) ∧ w.Grows w' := by
  have hR' := hR
  obtain ⟨-, -, -, -, vc, vs, vl, vi, vp, vu, he, -⟩ := hR
  obtain ⟨l⟩ := cs
  simp only at he
  subst he
  by_cases hn : n ≤ 40
  · exact idx_short hOf R _ _ _ _ _ _ _ _ _ _ vr n y nu de N Y F w hR' hS hr hn
  · exact idx_long _ _ _ _ _ _ _ _ _ _ vr n y nu de N Y F w hS (by omega)
end Go.Proofs.Ytldelkkeimlfcaa
