/- Valid values, in the reference and in the program; number and truth. -/
import Derived.Test.YtlheailebbngiaaGreatDoorQFrAll
import Derived.Test.YtlheailebbngiaaGreatDoorQNames
set_option linter.all false
namespace Go.Proofs.YtlheailebbngiaaGreatDoor
open Go.RowKit
def valV (x : Val) : Value := .agg #[.int .i64 x.dim, .bool x.yes, .int .i64 x.n, .int .i64 x.d]
def VRng (x : Val) : Prop := I64 x.n ∧ I64 x.d
set_option maxHeartbeats 4000000 in
theorem ValidValue8_any (x : Val) (w : World) (hr : VRng x) : Calls Tryz.prog 31 #[valV x] w fun r w' => r = .returned (.bool x.ok) ∧ w.Grows w' := by
  have HV := Lib.hid (fun w => Valid1_any x.n x.d w hr.1.1 hr.1.2 hr.2.1 hr.2.2)
  have HF : Hid (x.ok = if x.dim = 1 then decide (x.n = 0 ∧ x.d = 0) else decide (2 ≤ x.dim ∧ x.dim ≤ 4) && !x.yes && vfrac x.n x.d) := Lib.hid rfl
  clear hr
  generalize vfrac x.n x.d = q at *
  obtain ⟨m, yes, n, d⟩ := x
  dsimp only at HV HF ⊢
  generalize hok : Val.ok ⟨m, yes, n, d⟩ = okv at *
  clear hok
  show Calls Tryz.prog 31 #[.agg #[.int .i64 m, .bool yes, .int .i64 n, .int .i64 d]] w _
  by_cases h1 : m = 1
  · subst h1
    rw [if_pos rfl] at HF
    by_cases c1 : n = 0
    · subst c1
      by_cases c2 : d = 0
      · subst c2
        go_enter Tryz.func31, Tryz.ntmps31
        go_wp2_with fail
        go_returns
        exact ⟨ret_bool (by rw [HF.out]; rfl), .of_below (by (exact belB))⟩
      · have e2 : (d == 0) = false := by simpa using c2
        have HN := Lib.hid c2
        clear c2
        go_enter Tryz.func31, Tryz.ntmps31
        go_wp2_with fail
        go_returns
        exact ⟨ret_bool (by rw [HF.out]; have := HN.out; simp [this]), .of_below (by (exact belB))⟩
    · have e2 : (n == 0) = false := by simpa using c1
      have HN := Lib.hid c1
      clear c1
      go_enter Tryz.func31, Tryz.ntmps31
      go_wp2_with fail
      go_returns
      exact ⟨ret_bool (by rw [HF.out]; have := HN.out; simp [this]), .of_below (by (exact belB))⟩
  · rw [if_neg h1] at HF
    have e1 : (m == 1) = false := by simpa using h1
    by_cases hm : 2 ≤ m ∧ m ≤ 4
    · rw [decide_eq_true hm, Bool.true_and] at HF
      rcases (show m = 2 ∨ m = 3 ∨ m = 4 by omega) with rfl | rfl | rfl
      all_goals
        cases yes
        all_goals
          cases q
          all_goals
            go_enter Tryz.func31, Tryz.ntmps31
            go_wp2_with (first | (go_at_call 60; refine (HV.out _).mono ?_; rintro e' w' ⟨rfl, bs2, d2, rfl⟩) | (go_at_call 55; refine (HV.out _).mono ?_; rintro e' w' ⟨rfl, bs2, d2, rfl⟩))
            go_returns
            exact ⟨ret_bool (by rw [HF.out]; rfl), .of_below (by (exact belB))⟩
    · rw [decide_eq_false hm] at HF
      by_cases h2 : m < 2
      · have e2 : (m == 2) = false := by rw [beq_eq_false_iff_ne]; omega
        have e3 : (m == 3) = false := by rw [beq_eq_false_iff_ne]; omega
        have e4 : (m == 4) = false := by rw [beq_eq_false_iff_ne]; omega
        clear hm
        go_enter Tryz.func31, Tryz.ntmps31
        go_wp2_with fail
        go_returns
        exact ⟨ret_bool (by rw [HF.out]; rfl), .of_below (by (exact belB))⟩
      · have h4 : m > 4 := by omega
        have e2 : (m == 2) = false := by rw [beq_eq_false_iff_ne]; omega
        have e3 : (m == 3) = false := by rw [beq_eq_false_iff_ne]; omega
        have e4 : (m == 4) = false := by rw [beq_eq_false_iff_ne]; omega
        clear hm
        go_enter Tryz.func31, Tryz.ntmps31
        go_wp2_with fail
        go_returns
        exact ⟨ret_bool (by rw [HF.out]; rfl), .of_below (by (exact belB))⟩
set_option maxHeartbeats 4000000 in
theorem validValue2_any (x : Val) (w : World) (hr : VRng x) : Calls Tryz.prog 66 #[valV x] w fun r w' => r = .returned (.bool x.ok) ∧ w.Grows w' := by
  have HV := Lib.hid (fun w => Valid2_any x.n x.d w hr.1.1 hr.1.2 hr.2.1 hr.2.2)
  have HF : Hid (x.ok = if x.dim = 1 then decide (x.n = 0 ∧ x.d = 0) else decide (2 ≤ x.dim ∧ x.dim ≤ 4) && !x.yes && vfrac x.n x.d) := Lib.hid rfl
  clear hr
  generalize vfrac x.n x.d = q at *
  obtain ⟨m, yes, n, d⟩ := x
  dsimp only at HV HF ⊢
  generalize hok : Val.ok ⟨m, yes, n, d⟩ = okv at *
  clear hok
  show Calls Tryz.prog 66 #[.agg #[.int .i64 m, .bool yes, .int .i64 n, .int .i64 d]] w _
  by_cases h1 : m = 1
  · subst h1
    rw [if_pos rfl] at HF
    by_cases c1 : n = 0
    · subst c1
      by_cases c2 : d = 0
      · subst c2
        go_enter Tryz.func66, Tryz.ntmps66
        go_wp2_with fail
        go_returns
        exact ⟨ret_bool (by rw [HF.out]; rfl), .of_below (by (exact belB))⟩
      · have e2 : (d == 0) = false := by simpa using c2
        have HN := Lib.hid c2
        clear c2
        go_enter Tryz.func66, Tryz.ntmps66
        go_wp2_with fail
        go_returns
        exact ⟨ret_bool (by rw [HF.out]; have := HN.out; simp [this]), .of_below (by (exact belB))⟩
    · have e2 : (n == 0) = false := by simpa using c1
      have HN := Lib.hid c1
      clear c1
      go_enter Tryz.func66, Tryz.ntmps66
      go_wp2_with fail
      go_returns
      exact ⟨ret_bool (by rw [HF.out]; have := HN.out; simp [this]), .of_below (by (exact belB))⟩
  · rw [if_neg h1] at HF
    have e1 : (m == 1) = false := by simpa using h1
    by_cases hm : 2 ≤ m ∧ m ≤ 4
    · rw [decide_eq_true hm, Bool.true_and] at HF
      rcases (show m = 2 ∨ m = 3 ∨ m = 4 by omega) with rfl | rfl | rfl
      all_goals
        cases yes
        all_goals
          cases q
          all_goals
            go_enter Tryz.func66, Tryz.ntmps66
            go_wp2_with (first | (go_at_call 60; refine (HV.out _).mono ?_; rintro e' w' ⟨rfl, bs2, d2, rfl⟩) | (go_at_call 55; refine (HV.out _).mono ?_; rintro e' w' ⟨rfl, bs2, d2, rfl⟩))
            go_returns
            exact ⟨ret_bool (by rw [HF.out]; rfl), .of_below (by (exact belB))⟩
    · rw [decide_eq_false hm] at HF
      by_cases h2 : m < 2
      · have e2 : (m == 2) = false := by rw [beq_eq_false_iff_ne]; omega
        have e3 : (m == 3) = false := by rw [beq_eq_false_iff_ne]; omega
        have e4 : (m == 4) = false := by rw [beq_eq_false_iff_ne]; omega
        clear hm
        go_enter Tryz.func66, Tryz.ntmps66
        go_wp2_with fail
        go_returns
        exact ⟨ret_bool (by rw [HF.out]; rfl), .of_below (by (exact belB))⟩
      · have h4 : m > 4 := by omega
        have e2 : (m == 2) = false := by rw [beq_eq_false_iff_ne]; omega
        have e3 : (m == 3) = false := by rw [beq_eq_false_iff_ne]; omega
        have e4 : (m == 4) = false := by rw [beq_eq_false_iff_ne]; omega
        clear hm
        go_enter Tryz.func66, Tryz.ntmps66
        go_wp2_with fail
        go_returns
        exact ⟨ret_bool (by rw [HF.out]; rfl), .of_below (by (exact belB))⟩
set_option maxHeartbeats 1000000 in
theorem evnum_any (m n d : Int) (w : World) : Calls Tryz.prog 48 #[.int .i64 m, .agg #[.int .i64 n, .int .i64 d]] w fun r w' => r = .returned (valV (.num m n d)) ∧ w.Grows w' := by
  show Calls _ _ _ _ fun r w' => r = .returned (.agg #[.int .i64 m, .bool false, .int .i64 n, .int .i64 d]) ∧ _
  go_enter Tryz.func48, Tryz.ntmps48
  go_wp2_with fail
  go_returns
  exact ⟨rfl, .of_below (by (exact belB))⟩
set_option maxHeartbeats 1000000 in
theorem evtruth_any (b : Bool) (w : World) : Calls Tryz.prog 116 #[.bool b] w fun r w' => r = .returned (valV (.truth b)) ∧ w.Grows w' := by
  show Calls _ _ _ _ fun r w' => r = .returned (.agg #[.int .i64 1, .bool b, .int .i64 0, .int .i64 0]) ∧ _
  go_enter Tryz.func116, Tryz.ntmps116
  go_wp2_with fail
  go_returns
  exact ⟨rfl, .of_below (by (exact belB))⟩
end Go.Proofs.YtlheailebbngiaaGreatDoor
