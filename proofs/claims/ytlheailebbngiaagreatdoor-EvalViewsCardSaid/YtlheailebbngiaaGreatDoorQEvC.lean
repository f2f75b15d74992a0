/- eval.compare: the result of a comparison, in the program. -/
import Derived.Test.YtlheailebbngiaaGreatDoorQVal
import Derived.Test.YtlheailebbngiaaGreatDoorQFrCm
set_option linter.all false
namespace Go.Proofs.YtlheailebbngiaaGreatDoor
open Go.RowKit
set_option maxHeartbeats 4000000 in
theorem compare_any (op an ad bn bd : Int) (w : World) (h11 : 11 ≤ op) (h16 : op ≤ 16) (hi : I64x4 an ad bn bd) :
    Calls Tryz.prog 115 #[.int .i64 op, .agg #[.int .i64 an, .int .i64 ad], .agg #[.int .i64 bn, .int .i64 bd]] w fun r w' => r = .returned (.tuple #[.bool (cmpB op (cmpF an ad bn bd).1), .int .i64 (cmpF an ad bn bd).2]) ∧ w.Grows w' := by
  have HC := Lib.hid (fun w => Compare2_any an ad bn bd w hi)
  unfold frI at HC
  generalize cmpF an ad bn bd = q at *
  obtain ⟨c, e⟩ := q
  dsimp only at HC ⊢
  clear hi
  rcases (show op = 11 ∨ op = 12 ∨ op = 13 ∨ op = 14 ∨ op = 15 ∨ op = 16 by omega) with rfl | rfl | rfl | rfl | rfl | rfl
  all_goals
    clear h11 h16
    simp only [cmpB]
    go_enter Tryz.func115, Tryz.ntmps115
    go_wp2_with (go_at_call 143; refine (HC.out _).mono ?_; rintro e' w' ⟨rfl, bs, d, rfl⟩)
    go_returns
    exact ⟨rfl, .of_below (by (exact belB))⟩
end Go.Proofs.YtlheailebbngiaaGreatDoor
/- eval.dimension: the dimension of an arithmetic result. -/
namespace Go.Proofs.YtlheailebbngiaaGreatDoor
open Go.RowKit
def dimA (op a b : Int) : Int := if op = 9 ∧ a = 2 then b else if op = 10 ∧ b ≠ 2 then 2 else a
set_option maxHeartbeats 4000000 in
theorem dimension_any (op a b : Int) (w : World) :
    Calls Tryz.prog 118 #[.int .i64 op, .int .i64 a, .int .i64 b] w fun r w' => r = .returned (.int .i64 (dimA op a b)) ∧ w.Grows w' := by
  go_enter Tryz.func118, Tryz.ntmps118
  go_wp2_with fail
  all_goals
    go_returns
    exact ⟨ret_int (by unfold dimA; simp_all), .of_below (by (exact belB))⟩
end Go.Proofs.YtlheailebbngiaaGreatDoor
/- eval.arithmetic: the result of an operation on two numbers. -/
namespace Go.Proofs.YtlheailebbngiaaGreatDoor
open Go.RowKit
/-- The program's least and greatest: the second operand where both are equal (min), the first (max). -/
def arF (op an ad bn bd : Int) : Int × Int × Int :=
  if op = 7 then addF an ad bn bd else if op = 8 then subF an ad bn bd else if op = 9 then mulF an ad bn bd else if op = 10 then divF an ad bn bd
  else if op = 19 then (if (cmpF an ad bn bd).1 < 0 then (an, ad, (cmpF an ad bn bd).2) else (bn, bd, (cmpF an ad bn bd).2))
  else if (cmpF an ad bn bd).1 < 0 then (bn, bd, (cmpF an ad bn bd).2) else (an, ad, (cmpF an ad bn bd).2)
set_option maxHeartbeats 4000000 in
theorem arith_any (op an ad bn bd : Int) (w : World) (ho : op = 7 ∨ op = 8 ∨ op = 9 ∨ op = 10 ∨ op = 19 ∨ op = 20) (hi : I64x4 an ad bn bd) :
    Calls Tryz.prog 117 #[.int .i64 op, .agg #[.int .i64 an, .int .i64 ad], .agg #[.int .i64 bn, .int .i64 bd]] w fun r w' => r = .returned (frV (arF op an ad bn bd)) ∧ w.Grows w' := by
  have HA := Lib.hid (fun w => Add2_any an ad bn bd w hi)
  have HS := Lib.hid (fun w => Sub2_any an ad bn bd w hi)
  have HM := Lib.hid (fun w => Mul2_any an ad bn bd w hi)
  have HD := Lib.hid (fun w => Div2_any an ad bn bd w hi)
  have HC := Lib.hid (fun w => Compare2_any an ad bn bd w hi)
  unfold frI at HC
  unfold frV at HA HS HM HD ⊢
  have HF := Lib.hid (show arF op an ad bn bd = arF op an ad bn bd from rfl)
  generalize hr : arF op an ad bn bd = R at HF ⊢
  clear HF
  unfold arF at hr
  generalize addF an ad bn bd = qa at *
  generalize subF an ad bn bd = qs at *
  generalize mulF an ad bn bd = qm at *
  generalize divF an ad bn bd = qd at *
  generalize cmpF an ad bn bd = qc at *
  clear hi
  have HR := Lib.hid hr
  clear hr
  by_cases hc : qc.1 < 0
  all_goals
    rcases ho with rfl | rfl | rfl | rfl | rfl | rfl
    all_goals
      go_enter Tryz.func117, Tryz.ntmps117
      go_wp2_with (first
        | (go_at_call 144; refine (HA.out _).mono ?_; rintro e' w' ⟨rfl, bs, d, rfl⟩)
        | (go_at_call 145; refine (HS.out _).mono ?_; rintro e' w' ⟨rfl, bs, d, rfl⟩)
        | (go_at_call 146; refine (HM.out _).mono ?_; rintro e' w' ⟨rfl, bs, d, rfl⟩)
        | (go_at_call 147; refine (HD.out _).mono ?_; rintro e' w' ⟨rfl, bs, d, rfl⟩)
        | (go_at_call 143; refine (HC.out _).mono ?_; rintro e' w' ⟨rfl, bs, d, rfl⟩))
      all_goals
        go_returns
        exact ⟨by rw [← HR.out]; first | (simp [hc]; done) | (simp; done) | (rw [if_neg hc]; done) | (simp [if_neg hc]; done) | (simp_all; done) | (simp; split <;> first | rfl | (exfalso; omega) | simp_all), .of_below (by (exact belB))⟩
end Go.Proofs.YtlheailebbngiaaGreatDoor
