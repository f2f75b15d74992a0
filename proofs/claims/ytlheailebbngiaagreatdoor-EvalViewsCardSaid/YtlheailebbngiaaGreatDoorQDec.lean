/- Decimal texts. -/
import Derived.Test.YtlheailebbngiaaGreatDoorQWord
set_option linter.all false
namespace Go.Proofs.YtlheailebbngiaaGreatDoor
open Go.RowKit

/-- Digits behind the point. -/
def decG : Nat → Int → Int → ByteArray → ByteArray
  | 0, _, _, s => s
  | f + 1, r, k, s => if 0 < r then decG f (r % k) (k / 10) (s ++ tenS.extract (r / k).toNat (r / k + 1).toNat) else s
def decOk (n d m : Int) : Bool := vfrac n d && decide (0 ≤ n) && decide (10000 % d = 0) && decide (2 ≤ m) && decide (m ≤ 4) && decide (n / d ≤ 999999999)
def restI (n d : Int) : Int := (n - n / d * d) * (10000 / d)
def sufS (m : Int) : ByteArray := if m = 2 then ⟨#[]⟩ else if m = 3 then ⟨#[100]⟩ else ⟨#[109]⟩
def decS (n d m : Int) : ByteArray :=
  (if 0 < restI n d then decG 4 (restI n d) 1000 (digS (n / d) 1 ++ ⟨#[46]⟩) else digS (n / d) 1) ++ sufS m
theorem ret_dec {a b : ByteArray} {p q : Bool} (h : a = b) (g : p = q) : Ending.returned (.tuple #[.string a, .bool p]) = .returned (.tuple #[.string b, .bool q]) := by rw [h, g]
def decV (n d m : Int) : Value := .tuple #[.string (if decOk n d m = true then decS n d m else ⟨#[]⟩), .bool (decOk n d m)]
theorem decV_no {n d m : Int} (h : decOk n d m = false) : decV n d m = .tuple #[.string ⟨#[]⟩, .bool false] := by simp [decV, h]
theorem decV_yes {n d m : Int} (h : decOk n d m = true) : decV n d m = .tuple #[.string (decS n d m), .bool true] := by simp [decV, h]
set_option maxHeartbeats 1000000 in
theorem FormatDecimal_no (n d m : Int) (w : World) (h1 : -9223372036854775808 ≤ n) (h2 : n ≤ 9223372036854775807) (h3 : -9223372036854775808 ≤ d) (h4 : d ≤ 9223372036854775807) (h : decOk n d m = false) : Calls Tryz.prog 121 #[.agg #[.int .i64 n, .int .i64 d], .int .i64 m] w fun e w' => e = .returned (decV n d m) ∧ w.Grows w' := by
  cases hv : vfrac n d
  · have hq : Hid True := Lib.hid trivial
    go_enter Tryz.func121, Tryz.ntmps121
    go_wp2_with ((first | (go_at_call 60; (with_reducible refine (Valid1_any _ _ _ (by omega) (by omega) (by omega) (by omega)).mono ?_); rintro e w' ⟨rfl, bs, dr, rfl⟩; simp only [hv]) | (go_at_call 155; (with_reducible refine (FormatFraction_any _ _ _ (by omega) (by omega) (by omega) (by omega)).mono ?_); rintro e w' ⟨rfl, bs2, dr2, rfl⟩; simp only [hq.out])))
    go_returns
    exact ⟨by rw [decV_no (by simp [decOk, *] <;> (intros; omega))]; rfl, .of_below (by (exact belB))⟩
  · have ⟨b1, b2, b3, b4⟩ := vfrac_bd hv
    have hq : Hid True := Lib.hid trivial
    by_cases c1 : n < 0
    · go_enter Tryz.func121, Tryz.ntmps121
      go_wp2_with ((first | (go_at_call 60; (with_reducible refine (Valid1_any _ _ _ (by omega) (by omega) (by omega) (by omega)).mono ?_); rintro e w' ⟨rfl, bs, dr, rfl⟩; simp only [hv]) | (go_at_call 155; (with_reducible refine (FormatFraction_any _ _ _ (by omega) (by omega) (by omega) (by omega)).mono ?_); rintro e w' ⟨rfl, bs2, dr2, rfl⟩; simp only [hq.out])))
      go_returns
      exact ⟨by rw [decV_no (by simp [decOk, *] <;> (intros; omega))]; rfl, .of_below (by (exact belB))⟩
    · by_cases c2 : 10000 % d = 0
      · by_cases c3 : m < 2
        · go_enter Tryz.func121, Tryz.ntmps121
          go_wp2_with ((first | (go_at_call 60; (with_reducible refine (Valid1_any _ _ _ (by omega) (by omega) (by omega) (by omega)).mono ?_); rintro e w' ⟨rfl, bs, dr, rfl⟩; simp only [hv]) | (go_at_call 155; (with_reducible refine (FormatFraction_any _ _ _ (by omega) (by omega) (by omega) (by omega)).mono ?_); rintro e w' ⟨rfl, bs2, dr2, rfl⟩; simp only [hq.out])))
          go_returns
          exact ⟨by rw [decV_no (by simp [decOk, *] <;> (intros; omega))]; rfl, .of_below (by (exact belB))⟩
        · by_cases c4 : 4 < m
          · go_enter Tryz.func121, Tryz.ntmps121
            go_wp2_with ((first | (go_at_call 60; (with_reducible refine (Valid1_any _ _ _ (by omega) (by omega) (by omega) (by omega)).mono ?_); rintro e w' ⟨rfl, bs, dr, rfl⟩; simp only [hv]) | (go_at_call 155; (with_reducible refine (FormatFraction_any _ _ _ (by omega) (by omega) (by omega) (by omega)).mono ?_); rintro e w' ⟨rfl, bs2, dr2, rfl⟩; simp only [hq.out])))
            go_returns
            exact ⟨by rw [decV_no (by simp [decOk, *] <;> (intros; omega))]; rfl, .of_below (by (exact belB))⟩
          · by_cases c5 : n / d ≤ 999999999
            · exfalso; simp [decOk, hv, c2] at h; omega
            · go_enter Tryz.func121, Tryz.ntmps121
              go_wp2_with ((first | (go_at_call 60; (with_reducible refine (Valid1_any _ _ _ (by omega) (by omega) (by omega) (by omega)).mono ?_); rintro e w' ⟨rfl, bs, dr, rfl⟩; simp only [hv]) | (go_at_call 155; (with_reducible refine (FormatFraction_any _ _ _ (by omega) (by omega) (by omega) (by omega)).mono ?_); rintro e w' ⟨rfl, bs2, dr2, rfl⟩; simp only [hq.out])))
              go_returns
              exact ⟨by rw [decV_no (by simp [decOk, *] <;> (intros; omega))]; rfl, .of_below (by (exact belB))⟩
      · go_enter Tryz.func121, Tryz.ntmps121
        go_wp2_with ((first | (go_at_call 60; (with_reducible refine (Valid1_any _ _ _ (by omega) (by omega) (by omega) (by omega)).mono ?_); rintro e w' ⟨rfl, bs, dr, rfl⟩; simp only [hv]) | (go_at_call 155; (with_reducible refine (FormatFraction_any _ _ _ (by omega) (by omega) (by omega) (by omega)).mono ?_); rintro e w' ⟨rfl, bs2, dr2, rfl⟩; simp only [hq.out])))
        go_returns
        exact ⟨by rw [decV_no (by simp [decOk, *] <;> (intros; omega))]; rfl, .of_below (by (exact belB))⟩

theorem fracS_whole (q : Int) (h0 : 0 ≤ q) (h1 : q ≤ 999999999) : fracS q 1 = digS q 1 := by
  have hv : vfrac q 1 = true := vfrac_of (by omega) (by simp)
  have ha : absI q = q := absI_of_nonneg h0
  simp [fracS, hv, ha]; intro h; omega
theorem rest_bd (n d : Int) (h0 : 0 ≤ n) (h1 : 1 ≤ d) (h2 : 10000 % d = 0) : 0 ≤ n / d ∧ 0 ≤ n / d * d ∧ n / d * d ≤ n ∧ n - n / d * d < d ∧ 0 ≤ 10000 / d ∧ 10000 / d ≤ 10000 ∧ 0 ≤ restI n d ∧ restI n d < 10000 := by
  have a1 : 0 ≤ n / d := Int.ediv_nonneg h0 (by omega)
  have a2 : 0 ≤ n % d := Int.emod_nonneg _ (by omega)
  have a3 : n % d < d := Int.emod_lt_of_pos _ (by omega)
  have a4 : d * (n / d) + n % d = n := Int.mul_ediv_add_emod n d
  rw [Int.mul_comm] at a4
  have a5 : 0 ≤ 10000 / d := Int.ediv_nonneg (by omega) (by omega)
  have a6 : 10000 / d ≤ 10000 := Int.ediv_le_self _ (by omega)
  have a7 : d * (10000 / d) + 10000 % d = 10000 := Int.mul_ediv_add_emod 10000 d
  have a8 : n - n / d * d = n % d := by omega
  have a9 : 0 ≤ n / d * d := Int.mul_nonneg a1 (by omega)
  refine ⟨a1, a9, by omega, by omega, a5, a6, ?_, ?_⟩
  · unfold restI; rw [a8]; exact Int.mul_nonneg a2 a5
  · unfold restI; rw [a8]
    have a10 : 0 < 10000 / d := by
      rcases Int.lt_or_eq_of_le a5 with h | h
      · exact h
      · rw [← h] at a7; omega
    have := Int.mul_lt_mul_of_pos_right a3 a10
    omega
theorem decG_stop (f : Nat) (r k : Int) (s : ByteArray) (h : ¬ 0 < r) : decG f r k s = s := by cases f <;> simp [decG, h]
theorem decG_go (f : Nat) (r k : Int) (s : ByteArray) (h : 0 < r) : decG (f + 1) r k s = decG f (r % k) (k / 10) (s ++ tenS.extract (r / k).toNat (r / k + 1).toNat) := by simp [decG, h]
theorem ten_app (s : ByteArray) (x : Int) (h0 : 0 ≤ x) (h1 : x < 10) : (s ++ (⟨#[48, 49, 50, 51, 52, 53, 54, 55, 56, 57]⟩ : ByteArray).extract x.toNat (x + 1).toNat).size = s.size + 1 := by
  show (s ++ tenS.extract _ _).size = _
  rw [ByteArray.size_append, ByteArray.size_extract, tenS_size]; omega
theorem dot_size (s : ByteArray) : (s ++ (⟨#[46]⟩ : ByteArray)).size = s.size + 1 := by rw [ByteArray.size_append]; rfl
theorem decS_dot {n d m r k : Int} {j : Nat} {s : ByteArray} (hp : 0 < restI n d) (g : decG j r k s = decG 4 (restI n d) 1000 (digS (n / d) 1 ++ ⟨#[46]⟩)) (g6 : decG j r k s = s) : s ++ sufS m = decS n d m := by
  unfold decS
  rw [if_pos hp, ← g, g6]
theorem decS_whole {n d m r k : Int} {j : Nat} {s : ByteArray} (hp : ¬ 0 < restI n d) (g : decG j r k s = decG 4 (restI n d) 1000 (digS (n / d) 1)) (g6 : decG j r k s = s) : s ++ sufS m = decS n d m := by
  unfold decS
  rw [if_neg hp, ← g6, g, decG_stop _ _ _ _ hp]
set_option maxHeartbeats 1000000 in
theorem FormatDecimal_yes (n d m : Int) (w : World) (h1 : -9223372036854775808 ≤ n) (h2 : n ≤ 9223372036854775807) (h3 : -9223372036854775808 ≤ d) (h4 : d ≤ 9223372036854775807) (h : decOk n d m = true) : Calls Tryz.prog 121 #[.agg #[.int .i64 n, .int .i64 d], .int .i64 m] w fun e w' => e = .returned (decV n d m) ∧ w.Grows w' := by
  rw [decV_yes h]
  simp only [decOk, Bool.and_eq_true, decide_eq_true_eq] at h
  obtain ⟨⟨⟨⟨⟨hv, c1⟩, c2⟩, c3⟩, c4⟩, c5⟩ := h
  have ⟨b1, b2, b3, b4⟩ := vfrac_bd hv
  have ⟨r1, r2, r3, r4, r5, r6, r7, r8⟩ := rest_bd n d c1 b1 c2
  have hR : Hid (_) := Lib.hid (show restI n d = (n - n / d * d) * (10000 / d) from rfl)
  unfold restI at r7 r8
  have hq := Lib.hid (fracS_whole (n / d) r1 c5)
  have z := digS_size (n / d) 1 r1
  have z1 : ((digS (n / d) 1).size : Int) ≤ 1000000000 := by omega
  clear z
  go_enter Tryz.func121, Tryz.ntmps121
  by_cases hp : 0 < (n - n / d * d) * (10000 / d)
  · have HP := Lib.hid (show 0 < restI n d from hp)
    go_wp2_with ((first | (go_at_call 60; (with_reducible refine (Valid1_any _ _ _ (by omega) (by omega) (by omega) (by omega)).mono ?_); rintro e w' ⟨rfl, bs, dr, rfl⟩; simp only [hv]) | (go_at_call 155; (with_reducible refine (FormatFraction_any _ _ _ (by omega) (by omega) (by omega) (by omega)).mono ?_); rintro e w' ⟨rfl, bs2, dr2, rfl⟩; simp only [hq.out])))
    go_quiet (fail)
    go_wp2_with fail
    go_loopw [7, 8, 9] (fun v7 v8 v9 wr => ∃ j : Nat, ∃ r k : Int, ∃ s : ByteArray, v7 = .string s ∧ v8 = .int .i64 r ∧ v9 = .int .i64 k ∧ 0 ≤ r ∧ ((s.size : Int) ≤ 1000000010 - j) ∧
      ((j = 4 ∧ k = 1000 ∧ r < 10000) ∨ (j = 3 ∧ k = 100 ∧ r < 1000) ∨ (j = 2 ∧ k = 10 ∧ r < 100) ∨ (j = 1 ∧ k = 1 ∧ r < 10) ∨ (j = 0 ∧ k = 0 ∧ r = 0)) ∧
      Hid (decG j r k s = decG 4 (restI n d) 1000 (digS (n / d) 1 ++ ⟨#[46]⟩)) ∧ World.Grows (w.alloc (.cells #[.int .i64 n, .int .i64 d] 23)) wr) (fun _ _ v9 _ => (intOf v9).toNat)
    case atStart => exact ⟨4, _, _, _, rfl, rfl, rfl, by omega, by first | (rw [dot_size]; omega) | omega, .inl ⟨rfl, rfl, by omega⟩, Lib.hid (by rw [hR.out]), .of_below (by (exact belB))⟩
    case round =>
      obtain ⟨j, r, k, s, rfl, rfl, rfl, g1, g2, g3, g4, bs3, dr3, rfl⟩ := hrel
      by_cases g0 : 0 < r
      · rcases g3 with ⟨rfl, rfl, g5⟩ | ⟨rfl, rfl, g5⟩ | ⟨rfl, rfl, g5⟩ | ⟨rfl, rfl, g5⟩ | ⟨rfl, rfl, g5⟩
        · have g7 := Lib.hid (ten_app s (r / 1000) (by omega) (by omega))
          have g8 := Lib.hid (decG_go 3 r 1000 s g0)
          go_wp2_with fail
          go_quiet (fail)
          go_wp2_with fail
          go_roundw
          case rel => exact ⟨3, _, _, _, rfl, rfl, rfl, by omega, by rw [g7.out]; omega, by simp; omega, Lib.hid (by rw [← g4.out, g8.out]; rfl), .of_below (by (exact belB))⟩
          case measure => simp [intOf]
        · have g7 := Lib.hid (ten_app s (r / 100) (by omega) (by omega))
          have g8 := Lib.hid (decG_go 2 r 100 s g0)
          go_wp2_with fail
          go_quiet (fail)
          go_wp2_with fail
          go_roundw
          case rel => exact ⟨2, _, _, _, rfl, rfl, rfl, by omega, by rw [g7.out]; omega, by simp; omega, Lib.hid (by rw [← g4.out, g8.out]; rfl), .of_below (by (exact belB))⟩
          case measure => simp [intOf]
        · have g7 := Lib.hid (ten_app s (r / 10) (by omega) (by omega))
          have g8 := Lib.hid (decG_go 1 r 10 s g0)
          go_wp2_with fail
          go_quiet (fail)
          go_wp2_with fail
          go_roundw
          case rel => exact ⟨1, _, _, _, rfl, rfl, rfl, by omega, by rw [g7.out]; omega, by simp; omega, Lib.hid (by rw [← g4.out, g8.out]; rfl), .of_below (by (exact belB))⟩
          case measure => simp [intOf]
        · have g7 := Lib.hid (ten_app s r (by omega) (by omega))
          have g8 : Hid (decG 1 r 1 s = decG 0 0 0 (s ++ tenS.extract r.toNat (r + 1).toNat)) := Lib.hid (by simp [decG, g0])
          go_wp2_with fail
          go_quiet (fail)
          go_wp2_with fail
          go_roundw
          case rel => exact ⟨0, _, _, _, rfl, rfl, rfl, by omega, by rw [g7.out]; omega, by simp, Lib.hid (by rw [← g4.out, g8.out]; rfl), .of_below (by (exact belB))⟩
          case measure => simp [intOf]
        · omega
      · have G6 := Lib.hid (decG_stop j r k s g0)
        obtain rfl | rfl | rfl : m = 2 ∨ m = 3 ∨ m = 4 := by omega
        · go_wp2_with fail
          go_returns
          exact ⟨ret_dec (show s ++ sufS 2 = decS n d 2 from decS_dot (by have := HP.out; omega) g4.out G6.out) rfl, .of_below (by (exact belB))⟩
        · go_wp2_with fail
          go_returns
          exact ⟨ret_dec (show s ++ sufS 3 = decS n d 3 from decS_dot (by have := HP.out; omega) g4.out G6.out) rfl, .of_below (by (exact belB))⟩
        · go_wp2_with fail
          go_returns
          exact ⟨ret_dec (show s ++ sufS 4 = decS n d 4 from decS_dot (by have := HP.out; omega) g4.out G6.out) rfl, .of_below (by (exact belB))⟩
  · have HP := Lib.hid (show ¬ 0 < restI n d from hp)
    go_wp2_with ((first | (go_at_call 60; (with_reducible refine (Valid1_any _ _ _ (by omega) (by omega) (by omega) (by omega)).mono ?_); rintro e w' ⟨rfl, bs, dr, rfl⟩; simp only [hv]) | (go_at_call 155; (with_reducible refine (FormatFraction_any _ _ _ (by omega) (by omega) (by omega) (by omega)).mono ?_); rintro e w' ⟨rfl, bs2, dr2, rfl⟩; simp only [hq.out])))
    go_quiet (fail)
    go_wp2_with fail
    go_loopw [7, 8, 9] (fun v7 v8 v9 wr => ∃ j : Nat, ∃ r k : Int, ∃ s : ByteArray, v7 = .string s ∧ v8 = .int .i64 r ∧ v9 = .int .i64 k ∧ 0 ≤ r ∧ ((s.size : Int) ≤ 1000000010 - j) ∧
      ((j = 4 ∧ k = 1000 ∧ r < 10000) ∨ (j = 3 ∧ k = 100 ∧ r < 1000) ∨ (j = 2 ∧ k = 10 ∧ r < 100) ∨ (j = 1 ∧ k = 1 ∧ r < 10) ∨ (j = 0 ∧ k = 0 ∧ r = 0)) ∧
      Hid (decG j r k s = decG 4 (restI n d) 1000 (digS (n / d) 1)) ∧ World.Grows (w.alloc (.cells #[.int .i64 n, .int .i64 d] 23)) wr) (fun _ _ v9 _ => (intOf v9).toNat)
    case atStart => exact ⟨4, _, _, _, rfl, rfl, rfl, by omega, by first | (rw [dot_size]; omega) | omega, .inl ⟨rfl, rfl, by omega⟩, Lib.hid (by rw [hR.out]), .of_below (by (exact belB))⟩
    case round =>
      obtain ⟨j, r, k, s, rfl, rfl, rfl, g1, g2, g3, g4, bs3, dr3, rfl⟩ := hrel
      by_cases g0 : 0 < r
      · rcases g3 with ⟨rfl, rfl, g5⟩ | ⟨rfl, rfl, g5⟩ | ⟨rfl, rfl, g5⟩ | ⟨rfl, rfl, g5⟩ | ⟨rfl, rfl, g5⟩
        · have g7 := Lib.hid (ten_app s (r / 1000) (by omega) (by omega))
          have g8 := Lib.hid (decG_go 3 r 1000 s g0)
          go_wp2_with fail
          go_quiet (fail)
          go_wp2_with fail
          go_roundw
          case rel => exact ⟨3, _, _, _, rfl, rfl, rfl, by omega, by rw [g7.out]; omega, by simp; omega, Lib.hid (by rw [← g4.out, g8.out]; rfl), .of_below (by (exact belB))⟩
          case measure => simp [intOf]
        · have g7 := Lib.hid (ten_app s (r / 100) (by omega) (by omega))
          have g8 := Lib.hid (decG_go 2 r 100 s g0)
          go_wp2_with fail
          go_quiet (fail)
          go_wp2_with fail
          go_roundw
          case rel => exact ⟨2, _, _, _, rfl, rfl, rfl, by omega, by rw [g7.out]; omega, by simp; omega, Lib.hid (by rw [← g4.out, g8.out]; rfl), .of_below (by (exact belB))⟩
          case measure => simp [intOf]
        · have g7 := Lib.hid (ten_app s (r / 10) (by omega) (by omega))
          have g8 := Lib.hid (decG_go 1 r 10 s g0)
          go_wp2_with fail
          go_quiet (fail)
          go_wp2_with fail
          go_roundw
          case rel => exact ⟨1, _, _, _, rfl, rfl, rfl, by omega, by rw [g7.out]; omega, by simp; omega, Lib.hid (by rw [← g4.out, g8.out]; rfl), .of_below (by (exact belB))⟩
          case measure => simp [intOf]
        · have g7 := Lib.hid (ten_app s r (by omega) (by omega))
          have g8 : Hid (decG 1 r 1 s = decG 0 0 0 (s ++ tenS.extract r.toNat (r + 1).toNat)) := Lib.hid (by simp [decG, g0])
          go_wp2_with fail
          go_quiet (fail)
          go_wp2_with fail
          go_roundw
          case rel => exact ⟨0, _, _, _, rfl, rfl, rfl, by omega, by rw [g7.out]; omega, by simp, Lib.hid (by rw [← g4.out, g8.out]; rfl), .of_below (by (exact belB))⟩
          case measure => simp [intOf]
        · omega
      · have G6 := Lib.hid (decG_stop j r k s g0)
        obtain rfl | rfl | rfl : m = 2 ∨ m = 3 ∨ m = 4 := by omega
        · go_wp2_with fail
          go_returns
          exact ⟨ret_dec (show s ++ sufS 2 = decS n d 2 from decS_whole (by have := HP.out; omega) g4.out G6.out) rfl, .of_below (by (exact belB))⟩
        · go_wp2_with fail
          go_returns
          exact ⟨ret_dec (show s ++ sufS 3 = decS n d 3 from decS_whole (by have := HP.out; omega) g4.out G6.out) rfl, .of_below (by (exact belB))⟩
        · go_wp2_with fail
          go_returns
          exact ⟨ret_dec (show s ++ sufS 4 = decS n d 4 from decS_whole (by have := HP.out; omega) g4.out G6.out) rfl, .of_below (by (exact belB))⟩
/-- A decimal's text, whatever the number. -/
theorem FormatDecimal_any (n d m : Int) (w : World) (h1 : -9223372036854775808 ≤ n) (h2 : n ≤ 9223372036854775807) (h3 : -9223372036854775808 ≤ d) (h4 : d ≤ 9223372036854775807) : Calls Tryz.prog 121 #[.agg #[.int .i64 n, .int .i64 d], .int .i64 m] w fun e w' => e = .returned (decV n d m) ∧ w.Grows w' := by
  cases h : decOk n d m
  · exact FormatDecimal_no n d m w h1 h2 h3 h4 h
  · exact FormatDecimal_yes n d m w h1 h2 h3 h4 h
end Go.Proofs.YtlheailebbngiaaGreatDoor
