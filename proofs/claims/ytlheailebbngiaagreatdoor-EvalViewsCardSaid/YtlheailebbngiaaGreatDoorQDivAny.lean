
import Derived.Test.YtlheailebbngiaaGreatDoorQDiv
import Derived.Lib.ItoaNum
import Derived.Test.YtlheailebbngiaaGreatDoorQBase
set_option linter.all false
namespace Go.Proofs.YtlheailebbngiaaGreatDoor
open Go.RowKit

theorem lz_spec (y : Nat) (h0 : 0 < y) (h : y < 18446744073709551616) : ∃ s : Nat, s ≤ 63 ∧ (64 : Int) - (Lib.bitLen y : Int) = s ∧ 9223372036854775808 ≤ y * 2 ^ s ∧ y * 2 ^ s < 18446744073709551616 := by
  obtain ⟨h1, h2, h3⟩ := Lib.bitLenAux_bounds 64 y h (by omega)
  have h4 : Lib.bitLen y ≤ 64 := Lib.bitLen_le y 64 (Nat.le_refl _) h
  have e : Lib.bitLenAux 64 y = Lib.bitLen y := rfl
  rw [e] at h1 h2 h3
  generalize Lib.bitLen y = k at *
  refine ⟨64 - k, by omega, by omega, ?_, ?_⟩
  · calc 9223372036854775808 = 2 ^ (k - 1) * 2 ^ (64 - k) := by rw [← Nat.pow_add]; rw [show k - 1 + (64 - k) = 63 by omega]
      _ ≤ y * 2 ^ (64 - k) := Nat.mul_le_mul_right _ h2
  · calc y * 2 ^ (64 - k) < 2 ^ k * 2 ^ (64 - k) := Nat.mul_lt_mul_of_pos_right h3 (Nat.two_pow_pos _)
      _ = 18446744073709551616 := by rw [← Nat.pow_add]; rw [show k + (64 - k) = 64 by omega]

theorem cast_pow (y s : Nat) : (y : Int) * 2 ^ s = ((y * 2 ^ s : Nat) : Int) := by
  rw [Int.natCast_mul]; simp

theorem and_mask (Y : Nat) (h : Y < 18446744073709551616) : bits BinOp.and IntKind.u64 ↑Y 4294967295 = ((Y % 4294967296 : Nat) : Int) := by
  rw [show (4294967295 : Int) = ((4294967295 : Nat) : Int) from rfl, u64_and_nat Y 4294967295 h (by omega)]
  rw [show (4294967295 : Nat) = 2 ^ 32 - 1 from rfl, Nat.and_two_pow_sub_one_eq_mod]

theorem wrap_mod (lo s : Nat) : IntKind.u64.wrap (↑lo * 2 ^ s) = ((lo * 2 ^ s % 18446744073709551616 : Nat) : Int) := by
  rw [cast_pow, IntKind.wrap_u64]; simp

theorem or_parts (hi lo s : Nat) (hs : s ≤ 63) (hh : hi * 2 ^ s < 18446744073709551616) (hl : lo < 18446744073709551616) :
    bits BinOp.or IntKind.u64 (IntKind.u64.wrap (↑hi * 2 ^ s)) (↑lo / 2 ^ (64 - s)) = ((hi * 2 ^ s + lo / 2 ^ (64 - s) : Nat) : Int) := by
  have h2 : lo / 2 ^ (64 - s) < 2 ^ s := by
    rw [Nat.div_lt_iff_lt_mul (Nat.two_pow_pos _), ← Nat.pow_add, show s + (64 - s) = 64 by omega]; exact hl
  have h3 : (lo : Int) / 2 ^ (64 - s) = ((lo / 2 ^ (64 - s) : Nat) : Int) := by simp
  have h4 : lo / 2 ^ (64 - s) < 18446744073709551616 := Nat.lt_of_le_of_lt (Nat.div_le_self _ _) hl
  rw [wrap_mod, h3, Nat.mod_eq_of_lt hh, u64_or_nat _ _ hh h4]
  rw [Nat.mul_comm hi, ← Nat.two_pow_add_eq_or_of_lt h2]

theorem Div64_any (hi lo y : Nat) (w : World) (hh : hi < y) (h1 : lo < 18446744073709551616) (h2 : y < 18446744073709551616) :
    Calls Tryz.prog 167 #[.int .u64 hi, .int .u64 lo, .int .u64 y] w fun e w' => e = .returned (.tuple #[.int .u64 ((hi * 18446744073709551616 + lo) / y : Nat), .int .u64 ((hi * 18446744073709551616 + lo) % y : Nat)]) ∧ w.Grows w' := by
  by_cases h0 : hi = 0
  · subst h0
    simpa using Div64_small lo y w h1 h2 hh
  · obtain ⟨s, hs, hlz, ha, hb⟩ := lz_spec y (by omega) h2
    have hhs : hi * 2 ^ s < y * 2 ^ s := Nat.mul_lt_mul_of_pos_right hh (Nat.two_pow_pos s)
    have hU : hi * 2 ^ s + lo / 2 ^ (64 - s) < y * 2 ^ s := by
      have h3 : lo / 2 ^ (64 - s) < 2 ^ s := by
        rw [Nat.div_lt_iff_lt_mul (Nat.two_pow_pos _), ← Nat.pow_add, show s + (64 - s) = 64 by omega]; exact h1
      have h4 : hi * 2 ^ s + 2 ^ s ≤ y * 2 ^ s := by
        rw [← Nat.succ_mul]; exact Nat.mul_le_mul_right _ hh
      omega
    have hp := or_parts hi lo s hs (by omega) h1
    have hw := wrap_mod lo s
    have hLlt : lo * 2 ^ s % 18446744073709551616 < 18446744073709551616 := Nat.mod_lt _ (by omega)
    have hD : (hi * 18446744073709551616 + lo) * 2 ^ s = (hi * 2 ^ s + lo / 2 ^ (64 - s)) * 18446744073709551616 + lo * 2 ^ s % 18446744073709551616 := by
      have e1 : lo * 2 ^ s / 18446744073709551616 = lo / 2 ^ (64 - s) := by
        rw [show (18446744073709551616 : Nat) = 2 ^ (64 - s) * 2 ^ s by rw [← Nat.pow_add, show 64 - s + s = 64 by omega], Nat.mul_div_mul_right _ _ (Nat.two_pow_pos s)]
      have e2 := Nat.div_add_mod (lo * 2 ^ s) 18446744073709551616
      rw [e1] at e2
      rw [Nat.add_mul, Nat.mul_right_comm]
      generalize lo * 2 ^ s = a at *
      generalize hi * 2 ^ s = b at *
      generalize lo / 2 ^ (64 - s) = c at *
      omega
    have hwY : IntKind.u64.wrap (↑y * 2 ^ s) = ((y * 2 ^ s : Nat) : Int) := by rw [wrap_mod, Nat.mod_eq_of_lt hb]
    generalize hY : y * 2 ^ s = Y at *
    generalize hUU : hi * 2 ^ s + lo / 2 ^ (64 - s) = U at *
    generalize lo * 2 ^ s % 18446744073709551616 = L at *
    refine Div64_core (hi * 18446744073709551616 + lo) hi lo y s Y (Y / 4294967296) (Y % 4294967296) U L (L / 4294967296) (L % 4294967296) _ _ w hh (by omega) hs hwY (by simp) (and_mask Y hb) hp hw (by simp) (and_mask L hLlt)
      (by omega) (by omega) (by omega) (by omega) (by omega) (show Y = _ by omega) (show U < _ by omega) ?_ hY.symm rfl rfl ?_
    · show (hi * 18446744073709551616 + lo) * 2 ^ s = (U * 4294967296 + L / 4294967296) * 4294967296 + L % 4294967296
      rw [hD]; omega
    · intro w
      refine (Tryz.bits_LeadingZeros64 y w (by omega) (by omega)).mono ?_
      rintro e w' ⟨rfl, rfl⟩
      simp [hlz]
end Go.Proofs.YtlheailebbngiaaGreatDoor

namespace Go.Proofs.YtlheailebbngiaaGreatDoor
open Go.RowKit

/-- A number of 128 bits, as its two words. -/
def hiW (n : Nat) : Int := (n / 18446744073709551616 : Nat)
def loW (n : Nat) : Int := (n % 18446744073709551616 : Nat)

theorem hiW_bd (n : Nat) (h : n < 340282366920938463463374607431768211456) : 0 ≤ hiW n ∧ hiW n < 18446744073709551616 := by unfold hiW; omega
theorem loW_bd (n : Nat) : 0 ≤ loW n ∧ loW n < 18446744073709551616 := by unfold loW; omega

set_option maxHeartbeats 400000 in
theorem times1_any (a b : Nat) (w : World) (h1 : a < 18446744073709551616) (h2 : b < 18446744073709551616) :
    Calls Tryz.prog 101 #[.int .u64 a, .int .u64 b] w fun e w' => e = .returned (.agg #[.int .u64 (hiW (a * b)), .int .u64 (loW (a * b))]) ∧ w.Grows w' := by
  have H : Hid (∀ w, Calls Tryz.prog 133 #[.int .u64 a, .int .u64 b] w fun e w' => e = .returned (.tuple #[.int .u64 (hiW (a * b)), .int .u64 (loW (a * b))]) ∧ w' = w) := Tryz.bits_Mul64 a b h1 h2
  generalize a * b = n at *
  go_enter Tryz.func101, Tryz.ntmps101
  go_wp2_with fail
  refine (H.out _).mono ?_
  rintro e w' ⟨rfl, rfl⟩
  clear H
  go_wp2_with fail
  go_returns
  exact ⟨rfl, .of_below (by (exact belB))⟩

set_option maxHeartbeats 400000 in
theorem over1_core (H L d q r Q : Int) (w : World) (a1 : (d == 0) = false) (a2 : 1 ≤ d) (h0 : 0 ≤ H)
    (a3 : IntKind.u64.wrap (H.tdiv d) = Q)
    (HD : Hid (∀ w, Calls Tryz.prog 167 #[.int .u64 (H % d), .int .u64 L, .int .u64 d] w fun e w' => e = .returned (.tuple #[.int .u64 q, .int .u64 r]) ∧ w.Grows w')) :
    Calls Tryz.prog 128 #[.agg #[.int .u64 H, .int .u64 L], .int .u64 d] w fun e w' => e = .returned (.tuple #[.agg #[.int .u64 Q, .int .u64 q], .int .u64 r]) ∧ w.Grows w' := by
  go_enter Tryz.func128, Tryz.ntmps128
  go_wp2_with fail
  refine wp_region_quietG (by kernel_rfl) (by kernel_rfl) ?_
  repeat (go_big_quiet_step ((go_at_call 167; exact Calls.quietG (HD.out _))))
  refine wpQuiet_nil ?_
  intro _ hw'
  obtain ⟨⟨gb, gd⟩, hw''⟩ := hw'
  subst hw''
  clear HD
  go_wp2_with fail
  go_returns
  refine ⟨rfl, .of_below (by (exact belB))⟩
end Go.Proofs.YtlheailebbngiaaGreatDoor

namespace Go.Proofs.YtlheailebbngiaaGreatDoor
open Go.RowKit

def absI (n : Int) : Int := (n.natAbs : Int)
def gcdI (x y : Int) : Int := (Nat.gcd x.toNat y.toNat : Nat)
theorem absI_bd (n : Int) (h1 : -9223372036854775808 ≤ n) (h2 : n ≤ 9223372036854775807) : 0 ≤ absI n ∧ absI n ≤ 9223372036854775808 := by unfold absI; omega
theorem absI_toNat (n : Int) : (absI n).toNat = n.natAbs := by unfold absI; simp
theorem absI_of_nonneg {n : Int} (h : 0 ≤ n) : absI n = n := by unfold absI; omega

/-- A valid fraction. -/
def vfrac (n d : Int) : Bool := decide (1 ≤ d ∧ d ≤ 1000000000 ∧ -1000000000000000 ≤ n ∧ n ≤ 1000000000000000) && gcdI (absI n) (absI d) == 1
theorem vfrac_bd {n d : Int} (h : vfrac n d = true) : 1 ≤ d ∧ d ≤ 1000000000 ∧ -1000000000000000 ≤ n ∧ n ≤ 1000000000000000 := by
  simp only [vfrac, Bool.and_eq_true, decide_eq_true_eq] at h; exact h.1
theorem vfrac_gcd {n d : Int} (h : vfrac n d = true) : Nat.gcd n.natAbs d.natAbs = 1 := by
  simp only [vfrac, Bool.and_eq_true, beq_iff_eq, gcdI, absI_toNat] at h
  have := h.2; omega
theorem vfrac_of {n d : Int} (h : 1 ≤ d ∧ d ≤ 1000000000 ∧ -1000000000000000 ≤ n ∧ n ≤ 1000000000000000) (hg : Nat.gcd n.natAbs d.natAbs = 1) : vfrac n d = true := by
  simp only [vfrac, Bool.and_eq_true, decide_eq_true_eq, beq_iff_eq, gcdI, absI_toNat]
  exact ⟨h, by omega⟩

theorem Calls.quietD {P : Program} {f : FuncId} {args : Array Value} {w : World} {v : Value}
    (h : Calls P f args w fun e w' => e = .returned v ∧ ∃ n, w' = w.drewN n) : Calls P f args w fun e w' => e = .returned v ∧ w.Grows w' :=
  h.mono fun _ _ ⟨he, n, hw⟩ => ⟨he, by subst hw; exact .of_below ⟨rfl, rfl, rfl, Nat.le_refl _, fun _ _ => rfl⟩⟩

set_option maxHeartbeats 400000 in
theorem size1_any (n : Int) (w : World) (h1 : -9223372036854775808 ≤ n) (h2 : n ≤ 9223372036854775807) :
    Calls Tryz.prog 91 #[.int .i64 n] w fun e w' => e = .returned (.int .u64 (absI n)) ∧ w = w' := by
  by_cases hk : n < 0
  · go_enter Tryz.func91, Tryz.ntmps91
    go_wp2
    go_ret
    exact ⟨by simp [absI]; omega, rfl⟩
  · go_enter Tryz.func91, Tryz.ntmps91
    go_wp2
    go_ret
    exact ⟨by simp [absI]; omega, rfl⟩

set_option maxHeartbeats 400000 in
theorem size2_any (n : Int) (w : World) (h1 : -9223372036854775808 ≤ n) (h2 : n ≤ 9223372036854775807) :
    Calls Tryz.prog 95 #[.int .i64 n] w fun e w' => e = .returned (.int .u64 (absI n)) ∧ w = w' := by
  by_cases hk : n < 0
  · go_enter Tryz.func95, Tryz.ntmps95
    go_wp2
    go_ret
    exact ⟨ret_int (by unfold absI; simp only [IntKind.wrap_u64]; omega), rfl⟩
  · go_enter Tryz.func95, Tryz.ntmps95
    go_wp2
    go_ret
    exact ⟨ret_int (by unfold absI; omega), rfl⟩

theorem gcdI_step (c d : Int) (h0 : 0 ≤ c) (h1 : 0 < d) : gcdI d (c % d) = gcdI c d := by
  unfold gcdI
  obtain ⟨a, rfl⟩ := Int.eq_ofNat_of_zero_le h0
  obtain ⟨b, rfl⟩ := Int.eq_ofNat_of_zero_le (Int.le_of_lt h1)
  rw [show ((a : Int) % (b : Int)) = ((a % b : Nat) : Int) by simp]
  simp only [Int.toNat_natCast]
  congr 1
  rw [Nat.gcd_comm a b, Nat.gcd_rec b a, Nat.gcd_comm]

theorem gcdI_zero (c : Int) (h0 : 0 ≤ c) : gcdI c 0 = c := by unfold gcdI; simp; omega

theorem mod_bd (c d : Int) (h1 : 0 < d) : 0 ≤ c % d ∧ c % d < d := ⟨Int.emod_nonneg _ (by omega), Int.emod_lt_of_pos _ h1⟩

set_option maxHeartbeats 400000 in
theorem gcd1_any (a b : Int) (w : World) (h0 : 0 ≤ a) (h1 : a < 18446744073709551616) (h2 : 0 ≤ b) (h3 : b < 18446744073709551616) :
    Calls Tryz.prog 100 #[.int .u64 a, .int .u64 b] w fun e w' => e = .returned (.int .u64 (gcdI a b)) ∧ ∃ n, w' = w.drewN n := by
  go_enter Tryz.func100, Tryz.ntmps100
  go_wp2
  go_loopw [0, 1] (fun x y wr => ∃ c d : Int, x = .int .u64 c ∧ y = .int .u64 d ∧ 0 ≤ c ∧ c < 18446744073709551616 ∧ 0 ≤ d ∧ d < 18446744073709551616 ∧ Hid (gcdI c d = gcdI a b) ∧ ∃ n, wr = w.drewN n) (fun _ y _ => (intOf y).toNat)
  case atStart => exact ⟨a, b, rfl, rfl, h0, h1, h2, h3, rfl, 0, rfl⟩
  case round =>
    obtain ⟨c, d, rfl, rfl, hc0, hc, hd0, hd, Hg, dr, rfl⟩ := hrel
    by_cases h0 : d = 0
    · subst h0
      go_wp2
      go_ret
      exact ⟨by rw [← Hg.out, gcdI_zero c hc0]; rfl, ⟨_, rfl⟩⟩
    · have h0' : (d != 0) = true := by simp; omega
      have h0'' : (d == 0) = false := by simp; omega
      have h1d : 1 ≤ d := by omega
      go_wp2
      go_region
      go_wp2
      go_roundw
      case rel => exact ⟨d, c % d, rfl, rfl, hd0, hd, (mod_bd c d h1d).1, by have := (mod_bd c d h1d).2; omega, (gcdI_step c d hc0 h1d).trans Hg.out, dr + 1, rfl⟩
      case measure => simp [intOf]; have := mod_bd c d h1d; omega

set_option maxHeartbeats 400000 in
theorem gcd2_any (a b : Int) (w : World) (h0 : 0 ≤ a) (h1 : a < 18446744073709551616) (h2 : 0 ≤ b) (h3 : b < 18446744073709551616) :
    Calls Tryz.prog 94 #[.int .u64 a, .int .u64 b] w fun e w' => e = .returned (.int .u64 (gcdI a b)) ∧ ∃ n, w' = w.drewN n := by
  go_enter Tryz.func94, Tryz.ntmps94
  go_wp2
  go_loopw [0, 1] (fun x y wr => ∃ c d : Int, x = .int .u64 c ∧ y = .int .u64 d ∧ 0 ≤ c ∧ c < 18446744073709551616 ∧ 0 ≤ d ∧ d < 18446744073709551616 ∧ Hid (gcdI c d = gcdI a b) ∧ ∃ n, wr = w.drewN n) (fun _ y _ => (intOf y).toNat)
  case atStart => exact ⟨a, b, rfl, rfl, h0, h1, h2, h3, rfl, 0, rfl⟩
  case round =>
    obtain ⟨c, d, rfl, rfl, hc0, hc, hd0, hd, Hg, dr, rfl⟩ := hrel
    by_cases h0 : d = 0
    · subst h0
      go_wp2
      go_ret
      exact ⟨by rw [← Hg.out, gcdI_zero c hc0]; rfl, ⟨_, rfl⟩⟩
    · have h0' : (d != 0) = true := by simp; omega
      have h0'' : (d == 0) = false := by simp; omega
      have h1d : 1 ≤ d := by omega
      go_wp2
      go_region
      go_wp2
      go_roundw
      case rel => exact ⟨d, c % d, rfl, rfl, hd0, hd, (mod_bd c d h1d).1, by have := (mod_bd c d h1d).2; omega, (gcdI_step c d hc0 h1d).trans Hg.out, dr + 1, rfl⟩
      case measure => simp [intOf]; have := mod_bd c d h1d; omega

theorem vfrac_false {n d : Int} (h : ¬ (1 ≤ d ∧ d ≤ 1000000000 ∧ -1000000000000000 ≤ n ∧ n ≤ 1000000000000000)) : vfrac n d = false := by
  simp only [vfrac, h, decide_false, Bool.false_and]
theorem vfrac_true {n d : Int} (h : 1 ≤ d ∧ d ≤ 1000000000 ∧ -1000000000000000 ≤ n ∧ n ≤ 1000000000000000) : vfrac n d = (gcdI (absI n) (absI d) == 1) := by
  simp only [vfrac, h, and_self, decide_true, Bool.true_and]

theorem Calls.quietE {P : Program} {f : FuncId} {args : Array Value} {w : World} {v : Value}
    (h : Calls P f args w fun e w' => e = .returned v ∧ w = w') : Calls P f args w fun e w' => e = .returned v ∧ ∃ n, w' = w.drewN n :=
  h.mono fun _ _ ⟨he, hw⟩ => ⟨he, 0, hw.symm⟩

set_option maxHeartbeats 1000000 in
theorem Valid1_any (n d : Int) (w : World) (h1 : -9223372036854775808 ≤ n) (h2 : n ≤ 9223372036854775807) (h3 : -9223372036854775808 ≤ d) (h4 : d ≤ 9223372036854775807) :
    Calls Tryz.prog 60 #[.agg #[.int .i64 n, .int .i64 d]] w fun e w' => e = .returned (.bool (vfrac n d)) ∧ w.Grows w' := by
  by_cases c1 : 1 ≤ d
  · by_cases c2 : d ≤ 1000000000
    · by_cases c3 : -1000000000000000 ≤ n
      · by_cases c4 : n ≤ 1000000000000000
        · have hv := Lib.hid (vfrac_true ⟨c1, c2, c3, c4⟩)
          have ha := absI_bd n h1 h2
          have ha0 := ha.1
          have ha1 := ha.2
          have e1 : IntKind.u64.wrap d = d := IntWalk.u64_in _ (by omega)
          have e2 := Lib.hid (absI_of_nonneg (show 0 ≤ d by omega))
          clear ha
          go_enter Tryz.func60, Tryz.ntmps60
          go_wp2_with fail
          go_quiet (first | (go_at_call 100; refine Calls.quiet_of (gcd1_any _ _ _ (by omega) (by omega) (by omega) (by omega))) | (go_at_call 91; refine Calls.quiet_of (Calls.quietE (size1_any _ _ (by omega) (by omega)))))
          go_wp2_with fail
          go_returns
          exact ⟨by rw [hv.out, e2.out]; rfl, .of_below (by (exact belB))⟩
        · have d1 : decide (n ≤ 1000000000000000) = false := by simp; omega
          go_enter Tryz.func60, Tryz.ntmps60
          go_wp2_with fail
          go_quiet (fail)
          go_wp2_with fail
          go_returns
          exact ⟨by rw [vfrac_false (by omega)]; rfl, .of_below (by (exact belB))⟩
      · have d1 : decide (-1000000000000000 ≤ n) = false := by simp; omega
        go_enter Tryz.func60, Tryz.ntmps60
        go_wp2_with fail
        go_quiet (fail)
        go_wp2_with fail
        go_returns
        exact ⟨by rw [vfrac_false (by omega)]; rfl, .of_below (by (exact belB))⟩
    · have d1 : decide (d ≤ 1000000000) = false := by simp; omega
      go_enter Tryz.func60, Tryz.ntmps60
      go_wp2_with fail
      go_quiet (fail)
      go_wp2_with fail
      go_returns
      exact ⟨by rw [vfrac_false (by omega)]; rfl, .of_below (by (exact belB))⟩
  · have d1 : decide (1 ≤ d) = false := by simp; omega
    go_enter Tryz.func60, Tryz.ntmps60
    go_wp2_with fail
    go_quiet (fail)
    go_wp2_with fail
    go_returns
    exact ⟨by rw [vfrac_false (by omega)]; rfl, .of_below (by (exact belB))⟩

set_option maxHeartbeats 1000000 in
theorem Valid2_any (n d : Int) (w : World) (h1 : -9223372036854775808 ≤ n) (h2 : n ≤ 9223372036854775807) (h3 : -9223372036854775808 ≤ d) (h4 : d ≤ 9223372036854775807) :
    Calls Tryz.prog 55 #[.agg #[.int .i64 n, .int .i64 d]] w fun e w' => e = .returned (.bool (vfrac n d)) ∧ w.Grows w' := by
  by_cases c1 : 1 ≤ d
  · by_cases c2 : d ≤ 1000000000
    · by_cases c3 : -1000000000000000 ≤ n
      · by_cases c4 : n ≤ 1000000000000000
        · have hv := Lib.hid (vfrac_true ⟨c1, c2, c3, c4⟩)
          have ha := absI_bd n h1 h2
          have ha0 := ha.1
          have ha1 := ha.2
          have e1 : absI d = d := absI_of_nonneg (by omega); clear ha
          go_enter Tryz.func55, Tryz.ntmps55
          go_wp2_with fail
          go_quiet (first | (go_at_call 94; refine Calls.quiet_of (gcd2_any _ _ _ (by omega) (by omega) (by omega) (by omega))) | (go_at_call 95; refine Calls.quiet_of (Calls.quietE (size2_any _ _ (by omega) (by omega)))))
          go_wp2_with fail
          go_returns
          exact ⟨by rw [hv.out, e1]; rfl, .of_below (by (exact belB))⟩
        · have d1 : decide (n ≤ 1000000000000000) = false := by simp; omega
          go_enter Tryz.func55, Tryz.ntmps55
          go_wp2_with fail
          go_quiet (fail)
          go_wp2_with fail
          go_returns
          exact ⟨by rw [vfrac_false (by omega)]; rfl, .of_below (by (exact belB))⟩
      · have d1 : decide (-1000000000000000 ≤ n) = false := by simp; omega
        go_enter Tryz.func55, Tryz.ntmps55
        go_wp2_with fail
        go_quiet (fail)
        go_wp2_with fail
        go_returns
        exact ⟨by rw [vfrac_false (by omega)]; rfl, .of_below (by (exact belB))⟩
    · have d1 : decide (d ≤ 1000000000) = false := by simp; omega
      go_enter Tryz.func55, Tryz.ntmps55
      go_wp2_with fail
      go_quiet (fail)
      go_wp2_with fail
      go_returns
      exact ⟨by rw [vfrac_false (by omega)]; rfl, .of_below (by (exact belB))⟩
  · have d1 : decide (1 ≤ d) = false := by simp; omega
    go_enter Tryz.func55, Tryz.ntmps55
    go_wp2_with fail
    go_quiet (fail)
    go_wp2_with fail
    go_returns
    exact ⟨by rw [vfrac_false (by omega)]; rfl, .of_below (by (exact belB))⟩

end Go.Proofs.YtlheailebbngiaaGreatDoor
