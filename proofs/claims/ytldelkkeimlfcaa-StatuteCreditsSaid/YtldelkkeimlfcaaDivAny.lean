import Derived.Test.YtldelkkeimlfcaaDiv
import Derived.Lib.ItoaNum
set_option linter.all false
namespace Go.Proofs.Ytldelkkeimlfcaa
open Go.RowKit

theorem lz_spec (y : Nat) (h0 : 0 < y) (h : y < 18446744073709551616) : ∃ s : Nat, s ≤ 63 ∧ (64 : Int) - (Lib.bitLen y : Int) = s ∧ 9223372036854775808 ≤ y * 2 ^ s ∧ y * 2 ^ s < 18446744073709551616 := by
  obtain ⟨h1, h2, h3⟩ := Lib.bitLenAux_bounds 64 y h (by omega)
  have h4 : Lib.bitLen y ≤ 64 := Lib.bitLen_le y 64 (Nat.le_refl _) h
  have e : Lib.bitLenAux 64 y = Lib.bitLen y := rfl
  rw [e] at h1 h2 h3
  generalize Lib.bitLen y = k at *
  refine ⟨64 - k, by omega, by omega, ?_, ?_⟩
  · calc 9223372036854775808 = 2 ^ (k - 1) * 2 ^ (64 - k) := by rw [← Nat.pow_add]; rw [show k - 1 + (64 - k) = 63 by omega]
      _ ≤ y * 2 ^ (64 - k) := Nat.mul_le_mul_right _ h2
  · calc y * 2 ^ (64 - k) < 2 ^ k * 2 ^ (64 - k) := Nat.mul_lt_mul_of_pos_right h3 (Nat.two_pow_pos _)
      _ = 18446744073709551616 := by rw [← Nat.pow_add]; rw [show k + (64 - k) = 64 by omega]

theorem cast_pow (y s : Nat) : (y : Int) * 2 ^ s = ((y * 2 ^ s : Nat) : Int) := by
  rw [Int.natCast_mul]; simp

theorem and_mask (Y : Nat) (h : Y < 18446744073709551616) : bits BinOp.and IntKind.u64 ↑Y 4294967295 = ((Y % 4294967296 : Nat) : Int) := by
  rw [show (4294967295 : Int) = ((4294967295 : Nat) : Int) from rfl, u64_and_nat Y 4294967295 h (by omega)]
  rw [show (4294967295 : Nat) = 2 ^ 32 - 1 from rfl, Nat.and_two_pow_sub_one_eq_mod]

theorem wrap_mod (lo s : Nat) : IntKind.u64.wrap (↑lo * 2 ^ s) = ((lo * 2 ^ s % 18446744073709551616 : Nat) : Int) := by
  rw [cast_pow, IntKind.wrap_u64]; simp

theorem or_parts (hi lo s : Nat) (hs : s ≤ 63) (hh : hi * 2 ^ s < 18446744073709551616) (hl : lo < 18446744073709551616) :
    bits BinOp.or IntKind.u64 (IntKind.u64.wrap (↑hi * 2 ^ s)) (↑lo / 2 ^ (64 - s)) = ((hi * 2 ^ s + lo / 2 ^ (64 - s) : Nat) : Int) := by
  have h2 : lo / 2 ^ (64 - s) < 2 ^ s := by
    rw [Nat.div_lt_iff_lt_mul (Nat.two_pow_pos _), ← Nat.pow_add, show s + (64 - s) = 64 by omega]; exact hl
  have h3 : (lo : Int) / 2 ^ (64 - s) = ((lo / 2 ^ (64 - s) : Nat) : Int) := by simp
  have h4 : lo / 2 ^ (64 - s) < 18446744073709551616 := Nat.lt_of_le_of_lt (Nat.div_le_self _ _) hl
  rw [wrap_mod, h3, Nat.mod_eq_of_lt hh, u64_or_nat _ _ hh h4]
  rw [Nat.mul_comm hi, ← Nat.two_pow_add_eq_or_of_lt h2]

theorem Div64_any (hi lo y : Nat) (w : World) (hh : hi < y) (h1 : lo < 18446744073709551616) (h2 : y < 18446744073709551616) :
    Calls Try.prog 31 #[.int .u64 hi, .int .u64 lo, .int .u64 y] w fun e w' => e = .returned (.tuple #[.int .u64 ((hi * 18446744073709551616 + lo) / y : Nat), .int .u64 ((hi * 18446744073709551616 + lo) % y : Nat)]) ∧ w.Grows w' := by
  by_cases h0 : hi = 0
  · subst h0
    simpa using Div64_small lo y w h1 h2 hh
  · obtain ⟨s, hs, hlz, ha, hb⟩ := lz_spec y (by omega) h2
    have hhs : hi * 2 ^ s < y * 2 ^ s := Nat.mul_lt_mul_of_pos_right hh (Nat.two_pow_pos s)
    have hU : hi * 2 ^ s + lo / 2 ^ (64 - s) < y * 2 ^ s := by
      have h3 : lo / 2 ^ (64 - s) < 2 ^ s := by
        rw [Nat.div_lt_iff_lt_mul (Nat.two_pow_pos _), ← Nat.pow_add, show s + (64 - s) = 64 by omega]; exact h1
      have h4 : hi * 2 ^ s + 2 ^ s ≤ y * 2 ^ s := by
        rw [← Nat.succ_mul]; exact Nat.mul_le_mul_right _ hh
      omega
    have hp := or_parts hi lo s hs (by omega) h1
    have hw := wrap_mod lo s
    have hLlt : lo * 2 ^ s % 18446744073709551616 < 18446744073709551616 := Nat.mod_lt _ (by omega)
    have hD : (hi * 18446744073709551616 + lo) * 2 ^ s = (hi * 2 ^ s + lo / 2 ^ (64 - s)) * 18446744073709551616 + lo * 2 ^ s % 18446744073709551616 := by
      have e1 : lo * 2 ^ s / 18446744073709551616 = lo / 2 ^ (64 - s) := by
        rw [show (18446744073709551616 : Nat) = 2 ^ (64 - s) * 2 ^ s by rw [← Nat.pow_add, show 64 - s + s = 64 by omega], Nat.mul_div_mul_right _ _ (Nat.two_pow_pos s)]
      have e2 := Nat.div_add_mod (lo * 2 ^ s) 18446744073709551616
      rw [e1] at e2
      rw [Nat.add_mul, Nat.mul_right_comm]
      generalize lo * 2 ^ s = a at *
      generalize hi * 2 ^ s = b at *
      generalize lo / 2 ^ (64 - s) = c at *
      omega
    have hwY : IntKind.u64.wrap (↑y * 2 ^ s) = ((y * 2 ^ s : Nat) : Int) := by rw [wrap_mod, Nat.mod_eq_of_lt hb]
    generalize hY : y * 2 ^ s = Y at *
    generalize hUU : hi * 2 ^ s + lo / 2 ^ (64 - s) = U at *
    generalize lo * 2 ^ s % 18446744073709551616 = L at *
    refine Div64_core (hi * 18446744073709551616 + lo) hi lo y s Y (Y / 4294967296) (Y % 4294967296) U L (L / 4294967296) (L % 4294967296) _ _ w hh (by omega) hs hwY (by simp) (and_mask Y hb) hp hw (by simp) (and_mask L hLlt)
      (by omega) (by omega) (by omega) (by omega) (by omega) (show Y = _ by omega) (show U < _ by omega) ?_ hY.symm rfl rfl ?_
    · show (hi * 18446744073709551616 + lo) * 2 ^ s = (U * 4294967296 + L / 4294967296) * 4294967296 + L % 4294967296
      rw [hD]; omega
    · intro w
      refine (Try.bits_LeadingZeros64 y w (by omega) (by omega)).mono ?_
      rintro e w' ⟨rfl, rfl⟩
      simp [hlz]
end Go.Proofs.Ytldelkkeimlfcaa
