
import Derived.Test.YtldelkkeimlfcaaQWide
set_option linter.all false
namespace Go.Proofs.Ytldelkkeimlfcaa
open Go.RowKit

def absI (n : Int) : Int := (n.natAbs : Int)
def gcdI (x y : Int) : Int := (Nat.gcd x.toNat y.toNat : Nat)
theorem absI_bd (n : Int) (h1 : -9223372036854775808 ≤ n) (h2 : n ≤ 9223372036854775807) : 0 ≤ absI n ∧ absI n ≤ 9223372036854775808 := by unfold absI; omega
theorem absI_toNat (n : Int) : (absI n).toNat = n.natAbs := by unfold absI; simp
theorem absI_of_nonneg {n : Int} (h : 0 ≤ n) : absI n = n := by unfold absI; omega

/-- A valid fraction. -/
def vfrac (n d : Int) : Bool := decide (1 ≤ d ∧ d ≤ 1000000000 ∧ -1000000000000000 ≤ n ∧ n ≤ 1000000000000000) && gcdI (absI n) (absI d) == 1
theorem vfrac_bd {n d : Int} (h : vfrac n d = true) : 1 ≤ d ∧ d ≤ 1000000000 ∧ -1000000000000000 ≤ n ∧ n ≤ 1000000000000000 := by
  simp only [vfrac, Bool.and_eq_true, decide_eq_true_eq] at h; exact h.1
theorem vfrac_gcd {n d : Int} (h : vfrac n d = true) : Nat.gcd n.natAbs d.natAbs = 1 := by
  simp only [vfrac, Bool.and_eq_true, beq_iff_eq, gcdI, absI_toNat] at h
  have := h.2; omega
theorem vfrac_of {n d : Int} (h : 1 ≤ d ∧ d ≤ 1000000000 ∧ -1000000000000000 ≤ n ∧ n ≤ 1000000000000000) (hg : Nat.gcd n.natAbs d.natAbs = 1) : vfrac n d = true := by
  simp only [vfrac, Bool.and_eq_true, decide_eq_true_eq, beq_iff_eq, gcdI, absI_toNat]
  exact ⟨h, by omega⟩

theorem Calls.quietD {P : Program} {f : FuncId} {args : Array Value} {w : World} {v : Value}
    (h : Calls P f args w fun e w' => e = .returned v ∧ ∃ n, w' = w.drewN n) : Calls P f args w fun e w' => e = .returned v ∧ w.Grows w' :=
  h.mono fun _ _ ⟨he, n, hw⟩ => ⟨he, by subst hw; exact .of_below ⟨rfl, rfl, rfl, Nat.le_refl _, fun _ _ => rfl⟩⟩

set_option maxHeartbeats 400000 in
theorem size1_any (n : Int) (w : World) (h1 : -9223372036854775808 ≤ n) (h2 : n ≤ 9223372036854775807) :
    Calls Try.prog 45 #[.int .i64 n] w fun e w' => e = .returned (.int .u64 (absI n)) ∧ w = w' := by
  by_cases hk : n < 0
  · go_enter Try.func45, Try.ntmps45
    go_wp2
    go_ret
    exact ⟨by simp [absI]; omega, rfl⟩
  · go_enter Try.func45, Try.ntmps45
    go_wp2
    go_ret
    exact ⟨by simp [absI]; omega, rfl⟩

set_option maxHeartbeats 400000 in
theorem size2_any (n : Int) (w : World) (h1 : -9223372036854775808 ≤ n) (h2 : n ≤ 9223372036854775807) :
    Calls Try.prog 74 #[.int .i64 n] w fun e w' => e = .returned (.int .u64 (absI n)) ∧ w = w' := by
  by_cases hk : n < 0
  · go_enter Try.func74, Try.ntmps74
    go_wp2
    go_ret
    exact ⟨ret_int (by unfold absI; simp only [IntKind.wrap_u64]; omega), rfl⟩
  · go_enter Try.func74, Try.ntmps74
    go_wp2
    go_ret
    exact ⟨ret_int (by unfold absI; omega), rfl⟩

theorem gcdI_step (c d : Int) (h0 : 0 ≤ c) (h1 : 0 < d) : gcdI d (c % d) = gcdI c d := by
  unfold gcdI
  obtain ⟨a, rfl⟩ := Int.eq_ofNat_of_zero_le h0
  obtain ⟨b, rfl⟩ := Int.eq_ofNat_of_zero_le (Int.le_of_lt h1)
  rw [show ((a : Int) % (b : Int)) = ((a % b : Nat) : Int) by simp]
  simp only [Int.toNat_natCast]
  congr 1
  rw [Nat.gcd_comm a b, Nat.gcd_rec b a, Nat.gcd_comm]

theorem gcdI_zero (c : Int) (h0 : 0 ≤ c) : gcdI c 0 = c := by unfold gcdI; simp; omega

theorem mod_bd (c d : Int) (h1 : 0 < d) : 0 ≤ c % d ∧ c % d < d := ⟨Int.emod_nonneg _ (by omega), Int.emod_lt_of_pos _ h1⟩

set_option maxHeartbeats 400000 in
theorem gcd1_any (a b : Int) (w : World) (h0 : 0 ≤ a) (h1 : a < 18446744073709551616) (h2 : 0 ≤ b) (h3 : b < 18446744073709551616) :
    Calls Try.prog 65 #[.int .u64 a, .int .u64 b] w fun e w' => e = .returned (.int .u64 (gcdI a b)) ∧ ∃ n, w' = w.drewN n := by
  go_enter Try.func65, Try.ntmps65
  go_wp2
  go_loopw [0, 1] (fun x y wr => ∃ c d : Int, x = .int .u64 c ∧ y = .int .u64 d ∧ 0 ≤ c ∧ c < 18446744073709551616 ∧ 0 ≤ d ∧ d < 18446744073709551616 ∧ Hid (gcdI c d = gcdI a b) ∧ ∃ n, wr = w.drewN n) (fun _ y _ => (intOf y).toNat)
  case atStart => exact ⟨a, b, rfl, rfl, h0, h1, h2, h3, rfl, 0, rfl⟩
  case round =>
    obtain ⟨c, d, rfl, rfl, hc0, hc, hd0, hd, Hg, dr, rfl⟩ := hrel
    by_cases h0 : d = 0
    · subst h0
      go_wp2
      go_ret
      exact ⟨by rw [← Hg.out, gcdI_zero c hc0]; rfl, ⟨_, rfl⟩⟩
    · have h0' : (d != 0) = true := by simp; omega
      have h0'' : (d == 0) = false := by simp; omega
      have h1d : 1 ≤ d := by omega
      go_wp2
      go_region
      go_wp2
      go_roundw
      case rel => exact ⟨d, c % d, rfl, rfl, hd0, hd, (mod_bd c d h1d).1, by have := (mod_bd c d h1d).2; omega, (gcdI_step c d hc0 h1d).trans Hg.out, dr + 1, rfl⟩
      case measure => simp [intOf]; have := mod_bd c d h1d; omega

set_option maxHeartbeats 400000 in
theorem gcd2_any (a b : Int) (w : World) (h0 : 0 ≤ a) (h1 : a < 18446744073709551616) (h2 : 0 ≤ b) (h3 : b < 18446744073709551616) :
    Calls Try.prog 73 #[.int .u64 a, .int .u64 b] w fun e w' => e = .returned (.int .u64 (gcdI a b)) ∧ ∃ n, w' = w.drewN n := by
  go_enter Try.func73, Try.ntmps73
  go_wp2
  go_loopw [0, 1] (fun x y wr => ∃ c d : Int, x = .int .u64 c ∧ y = .int .u64 d ∧ 0 ≤ c ∧ c < 18446744073709551616 ∧ 0 ≤ d ∧ d < 18446744073709551616 ∧ Hid (gcdI c d = gcdI a b) ∧ ∃ n, wr = w.drewN n) (fun _ y _ => (intOf y).toNat)
  case atStart => exact ⟨a, b, rfl, rfl, h0, h1, h2, h3, rfl, 0, rfl⟩
  case round =>
    obtain ⟨c, d, rfl, rfl, hc0, hc, hd0, hd, Hg, dr, rfl⟩ := hrel
    by_cases h0 : d = 0
    · subst h0
      go_wp2
      go_ret
      exact ⟨by rw [← Hg.out, gcdI_zero c hc0]; rfl, ⟨_, rfl⟩⟩
    · have h0' : (d != 0) = true := by simp; omega
      have h0'' : (d == 0) = false := by simp; omega
      have h1d : 1 ≤ d := by omega
      go_wp2
      go_region
      go_wp2
      go_roundw
      case rel => exact ⟨d, c % d, rfl, rfl, hd0, hd, (mod_bd c d h1d).1, by have := (mod_bd c d h1d).2; omega, (gcdI_step c d hc0 h1d).trans Hg.out, dr + 1, rfl⟩
      case measure => simp [intOf]; have := mod_bd c d h1d; omega

theorem vfrac_false {n d : Int} (h : ¬ (1 ≤ d ∧ d ≤ 1000000000 ∧ -1000000000000000 ≤ n ∧ n ≤ 1000000000000000)) : vfrac n d = false := by
  simp only [vfrac, h, decide_false, Bool.false_and]
theorem vfrac_true {n d : Int} (h : 1 ≤ d ∧ d ≤ 1000000000 ∧ -1000000000000000 ≤ n ∧ n ≤ 1000000000000000) : vfrac n d = (gcdI (absI n) (absI d) == 1) := by
  simp only [vfrac, h, and_self, decide_true, Bool.true_and]

theorem Calls.quietE {P : Program} {f : FuncId} {args : Array Value} {w : World} {v : Value}
    (h : Calls P f args w fun e w' => e = .returned v ∧ w = w') : Calls P f args w fun e w' => e = .returned v ∧ ∃ n, w' = w.drewN n :=
  h.mono fun _ _ ⟨he, hw⟩ => ⟨he, 0, hw.symm⟩

set_option maxHeartbeats 1000000 in
theorem Valid1_any (n d : Int) (w : World) (h1 : -9223372036854775808 ≤ n) (h2 : n ≤ 9223372036854775807) (h3 : -9223372036854775808 ≤ d) (h4 : d ≤ 9223372036854775807) :
    Calls Try.prog 51 #[.agg #[.int .i64 n, .int .i64 d]] w fun e w' => e = .returned (.bool (vfrac n d)) ∧ w.Grows w' := by
  by_cases c1 : 1 ≤ d
  · by_cases c2 : d ≤ 1000000000
    · by_cases c3 : -1000000000000000 ≤ n
      · by_cases c4 : n ≤ 1000000000000000
        · have hv := Lib.hid (vfrac_true ⟨c1, c2, c3, c4⟩)
          have ha := absI_bd n h1 h2
          have ha0 := ha.1
          have ha1 := ha.2
          have e1 : IntKind.u64.wrap d = d := IntWalk.u64_in _ (by omega)
          have e2 := Lib.hid (absI_of_nonneg (show 0 ≤ d by omega))
          clear ha
          go_enter Try.func51, Try.ntmps51
          go_wp2_with fail
          go_quiet (first | (go_at_call 65; refine Calls.quiet_of (gcd1_any _ _ _ (by omega) (by omega) (by omega) (by omega))) | (go_at_call 45; refine Calls.quiet_of (Calls.quietE (size1_any _ _ (by omega) (by omega)))))
          go_wp2_with fail
          go_returns
          exact ⟨by rw [hv.out, e2.out]; rfl, .of_below (by (repeat' (first | (with_reducible exact Below.refl _ _) | (with_reducible assumption) | (with_reducible refine Below.grow ?_ ?_ _ _) | (with_reducible refine Below.alloc ?_ ?_ _) | (with_reducible refine Below.drewN ?_ _) | (with_reducible refine Below.drew ?_) | (with_reducible refine Below.setCell ?_ ?_ _) | go_size)))⟩
        · have d1 : decide (n ≤ 1000000000000000) = false := by simp; omega
          go_enter Try.func51, Try.ntmps51
          go_wp2_with fail
          go_quiet (fail)
          go_wp2_with fail
          go_returns
          exact ⟨by rw [vfrac_false (by omega)]; rfl, .of_below (by (repeat' (first | (with_reducible exact Below.refl _ _) | (with_reducible assumption) | (with_reducible refine Below.grow ?_ ?_ _ _) | (with_reducible refine Below.alloc ?_ ?_ _) | (with_reducible refine Below.drewN ?_ _) | (with_reducible refine Below.drew ?_) | (with_reducible refine Below.setCell ?_ ?_ _) | go_size)))⟩
      · have d1 : decide (-1000000000000000 ≤ n) = false := by simp; omega
        go_enter Try.func51, Try.ntmps51
        go_wp2_with fail
        go_quiet (fail)
        go_wp2_with fail
        go_returns
        exact ⟨by rw [vfrac_false (by omega)]; rfl, .of_below (by (repeat' (first | (with_reducible exact Below.refl _ _) | (with_reducible assumption) | (with_reducible refine Below.grow ?_ ?_ _ _) | (with_reducible refine Below.alloc ?_ ?_ _) | (with_reducible refine Below.drewN ?_ _) | (with_reducible refine Below.drew ?_) | (with_reducible refine Below.setCell ?_ ?_ _) | go_size)))⟩
    · have d1 : decide (d ≤ 1000000000) = false := by simp; omega
      go_enter Try.func51, Try.ntmps51
      go_wp2_with fail
      go_quiet (fail)
      go_wp2_with fail
      go_returns
      exact ⟨by rw [vfrac_false (by omega)]; rfl, .of_below (by (repeat' (first | (with_reducible exact Below.refl _ _) | (with_reducible assumption) | (with_reducible refine Below.grow ?_ ?_ _ _) | (with_reducible refine Below.alloc ?_ ?_ _) | (with_reducible refine Below.drewN ?_ _) | (with_reducible refine Below.drew ?_) | (with_reducible refine Below.setCell ?_ ?_ _) | go_size)))⟩
  · have d1 : decide (1 ≤ d) = false := by simp; omega
    go_enter Try.func51, Try.ntmps51
    go_wp2_with fail
    go_quiet (fail)
    go_wp2_with fail
    go_returns
    exact ⟨by rw [vfrac_false (by omega)]; rfl, .of_below (by (repeat' (first | (with_reducible exact Below.refl _ _) | (with_reducible assumption) | (with_reducible refine Below.grow ?_ ?_ _ _) | (with_reducible refine Below.alloc ?_ ?_ _) | (with_reducible refine Below.drewN ?_ _) | (with_reducible refine Below.drew ?_) | (with_reducible refine Below.setCell ?_ ?_ _) | go_size)))⟩

set_option maxHeartbeats 1000000 in
theorem Valid2_any (n d : Int) (w : World) (h1 : -9223372036854775808 ≤ n) (h2 : n ≤ 9223372036854775807) (h3 : -9223372036854775808 ≤ d) (h4 : d ≤ 9223372036854775807) :
    Calls Try.prog 49 #[.agg #[.int .i64 n, .int .i64 d]] w fun e w' => e = .returned (.bool (vfrac n d)) ∧ w.Grows w' := by
  by_cases c1 : 1 ≤ d
  · by_cases c2 : d ≤ 1000000000
    · by_cases c3 : -1000000000000000 ≤ n
      · by_cases c4 : n ≤ 1000000000000000
        · have hv := Lib.hid (vfrac_true ⟨c1, c2, c3, c4⟩)
          have ha := absI_bd n h1 h2
          have ha0 := ha.1
          have ha1 := ha.2
          have e1 : absI d = d := absI_of_nonneg (by omega); clear ha
          go_enter Try.func49, Try.ntmps49
          go_wp2_with fail
          go_quiet (first | (go_at_call 73; refine Calls.quiet_of (gcd2_any _ _ _ (by omega) (by omega) (by omega) (by omega))) | (go_at_call 74; refine Calls.quiet_of (Calls.quietE (size2_any _ _ (by omega) (by omega)))))
          go_wp2_with fail
          go_returns
          exact ⟨by rw [hv.out, e1]; rfl, .of_below (by (repeat' (first | (with_reducible exact Below.refl _ _) | (with_reducible assumption) | (with_reducible refine Below.grow ?_ ?_ _ _) | (with_reducible refine Below.alloc ?_ ?_ _) | (with_reducible refine Below.drewN ?_ _) | (with_reducible refine Below.drew ?_) | (with_reducible refine Below.setCell ?_ ?_ _) | go_size)))⟩
        · have d1 : decide (n ≤ 1000000000000000) = false := by simp; omega
          go_enter Try.func49, Try.ntmps49
          go_wp2_with fail
          go_quiet (fail)
          go_wp2_with fail
          go_returns
          exact ⟨by rw [vfrac_false (by omega)]; rfl, .of_below (by (repeat' (first | (with_reducible exact Below.refl _ _) | (with_reducible assumption) | (with_reducible refine Below.grow ?_ ?_ _ _) | (with_reducible refine Below.alloc ?_ ?_ _) | (with_reducible refine Below.drewN ?_ _) | (with_reducible refine Below.drew ?_) | (with_reducible refine Below.setCell ?_ ?_ _) | go_size)))⟩
      · have d1 : decide (-1000000000000000 ≤ n) = false := by simp; omega
        go_enter Try.func49, Try.ntmps49
        go_wp2_with fail
        go_quiet (fail)
        go_wp2_with fail
        go_returns
        exact ⟨by rw [vfrac_false (by omega)]; rfl, .of_below (by (repeat' (first | (with_reducible exact Below.refl _ _) | (with_reducible assumption) | (with_reducible refine Below.grow ?_ ?_ _ _) | (with_reducible refine Below.alloc ?_ ?_ _) | (with_reducible refine Below.drewN ?_ _) | (with_reducible refine Below.drew ?_) | (with_reducible refine Below.setCell ?_ ?_ _) | go_size)))⟩
    · have d1 : decide (d ≤ 1000000000) = false := by simp; omega
      go_enter Try.func49, Try.ntmps49
      go_wp2_with fail
      go_quiet (fail)
      go_wp2_with fail
      go_returns
      exact ⟨by rw [vfrac_false (by omega)]; rfl, .of_below (by (repeat' (first | (with_reducible exact Below.refl _ _) | (with_reducible assumption) | (with_reducible refine Below.grow ?_ ?_ _ _) | (with_reducible refine Below.alloc ?_ ?_ _) | (with_reducible refine Below.drewN ?_ _) | (with_reducible refine Below.drew ?_) | (with_reducible refine Below.setCell ?_ ?_ _) | go_size)))⟩
  · have d1 : decide (1 ≤ d) = false := by simp; omega
    go_enter Try.func49, Try.ntmps49
    go_wp2_with fail
    go_quiet (fail)
    go_wp2_with fail
    go_returns
    exact ⟨by rw [vfrac_false (by omega)]; rfl, .of_below (by (repeat' (first | (with_reducible exact Below.refl _ _) | (with_reducible assumption) | (with_reducible refine Below.grow ?_ ?_ _ _) | (with_reducible refine Below.alloc ?_ ?_ _) | (with_reducible refine Below.drewN ?_ _) | (with_reducible refine Below.drew ?_) | (with_reducible refine Below.setCell ?_ ?_ _) | go_size)))⟩

end Go.Proofs.Ytldelkkeimlfcaa
