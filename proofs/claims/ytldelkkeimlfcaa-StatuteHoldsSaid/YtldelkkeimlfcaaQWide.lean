
import Derived.Test.YtldelkkeimlfcaaQDiv
import Derived.Test.YtldelkkeimlfcaaQBase
set_option linter.all false
namespace Go.Proofs.Ytldelkkeimlfcaa
open Go.RowKit

/-- A number of 128 bits, as its two words. -/
def hiW (n : Nat) : Int := (n / 18446744073709551616 : Nat)
def loW (n : Nat) : Int := (n % 18446744073709551616 : Nat)

theorem hiW_bd (n : Nat) (h : n < 340282366920938463463374607431768211456) : 0 ≤ hiW n ∧ hiW n < 18446744073709551616 := by unfold hiW; omega
theorem loW_bd (n : Nat) : 0 ≤ loW n ∧ loW n < 18446744073709551616 := by unfold loW; omega

set_option maxHeartbeats 400000 in
theorem times1_any (a b : Nat) (w : World) (h1 : a < 18446744073709551616) (h2 : b < 18446744073709551616) :
    Calls Try.prog 52 #[.int .u64 a, .int .u64 b] w fun e w' => e = .returned (.agg #[.int .u64 (hiW (a * b)), .int .u64 (loW (a * b))]) ∧ w.Grows w' := by
  have H : Hid (∀ w, Calls Try.prog 30 #[.int .u64 a, .int .u64 b] w fun e w' => e = .returned (.tuple #[.int .u64 (hiW (a * b)), .int .u64 (loW (a * b))]) ∧ w' = w) := Try.bits_Mul64 a b h1 h2
  generalize a * b = n at *
  go_enter Try.func52, Try.ntmps52
  go_wp2_with fail
  refine (H.out _).mono ?_
  rintro e w' ⟨rfl, rfl⟩
  clear H
  go_wp2_with fail
  go_returns
  exact ⟨rfl, .of_below (by (repeat' (first | (with_reducible exact Below.refl _ _) | (with_reducible assumption) | (with_reducible refine Below.grow ?_ ?_ _ _) | (with_reducible refine Below.alloc ?_ ?_ _) | (with_reducible refine Below.drewN ?_ _) | (with_reducible refine Below.drew ?_) | (with_reducible refine Below.setCell ?_ ?_ _) | go_size)))⟩

set_option maxHeartbeats 400000 in
theorem over1_core (H L d q r Q : Int) (w : World) (a1 : (d == 0) = false) (a2 : 1 ≤ d) (h0 : 0 ≤ H)
    (a3 : IntKind.u64.wrap (H.tdiv d) = Q)
    (HD : Hid (∀ w, Calls Try.prog 31 #[.int .u64 (H % d), .int .u64 L, .int .u64 d] w fun e w' => e = .returned (.tuple #[.int .u64 q, .int .u64 r]) ∧ w.Grows w')) :
    Calls Try.prog 64 #[.agg #[.int .u64 H, .int .u64 L], .int .u64 d] w fun e w' => e = .returned (.tuple #[.agg #[.int .u64 Q, .int .u64 q], .int .u64 r]) ∧ w.Grows w' := by
  go_enter Try.func64, Try.ntmps64
  go_wp2_with fail
  refine wp_region_quietG (by kernel_rfl) (by kernel_rfl) ?_
  repeat (go_big_quiet_step ((go_at_call 31; exact Calls.quietG (HD.out _))))
  refine wpQuiet_nil ?_
  intro _ hw'
  obtain ⟨⟨gb, gd⟩, hw''⟩ := hw'
  subst hw''
  clear HD
  go_wp2_with fail
  go_returns
  refine ⟨rfl, .of_below (by (repeat' (first | (with_reducible exact Below.refl _ _) | (with_reducible assumption) | (with_reducible refine Below.grow ?_ ?_ _ _) | (with_reducible refine Below.alloc ?_ ?_ _) | (with_reducible refine Below.drewN ?_ _) | (with_reducible refine Below.drew ?_) | (with_reducible refine Below.setCell ?_ ?_ _) | go_size)))⟩
end Go.Proofs.Ytldelkkeimlfcaa
