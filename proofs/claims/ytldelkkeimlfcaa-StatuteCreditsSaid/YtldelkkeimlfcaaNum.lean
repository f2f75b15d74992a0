import Derived.Test.YtldelkkeimlfcaaBase
import Derived.Lib.Hide
set_option linter.all false
namespace Go.Proofs.Ytldelkkeimlfcaa
open Go.RowKit

/-- Pick, as a plain function. -/
def pick (n k : Int) : Int := if k < 1 then 0 else n % k

theorem tmod_bd (n k : Int) (hk : 1 ≤ k) : -k < n.tmod k ∧ n.tmod k < k := by
  have h1 := Int.tmod_lt_of_pos n (show 0 < k by omega)
  have h2 := Int.tmod_lt_of_pos (-n) (show 0 < k by omega)
  rw [Int.neg_tmod] at h2
  omega

theorem pick_bd (n k : Int) (hk : 1 ≤ k) : 0 ≤ pick n k ∧ pick n k < k := by
  unfold pick
  rw [if_neg (by omega)]
  exact ⟨Int.emod_nonneg _ (by omega), Int.emod_lt_of_pos _ (by omega)⟩

theorem tmod_emod (n k : Int) : n.tmod k % k = n % k := by
  have h := Int.mul_tdiv_add_tmod n k
  have h2 : n.tmod k = n + k * (-(n.tdiv k)) := by rw [Int.mul_neg]; omega
  rw [h2, Int.add_mul_emod_self_left]

set_option maxHeartbeats 400000 in
theorem Pick_any (n k : Int) (w : World) (h1 : k ≤ 4611686018427387904) :
    Calls Try.prog 10 #[.int .i64 n, .int .i64 k] w fun e w' => e = .returned (.int .i64 (pick n k)) ∧ w = w' := by
  by_cases hk : k < 1
  · go_enter Try.func10, Try.ntmps10
    go_wp2
    go_ret
    exact ⟨by simp [pick, hk], rfl⟩
  · have hm := tmod_bd n k (by omega)
    have hm1 := hm.1
    have hm2 := hm.2
    clear hm
    go_enter Try.func10, Try.ntmps10
    go_wp2
    go_ret
    exact ⟨by simp [pick, tmod_emod, show ¬ k < 1 by omega], rfl⟩

end Go.Proofs.Ytldelkkeimlfcaa
