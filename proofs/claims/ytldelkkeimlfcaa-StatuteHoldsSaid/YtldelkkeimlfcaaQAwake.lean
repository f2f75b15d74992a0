/- awake: the example of chapter 11 is answered as the document says. -/
import Derived.Test.YtldelkkeimlfcaaQIdx
set_option linter.all false
namespace Go.Proofs.Ytldelkkeimlfcaa
open Go.RowKit

def awY (i : Nat) : Int := if i = 0 then 1960 else 1990
def awN (i : Nat) : Int := if i = 0 then 1 else 5
def awD (i : Nat) : Int := if i = 0 then 1 else 2
theorem aw_fac : facN awY awN 1995 2 = 5 ∧ facN awY awD 1995 2 = 2 ∧ facN awY awN 1970 2 = 1 ∧ facN awY awD 1970 2 = 1 := by decide +kernel
theorem aw_idx : idxN 100 5 2 1 1 = 250 ∧ idxE 100 5 2 1 1 = 0 := by decide +kernel
theorem awake_any (w : World) : Calls Try.prog 11 #[] w fun e w' => e = .returned (.bool true) ∧ w.Grows w' := by
  have HI : Hid (∀ (w' : World) (b : Nat), b < w'.heap.size → (∀ i u, #[Value.int .i64 1960, .int .i64 1, .int .i64 1, .int .i64 1990, .int .i64 5, .int .i64 2][i]? = some u → w'.cell? ⟨b, i, none⟩ = some u) →
      Calls Try.prog 14 #[.agg #[.int .i64 0, .int .i64 0, .int .i64 0, .slice none 0 0, .slice (some ⟨b, 0, none⟩) 2 2, .slice none 0 0, .slice none 0 0, .slice none 0 0], .int .i64 100, .int .i64 1970, .int .i64 1995] w' fun e w'' =>
        e = .returned (.tuple #[.int .i64 250, .int .i64 0]) ∧ w'.Grows w'') := by
    refine Lib.hid fun w' b hb hc => ?_
    have := Indexed2_any (.int .i64 0) (.int .i64 0) (.int .i64 0) (.slice none 0 0) (.slice (some ⟨b, 0, none⟩) 2 2) (.slice none 0 0) (.slice none 0 0) (.slice none 0 0) 2 awY awN awD 100 1970 1995 w'
      ⟨by omega, _, _, rfl, .inr ⟨b, 0, rfl, hb, fun i hi => by
        obtain rfl | rfl : i = 0 ∨ i = 1 := by omega
        · exact ⟨hc 0 _ rfl, hc 1 _ rfl, hc 2 _ rfl⟩
        · exact ⟨hc 3 _ rfl, hc 4 _ rfl, hc 5 _ rfl⟩⟩⟩ (fun i _ => by unfold awN; split <;> omega) (fun i _ => by unfold awD; split <;> omega)
    obtain ⟨e1, e2, e3, e4⟩ := aw_fac
    rw [e1, e2, e3, e4, aw_idx.1, aw_idx.2] at this
    exact this
  go_enter Try.func11, Try.ntmps11
  go_wp2_with fail
  refine (HI.out _ w.heap.size (by simp; omega) ?_).mono ?_
  · intro i u hu
    rcases i with _ | _ | _ | _ | _ | _ | i <;> simp at hu <;> subst hu <;> simp [go_sem]
  rintro e w' ⟨rfl, bs, d, rfl⟩
  go_wp2_with fail
  go_returns
  exact ⟨rfl, .of_below (by (repeat' (first | (with_reducible exact Below.refl _ _) | (with_reducible assumption) | (with_reducible refine Below.grow ?_ ?_ _ _) | (with_reducible refine Below.alloc ?_ ?_ _) | (with_reducible refine Below.drewN ?_ _) | (with_reducible refine Below.drew ?_) | (with_reducible refine Below.setCell ?_ ?_ _) | go_size)))⟩
end Go.Proofs.Ytldelkkeimlfcaa
