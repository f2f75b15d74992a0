import Derived.Test.YtldelkkeimlfcaaSrc
set_option linter.all false
namespace Go.Proofs.Ytldelkkeimlfcaa
open Go.RowKit

/-- The denominators of made numbers. -/
def denOf (i : Int) : Int := if i < 3 then 1 else if i = 3 then 10 else if i = 4 then 4 else if i = 5 then 1000 else 10000
def numN (zs : List Int) (p : Nat) : Int := mkN (nextV zs p 4000) (denOf (nextV zs (p + 1) 7))
def numD (zs : List Int) (p : Nat) : Int := mkD (nextV zs p 4000) (denOf (nextV zs (p + 1) 7))
def numE (zs : List Int) (p : Nat) : Int := mkE (nextV zs p 4000) (denOf (nextV zs (p + 1) 7))
theorem nextV_bd (zs : List Int) (p : Nat) (k : Int) (hk : 1 ≤ k) : 0 ≤ nextV zs p k ∧ nextV zs p k < k := pick_bd _ _ hk

set_option maxHeartbeats 1000000 in
theorem number_any (s : Nat) (lv : Value) (zs : List Int) (p : Nat) (P left : Int) (X : World) (hP : P = p) (hs : s < X.heap.size) (hX : X.src s lv P left = X) (hl : Hid (ListAt X s lv zs)) (hp : p ≤ 4611686018427387000) :
    Calls Try.prog 72 #[.pointer (some ⟨s, 0, none⟩)] X fun e w' => e = .returned (.agg #[.int .i64 (numN zs p), .int .i64 (numD zs p)]) ∧ (X.src s lv (P + 2) left).Grows w' := by
  subst hP
  rw [← hX]
  clear hX
  unfold numN numD
  have b1 := nextV_bd zs p 4000 (by omega)
  have b2 := nextV_bd zs (p + 1) 7 (by omega)
  generalize hV : nextV zs (p + 1) 7 = v at *
  have HV := Lib.hid hV
  clear hV
  generalize hU : nextV zs p 4000 = u at *
  have HU := Lib.hid hU
  clear hU
  rcases (show v = 0 ∨ v = 1 ∨ v = 2 ∨ v = 3 ∨ v = 4 ∨ v = 5 ∨ v = 6 by omega) with rfl | rfl | rfl | rfl | rfl | rfl | rfl
  all_goals
    simp only [denOf, reduceIte, Int.reduceLT, Int.reduceEq]
    go_enter Try.func72, Try.ntmps72
    go_wp2_with fail
    refine (next_any s lv zs p p left _ _ rfl (by simp; omega) (by simp [go_sem, hs]) (by (repeat' (first | (with_reducible exact hl.out) | (with_reducible refine ListAt.alloc ?_ _) | (with_reducible refine ListAt.grow ?_ _ _) | (with_reducible refine ListAt.drewN ?_ _) | (with_reducible refine ListAt.src ?_ _ _ _)))) (by omega) (by omega)).mono ?_
    rintro e w' ⟨rfl, n1, rfl⟩
    rw [HU.out]
    go_wp2_with fail
    refine (next_any s lv zs (p + 1) (p + 1) left _ _ (by simp) (by simp; omega) (by simp [go_sem, hs]) (by (repeat' (first | (with_reducible exact hl.out) | (with_reducible refine ListAt.alloc ?_ _) | (with_reducible refine ListAt.grow ?_ _ _) | (with_reducible refine ListAt.drewN ?_ _) | (with_reducible refine ListAt.src ?_ _ _ _)))) (by omega) (by omega)).mono ?_
    rintro e w' ⟨rfl, n2, rfl⟩
    rw [HV.out]
    go_wp2_with fail
    refine (MakeFraction_any _ _ _ (by omega) (by omega) (by omega) (by omega)).mono ?_
    rintro e w' ⟨rfl, bs, dr, rfl⟩
    go_wp2_with fail
    go_returns
    rw [World.src_src, show (p : Int) + 1 + 1 = p + 2 by omega]
    exact ⟨rfl, .of_below (by (repeat' (first | (with_reducible exact Below.refl _ _) | (with_reducible assumption) | (with_reducible refine Below.grow ?_ ?_ _ _) | (with_reducible refine Below.alloc ?_ ?_ _) | (with_reducible refine Below.drewN ?_ _) | (with_reducible refine Below.drew ?_) | (with_reducible refine Below.setCell ?_ ?_ _) | go_size)))⟩
end Go.Proofs.Ytldelkkeimlfcaa
