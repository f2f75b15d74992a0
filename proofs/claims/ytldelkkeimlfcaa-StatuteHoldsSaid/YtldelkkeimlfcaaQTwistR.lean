/- The walks of twist, told of cells alone. -/
import Derived.Test.YtldelkkeimlfcaaQTake
import Derived.Lib.Hide
import Derived.Deep.CutBlock
set_option linter.all false
namespace Go.Proofs.Ytldelkkeimlfcaa
open Go.RowKit
set_option maxHeartbeats 4000000 in
set_option maxRecDepth 1000000 in
theorem tw1_yes (g gg N cap : Nat) (b0 : Int) (w : World) (hc : w.cell? ⟨g, 6, none⟩ = some (.slice (some ⟨gg, 0, none⟩) N cap))
    (hN : 2 ≤ N) (hm : N ≤ 140737488355328) (hc0 : w.cell? ⟨gg, 0, none⟩ = some (.int .i64 b0)) (u : Value) (hu : w.cell? ⟨gg, 13, none⟩ = some u) (hf : w.frozen? ⟨gg, 13, none⟩ = false) :
    Calls Try.prog 28 #[.pointer (some ⟨g, 0, none⟩), .int .i64 1] w fun e w' => e = .returned (.tuple #[]) ∧ w' = (w.setCell ⟨gg, 13, none⟩ (.int .i64 b0)).drew := by
  have hN1 : (1 : Int) < (N : Int) := by omega
  have hN0 : (0 : Int) < (N : Int) := by omega
  have hN2 : 0 < N := by omega
  have hN3 : 1 < N := by omega
  go_enter Try.func28, Try.ntmps28
  go_wp2_with fail
  refine TG.begin 13 (fun w' => w'.cell? ⟨g, 6, none⟩ = some (.slice (some ⟨gg, 0, none⟩) N cap) ∧ w'.cell? ⟨gg, 0, none⟩ = some (.int .i64 b0)) (by kernel_rfl) (by kernel_rfl) ?_ (fun hS => ?_)
  focus exact ⟨hc, hc0⟩
  refine TG.takeV (i := 0) (v := ?_) rfl (by kernel_rfl) (by kernel_rfl) (by kernel_rfl) (by decide) (fun _ _ _ h => h) rfl hS ?_ ?_
  rotate_left
  focus
    intro wS hSw
    (try dsimp only at hSw)
    go_simp
    rfl
  (try simp only [Act.put, List.getElem_toArray, List.getElem_cons_zero, List.getElem_cons_succ, List.setIfInBounds_toArray, List.set_cons_zero, List.set_cons_succ])
  refine TG.takeV (i := 1) (v := ?_) rfl (by kernel_rfl) (by kernel_rfl) (by kernel_rfl) (by decide) (fun _ _ _ h => h) rfl hS ?_ ?_
  rotate_left
  focus
    intro wS hSw
    (try dsimp only at hSw)
    go_simp
    rfl
  (try simp only [Act.put, List.getElem_toArray, List.getElem_cons_zero, List.getElem_cons_succ, List.setIfInBounds_toArray, List.set_cons_zero, List.set_cons_succ])
  refine TG.takeV (i := 2) (v := ?_) rfl (by kernel_rfl) (by kernel_rfl) (by kernel_rfl) (by decide) (fun _ _ _ h => h) rfl hS ?_ ?_
  rotate_left
  focus
    intro wS hSw
    (try dsimp only at hSw)
    go_simp
    rfl
  (try simp only [Act.put, List.getElem_toArray, List.getElem_cons_zero, List.getElem_cons_succ, List.setIfInBounds_toArray, List.set_cons_zero, List.set_cons_succ])
  refine TG.takeV (i := 3) (v := ?_) rfl (by kernel_rfl) (by kernel_rfl) (by kernel_rfl) (by decide) (fun _ _ _ h => h) rfl hS ?_ ?_
  rotate_left
  focus
    intro wS hSw
    (try dsimp only at hSw)
    go_simp
    rfl
  (try simp only [Act.put, List.getElem_toArray, List.getElem_cons_zero, List.getElem_cons_succ, List.setIfInBounds_toArray, List.set_cons_zero, List.set_cons_succ])
  refine TG.takeV (i := 4) (v := ?_) rfl (by kernel_rfl) (by kernel_rfl) (by kernel_rfl) (by decide) (fun _ _ _ h => h) rfl hS ?_ ?_
  rotate_left
  focus
    intro wS hSw
    (try dsimp only at hSw)
    go_simp
    rfl
  (try simp only [Act.put, List.getElem_toArray, List.getElem_cons_zero, List.getElem_cons_succ, List.setIfInBounds_toArray, List.set_cons_zero, List.set_cons_succ])
  refine TG.takeV (i := 5) (v := ?_) rfl (by kernel_rfl) (by kernel_rfl) (by kernel_rfl) (by decide) (fun _ _ _ h => h) rfl hS ?_ ?_
  rotate_left
  focus
    intro wS hSw
    (try dsimp only at hSw)
    go_simp
    rfl
  (try simp only [Act.put, List.getElem_toArray, List.getElem_cons_zero, List.getElem_cons_succ, List.setIfInBounds_toArray, List.set_cons_zero, List.set_cons_succ])
  refine TG.takeV (i := 6) (v := ?_) rfl (by kernel_rfl) (by kernel_rfl) (by kernel_rfl) (by decide) (fun _ _ _ h => h) rfl hS ?_ ?_
  rotate_left
  focus
    intro wS hSw
    (try dsimp only at hSw)
    go_simp
    rfl
  (try simp only [Act.put, List.getElem_toArray, List.getElem_cons_zero, List.getElem_cons_succ, List.setIfInBounds_toArray, List.set_cons_zero, List.set_cons_succ])
  refine TG.takeV (i := 7) (v := ?_) rfl (by kernel_rfl) (by kernel_rfl) (by kernel_rfl) (by decide) (fun _ _ _ h => h) rfl hS ?_ ?_
  rotate_left
  focus
    intro wS hSw
    (try dsimp only at hSw)
    go_simp
    rfl
  (try simp only [Act.put, List.getElem_toArray, List.getElem_cons_zero, List.getElem_cons_succ, List.setIfInBounds_toArray, List.set_cons_zero, List.set_cons_succ])
  refine TG.takeV (i := 8) (v := ?_) rfl (by kernel_rfl) (by kernel_rfl) (by kernel_rfl) (by decide) (fun _ _ _ h => h) rfl hS ?_ ?_
  rotate_left
  focus
    intro wS hSw
    (try dsimp only at hSw)
    go_simp
    rfl
  (try simp only [Act.put, List.getElem_toArray, List.getElem_cons_zero, List.getElem_cons_succ, List.setIfInBounds_toArray, List.set_cons_zero, List.set_cons_succ])
  refine TG.takeV (i := 9) (v := ?_) rfl (by kernel_rfl) (by kernel_rfl) (by kernel_rfl) (by decide) (fun _ _ _ h => h) rfl hS ?_ ?_
  rotate_left
  focus
    intro wS hSw
    (try dsimp only at hSw)
    go_simp
    rfl
  (try simp only [Act.put, List.getElem_toArray, List.getElem_cons_zero, List.getElem_cons_succ, List.setIfInBounds_toArray, List.set_cons_zero, List.set_cons_succ])
  refine TG.takeV (i := 10) (v := ?_) rfl (by kernel_rfl) (by kernel_rfl) (by kernel_rfl) (by decide) (fun _ _ _ h => h) rfl hS ?_ ?_
  rotate_left
  focus
    intro wS hSw
    (try dsimp only at hSw)
    go_simp
    rfl
  (try simp only [Act.put, List.getElem_toArray, List.getElem_cons_zero, List.getElem_cons_succ, List.setIfInBounds_toArray, List.set_cons_zero, List.set_cons_succ])
  refine TG.takeV (i := 11) (v := ?_) rfl (by kernel_rfl) (by kernel_rfl) (by kernel_rfl) (by decide) (fun _ _ _ h => h) rfl hS ?_ ?_
  rotate_left
  focus
    intro wS hSw
    (try dsimp only at hSw)
    go_simp
    rfl
  (try simp only [Act.put, List.getElem_toArray, List.getElem_cons_zero, List.getElem_cons_succ, List.setIfInBounds_toArray, List.set_cons_zero, List.set_cons_succ])
  refine TG.takeV (i := 12) (v := ?_) rfl (by kernel_rfl) (by kernel_rfl) (by kernel_rfl) (by decide) (fun _ _ _ h => h) rfl hS ?_ ?_
  rotate_left
  focus
    intro wS hSw
    (try dsimp only at hSw)
    go_simp
    rfl
  (try simp only [Act.put, List.getElem_toArray, List.getElem_cons_zero, List.getElem_cons_succ, List.setIfInBounds_toArray, List.set_cons_zero, List.set_cons_succ])
  refine TG.one (i := 13) (by kernel_rfl) rfl (fun K1 hK1 => ?_)
  go_simp
  refine hK1 _ _ (fun h => absurd rfl h) (TG.done (by kernel_rfl) ?_)
  clear hK1 K1 hS
  (try simp only [Act.put, List.getElem_toArray, List.getElem_cons_zero, List.getElem_cons_succ, List.setIfInBounds_toArray, List.set_cons_zero, List.set_cons_succ])
  go_wp2_with fail
  go_returns
  exact ⟨rfl, rfl⟩
set_option maxHeartbeats 4000000 in
set_option maxRecDepth 1000000 in
theorem tw2_yes (g gg N cap : Nat) (b0 : ByteArray) (w : World) (hc : w.cell? ⟨g, 5, none⟩ = some (.slice (some ⟨gg, 0, none⟩) N cap))
    (hN : 2 ≤ N) (hm : N ≤ 140737488355328) (hc0 : w.cell? ⟨gg, 0, none⟩ = some (.string b0)) (u : Value) (hu : w.cell? ⟨gg, 7, none⟩ = some u) (hf : w.frozen? ⟨gg, 7, none⟩ = false) :
    Calls Try.prog 28 #[.pointer (some ⟨g, 0, none⟩), .int .i64 2] w fun e w' => e = .returned (.tuple #[]) ∧ w' = (w.setCell ⟨gg, 7, none⟩ (.string b0)).drew := by
  have hN1 : (1 : Int) < (N : Int) := by omega
  have hN0 : (0 : Int) < (N : Int) := by omega
  have hN2 : 0 < N := by omega
  have hN3 : 1 < N := by omega
  go_enter Try.func28, Try.ntmps28
  go_wp2_with fail
  refine TG.begin 13 (fun w' => w'.cell? ⟨g, 5, none⟩ = some (.slice (some ⟨gg, 0, none⟩) N cap) ∧ w'.cell? ⟨gg, 0, none⟩ = some (.string b0)) (by kernel_rfl) (by kernel_rfl) ?_ (fun hS => ?_)
  focus exact ⟨hc, hc0⟩
  refine TG.takeV (i := 0) (v := ?_) rfl (by kernel_rfl) (by kernel_rfl) (by kernel_rfl) (by decide) (fun _ _ _ h => h) rfl hS ?_ ?_
  rotate_left
  focus
    intro wS hSw
    (try dsimp only at hSw)
    go_simp
    rfl
  (try simp only [Act.put, List.getElem_toArray, List.getElem_cons_zero, List.getElem_cons_succ, List.setIfInBounds_toArray, List.set_cons_zero, List.set_cons_succ])
  refine TG.takeV (i := 1) (v := ?_) rfl (by kernel_rfl) (by kernel_rfl) (by kernel_rfl) (by decide) (fun _ _ _ h => h) rfl hS ?_ ?_
  rotate_left
  focus
    intro wS hSw
    (try dsimp only at hSw)
    go_simp
    rfl
  (try simp only [Act.put, List.getElem_toArray, List.getElem_cons_zero, List.getElem_cons_succ, List.setIfInBounds_toArray, List.set_cons_zero, List.set_cons_succ])
  refine TG.takeV (i := 2) (v := ?_) rfl (by kernel_rfl) (by kernel_rfl) (by kernel_rfl) (by decide) (fun _ _ _ h => h) rfl hS ?_ ?_
  rotate_left
  focus
    intro wS hSw
    (try dsimp only at hSw)
    go_simp
    rfl
  (try simp only [Act.put, List.getElem_toArray, List.getElem_cons_zero, List.getElem_cons_succ, List.setIfInBounds_toArray, List.set_cons_zero, List.set_cons_succ])
  refine TG.takeV (i := 3) (v := ?_) rfl (by kernel_rfl) (by kernel_rfl) (by kernel_rfl) (by decide) (fun _ _ _ h => h) rfl hS ?_ ?_
  rotate_left
  focus
    intro wS hSw
    (try dsimp only at hSw)
    go_simp
    rfl
  (try simp only [Act.put, List.getElem_toArray, List.getElem_cons_zero, List.getElem_cons_succ, List.setIfInBounds_toArray, List.set_cons_zero, List.set_cons_succ])
  refine TG.takeV (i := 4) (v := ?_) rfl (by kernel_rfl) (by kernel_rfl) (by kernel_rfl) (by decide) (fun _ _ _ h => h) rfl hS ?_ ?_
  rotate_left
  focus
    intro wS hSw
    (try dsimp only at hSw)
    go_simp
    rfl
  (try simp only [Act.put, List.getElem_toArray, List.getElem_cons_zero, List.getElem_cons_succ, List.setIfInBounds_toArray, List.set_cons_zero, List.set_cons_succ])
  refine TG.takeV (i := 5) (v := ?_) rfl (by kernel_rfl) (by kernel_rfl) (by kernel_rfl) (by decide) (fun _ _ _ h => h) rfl hS ?_ ?_
  rotate_left
  focus
    intro wS hSw
    (try dsimp only at hSw)
    go_simp
    rfl
  (try simp only [Act.put, List.getElem_toArray, List.getElem_cons_zero, List.getElem_cons_succ, List.setIfInBounds_toArray, List.set_cons_zero, List.set_cons_succ])
  refine TG.takeV (i := 6) (v := ?_) rfl (by kernel_rfl) (by kernel_rfl) (by kernel_rfl) (by decide) (fun _ _ _ h => h) rfl hS ?_ ?_
  rotate_left
  focus
    intro wS hSw
    (try dsimp only at hSw)
    go_simp
    rfl
  (try simp only [Act.put, List.getElem_toArray, List.getElem_cons_zero, List.getElem_cons_succ, List.setIfInBounds_toArray, List.set_cons_zero, List.set_cons_succ])
  refine TG.takeV (i := 7) (v := ?_) rfl (by kernel_rfl) (by kernel_rfl) (by kernel_rfl) (by decide) (fun _ _ _ h => h) rfl hS ?_ ?_
  rotate_left
  focus
    intro wS hSw
    (try dsimp only at hSw)
    go_simp
    rfl
  (try simp only [Act.put, List.getElem_toArray, List.getElem_cons_zero, List.getElem_cons_succ, List.setIfInBounds_toArray, List.set_cons_zero, List.set_cons_succ])
  refine TG.takeV (i := 8) (v := ?_) rfl (by kernel_rfl) (by kernel_rfl) (by kernel_rfl) (by decide) (fun _ _ _ h => h) rfl hS ?_ ?_
  rotate_left
  focus
    intro wS hSw
    (try dsimp only at hSw)
    go_simp
    rfl
  (try simp only [Act.put, List.getElem_toArray, List.getElem_cons_zero, List.getElem_cons_succ, List.setIfInBounds_toArray, List.set_cons_zero, List.set_cons_succ])
  refine TG.takeV (i := 9) (v := ?_) rfl (by kernel_rfl) (by kernel_rfl) (by kernel_rfl) (by decide) (fun _ _ _ h => h) rfl hS ?_ ?_
  rotate_left
  focus
    intro wS hSw
    (try dsimp only at hSw)
    go_simp
    rfl
  (try simp only [Act.put, List.getElem_toArray, List.getElem_cons_zero, List.getElem_cons_succ, List.setIfInBounds_toArray, List.set_cons_zero, List.set_cons_succ])
  refine TG.takeV (i := 10) (v := ?_) rfl (by kernel_rfl) (by kernel_rfl) (by kernel_rfl) (by decide) (fun _ _ _ h => h) rfl hS ?_ ?_
  rotate_left
  focus
    intro wS hSw
    (try dsimp only at hSw)
    go_simp
    rfl
  (try simp only [Act.put, List.getElem_toArray, List.getElem_cons_zero, List.getElem_cons_succ, List.setIfInBounds_toArray, List.set_cons_zero, List.set_cons_succ])
  refine TG.takeV (i := 11) (v := ?_) rfl (by kernel_rfl) (by kernel_rfl) (by kernel_rfl) (by decide) (fun _ _ _ h => h) rfl hS ?_ ?_
  rotate_left
  focus
    intro wS hSw
    (try dsimp only at hSw)
    go_simp
    rfl
  (try simp only [Act.put, List.getElem_toArray, List.getElem_cons_zero, List.getElem_cons_succ, List.setIfInBounds_toArray, List.set_cons_zero, List.set_cons_succ])
  refine TG.takeV (i := 12) (v := ?_) rfl (by kernel_rfl) (by kernel_rfl) (by kernel_rfl) (by decide) (fun _ _ _ h => h) rfl hS ?_ ?_
  rotate_left
  focus
    intro wS hSw
    (try dsimp only at hSw)
    go_simp
    rfl
  (try simp only [Act.put, List.getElem_toArray, List.getElem_cons_zero, List.getElem_cons_succ, List.setIfInBounds_toArray, List.set_cons_zero, List.set_cons_succ])
  refine TG.one (i := 13) (by kernel_rfl) rfl (fun K1 hK1 => ?_)
  go_simp
  refine hK1 _ _ (fun h => absurd rfl h) (TG.done (by kernel_rfl) ?_)
  clear hK1 K1 hS
  (try simp only [Act.put, List.getElem_toArray, List.getElem_cons_zero, List.getElem_cons_succ, List.setIfInBounds_toArray, List.set_cons_zero, List.set_cons_succ])
  go_wp2_with fail
  go_returns
  exact ⟨rfl, rfl⟩
set_option maxHeartbeats 4000000 in
set_option maxRecDepth 1000000 in
theorem tw4_yes (g gg N cap : Nat) (b0 : Int) (w : World) (hc : w.cell? ⟨g, 4, none⟩ = some (.slice (some ⟨gg, 0, none⟩) N cap))
    (hN : 2 ≤ N) (hm : N ≤ 140737488355328) (hc0 : w.cell? ⟨gg, 0, none⟩ = some (.int .i64 b0)) (u : Value) (hu : w.cell? ⟨gg, 3, none⟩ = some u) (hf : w.frozen? ⟨gg, 3, none⟩ = false) :
    Calls Try.prog 28 #[.pointer (some ⟨g, 0, none⟩), .int .i64 4] w fun e w' => e = .returned (.tuple #[]) ∧ w' = (w.setCell ⟨gg, 3, none⟩ (.int .i64 b0)).drew := by
  have hN1 : (1 : Int) < (N : Int) := by omega
  have hN0 : (0 : Int) < (N : Int) := by omega
  have hN2 : 0 < N := by omega
  have hN3 : 1 < N := by omega
  go_enter Try.func28, Try.ntmps28
  go_wp2_with fail
  refine TG.begin 13 (fun w' => w'.cell? ⟨g, 4, none⟩ = some (.slice (some ⟨gg, 0, none⟩) N cap) ∧ w'.cell? ⟨gg, 0, none⟩ = some (.int .i64 b0)) (by kernel_rfl) (by kernel_rfl) ?_ (fun hS => ?_)
  focus exact ⟨hc, hc0⟩
  refine TG.takeV (i := 0) (v := ?_) rfl (by kernel_rfl) (by kernel_rfl) (by kernel_rfl) (by decide) (fun _ _ _ h => h) rfl hS ?_ ?_
  rotate_left
  focus
    intro wS hSw
    (try dsimp only at hSw)
    go_simp
    rfl
  (try simp only [Act.put, List.getElem_toArray, List.getElem_cons_zero, List.getElem_cons_succ, List.setIfInBounds_toArray, List.set_cons_zero, List.set_cons_succ])
  refine TG.takeV (i := 1) (v := ?_) rfl (by kernel_rfl) (by kernel_rfl) (by kernel_rfl) (by decide) (fun _ _ _ h => h) rfl hS ?_ ?_
  rotate_left
  focus
    intro wS hSw
    (try dsimp only at hSw)
    go_simp
    rfl
  (try simp only [Act.put, List.getElem_toArray, List.getElem_cons_zero, List.getElem_cons_succ, List.setIfInBounds_toArray, List.set_cons_zero, List.set_cons_succ])
  refine TG.takeV (i := 2) (v := ?_) rfl (by kernel_rfl) (by kernel_rfl) (by kernel_rfl) (by decide) (fun _ _ _ h => h) rfl hS ?_ ?_
  rotate_left
  focus
    intro wS hSw
    (try dsimp only at hSw)
    go_simp
    rfl
  (try simp only [Act.put, List.getElem_toArray, List.getElem_cons_zero, List.getElem_cons_succ, List.setIfInBounds_toArray, List.set_cons_zero, List.set_cons_succ])
  refine TG.takeV (i := 3) (v := ?_) rfl (by kernel_rfl) (by kernel_rfl) (by kernel_rfl) (by decide) (fun _ _ _ h => h) rfl hS ?_ ?_
  rotate_left
  focus
    intro wS hSw
    (try dsimp only at hSw)
    go_simp
    rfl
  (try simp only [Act.put, List.getElem_toArray, List.getElem_cons_zero, List.getElem_cons_succ, List.setIfInBounds_toArray, List.set_cons_zero, List.set_cons_succ])
  refine TG.takeV (i := 4) (v := ?_) rfl (by kernel_rfl) (by kernel_rfl) (by kernel_rfl) (by decide) (fun _ _ _ h => h) rfl hS ?_ ?_
  rotate_left
  focus
    intro wS hSw
    (try dsimp only at hSw)
    go_simp
    rfl
  (try simp only [Act.put, List.getElem_toArray, List.getElem_cons_zero, List.getElem_cons_succ, List.setIfInBounds_toArray, List.set_cons_zero, List.set_cons_succ])
  refine TG.takeV (i := 5) (v := ?_) rfl (by kernel_rfl) (by kernel_rfl) (by kernel_rfl) (by decide) (fun _ _ _ h => h) rfl hS ?_ ?_
  rotate_left
  focus
    intro wS hSw
    (try dsimp only at hSw)
    go_simp
    rfl
  (try simp only [Act.put, List.getElem_toArray, List.getElem_cons_zero, List.getElem_cons_succ, List.setIfInBounds_toArray, List.set_cons_zero, List.set_cons_succ])
  refine TG.takeV (i := 6) (v := ?_) rfl (by kernel_rfl) (by kernel_rfl) (by kernel_rfl) (by decide) (fun _ _ _ h => h) rfl hS ?_ ?_
  rotate_left
  focus
    intro wS hSw
    (try dsimp only at hSw)
    go_simp
    rfl
  (try simp only [Act.put, List.getElem_toArray, List.getElem_cons_zero, List.getElem_cons_succ, List.setIfInBounds_toArray, List.set_cons_zero, List.set_cons_succ])
  refine TG.takeV (i := 7) (v := ?_) rfl (by kernel_rfl) (by kernel_rfl) (by kernel_rfl) (by decide) (fun _ _ _ h => h) rfl hS ?_ ?_
  rotate_left
  focus
    intro wS hSw
    (try dsimp only at hSw)
    go_simp
    rfl
  (try simp only [Act.put, List.getElem_toArray, List.getElem_cons_zero, List.getElem_cons_succ, List.setIfInBounds_toArray, List.set_cons_zero, List.set_cons_succ])
  refine TG.takeV (i := 8) (v := ?_) rfl (by kernel_rfl) (by kernel_rfl) (by kernel_rfl) (by decide) (fun _ _ _ h => h) rfl hS ?_ ?_
  rotate_left
  focus
    intro wS hSw
    (try dsimp only at hSw)
    go_simp
    rfl
  (try simp only [Act.put, List.getElem_toArray, List.getElem_cons_zero, List.getElem_cons_succ, List.setIfInBounds_toArray, List.set_cons_zero, List.set_cons_succ])
  refine TG.takeV (i := 9) (v := ?_) rfl (by kernel_rfl) (by kernel_rfl) (by kernel_rfl) (by decide) (fun _ _ _ h => h) rfl hS ?_ ?_
  rotate_left
  focus
    intro wS hSw
    (try dsimp only at hSw)
    go_simp
    rfl
  (try simp only [Act.put, List.getElem_toArray, List.getElem_cons_zero, List.getElem_cons_succ, List.setIfInBounds_toArray, List.set_cons_zero, List.set_cons_succ])
  refine TG.takeV (i := 10) (v := ?_) rfl (by kernel_rfl) (by kernel_rfl) (by kernel_rfl) (by decide) (fun _ _ _ h => h) rfl hS ?_ ?_
  rotate_left
  focus
    intro wS hSw
    (try dsimp only at hSw)
    go_simp
    rfl
  (try simp only [Act.put, List.getElem_toArray, List.getElem_cons_zero, List.getElem_cons_succ, List.setIfInBounds_toArray, List.set_cons_zero, List.set_cons_succ])
  refine TG.takeV (i := 11) (v := ?_) rfl (by kernel_rfl) (by kernel_rfl) (by kernel_rfl) (by decide) (fun _ _ _ h => h) rfl hS ?_ ?_
  rotate_left
  focus
    intro wS hSw
    (try dsimp only at hSw)
    go_simp
    rfl
  (try simp only [Act.put, List.getElem_toArray, List.getElem_cons_zero, List.getElem_cons_succ, List.setIfInBounds_toArray, List.set_cons_zero, List.set_cons_succ])
  refine TG.takeV (i := 12) (v := ?_) rfl (by kernel_rfl) (by kernel_rfl) (by kernel_rfl) (by decide) (fun _ _ _ h => h) rfl hS ?_ ?_
  rotate_left
  focus
    intro wS hSw
    (try dsimp only at hSw)
    go_simp
    rfl
  (try simp only [Act.put, List.getElem_toArray, List.getElem_cons_zero, List.getElem_cons_succ, List.setIfInBounds_toArray, List.set_cons_zero, List.set_cons_succ])
  refine TG.one (i := 13) (by kernel_rfl) rfl (fun K1 hK1 => ?_)
  go_simp
  refine hK1 _ _ (fun h => absurd rfl h) (TG.done (by kernel_rfl) ?_)
  clear hK1 K1 hS
  (try simp only [Act.put, List.getElem_toArray, List.getElem_cons_zero, List.getElem_cons_succ, List.setIfInBounds_toArray, List.set_cons_zero, List.set_cons_succ])
  go_wp2_with fail
  go_returns
  exact ⟨rfl, rfl⟩
set_option maxHeartbeats 4000000 in
set_option maxRecDepth 1000000 in
theorem tw5_yes (g gg N cap : Nat) (b0 : Int) (w : World) (hc : w.cell? ⟨g, 3, none⟩ = some (.slice (some ⟨gg, 0, none⟩) N cap))
    (hN : 2 ≤ N) (hm : N ≤ 140737488355328) (hc0 : w.cell? ⟨gg, 0, none⟩ = some (.int .i64 b0)) (u : Value) (hu : w.cell? ⟨gg, 2, none⟩ = some u) (hf : w.frozen? ⟨gg, 2, none⟩ = false) :
    Calls Try.prog 28 #[.pointer (some ⟨g, 0, none⟩), .int .i64 5] w fun e w' => e = .returned (.tuple #[]) ∧ w' = (w.setCell ⟨gg, 2, none⟩ (.int .i64 b0)).drew := by
  have hN1 : (1 : Int) < (N : Int) := by omega
  have hN0 : (0 : Int) < (N : Int) := by omega
  have hN2 : 0 < N := by omega
  have hN3 : 1 < N := by omega
  go_enter Try.func28, Try.ntmps28
  go_wp2_with fail
  refine TG.begin 13 (fun w' => w'.cell? ⟨g, 3, none⟩ = some (.slice (some ⟨gg, 0, none⟩) N cap) ∧ w'.cell? ⟨gg, 0, none⟩ = some (.int .i64 b0)) (by kernel_rfl) (by kernel_rfl) ?_ (fun hS => ?_)
  focus exact ⟨hc, hc0⟩
  refine TG.takeV (i := 0) (v := ?_) rfl (by kernel_rfl) (by kernel_rfl) (by kernel_rfl) (by decide) (fun _ _ _ h => h) rfl hS ?_ ?_
  rotate_left
  focus
    intro wS hSw
    (try dsimp only at hSw)
    go_simp
    rfl
  (try simp only [Act.put, List.getElem_toArray, List.getElem_cons_zero, List.getElem_cons_succ, List.setIfInBounds_toArray, List.set_cons_zero, List.set_cons_succ])
  refine TG.takeV (i := 1) (v := ?_) rfl (by kernel_rfl) (by kernel_rfl) (by kernel_rfl) (by decide) (fun _ _ _ h => h) rfl hS ?_ ?_
  rotate_left
  focus
    intro wS hSw
    (try dsimp only at hSw)
    go_simp
    rfl
  (try simp only [Act.put, List.getElem_toArray, List.getElem_cons_zero, List.getElem_cons_succ, List.setIfInBounds_toArray, List.set_cons_zero, List.set_cons_succ])
  refine TG.takeV (i := 2) (v := ?_) rfl (by kernel_rfl) (by kernel_rfl) (by kernel_rfl) (by decide) (fun _ _ _ h => h) rfl hS ?_ ?_
  rotate_left
  focus
    intro wS hSw
    (try dsimp only at hSw)
    go_simp
    rfl
  (try simp only [Act.put, List.getElem_toArray, List.getElem_cons_zero, List.getElem_cons_succ, List.setIfInBounds_toArray, List.set_cons_zero, List.set_cons_succ])
  refine TG.takeV (i := 3) (v := ?_) rfl (by kernel_rfl) (by kernel_rfl) (by kernel_rfl) (by decide) (fun _ _ _ h => h) rfl hS ?_ ?_
  rotate_left
  focus
    intro wS hSw
    (try dsimp only at hSw)
    go_simp
    rfl
  (try simp only [Act.put, List.getElem_toArray, List.getElem_cons_zero, List.getElem_cons_succ, List.setIfInBounds_toArray, List.set_cons_zero, List.set_cons_succ])
  refine TG.takeV (i := 4) (v := ?_) rfl (by kernel_rfl) (by kernel_rfl) (by kernel_rfl) (by decide) (fun _ _ _ h => h) rfl hS ?_ ?_
  rotate_left
  focus
    intro wS hSw
    (try dsimp only at hSw)
    go_simp
    rfl
  (try simp only [Act.put, List.getElem_toArray, List.getElem_cons_zero, List.getElem_cons_succ, List.setIfInBounds_toArray, List.set_cons_zero, List.set_cons_succ])
  refine TG.takeV (i := 5) (v := ?_) rfl (by kernel_rfl) (by kernel_rfl) (by kernel_rfl) (by decide) (fun _ _ _ h => h) rfl hS ?_ ?_
  rotate_left
  focus
    intro wS hSw
    (try dsimp only at hSw)
    go_simp
    rfl
  (try simp only [Act.put, List.getElem_toArray, List.getElem_cons_zero, List.getElem_cons_succ, List.setIfInBounds_toArray, List.set_cons_zero, List.set_cons_succ])
  refine TG.takeV (i := 6) (v := ?_) rfl (by kernel_rfl) (by kernel_rfl) (by kernel_rfl) (by decide) (fun _ _ _ h => h) rfl hS ?_ ?_
  rotate_left
  focus
    intro wS hSw
    (try dsimp only at hSw)
    go_simp
    rfl
  (try simp only [Act.put, List.getElem_toArray, List.getElem_cons_zero, List.getElem_cons_succ, List.setIfInBounds_toArray, List.set_cons_zero, List.set_cons_succ])
  refine TG.takeV (i := 7) (v := ?_) rfl (by kernel_rfl) (by kernel_rfl) (by kernel_rfl) (by decide) (fun _ _ _ h => h) rfl hS ?_ ?_
  rotate_left
  focus
    intro wS hSw
    (try dsimp only at hSw)
    go_simp
    rfl
  (try simp only [Act.put, List.getElem_toArray, List.getElem_cons_zero, List.getElem_cons_succ, List.setIfInBounds_toArray, List.set_cons_zero, List.set_cons_succ])
  refine TG.takeV (i := 8) (v := ?_) rfl (by kernel_rfl) (by kernel_rfl) (by kernel_rfl) (by decide) (fun _ _ _ h => h) rfl hS ?_ ?_
  rotate_left
  focus
    intro wS hSw
    (try dsimp only at hSw)
    go_simp
    rfl
  (try simp only [Act.put, List.getElem_toArray, List.getElem_cons_zero, List.getElem_cons_succ, List.setIfInBounds_toArray, List.set_cons_zero, List.set_cons_succ])
  refine TG.takeV (i := 9) (v := ?_) rfl (by kernel_rfl) (by kernel_rfl) (by kernel_rfl) (by decide) (fun _ _ _ h => h) rfl hS ?_ ?_
  rotate_left
  focus
    intro wS hSw
    (try dsimp only at hSw)
    go_simp
    rfl
  (try simp only [Act.put, List.getElem_toArray, List.getElem_cons_zero, List.getElem_cons_succ, List.setIfInBounds_toArray, List.set_cons_zero, List.set_cons_succ])
  refine TG.takeV (i := 10) (v := ?_) rfl (by kernel_rfl) (by kernel_rfl) (by kernel_rfl) (by decide) (fun _ _ _ h => h) rfl hS ?_ ?_
  rotate_left
  focus
    intro wS hSw
    (try dsimp only at hSw)
    go_simp
    rfl
  (try simp only [Act.put, List.getElem_toArray, List.getElem_cons_zero, List.getElem_cons_succ, List.setIfInBounds_toArray, List.set_cons_zero, List.set_cons_succ])
  refine TG.takeV (i := 11) (v := ?_) rfl (by kernel_rfl) (by kernel_rfl) (by kernel_rfl) (by decide) (fun _ _ _ h => h) rfl hS ?_ ?_
  rotate_left
  focus
    intro wS hSw
    (try dsimp only at hSw)
    go_simp
    rfl
  (try simp only [Act.put, List.getElem_toArray, List.getElem_cons_zero, List.getElem_cons_succ, List.setIfInBounds_toArray, List.set_cons_zero, List.set_cons_succ])
  refine TG.takeV (i := 12) (v := ?_) rfl (by kernel_rfl) (by kernel_rfl) (by kernel_rfl) (by decide) (fun _ _ _ h => h) rfl hS ?_ ?_
  rotate_left
  focus
    intro wS hSw
    (try dsimp only at hSw)
    go_simp
    rfl
  (try simp only [Act.put, List.getElem_toArray, List.getElem_cons_zero, List.getElem_cons_succ, List.setIfInBounds_toArray, List.set_cons_zero, List.set_cons_succ])
  refine TG.one (i := 13) (by kernel_rfl) rfl (fun K1 hK1 => ?_)
  go_simp
  refine hK1 _ _ (fun h => absurd rfl h) (TG.done (by kernel_rfl) ?_)
  clear hK1 K1 hS
  (try simp only [Act.put, List.getElem_toArray, List.getElem_cons_zero, List.getElem_cons_succ, List.setIfInBounds_toArray, List.set_cons_zero, List.set_cons_succ])
  go_wp2_with fail
  go_returns
  exact ⟨rfl, rfl⟩
set_option maxHeartbeats 4000000 in
set_option maxRecDepth 1000000 in
theorem tw0_yes (g gg N cap : Nat) (o nu de di : Int) (na : ByteArray) (va : Option Addr) (vn vc : Nat) (w : World) (hc : w.cell? ⟨g, 6, none⟩ = some (.slice (some ⟨gg, 0, none⟩) N cap))
    (hN : 1 ≤ N) (hm : N ≤ 140737488355328) (k1 : w.cell? ⟨gg, 1, none⟩ = some (.int .i64 o)) (k2 : w.cell? ⟨gg, 2, none⟩ = some (.int .i64 nu)) (k3 : w.cell? ⟨gg, 3, none⟩ = some (.int .i64 de)) (k4 : w.cell? ⟨gg, 4, none⟩ = some (.int .i64 di)) (k5 : w.cell? ⟨gg, 5, none⟩ = some (.string na)) (k6 : w.cell? ⟨gg, 6, none⟩ = some (.slice va vn vc))
    (u1 u2 u3 u4 u5 u6 : Value) (j1 : w.cell? ⟨gg, 7, none⟩ = some u1) (j2 : w.cell? ⟨gg, 8, none⟩ = some u2) (j3 : w.cell? ⟨gg, 9, none⟩ = some u3) (j4 : w.cell? ⟨gg, 10, none⟩ = some u4) (j5 : w.cell? ⟨gg, 11, none⟩ = some u5) (j6 : w.cell? ⟨gg, 12, none⟩ = some u6)
    (hf : ∀ i, w.frozen? ⟨gg, i, none⟩ = false) :
    Calls Try.prog 28 #[.pointer (some ⟨g, 0, none⟩), .int .i64 0] w fun e w' => e = .returned (.tuple #[]) ∧
      w' = ((((((w.setCell ⟨gg, 7, none⟩ (.int .i64 o)).setCell ⟨gg, 8, none⟩ (.int .i64 nu)).setCell ⟨gg, 9, none⟩ (.int .i64 de)).setCell ⟨gg, 10, none⟩ (.int .i64 di)).setCell ⟨gg, 11, none⟩ (.string na)).setCell ⟨gg, 12, none⟩ (.slice va vn vc)).drew := by
  have hN0 : (0 : Int) < (N : Int) := by omega
  have hN2 : 0 < N := by omega
  go_enter Try.func28, Try.ntmps28
  go_wp2_with fail
  refine TG.begin 13 (fun w' => w'.cell? ⟨g, 6, none⟩ = some (.slice (some ⟨gg, 0, none⟩) N cap) ∧ w'.cell? ⟨gg, 1, none⟩ = some (.int .i64 o) ∧ w'.cell? ⟨gg, 2, none⟩ = some (.int .i64 nu) ∧ w'.cell? ⟨gg, 3, none⟩ = some (.int .i64 de) ∧ w'.cell? ⟨gg, 4, none⟩ = some (.int .i64 di) ∧ w'.cell? ⟨gg, 5, none⟩ = some (.string na) ∧ w'.cell? ⟨gg, 6, none⟩ = some (.slice va vn vc)) (by kernel_rfl) (by kernel_rfl) ?_ (fun hS => ?_)
  focus exact ⟨hc, k1, k2, k3, k4, k5, k6⟩
  refine TG.takeV (i := 0) (v := ?_) rfl (by kernel_rfl) (by kernel_rfl) (by kernel_rfl) (by decide) (fun _ _ _ h => h) rfl hS ?_ ?_
  rotate_left
  focus
    intro wS hSw
    (try dsimp only at hSw)
    go_simp
    rfl
  (try simp only [Act.put, List.getElem_toArray, List.getElem_cons_zero, List.getElem_cons_succ, List.setIfInBounds_toArray, List.set_cons_zero, List.set_cons_succ])
  refine TG.takeV (i := 1) (v := ?_) rfl (by kernel_rfl) (by kernel_rfl) (by kernel_rfl) (by decide) (fun _ _ _ h => h) rfl hS ?_ ?_
  rotate_left
  focus
    intro wS hSw
    (try dsimp only at hSw)
    go_simp
    rfl
  (try simp only [Act.put, List.getElem_toArray, List.getElem_cons_zero, List.getElem_cons_succ, List.setIfInBounds_toArray, List.set_cons_zero, List.set_cons_succ])
  refine TG.takeV (i := 2) (v := ?_) rfl (by kernel_rfl) (by kernel_rfl) (by kernel_rfl) (by decide) (fun _ _ _ h => h) rfl hS ?_ ?_
  rotate_left
  focus
    intro wS hSw
    (try dsimp only at hSw)
    go_simp
    rfl
  (try simp only [Act.put, List.getElem_toArray, List.getElem_cons_zero, List.getElem_cons_succ, List.setIfInBounds_toArray, List.set_cons_zero, List.set_cons_succ])
  refine TG.takeV (i := 3) (v := ?_) rfl (by kernel_rfl) (by kernel_rfl) (by kernel_rfl) (by decide) (fun _ _ _ h => h) rfl hS ?_ ?_
  rotate_left
  focus
    intro wS hSw
    (try dsimp only at hSw)
    go_simp
    rfl
  (try simp only [Act.put, List.getElem_toArray, List.getElem_cons_zero, List.getElem_cons_succ, List.setIfInBounds_toArray, List.set_cons_zero, List.set_cons_succ])
  refine TG.takeV (i := 4) (v := ?_) rfl (by kernel_rfl) (by kernel_rfl) (by kernel_rfl) (by decide) (fun _ _ _ h => h) rfl hS ?_ ?_
  rotate_left
  focus
    intro wS hSw
    (try dsimp only at hSw)
    go_simp
    rfl
  (try simp only [Act.put, List.getElem_toArray, List.getElem_cons_zero, List.getElem_cons_succ, List.setIfInBounds_toArray, List.set_cons_zero, List.set_cons_succ])
  refine TG.takeV (i := 5) (v := ?_) rfl (by kernel_rfl) (by kernel_rfl) (by kernel_rfl) (by decide) (fun _ _ _ h => h) rfl hS ?_ ?_
  rotate_left
  focus
    intro wS hSw
    (try dsimp only at hSw)
    go_simp
    rfl
  (try simp only [Act.put, List.getElem_toArray, List.getElem_cons_zero, List.getElem_cons_succ, List.setIfInBounds_toArray, List.set_cons_zero, List.set_cons_succ])
  refine TG.takeV (i := 6) (v := ?_) rfl (by kernel_rfl) (by kernel_rfl) (by kernel_rfl) (by decide) (fun _ _ _ h => h) rfl hS ?_ ?_
  rotate_left
  focus
    intro wS hSw
    (try dsimp only at hSw)
    go_simp
    rfl
  (try simp only [Act.put, List.getElem_toArray, List.getElem_cons_zero, List.getElem_cons_succ, List.setIfInBounds_toArray, List.set_cons_zero, List.set_cons_succ])
  refine TG.takeV (i := 7) (v := ?_) rfl (by kernel_rfl) (by kernel_rfl) (by kernel_rfl) (by decide) (fun _ _ _ h => h) rfl hS ?_ ?_
  rotate_left
  focus
    intro wS hSw
    (try dsimp only at hSw)
    go_simp
    rfl
  (try simp only [Act.put, List.getElem_toArray, List.getElem_cons_zero, List.getElem_cons_succ, List.setIfInBounds_toArray, List.set_cons_zero, List.set_cons_succ])
  refine TG.takeV (i := 8) (v := ?_) rfl (by kernel_rfl) (by kernel_rfl) (by kernel_rfl) (by decide) (fun _ _ _ h => h) rfl hS ?_ ?_
  rotate_left
  focus
    intro wS hSw
    (try dsimp only at hSw)
    go_simp
    rfl
  (try simp only [Act.put, List.getElem_toArray, List.getElem_cons_zero, List.getElem_cons_succ, List.setIfInBounds_toArray, List.set_cons_zero, List.set_cons_succ])
  refine TG.takeV (i := 9) (v := ?_) rfl (by kernel_rfl) (by kernel_rfl) (by kernel_rfl) (by decide) (fun _ _ _ h => h) rfl hS ?_ ?_
  rotate_left
  focus
    intro wS hSw
    (try dsimp only at hSw)
    go_simp
    rfl
  (try simp only [Act.put, List.getElem_toArray, List.getElem_cons_zero, List.getElem_cons_succ, List.setIfInBounds_toArray, List.set_cons_zero, List.set_cons_succ])
  refine TG.takeV (i := 10) (v := ?_) rfl (by kernel_rfl) (by kernel_rfl) (by kernel_rfl) (by decide) (fun _ _ _ h => h) rfl hS ?_ ?_
  rotate_left
  focus
    intro wS hSw
    (try dsimp only at hSw)
    go_simp
    rfl
  (try simp only [Act.put, List.getElem_toArray, List.getElem_cons_zero, List.getElem_cons_succ, List.setIfInBounds_toArray, List.set_cons_zero, List.set_cons_succ])
  refine TG.takeV (i := 11) (v := ?_) rfl (by kernel_rfl) (by kernel_rfl) (by kernel_rfl) (by decide) (fun _ _ _ h => h) rfl hS ?_ ?_
  rotate_left
  focus
    intro wS hSw
    (try dsimp only at hSw)
    go_simp
    rfl
  (try simp only [Act.put, List.getElem_toArray, List.getElem_cons_zero, List.getElem_cons_succ, List.setIfInBounds_toArray, List.set_cons_zero, List.set_cons_succ])
  refine TG.takeV (i := 12) (v := ?_) rfl (by kernel_rfl) (by kernel_rfl) (by kernel_rfl) (by decide) (fun _ _ _ h => h) rfl hS ?_ ?_
  rotate_left
  focus
    intro wS hSw
    (try dsimp only at hSw)
    go_simp
    rfl
  (try simp only [Act.put, List.getElem_toArray, List.getElem_cons_zero, List.getElem_cons_succ, List.setIfInBounds_toArray, List.set_cons_zero, List.set_cons_succ])
  refine TG.one (i := 13) (by kernel_rfl) rfl (fun K1 hK1 => ?_)
  go_simp
  refine hK1 _ _ (fun h => absurd rfl h) (TG.done (by kernel_rfl) ?_)
  clear hK1 K1 hS
  (try simp only [Act.put, List.getElem_toArray, List.getElem_cons_zero, List.getElem_cons_succ, List.setIfInBounds_toArray, List.set_cons_zero, List.set_cons_succ])
  go_wp2_with fail
  go_returns
  exact ⟨rfl, rfl⟩
set_option maxHeartbeats 4000000 in
set_option maxRecDepth 1000000 in
theorem tw3_yes (g gg N cap : Nat) (w : World) (hc : w.cell? ⟨g, 5, none⟩ = some (.slice (some ⟨gg, 0, none⟩) N cap))
    (hN : 1 ≤ N) (hm : N ≤ 140737488355328) (u1 u2 u3 u4 u5 u6 : Value) (j1 : w.cell? ⟨gg, 1, none⟩ = some u1) (j2 : w.cell? ⟨gg, 2, none⟩ = some u2) (j3 : w.cell? ⟨gg, 3, none⟩ = some u3) (j4 : w.cell? ⟨gg, 4, none⟩ = some u4) (j5 : w.cell? ⟨gg, 5, none⟩ = some u5) (j6 : w.cell? ⟨gg, 6, none⟩ = some u6)
    (hf : ∀ i, w.frozen? ⟨gg, i, none⟩ = false) :
    Calls Try.prog 28 #[.pointer (some ⟨g, 0, none⟩), .int .i64 3] w fun e w' => e = .returned (.tuple #[]) ∧
      w' = (((((w.setCell ⟨gg, 1, none⟩ (.int .i64 2)).setCell ⟨gg, 2, none⟩ (.int .i64 0)).setCell ⟨gg, 3, none⟩ (.int .i64 0)).setCell ⟨gg, 4, none⟩ (.int .i64 0)).setCell ⟨gg, 5, none⟩ (.string ⟨#[108, 97, 116, 101, 114]⟩)).setCell ⟨gg, 6, none⟩ (.slice none 0 0) := by
  have hN0 : (0 : Int) < (N : Int) := by omega
  have hN2 : 0 < N := by omega
  go_enter Try.func28, Try.ntmps28
  go_wp2_with fail
  go_returns
  exact ⟨rfl, rfl⟩
set_option maxHeartbeats 4000000 in
set_option maxRecDepth 1000000 in
theorem tw6_yes (g gg N cap : Nat) (w : World) (hc : w.cell? ⟨g, 5, none⟩ = some (.slice (some ⟨gg, 0, none⟩) N cap))
    (hN : 1 ≤ N) (hm : N ≤ 140737488355328) (u1 : Value) (j1 : w.cell? ⟨gg, 0, none⟩ = some u1) (hf : w.frozen? ⟨gg, 0, none⟩ = false) :
    Calls Try.prog 28 #[.pointer (some ⟨g, 0, none⟩), .int .i64 6] w fun e w' => e = .returned (.tuple #[]) ∧ w' = w.setCell ⟨gg, 0, none⟩ (.string ⟨#[97, 103, 101]⟩) := by
  have hN0 : (0 : Int) < (N : Int) := by omega
  have hN2 : 0 < N := by omega
  go_enter Try.func28, Try.ntmps28
  go_wp2_with fail
  go_returns
  exact ⟨rfl, rfl⟩
set_option maxHeartbeats 4000000 in
set_option maxRecDepth 1000000 in
theorem tw0_no (g N cap : Nat) (a : Option Addr) (w : World) (hc : w.cell? ⟨g, 6, none⟩ = some (.slice a N cap)) (hN : N < 1) :
    Calls Try.prog 28 #[.pointer (some ⟨g, 0, none⟩), .int .i64 0] w fun e w' => e = .returned (.tuple #[]) ∧ w = w' := by
  have hN0 : ¬ (1 : Int) - 1 < (N : Int) := by omega
  have hN1 : (N : Int) < 1 := by omega
  go_enter Try.func28, Try.ntmps28
  go_wp2_with fail
  all_goals first | (exfalso; omega) | skip
  go_returns
  exact ⟨rfl, rfl⟩
set_option maxHeartbeats 4000000 in
set_option maxRecDepth 1000000 in
theorem tw1_no (g N cap : Nat) (a : Option Addr) (w : World) (hc : w.cell? ⟨g, 6, none⟩ = some (.slice a N cap)) (hN : N < 2) :
    Calls Try.prog 28 #[.pointer (some ⟨g, 0, none⟩), .int .i64 1] w fun e w' => e = .returned (.tuple #[]) ∧ w = w' := by
  have hN0 : ¬ (2 : Int) - 1 < (N : Int) := by omega
  have hN1 : (N : Int) < 2 := by omega
  go_enter Try.func28, Try.ntmps28
  go_wp2_with fail
  all_goals first | (exfalso; omega) | skip
  go_returns
  exact ⟨rfl, rfl⟩
set_option maxHeartbeats 4000000 in
set_option maxRecDepth 1000000 in
theorem tw2_no (g N cap : Nat) (a : Option Addr) (w : World) (hc : w.cell? ⟨g, 5, none⟩ = some (.slice a N cap)) (hN : N < 2) :
    Calls Try.prog 28 #[.pointer (some ⟨g, 0, none⟩), .int .i64 2] w fun e w' => e = .returned (.tuple #[]) ∧ w = w' := by
  have hN0 : ¬ (2 : Int) - 1 < (N : Int) := by omega
  have hN1 : (N : Int) < 2 := by omega
  go_enter Try.func28, Try.ntmps28
  go_wp2_with fail
  all_goals first | (exfalso; omega) | skip
  go_returns
  exact ⟨rfl, rfl⟩
set_option maxHeartbeats 4000000 in
set_option maxRecDepth 1000000 in
theorem tw3_no (g N cap : Nat) (a : Option Addr) (w : World) (hc : w.cell? ⟨g, 5, none⟩ = some (.slice a N cap)) (hN : N < 1) :
    Calls Try.prog 28 #[.pointer (some ⟨g, 0, none⟩), .int .i64 3] w fun e w' => e = .returned (.tuple #[]) ∧ w = w' := by
  have hN0 : ¬ (1 : Int) - 1 < (N : Int) := by omega
  have hN1 : (N : Int) < 1 := by omega
  go_enter Try.func28, Try.ntmps28
  go_wp2_with fail
  all_goals first | (exfalso; omega) | skip
  go_returns
  exact ⟨rfl, rfl⟩
set_option maxHeartbeats 4000000 in
set_option maxRecDepth 1000000 in
theorem tw4_no (g N cap : Nat) (a : Option Addr) (w : World) (hc : w.cell? ⟨g, 4, none⟩ = some (.slice a N cap)) (hN : N < 2) :
    Calls Try.prog 28 #[.pointer (some ⟨g, 0, none⟩), .int .i64 4] w fun e w' => e = .returned (.tuple #[]) ∧ w = w' := by
  have hN0 : ¬ (2 : Int) - 1 < (N : Int) := by omega
  have hN1 : (N : Int) < 2 := by omega
  go_enter Try.func28, Try.ntmps28
  go_wp2_with fail
  all_goals first | (exfalso; omega) | skip
  go_returns
  exact ⟨rfl, rfl⟩
set_option maxHeartbeats 4000000 in
set_option maxRecDepth 1000000 in
theorem tw5_no (g N cap : Nat) (a : Option Addr) (w : World) (hc : w.cell? ⟨g, 3, none⟩ = some (.slice a N cap)) (hN : N < 2) :
    Calls Try.prog 28 #[.pointer (some ⟨g, 0, none⟩), .int .i64 5] w fun e w' => e = .returned (.tuple #[]) ∧ w = w' := by
  have hN0 : ¬ (2 : Int) - 1 < (N : Int) := by omega
  have hN1 : (N : Int) < 2 := by omega
  go_enter Try.func28, Try.ntmps28
  go_wp2_with fail
  all_goals first | (exfalso; omega) | skip
  go_returns
  exact ⟨rfl, rfl⟩
set_option maxHeartbeats 4000000 in
set_option maxRecDepth 1000000 in
theorem tw6_no (g N cap : Nat) (a : Option Addr) (w : World) (hc : w.cell? ⟨g, 5, none⟩ = some (.slice a N cap)) (hN : N < 1) :
    Calls Try.prog 28 #[.pointer (some ⟨g, 0, none⟩), .int .i64 6] w fun e w' => e = .returned (.tuple #[]) ∧ w = w' := by
  have hN0 : ¬ (1 : Int) - 1 < (N : Int) := by omega
  have hN1 : (N : Int) < 1 := by omega
  go_enter Try.func28, Try.ntmps28
  go_wp2_with fail
  all_goals first | (exfalso; omega) | skip
  go_returns
  exact ⟨rfl, rfl⟩
end Go.Proofs.Ytldelkkeimlfcaa
