/- slices.Backward over a row of versions: what comes, and in what order. -/
import Derived.Test.YtldelkkeimlfcaaQTwist
import Derived.RangeFuncNested
import Derived.RangeFuncBound
import Derived.RangeFuncCalls
import Derived.RangeFuncLeaves
import Derived.Shelf.Abstract
import Derived.Shelf.RegionOpen
import Derived.WalkKit
import Derived.OwnWalkIn
import Derived.TacticsInMore
import Derived.LoopNIn
import Derived.LoopIn
set_option linter.all false
namespace Go.Proofs.Ytldelkkeimlfcaa
open Go.RowKit Go.Shelf
attribute [local go_sem] Oper.semAt_some
/-- What has come when k rounds are over, from the last on: n - 1, .., n - k. -/
def backs (n k : Nat) : List (Fin n) := (List.finRange n).reverse.take k
theorem backs_zero (n : Nat) : backs n 0 = [] := rfl
theorem backs_succ (n k : Nat) (i : Fin n) (hk : k < n) (hi : n - 1 - k = i.1) : backs n (k + 1) = backs n k ++ [i] := by
  have hl : k < (List.finRange n).reverse.length := by simpa using hk
  unfold backs
  rw [List.take_succ_eq_append_getElem hl]
  congr 2
  apply Fin.ext
  rw [List.getElem_reverse]
  simp
  omega
theorem backs_length (n k : Nat) (hk : k ≤ n) : (backs n k).length = k := by simp [backs, hk]
theorem backs_mem {n k : Nat} (i : Fin n) (hk : n ≤ i.1 + k) : i ∈ backs n k := by
  unfold backs
  have hl : n - 1 - i.1 < (List.finRange n).reverse.length := by simp; omega
  have he : (List.finRange n).reverse[n - 1 - i.1] = i := by
    apply Fin.ext
    rw [List.getElem_reverse]
    simp
    omega
  rw [List.mem_take_iff_getElem]
  exact ⟨n - 1 - i.1, by simp; omega, he⟩
/-- A row of versions: the numbers and slices of the i-th. -/
structure VRow where
  f : Nat → Int
  m : Nat → Int
  u : Nat → Int
  a3 : Nat → Option Addr
  n3 : Nat → Nat
  c3 : Nat → Nat
  a4 : Nat → Option Addr
  n4 : Nat → Nat
  c4 : Nat → Nat
  a5 : Nat → Option Addr
  n5 : Nat → Nat
  c5 : Nat → Nat
  a6 : Nat → Option Addr
  n6 : Nat → Nat
  c6 : Nat → Nat
  a7 : Nat → Option Addr
  n7 : Nat → Nat
  c7 : Nat → Nat
def VRow.el (x : VRow) (i : Nat) : Value := .agg #[.int .i64 (x.f i), .int .i64 (x.m i), .int .i64 (x.u i), .slice (x.a3 i) (x.n3 i) (x.c3 i), .slice (x.a4 i) (x.n4 i) (x.c4 i), .slice (x.a5 i) (x.n5 i) (x.c5 i), .slice (x.a6 i) (x.n6 i) (x.c6 i), .slice (x.a7 i) (x.n7 i) (x.c7 i)]
structure VRow.At (x : VRow) (W : World) (b o i : Nat) : Prop where
  p0 : W.cell? ⟨b, o, none⟩ = some (.int .i64 (x.f i))
  p1 : W.cell? ⟨b, o + 1, none⟩ = some (.int .i64 (x.m i))
  p2 : W.cell? ⟨b, o + 2, none⟩ = some (.int .i64 (x.u i))
  p3 : W.cell? ⟨b, o + 3, none⟩ = some (.slice (x.a3 i) (x.n3 i) (x.c3 i))
  p4 : W.cell? ⟨b, o + 4, none⟩ = some (.slice (x.a4 i) (x.n4 i) (x.c4 i))
  p5 : W.cell? ⟨b, o + 5, none⟩ = some (.slice (x.a5 i) (x.n5 i) (x.c5 i))
  p6 : W.cell? ⟨b, o + 6, none⟩ = some (.slice (x.a6 i) (x.n6 i) (x.c6 i))
  p7 : W.cell? ⟨b, o + 7, none⟩ = some (.slice (x.a7 i) (x.n7 i) (x.c7 i))
theorem VRow.At.same {x : VRow} {W W' : World} {b o i : Nat} (h : x.At W b o i) (hw : ∀ o, W'.cell? ⟨b, o, none⟩ = W.cell? ⟨b, o, none⟩) : x.At W' b o i :=
  ⟨by rw [hw]; exact h.p0, by rw [hw]; exact h.p1, by rw [hw]; exact h.p2, by rw [hw]; exact h.p3, by rw [hw]; exact h.p4, by rw [hw]; exact h.p5, by rw [hw]; exact h.p6, by rw [hw]; exact h.p7⟩
/-- v is a slice of n versions in a block below n₀. -/
def VRow.Lies (x : VRow) (n₀ : Nat) (W : World) (v : Value) (n : Nat) : Prop :=
  n ≤ 1000 ∧ ∃ a cap, v = .slice a n cap ∧ (n = 0 ∨ ∃ b off, a = some ⟨b, off, none⟩ ∧ b < n₀ ∧ ∀ i, i < n → x.At W b (off + i * 8) i)
theorem VRow.Lies.below {x : VRow} {n₀ n : Nat} {W W' : World} {v : Value} (h : x.Lies n₀ W v n) (hb : Below n₀ W W') : x.Lies n₀ W' v n := by
  obtain ⟨h0, a, cap, hv, h1⟩ := h
  refine ⟨h0, a, cap, hv, h1.imp id ?_⟩
  rintro ⟨b, off, ha, hlt, hc⟩
  exact ⟨b, off, ha, hlt, fun i hi => (hc i hi).same fun o => hb.cell (p := ⟨b, o, none⟩) hlt⟩
set_option maxRecDepth 100000 in
set_option maxHeartbeats 4000000 in
theorem back1_in (F : Fence) (n : Nat) (hf : F.fn 55) (hro : F.round = none) (hn : 1 ≤ n) (l Bs n₀ len : Nat) (x : VRow) (v : Value) (J Jx : List (Fin len) → World → Prop)
    (hY : ∀ pre (i : Fin len) W, J pre W → pre.length < len → YieldAt F (n - 1) Try.prog l #[.int .i64 ((i.1 : Nat) : Int), x.el i.1] W fun e W' =>
      (e = .returned (.bool true) ∧ J (pre ++ [i]) W' ∧ Below n₀ W W') ∨ (e = .returned (.bool false) ∧ Jx (pre ++ [i]) W'))
    (W : World) (hBs : W.cell? ⟨Bs, 0, none⟩ = some v) (hBl : Bs < n₀) (hL : x.Lies n₀ W v len) (h0 : J [] W) :
    CallsIn F n Try.prog 55 #[.func (.yield l) #[] #[], .pointer (some ⟨Bs, 0, none⟩)] W fun e W' => (∃ v, e = .returned v) ∧
      ((∃ ys, ys = backs len len ∧ J ys W') ∨ (∃ pre, (∃ k, k < len ∧ pre = backs len (k + 1)) ∧ Jx pre W')) := by
  have HL := Lib.hid hL
  obtain ⟨h1000, a, cap, rfl, -⟩ := hL
  refine callsIn_of_wp Try.func55 rfl hf ?_ hro
  simp only [Try.ntmps55, List.size_toArray, List.length_cons, List.length_nil, Nat.reduceAdd, Nat.reduceSub, Array.replicate_succ, Array.replicate_zero, List.push_toArray, List.append_toArray, List.nil_append, List.cons_append]
  gi_wp2
  gi_loopw [3] (fun vi wr => ∃ k : Nat, k ≤ len ∧ vi = .int .i64 ((len : Int) - 1 - k) ∧ J (backs len k) wr ∧ Below n₀ W wr) (fun vi _ => (intOf vi + 1).toNat)
  case atStart => exact ⟨0, Nat.zero_le _, by simp, h0, Below.refl _ _⟩
  case round =>
    obtain ⟨k, hk, rfl, hJs, hnx⟩ := hrel
    by_cases hlt : k < len
    · have hcs := (hnx.cell (p := ⟨Bs, 0, none⟩) hBl).trans hBs
      have hLr := HL.out.below hnx
      obtain ⟨-, a', cap', hv, hx⟩ := hLr
      simp only [Value.slice.injEq, true_and] at hv
      obtain ⟨rfl, rfl⟩ := hv
      rcases hx with hx | ⟨b, off, rfl, hb, hx⟩
      · omega
      obtain ⟨i, hi⟩ : ∃ i : Nat, (len : Int) - 1 - k = i := ⟨len - 1 - k, by omega⟩
      have hii : i < len := by omega
      have hik : len - 1 - k = i := by omega
      obtain ⟨q0, q1, q2, q3, q4, q5, q6, q7⟩ := hx i hii
      obtain ⟨fn, tmps, assign, body, hy, hR⟩ := hY _ ⟨i, hii⟩ wr hJs (by rw [backs_length _ _ hk]; exact hlt)
      simp only at hy
      unfold VRow.el at hy
      have d1 : (i : Int) < (len : Int) := by omega
      have d0 : (0 : Int) ≤ (i : Int) := by omega
      have hlen1 : (len : Int) ≤ 1000 := by omega
      rw [hi]
      have HI := Lib.hid hi
      have HIK := Lib.hid hik
      clear hx hi hik hBs h0
      gi_wp2
      refine hR.mono ?_
      rintro e W3 (⟨rfl, hJ3, hk3⟩ | ⟨rfl, hJx3⟩)
      · gi_wp2
        go_roundw
        case rel => exact ⟨k + 1, by omega, by have := HI.out; first | (congr 1; omega) | (simp; omega), by rw [backs_succ _ _ ⟨i, hii⟩ hlt HIK.out]; exact hJ3, hnx.trans hk3⟩
        case measure => first | (simp [intOf]; done) | (simp [intOf]; omega)
      · gi_wp2
        refine bodyPost_ret (results_none rfl _ _ _) rfl ?_
        exact ⟨⟨_, rfl⟩, .inr ⟨_, ⟨k, hlt, by rw [backs_succ _ _ ⟨i, hii⟩ hlt HIK.out]⟩, hJx3⟩⟩
    · obtain rfl : k = len := by omega
      have hz : (k : Int) - 1 - k = -1 := by omega
      rw [hz]
      clear hz
      gi_wp2
      go_end0
      exact ⟨⟨_, rfl⟩, .inl ⟨_, rfl, hJs⟩⟩
set_option maxHeartbeats 1000000 in
theorem back_in (F : Fence) (n : Nat) (hf : F.fn 37) (hro : F.round = none) (a : Option Addr) (len cap : Nat) (w : World) :
    CallsIn F n Try.prog 37 #[.slice a len cap] w fun e w' => e = .returned (.func (.func 55) #[] #[.pointer (some ⟨w.heap.size, 0, none⟩)]) ∧ w' = w.alloc (.cells #[.slice a len cap] 51) := by
  refine callsIn_of_wp Try.func37 rfl hf ?_ hro
  simp only [Try.ntmps37, List.size_toArray, List.length_cons, List.length_nil, Nat.reduceAdd, Nat.reduceSub, Array.replicate_succ, Array.replicate_zero, List.push_toArray, List.append_toArray, List.nil_append, List.cons_append]
  gi_wp2
  go_ret
  exact ⟨rfl, rfl⟩
theorem back_stops (F : Fence) (n : Nat) (hf : F.fn 55) (hro : F.round = none) (hn : 1 ≤ n) (Bs n₀ : Nat) (v : Value) (x : VRow) (len : Nat) (w : World) (hBs : Bs < n₀) (hn₀ : n₀ ≤ w.heap.size)
    (hc : w.cell? ⟨Bs, 0, none⟩ = some v) (hL : x.Lies n₀ w v len) :
    SeqStopsK F n Try.prog 55 #[.pointer (some ⟨Bs, 0, none⟩)] (fun i : Fin len => #[Value.int .i64 ((i.1 : Nat) : Int), x.el i.1]) (Below n₀) (fun ys => ys = backs len len)
      (fun pre => ∃ k, k < len ∧ pre = backs len (k + 1)) len w := fun l J Jx W hW _ _ hY h0 =>
  back1_in F n hf hro hn l Bs n₀ len x v J Jx hY W ((hW.cell (p := ⟨Bs, 0, none⟩) (by show Bs < w.heap.size; omega)).trans hc) hBs (hL.below (hW.mono hn₀)) h0
end Go.Proofs.Ytldelkkeimlfcaa
