/- The source of raw numbers (pensionmade): a block of three cells, written by whoever draws from it. -/
import Derived.Test.YtldelkkeimlfcaaQMake
set_option linter.all false
namespace Go
open Go.RowKit

/-- The world with block s holding the three cells of a source: the list, the place in it, how many nodes are left. -/
def World.src (w : World) (s : Nat) (lv : Value) (p left : Int) : World := { w with heap := w.heap.setIfInBounds s (.cells #[lv, .int .i64 p, .int .i64 left] 108 (0, 0)) }
section
variable {w : World} {s : Nat} {lv : Value} {p left : Int}
@[go_sem, simp] theorem World.size_src (w : World) (s : Nat) (lv : Value) (p left : Int) : (w.src s lv p left).heap.size = w.heap.size := by simp [World.src]
theorem World.heap_src_same (h : s < w.heap.size) : (w.src s lv p left).heap[s]? = some (.cells #[lv, .int .i64 p, .int .i64 left] 108 (0, 0)) := by
  simp [World.src, h]
theorem World.heap_src_other {b : Nat} (h : b ≠ s) : (w.src s lv p left).heap[b]? = w.heap[b]? := by
  simp only [World.src]
  rw [Array.getElem?_setIfInBounds_ne (Ne.symm h)]
@[go_sem] theorem World.cell?_src0 (h : s < w.heap.size) : (w.src s lv p left).cell? ⟨s, 0, none⟩ = some lv := by simp [World.cell?, World.heap_src_same h]
@[go_sem] theorem World.cell?_src1 (h : s < w.heap.size) : (w.src s lv p left).cell? ⟨s, 1, none⟩ = some (.int .i64 p) := by simp [World.cell?, World.heap_src_same h]
@[go_sem] theorem World.cell?_src2 (h : s < w.heap.size) : (w.src s lv p left).cell? ⟨s, 2, none⟩ = some (.int .i64 left) := by simp [World.cell?, World.heap_src_same h]
@[go_sem] theorem World.frozen?_src (h : s < w.heap.size) (i : Nat) : (w.src s lv p left).frozen? ⟨s, i, none⟩ = false := by simp [World.frozen?, World.heap_src_same h]
@[go_sem] theorem World.cell?_src_other {b i : Nat} (h : b ≠ s) : (w.src s lv p left).cell? ⟨b, i, none⟩ = w.cell? ⟨b, i, none⟩ := World.cell?_of_block (World.heap_src_other h)
@[go_sem] theorem World.frozen?_src_other {b i : Nat} (h : b ≠ s) : (w.src s lv p left).frozen? ⟨b, i, none⟩ = w.frozen? ⟨b, i, none⟩ := World.frozen?_of_block (World.heap_src_other h)
@[go_sem, simp] theorem World.src_src (lv' : Value) (p' left' : Int) : (w.src s lv p left).src s lv' p' left' = w.src s lv' p' left' := by simp [World.src]
@[go_sem] theorem World.src_alloc (o : Obj) (h : s < w.heap.size) : (w.alloc o).src s lv p left = (w.src s lv p left).alloc o := by
  simp only [World.src, World.alloc]
  congr 1
  apply Array.ext_getElem?
  intro k
  simp only [Array.getElem?_setIfInBounds, Array.getElem?_push, Array.size_setIfInBounds, Array.size_push]
  by_cases hk : s = k
  · subst hk
    simp [h, Nat.ne_of_lt h, Nat.lt_succ_of_lt h]
  · simp [hk]
@[go_sem] theorem World.src_grow (bs : Array Obj) (d : Nat) (h : s < w.heap.size) : (w.grow bs d).src s lv p left = (w.src s lv p left).grow bs d := by
  simp only [World.src, World.grow]
  congr 1
  exact Array.setIfInBounds_append_left h
@[go_sem, simp] theorem World.src_drewN (n : Nat) : (w.drewN n).src s lv p left = (w.src s lv p left).drewN n := rfl
@[go_sem, simp] theorem World.src_drew : w.drew.src s lv p left = (w.src s lv p left).drew := rfl
@[go_sem] theorem World.setCell_src1 (h : s < w.heap.size) (v : Int) : (w.src s lv p left).setCell ⟨s, 1, none⟩ (.int .i64 v) = w.src s lv v left := by
  simp only [World.src, World.setCell]
  congr 1
  apply Array.ext_getElem?
  intro k
  simp only [Array.getElem?_modify, Array.getElem?_setIfInBounds]
  by_cases hk : s = k
  · subst hk; simp [h]
  · simp [hk]
@[go_sem] theorem World.setCell_src2 (h : s < w.heap.size) (v : Int) : (w.src s lv p left).setCell ⟨s, 2, none⟩ (.int .i64 v) = w.src s lv p v := by
  simp only [World.src, World.setCell]
  congr 1
  apply Array.ext_getElem?
  intro k
  simp only [Array.getElem?_modify, Array.getElem?_setIfInBounds]
  by_cases hk : s = k
  · subst hk; simp [h]
  · simp [hk]

@[go_sem] theorem World.setCell_drewN (w : World) (n : Nat) (a : Addr) (v : Value) : (w.drewN n).setCell a v = (w.setCell a v).drewN n := rfl
/-- A new source. -/
theorem World.src_new (w : World) (lv : Value) (p left : Int) : (w.alloc (.cells #[lv, .int .i64 p, .int .i64 left] 108)).src w.heap.size lv p left = w.alloc (.cells #[lv, .int .i64 p, .int .i64 left] 108) := by
  simp only [World.src, World.alloc]
  congr 1
  apply Array.ext_getElem?
  intro k
  simp only [Array.getElem?_setIfInBounds, Array.getElem?_push, Array.size_push]
  by_cases hk : w.heap.size = k
  · subst hk; simp
  · simp [hk]

/-- A slice of integers that came in. -/
def IntsAt (w : World) (v : Value) (zs : List Int) : Prop :=
  zs.length ≤ 140737488355328 ∧ (∀ z ∈ zs, -9223372036854775808 ≤ z ∧ z ≤ 9223372036854775807) ∧
  ∃ a cap, v = .slice a zs.length cap ∧ (zs.length = 0 ∨ ∃ b off, a = some ⟨b, off, none⟩ ∧ b < w.heap.size ∧ ∀ i, i < zs.length → w.cell? ⟨b, off + i, none⟩ = some (.int .i64 (zs.getD i 0)))
theorem IntsAt.grow {v : Value} {zs : List Int} (h : IntsAt w v zs) (bs : Array Obj) (d : Nat) : IntsAt (w.grow bs d) v zs := by
  obtain ⟨h0, hr, a, cap, hv, h1⟩ := h
  refine ⟨h0, hr, a, cap, hv, h1.imp id ?_⟩
  rintro ⟨b, off, ha, hb, hc⟩
  refine ⟨b, off, ha, by simp; omega, fun i hi => ?_⟩
  rw [World.cell?_grow _ _ _ hb]
  exact hc i hi
end
end Go
namespace Go.Proofs.Ytldelkkeimlfcaa
open Go.RowKit

/-- The raw number at a place. -/
def rawAt (zs : List Int) (p : Nat) : Int := zs.getD p 0

set_option maxHeartbeats 1000000 in
theorem next_out (s : Nat) (p len cap : Nat) (a : Option Addr) (left k : Int) (Y : World) (hs : s < Y.heap.size) (hp : len ≤ p) (hpm : p ≤ 4611686018427387904) (hk : k ≤ 4611686018427387904) :
    Calls Try.prog 66 #[.pointer (some ⟨s, 0, none⟩), .int .i64 k] (Y.src s (.slice a len cap) p left) fun e w' => e = .returned (.int .i64 (pick 0 k)) ∧ ∃ n, w' = (Y.src s (.slice a len cap) (p + 1) left).drewN n := by
  have d1 : decide ((p : Int) < (len : Int)) = false := by simp; omega
  go_enter Try.func66, Try.ntmps66
  go_wp2_with fail
  go_quiet (fail)
  skip
  go_wp2_with (first | (go_at_call 10; refine (Pick_any _ _ _ (by omega)).mono ?_; rintro e w' ⟨rfl, rfl⟩))
  go_returns
  exact ⟨rfl, _, rfl⟩

set_option maxHeartbeats 1000000 in
theorem next_in (s : Nat) (p len cap b off : Nat) (left k z : Int) (Y : World) (hs : s < Y.heap.size) (hp : p < len) (hlen : len ≤ 140737488355328) (hk : k ≤ 4611686018427387904) (hbs : b ≠ s) (hz : Y.cell? ⟨b, off + p, none⟩ = some (.int .i64 z)) :
    Calls Try.prog 66 #[.pointer (some ⟨s, 0, none⟩), .int .i64 k] (Y.src s (.slice (some ⟨b, off, none⟩) len cap) p left) fun e w' => e = .returned (.int .i64 (pick z k)) ∧ ∃ n, w' = (Y.src s (.slice (some ⟨b, off, none⟩) len cap) (p + 1) left).drewN n := by
  have d1 : (p : Int) < (len : Int) := by omega
  have d0 : (0 : Int) ≤ (p : Int) := by omega
  go_enter Try.func66, Try.ntmps66
  go_wp2_with fail
  go_quiet (fail)
  (go_wp2_with fail; go_quiet (fail))
  go_wp2_with (first | (go_at_call 10; refine (Pick_any _ _ _ (by omega)).mono ?_; rintro e w' ⟨rfl, rfl⟩))
  go_returns
  exact ⟨rfl, _, rfl⟩

/-- The list of a source, and that the source is apart from it. -/
def ListAt (w : World) (s : Nat) (lv : Value) (zs : List Int) : Prop :=
  zs.length ≤ 140737488355328 ∧
  ∃ a cap, lv = .slice a zs.length cap ∧ (zs.length = 0 ∨ ∃ b off, a = some ⟨b, off, none⟩ ∧ b < w.heap.size ∧ b ≠ s ∧ ∀ i, i < zs.length → w.cell? ⟨b, off + i, none⟩ = some (.int .i64 (zs.getD i 0)))

/-- The next raw number modulo k. -/
def nextV (zs : List Int) (p : Nat) (k : Int) : Int := pick (zs.getD p 0) k

theorem next_any (s : Nat) (lv : Value) (zs : List Int) (p : Nat) (P left k : Int) (X : World) (hP : P = p) (hs : s < X.heap.size) (hX : X.src s lv P left = X) (hl : ListAt X s lv zs) (hp : p ≤ 4611686018427387904) (hk : k ≤ 4611686018427387904) :
    Calls Try.prog 66 #[.pointer (some ⟨s, 0, none⟩), .int .i64 k] X fun e w' => e = .returned (.int .i64 (nextV zs p k)) ∧ ∃ n, w' = (X.src s lv (P + 1) left).drewN n := by
  subst hP
  obtain ⟨hlen, a, cap, rfl, hc⟩ := hl
  by_cases h : p < zs.length
  · rcases hc with h0 | ⟨b, off, rfl, hb, hbs, hc⟩
    · omega
    · have := next_in s p zs.length cap b off left k (zs.getD p 0) X hs h hlen hk hbs (hc p h)
      rw [hX] at this
      exact this
  · have := next_out s p zs.length cap a left k X hs (by omega) hp hk
    rw [hX] at this
    rw [nextV, List.getD_eq_getElem?_getD, List.getElem?_eq_none (by omega)]
    exact this

theorem ListAt.of_cells {w w' : World} {s : Nat} {lv : Value} {zs : List Int} (h : ListAt w s lv zs) (hsz : w.heap.size ≤ w'.heap.size) (hc : ∀ b o, b < w.heap.size → b ≠ s → w'.cell? ⟨b, o, none⟩ = w.cell? ⟨b, o, none⟩) : ListAt w' s lv zs := by
  obtain ⟨h0, a, cap, hv, h1⟩ := h
  refine ⟨h0, a, cap, hv, h1.imp id ?_⟩
  rintro ⟨b, off, ha, hb, hbs, hcc⟩
  exact ⟨b, off, ha, by omega, hbs, fun i hi => by rw [hc b _ hb hbs]; exact hcc i hi⟩
theorem ListAt.grow {w : World} {s : Nat} {lv : Value} {zs : List Int} (h : ListAt w s lv zs) (bs : Array Obj) (d : Nat) : ListAt (w.grow bs d) s lv zs :=
  h.of_cells (by simp) fun b o hb _ => World.cell?_grow _ _ _ hb
theorem ListAt.alloc {w : World} {s : Nat} {lv : Value} {zs : List Int} (h : ListAt w s lv zs) (o : Obj) : ListAt (w.alloc o) s lv zs :=
  h.of_cells (by simp) fun b i hb _ => World.cell?_alloc_lt w o ⟨b, i, none⟩ hb
theorem ListAt.drewN {w : World} {s : Nat} {lv : Value} {zs : List Int} (h : ListAt w s lv zs) (n : Nat) : ListAt (w.drewN n) s lv zs :=
  h.of_cells (Nat.le_refl _) fun _ _ _ _ => rfl
theorem ListAt.src {w : World} {s : Nat} {lv : Value} {zs : List Int} (h : ListAt w s lv zs) (lv' : Value) (p left : Int) : ListAt (w.src s lv' p left) s lv zs :=
  h.of_cells (by simp) fun _ _ _ hbs => World.cell?_src_other hbs
end Go.Proofs.Ytldelkkeimlfcaa

namespace Go.Proofs.Ytldelkkeimlfcaa
open Go.RowKit

/-- The denominators of made numbers. -/
def denOf (i : Int) : Int := if i < 3 then 1 else if i = 3 then 10 else if i = 4 then 4 else if i = 5 then 1000 else 10000
def numN (zs : List Int) (p : Nat) : Int := mkN (nextV zs p 4000) (denOf (nextV zs (p + 1) 7))
def numD (zs : List Int) (p : Nat) : Int := mkD (nextV zs p 4000) (denOf (nextV zs (p + 1) 7))
def numE (zs : List Int) (p : Nat) : Int := mkE (nextV zs p 4000) (denOf (nextV zs (p + 1) 7))
theorem nextV_bd (zs : List Int) (p : Nat) (k : Int) (hk : 1 ≤ k) : 0 ≤ nextV zs p k ∧ nextV zs p k < k := pick_bd _ _ hk

set_option maxHeartbeats 1000000 in
theorem number_any (s : Nat) (lv : Value) (zs : List Int) (p : Nat) (P left : Int) (X : World) (hP : P = p) (hs : s < X.heap.size) (hX : X.src s lv P left = X) (hl : Hid (ListAt X s lv zs)) (hp : p ≤ 4611686018427387000) :
    Calls Try.prog 72 #[.pointer (some ⟨s, 0, none⟩)] X fun e w' => e = .returned (.agg #[.int .i64 (numN zs p), .int .i64 (numD zs p)]) ∧ (X.src s lv (P + 2) left).Grows w' := by
  subst hP
  rw [← hX]
  clear hX
  unfold numN numD
  have b1 := nextV_bd zs p 4000 (by omega)
  have b2 := nextV_bd zs (p + 1) 7 (by omega)
  generalize hV : nextV zs (p + 1) 7 = v at *
  have HV := Lib.hid hV
  clear hV
  generalize hU : nextV zs p 4000 = u at *
  have HU := Lib.hid hU
  clear hU
  rcases (show v = 0 ∨ v = 1 ∨ v = 2 ∨ v = 3 ∨ v = 4 ∨ v = 5 ∨ v = 6 by omega) with rfl | rfl | rfl | rfl | rfl | rfl | rfl
  all_goals
    simp only [denOf, reduceIte, Int.reduceLT, Int.reduceEq]
    go_enter Try.func72, Try.ntmps72
    go_wp2_with fail
    refine (next_any s lv zs p p left _ _ rfl (by simp; omega) (by simp [go_sem, hs]) (by (repeat' (first | (with_reducible exact hl.out) | (with_reducible refine ListAt.alloc ?_ _) | (with_reducible refine ListAt.grow ?_ _ _) | (with_reducible refine ListAt.drewN ?_ _) | (with_reducible refine ListAt.src ?_ _ _ _)))) (by omega) (by omega)).mono ?_
    rintro e w' ⟨rfl, n1, rfl⟩
    rw [HU.out]
    go_wp2_with fail
    refine (next_any s lv zs (p + 1) (p + 1) left _ _ (by simp) (by simp; omega) (by simp [go_sem, hs]) (by (repeat' (first | (with_reducible exact hl.out) | (with_reducible refine ListAt.alloc ?_ _) | (with_reducible refine ListAt.grow ?_ _ _) | (with_reducible refine ListAt.drewN ?_ _) | (with_reducible refine ListAt.src ?_ _ _ _)))) (by omega) (by omega)).mono ?_
    rintro e w' ⟨rfl, n2, rfl⟩
    rw [HV.out]
    go_wp2_with fail
    refine (MakeFraction_any _ _ _ (by omega) (by omega) (by omega) (by omega)).mono ?_
    rintro e w' ⟨rfl, bs, dr, rfl⟩
    go_wp2_with fail
    go_returns
    rw [World.src_src, show (p : Int) + 1 + 1 = p + 2 by omega]
    exact ⟨rfl, .of_below (by (repeat' (first | (with_reducible exact Below.refl _ _) | (with_reducible assumption) | (with_reducible refine Below.grow ?_ ?_ _ _) | (with_reducible refine Below.alloc ?_ ?_ _) | (with_reducible refine Below.drewN ?_ _) | (with_reducible refine Below.drew ?_) | (with_reducible refine Below.setCell ?_ ?_ _) | go_size)))⟩
end Go.Proofs.Ytldelkkeimlfcaa
