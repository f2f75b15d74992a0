/- The source of raw numbers (pensionmade): a block of three cells, written by whoever draws from it. -/
import Derived.Test.YtlheailebbngiaaGreatDoorQMake
import Derived.Lib.SmallJoins
set_option linter.all false
namespace Go
open Go.RowKit

/-- The world with block s holding the three cells of a source: the list, the place in it, how many nodes are left. -/
def World.src (w : World) (s : Nat) (lv : Value) (p left : Int) : World := { w with heap := w.heap.setIfInBounds s (.cells #[lv, .int .i64 p, .int .i64 left] 120 (0, 0)) }
section
variable {w : World} {s : Nat} {lv : Value} {p left : Int}
@[go_sem, simp] theorem World.size_src (w : World) (s : Nat) (lv : Value) (p left : Int) : (w.src s lv p left).heap.size = w.heap.size := by simp [World.src]
theorem World.heap_src_same (h : s < w.heap.size) : (w.src s lv p left).heap[s]? = some (.cells #[lv, .int .i64 p, .int .i64 left] 120 (0, 0)) := by
  simp [World.src, h]
theorem World.heap_src_other {b : Nat} (h : b ≠ s) : (w.src s lv p left).heap[b]? = w.heap[b]? := by
  simp only [World.src]
  rw [Array.getElem?_setIfInBounds_ne (Ne.symm h)]
@[go_sem] theorem World.cell?_src0 (h : s < w.heap.size) : (w.src s lv p left).cell? ⟨s, 0, none⟩ = some lv := by simp [World.cell?, World.heap_src_same h]
@[go_sem] theorem World.cell?_src1 (h : s < w.heap.size) : (w.src s lv p left).cell? ⟨s, 1, none⟩ = some (.int .i64 p) := by simp [World.cell?, World.heap_src_same h]
@[go_sem] theorem World.cell?_src2 (h : s < w.heap.size) : (w.src s lv p left).cell? ⟨s, 2, none⟩ = some (.int .i64 left) := by simp [World.cell?, World.heap_src_same h]
@[go_sem] theorem World.frozen?_src (h : s < w.heap.size) (i : Nat) : (w.src s lv p left).frozen? ⟨s, i, none⟩ = false := by simp [World.frozen?, World.heap_src_same h]
@[go_sem] theorem World.cell?_src_other {b i : Nat} (h : b ≠ s) : (w.src s lv p left).cell? ⟨b, i, none⟩ = w.cell? ⟨b, i, none⟩ := World.cell?_of_block (World.heap_src_other h)
@[go_sem] theorem World.frozen?_src_other {b i : Nat} (h : b ≠ s) : (w.src s lv p left).frozen? ⟨b, i, none⟩ = w.frozen? ⟨b, i, none⟩ := World.frozen?_of_block (World.heap_src_other h)
@[go_sem, simp] theorem World.src_src (lv' : Value) (p' left' : Int) : (w.src s lv p left).src s lv' p' left' = w.src s lv' p' left' := by simp [World.src]
@[go_sem] theorem World.src_alloc (o : Obj) (h : s < w.heap.size) : (w.alloc o).src s lv p left = (w.src s lv p left).alloc o := by
  simp only [World.src, World.alloc]
  congr 1
  apply Array.ext_getElem?
  intro k
  simp only [Array.getElem?_setIfInBounds, Array.getElem?_push, Array.size_setIfInBounds, Array.size_push]
  by_cases hk : s = k
  · subst hk
    simp [h, Nat.ne_of_lt h, Nat.lt_succ_of_lt h]
  · simp [hk]
@[go_sem] theorem World.src_grow (bs : Array Obj) (d : Nat) (h : s < w.heap.size) : (w.grow bs d).src s lv p left = (w.src s lv p left).grow bs d := by
  simp only [World.src, World.grow]
  congr 1
  exact Array.setIfInBounds_append_left h
@[go_sem, simp] theorem World.src_drewN (n : Nat) : (w.drewN n).src s lv p left = (w.src s lv p left).drewN n := rfl
@[go_sem, simp] theorem World.src_drew : w.drew.src s lv p left = (w.src s lv p left).drew := rfl
@[go_sem] theorem World.setCell_src1 (h : s < w.heap.size) (v : Int) : (w.src s lv p left).setCell ⟨s, 1, none⟩ (.int .i64 v) = w.src s lv v left := by
  simp only [World.src, World.setCell]
  congr 1
  apply Array.ext_getElem?
  intro k
  simp only [Array.getElem?_modify, Array.getElem?_setIfInBounds]
  by_cases hk : s = k
  · subst hk; simp [h]
  · simp [hk]
@[go_sem] theorem World.setCell_src2 (h : s < w.heap.size) (v : Int) : (w.src s lv p left).setCell ⟨s, 2, none⟩ (.int .i64 v) = w.src s lv p v := by
  simp only [World.src, World.setCell]
  congr 1
  apply Array.ext_getElem?
  intro k
  simp only [Array.getElem?_modify, Array.getElem?_setIfInBounds]
  by_cases hk : s = k
  · subst hk; simp [h]
  · simp [hk]

@[go_sem] theorem World.setCell_drewN (w : World) (n : Nat) (a : Addr) (v : Value) : (w.drewN n).setCell a v = (w.setCell a v).drewN n := rfl
/-- A new source. -/
theorem World.src_new (w : World) (lv : Value) (p left : Int) : (w.alloc (.cells #[lv, .int .i64 p, .int .i64 left] 120)).src w.heap.size lv p left = w.alloc (.cells #[lv, .int .i64 p, .int .i64 left] 120) := by
  simp only [World.src, World.alloc]
  congr 1
  apply Array.ext_getElem?
  intro k
  simp only [Array.getElem?_setIfInBounds, Array.getElem?_push, Array.size_push]
  by_cases hk : w.heap.size = k
  · subst hk; simp
  · simp [hk]

/-- A slice of integers that came in. -/
def IntsAt (w : World) (v : Value) (zs : List Int) : Prop :=
  zs.length ≤ 140737488355328 ∧ (∀ z ∈ zs, -9223372036854775808 ≤ z ∧ z ≤ 9223372036854775807) ∧
  ∃ a cap, v = .slice a zs.length cap ∧ (zs.length = 0 ∨ ∃ b off, a = some ⟨b, off, none⟩ ∧ b < w.heap.size ∧ ∀ i, i < zs.length → w.cell? ⟨b, off + i, none⟩ = some (.int .i64 (zs.getD i 0)))
theorem IntsAt.grow {v : Value} {zs : List Int} (h : IntsAt w v zs) (bs : Array Obj) (d : Nat) : IntsAt (w.grow bs d) v zs := by
  obtain ⟨h0, hr, a, cap, hv, h1⟩ := h
  refine ⟨h0, hr, a, cap, hv, h1.imp id ?_⟩
  rintro ⟨b, off, ha, hb, hc⟩
  refine ⟨b, off, ha, by simp; omega, fun i hi => ?_⟩
  rw [World.cell?_grow _ _ _ hb]
  exact hc i hi
end
end Go
namespace Go.Proofs.YtlheailebbngiaaGreatDoor
open Go.RowKit

/-- The raw number at a place. -/
def rawAt (zs : List Int) (p : Nat) : Int := zs.getD p 0

set_option maxHeartbeats 1000000 in
theorem next_out (s : Nat) (p len cap : Nat) (a : Option Addr) (left k : Int) (Y : World) (hs : s < Y.heap.size) (hp : len ≤ p) (hpm : p ≤ 4611686018427387904) (hk : k ≤ 4611686018427387904) :
    Calls Tryz.prog 103 #[.pointer (some ⟨s, 0, none⟩), .int .i64 k] (Y.src s (.slice a len cap) p left) fun e w' => e = .returned (.int .i64 (pick 0 k)) ∧ ∃ n, w' = (Y.src s (.slice a len cap) (p + 1) left).drewN n := by
  have d1 : decide ((p : Int) < (len : Int)) = false := by simp; omega
  go_enter Tryz.func103, Tryz.ntmps103
  go_wp2_with fail
  go_quiet (fail)
  skip
  go_wp2_with (first | (go_at_call 15; refine (Pick_any _ _ _ (by omega)).mono ?_; rintro e w' ⟨rfl, rfl⟩))
  go_returns
  exact ⟨rfl, _, rfl⟩

set_option maxHeartbeats 1000000 in
theorem next_in (s : Nat) (p len cap b off : Nat) (left k z : Int) (Y : World) (hs : s < Y.heap.size) (hp : p < len) (hlen : len ≤ 140737488355328) (hk : k ≤ 4611686018427387904) (hbs : b ≠ s) (hz : Y.cell? ⟨b, off + p, none⟩ = some (.int .i64 z)) :
    Calls Tryz.prog 103 #[.pointer (some ⟨s, 0, none⟩), .int .i64 k] (Y.src s (.slice (some ⟨b, off, none⟩) len cap) p left) fun e w' => e = .returned (.int .i64 (pick z k)) ∧ ∃ n, w' = (Y.src s (.slice (some ⟨b, off, none⟩) len cap) (p + 1) left).drewN n := by
  have d1 : (p : Int) < (len : Int) := by omega
  have d0 : (0 : Int) ≤ (p : Int) := by omega
  go_enter Tryz.func103, Tryz.ntmps103
  go_wp2_with fail
  go_quiet (fail)
  (go_wp2_with fail; go_quiet (fail))
  go_wp2_with (first | (go_at_call 15; refine (Pick_any _ _ _ (by omega)).mono ?_; rintro e w' ⟨rfl, rfl⟩))
  go_returns
  exact ⟨rfl, _, rfl⟩

/-- The list of a source, and that the source is apart from it. -/
def ListAt (w : World) (s : Nat) (lv : Value) (zs : List Int) : Prop :=
  zs.length ≤ 140737488355328 ∧
  ∃ a cap, lv = .slice a zs.length cap ∧ (zs.length = 0 ∨ ∃ b off, a = some ⟨b, off, none⟩ ∧ b < w.heap.size ∧ b ≠ s ∧ ∀ i, i < zs.length → w.cell? ⟨b, off + i, none⟩ = some (.int .i64 (zs.getD i 0)))

/-- The next raw number modulo k. -/
def nextV (zs : List Int) (p : Nat) (k : Int) : Int := pick (zs.getD p 0) k

theorem next_any (s : Nat) (lv : Value) (zs : List Int) (p : Nat) (P left k : Int) (X : World) (hP : P = p) (hs : s < X.heap.size) (hX : X.src s lv P left = X) (hl : ListAt X s lv zs) (hp : p ≤ 4611686018427387904) (hk : k ≤ 4611686018427387904) :
    Calls Tryz.prog 103 #[.pointer (some ⟨s, 0, none⟩), .int .i64 k] X fun e w' => e = .returned (.int .i64 (nextV zs p k)) ∧ ∃ n, w' = (X.src s lv (P + 1) left).drewN n := by
  subst hP
  obtain ⟨hlen, a, cap, rfl, hc⟩ := hl
  by_cases h : p < zs.length
  · rcases hc with h0 | ⟨b, off, rfl, hb, hbs, hc⟩
    · omega
    · have := next_in s p zs.length cap b off left k (zs.getD p 0) X hs h hlen hk hbs (hc p h)
      rw [hX] at this
      exact this
  · have := next_out s p zs.length cap a left k X hs (by omega) hp hk
    rw [hX] at this
    rw [nextV, List.getD_eq_getElem?_getD, List.getElem?_eq_none (by omega)]
    exact this

theorem ListAt.of_cells {w w' : World} {s : Nat} {lv : Value} {zs : List Int} (h : ListAt w s lv zs) (hsz : w.heap.size ≤ w'.heap.size) (hc : ∀ b o, b < w.heap.size → b ≠ s → w'.cell? ⟨b, o, none⟩ = w.cell? ⟨b, o, none⟩) : ListAt w' s lv zs := by
  obtain ⟨h0, a, cap, hv, h1⟩ := h
  refine ⟨h0, a, cap, hv, h1.imp id ?_⟩
  rintro ⟨b, off, ha, hb, hbs, hcc⟩
  exact ⟨b, off, ha, by omega, hbs, fun i hi => by rw [hc b _ hb hbs]; exact hcc i hi⟩
theorem ListAt.grow {w : World} {s : Nat} {lv : Value} {zs : List Int} (h : ListAt w s lv zs) (bs : Array Obj) (d : Nat) : ListAt (w.grow bs d) s lv zs :=
  h.of_cells (by simp) fun b o hb _ => World.cell?_grow _ _ _ hb
theorem ListAt.alloc {w : World} {s : Nat} {lv : Value} {zs : List Int} (h : ListAt w s lv zs) (o : Obj) : ListAt (w.alloc o) s lv zs :=
  h.of_cells (by simp) fun b i hb _ => World.cell?_alloc_lt w o ⟨b, i, none⟩ hb
theorem ListAt.drewN {w : World} {s : Nat} {lv : Value} {zs : List Int} (h : ListAt w s lv zs) (n : Nat) : ListAt (w.drewN n) s lv zs :=
  h.of_cells (Nat.le_refl _) fun _ _ _ _ => rfl
theorem ListAt.src {w : World} {s : Nat} {lv : Value} {zs : List Int} (h : ListAt w s lv zs) (lv' : Value) (p left : Int) : ListAt (w.src s lv' p left) s lv zs :=
  h.of_cells (by simp) fun _ _ _ hbs => World.cell?_src_other hbs
end Go.Proofs.YtlheailebbngiaaGreatDoor

namespace Go.Proofs.YtlheailebbngiaaGreatDoor
open Go.RowKit

/-- The denominators of made numbers. -/
def denOf (i : Int) : Int := if i < 3 then 1 else if i = 3 then 10 else if i = 4 then 4 else if i = 5 then 1000 else 10000
def numN (zs : List Int) (p : Nat) : Int := mkN (nextV zs p 4000) (denOf (nextV zs (p + 1) 7))
def numD (zs : List Int) (p : Nat) : Int := mkD (nextV zs p 4000) (denOf (nextV zs (p + 1) 7))
def numE (zs : List Int) (p : Nat) : Int := mkE (nextV zs p 4000) (denOf (nextV zs (p + 1) 7))
theorem nextV_bd (zs : List Int) (p : Nat) (k : Int) (hk : 1 ≤ k) : 0 ≤ nextV zs p k ∧ nextV zs p k < k := pick_bd _ _ hk

set_option maxHeartbeats 1000000 in
theorem number_any (s : Nat) (lv : Value) (zs : List Int) (p : Nat) (P left : Int) (X : World) (hP : P = p) (hs : s < X.heap.size) (hX : X.src s lv P left = X) (hl : Hid (ListAt X s lv zs)) (hp : p ≤ 4611686018427387000) :
    Calls Tryz.prog 107 #[.pointer (some ⟨s, 0, none⟩)] X fun e w' => e = .returned (.agg #[.int .i64 (numN zs p), .int .i64 (numD zs p)]) ∧ (X.src s lv (P + 2) left).Grows w' := by
  subst hP
  rw [← hX]
  clear hX
  unfold numN numD
  have b1 := nextV_bd zs p 4000 (by omega)
  have b2 := nextV_bd zs (p + 1) 7 (by omega)
  generalize hV : nextV zs (p + 1) 7 = v at *
  have HV := Lib.hid hV
  clear hV
  generalize hU : nextV zs p 4000 = u at *
  have HU := Lib.hid hU
  clear hU
  rcases (show v = 0 ∨ v = 1 ∨ v = 2 ∨ v = 3 ∨ v = 4 ∨ v = 5 ∨ v = 6 by omega) with rfl | rfl | rfl | rfl | rfl | rfl | rfl
  all_goals
    simp only [denOf, reduceIte, Int.reduceLT, Int.reduceEq]
    go_enter Tryz.func107, Tryz.ntmps107
    go_wp2_with fail
    refine (next_any s lv zs p p left _ _ rfl (by simp; omega) (by simp [go_sem, hs]) (by (repeat' (first | (with_reducible exact hl.out) | (with_reducible refine ListAt.alloc ?_ _) | (with_reducible refine ListAt.grow ?_ _ _) | (with_reducible refine ListAt.drewN ?_ _) | (with_reducible refine ListAt.src ?_ _ _ _)))) (by omega) (by omega)).mono ?_
    rintro e w' ⟨rfl, n1, rfl⟩
    rw [HU.out]
    go_wp2_with fail
    refine (next_any s lv zs (p + 1) (p + 1) left _ _ (by simp) (by simp; omega) (by simp [go_sem, hs]) (by (repeat' (first | (with_reducible exact hl.out) | (with_reducible refine ListAt.alloc ?_ _) | (with_reducible refine ListAt.grow ?_ _ _) | (with_reducible refine ListAt.drewN ?_ _) | (with_reducible refine ListAt.src ?_ _ _ _)))) (by omega) (by omega)).mono ?_
    rintro e w' ⟨rfl, n2, rfl⟩
    rw [HV.out]
    go_wp2_with fail
    refine (MakeFraction_any _ _ _ (by omega) (by omega) (by omega) (by omega)).mono ?_
    rintro e w' ⟨rfl, bs, dr, rfl⟩
    go_wp2_with fail
    go_returns
    rw [World.src_src, show (p : Int) + 1 + 1 = p + 2 by omega]
    exact ⟨rfl, .of_below (by (exact belB))⟩
end Go.Proofs.YtlheailebbngiaaGreatDoor
/- Expressions as data, and how they lie in memory. -/
namespace Go.Proofs.YtlheailebbngiaaGreatDoor
open Go.RowKit

inductive Ex where
  | mk (op num den dim : Int) (name : ByteArray) (args : List Ex)
namespace Ex
def op : Ex → Int | mk o _ _ _ _ _ => o
def num : Ex → Int | mk _ n _ _ _ _ => n
def den : Ex → Int | mk _ _ d _ _ _ => d
def dim : Ex → Int | mk _ _ _ d _ _ => d
def name : Ex → ByteArray | mk _ _ _ _ s _ => s
def args : Ex → List Ex | mk _ _ _ _ _ l => l
instance : Inhabited Ex := ⟨mk 0 0 0 0 ByteArray.empty []⟩
/-- The i-th operand. -/
def arg (e : Ex) (i : Nat) : Ex := e.args.getD i default
mutual
def size : Ex → Nat
  | mk _ _ _ _ _ l => sizes l + 1
def sizes : List Ex → Nat
  | [] => 0
  | e :: r => size e + sizes r
end
mutual
def depth : Ex → Nat
  | mk _ _ _ _ _ l => depths l + 1
def depths : List Ex → Nat
  | [] => 0
  | e :: r => max (depth e) (depths r)
end
theorem size_eq (e : Ex) : e.size = sizes e.args + 1 := by cases e; rw [size]; rfl
theorem depth_eq (e : Ex) : e.depth = depths e.args + 1 := by cases e; rw [depth]; rfl
theorem sizes_append (a b : List Ex) : sizes (a ++ b) = sizes a + sizes b := by
  induction a with
  | nil => simp [sizes]
  | cons e r ih => simp only [List.cons_append, sizes, ih]; omega
theorem depths_append (a b : List Ex) : depths (a ++ b) = max (depths a) (depths b) := by
  induction a with
  | nil => simp [depths]
  | cons e r ih => simp only [List.cons_append, depths, ih]; omega
theorem size_pos (e : Ex) : 1 ≤ e.size := by rw [size_eq]; omega
theorem size_getD (l : List Ex) (i : Nat) (h : i < l.length) : (l.getD i default).size ≤ sizes l := by
  induction l generalizing i with
  | nil => simp at h
  | cons e r ih =>
    cases i with
    | zero => simp [sizes]
    | succ i => have := ih i (by simpa using h); simp only [List.getD_cons_succ, sizes]; omega
theorem size_arg (e : Ex) (i : Nat) (h : i < e.args.length) : (e.arg i).size < e.size := by
  have := size_getD e.args i h
  rw [size_eq e]; unfold arg; omega
theorem length_sizes (l : List Ex) : l.length ≤ sizes l := by
  induction l with
  | nil => simp
  | cons e r ih => have := size_pos e; simp only [List.length_cons, sizes]; omega
mutual
theorem depth_size : ∀ e : Ex, e.depth ≤ e.size
  | mk _ _ _ _ _ l => by rw [depth, size]; have := depths_sizes l; omega
theorem depths_sizes : ∀ l : List Ex, depths l ≤ sizes l
  | [] => by simp [depths, sizes]
  | e :: r => by rw [depths, sizes]; have := depth_size e; have := depths_sizes r; omega
end
theorem take_succ (l : List Ex) (k : Nat) (h : k < l.length) : l.take (k + 1) = l.take k ++ [l.getD k default] := by
  rw [List.take_succ_eq_append_getElem h, List.getD_eq_getElem?_getD, List.getElem?_eq_getElem h]; rfl
theorem sizes_take (e : Ex) (k : Nat) (h : k < e.args.length) : sizes (e.args.take (k + 1)) = sizes (e.args.take k) + (e.arg k).size := by
  rw [take_succ _ _ h, sizes_append]; simp [sizes, arg]
theorem depths_take (e : Ex) (k : Nat) (h : k < e.args.length) : depths (e.args.take (k + 1)) = max (depths (e.args.take k)) (e.arg k).depth := by
  rw [take_succ _ _ h, depths_append]; simp [depths, arg]
theorem sizes_take_le (e : Ex) (k : Nat) : sizes (e.args.take k) ≤ sizes e.args := by
  conv => rhs; rw [← List.take_append_drop k e.args]
  rw [sizes_append]; omega
end Ex

/-- The six cells of an expression at an offset of a block; v: its slice of operands. -/
structure ExAt (w : World) (b o : Nat) (e : Ex) (v : Value) : Prop where
  c0 : w.cell? ⟨b, o, none⟩ = some (.int .i64 e.op)
  c1 : w.cell? ⟨b, o + 1, none⟩ = some (.int .i64 e.num)
  c2 : w.cell? ⟨b, o + 2, none⟩ = some (.int .i64 e.den)
  c3 : w.cell? ⟨b, o + 3, none⟩ = some (.int .i64 e.dim)
  c4 : w.cell? ⟨b, o + 4, none⟩ = some (.string e.name)
  c5 : w.cell? ⟨b, o + 5, none⟩ = some v

def I64 (z : Int) : Prop := -9223372036854775808 ≤ z ∧ z ≤ 9223372036854775807
structure ExRng (e : Ex) : Prop where
  op : I64 e.op
  num : I64 e.num
  den : I64 e.den
  dim : I64 e.dim
  len : e.args.length ≤ 140737488355328
  name : e.name.size ≤ 140737488355328

/-- v is the slice of e's operands in memory, all of it in blocks of S. -/
inductive RepE (S : Nat → Prop) (w : World) : Ex → Value → Prop
  | mk (e : Ex) (a : Option Addr) (cap : Nat) (vs : Nat → Value) (hr : ExRng e)
      (hc : e.args.length = 0 ∨ ∃ b off, a = some ⟨b, off, none⟩ ∧ S b ∧ b < w.heap.size ∧ ∀ i, i < e.args.length → ExAt w b (off + i * 6) (e.arg i) (vs i))
      (hs : ∀ i, i < e.args.length → RepE S w (e.arg i) (vs i)) : RepE S w e (.slice a e.args.length cap)

theorem ExAt.same {w w' : World} {b o : Nat} {e : Ex} {v : Value} (h : ExAt w b o e v) (hw : ∀ o, w'.cell? ⟨b, o, none⟩ = w.cell? ⟨b, o, none⟩) : ExAt w' b o e v :=
  ⟨by rw [hw]; exact h.c0, by rw [hw]; exact h.c1, by rw [hw]; exact h.c2, by rw [hw]; exact h.c3, by rw [hw]; exact h.c4, by rw [hw]; exact h.c5⟩

theorem RepE.keep {S : Nat → Prop} {w w' : World} {e : Ex} {v : Value} (h : RepE S w e v) (hsz : w.heap.size ≤ w'.heap.size) (hw : ∀ b o, S b → b < w.heap.size → w'.cell? ⟨b, o, none⟩ = w.cell? ⟨b, o, none⟩) : RepE S w' e v := by
  induction h with
  | mk e a cap vs hr hc hs ih =>
    refine .mk e a cap vs hr (hc.imp id ?_) ih
    rintro ⟨b, off, ha, hS, hb, hx⟩
    exact ⟨b, off, ha, hS, by omega, fun i hi => (hx i hi).same fun o => hw b o hS hb⟩
theorem RepE.grow {S : Nat → Prop} {w : World} {e : Ex} {v : Value} (h : RepE S w e v) (bs : Array Obj) (d : Nat) : RepE S (w.grow bs d) e v :=
  h.keep (by simp) fun b o _ hb => World.cell?_grow _ _ _ hb
theorem RepE.alloc {S : Nat → Prop} {w : World} {e : Ex} {v : Value} (h : RepE S w e v) (o : Obj) : RepE S (w.alloc o) e v :=
  h.keep (by simp) fun b i _ hb => World.cell?_alloc_lt w o ⟨b, i, none⟩ hb
theorem RepE.mono {S S' : Nat → Prop} {w : World} {e : Ex} {v : Value} (h : RepE S w e v) (hS : ∀ b, S b → S' b) : RepE S' w e v := by
  induction h with
  | mk e a cap vs hr hc hs ih =>
    refine .mk e a cap vs hr (hc.imp id ?_) ih
    rintro ⟨b, off, ha, hb, hx⟩
    exact ⟨b, off, ha, hS b hb, hx⟩
theorem RepE.rng {S : Nat → Prop} {w : World} {e : Ex} {v : Value} (h : RepE S w e v) : ExRng e := by cases h; assumption

/-- The value of an expression with its operands at v. -/
abbrev exV (e : Ex) (v : Value) : Value := .agg #[.int .i64 e.op, .int .i64 e.num, .int .i64 e.den, .int .i64 e.dim, .string e.name, v]

def szT (e : Ex) (k : Nat) : Int := (1 + Ex.sizes (e.args.take k) : Nat)
def dpT (e : Ex) (k : Nat) : Int := (Ex.depths (e.args.take k) : Nat)
theorem szT_zero (e : Ex) : szT e 0 = 1 := by simp [szT, Ex.sizes]
theorem szT_succ (e : Ex) (k : Nat) (h : k < e.args.length) : szT e (k + 1) = szT e k + ((e.arg k).size : Int) := by unfold szT; rw [Ex.sizes_take e k h]; omega
theorem szT_bd (e : Ex) (k : Nat) : 1 ≤ szT e k ∧ szT e k ≤ e.size := by unfold szT; have := Ex.sizes_take_le e k; rw [e.size_eq]; omega
theorem szT_all (e : Ex) (k : Nat) (h : e.args.length ≤ k) : szT e k = e.size := by unfold szT; rw [List.take_of_length_le h, e.size_eq]; omega
theorem dpT_zero (e : Ex) : dpT e 0 = 0 := by simp [dpT, Ex.depths]
theorem dpT_succ (e : Ex) (k : Nat) (h : k < e.args.length) : dpT e (k + 1) = max (dpT e k) ((e.arg k).depth : Int) := by unfold dpT; rw [Ex.depths_take e k h]; omega
theorem dpT_bd (e : Ex) (k : Nat) : 0 ≤ dpT e k ∧ dpT e k ≤ e.size := by
  unfold dpT
  have := Ex.depths_sizes (e.args.take k)
  have := Ex.sizes_take_le e k
  rw [e.size_eq]; omega
theorem dpT_all (e : Ex) (k : Nat) (h : e.args.length ≤ k) : dpT e k + 1 = e.depth := by unfold dpT; rw [List.take_of_length_le h, e.depth_eq]; omega

set_option maxHeartbeats 1000000 in
theorem Size_walk (S : Nat → Prop) (n : Nat) : ∀ (e : Ex), e.size ≤ n → ∀ (v : Value) (w : World), RepE S w e v → Hid (e.size ≤ 2305843009213693952) →
    Calls Tryz.prog 33 #[exV e v] w fun r w' => r = .returned (.int .i64 (e.size : Nat)) ∧ w.Grows w' := by
  induction n with
  | zero => intro e he; have := e.size_pos; omega
  | succ n ih =>
    intro e he v w h hbig
    have IH := Lib.hid ih
    clear ih
    cases h with
    | mk _ a cap vs hr hc hs =>
      have hlen := hr.len
      have Hs := Lib.hid hs
      have He := Lib.hid he
      have Hc := Lib.hid hc
      clear hr hs he hc
      go_enter Tryz.func33, Tryz.ntmps33
      go_wp2_with fail
      go_loopw [3, 4] (fun v3 v4 wr => ∃ k : Nat, k ≤ e.args.length ∧ v3 = .int .i64 (szT e k) ∧ v4 = .int .i64 k ∧
        World.Grows (w.alloc (.cells #[.int .i64 e.op, .int .i64 e.num, .int .i64 e.den, .int .i64 e.dim, .string e.name, .slice a e.args.length cap] 51)) wr) (fun _ v4 _ => e.args.length - (intOf v4).toNat)
      case atStart => exact ⟨0, by omega, by rw [szT_zero], rfl, .refl _⟩
      case round =>
        obtain ⟨k, hk, rfl, rfl, bs, d, rfl⟩ := hrel
        have hb := szT_bd e k
        have hb0 : 1 ≤ szT e k := hb.1
        have hb1 : szT e k ≤ 2305843009213693952 := by have := hbig.out; omega
        clear hb
        by_cases hlt : k < e.args.length
        · rcases Hc.out with h0 | ⟨b, off, rfl, hS, hbw, hx⟩
          · omega
          · obtain ⟨x0, x1, x2, x3, x4, x5⟩ := hx k hlt
            clear hx
            have hlt1 : (k : Int) < (e.args.length : Int) := by omega
            have HN := Lib.hid (szT_succ e k hlt)
            have HA := Lib.hid (e.size_arg k hlt)
            have hs1 : ((e.arg k).size : Int) ≤ 2305843009213693952 := by have := hbig.out; have := HA.out; omega
            go_wp2_with fail
            refine (IH.out (e.arg k) (by have := He.out; have := HA.out; omega) (vs k) _ (((Hs.out k hlt).alloc _).grow _ _) (by have := hbig.out; have := HA.out; show _ ≤ _; omega)).mono ?_
            rintro r w' ⟨rfl, bs2, d2, rfl⟩
            go_wp2_with fail
            go_roundw
            case rel => exact ⟨k + 1, by omega, by rw [HN.out], by go_num, .of_below (by (exact belB))⟩
            case measure => simp [intOf]; omega
        · have HN := Lib.hid (szT_all e k (by omega))
          obtain rfl : k = e.args.length := by omega
          go_wp2_with fail
          go_returns
          exact ⟨ret_int HN.out, .of_below (by (exact belB))⟩

set_option maxHeartbeats 1000000 in
theorem Depth_walk (S : Nat → Prop) (n : Nat) : ∀ (e : Ex), e.size ≤ n → ∀ (v : Value) (w : World), RepE S w e v → Hid (e.size ≤ 2305843009213693952) →
    Calls Tryz.prog 32 #[exV e v] w fun r w' => r = .returned (.int .i64 (e.depth : Nat)) ∧ w.Grows w' := by
  induction n with
  | zero => intro e he; have := e.size_pos; omega
  | succ n ih =>
    intro e he v w h hbig
    have IH := Lib.hid ih
    clear ih
    cases h with
    | mk _ a cap vs hr hc hs =>
      have hlen := hr.len
      have Hs := Lib.hid hs
      have He := Lib.hid he
      have Hc := Lib.hid hc
      clear hr hs he hc
      go_enter Tryz.func32, Tryz.ntmps32
      go_wp2_with fail
      go_loopw [3, 4] (fun v3 v4 wr => ∃ k : Nat, k ≤ e.args.length ∧ v3 = .int .i64 (dpT e k) ∧ v4 = .int .i64 k ∧
        World.Grows (w.alloc (.cells #[.int .i64 e.op, .int .i64 e.num, .int .i64 e.den, .int .i64 e.dim, .string e.name, .slice a e.args.length cap] 51)) wr) (fun _ v4 _ => e.args.length - (intOf v4).toNat)
      case atStart => exact ⟨0, by omega, by rw [dpT_zero], rfl, .refl _⟩
      case round =>
        obtain ⟨k, hk, rfl, rfl, bs, d, rfl⟩ := hrel
        have hb := dpT_bd e k
        have hb0 : 0 ≤ dpT e k := hb.1
        have hb1 : dpT e k ≤ 2305843009213693952 := by have := hbig.out; omega
        clear hb
        by_cases hlt : k < e.args.length
        · rcases Hc.out with h0 | ⟨b, off, rfl, hS, hbw, hx⟩
          · omega
          · obtain ⟨x0, x1, x2, x3, x4, x5⟩ := hx k hlt
            clear hx
            have hlt1 : (k : Int) < (e.args.length : Int) := by omega
            have HN := Lib.hid (dpT_succ e k hlt)
            have HA := Lib.hid (e.size_arg k hlt)
            have hs1 : ((e.arg k).depth : Int) ≤ 2305843009213693952 := by have := hbig.out; have := HA.out; have := (e.arg k).depth_size; omega
            go_wp2_with fail
            refine (IH.out (e.arg k) (by have := He.out; have := HA.out; omega) (vs k) _ (((Hs.out k hlt).alloc _).grow _ _) (by have := hbig.out; have := HA.out; show _ ≤ _; omega)).mono ?_
            rintro r w' ⟨rfl, bs2, d2, rfl⟩
            go_wp2_with fail
            go_roundw
            case rel => exact ⟨k + 1, by omega, by rw [HN.out], by go_num, .of_below (by (exact belB))⟩
            case measure => simp [intOf]; omega
        · have HN := Lib.hid (dpT_all e k (by omega))
          obtain rfl : k = e.args.length := by omega
          go_wp2_with fail
          go_returns
          exact ⟨ret_int HN.out, .of_below (by (exact belB))⟩
end Go.Proofs.YtlheailebbngiaaGreatDoor
/- What a source makes: expressions of raw numbers, as plain functions. -/
namespace Go.Proofs.YtlheailebbngiaaGreatDoor
open Go.RowKit

instance : Inhabited ByteArray := ⟨ByteArray.empty⟩
/-- The inputs and their dimensions. -/
def inpN : List (ByteArray × Int) := [(⟨#[97, 103, 101]⟩, 2), (⟨#[121, 101, 97, 114]⟩, 2), (⟨#[99, 104, 105, 108, 100, 114, 101, 110]⟩, 2), (⟨#[105, 110, 115, 117, 114, 101, 100]⟩, 3), (⟨#[119, 111, 114, 107, 101, 100]⟩, 3), (⟨#[118, 111, 108, 117, 110, 116, 97, 114, 121]⟩, 3), (⟨#[115, 101, 114, 118, 105, 99, 101]⟩, 3), (⟨#[101, 113, 117, 97, 116, 101, 100]⟩, 3), (⟨#[114, 97, 105, 115, 105, 110, 103]⟩, 3), (⟨#[114, 101, 115, 105, 100, 101, 110, 116]⟩, 3), (⟨#[98, 97, 115, 101]⟩, 4)]
/-- Names with a dimension. -/
def namesOf (l : List (ByteArray × Int)) (dim : Int) : List ByteArray := (l.filter (fun b => decide (b.2 = dim))).map (·.1)
theorem namesOf_append (a b : List (ByteArray × Int)) (dim : Int) : namesOf (a ++ b) dim = namesOf a dim ++ namesOf b dim := by simp [namesOf]
theorem namesOf_le (l : List (ByteArray × Int)) (dim : Int) : (namesOf l dim).length ≤ l.length := by
  unfold namesOf; rw [List.length_map]; exact List.length_filter_le _ _
def allNames (env : List (ByteArray × Int)) (dim : Int) : List ByteArray := namesOf inpN dim ++ namesOf env dim
theorem allNames_le (env : List (ByteArray × Int)) (dim : Int) : (allNames env dim).length ≤ 11 + env.length := by
  unfold allNames; rw [List.length_append]
  have := namesOf_le inpN dim
  have := namesOf_le env dim
  have : inpN.length = 11 := rfl
  omega

/-- A leaf that is no comparison. -/
def leafN (zs : List Int) (env : List (ByteArray × Int)) (p : Nat) (dim : Int) : Ex × Nat :=
  if nextV zs p ((allNames env dim).length + 3) < (allNames env dim).length then
    (.mk 2 0 0 0 ((allNames env dim).getD (nextV zs p ((allNames env dim).length + 3)).toNat ByteArray.empty) [], p + 1)
  else if dim = 4 ∧ nextV zs p ((allNames env dim).length + 3) = (allNames env dim).length then (.mk 3 (1 + nextV zs (p + 1) 5) 1 0 ByteArray.empty [], p + 2)
  else (.mk 1 (numN zs (p + 1)) (numD zs (p + 1)) dim ByteArray.empty [], p + 3)
def leafF (zs : List Int) (env : List (ByteArray × Int)) (dim : Int) (p : Nat) (left : Int) : Ex × Nat × Int :=
  if dim = 1 then
    (.mk (11 + nextV zs (p + 1) 6) 0 0 0 ByteArray.empty [(leafN zs env (p + 2) (2 + nextV zs p 3)).1, (leafN zs env (leafN zs env (p + 2) (2 + nextV zs p 3)).2 (2 + nextV zs p 3)).1],
      (leafN zs env (leafN zs env (p + 2) (2 + nextV zs p 3)).2 (2 + nextV zs p 3)).2, left - 3)
  else ((leafN zs env p dim).1, (leafN zs env p dim).2, left - 1)
theorem leafN_bd (zs : List Int) (env : List (ByteArray × Int)) (p : Nat) (dim : Int) : p ≤ (leafN zs env p dim).2 ∧ (leafN zs env p dim).2 ≤ p + 3 := by
  unfold leafN
  split
  · simp
  · split <;> simp
theorem leafF_bd (zs : List Int) (env : List (ByteArray × Int)) (dim : Int) (p : Nat) (left : Int) :
    p ≤ (leafF zs env dim p left).2.1 ∧ (leafF zs env dim p left).2.1 ≤ p + 8 ∧ left - 3 ≤ (leafF zs env dim p left).2.2 ∧ (leafF zs env dim p left).2.2 ≤ left := by
  unfold leafF
  split
  · have a := leafN_bd zs env (p + 2) (2 + nextV zs p 3)
    have b := leafN_bd zs env (leafN zs env (p + 2) (2 + nextV zs p 3)).2 (2 + nextV zs p 3)
    dsimp only
    omega
  · have a := leafN_bd zs env p dim
    dsimp only
    omega

/-- The operation that is chosen, its operands' dimensions, and the place behind the choice. -/
def prodF (zs : List Int) (p : Nat) (dim : Int) : Option (Int × List Int × Nat) :=
  if dim = 1 then
    if nextV zs p 14 < 2 then some (17 + nextV zs p 14, [1, 1], p + 1)
    else if nextV zs p 14 = 2 then some (5, [1], p + 1)
    else if nextV zs p 14 = 3 then some (21, [1, 1, 1], p + 1)
    else if nextV zs p 14 ≤ 8 then some (11 + nextV zs (p + 2) 6, [2 + nextV zs (p + 1) 3, 2 + nextV zs (p + 1) 3], p + 3)
    else none
  else if nextV zs p 14 = 0 then some (7, [dim, dim], p + 1)
  else if nextV zs p 14 = 1 then some (8, [dim, dim], p + 1)
  else if nextV zs p 14 = 2 then some (19, [dim, dim], p + 1)
  else if nextV zs p 14 = 3 then some (20, [dim, dim], p + 1)
  else if nextV zs p 14 = 4 then some (21, [1, dim, dim], p + 1)
  else if nextV zs p 14 = 5 then some (4, [dim], p + 1)
  else if nextV zs p 14 = 6 then some (6, [dim], p + 1)
  else if nextV zs p 14 = 7 then some (9, [2, dim], p + 1)
  else if nextV zs p 14 = 8 then some (9, [dim, 2], p + 1)
  else if nextV zs p 14 = 9 then some (10, [dim, 2], p + 1)
  else if nextV zs p 14 = 10 ∧ dim = 2 then some (10, [2 + nextV zs (p + 1) 3, 2 + nextV zs (p + 1) 3], p + 2)
  else none
/-- Operands one behind the other. -/
def nodeF (E : Int → Nat → Int → Ex × Nat × Int) : List Int → Nat → Int → List Ex × Nat × Int
  | [], p, left => ([], p, left)
  | d :: ds, p, left => ((E d p left).1 :: (nodeF E ds (E d p left).2.1 (E d p left).2.2).1, (nodeF E ds (E d p left).2.1 (E d p left).2.2).2)
/-- An expression with at most so many levels below it. -/
def exprF (zs : List Int) (env : List (ByteArray × Int)) : Nat → Int → Nat → Int → Ex × Nat × Int
  | 0, dim, p, left => leafF zs env dim p left
  | n + 1, dim, p, left =>
    if left ≤ 0 then leafF zs env dim p left else
      match prodF zs p dim with
      | none => leafF zs env dim (p + 1) (left - 2)
      | some (op, ds, q) => (.mk op 0 0 0 ByteArray.empty (nodeF (exprF zs env n) ds q (left - 2)).1, (nodeF (exprF zs env n) ds q (left - 2)).2)
theorem nodeF_snoc (E : Int → Nat → Int → Ex × Nat × Int) (ds : List Int) (d : Int) (p : Nat) (left : Int) :
    nodeF E (ds ++ [d]) p left = ((nodeF E ds p left).1 ++ [(E d (nodeF E ds p left).2.1 (nodeF E ds p left).2.2).1], (E d (nodeF E ds p left).2.1 (nodeF E ds p left).2.2).2) := by
  induction ds generalizing p left with
  | nil => rfl
  | cons c ds ih => simp only [List.cons_append, nodeF, ih]
theorem nodeF_length (E : Int → Nat → Int → Ex × Nat × Int) (ds : List Int) (p : Nat) (left : Int) : (nodeF E ds p left).1.length = ds.length := by
  induction ds generalizing p left with
  | nil => rfl
  | cons c ds ih => simp only [nodeF, List.length_cons, ih]
theorem exprF_leaf (zs : List Int) (env : List (ByteArray × Int)) (n : Nat) (dim : Int) (p : Nat) (left : Int) (h : n = 0 ∨ left ≤ 0) : exprF zs env n dim p left = leafF zs env dim p left := by
  cases n with
  | zero => rfl
  | succ n => rw [exprF, if_pos (by omega)]
theorem exprF_none (zs : List Int) (env : List (ByteArray × Int)) (n : Nat) (dim : Int) (p : Nat) (left : Int) (h : 0 < left) (hp : prodF zs p dim = none) : exprF zs env (n + 1) dim p left = leafF zs env dim (p + 1) (left - 2) := by
  rw [exprF, if_neg (by omega), hp]
theorem exprF_some (zs : List Int) (env : List (ByteArray × Int)) (n : Nat) (dim : Int) (p : Nat) (left : Int) (h : 0 < left) {op : Int} {ds : List Int} {q : Nat} (hp : prodF zs p dim = some (op, ds, q)) :
    exprF zs env (n + 1) dim p left = (.mk op 0 0 0 ByteArray.empty (nodeF (exprF zs env n) ds q (left - 2)).1, (nodeF (exprF zs env n) ds q (left - 2)).2) := by
  rw [exprF, if_neg (by omega), hp]
def prodOk (p : Nat) : Option (Int × List Int × Nat) → Prop
  | none => True
  | some t => p ≤ t.2.2 ∧ t.2.2 ≤ p + 3 ∧ t.2.1.length ≤ 3
theorem prodOk_ite {p : Nat} {c : Prop} [Decidable c] {a b : Option (Int × List Int × Nat)} (ha : prodOk p a) (hb : prodOk p b) : prodOk p (if c then a else b) := by
  split
  · exact ha
  · exact hb
theorem prodF_ok (zs : List Int) (p : Nat) (dim : Int) : prodOk p (prodF zs p dim) := by
  unfold prodF
  repeat' (first | refine prodOk_ite ?_ ?_)
  all_goals simp [prodOk]
theorem prodF_bd (zs : List Int) (p : Nat) (dim : Int) {op : Int} {ds : List Int} {q : Nat} (h : prodF zs p dim = some (op, ds, q)) : p ≤ q ∧ q ≤ p + 3 ∧ ds.length ≤ 3 := by
  have := prodF_ok zs p dim
  rw [h] at this
  exact this
/-- How many numbers an expression takes at most, and how many nodes. -/
def costN : Nat → Nat
  | 0 => 8
  | n + 1 => 3 * costN n + 3
theorem costN_8 (n : Nat) : 8 ≤ costN n := by induction n with
  | zero => exact Nat.le_refl _
  | succ n ih => rw [costN]; omega
theorem nodeF_bd (E : Int → Nat → Int → Ex × Nat × Int) (c : Nat) (hE : ∀ d p left, p ≤ (E d p left).2.1 ∧ (E d p left).2.1 ≤ p + c ∧ left - c ≤ (E d p left).2.2 ∧ (E d p left).2.2 ≤ left) (ds : List Int) : ∀ (p : Nat) (left : Int),
    p ≤ (nodeF E ds p left).2.1 ∧ (nodeF E ds p left).2.1 ≤ p + ds.length * c ∧ left - (ds.length * c : Nat) ≤ (nodeF E ds p left).2.2 ∧ (nodeF E ds p left).2.2 ≤ left := by
  induction ds with
  | nil => intro p left; simp [nodeF]
  | cons d ds ih =>
    intro p left
    have a := hE d p left
    have b := ih (E d p left).2.1 (E d p left).2.2
    simp only [nodeF, List.length_cons, Nat.add_mul, Nat.one_mul]
    omega
theorem exprF_bd (zs : List Int) (env : List (ByteArray × Int)) (n : Nat) : ∀ (dim : Int) (p : Nat) (left : Int),
    p ≤ (exprF zs env n dim p left).2.1 ∧ (exprF zs env n dim p left).2.1 ≤ p + costN n ∧ left - costN n ≤ (exprF zs env n dim p left).2.2 ∧ (exprF zs env n dim p left).2.2 ≤ left := by
  induction n with
  | zero => intro dim p left; have := leafF_bd zs env dim p left; simp only [exprF, costN]; omega
  | succ n ih =>
    intro dim p left
    have h8 := costN_8 n
    rw [exprF, costN]
    split
    · have := leafF_bd zs env dim p left; omega
    · cases h : prodF zs p dim with
      | none => have := leafF_bd zs env dim (p + 1) (left - 2); simp only; omega
      | some t =>
        obtain ⟨op, ds, q⟩ := t
        have a := prodF_bd zs p dim h
        have b := nodeF_bd (exprF zs env n) (costN n) ih ds q (left - 2)
        have c : ds.length * costN n ≤ 3 * costN n := Nat.mul_le_mul_right _ a.2.2
        simp only
        omega
end Go.Proofs.YtlheailebbngiaaGreatDoor
/- A slice of expressions that is built by appending. -/
namespace Go.Proofs.YtlheailebbngiaaGreatDoor
open Go.RowKit

def cells1 (e : Ex) (v : Value) : List Value := [.int .i64 e.op, .int .i64 e.num, .int .i64 e.den, .int .i64 e.dim, .string e.name, v]
def cellsL : List (Ex × Value) → List Value
  | [] => []
  | x :: r => cells1 x.1 x.2 ++ cellsL r
theorem cellsL_append (a b : List (Ex × Value)) : cellsL (a ++ b) = cellsL a ++ cellsL b := by
  induction a with
  | nil => rfl
  | cons x r ih => simp only [List.cons_append, cellsL, ih, List.append_assoc]
theorem cellsL_length (l : List (Ex × Value)) : (cellsL l).length = l.length * 6 := by
  induction l with
  | nil => rfl
  | cons x r ih => simp only [cellsL, List.length_append, ih, List.length_cons, cells1, List.length_nil]; omega
theorem cellsL_get (l : List (Ex × Value)) (i j : Nat) (x : Ex × Value) (h : l[i]? = some x) (hj : j < 6) : (cellsL l)[i * 6 + j]? = (cells1 x.1 x.2)[j]? := by
  induction l generalizing i with
  | nil => simp at h
  | cons y r ih =>
    simp only [cellsL]
    cases i with
    | zero =>
      simp only [List.getElem?_cons_zero, Option.some.injEq] at h
      subst h
      rw [List.getElem?_append_left (by simp [cells1]; omega)]
      congr 1; omega
    | succ i =>
      rw [List.getElem?_append_right (by simp [cells1]; omega), ← ih i (by simpa using h)]
      congr 1; simp [cells1]; omega

theorem RepE.mono' {S S' : Nat → Prop} {w : World} {e : Ex} {v : Value} (h : RepE S w e v) (hS : ∀ b, S b → b < w.heap.size → S' b) : RepE S' w e v := by
  induction h with
  | mk e a cap vs hr hc hs ih =>
    refine .mk e a cap vs hr (hc.imp id ?_) ih
    rintro ⟨b, off, ha, hb, hlt, hx⟩
    exact ⟨b, off, ha, hS b hb hlt, hlt, hx⟩
theorem RepE.nil {S : Nat → Prop} {w : World} {e : Ex} (hr : ExRng e) (h : e.args = []) : RepE S w e (.slice none 0 0) := by
  have := RepE.mk (S := S) (w := w) e none 0 (fun _ => .slice none 0 0) hr (.inl (by simp [h])) (fun i hi => by simp [h] at hi)
  simpa [h] using this

/-- v owns the expressions of l, the operands' slices beside them; all of it from block base on, the operands' memory apart from v's row. -/
structure RowE (base : Nat) (w : World) (v : Value) (l : List (Ex × Value)) : Prop where
  own : w.ownsRow base 51 6 v l.length (cellsL l)
  rep : ∀ x ∈ l, RepE (fun b => base ≤ b ∧ v.ownBlock ≠ some b) w x.1 x.2
theorem RowE.nil (base : Nat) (w : World) : RowE base w (.slice none 0 0) [] := ⟨World.ownsRow_nil _ _ _ _, fun _ h => by cases h⟩
theorem ownsRow_keep {w w' : World} {base : Nat} {e : TypeId} {size : Nat} {v : Value} {n : Nat} {xs : List Value} (h : w.ownsRow base e size v n xs) (hw : ∀ k, base ≤ k → k < w.heap.size → w'.heap[k]? = w.heap[k]?) : w'.ownsRow base e size v n xs := by
  obtain ⟨h1, h2⟩ := h
  refine ⟨h1, h2.imp id ?_⟩
  rintro ⟨g, cap, cur, hv, hb, hg, r⟩
  have hlt : g < w.heap.size := (Array.getElem?_eq_some_iff.1 hg).1
  exact ⟨g, cap, cur, hv, hb, by rw [hw g hb hlt]; exact hg, r⟩
theorem RowE.keep {base : Nat} {w w' : World} {v : Value} {l : List (Ex × Value)} (h : RowE base w v l) (hsz : w.heap.size ≤ w'.heap.size) (hw : ∀ k, base ≤ k → k < w.heap.size → w'.heap[k]? = w.heap[k]?) : RowE base w' v l :=
  ⟨ownsRow_keep h.own hw, fun x hx => (h.rep x hx).keep hsz fun b o hb hlt => World.cell?_of_block (hw b hb.1 hlt)⟩
theorem RowE.lt {base : Nat} {w : World} {v : Value} {l : List (Ex × Value)} (h : RowE base w v l) : ∀ k, v.ownBlock = some k → base ≤ k ∧ k < w.heap.size := h.own.lt
theorem RowE.push {base m : Nat} {w w' : World} {v : Value} {l : List (Ex × Value)} {e : Ex} {ve : Value} {g cap H n : Nat} {xs : List Value} (h : RowE base w v l) (he : RepE (fun b => m ≤ b) w e ve) (hm : base ≤ m) (hv : ∀ k, v.ownBlock = some k → k < m)
    (hn : n = l.length + 1) (hxs : xs = cellsL l ++ cells1 e ve)
    (ho : w'.ownsRow base 51 6 (.slice (some ⟨g, 0, none⟩) n cap) n xs) (hg : w.grownBy w' v.ownBlock) (hat : v.ownBlock = some g ∨ g = H) (hH : w.heap.size = H) :
    RowE base w' (.slice (some ⟨g, 0, none⟩) n cap) (l ++ [(e, ve)]) := by
  subst hH hn hxs
  refine ⟨by rw [List.length_append, cellsL_append]; simpa [cellsL] using ho, ?_⟩
  have key : ∀ (e' : Ex) (u : Value), RepE (fun b => base ≤ b ∧ v.ownBlock ≠ some b) w e' u → RepE (fun b => base ≤ b ∧ (Value.slice (some ⟨g, 0, none⟩) (l.length + 1) cap).ownBlock ≠ some b) w' e' u := by
    intro e' u hu
    refine (hu.mono' (S' := fun b => (base ≤ b ∧ v.ownBlock ≠ some b) ∧ g ≠ b) ?_ |>.keep hg.size ?_).mono ?_
    · rintro b ⟨h1, h2⟩ hlt
      refine ⟨⟨h1, h2⟩, ?_⟩
      rcases hat with hat | hat
      · intro e; exact h2 (by rw [hat, e])
      · omega
    · rintro b o ⟨⟨_, h2⟩, _⟩ hlt
      exact World.cell?_of_block (hg.block b hlt (Ne.symm h2))
    · rintro b ⟨⟨h1, _⟩, h3⟩
      exact ⟨h1, by simpa [Value.ownBlock] using h3⟩
  intro x hx
  rw [List.mem_append] at hx
  rcases hx with hx | hx
  · exact key _ _ (h.rep x hx)
  · obtain rfl : x = (e, ve) := by simpa using hx
    exact key _ _ (he.mono fun b hb => ⟨by omega, fun e => by have := hv b e; omega⟩)
theorem addr_add (g i : Nat) : (⟨g, 0, none⟩ : Addr).add i = ⟨g, i, none⟩ := by unfold Addr.add; split <;> simp_all
theorem RowE.repE {base : Nat} {w : World} {v : Value} {l : List (Ex × Value)} {e : Ex} (h : RowE base w v l) (hr : ExRng e) (he : e.args = l.map (·.1)) : RepE (fun b => base ≤ b) w e v := by
  have hlen : e.args.length = l.length := by rw [he, List.length_map]
  have hget : ∀ i, i < l.length → l[i]? = some (e.arg i, (l.getD i default).2) := by
    intro i hi
    have h1 : e.arg i = (l.getD i default).1 := by
      unfold Ex.arg
      rw [he, List.getD_eq_getElem?_getD, List.getElem?_map, List.getD_eq_getElem?_getD, List.getElem?_eq_getElem hi]; rfl
    rw [h1, List.getElem?_eq_getElem hi, List.getD_eq_getElem?_getD, List.getElem?_eq_getElem hi]; rfl
  have hrep : ∀ i, i < l.length → RepE (fun b => base ≤ b) w (e.arg i) (l.getD i default).2 := fun i hi =>
    (h.rep _ (List.mem_of_getElem? (hget i hi))).mono fun b hb => hb.1
  rcases h.own.2 with ⟨rfl, h0⟩ | ⟨g, cap, cur, rfl, hb, hg, _⟩
  · have := RepE.mk (S := fun b => base ≤ b) (w := w) e none 0 (fun i => (l.getD i default).2) hr (.inl (by omega)) (fun i hi => hrep i (by omega))
    rw [hlen, h0] at this; exact this
  · have hlt : g < w.heap.size := (Array.getElem?_eq_some_iff.1 hg).1
    have hcell : ∀ i, i < l.length → ∀ j u, j < 6 → (cells1 (e.arg i) (l.getD i default).2)[j]? = some u → w.cell? ⟨g, i * 6 + j, none⟩ = some u := by
      intro i hi j u hj hu
      have := World.ownsRow.cells (g := g) h.own rfl (i * 6 + j) u (by rw [cellsL_get l i j _ (hget i hi) hj]; exact hu)
      rw [addr_add] at this; exact this
    have := RepE.mk (S := fun b => base ≤ b) (w := w) e (some ⟨g, 0, none⟩) cap (fun i => (l.getD i default).2) hr (.inr ⟨g, 0, rfl, hb, hlt, fun i hi => by
      have hi' : i < l.length := by omega
      have e0 : ∀ j, 0 + i * 6 + j = i * 6 + j := fun j => by omega
      exact ⟨by rw [show 0 + i * 6 = i * 6 + 0 by omega]; exact hcell i hi' 0 _ (by omega) rfl, by rw [e0]; exact hcell i hi' 1 _ (by omega) rfl, by rw [e0]; exact hcell i hi' 2 _ (by omega) rfl,
        by rw [e0]; exact hcell i hi' 3 _ (by omega) rfl, by rw [e0]; exact hcell i hi' 4 _ (by omega) rfl, by rw [e0]; exact hcell i hi' 5 _ (by omega) rfl⟩⟩) (fun i hi => hrep i (by omega))
    rw [hlen] at this; exact this
end Go.Proofs.YtlheailebbngiaaGreatDoor
/- Stores into one block of cells; what is laid newly. -/
namespace Go.Proofs.YtlheailebbngiaaGreatDoor
open Go.RowKit
/-- Nothing below has changed but block g. -/
structure Next (g : Nat) (a b : World) : Prop where
  size : a.heap.size ≤ b.heap.size
  blk : ∀ k, k < a.heap.size → k ≠ g → b.heap[k]? = a.heap[k]?
section
variable {g : Nat} {a b c : World}
theorem Next.refl (g : Nat) (a : World) : Next g a a := ⟨Nat.le_refl _, fun _ _ _ => rfl⟩
theorem Next.alloc (h : Next g a b) (o : Obj) : Next g a (b.alloc o) := ⟨by have := h.size; simp; omega, fun k hk hg => (Below.heap_alloc b o k (Nat.lt_of_lt_of_le hk h.size)).trans (h.blk k hk hg)⟩
theorem Next.grow (h : Next g a b) (bs : Array Obj) (d : Nat) : Next g a (b.grow bs d) := ⟨by have := h.size; simp; omega, fun k hk hg => (World.heap_grow _ _ _ (Nat.lt_of_lt_of_le hk h.size)).trans (h.blk k hk hg)⟩
theorem Next.drewN (h : Next g a b) (n : Nat) : Next g a (b.drewN n) := ⟨h.size, h.blk⟩
theorem Next.drew (h : Next g a b) : Next g a b.drew := ⟨h.size, h.blk⟩
theorem Next.grown {row : Option Nat} (h : Next g a b) (hg : b.grownBy c row) (hr : ∀ k, row = some k → a.heap.size ≤ k) : Next g a c :=
  ⟨Nat.le_trans h.size hg.size, fun k hk hgk => (hg.block k (Nat.lt_of_lt_of_le hk h.size) fun e => by have := hr k e.symm; omega).trans (h.blk k hk hgk)⟩
theorem Next.store (h : Next g a b) (i : Nat) (v : Value) : Next g a (b.setCell ⟨g, i, none⟩ v) := ⟨by have := h.size; simp; omega, fun k hk hgk => (Below.heap_setCell _ _ _ _ hgk).trans (h.blk k hk hgk)⟩
end
def setAll (cs : Array Value) (o : Nat) : List Value → Array Value
  | [] => cs
  | v :: vs => setAll (cs.setIfInBounds o v) (o + 1) vs
theorem block_setCells {b : Nat} {t : TypeId} : ∀ (vs : List Value) (o : Nat) (w : World) (cs : Array Value), w.heap[b]? = some (.cells cs t (0, 0)) → (w.setCells b o vs).heap[b]? = some (.cells (setAll cs o vs) t (0, 0))
  | [], _, _, _, h => h
  | v :: vs, o, _, _, h => block_setCells vs (o + 1) _ _ (Joins.block_setCell h v)
theorem below_setCells {b B : Nat} {w0 : World} (hb : B ≤ b) : ∀ (vs : List Value) (o : Nat) (w : World), Below B w0 w → Below B w0 (w.setCells b o vs)
  | [], _, _, h => h
  | v :: vs, o, _, h => below_setCells hb vs (o + 1) _ (h.setCell hb v)
theorem next_setCells {b : Nat} {w0 : World} : ∀ (vs : List Value) (o : Nat) (w : World), Next b w0 w → Next b w0 (w.setCells b o vs)
  | [], _, _, h => h
  | v :: vs, o, _, h => next_setCells vs (o + 1) _ (h.store o v)
theorem heap_new (w : World) (o : Obj) (H : Nat) (hH : w.heap.size = H) : (w.alloc o).heap[H]? = some o := by subst hH; exact heap_alloc_new w o
theorem heap_alloc_if (w : World) (o : Obj) (k : Nat) : (w.alloc o).heap[k]? = if k = w.heap.size then some o else w.heap[k]? := by
  split
  · rename_i h; subst h; exact heap_alloc_new w o
  · rename_i h
    show (w.heap.push o)[k]? = _
    rw [Array.getElem?_push, if_neg h]
theorem news_cells (w : World) (cs : List Value) (t : TypeId) (H : Nat) (hH : w.heap.size = H) : ∀ (j : Nat) (v : Value), cs[j]? = some v → (w.alloc (.cells cs.toArray t)).cell? ((⟨H, 0, none⟩ : Addr).add j) = some v := by
  subst hH
  intro j v hj
  rw [addr_add, World.cell?_alloc_at _ _ _ _ rfl]; simpa using hj
end Go.Proofs.YtlheailebbngiaaGreatDoor
