/- Base: a world grown by further blocks; small laws for the walk. -/
import Derived.Test.YtldelkkeimlfcaaProg
import Derived.WalkKit
import Derived.WalkSpells
import Derived.WalkLawsBesides
import Derived.Handy
import Derived.BigQuiet
import Derived.Deep.RegionHeld3
import Derived.Deep.AppendLies
import Derived.Lib.Hide
set_option linter.all false
namespace Go
open Go.RowKit
variable {w : World} {bs : Array Obj} {d : Nat}

/-- The world with further blocks behind its own, and another count of draws. -/
def World.grow (w : World) (bs : Array Obj) (d : Nat) : World := { w with heap := w.heap ++ bs, drawn := d }

@[go_sem, simp] theorem World.size_grow (w : World) (bs : Array Obj) (d : Nat) : (w.grow bs d).heap.size = w.heap.size + bs.size := by simp [World.grow]
theorem World.heap_grow (w : World) (bs : Array Obj) (d : Nat) {n : Nat} (h : n < w.heap.size) : (w.grow bs d).heap[n]? = w.heap[n]? := by
  simp only [World.grow]; rw [Array.getElem?_append_left h]
@[go_sem] theorem World.cell?_grow (w : World) (bs : Array Obj) (d : Nat) {n i : Nat} (h : n < w.heap.size) : (w.grow bs d).cell? ⟨n, i, none⟩ = w.cell? ⟨n, i, none⟩ :=
  World.cell?_of_block (World.heap_grow w bs d h)
@[go_sem] theorem World.frozen?_grow (w : World) (bs : Array Obj) (d : Nat) {n i : Nat} (h : n < w.heap.size) : (w.grow bs d).frozen? ⟨n, i, none⟩ = w.frozen? ⟨n, i, none⟩ :=
  World.frozen?_of_block (World.heap_grow w bs d h)
@[go_sem] theorem World.setCell_grow (w : World) (bs : Array Obj) (d : Nat) {n i : Nat} (v : Value) (h : n < w.heap.size) :
    (w.grow bs d).setCell ⟨n, i, none⟩ v = (w.setCell ⟨n, i, none⟩ v).grow bs d := by
  simp only [World.setCell, World.grow]
  congr 1
  apply Array.ext
  · simp
  · intro k hk hk2
    simp only [Array.getElem_modify, Array.getElem_append, Array.size_modify]
    by_cases hn : n = k
    · subst hn; simp [h]
    · simp [hn]
@[go_sem, simp] theorem World.grow_drew (w : World) (bs : Array Obj) (d : Nat) : (w.grow bs d).drew = w.grow bs (d + 1) := rfl
@[go_sem, simp] theorem World.drew_grow (w : World) (bs : Array Obj) (d : Nat) : w.drew.grow bs d = w.grow bs d := rfl
@[go_sem, simp] theorem World.drewN_grow (w : World) (bs : Array Obj) (n d : Nat) : (w.drewN n).grow bs d = w.grow bs d := rfl
@[go_sem, simp] theorem World.grow_drewN (w : World) (bs : Array Obj) (n d : Nat) : (w.grow bs d).drewN n = w.grow bs (d + n) := rfl
@[go_sem, simp] theorem World.grow_grow (w : World) (bs bs' : Array Obj) (d d' : Nat) : (w.grow bs d).grow bs' d' = w.grow (bs ++ bs') d' := by
  simp [World.grow, Array.append_assoc]
@[go_sem] theorem lt_add_of_lt {a b c : Nat} (h : a < b) : (a < b + c) = True := by simp; omega

/-- Only new blocks: what a call that writes nothing old has done. -/
def World.Grows (w w' : World) : Prop := ∃ bs d, w' = w.grow bs d
theorem World.Grows.of_below {w' : World} (h : Below w.heap.size w w') : w.Grows w' := by
  refine ⟨w'.heap.extract w.heap.size w'.heap.size, w'.drawn, ?_⟩
  obtain ⟨h1, h2, h3, h4, h5⟩ := h
  have hh : w'.heap = w.heap ++ w'.heap.extract w.heap.size w'.heap.size := by
    apply Array.ext_getElem?
    intro k
    by_cases hk : k < w.heap.size
    · rw [Array.getElem?_append_left hk]; exact h5 k hk
    · rw [Array.getElem?_append_right (by omega), Array.getElem?_extract]
      split
      · congr 1; omega
      · rw [Array.getElem?_eq_none]; omega
  cases w; cases w'
  simp only [World.grow] at *
  subst h1; subst h2; subst h3
  congr 1
theorem RowKit.Below.grow {B : Nat} {a : World} (h : Below B a w) (hB : B ≤ w.heap.size) (bs : Array Obj) (d : Nat) : Below B a (w.grow bs d) :=
  h.trans ⟨rfl, rfl, rfl, by simp, fun k hk => World.heap_grow _ _ _ (by omega)⟩
theorem RowKit.Below.drewN {B : Nat} {a : World} (h : Below B a w) (n : Nat) : Below B a (w.drewN n) := ⟨h.os, h.tape, h.output, h.size, h.block⟩
theorem World.Grows.below {w' : World} (h : w.Grows w') : Below w.heap.size w w' := by
  obtain ⟨bs, d, rfl⟩ := h
  exact (Below.refl _ _).grow (Nat.le_refl _) _ _
theorem World.Grows.refl (w : World) : w.Grows w := .of_below (.refl _ _)
end Go
namespace Go
@[go_sem] theorem szlt2 (a b1 b2 : Nat) : (a < a + b1 + b2) = (0 < b1 ∨ 0 < b2) := by simp; omega
@[go_sem] theorem szold2 {n a b1 b2 : Nat} (h : n < a) : (n < a + b1 + b2) = True := by simp; omega
@[go_sem] theorem szlt3 (a b1 b2 b3 : Nat) : (a < a + b1 + b2 + b3) = (0 < b1 ∨ 0 < b2 ∨ 0 < b3) := by simp; omega
@[go_sem] theorem szold3 {n a b1 b2 b3 : Nat} (h : n < a) : (n < a + b1 + b2 + b3) = True := by simp; omega
@[go_sem] theorem szlt4 (a b1 b2 b3 b4 : Nat) : (a < a + b1 + b2 + b3 + b4) = (0 < b1 ∨ 0 < b2 ∨ 0 < b3 ∨ 0 < b4) := by simp; omega
@[go_sem] theorem szold4 {n a b1 b2 b3 b4 : Nat} (h : n < a) : (n < a + b1 + b2 + b3 + b4) = True := by simp; omega
@[go_sem] theorem szlt5 (a b1 b2 b3 b4 b5 : Nat) : (a < a + b1 + b2 + b3 + b4 + b5) = (0 < b1 ∨ 0 < b2 ∨ 0 < b3 ∨ 0 < b4 ∨ 0 < b5) := by simp; omega
@[go_sem] theorem szold5 {n a b1 b2 b3 b4 b5 : Nat} (h : n < a) : (n < a + b1 + b2 + b3 + b4 + b5) = True := by simp; omega
@[go_sem] theorem szlt6 (a b1 b2 b3 b4 b5 b6 : Nat) : (a < a + b1 + b2 + b3 + b4 + b5 + b6) = (0 < b1 ∨ 0 < b2 ∨ 0 < b3 ∨ 0 < b4 ∨ 0 < b5 ∨ 0 < b6) := by simp; omega
@[go_sem] theorem szold6 {n a b1 b2 b3 b4 b5 b6 : Nat} (h : n < a) : (n < a + b1 + b2 + b3 + b4 + b5 + b6) = True := by simp; omega
@[go_sem] theorem szlt7 (a b1 b2 b3 b4 b5 b6 b7 : Nat) : (a < a + b1 + b2 + b3 + b4 + b5 + b6 + b7) = (0 < b1 ∨ 0 < b2 ∨ 0 < b3 ∨ 0 < b4 ∨ 0 < b5 ∨ 0 < b6 ∨ 0 < b7) := by simp; omega
@[go_sem] theorem szold7 {n a b1 b2 b3 b4 b5 b6 b7 : Nat} (h : n < a) : (n < a + b1 + b2 + b3 + b4 + b5 + b6 + b7) = True := by simp; omega
@[go_sem] theorem szlt8 (a b1 b2 b3 b4 b5 b6 b7 b8 : Nat) : (a < a + b1 + b2 + b3 + b4 + b5 + b6 + b7 + b8) = (0 < b1 ∨ 0 < b2 ∨ 0 < b3 ∨ 0 < b4 ∨ 0 < b5 ∨ 0 < b6 ∨ 0 < b7 ∨ 0 < b8) := by simp; omega
@[go_sem] theorem szold8 {n a b1 b2 b3 b4 b5 b6 b7 b8 : Nat} (h : n < a) : (n < a + b1 + b2 + b3 + b4 + b5 + b6 + b7 + b8) = True := by simp; omega
@[go_sem] theorem szlt9 (a b1 b2 b3 b4 b5 b6 b7 b8 b9 : Nat) : (a < a + b1 + b2 + b3 + b4 + b5 + b6 + b7 + b8 + b9) = (0 < b1 ∨ 0 < b2 ∨ 0 < b3 ∨ 0 < b4 ∨ 0 < b5 ∨ 0 < b6 ∨ 0 < b7 ∨ 0 < b8 ∨ 0 < b9) := by simp; omega
@[go_sem] theorem szold9 {n a b1 b2 b3 b4 b5 b6 b7 b8 b9 : Nat} (h : n < a) : (n < a + b1 + b2 + b3 + b4 + b5 + b6 + b7 + b8 + b9) = True := by simp; omega
@[go_sem] theorem szlt10 (a b1 b2 b3 b4 b5 b6 b7 b8 b9 b10 : Nat) : (a < a + b1 + b2 + b3 + b4 + b5 + b6 + b7 + b8 + b9 + b10) = (0 < b1 ∨ 0 < b2 ∨ 0 < b3 ∨ 0 < b4 ∨ 0 < b5 ∨ 0 < b6 ∨ 0 < b7 ∨ 0 < b8 ∨ 0 < b9 ∨ 0 < b10) := by simp; omega
@[go_sem] theorem szold10 {n a b1 b2 b3 b4 b5 b6 b7 b8 b9 b10 : Nat} (h : n < a) : (n < a + b1 + b2 + b3 + b4 + b5 + b6 + b7 + b8 + b9 + b10) = True := by simp; omega
@[go_sem] theorem szlt11 (a b1 b2 b3 b4 b5 b6 b7 b8 b9 b10 b11 : Nat) : (a < a + b1 + b2 + b3 + b4 + b5 + b6 + b7 + b8 + b9 + b10 + b11) = (0 < b1 ∨ 0 < b2 ∨ 0 < b3 ∨ 0 < b4 ∨ 0 < b5 ∨ 0 < b6 ∨ 0 < b7 ∨ 0 < b8 ∨ 0 < b9 ∨ 0 < b10 ∨ 0 < b11) := by simp; omega
@[go_sem] theorem szold11 {n a b1 b2 b3 b4 b5 b6 b7 b8 b9 b10 b11 : Nat} (h : n < a) : (n < a + b1 + b2 + b3 + b4 + b5 + b6 + b7 + b8 + b9 + b10 + b11) = True := by simp; omega
@[go_sem] theorem szlt12 (a b1 b2 b3 b4 b5 b6 b7 b8 b9 b10 b11 b12 : Nat) : (a < a + b1 + b2 + b3 + b4 + b5 + b6 + b7 + b8 + b9 + b10 + b11 + b12) = (0 < b1 ∨ 0 < b2 ∨ 0 < b3 ∨ 0 < b4 ∨ 0 < b5 ∨ 0 < b6 ∨ 0 < b7 ∨ 0 < b8 ∨ 0 < b9 ∨ 0 < b10 ∨ 0 < b11 ∨ 0 < b12) := by simp; omega
@[go_sem] theorem szold12 {n a b1 b2 b3 b4 b5 b6 b7 b8 b9 b10 b11 b12 : Nat} (h : n < a) : (n < a + b1 + b2 + b3 + b4 + b5 + b6 + b7 + b8 + b9 + b10 + b11 + b12) = True := by simp; omega
@[go_sem] theorem szlt13 (a b1 b2 b3 b4 b5 b6 b7 b8 b9 b10 b11 b12 b13 : Nat) : (a < a + b1 + b2 + b3 + b4 + b5 + b6 + b7 + b8 + b9 + b10 + b11 + b12 + b13) = (0 < b1 ∨ 0 < b2 ∨ 0 < b3 ∨ 0 < b4 ∨ 0 < b5 ∨ 0 < b6 ∨ 0 < b7 ∨ 0 < b8 ∨ 0 < b9 ∨ 0 < b10 ∨ 0 < b11 ∨ 0 < b12 ∨ 0 < b13) := by simp; omega
@[go_sem] theorem szold13 {n a b1 b2 b3 b4 b5 b6 b7 b8 b9 b10 b11 b12 b13 : Nat} (h : n < a) : (n < a + b1 + b2 + b3 + b4 + b5 + b6 + b7 + b8 + b9 + b10 + b11 + b12 + b13) = True := by simp; omega
@[go_sem] theorem szlt14 (a b1 b2 b3 b4 b5 b6 b7 b8 b9 b10 b11 b12 b13 b14 : Nat) : (a < a + b1 + b2 + b3 + b4 + b5 + b6 + b7 + b8 + b9 + b10 + b11 + b12 + b13 + b14) = (0 < b1 ∨ 0 < b2 ∨ 0 < b3 ∨ 0 < b4 ∨ 0 < b5 ∨ 0 < b6 ∨ 0 < b7 ∨ 0 < b8 ∨ 0 < b9 ∨ 0 < b10 ∨ 0 < b11 ∨ 0 < b12 ∨ 0 < b13 ∨ 0 < b14) := by simp; omega
@[go_sem] theorem szold14 {n a b1 b2 b3 b4 b5 b6 b7 b8 b9 b10 b11 b12 b13 b14 : Nat} (h : n < a) : (n < a + b1 + b2 + b3 + b4 + b5 + b6 + b7 + b8 + b9 + b10 + b11 + b12 + b13 + b14) = True := by simp; omega
@[go_sem] theorem szlt15 (a b1 b2 b3 b4 b5 b6 b7 b8 b9 b10 b11 b12 b13 b14 b15 : Nat) : (a < a + b1 + b2 + b3 + b4 + b5 + b6 + b7 + b8 + b9 + b10 + b11 + b12 + b13 + b14 + b15) = (0 < b1 ∨ 0 < b2 ∨ 0 < b3 ∨ 0 < b4 ∨ 0 < b5 ∨ 0 < b6 ∨ 0 < b7 ∨ 0 < b8 ∨ 0 < b9 ∨ 0 < b10 ∨ 0 < b11 ∨ 0 < b12 ∨ 0 < b13 ∨ 0 < b14 ∨ 0 < b15) := by simp; omega
@[go_sem] theorem szold15 {n a b1 b2 b3 b4 b5 b6 b7 b8 b9 b10 b11 b12 b13 b14 b15 : Nat} (h : n < a) : (n < a + b1 + b2 + b3 + b4 + b5 + b6 + b7 + b8 + b9 + b10 + b11 + b12 + b13 + b14 + b15) = True := by simp; omega
@[go_sem] theorem szlt16 (a b1 b2 b3 b4 b5 b6 b7 b8 b9 b10 b11 b12 b13 b14 b15 b16 : Nat) : (a < a + b1 + b2 + b3 + b4 + b5 + b6 + b7 + b8 + b9 + b10 + b11 + b12 + b13 + b14 + b15 + b16) = (0 < b1 ∨ 0 < b2 ∨ 0 < b3 ∨ 0 < b4 ∨ 0 < b5 ∨ 0 < b6 ∨ 0 < b7 ∨ 0 < b8 ∨ 0 < b9 ∨ 0 < b10 ∨ 0 < b11 ∨ 0 < b12 ∨ 0 < b13 ∨ 0 < b14 ∨ 0 < b15 ∨ 0 < b16) := by simp; omega
@[go_sem] theorem szold16 {n a b1 b2 b3 b4 b5 b6 b7 b8 b9 b10 b11 b12 b13 b14 b15 b16 : Nat} (h : n < a) : (n < a + b1 + b2 + b3 + b4 + b5 + b6 + b7 + b8 + b9 + b10 + b11 + b12 + b13 + b14 + b15 + b16) = True := by simp; omega
end Go
namespace Go
structure Growth where
  bs : Array Obj
  d : Nat
instance : Inhabited Growth := ⟨⟨#[], 0⟩⟩
/-- A region that draws its order, whose operations and callees only read or make new blocks, each with one value: walked once, in the order of the text. -/
theorem wp_region_quietG {P : Program} {id : Nat} {Q : Exit → Act → World → Prop} {a : Act} {w : World} {l : List Oper} (hm : P.follows .mixedOrders = true) (hB : Region.lexB .any l.toArray = true)
    (h : wpQuiet P l.toArray (fun w' => ∃ g : Growth, w' = w.grow g.bs g.d) (fun a' => ∀ w', (∃ g : Growth, w' = w.grow g.bs g.d) → Q .normal a' w') l a) : (Code.region id l.toArray true).wp P Q a w :=
  wp_region_quiet (C := fun w' => ∃ g : Growth, w' = w.grow g.bs g.d) hm hB ⟨⟨#[], w.drawn + 1⟩, by simp [World.grow]⟩ (by simpa using h)
theorem Calls.quietG {P : Program} {f : FuncId} {args : Array Value} {w : World} {bs : Array Obj} {d : Nat} {v : Value}
    (h : Calls P f args (w.grow bs d) fun e w' => e = .returned v ∧ (w.grow bs d).Grows w') : Calls P f args (w.grow bs d) fun e w'' => e = .returned v ∧ ∃ g : Growth, w'' = w.grow g.bs g.d :=
  h.mono fun _ _ ⟨he, bs', d', hw⟩ => ⟨he, ⟨bs ++ bs', d'⟩, by rw [hw, World.grow_grow]⟩
theorem Calls.quietS {P : Program} {f : FuncId} {args : Array Value} {w : World} {bs : Array Obj} {d : Nat} {v : Value}
    (h : Calls P f args (w.grow bs d) fun e w' => e = .returned v ∧ (w.grow bs d) = w') : Calls P f args (w.grow bs d) fun e w'' => e = .returned v ∧ ∃ g : Growth, w'' = w.grow g.bs g.d :=
  h.mono fun _ _ ⟨he, hw⟩ => ⟨he, ⟨bs, d⟩, hw.symm⟩
theorem ret_int {k : IntKind} {a b : Int} (h : a = b) : Ending.returned (.int k a) = .returned (.int k b) := by rw [h]
theorem ret_bool {a b : Bool} (h : a = b) : Ending.returned (.bool a) = .returned (.bool b) := by rw [h]
end Go

namespace Go.Proofs.Ytldelkkeimlfcaa
open Go.RowKit

/-- Pick, as a plain function. -/
def pick (n k : Int) : Int := if k < 1 then 0 else n % k

theorem tmod_bd (n k : Int) (hk : 1 ≤ k) : -k < n.tmod k ∧ n.tmod k < k := by
  have h1 := Int.tmod_lt_of_pos n (show 0 < k by omega)
  have h2 := Int.tmod_lt_of_pos (-n) (show 0 < k by omega)
  rw [Int.neg_tmod] at h2
  omega

theorem pick_bd (n k : Int) (hk : 1 ≤ k) : 0 ≤ pick n k ∧ pick n k < k := by
  unfold pick
  rw [if_neg (by omega)]
  exact ⟨Int.emod_nonneg _ (by omega), Int.emod_lt_of_pos _ (by omega)⟩

theorem tmod_emod (n k : Int) : n.tmod k % k = n % k := by
  have h := Int.mul_tdiv_add_tmod n k
  have h2 : n.tmod k = n + k * (-(n.tdiv k)) := by rw [Int.mul_neg]; omega
  rw [h2, Int.add_mul_emod_self_left]

set_option maxHeartbeats 400000 in
theorem Pick_any (n k : Int) (w : World) (h1 : k ≤ 4611686018427387904) :
    Calls Try.prog 10 #[.int .i64 n, .int .i64 k] w fun e w' => e = .returned (.int .i64 (pick n k)) ∧ w = w' := by
  by_cases hk : k < 1
  · go_enter Try.func10, Try.ntmps10
    go_wp2
    go_ret
    exact ⟨by simp [pick, hk], rfl⟩
  · have hm := tmod_bd n k (by omega)
    have hm1 := hm.1
    have hm2 := hm.2
    clear hm
    go_enter Try.func10, Try.ntmps10
    go_wp2
    go_ret
    exact ⟨by simp [pick, tmod_emod, show ¬ k < 1 by omega], rfl⟩

end Go.Proofs.Ytldelkkeimlfcaa
/- A quiet call in a world that has grown before. -/
namespace Go
theorem Calls.quietG' {P : Program} {f : FuncId} {args : Array Value} {w : World} {b0 bs : Array Obj} {d : Nat} {v : Value}
    (h : Calls P f args (w.grow (b0 ++ bs) d) fun e w' => e = .returned v ∧ (w.grow (b0 ++ bs) d).Grows w') : Calls P f args (w.grow (b0 ++ bs) d) fun e w'' => e = .returned v ∧ ∃ g : Growth, w'' = w.grow (b0 ++ g.bs) g.d :=
  h.mono fun _ _ ⟨he, bs', d', hw⟩ => ⟨he, ⟨bs ++ bs', d'⟩, by rw [hw, World.grow_grow, Array.append_assoc]⟩
end Go
