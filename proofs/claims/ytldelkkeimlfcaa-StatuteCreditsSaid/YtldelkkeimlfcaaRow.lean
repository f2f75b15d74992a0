/- A slice of expressions that is built by appending. -/
import Derived.Test.YtldelkkeimlfcaaGen
set_option linter.all false
namespace Go.Proofs.Ytldelkkeimlfcaa
open Go.RowKit

def cells1 (e : Ex) (v : Value) : List Value := [.int .i64 e.op, .int .i64 e.num, .int .i64 e.den, .int .i64 e.dim, .string e.name, v]
def cellsL : List (Ex × Value) → List Value
  | [] => []
  | x :: r => cells1 x.1 x.2 ++ cellsL r
theorem cellsL_append (a b : List (Ex × Value)) : cellsL (a ++ b) = cellsL a ++ cellsL b := by
  induction a with
  | nil => rfl
  | cons x r ih => simp only [List.cons_append, cellsL, ih, List.append_assoc]
theorem cellsL_length (l : List (Ex × Value)) : (cellsL l).length = l.length * 6 := by
  induction l with
  | nil => rfl
  | cons x r ih => simp only [cellsL, List.length_append, ih, List.length_cons, cells1, List.length_nil]; omega
theorem cellsL_get (l : List (Ex × Value)) (i j : Nat) (x : Ex × Value) (h : l[i]? = some x) (hj : j < 6) : (cellsL l)[i * 6 + j]? = (cells1 x.1 x.2)[j]? := by
  induction l generalizing i with
  | nil => simp at h
  | cons y r ih =>
    simp only [cellsL]
    cases i with
    | zero =>
      simp only [List.getElem?_cons_zero, Option.some.injEq] at h
      subst h
      rw [List.getElem?_append_left (by simp [cells1]; omega)]
      congr 1; omega
    | succ i =>
      rw [List.getElem?_append_right (by simp [cells1]; omega), ← ih i (by simpa using h)]
      congr 1; simp [cells1]; omega

theorem RepE.mono' {S S' : Nat → Prop} {w : World} {e : Ex} {v : Value} (h : RepE S w e v) (hS : ∀ b, S b → b < w.heap.size → S' b) : RepE S' w e v := by
  induction h with
  | mk e a cap vs hr hc hs ih =>
    refine .mk e a cap vs hr (hc.imp id ?_) ih
    rintro ⟨b, off, ha, hb, hlt, hx⟩
    exact ⟨b, off, ha, hS b hb hlt, hlt, hx⟩
theorem RepE.nil {S : Nat → Prop} {w : World} {e : Ex} (hr : ExRng e) (h : e.args = []) : RepE S w e (.slice none 0 0) := by
  have := RepE.mk (S := S) (w := w) e none 0 (fun _ => .slice none 0 0) hr (.inl (by simp [h])) (fun i hi => by simp [h] at hi)
  simpa [h] using this

/-- v owns the expressions of l, the operands' slices beside them; all of it from block base on, the operands' memory apart from v's row. -/
structure RowE (base : Nat) (w : World) (v : Value) (l : List (Ex × Value)) : Prop where
  own : w.ownsRow base 72 6 v l.length (cellsL l)
  rep : ∀ x ∈ l, RepE (fun b => base ≤ b ∧ v.ownBlock ≠ some b) w x.1 x.2
theorem RowE.nil (base : Nat) (w : World) : RowE base w (.slice none 0 0) [] := ⟨World.ownsRow_nil _ _ _ _, fun _ h => by cases h⟩
theorem ownsRow_keep {w w' : World} {base : Nat} {e : TypeId} {size : Nat} {v : Value} {n : Nat} {xs : List Value} (h : w.ownsRow base e size v n xs) (hw : ∀ k, base ≤ k → k < w.heap.size → w'.heap[k]? = w.heap[k]?) : w'.ownsRow base e size v n xs := by
  obtain ⟨h1, h2⟩ := h
  refine ⟨h1, h2.imp id ?_⟩
  rintro ⟨g, cap, cur, hv, hb, hg, r⟩
  have hlt : g < w.heap.size := (Array.getElem?_eq_some_iff.1 hg).1
  exact ⟨g, cap, cur, hv, hb, by rw [hw g hb hlt]; exact hg, r⟩
theorem RowE.keep {base : Nat} {w w' : World} {v : Value} {l : List (Ex × Value)} (h : RowE base w v l) (hsz : w.heap.size ≤ w'.heap.size) (hw : ∀ k, base ≤ k → k < w.heap.size → w'.heap[k]? = w.heap[k]?) : RowE base w' v l :=
  ⟨ownsRow_keep h.own hw, fun x hx => (h.rep x hx).keep hsz fun b o hb hlt => World.cell?_of_block (hw b hb.1 hlt)⟩
theorem RowE.lt {base : Nat} {w : World} {v : Value} {l : List (Ex × Value)} (h : RowE base w v l) : ∀ k, v.ownBlock = some k → base ≤ k ∧ k < w.heap.size := h.own.lt
theorem RowE.push {base m : Nat} {w w' : World} {v : Value} {l : List (Ex × Value)} {e : Ex} {ve : Value} {g cap H n : Nat} {xs : List Value} (h : RowE base w v l) (he : RepE (fun b => m ≤ b) w e ve) (hm : base ≤ m) (hv : ∀ k, v.ownBlock = some k → k < m)
    (hn : n = l.length + 1) (hxs : xs = cellsL l ++ cells1 e ve)
    (ho : w'.ownsRow base 72 6 (.slice (some ⟨g, 0, none⟩) n cap) n xs) (hg : w.grownBy w' v.ownBlock) (hat : v.ownBlock = some g ∨ g = H) (hH : w.heap.size = H) :
    RowE base w' (.slice (some ⟨g, 0, none⟩) n cap) (l ++ [(e, ve)]) := by
  subst hH hn hxs
  refine ⟨by rw [List.length_append, cellsL_append]; simpa [cellsL] using ho, ?_⟩
  have key : ∀ (e' : Ex) (u : Value), RepE (fun b => base ≤ b ∧ v.ownBlock ≠ some b) w e' u → RepE (fun b => base ≤ b ∧ (Value.slice (some ⟨g, 0, none⟩) (l.length + 1) cap).ownBlock ≠ some b) w' e' u := by
    intro e' u hu
    refine (hu.mono' (S' := fun b => (base ≤ b ∧ v.ownBlock ≠ some b) ∧ g ≠ b) ?_ |>.keep hg.size ?_).mono ?_
    · rintro b ⟨h1, h2⟩ hlt
      refine ⟨⟨h1, h2⟩, ?_⟩
      rcases hat with hat | hat
      · intro e; exact h2 (by rw [hat, e])
      · omega
    · rintro b o ⟨⟨_, h2⟩, _⟩ hlt
      exact World.cell?_of_block (hg.block b hlt (Ne.symm h2))
    · rintro b ⟨⟨h1, _⟩, h3⟩
      exact ⟨h1, by simpa [Value.ownBlock] using h3⟩
  intro x hx
  rw [List.mem_append] at hx
  rcases hx with hx | hx
  · exact key _ _ (h.rep x hx)
  · obtain rfl : x = (e, ve) := by simpa using hx
    exact key _ _ (he.mono fun b hb => ⟨by omega, fun e => by have := hv b e; omega⟩)
theorem addr_add (g i : Nat) : (⟨g, 0, none⟩ : Addr).add i = ⟨g, i, none⟩ := by unfold Addr.add; split <;> simp_all
theorem RowE.repE {base : Nat} {w : World} {v : Value} {l : List (Ex × Value)} {e : Ex} (h : RowE base w v l) (hr : ExRng e) (he : e.args = l.map (·.1)) : RepE (fun b => base ≤ b) w e v := by
  have hlen : e.args.length = l.length := by rw [he, List.length_map]
  have hget : ∀ i, i < l.length → l[i]? = some (e.arg i, (l.getD i default).2) := by
    intro i hi
    have h1 : e.arg i = (l.getD i default).1 := by
      unfold Ex.arg
      rw [he, List.getD_eq_getElem?_getD, List.getElem?_map, List.getD_eq_getElem?_getD, List.getElem?_eq_getElem hi]; rfl
    rw [h1, List.getElem?_eq_getElem hi, List.getD_eq_getElem?_getD, List.getElem?_eq_getElem hi]; rfl
  have hrep : ∀ i, i < l.length → RepE (fun b => base ≤ b) w (e.arg i) (l.getD i default).2 := fun i hi =>
    (h.rep _ (List.mem_of_getElem? (hget i hi))).mono fun b hb => hb.1
  rcases h.own.2 with ⟨rfl, h0⟩ | ⟨g, cap, cur, rfl, hb, hg, _⟩
  · have := RepE.mk (S := fun b => base ≤ b) (w := w) e none 0 (fun i => (l.getD i default).2) hr (.inl (by omega)) (fun i hi => hrep i (by omega))
    rw [hlen, h0] at this; exact this
  · have hlt : g < w.heap.size := (Array.getElem?_eq_some_iff.1 hg).1
    have hcell : ∀ i, i < l.length → ∀ j u, j < 6 → (cells1 (e.arg i) (l.getD i default).2)[j]? = some u → w.cell? ⟨g, i * 6 + j, none⟩ = some u := by
      intro i hi j u hj hu
      have := World.ownsRow.cells (g := g) h.own rfl (i * 6 + j) u (by rw [cellsL_get l i j _ (hget i hi) hj]; exact hu)
      rw [addr_add] at this; exact this
    have := RepE.mk (S := fun b => base ≤ b) (w := w) e (some ⟨g, 0, none⟩) cap (fun i => (l.getD i default).2) hr (.inr ⟨g, 0, rfl, hb, hlt, fun i hi => by
      have hi' : i < l.length := by omega
      have e0 : ∀ j, 0 + i * 6 + j = i * 6 + j := fun j => by omega
      exact ⟨by rw [show 0 + i * 6 = i * 6 + 0 by omega]; exact hcell i hi' 0 _ (by omega) rfl, by rw [e0]; exact hcell i hi' 1 _ (by omega) rfl, by rw [e0]; exact hcell i hi' 2 _ (by omega) rfl,
        by rw [e0]; exact hcell i hi' 3 _ (by omega) rfl, by rw [e0]; exact hcell i hi' 4 _ (by omega) rfl, by rw [e0]; exact hcell i hi' 5 _ (by omega) rfl⟩⟩) (fun i hi => hrep i (by omega))
    rw [hlen] at this; exact this
end Go.Proofs.Ytldelkkeimlfcaa
