/- A region that draws its order: from an operation on, a world that is known closer. -/
import Derived.Test.YtlheailebbngiaaGreatDoorQBase
set_option linter.all false
namespace Go
section
variable {P : Program} {ops : Array Oper} {Q : Exit → Act → World → Prop} {S S' : World → Prop} {T : List Nat}
theorem wpTails_mono (hs : ∀ w, S' w → S w) : ∀ (f : Nat) (listed : Array Bool) (a : Act) (w : World), wpTails P ops Q S' T f listed a w → wpTails P ops Q S T f listed a w
  | 0, _, _, _, h => h
  | f + 1, _, _, _, h => ⟨h.1, fun i hi => wpOp_mono (fun _ _ h' => ⟨fun ht => hs _ (h'.1 ht), wpTails_mono hs f _ _ _ h'.2⟩) (h.2 i hi)⟩
theorem TS.narrow {f : Nat} {listed : Array Bool} {a : Act} {w : World} (hs : ∀ w, S' w → S w) (hS : S' w) (h : S' w → TS P ops Q S' T f listed a w) : TS P ops Q S T f listed a w := fun hB hcl => wpTails_mono hs _ _ _ _ (h hS hB hcl)
end
theorem World.Grows.trans' {a b c : World} (h : a.Grows b) (g : b.Grows c) : a.Grows c := by
  obtain ⟨bs, d, rfl⟩ := h
  obtain ⟨bs', d', rfl⟩ := g
  exact ⟨_, _, World.grow_grow _ _ _ _ _⟩
theorem RowKit.Below.peel {n : Nat} {A Y : World} {x cs : Array Obj} {d' : Nat} (h : RowKit.Below n A (Y.grow x 0)) (hn : n ≤ (Y.grow x 0).heap.size) : RowKit.Below n A (Y.grow (x ++ cs) d') := by
  have := h.grow hn cs d'
  rwa [World.grow_grow] at this
theorem RowKit.Below.fin {n : Nat} {Y : World} {x : Array Obj} {d d' : Nat} : RowKit.Below n (Y.grow x d) (Y.grow x d') := ⟨rfl, rfl, rfl, Nat.le_refl _, fun _ _ => rfl⟩
/-- What has grown by allocs and calls, the appends of the calls in any brackets. -/
theorem growsA {w w' : World} (h : RowKit.Below w.heap.size w w' := by (try simp only [← Array.append_assoc]); repeat' (first | (with_reducible exact Go.RowKit.Below.fin) | (with_reducible exact Go.RowKit.Below.refl _ _) | (with_reducible assumption) | (with_reducible refine Go.RowKit.Below.peel ?_ ?_) | (with_reducible refine Go.RowKit.Below.grow ?_ ?_ _ _) | (with_reducible refine Go.RowKit.Below.alloc ?_ ?_ _) | (with_reducible refine Go.RowKit.Below.drewN ?_ _) | (with_reducible refine Go.RowKit.Below.drew ?_) | (with_reducible refine Go.RowKit.Below.setCell ?_ ?_ _) | go_size)) : w.Grows w' := .of_below h
end Go
