/- pensionmade.Spoil: what its walk needs. -/
import Derived.Test.YtaghhncnicbedaaGreatDoorSpP
import Derived.Test.YtaghhncnicbedaaGreatDoorFBase
import Derived.Test.YtaghhncnicbedaaGreatDoorFAw9R
set_option linter.all false
namespace Go.Proofs.YtaghhncnicbedaaGreatDoor
open Go.RowKit
/-- What Spoil answers: some code, in rows of its own. -/
def SpoilP (w : World) (n m : Nat) (e : Ending) (w' : World) : Prop :=
  ∃ a c sa sc base l sl, e = .returned (.agg #[.slice a l.length c, .slice sa sl.length sc]) ∧ w.Grows w' ∧ LRow base w' (.slice a l.length c) l ∧ w'.ownsRow base 9 1 (.slice sa sl.length sc) sl.length (slV sl) ∧ l.length ≤ n + 3 ∧ sl.length = m ∧ InsOk l ∧ ∀ s ∈ sl, s.size ≤ maxLen
theorem infoCdS : (Tryz.prog.info? 63).map (fun i => (i.zero, i.size, i.bytes)) = some (some (.agg #[.slice none 0 0, .slice none 0 0]), 2, 48) := by kernel_rfl
theorem infoStS : (Tryz.prog.info? 9).map (fun i => (i.zero, i.size, i.bytes)) = some (some (.string ⟨#[]⟩), 1, 16) := by kernel_rfl
/-- The names that a poke may lay. -/
def spN (k : Nat) : ByteArray := [(⟨#[120]⟩ : ByteArray), ⟨#[105, 102]⟩, ⟨#[81]⟩, ⟨#[]⟩].getD k ByteArray.empty
structure SpSt (w : World) (base g n m i : Nat) (vI vS : Value) (l : List Ins) (sl : List ByteArray) (W : World) : Prop where
  c : Spo w base g vI vS vI vS l sl W
  ok : InsOk l
  nl : l.length ≤ n + i
  ml : sl.length = m
  sz : ∀ s ∈ sl, s.size ≤ maxLen
theorem SpSt.grows {w W W' : World} {base g n m i : Nat} {vI vS : Value} {l : List Ins} {sl : List ByteArray} (h : SpSt w base g n m i vI vS l sl W) (hg : W.Grows W') : SpSt w base g n m i vI vS l sl W' := ⟨h.c.grows hg, h.ok, h.nl, h.ml, h.sz⟩
theorem SpSt.later {w W : World} {base g n m i j : Nat} {vI vS : Value} {l : List Ins} {sl : List ByteArray} (h : SpSt w base g n m i vI vS l sl W) (hij : i ≤ j) : SpSt w base g n m j vI vS l sl W := ⟨h.c, h.ok, by have := h.nl; omega, h.ml, h.sz⟩
theorem Spo.first {w W : World} {g n m : Nat} {cI cS vI vS : Value} {l : List Ins} {sl : List ByteArray} {ty : TypeId} {B1 B2 : Nat} (hg : w.Grows W) (h1 : w.heap.size ≤ B1) (h2 : w.heap.size ≤ B2) (hn : l.length = n) (hm : sl.length = m) (hr : W.ownsRow B1 77 4 vI n (insV l)) (hs : W.ownsRow B2 9 1 vS m (slV sl)) (hwg : w.heap.size ≤ g) (hb : W.heap[g]? = some (.cells #[cI, cS] ty (0, 0)))
    (d1 : ∀ b, vI.ownBlock = some b → vS.ownBlock ≠ some b) (d2 : vI.ownBlock ≠ some g) (d3 : vS.ownBlock ≠ some g) : Spo w w.heap.size g cI cS vI vS l sl W := by
  subst hn hm
  exact ⟨hg, hwg, Nat.le_refl _, (Array.getElem?_eq_some_iff.1 hb).1, hg.below.size, ⟨ty, hb⟩, own_down hr h1, own_down hs h2, d1, d2, d3⟩
theorem Spo.fin {w W : World} {o1 o2 : Obj} {base g : Nat} {cI cS vI vS : Value} {l : List Ins} {sl : List ByteArray} (h : Spo ((w.alloc o1).alloc o2) base g cI cS vI vS l sl W) (a b : Value) : ∀ W', W' = (W.setCell ⟨w.heap.size + 1, 0, none⟩ a).setCell ⟨w.heap.size + 1, 1, none⟩ b →
    w.Grows W' ∧ LRow base W' vI l ∧ W'.ownsRow base 9 1 vS sl.length (slV sl) := by
  rintro W' rfl
  have hwb : w.heap.size + 1 < base := by have := h.wb; simp at this; omega
  have h0 : w.Grows W := World.Grows.trans' growsR h.gr
  have g1 := grownSet W (w.heap.size + 1) 0 a
  have g2 := grownSet (W.setCell ⟨w.heap.size + 1, 0, none⟩ a) (w.heap.size + 1) 1 b
  have hk : ∀ (v : Value), (∀ k, v.ownBlock = some k → base ≤ k) → ∀ k, some (w.heap.size + 1) = some k → v.ownBlock ≠ some k := fun v hv k e e2 => by
    cases e; have := hv _ e2; omega
  refine ⟨.of_below ((h0.below.setCell (Nat.le_succ _) a).setCell (Nat.le_succ _) b), ?_, ?_⟩
  · exact keptNe (keptNe h.row g1 (hk _ fun k e => (h.row.lt k e).1)) g2 (hk _ fun k e => (h.row.lt k e).1)
  · exact keptNe (keptNe h.slr g1 (hk _ fun k e => (h.slr.lt k e).1)) g2 (hk _ fun k e => (h.slr.lt k e).1)
theorem addr9 (b o j : Nat) : (⟨b, o, none⟩ : Addr).add j = ⟨b, o + j, none⟩ := by unfold Addr.add; split <;> simp_all
theorem wp_split9 {P : Program} {c : Code} {Q : Exit → Act → World → Prop} {a : Act} {w : World} (R : (Exit → Act → World → Prop) → Prop) (h1 : R Q) (h2 : R Q → c.wp P Q a w) : c.wp P Q a w := h2 h1
def sq1 : Code → Code | .seq a _ => a | c => c
def sq2 : Code → Code | .seq _ b => b | c => c
def blk9 : Code → Code | .block _ b => b | c => c
def lop9 : Code → Code | .loop b => b | c => c
theorem hpx9 (k : Int) (h1 : 1 ≤ k) (h2 : k ≤ 10000) (z : Int) (W : World) : Calls Tryz.prog 13 #[.int .i64 z, .int .i64 k] W fun e w' => ∃ r : Int, e = .returned (.int .i64 r) ∧ (0 ≤ r ∧ r < k) ∧ W = w' := (Pick_any z k W (by omega)).mono fun e w' h => ⟨_, h.1, pick_bd z k h1, h.2⟩
end Go.Proofs.YtaghhncnicbedaaGreatDoor
