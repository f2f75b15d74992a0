/- machine.Run at the example of chapter 9. -/
import Derived.Test.YtaghhncnicbedaaGreatDoorBTakeC
import Derived.Test.YtaghhncnicbedaaGreatDoorBBase
import Derived.Test.YtaghhncnicbedaaGreatDoorMGrR
import Derived.Test.YtaghhncnicbedaaGreatDoorBTop
import Derived.Test.YtaghhncnicbedaaGreatDoorBGen
import Derived.Deep.AppendLies
import Derived.Laws.OwnMore
set_option linter.all false
namespace Go.Proofs.YtaghhncnicbedaaGreatDoor
open Go.RowKit
def AddC : Prop := ∀ w, Calls Tryz.prog 106 #[.agg #[.int .i64 2, .int .i64 1], .agg #[.int .i64 3, .int .i64 1]] w fun e w' => e = .returned (.tuple #[.agg #[.int .i64 5, .int .i64 1], .int .i64 0]) ∧ w.Grows w'
set_option maxRecDepth 1000000 in
set_option maxHeartbeats 4000000 in
theorem calc_add (hA : Hid AddC) (g cap : Nat) (w : World) (hg : g < w.heap.size) (c0 : w.cell? ⟨g, 0, none⟩ = some (.int .i64 2)) (c1 : w.cell? ⟨g, 1, none⟩ = some (.bool false)) (c2 : w.cell? ⟨g, 2, none⟩ = some (.int .i64 2)) (c3 : w.cell? ⟨g, 3, none⟩ = some (.int .i64 1))
    (c4 : w.cell? ⟨g, 4, none⟩ = some (.int .i64 2)) (c5 : w.cell? ⟨g, 5, none⟩ = some (.bool false)) (c6 : w.cell? ⟨g, 6, none⟩ = some (.int .i64 3)) (c7 : w.cell? ⟨g, 7, none⟩ = some (.int .i64 1)) :
    Calls Tryz.prog 54 #[.int .i64 7, .slice (some ⟨g, 0, none⟩) 2 cap] w fun e w' => e = .returned (.tuple #[.agg #[.int .i64 2, .bool false, .int .i64 5, .int .i64 1], .int .i64 0]) ∧ w.Grows w' := by
  go_enter Tryz.func54, Tryz.ntmps54
  go_wp2_with (go_at_call 106; refine (hA.out _).mono ?_; rintro e' w' ⟨rfl, bs, d, rfl⟩)
  go_returns
  exact ⟨rfl, growsR⟩
def byNm : ByteArray := ⟨#[98, 121]⟩
/-- The example's code in memory. -/
structure CodC (w : World) (bI bS : Nat) : Prop where
  hI : bI < w.heap.size
  hS : bS < w.heap.size
  ins : ∀ i u, [Value.int .i64 1, .int .i64 2, .int .i64 2, .int .i64 1, .int .i64 1, .int .i64 2, .int .i64 3, .int .i64 1, .int .i64 9, .int .i64 0, .int .i64 0, .int .i64 0, .int .i64 4, .int .i64 0, .int .i64 0, .int .i64 0][i]? = some u → w.cell? ⟨bI, i, none⟩ = some u
  slt : w.cell? ⟨bS, 0, none⟩ = some (.string byNm)
theorem CodC.grows {w w' : World} {bI bS : Nat} (h : CodC w bI bS) (hg : w.Grows w') : CodC w' bI bS :=
  ⟨Nat.lt_of_lt_of_le h.hI hg.below.size, Nat.lt_of_lt_of_le h.hS hg.below.size, fun i u hu => (World.cell?_of_block (a := ⟨bI, i, none⟩) (hg.below.block bI h.hI)).trans (h.ins i u hu), (World.cell?_of_block (a := ⟨bS, 0, none⟩) (hg.below.block bS h.hS)).trans h.slt⟩
def vw9 : Value := .agg #[.int .i64 0, .int .i64 2000, .int .i64 0, .int .i64 0, .int .i64 0, .int .i64 0, .int .i64 0, .int .i64 0, .int .i64 0, .int .i64 0, .int .i64 0, .int .i64 1, .slice none 0 0]
def RunC9 (w : World) (e : Ending) (w' : World) : Prop := ∃ sv, e = .returned (.tuple #[sv, .int .i64 0]) ∧ w.Grows w' ∧ w'.ownsRow w.heap.size 53 5 sv 1 [.string byNm, .int .i64 2, .bool false, .int .i64 5, .int .i64 1]
theorem infoVa : (Tryz.prog.info? 51).map (fun i => (i.zero, i.size, i.bytes)) = some (some (.agg #[.int .i64 0, .bool false, .int .i64 0, .int .i64 0]), 4, 32) := by kernel_rfl
theorem infoSp : (Tryz.prog.info? 53).map (fun i => (i.zero, i.size, i.bytes)) = some (some (.agg #[.string ⟨#[]⟩, .int .i64 0, .bool false, .int .i64 0, .int .i64 0]), 5, 48) := by kernel_rfl
theorem cutW {P : Program} {c : Code} {Q : Exit → Act → World → Prop} {a : Act} {w : World} (S : World → Prop) (h : S w) (k : ∀ W, S W → c.wp P Q a W) : c.wp P Q a w := k w h
def n9 (k : Nat) : Nat := [0, 1, 2, 1].getD k 0
def x9 (k : Nat) : List Value := [[], [.int .i64 2, .bool false, .int .i64 2, .int .i64 1], [.int .i64 2, .bool false, .int .i64 2, .int .i64 1, .int .i64 2, .bool false, .int .i64 3, .int .i64 1], [.int .i64 2, .bool false, .int .i64 5, .int .i64 1]].getD k []
structure P9 (w Y : World) (B : Nat) (W : World) : Prop where
  gr : w.Grows W
  rel : Rel Y (some B) W
  blk : ∃ cs ty, W.heap[B]? = some (.cells cs ty (0, 0)) ∧ cs.size = 48
structure L9 (w Y : World) (B k : Nat) (s8 s10 : Value) (W : World) : Prop where
  p : P9 w Y B W
  own : k < 4 → W.ownsRow Y.heap.size 51 4 s8 (n9 k) (x9 k)
  st : k < 4 → s10 = .slice none 0 0
  fin : k = 4 → W.ownsRow Y.heap.size 53 5 s10 1 [.string byNm, .int .i64 2, .bool false, .int .i64 5, .int .i64 1]
theorem P9.next {w Y W W2 w1 : World} {B : Nat} {row : Option Nat} (h : P9 w Y B W) (hB : B < Y.heap.size) (hY : w.heap.size ≤ Y.heap.size) (hrow : ∀ b, row = some b → Y.heap.size ≤ b) (hg : W.Grows W2) (hgr : W2.grownBy w1 row) : P9 w Y B w1 := by
  have h1 := h.gr.trans' hg
  have hs := Nat.le_trans h.rel.1 hg.below.size
  refine ⟨World.Grows.grown h1 hgr fun b e => Nat.le_trans hY (hrow b e), ⟨Nat.le_trans hs hgr.size, fun b hb hne => ?_⟩, ?_⟩
  · rw [hgr.block b (by omega) (fun e => by have := hrow b e.symm; omega)]
    exact (h.rel.grows hg).2 b hb hne
  · obtain ⟨cs, ty, hc, hz⟩ := h.blk
    exact ⟨cs, ty, (hgr.block B (by omega) (fun e => by have := hrow B e.symm; omega)).trans ((hg.below.block B (Nat.lt_of_lt_of_le hB h.rel.1)).trans hc), hz⟩
theorem P9.grows {w Y W W2 : World} {B : Nat} (h : P9 w Y B W) (hB : B < Y.heap.size) (hg : W.Grows W2) : P9 w Y B W2 := by
  obtain ⟨cs, ty, hc, hz⟩ := h.blk
  exact ⟨h.gr.trans' hg, h.rel.grows hg, cs, ty, (hg.below.block B (Nat.lt_of_lt_of_le hB h.rel.1)).trans hc, hz⟩
/-- A store into the slots. -/
theorem P9.store {w Y W : World} {B : Nat} (h : P9 w Y B W) (hB : w.heap.size ≤ B) (j : Nat) (v : Value) : P9 w Y B (W.setCell ⟨B, j, none⟩ v) := by
  obtain ⟨cs, ty, hc, hz⟩ := h.blk
  exact ⟨.of_below (h.gr.below.setCell hB v), ⟨by have := h.rel.1; simpa using this, fun b hb hne => (Below.heap_setCell _ _ _ _ fun e => hne (by simpa using e)).trans (h.rel.2 b hb hne)⟩, _, ty, Go.Joins.block_setCell hc v, by simpa using hz⟩
theorem P9.cell {w Y W : World} {B : Nat} (h : P9 w Y B W) (j : Nat) (hj : j < 48) : ∃ u, W.cell? ⟨B, j, none⟩ = some u := by
  obtain ⟨cs, ty, hc, hz⟩ := h.blk
  exact ⟨cs[j], by rw [cell_of_row W _ j _ _ _ hc]; simp [hz, hj]⟩
theorem P9.unfr {w Y W : World} {B : Nat} (h : P9 w Y B W) (j : Nat) : W.frozen? ⟨B, j, none⟩ = false := by
  obtain ⟨cs, ty, hc, hz⟩ := h.blk
  exact Go.Joins.unfrozen_of_block hc j
theorem own_zero {w : World} {b size n g cap : Nat} {e : TypeId} {xs : List Value} (h : w.ownsRow b e size (.slice (some ⟨g, 0, none⟩) n cap) n xs) : w.ownsRow b e size (.slice (some ⟨g, 0, none⟩) 0 cap) 0 [] := by
  rcases h.2 with ⟨h', _⟩ | ⟨g', cap', cur, h', hb, hg, hnc, hcm, hcs, htake⟩
  · simp at h'
  · simp only [Value.slice.injEq, Option.some.injEq, Addr.mk.injEq, and_true, true_and] at h'
    obtain ⟨rfl, rfl⟩ := h'
    exact ⟨by simp, .inr ⟨g, cap, cur, rfl, hb, hg, Nat.zero_le _, hcm, hcs, by simp⟩⟩
theorem own_grow9 {w : World} {base : Nat} {e : TypeId} {size : Nat} {v : Value} {n : Nat} {xs : List Value} (h : w.ownsRow base e size v n xs) {w' : World} (hg : w.Grows w') : w'.ownsRow base e size v n xs :=
  h.kept (row := none) ⟨hg.below.os, hg.below.tape, hg.below.output, hg.below.size, fun k hk _ => hg.below.block k hk⟩ (by cases h' : v.ownBlock <;> simp)
theorem own_base9 {w : World} {b b' size n : Nat} {e : TypeId} {v : Value} {xs : List Value} (hb : b' ≤ b) (h : w.ownsRow b e size v n xs) : w.ownsRow b' e size v n xs := by
  obtain ⟨h0, h1 | ⟨g, cap, cur, hv, hbg, hr⟩⟩ := h
  · exact ⟨h0, .inl h1⟩
  · exact ⟨h0, .inr ⟨g, cap, cur, hv, Nat.le_trans hb hbg, hr⟩⟩
set_option maxRecDepth 1000000 in
set_option maxHeartbeats 16000000 in
theorem run9 (hA : Hid AddC) (bI bS : Nat) (w : World) (hc : CodC w bI bS) (HVE : Hid (∀ W, w.Grows W → Calls Tryz.prog 21 #[.agg #[.slice (some ⟨bI, 0, none⟩) 4 4, .slice (some ⟨bS, 0, none⟩) 1 1]] W fun e W' => e = .returned (.tuple #[.int .i64 2, .int .i64 0]) ∧ W.Grows W'))
    (HVW : Hid (∀ W, Calls Tryz.prog 48 #[vw9] W fun e W' => e = .returned (.bool true) ∧ W.Grows W')) (HOP : Hid (∀ W, Calls Tryz.prog 52 #[.int .i64 9] W fun e W' => e = .returned (.int .i64 7) ∧ W = W')) (HAR : Hid (∀ W, Calls Tryz.prog 53 #[.int .i64 7] W fun e W' => e = .returned (.int .i64 2) ∧ W = W')) :
    Calls Tryz.prog 24 #[.agg #[.slice (some ⟨bI, 0, none⟩) 4 4, .slice (some ⟨bS, 0, none⟩) 1 1], vw9] w (RunC9 w) := by
  obtain ⟨i1, hi1, hz11, hz21, hz31⟩ := info_parts infoVa
  obtain ⟨i2, hi2, hz12, hz22, hz32⟩ := info_parts infoSp
  have HC := Lib.hid hc
  unfold vw9 at HVW ⊢
  clear hc
  go_enter Tryz.func24, Tryz.ntmps24
  go_upto_block 0 with (first
    | (go_at_call 21; refine (HVE.out _ growsR).mono ?_; rintro e' w' ⟨rfl, bs, d, rfl⟩)
    | (go_at_call 48; refine (HVW.out _).mono ?_; rintro e' w' ⟨rfl, bs2, d2, rfl⟩))
  refine cutW (fun W => World.Grows (w.alloc (.cells #[.slice (some ⟨bI, 0, none⟩) 4 4, .slice (some ⟨bS, 0, none⟩) 1 1] 63)) W ∧ W.heap.size = w.heap.size + 1 + 1 + (bs.size + bs2.size) + 1 ∧ ∃ cs ty, W.heap[w.heap.size + 1 + 1 + (bs.size + bs2.size)]? = some (.cells cs ty (0, 0)) ∧ cs.size = 48) ⟨growsR, by simp, _, _, heap_new _ _ _ (by simp), rfl⟩ ?_
  intro Y hY
  obtain ⟨hgY, hsY, hbY⟩ := hY
  have hBw : w.heap.size + 1 ≤ w.heap.size + 1 + 1 + (bs.size + bs2.size) := by omega
  generalize w.heap.size + 1 + 1 + (bs.size + bs2.size) = B at *
  have hwY : w.Grows Y := World.Grows.trans' growsR hgY
  have hcY := (hgY.below.block w.heap.size (by simp)).trans (heap_alloc_new _ _)
  clear hgY
  have HcY := Lib.hid hcY
  have HwY := Lib.hid hwY
  have HsY := Lib.hid hsY
  have HBw := Lib.hid hBw
  have hsz : w.heap.size ≤ Y.heap.size := by omega
  have hBY : B < Y.heap.size := by omega
  have HSZ := Lib.hid hsz
  have HBY := Lib.hid hBY
  have H0 : Hid (L9 w Y B 0 (.slice none 0 0) (.slice none 0 0) Y) := Lib.hid ⟨⟨hwY, Rel.refl _ _, hbY⟩, fun _ => World.ownsRow_nil _ _ _ _, fun _ => rfl, fun h => by omega⟩
  clear hcY hwY hsY hBw hsz hBY hbY
  go_wp2_with fail
  go_loopw [8, 10, 11] (fun v8 v10 v11 wr => ∃ k : Nat, k ≤ 4 ∧ v11 = .int .i64 k ∧ Hid (L9 w Y B k v8 v10 wr)) (fun _ _ v11 _ => 4 - (intOf v11).toNat)
  case atStart => exact ⟨0, by omega, rfl, H0⟩
  clear H0
  obtain ⟨k, hk, rfl, HL⟩ := hrel
  have hcb : wr.heap[w.heap.size]? = some (.cells #[.slice (some ⟨bI, 0, none⟩) 4 4, .slice (some ⟨bS, 0, none⟩) 1 1] 63 (0, 0)) := (HL.out.p.rel.2 _ (by have := HsY.out; have := HBw.out; omega) (by have := HBw.out; intro e; cases e; omega)).trans HcY.out
  have cb0 := cell_of_row wr _ 0 _ _ _ hcb
  have cb1 := cell_of_row wr _ 1 _ _ _ hcb
  have hwr : w.heap.size < wr.heap.size := by have := HL.out.p.rel.1; have := HsY.out; have := HBw.out; omega
  have HG := Lib.hid HL.out.p.gr
  have HI := Lib.hid (HC.out.grows HG.out).ins
  have hIw := (HC.out.grows HG.out).hI
  clear hcb
  obtain rfl | rfl | rfl | rfl | rfl : k = 0 ∨ k = 1 ∨ k = 2 ∨ k = 3 ∨ k = 4 := by omega
  · have e0 : (((0 : Nat) : Int)) = 0 := rfl
    simp only [e0]
    obtain rfl := HL.out.st (by omega)
    have HO := Lib.hid (HL.out.own (by omega))
    have j0 := HI.out (0 * 4) _ rfl
    have j1 := HI.out (0 * 4 + 1) _ rfl
    have j2 := HI.out (0 * 4 + 2) _ rfl
    have j3 := HI.out (0 * 4 + 3) _ rfl
    simp only [Nat.zero_mul, Nat.zero_add, Nat.reduceMul, Nat.reduceAdd] at j0 j1 j2 j3
    go_wp2_with (at_builtin; go_loud (refine wpList_append_lies _ rfl _ _ 126 rfl Y.heap.size 51 i1 _ 4 32 Tryz.underlying126 hi1 hz11 hz21 hz31 rfl (by decide) _ (n9 0) (x9 0) rfl ((HO.out.alloc _).alloc _) ⟨wr.heap.size + 1, 0, none⟩ 1 1 [.int .i64 2, .bool false, .int .i64 2, .int .i64 1] rfl rfl ?c1 ?c2 (by decide) ?c3 ?c4 ?c5 (wr.heap.size + 2) (by simp) ?_))
    case c1 => exact news_cells _ [.int .i64 2, .bool false, .int .i64 2, .int .i64 1] _ _ (by simp)
    case c2 => intro u hu; simp at hu; rcases hu with rfl | rfl | rfl | rfl <;> rfl
    case c3 => simp [n9, maxLen]
    case c4 => simp [n9]
    case c5 => have := HL.out.p.rel.1; simp; omega
    intro g cap w1 hown hgrow hgg hgl
    have HN := Lib.hid (HL.out.p.next HBY.out HSZ.out (fun b e => (HO.out.lt b e).1) growsR hgrow)
    have HO1 := Lib.hid hown
    clear hown hgrow hgg hgl
    go_wp2_with fail
    go_roundw
    case rel => exact ⟨0 + 1, by omega, rfl, Lib.hid ⟨HN.out, fun _ => HO1.out, fun _ => rfl, fun h => by omega⟩⟩
    case measure => simp [intOf]
  · have e0 : (((1 : Nat) : Int)) = 1 := rfl
    simp only [e0]
    obtain rfl := HL.out.st (by omega)
    have HO := Lib.hid (HL.out.own (by omega))
    have j0 := HI.out (1 * 4) _ rfl
    have j1 := HI.out (1 * 4 + 1) _ rfl
    have j2 := HI.out (1 * 4 + 2) _ rfl
    have j3 := HI.out (1 * 4 + 3) _ rfl
    simp only [Nat.zero_mul, Nat.zero_add, Nat.reduceMul, Nat.reduceAdd] at j0 j1 j2 j3
    go_wp2_with (at_builtin; go_loud (refine wpList_append_lies _ rfl _ _ 126 rfl Y.heap.size 51 i1 _ 4 32 Tryz.underlying126 hi1 hz11 hz21 hz31 rfl (by decide) _ (n9 1) (x9 1) rfl ((HO.out.alloc _).alloc _) ⟨wr.heap.size + 1, 0, none⟩ 1 1 [.int .i64 2, .bool false, .int .i64 3, .int .i64 1] rfl rfl ?c1 ?c2 (by decide) ?c3 ?c4 ?c5 (wr.heap.size + 2) (by simp) ?_))
    case c1 => exact news_cells _ [.int .i64 2, .bool false, .int .i64 3, .int .i64 1] _ _ (by simp)
    case c2 => intro u hu; simp at hu; rcases hu with rfl | rfl | rfl | rfl <;> rfl
    case c3 => simp [n9, maxLen]
    case c4 => simp [n9]
    case c5 => have := HL.out.p.rel.1; simp; omega
    intro g cap w1 hown hgrow hgg hgl
    have HN := Lib.hid (HL.out.p.next HBY.out HSZ.out (fun b e => (HO.out.lt b e).1) growsR hgrow)
    have HO1 := Lib.hid hown
    clear hown hgrow hgg hgl
    go_wp2_with fail
    go_roundw
    case rel => exact ⟨1 + 1, by omega, rfl, Lib.hid ⟨HN.out, fun _ => HO1.out, fun _ => rfl, fun h => by omega⟩⟩
    case measure => simp [intOf]
  · have e0 : (((2 : Nat) : Int)) = 2 := rfl
    simp only [e0]
    obtain rfl := HL.out.st (by omega)
    have HO := Lib.hid (HL.out.own (by omega))
    obtain ⟨g, cap, rfl, hgY, hgW⟩ := HO.out.form (by decide)
    have hx := fun j hj => HO.out.cellAt j hj
    have x0 := hx 0 (by decide)
    have x1 := hx 1 (by decide)
    have x2 := hx 2 (by decide)
    have x3 := hx 3 (by decide)
    have x4 := hx 4 (by decide)
    have x5 := hx 5 (by decide)
    have x6 := hx 6 (by decide)
    have x7 := hx 7 (by decide)
    have HCA : Hid (∀ W, wr.Grows W → Calls Tryz.prog 54 #[.int .i64 7, .slice (some ⟨g, 0, none⟩) 2 cap] W fun e w' => e = .returned (.tuple #[.agg #[.int .i64 2, .bool false, .int .i64 5, .int .i64 1], .int .i64 0]) ∧ W.Grows w') := Lib.hid (fun W hg => by
      have q := fun j => World.cell?_of_block (a := ⟨g, j, none⟩) (hg.below.block g hgW)
      exact calc_add hA g cap W (Nat.lt_of_lt_of_le hgW hg.below.size) ((q 0).trans x0) ((q 1).trans x1) ((q 2).trans x2) ((q 3).trans x3) ((q 4).trans x4) ((q 5).trans x5) ((q 6).trans x6) ((q 7).trans x7))
    have HGY := Lib.hid hgY
    clear hx x0 x1 x2 x3 x4 x5 x6 x7 hgY
    simp only [show n9 2 = 2 from rfl] at *
    have j0 := HI.out (2 * 4) _ rfl
    have j1 := HI.out (2 * 4 + 1) _ rfl
    have j2 := HI.out (2 * 4 + 2) _ rfl
    have j3 := HI.out (2 * 4 + 3) _ rfl
    simp only [Nat.zero_mul, Nat.zero_add, Nat.reduceMul, Nat.reduceAdd] at j0 j1 j2 j3
    go_wp2_with (first
      | (go_at_call 52; refine (HOP.out _).mono ?_; rintro e' w' ⟨rfl, rfl⟩)
      | (go_at_call 53; refine (HAR.out _).mono ?_; rintro e' w' ⟨rfl, rfl⟩)
      | (go_at_call 54; refine (HCA.out _ growsR).mono ?_; rintro e' w' ⟨rfl, bs, d, rfl⟩))
    refine cutW (fun W => wr.Grows W ∧ W.heap[wr.heap.size + 1 + bs.size]? = some (.cells #[.int .i64 2, .bool false, .int .i64 5, .int .i64 1] 51 (0, 0))) ⟨growsR, heap_new _ _ _ (by simp)⟩ ?_
    intro W2 hW2
    obtain ⟨hg2, hb2⟩ := hW2
    generalize wr.heap.size + 1 + bs.size = NB at *
    have hNB := (Array.getElem?_eq_some_iff.1 hb2).1
    have v0 := cell_of_row W2 _ 0 _ _ _ hb2
    have v1 := cell_of_row W2 _ 1 _ _ _ hb2
    have v2 := cell_of_row W2 _ 2 _ _ _ hb2
    have v3 := cell_of_row W2 _ 3 _ _ _ hb2
    have hsz2 : Y.heap.size ≤ W2.heap.size := Nat.le_trans HL.out.p.rel.1 hg2.below.size
    have HS2 := Lib.hid hsz2
    have HG2 := Lib.hid hg2
    clear hb2 hg2 hsz2 j0 j1 j2 j3 cb0 cb1
    refine TS.begin [5, 6] (World.Grows W2) (by kernel_rfl) (by kernel_rfl) grows_drew0 (fun hS => ?_)
    refine TS.takeV (i := 0) (v := ?_) rfl (by kernel_rfl) (by kernel_rfl) (by kernel_rfl) (by decide) (fun _ _ _ h => h) rfl hS ?_ ?_
    rotate_left
    focus
      rintro wS ⟨gbS, gdS, rfl⟩
      go_simp
      rfl
    (try simp only [nS])
    refine TS.takeV (i := 1) (v := ?_) rfl (by kernel_rfl) (by kernel_rfl) (by kernel_rfl) (by decide) (fun _ _ _ h => h) rfl hS ?_ ?_
    rotate_left
    focus
      rintro wS ⟨gbS, gdS, rfl⟩
      go_simp
      rfl
    (try simp only [nS])
    refine TS.takeV (i := 2) (v := ?_) rfl (by kernel_rfl) (by kernel_rfl) (by kernel_rfl) (by decide) (fun _ _ _ h => h) rfl hS ?_ ?_
    rotate_left
    focus
      rintro wS ⟨gbS, gdS, rfl⟩
      go_simp
      rfl
    (try simp only [nS])
    refine TS.takeV (i := 3) (v := ?_) rfl (by kernel_rfl) (by kernel_rfl) (by kernel_rfl) (by decide) (fun _ _ _ h => h) rfl hS ?_ ?_
    rotate_left
    focus
      rintro wS ⟨gbS, gdS, rfl⟩
      go_simp
      rfl
    (try simp only [nS])
    refine TS.one (i := 4) (by kernel_rfl) rfl (fun K1 hK1 => ?_)
    have HK1 := Lib.hid hK1
    clear hK1 hS
    dsimp only [List.getElem_toArray, List.getElem_cons_succ, List.getElem_cons_zero]
    go_simp
    refine TS.go HK1.out growsR (fun hS => ?_)
    clear HK1 K1
    (try simp only [nS])
    refine TS.one (i := 5) (by kernel_rfl) rfl (fun K1 hK1 => ?_)
    refine step_append_lies _ rfl _ _ 126 rfl Y.heap.size 51 i1 _ 4 32 Tryz.underlying126 hi1 hz11 hz21 hz31 rfl (by decide) (.slice (some ⟨g, 0, none⟩) 0 cap) 0 [] rfl (own_grow9 (own_grow9 (own_zero HO.out) HG2.out) growsR) ⟨_, 0, none⟩ 1 1 [.int .i64 2, .bool false, .int .i64 5, .int .i64 1] rfl rfl (news_cells _ [.int .i64 2, .bool false, .int .i64 5, .int .i64 1] _ _ (by simp)) (by intro u hu; simp at hu; rcases hu with rfl | rfl | rfl | rfl <;> rfl) (by decide) (by unfold maxLen; omega) (by omega) (by have := HS2.out; simp; omega) _ rfl ?_
    intro g2 cap2 w1 hown hgrow hgg hgl
    have HN := Lib.hid (HL.out.p.next (row := some g) HBY.out HSZ.out (fun b e => by cases e; exact HGY.out) (HG2.out.trans' growsR) hgrow)
    have HO1 := Lib.hid hown
    refine hK1 _ _ (fun h => absurd (by decide) h) ?_
    clear hK1 K1 hown hgrow hgg hgl hS v0 v1 v2 v3 hNB HG2 HS2 HO
    (try simp only [nS])
    refine TS.weB 6 ?_
    go_wp2_with fail
    go_roundw
    case rel => exact ⟨2 + 1, by omega, rfl, Lib.hid ⟨HN.out, fun _ => HO1.out, fun _ => rfl, fun h => by omega⟩⟩
    case measure => simp [intOf]
  · have e0 : (((3 : Nat) : Int)) = 3 := rfl
    simp only [e0]
    obtain rfl := HL.out.st (by omega)
    have HO := Lib.hid (HL.out.own (by omega))
    obtain ⟨g, cap, rfl, hgY, hgW⟩ := HO.out.form (by decide)
    have HGY := Lib.hid hgY
    have HGW := Lib.hid hgW
    clear hgY hgW
    simp only [show n9 3 = 1 from rfl] at *
    have j0 := HI.out (3 * 4) _ rfl
    have j1 := HI.out (3 * 4 + 1) _ rfl
    have j2 := HI.out (3 * 4 + 2) _ rfl
    have j3 := HI.out (3 * 4 + 3) _ rfl
    simp only [Nat.zero_mul, Nat.zero_add, Nat.reduceMul, Nat.reduceAdd] at j0 j1 j2 j3
    go_wp2_with fail
    refine cutW (fun W => wr.Grows W ∧ W.heap[wr.heap.size]? = some (.cells #[.int .i64 4, .int .i64 0, .int .i64 0, .int .i64 0] 77 (0, 0))) ⟨growsR, heap_new _ _ _ rfl⟩ ?_
    intro W2 hW2
    obtain ⟨hg2, hb2⟩ := hW2
    have HX := Lib.hid hb2
    have HNR : Hid (wr.heap.size = wr.heap.size) := Lib.hid rfl
    generalize hNXe : wr.heap.size = NX at hb2 HX ⊢
    replace HNR : Hid (NX = wr.heap.size) := Lib.hid hNXe.symm
    clear hNXe
    have hNX := (Array.getElem?_eq_some_iff.1 hb2).1
    have v0 := cell_of_row W2 _ 0 _ _ _ hb2
    have v1 := cell_of_row W2 _ 1 _ _ _ hb2
    have HP2 := Lib.hid (HL.out.p.grows HBY.out hg2)
    have HO2 := Lib.hid (own_grow9 HO.out hg2)
    have hx := fun j hj => HO2.out.cellAt j hj
    have x0 : W2.cell? ⟨g, 0, none⟩ = some (.int .i64 2) := hx 0 (by decide)
    have x1 : W2.cell? ⟨g, 1, none⟩ = some (.bool false) := hx 1 (by decide)
    have x2 : W2.cell? ⟨g, 2, none⟩ = some (.int .i64 5) := hx 2 (by decide)
    have x3 : W2.cell? ⟨g, 3, none⟩ = some (.int .i64 1) := hx 3 (by decide)
    obtain ⟨b0, y0⟩ := HP2.out.cell 0 (by decide)
    obtain ⟨b1, y1⟩ := HP2.out.cell 1 (by decide)
    obtain ⟨b2, y2⟩ := HP2.out.cell 2 (by decide)
    obtain ⟨b3, y3⟩ := HP2.out.cell 3 (by decide)
    have f0 := HP2.out.unfr 0
    have f1 := HP2.out.unfr 1
    have f2 := HP2.out.unfr 2
    have f3 := HP2.out.unfr 3
    have hB2 := World.block_lt_of_cell? _ _ y0
    have hg2' := World.block_lt_of_cell? _ _ x0
    clear hb2 hg2 hx j0 j1 j2 j3 cb0 cb1
    refine TS.begin [7] (World.Grows W2) (by kernel_rfl) (by kernel_rfl) grows_drew0 (fun hS => ?_)
    refine TS.takeV (i := 0) (v := ?_) rfl (by kernel_rfl) (by kernel_rfl) (by kernel_rfl) (by decide) (fun _ _ _ h => h) rfl hS ?_ ?_
    rotate_left
    focus
      rintro wS ⟨gbS, gdS, rfl⟩
      go_simp
      rfl
    (try simp only [nS])
    refine TS.takeV (i := 1) (v := ?_) rfl (by kernel_rfl) (by kernel_rfl) (by kernel_rfl) (by decide) (fun _ _ _ h => h) rfl hS ?_ ?_
    rotate_left
    focus
      rintro wS ⟨gbS, gdS, rfl⟩
      go_simp
      rfl
    (try simp only [nS])
    refine TS.takeV (i := 2) (v := ?_) rfl (by kernel_rfl) (by kernel_rfl) (by kernel_rfl) (by decide) (fun _ _ _ h => h) rfl hS ?_ ?_
    rotate_left
    focus
      rintro wS ⟨gbS, gdS, rfl⟩
      go_simp
      rfl
    (try simp only [nS])
    refine TS.takeV (i := 3) (v := ?_) rfl (by kernel_rfl) (by kernel_rfl) (by kernel_rfl) (by decide) (fun _ _ _ h => h) rfl hS ?_ ?_
    rotate_left
    focus
      rintro wS ⟨gbS, gdS, rfl⟩
      go_simp
      rfl
    (try simp only [nS])
    refine TS.takeV (i := 4) (v := ?_) rfl (by kernel_rfl) (by kernel_rfl) (by kernel_rfl) (by decide) (fun _ _ _ h => h) rfl hS ?_ ?_
    rotate_left
    focus
      rintro wS ⟨gbS, gdS, rfl⟩
      go_simp
      rfl
    (try simp only [nS])
    refine TS.takeV (i := 5) (v := ?_) rfl (by kernel_rfl) (by kernel_rfl) (by kernel_rfl) (by decide) (fun _ _ _ h => h) rfl hS ?_ ?_
    rotate_left
    focus
      rintro wS ⟨gbS, gdS, rfl⟩
      go_simp
      rfl
    (try simp only [nS])
    refine TS.takeV (i := 6) (v := ?_) rfl (by kernel_rfl) (by kernel_rfl) (by kernel_rfl) (by decide) (fun _ _ _ h => h) rfl hS ?_ ?_
    rotate_left
    focus
      rintro wS ⟨gbS, gdS, rfl⟩
      go_simp
      rfl
    (try simp only [nS])
    refine TS.weB 7 ?_
    go_wp2_with fail
    refine cutW (fun W => P9 w Y B W ∧ Next B W2 W) ⟨((((HP2.out.store (by have := HBw.out; omega) 0 _).store (by have := HBw.out; omega) 1 _).store (by have := HBw.out; omega) 2 _).store (by have := HBw.out; omega) 3 _).grows HBY.out grows_drew0, ((((((Next.refl B W2).store 0 _).store 1 _).store 2 _).store 3 _).drew)⟩ ?_
    intro W3 hW3
    obtain ⟨hP3, hN3⟩ := hW3
    have HP3 := Lib.hid hP3
    have hgB : g ≠ B := by have := HGY.out; have := HBY.out; omega
    have hXB : NX ≠ B := by have := HL.out.p.rel.1; have := HBY.out; have := HNR.out; omega
    have q := fun j => World.cell?_of_block (a := ⟨g, j, none⟩) (hN3.blk g hg2' hgB)
    have qx := fun j => World.cell?_of_block (a := ⟨NX, j, none⟩) (hN3.blk NX hNX hXB)
    have z0 := (q 0).trans x0
    have z1 := (q 1).trans x1
    have z2 := (q 2).trans x2
    have z3 := (q 3).trans x3
    have p0 : W3.cell? ⟨NX, 0, none⟩ = some (.int .i64 4) := (qx 0).trans v0
    have p1 : W3.cell? ⟨NX, 1, none⟩ = some (.int .i64 0) := (qx 1).trans v1
    have hcb3 : W3.heap[w.heap.size]? = some (.cells #[.slice (some ⟨bI, 0, none⟩) 4 4, .slice (some ⟨bS, 0, none⟩) 1 1] 63 (0, 0)) := (hP3.rel.2 _ (by have := HsY.out; have := HBw.out; omega) (by have := HBw.out; intro e; cases e; omega)).trans HcY.out
    have cc1 : W3.cell? ⟨w.heap.size, 1, none⟩ = some (.slice (some ⟨bS, 0, none⟩) 1 1) := cell_of_row W3 _ 1 _ _ _ hcb3
    have hw3 := World.block_lt_of_cell? _ _ cc1
    have cs0 := (HC.out.grows hP3.gr).slt
    have hbS := World.block_lt_of_cell? _ _ cs0
    have hg3 := World.block_lt_of_cell? _ _ z0
    have hx3 := World.block_lt_of_cell? _ _ p0
    have hsz3 := hP3.rel.1
    have HS3 := Lib.hid hsz3
    clear x0 x1 x2 x3 v0 v1 y0 y1 y2 y3 f0 f1 f2 f3 hB2 hg2' hP3 hN3 hcb3 hNX q qx hsz3 HO2 HP2 HX hS hgB hXB
    refine TS.begin [13, 14] (World.Grows W3) (by kernel_rfl) (by kernel_rfl) grows_drew0 (fun hS => ?_)
    refine TS.takeV (i := 0) (v := ?_) rfl (by kernel_rfl) (by kernel_rfl) (by kernel_rfl) (by decide) (fun _ _ _ h => h) rfl hS ?_ ?_
    rotate_left
    focus
      rintro wS ⟨gbS, gdS, rfl⟩
      go_simp
      rfl
    (try simp only [nS])
    refine TS.takeV (i := 1) (v := ?_) rfl (by kernel_rfl) (by kernel_rfl) (by kernel_rfl) (by decide) (fun _ _ _ h => h) rfl hS ?_ ?_
    rotate_left
    focus
      rintro wS ⟨gbS, gdS, rfl⟩
      go_simp
      rfl
    (try simp only [nS])
    refine TS.takeV (i := 2) (v := ?_) rfl (by kernel_rfl) (by kernel_rfl) (by kernel_rfl) (by decide) (fun _ _ _ h => h) rfl hS ?_ ?_
    rotate_left
    focus
      rintro wS ⟨gbS, gdS, rfl⟩
      go_simp
      rfl
    (try simp only [nS])
    refine TS.takeV (i := 3) (v := ?_) rfl (by kernel_rfl) (by kernel_rfl) (by kernel_rfl) (by decide) (fun _ _ _ h => h) rfl hS ?_ ?_
    rotate_left
    focus
      rintro wS ⟨gbS, gdS, rfl⟩
      go_simp
      rfl
    (try simp only [nS])
    refine TS.takeV (i := 4) (v := ?_) rfl (by kernel_rfl) (by kernel_rfl) (by kernel_rfl) (by decide) (fun _ _ _ h => h) rfl hS ?_ ?_
    rotate_left
    focus
      rintro wS ⟨gbS, gdS, rfl⟩
      go_simp
      rfl
    (try simp only [nS])
    refine TS.takeV (i := 5) (v := ?_) rfl (by kernel_rfl) (by kernel_rfl) (by kernel_rfl) (by decide) (fun _ _ _ h => h) rfl hS ?_ ?_
    rotate_left
    focus
      rintro wS ⟨gbS, gdS, rfl⟩
      go_simp
      rfl
    (try simp only [nS])
    refine TS.takeV (i := 6) (v := ?_) rfl (by kernel_rfl) (by kernel_rfl) (by kernel_rfl) (by decide) (fun _ _ _ h => h) rfl hS ?_ ?_
    rotate_left
    focus
      rintro wS ⟨gbS, gdS, rfl⟩
      go_simp
      rfl
    (try simp only [nS])
    refine TS.takeV (i := 7) (v := ?_) rfl (by kernel_rfl) (by kernel_rfl) (by kernel_rfl) (by decide) (fun _ _ _ h => h) rfl hS ?_ ?_
    rotate_left
    focus
      rintro wS ⟨gbS, gdS, rfl⟩
      go_simp
      rfl
    (try simp only [nS])
    refine TS.takeV (i := 8) (v := ?_) rfl (by kernel_rfl) (by kernel_rfl) (by kernel_rfl) (by decide) (fun _ _ _ h => h) rfl hS ?_ ?_
    rotate_left
    focus
      rintro wS ⟨gbS, gdS, rfl⟩
      go_simp
      rfl
    (try simp only [nS])
    refine TS.takeV (i := 9) (v := ?_) rfl (by kernel_rfl) (by kernel_rfl) (by kernel_rfl) (by decide) (fun _ _ _ h => h) rfl hS ?_ ?_
    rotate_left
    focus
      rintro wS ⟨gbS, gdS, rfl⟩
      go_simp
      rfl
    (try simp only [nS])
    refine TS.takeV (i := 10) (v := ?_) rfl (by kernel_rfl) (by kernel_rfl) (by kernel_rfl) (by decide) (fun _ _ _ h => h) rfl hS ?_ ?_
    rotate_left
    focus
      rintro wS ⟨gbS, gdS, rfl⟩
      go_simp
      rfl
    (try simp only [nS])
    refine TS.takeV (i := 11) (v := ?_) rfl (by kernel_rfl) (by kernel_rfl) (by kernel_rfl) (by decide) (fun _ _ _ h => h) rfl hS ?_ ?_
    rotate_left
    focus
      rintro wS ⟨gbS, gdS, rfl⟩
      go_simp
      rfl
    (try simp only [nS])
    refine TS.one (i := 12) (by kernel_rfl) rfl (fun K1 hK1 => ?_)
    have HK1 := Lib.hid hK1
    clear hK1 hS
    dsimp only [List.getElem_toArray, List.getElem_cons_succ, List.getElem_cons_zero]
    go_simp
    refine TS.go HK1.out growsR (fun hS => ?_)
    clear HK1 K1
    (try simp only [nS])
    refine TS.one (i := 13) (by kernel_rfl) rfl (fun K1 hK1 => ?_)
    refine step_append_lies _ rfl _ _ 44 rfl Y.heap.size 53 i2 _ 5 48 Tryz.underlying44 hi2 hz12 hz22 hz32 rfl (by decide) (.slice none 0 0) 0 [] rfl (World.ownsRow_nil _ _ _ _) ⟨_, 0, none⟩ 1 1 [.string byNm, .int .i64 2, .bool false, .int .i64 5, .int .i64 1] rfl rfl (news_cells _ [.string byNm, .int .i64 2, .bool false, .int .i64 5, .int .i64 1] _ _ (by simp)) (by intro u hu; simp at hu; rcases hu with rfl | rfl | rfl | rfl | rfl <;> rfl) (by decide) (by unfold maxLen; omega) (by omega) (by have := HS3.out; simp; omega) _ rfl ?_
    intro g2 cap2 w1 hown hgrow hgg hgl
    have HN := Lib.hid (HP3.out.next (row := none) HBY.out HSZ.out (fun b e => by cases e) growsR hgrow)
    have HO1 := Lib.hid hown
    refine hK1 _ _ (fun h => absurd (by decide) h) ?_
    clear hK1 K1 hown hgrow hgg hgl hS z0 z1 z2 z3 p0 p1 cc1 hw3 cs0 hbS hg3 hx3 HS3
    (try simp only [nS])
    refine TS.weB 14 ?_
    go_wp2_with fail
    go_roundw
    case rel => exact ⟨3 + 1, by omega, rfl, Lib.hid ⟨HN.out, fun h => by omega, fun h => by omega, fun _ => HO1.out⟩⟩
    case measure => simp [intOf]
  · rw [show (((4 : Nat) : Int)) = 4 from rfl]
    have HF := Lib.hid (HL.out.fin rfl)
    go_wp2_with fail
    go_returns
    exact ⟨_, rfl, HG.out, own_base9 HSZ.out HF.out⟩
end Go.Proofs.YtaghhncnicbedaaGreatDoor
