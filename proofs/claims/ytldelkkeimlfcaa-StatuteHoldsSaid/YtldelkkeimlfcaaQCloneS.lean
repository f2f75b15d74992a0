/- slices.Clone of a version's rows. -/
import Derived.Test.YtldelkkeimlfcaaQVer
import Derived.Test.YtldelkkeimlfcaaQClone
import Derived.Lib.SliceRun
set_option linter.all false
namespace Go.Proofs.Ytldelkkeimlfcaa
open Go.RowKit
/-- A slice whose elements' cells are l. -/
def SrcRow (w : World) (v : Value) (c : Nat) (l : List (List Value)) : Prop :=
  l.length ≤ 1000 ∧ (∀ x ∈ l, x.length = c) ∧ (∀ u ∈ l.flatten, u.oneCell' = true) ∧ ∃ a cap, v = .slice a l.length cap ∧
    ((a = none ∧ l = [] ∧ cap = 0) ∨ ∃ b off, a = some ⟨b, off, none⟩ ∧ b < w.heap.size ∧ ∀ j u, l.flatten[j]? = some u → w.cell? ⟨b, off + j, none⟩ = some u)
theorem SrcRow.of_rowG {T : TypeId} {c base : Nat} {w : World} {v : Value} {l : List (List Value)} {rs : List (Ex × Value)} (h : RowG T c base w v l rs) (hl : l.length ≤ 1000) (h1 : ∀ u ∈ l.flatten, u.oneCell' = true) : SrcRow w v c l := by
  refine ⟨hl, h.len, h1, ?_⟩
  rcases h.own.2 with ⟨rfl, h0⟩ | ⟨g, cap, cur, rfl, hb, hg, _⟩
  · exact ⟨none, 0, by rw [h0], .inl ⟨rfl, List.eq_nil_of_length_eq_zero h0, rfl⟩⟩
  · refine ⟨_, cap, rfl, .inr ⟨g, 0, rfl, (Array.getElem?_eq_some_iff.1 hg).1, fun j u hu => ?_⟩⟩
    have := World.ownsRow.cells (g := g) h.own rfl j u hu
    rw [addr_add] at this
    rw [Nat.zero_add]; exact this
theorem SrcRow.same {w w' : World} {v : Value} {c : Nat} {l : List (List Value)} (h : SrcRow w v c l) (hsz : w.heap.size ≤ w'.heap.size) (hw : ∀ k, k < w.heap.size → w'.heap[k]? = w.heap[k]?) : SrcRow w' v c l := by
  obtain ⟨h1, h2, h3, a, cap, hv, h4⟩ := h
  refine ⟨h1, h2, h3, a, cap, hv, h4.imp id ?_⟩
  rintro ⟨b, off, ha, hb, hc⟩
  exact ⟨b, off, ha, by omega, fun j u hu => by rw [World.cell?_of_block (hw b hb)]; exact hc j u hu⟩
theorem SrcRow.alloc {w : World} {v : Value} {c : Nat} {l : List (List Value)} (h : SrcRow w v c l) (o : Obj) : SrcRow (w.alloc o) v c l := h.same (by simp) fun k hk => Below.heap_alloc w o k hk
theorem SrcRow.grow {w : World} {v : Value} {c : Nat} {l : List (List Value)} (h : SrcRow w v c l) (bs : Array Obj) (d : Nat) : SrcRow (w.grow bs d) v c l := h.same (by simp) fun k hk => World.heap_grow w bs d hk
theorem SrcRow.drew {w : World} {v : Value} {c : Nat} {l : List (List Value)} (h : SrcRow w v c l) : SrcRow w.drew v c l := h.same (Nat.le_refl _) fun k _ => rfl
def ClonedTo (T : TypeId) (c : Nat) (l : List (List Value)) (w : World) (e : Ending) (w' : World) : Prop := ∃ v', e = .returned v' ∧ w.Grows w' ∧ RowG T c w.heap.size w' v' l []
set_option maxHeartbeats 1000000 in
set_option maxRecDepth 100000 in
theorem clone_cr (v : Value) (l : List (List Value)) (w : World) (h : SrcRow w v 2 l) : Calls Try.prog 56 #[v] w (ClonedTo 63 2 l w) := by
  obtain ⟨i0, hi, hz0, hz1, hz2⟩ := info_parts infoCred
  obtain ⟨hl, hlen, h1, a, cap, rfl, h2⟩ := h
  have HLEN := Lib.hid hlen
  have H1 := Lib.hid h1
  have HF := Lib.hid (flatten_length l 2 hlen)
  have HL := Lib.hid hl
  clear hlen h1 hl
  rcases h2 with ⟨rfl, rfl, rfl⟩ | ⟨b, off, rfl, hb, hc⟩
  · have hnil := fun w => Lib.run_eql_slice_nil (P := Try.prog) w 29 63 none 0 0 0 0 Try.underlying29
    go_enter Try.func56, Try.ntmps56
    go_wp2_with fail
    go_returns
    exact ⟨_, rfl, .refl _, .nil _ _ _ _⟩
  · have HC := Lib.hid hc
    clear hc
    have hnil := fun w => Lib.run_eql_slice_nil (P := Try.prog) w 29 63 (some ⟨b, off, none⟩) l.length cap 0 0 Try.underlying29
    go_enter Try.func56, Try.ntmps56
    go_wp2_with (at_builtin; refine wpList_append_own _ rfl _ _ 29 rfl w.heap.size 63 i0 _ 2 16 Try.underlying29 hi hz0 hz1 hz2 rfl (by decide) _ _ _ rfl (World.ownsRow_made w #[] 0 (Nat.le_refl _) (by decide) (by simp)) ⟨b, off, none⟩ l.length cap l.flatten rfl ?c0 ?c1 ?c2 ?c3 ?c4 ?c5 ?_)
    case c0 => exact HF.out
    case c1 => intro j u hu; rw [add_at, World.cell?_alloc_lt _ _ ⟨b, _, none⟩ hb]; exact HC.out j u hu
    case c2 => exact H1.out
    case c3 => have := HL.out; unfold maxLen; omega
    case c4 => have := HL.out; omega
    case c5 => simp
    intro v' w1 hown' hgrow _
    have G1 := World.Grows.of_below (w := w) (((Below.refl _ _).alloc (Nat.le_refl _) _).grown hgrow (by simp) (fun k hk => by simp [Value.ownBlock] at hk; omega))
    have hown2 : w1.ownsRow w.heap.size 63 2 v' l.length l.flatten := by simpa using hown'
    have HR : Hid (RowG 63 2 w.heap.size w1 v' l []) := Lib.hid ⟨hown2, HLEN.out, fun x hx => by cases hx⟩
    clear hown' hown2 hgrow
    go_wp2_with fail
    go_returns
    exact ⟨_, rfl, G1, HR.out⟩
set_option maxHeartbeats 1000000 in
set_option maxRecDepth 100000 in
theorem clone_se (v : Value) (l : List (List Value)) (w : World) (h : SrcRow w v 3 l) : Calls Try.prog 57 #[v] w (ClonedTo 67 3 l w) := by
  obtain ⟨i0, hi, hz0, hz1, hz2⟩ := info_parts infoIdx
  obtain ⟨hl, hlen, h1, a, cap, rfl, h2⟩ := h
  have HLEN := Lib.hid hlen
  have H1 := Lib.hid h1
  have HF := Lib.hid (flatten_length l 3 hlen)
  have HL := Lib.hid hl
  clear hlen h1 hl
  rcases h2 with ⟨rfl, rfl, rfl⟩ | ⟨b, off, rfl, hb, hc⟩
  · have hnil := fun w => Lib.run_eql_slice_nil (P := Try.prog) w 26 67 none 0 0 0 0 Try.underlying26
    go_enter Try.func57, Try.ntmps57
    go_wp2_with fail
    go_returns
    exact ⟨_, rfl, .refl _, .nil _ _ _ _⟩
  · have HC := Lib.hid hc
    clear hc
    have hnil := fun w => Lib.run_eql_slice_nil (P := Try.prog) w 26 67 (some ⟨b, off, none⟩) l.length cap 0 0 Try.underlying26
    go_enter Try.func57, Try.ntmps57
    go_wp2_with (at_builtin; refine wpList_append_own _ rfl _ _ 26 rfl w.heap.size 67 i0 _ 3 24 Try.underlying26 hi hz0 hz1 hz2 rfl (by decide) _ _ _ rfl (World.ownsRow_made w #[] 0 (Nat.le_refl _) (by decide) (by simp)) ⟨b, off, none⟩ l.length cap l.flatten rfl ?c0 ?c1 ?c2 ?c3 ?c4 ?c5 ?_)
    case c0 => exact HF.out
    case c1 => intro j u hu; rw [add_at, World.cell?_alloc_lt _ _ ⟨b, _, none⟩ hb]; exact HC.out j u hu
    case c2 => exact H1.out
    case c3 => have := HL.out; unfold maxLen; omega
    case c4 => have := HL.out; omega
    case c5 => simp
    intro v' w1 hown' hgrow _
    have G1 := World.Grows.of_below (w := w) (((Below.refl _ _).alloc (Nat.le_refl _) _).grown hgrow (by simp) (fun k hk => by simp [Value.ownBlock] at hk; omega))
    have hown2 : w1.ownsRow w.heap.size 67 3 v' l.length l.flatten := by simpa using hown'
    have HR : Hid (RowG 67 3 w.heap.size w1 v' l []) := Lib.hid ⟨hown2, HLEN.out, fun x hx => by cases hx⟩
    clear hown' hown2 hgrow
    go_wp2_with fail
    go_returns
    exact ⟨_, rfl, G1, HR.out⟩
set_option maxHeartbeats 1000000 in
set_option maxRecDepth 100000 in
theorem clone_le (v : Value) (l : List (List Value)) (w : World) (h : SrcRow w v 7 l) : Calls Try.prog 58 #[v] w (ClonedTo 75 7 l w) := by
  obtain ⟨i0, hi, hz0, hz1, hz2⟩ := info_parts infoLet
  obtain ⟨hl, hlen, h1, a, cap, rfl, h2⟩ := h
  have HLEN := Lib.hid hlen
  have H1 := Lib.hid h1
  have HF := Lib.hid (flatten_length l 7 hlen)
  have HL := Lib.hid hl
  clear hlen h1 hl
  rcases h2 with ⟨rfl, rfl, rfl⟩ | ⟨b, off, rfl, hb, hc⟩
  · have hnil := fun w => Lib.run_eql_slice_nil (P := Try.prog) w 30 75 none 0 0 0 0 Try.underlying30
    go_enter Try.func58, Try.ntmps58
    go_wp2_with fail
    go_returns
    exact ⟨_, rfl, .refl _, .nil _ _ _ _⟩
  · have HC := Lib.hid hc
    clear hc
    have hnil := fun w => Lib.run_eql_slice_nil (P := Try.prog) w 30 75 (some ⟨b, off, none⟩) l.length cap 0 0 Try.underlying30
    go_enter Try.func58, Try.ntmps58
    go_wp2_with (at_builtin; refine wpList_append_own _ rfl _ _ 30 rfl w.heap.size 75 i0 _ 7 88 Try.underlying30 hi hz0 hz1 hz2 rfl (by decide) _ _ _ rfl (World.ownsRow_made w #[] 0 (Nat.le_refl _) (by decide) (by simp)) ⟨b, off, none⟩ l.length cap l.flatten rfl ?c0 ?c1 ?c2 ?c3 ?c4 ?c5 ?_)
    case c0 => exact HF.out
    case c1 => intro j u hu; rw [add_at, World.cell?_alloc_lt _ _ ⟨b, _, none⟩ hb]; exact HC.out j u hu
    case c2 => exact H1.out
    case c3 => have := HL.out; unfold maxLen; omega
    case c4 => have := HL.out; omega
    case c5 => simp
    intro v' w1 hown' hgrow _
    have G1 := World.Grows.of_below (w := w) (((Below.refl _ _).alloc (Nat.le_refl _) _).grown hgrow (by simp) (fun k hk => by simp [Value.ownBlock] at hk; omega))
    have hown2 : w1.ownsRow w.heap.size 75 7 v' l.length l.flatten := by simpa using hown'
    have HR : Hid (RowG 75 7 w.heap.size w1 v' l []) := Lib.hid ⟨hown2, HLEN.out, fun x hx => by cases hx⟩
    clear hown' hown2 hgrow
    go_wp2_with fail
    go_returns
    exact ⟨_, rfl, G1, HR.out⟩
set_option maxHeartbeats 1000000 in
set_option maxRecDepth 100000 in
theorem clone_gr (v : Value) (l : List (List Value)) (w : World) (h : SrcRow w v 13 l) : Calls Try.prog 59 #[v] w (ClonedTo 79 13 l w) := by
  obtain ⟨i0, hi, hz0, hz1, hz2⟩ := info_parts infoGrant
  obtain ⟨hl, hlen, h1, a, cap, rfl, h2⟩ := h
  have HLEN := Lib.hid hlen
  have H1 := Lib.hid h1
  have HF := Lib.hid (flatten_length l 13 hlen)
  have HL := Lib.hid hl
  clear hlen h1 hl
  rcases h2 with ⟨rfl, rfl, rfl⟩ | ⟨b, off, rfl, hb, hc⟩
  · have hnil := fun w => Lib.run_eql_slice_nil (P := Try.prog) w 31 79 none 0 0 0 0 Try.underlying31
    go_enter Try.func59, Try.ntmps59
    go_wp2_with fail
    go_returns
    exact ⟨_, rfl, .refl _, .nil _ _ _ _⟩
  · have HC := Lib.hid hc
    clear hc
    have hnil := fun w => Lib.run_eql_slice_nil (P := Try.prog) w 31 79 (some ⟨b, off, none⟩) l.length cap 0 0 Try.underlying31
    go_enter Try.func59, Try.ntmps59
    go_wp2_with (at_builtin; refine wpList_append_own _ rfl _ _ 31 rfl w.heap.size 79 i0 _ 13 152 Try.underlying31 hi hz0 hz1 hz2 rfl (by decide) _ _ _ rfl (World.ownsRow_made w #[] 0 (Nat.le_refl _) (by decide) (by simp)) ⟨b, off, none⟩ l.length cap l.flatten rfl ?c0 ?c1 ?c2 ?c3 ?c4 ?c5 ?_)
    case c0 => exact HF.out
    case c1 => intro j u hu; rw [add_at, World.cell?_alloc_lt _ _ ⟨b, _, none⟩ hb]; exact HC.out j u hu
    case c2 => exact H1.out
    case c3 => have := HL.out; unfold maxLen; omega
    case c4 => have := HL.out; omega
    case c5 => simp
    intro v' w1 hown' hgrow _
    have G1 := World.Grows.of_below (w := w) (((Below.refl _ _).alloc (Nat.le_refl _) _).grown hgrow (by simp) (fun k hk => by simp [Value.ownBlock] at hk; omega))
    have hown2 : w1.ownsRow w.heap.size 79 13 v' l.length l.flatten := by simpa using hown'
    have HR : Hid (RowG 79 13 w.heap.size w1 v' l []) := Lib.hid ⟨hown2, HLEN.out, fun x hx => by cases hx⟩
    clear hown' hown2 hgrow
    go_wp2_with fail
    go_returns
    exact ⟨_, rfl, G1, HR.out⟩
set_option maxHeartbeats 1000000 in
set_option maxRecDepth 100000 in
theorem clone_re (v : Value) (l : List (List Value)) (w : World) (h : SrcRow w v 7 l) : Calls Try.prog 60 #[v] w (ClonedTo 81 7 l w) := by
  obtain ⟨i0, hi, hz0, hz1, hz2⟩ := info_parts infoReduce
  obtain ⟨hl, hlen, h1, a, cap, rfl, h2⟩ := h
  have HLEN := Lib.hid hlen
  have H1 := Lib.hid h1
  have HF := Lib.hid (flatten_length l 7 hlen)
  have HL := Lib.hid hl
  clear hlen h1 hl
  rcases h2 with ⟨rfl, rfl, rfl⟩ | ⟨b, off, rfl, hb, hc⟩
  · have hnil := fun w => Lib.run_eql_slice_nil (P := Try.prog) w 32 81 none 0 0 0 0 Try.underlying32
    go_enter Try.func60, Try.ntmps60
    go_wp2_with fail
    go_returns
    exact ⟨_, rfl, .refl _, .nil _ _ _ _⟩
  · have HC := Lib.hid hc
    clear hc
    have hnil := fun w => Lib.run_eql_slice_nil (P := Try.prog) w 32 81 (some ⟨b, off, none⟩) l.length cap 0 0 Try.underlying32
    go_enter Try.func60, Try.ntmps60
    go_wp2_with (at_builtin; refine wpList_append_own _ rfl _ _ 32 rfl w.heap.size 81 i0 _ 7 80 Try.underlying32 hi hz0 hz1 hz2 rfl (by decide) _ _ _ rfl (World.ownsRow_made w #[] 0 (Nat.le_refl _) (by decide) (by simp)) ⟨b, off, none⟩ l.length cap l.flatten rfl ?c0 ?c1 ?c2 ?c3 ?c4 ?c5 ?_)
    case c0 => exact HF.out
    case c1 => intro j u hu; rw [add_at, World.cell?_alloc_lt _ _ ⟨b, _, none⟩ hb]; exact HC.out j u hu
    case c2 => exact H1.out
    case c3 => have := HL.out; unfold maxLen; omega
    case c4 => have := HL.out; omega
    case c5 => simp
    intro v' w1 hown' hgrow _
    have G1 := World.Grows.of_below (w := w) (((Below.refl _ _).alloc (Nat.le_refl _) _).grown hgrow (by simp) (fun k hk => by simp [Value.ownBlock] at hk; omega))
    have hown2 : w1.ownsRow w.heap.size 81 7 v' l.length l.flatten := by simpa using hown'
    have HR : Hid (RowG 81 7 w.heap.size w1 v' l []) := Lib.hid ⟨hown2, HLEN.out, fun x hx => by cases hx⟩
    clear hown' hown2 hgrow
    go_wp2_with fail
    go_returns
    exact ⟨_, rfl, G1, HR.out⟩
end Go.Proofs.Ytldelkkeimlfcaa
