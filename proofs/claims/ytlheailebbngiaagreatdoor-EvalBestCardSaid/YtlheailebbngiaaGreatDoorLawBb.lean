/- EvalBest: the walk. -/
import Derived.Test.YtlheailebbngiaaGreatDoorBst8
set_option linter.all false
namespace Go.Proofs.YtlheailebbngiaaGreatDoor
open Go.RowKit
theorem bb_long (zs : List Int) (v : Value) (n : Int) (raw : Bool) (w : World) (h : IntsAt w v zs) (hl : 260 < zs.length) :
    Calls Tryz.prog 4 #[v, .int .i64 n, .bool raw] w fun e w' => e = .returned (.bool true) ∧ w.Grows w' := by
  obtain ⟨-, -, a, cap, rfl, -⟩ := h
  have hn : (260 : Int) < (zs.length : Int) := by omega
  go_enter Tryz.func4, Tryz.ntmps4
  go_wp2_with fail
  go_returns
  exact ⟨rfl, .of_below (by (exact belB))⟩
set_option maxRecDepth 1000000 in
set_option maxHeartbeats 8000000 in
theorem bb_raw (zs : List Int) (v : Value) (n : Int) (w : World) (h : IntsAt w v zs) (hl : zs.length ≤ 260) (ht : Tab w) :
    Calls Tryz.prog 4 #[v, .int .i64 n, .bool true] w fun e w' => e = .returned (.bool true) ∧ w.Grows w' := by
  have hY : YrAt w v zs := by
    obtain ⟨-, -, a, cap, rfl, hc⟩ := h
    exact ⟨by omega, a, cap, rfl, hc⟩
  have HT := Lib.hid ht
  have HY := Lib.hid hY
  have HB1 := Lib.hid (fun w' (hg : w.Grows w') => Best2_any zs n v w' (HY.out.grows hg))
  have HB2 := Lib.hid (fun w' (hg : w.Grows w') => Best8_any zs n v w' (HY.out.grows hg))
  unfold frV at HB1 HB2
  generalize bestF zs n = R at *
  obtain ⟨rn, rd, rc⟩ := R
  dsimp only at HB1 HB2
  obtain ⟨-, -, a, cap, rfl, -⟩ := h
  clear hY ht
  go_enter Tryz.func4, Tryz.ntmps4
  go_wp2_with (first
    | (go_at_call 15; refine (Pick_any _ _ _ (by omega)).mono ?_; rintro e' w' ⟨rfl, rfl⟩)
    | (go_at_call 22; refine (HB1.out _ (.of_below (by (exact belB)))).mono ?_; rintro e' w' ⟨rfl, bs, d, rfl⟩)
    | (go_at_call 23; refine (HB2.out _ (.of_below (by (exact belB)))).mono ?_; rintro e' w' ⟨rfl, bs2, d2, rfl⟩)
    | (go_at_call 19; refine (awake8_any _ (HT.out.grows (id (.of_below (by (exact belB)))))).mono ?_; rintro e' w' ⟨rfl, bs7, d7, rfl⟩))
  go_returns
  exact ⟨rfl, id (.of_below (by (exact belB)))⟩
set_option maxRecDepth 1000000 in
set_option maxHeartbeats 8000000 in
theorem bb_picked (zs : List Int) (v : Value) (n : Int) (w : World) (h : IntsAt w v zs) (hl : zs.length ≤ 260) (ht : Tab w) :
    Calls Tryz.prog 4 #[v, .int .i64 n, .bool false] w fun e w' => e = .returned (.bool true) ∧ w.Grows w' := by
  obtain ⟨i0, hi, hz0, hz1, hz2⟩ := info_parts infoY
  have HT := Lib.hid ht
  have HI := Lib.hid h
  obtain ⟨-, -, a, cap, rfl, hcs⟩ := h
  have HCS := Lib.hid hcs
  clear hcs ht
  go_enter Tryz.func4, Tryz.ntmps4
  go_wp2_with fail
  go_loopw [7, 8] (fun v7 v9 wr => ∃ (k : Nat) (vb : Value), vb = v7 ∧ k ≤ zs.length ∧ v9 = .int .i64 k ∧ Below w.heap.size w wr ∧ wr.ownsRow w.heap.size 3 1 vb k ((pkV zs).take k)) (fun _ v9 _ => zs.length - (intOf v9).toNat)
  case atStart => exact ⟨0, _, rfl, by omega, rfl, .refl _ _, World.ownsRow_nil _ _ _ _⟩
  case round =>
    obtain ⟨k, vb, rfl, hk, rfl, hB, hown⟩ := hrel
    have HB := Lib.hid hB
    have HO := Lib.hid hown
    have hsW := hB.size
    by_cases hlt : k < zs.length
    · rcases HCS.out with h0 | ⟨b, off, rfl, hbw, hx⟩
      · omega
      have x0 : wr.cell? ⟨b, off + k, none⟩ = some (.int .i64 (zs.getD k 0)) := (hB.cell (p := ⟨b, off + k, none⟩) hbw).trans (hx k hlt)
      have d1 : (k : Int) < (zs.length : Int) := by omega
      have HNX := Lib.hid (pk_take zs k hlt)
      have HKL := Lib.hid hlt
      clear hx hlt hB hown
      generalize zs.getD k 0 = z at *
      go_wp2_with (first
        | (go_at_call 15; refine (Pick_any _ _ _ (by omega)).mono ?_; rintro e' w' ⟨rfl, rfl⟩)
        | (at_builtin; refine wpList_append_own _ rfl _ _ 24 rfl w.heap.size 3 i0 (.int .i64 0) 1 8 Tryz.underlying24 hi hz0 hz1 hz2 rfl (by decide) _ _ _ rfl (HO.out.alloc _) ⟨wr.heap.size, 0, none⟩ 1 1 [.int .i64 (pick z 1000000)] rfl rfl ?c1 ?c2 ?c3 ?c4 ?c5 ?_))
      case c1 => exact news_cells _ [.int .i64 (pick z 1000000)] _ _ (by simp)
      case c2 => intro u hu; simp at hu; subst hu; rfl
      case c3 => unfold maxLen; omega
      case c4 => omega
      case c5 => simp; omega
      intro v' w1 hown' hgrow _
      have HB1 := Lib.hid ((show Below w.heap.size w _ from by have := HB.out; (exact belB)).grown hgrow (by simp; omega) (fun k hk => (HO.out.lt k hk).1))
      have HO1 := Lib.hid hown'
      clear hown' hgrow
      go_wp2_with fail
      go_roundw
      case rel => exact ⟨k + 1, _, rfl, HKL.out, by go_num, HB1.out, by rw [HNX.out]; exact HO1.out⟩
      case measure => simp [intOf]; have := HKL.out; omega
    · obtain rfl : k = zs.length := by omega
      have hYL : YrAt wr vb (pkL zs) := YrAt.of_rowB hown (by simp) (pkV_eq zs) (by simp; omega)
      have HYL := Lib.hid hYL
      have HG0 : Hid (w.Grows wr) := Lib.hid (.of_below HB.out)
      have HB1 := Lib.hid (fun w' (hg : wr.Grows w') => Best2_any (pkL zs) (pick n 48) vb w' (HYL.out.grows hg))
      have HB2 := Lib.hid (fun w' (hg : wr.Grows w') => Best8_any (pkL zs) (pick n 48) vb w' (HYL.out.grows hg))
      clear hown hYL hB
      have hlL : (pkL zs).length = zs.length := by simp
      have hl2 : (pkL zs).length ≤ 260 := by omega
      clear hlL
      generalize pkL zs = L at *
      unfold frV at HB1 HB2
      generalize bestF L (pick n 48) = R at *
      obtain ⟨rn, rd, rc⟩ := R
      dsimp only at HB1 HB2
      obtain ⟨-, ba, bc, rfl, -⟩ := HYL.out
      obtain ⟨W1, rfl⟩ : ∃ W1, W1 = wr := ⟨_, rfl⟩
      go_wp2_with (first
        | (go_at_call 15; refine (Pick_any _ _ _ (by omega)).mono ?_; rintro e' w' ⟨rfl, rfl⟩)
        | (go_at_call 22; refine (HB1.out _ (.of_below (by (exact belB)))).mono ?_; rintro e' w' ⟨rfl, bs, d, rfl⟩)
        | (go_at_call 23; refine (HB2.out _ (.of_below (by (exact belB)))).mono ?_; rintro e' w' ⟨rfl, bs2, d2, rfl⟩)
        | (go_at_call 19; refine (awake8_any _ (HT.out.grows (World.Grows.trans HG0.out (.of_below (by (exact belB)))))).mono ?_; rintro e' w' ⟨rfl, bs7, d7, rfl⟩))
      go_returns
      exact ⟨rfl, World.Grows.trans HG0.out (.of_below (by (exact belB)))⟩
theorem bb_any (zs : List Int) (v : Value) (n : Int) (raw : Bool) (w : World) (h : IntsAt w v zs) (ht : Tab w) :
    Calls Tryz.prog 4 #[v, .int .i64 n, .bool raw] w fun e w' => e = .returned (.bool true) ∧ w.Grows w' := by
  by_cases hl : zs.length ≤ 260
  · cases raw
    · exact bb_picked zs v n w h hl ht
    · exact bb_raw zs v n w h hl ht
  · exact bb_long zs v n raw w h (by omega)
end Go.Proofs.YtlheailebbngiaaGreatDoor
