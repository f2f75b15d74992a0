/- statute.Explain, pensionref8.Explain: a line for each step. -/
import Derived.Test.YthionhbjmheimaaDoorFmt2
import Derived.Test.YthionhbjmheimaaDoorGrML
import Derived.Test.YthionhbjmheimaaDoorSmSL
import Derived.Test.YthionhbjmheimaaDoorLWord
set_option linter.all false
namespace Go.Proofs.YthionhbjmheimaaDoor
open Go.RowKit
def LnP (st : List (ByteArray × Val)) (w : World) (e : Ending) (w' : World) : Prop := ∃ v, e = .returned v ∧ w.Grows w' ∧ StrRow w.heap.size w' v (st.map lineS)
theorem line_take {st : List (ByteArray × Val)} {k : Nat} (h : k < st.length) : (st.take (k + 1)).map lineS = (st.take k).map lineS ++ [stN st k ++ ⟨#[32, 61, 32]⟩ ++ txV (stV st k)] := by
  have e : st.getD k (ByteArray.empty, Val.zero) = st[k] := by rw [List.getD_eq_getElem?_getD, List.getElem?_eq_getElem h]; rfl
  rw [List.take_succ_eq_append_getElem h, List.map_append]
  unfold stN stV
  rw [e]; rfl
def lnL (l : List (ByteArray × Val)) : List Value := (l.map lineS).map Value.string
theorem ln_take {st : List (ByteArray × Val)} {k : Nat} (h : k < st.length) : lnL (st.take (k + 1)) = lnL (st.take k) ++ [.string (stN st k ++ ⟨#[32, 61, 32]⟩ ++ txV (stV st k))] := by
  unfold lnL; rw [line_take h, List.map_append]; rfl
theorem line_len (st : List (ByteArray × Val)) (k : Nat) (h : k ≤ st.length) : ((st.take k).map lineS).length = k := by simp; omega
theorem StpSm.at {st : List (ByteArray × Val)} (h : StpSm st) {k : Nat} (hk : k < st.length) : (stN st k).size ≤ 12 ∧ (stV st k).ok = true := by
  have e : st.getD k (ByteArray.empty, Val.zero) = st[k] := by rw [List.getD_eq_getElem?_getD, List.getElem?_eq_getElem hk]; rfl
  unfold stN stV
  rw [e]; exact h _ (List.getElem_mem _)
theorem ok_i64 {x : Val} (h : x.ok = true) : -1000000000000000 ≤ x.n ∧ x.n ≤ 1000000000000000 ∧ 0 ≤ x.d ∧ x.d ≤ 1000000000000000 := by
  by_cases hd : x.dim = 1
  · unfold Val.ok at h
    rw [if_pos hd] at h
    simp only [decide_eq_true_eq] at h
    omega
  · have := vfrac_bd (Val.ok_num h hd).2.2.2
    omega
set_option maxRecDepth 1000000 in
set_option maxHeartbeats 8000000 in
theorem Explain2_any (st : List (ByteArray × Val)) (va : Value) (w : World) (h : StpAt w va st) (hs : StpSm st) (ht : Tab w) : Calls Tryd.prog 9 #[va] w (LnP st w) := by
  obtain ⟨i0, hi, hz0, hz1, hz2⟩ := info_parts infoStr
  have HA := Lib.hid h
  have HT := Lib.hid ht
  have HS := Lib.hid hs
  obtain ⟨h1000, a, c, rfl, -⟩ := h
  clear hs ht
  go_enter Tryd.func9, Tryd.ntmps9
  go_wp2_with fail
  go_loopw [3, 9] (fun v3 v9 wr => ∃ (k : Nat) (vb : Value), vb = v3 ∧ k ≤ st.length ∧ v9 = .int .i64 k ∧ w.Grows wr ∧ wr.ownsRow w.heap.size 9 1 vb k (lnL (st.take k))) (fun _ v9 _ => st.length - (intOf v9).toNat)
  case atStart => exact ⟨0, _, rfl, by omega, rfl, .refl _, World.ownsRow_nil _ _ _ _⟩
  case round =>
    obtain ⟨k, vb, rfl, hk, rfl, hG, hown⟩ := hrel
    have HG := Lib.hid hG
    by_cases hlt : k < st.length
    · obtain ⟨b, o, rfl, hb, p0, p1, p2, p3, p4⟩ := stp_cells (HA.out.grows hG) hlt
      have d1 : (k : Int) < (st.length : Int) := by omega
      have HNX := Lib.hid (ln_take hlt)
      have hsW := hG.below.size
      have hsm := HS.out.at hlt
      have hbd := ok_i64 hsm.2
      have HF := Lib.hid (fun w' (hg : wr.Grows w') => Format2_any (stV st k).n (stV st k).d w' (by omega) (by omega) (by omega) (by omega) (HT.out.grows (World.Grows.trans' hG hg)))
      have HFZ := Lib.hid (fracS_size (n := (stV st k).n) (d := (stV st k).d))
      have HOK := Lib.hid hsm.2
      have hz := hsm.1
      have hK : k + 1 ≤ st.length ∧ k ≤ 1000 := by omega
      have HK := Lib.hid hK
      have HO := Lib.hid hown
      generalize stN st k = nm at *
      generalize stV st k = x at *
      obtain ⟨m, y, n, d0⟩ := x
      dsimp only at p1 p2 p3 p4 hbd HF HFZ
      have hTX : txV ⟨m, y, n, d0⟩ = if m = 1 then (if y = true then ⟨#[121, 101, 115]⟩ else ⟨#[110, 111]⟩) else fracS n d0 ++ sufV m := rfl
      have hfz := HFZ.out
      clear hown hG hlt hk hsm hK HFZ
      generalize fracS n d0 = fr at *
      by_cases m1 : m = 1
      · subst m1
        cases y with
        | true =>
          rw [hTX, if_pos rfl, if_pos rfl] at HNX
          clear hTX
          go_wp2_with (first | (go_at_call 19; refine (HF.out _ growsA).mono ?_; rintro e' w' ⟨rfl, bs, d, rfl⟩) | (at_builtin; refine wpList_append_own _ rfl _ _ 55 rfl w.heap.size 9 i0 (.string ⟨#[]⟩) 1 16 Tryd.underlying55 hi hz0 hz1 hz2 rfl (by decide) _ _ _ rfl (own_grow HO.out growsA) ⟨wr.heap.size + 1 + bs.size, 0, none⟩ 1 1 [.string (nm ++ ⟨#[32, 61, 32]⟩ ++ ⟨#[121, 101, 115]⟩)] rfl rfl ?c1 ?c2 ?c3 ?c4 ?c5 ?_))
          case c1 => (refine news_cells _ [_] _ _ ?_); simp
          case c2 => intro u hu; simp at hu; subst hu; rfl
          case c3 => have := HK.out; unfold maxLen; omega
          case c4 => have := HK.out; omega
          case c5 => simp; omega
          intro v' w1 hown' hgrow _
          have HW1 := Lib.hid (World.Grows.grown (W := w) (World.Grows.trans' HG.out growsA) hgrow (fun k hk => (HO.out.lt k hk).1))
          have HO1 := Lib.hid hown'
          clear hown' hgrow
          go_wp2_with fail
          go_roundw
          case rel => exact ⟨k + 1, _, rfl, HK.out.1, by go_num, HW1.out, by rw [HNX.out]; exact HO1.out⟩
          case measure => simp [intOf]; have := HK.out; omega
        | false =>
          rw [hTX, if_pos rfl, if_neg (by decide)] at HNX
          clear hTX
          go_wp2_with (first | (go_at_call 19; refine (HF.out _ growsA).mono ?_; rintro e' w' ⟨rfl, bs, d, rfl⟩) | (at_builtin; refine wpList_append_own _ rfl _ _ 55 rfl w.heap.size 9 i0 (.string ⟨#[]⟩) 1 16 Tryd.underlying55 hi hz0 hz1 hz2 rfl (by decide) _ _ _ rfl (own_grow HO.out growsA) ⟨wr.heap.size + 1 + bs.size, 0, none⟩ 1 1 [.string (nm ++ ⟨#[32, 61, 32]⟩ ++ ⟨#[110, 111]⟩)] rfl rfl ?c1 ?c2 ?c3 ?c4 ?c5 ?_))
          case c1 => (refine news_cells _ [_] _ _ ?_); simp
          case c2 => intro u hu; simp at hu; subst hu; rfl
          case c3 => have := HK.out; unfold maxLen; omega
          case c4 => have := HK.out; omega
          case c5 => simp; omega
          intro v' w1 hown' hgrow _
          have HW1 := Lib.hid (World.Grows.grown (W := w) (World.Grows.trans' HG.out growsA) hgrow (fun k hk => (HO.out.lt k hk).1))
          have HO1 := Lib.hid hown'
          clear hown' hgrow
          go_wp2_with fail
          go_roundw
          case rel => exact ⟨k + 1, _, rfl, HK.out.1, by go_num, HW1.out, by rw [HNX.out]; exact HO1.out⟩
          case measure => simp [intOf]; have := HK.out; omega
      · have hm1 : (m == 1) = false := by simpa using m1
        have hy : y = false := (Val.ok_num HOK.out m1).2.2.1
        subst hy
        rw [hTX, if_neg m1] at HNX
        clear hTX
        by_cases m3 : m = 3
        · subst m3
          have HNX := Lib.hid (show lnL (st.take (k + 1)) = lnL (st.take k) ++ [.string (nm ++ ⟨#[32, 61, 32]⟩ ++ (fr ++ ⟨#[100]⟩))] from HNX.out)
          go_wp2_with (first | (go_at_call 19; refine (HF.out _ growsA).mono ?_; rintro e' w' ⟨rfl, bs, d, rfl⟩) | (at_builtin; refine wpList_append_own _ rfl _ _ 55 rfl w.heap.size 9 i0 (.string ⟨#[]⟩) 1 16 Tryd.underlying55 hi hz0 hz1 hz2 rfl (by decide) _ _ _ rfl (own_grow HO.out growsA) ⟨wr.heap.size + 1 + bs.size, 0, none⟩ 1 1 [.string (nm ++ ⟨#[32, 61, 32]⟩ ++ (fr ++ ⟨#[100]⟩))] rfl rfl ?c1 ?c2 ?c3 ?c4 ?c5 ?_))
          case c1 => (refine news_cells _ [_] _ _ ?_); simp
          case c2 => intro u hu; simp at hu; subst hu; rfl
          case c3 => have := HK.out; unfold maxLen; omega
          case c4 => have := HK.out; omega
          case c5 => simp; omega
          intro v' w1 hown' hgrow _
          have HW1 := Lib.hid (World.Grows.grown (W := w) (World.Grows.trans' HG.out growsA) hgrow (fun k hk => (HO.out.lt k hk).1))
          have HO1 := Lib.hid hown'
          clear hown' hgrow
          go_wp2_with fail
          go_roundw
          case rel => exact ⟨k + 1, _, rfl, HK.out.1, by go_num, HW1.out, by rw [HNX.out]; exact HO1.out⟩
          case measure => simp [intOf]; have := HK.out; omega
        · have hm3 : (m == 3) = false := by simpa using m3
          by_cases m4 : m = 4
          · subst m4
            have HNX := Lib.hid (show lnL (st.take (k + 1)) = lnL (st.take k) ++ [.string (nm ++ ⟨#[32, 61, 32]⟩ ++ (fr ++ ⟨#[109]⟩))] from HNX.out)
            go_wp2_with (first | (go_at_call 19; refine (HF.out _ growsA).mono ?_; rintro e' w' ⟨rfl, bs, d, rfl⟩) | (at_builtin; refine wpList_append_own _ rfl _ _ 55 rfl w.heap.size 9 i0 (.string ⟨#[]⟩) 1 16 Tryd.underlying55 hi hz0 hz1 hz2 rfl (by decide) _ _ _ rfl (own_grow HO.out growsA) ⟨wr.heap.size + 1 + bs.size, 0, none⟩ 1 1 [.string (nm ++ ⟨#[32, 61, 32]⟩ ++ (fr ++ ⟨#[109]⟩))] rfl rfl ?c1 ?c2 ?c3 ?c4 ?c5 ?_))
            case c1 => (refine news_cells _ [_] _ _ ?_); simp
            case c2 => intro u hu; simp at hu; subst hu; rfl
            case c3 => have := HK.out; unfold maxLen; omega
            case c4 => have := HK.out; omega
            case c5 => simp; omega
            intro v' w1 hown' hgrow _
            have HW1 := Lib.hid (World.Grows.grown (W := w) (World.Grows.trans' HG.out growsA) hgrow (fun k hk => (HO.out.lt k hk).1))
            have HO1 := Lib.hid hown'
            clear hown' hgrow
            go_wp2_with fail
            go_roundw
            case rel => exact ⟨k + 1, _, rfl, HK.out.1, by go_num, HW1.out, by rw [HNX.out]; exact HO1.out⟩
            case measure => simp [intOf]; have := HK.out; omega
          · have hm4 : (m == 4) = false := by simpa using m4
            have HNX := Lib.hid (show lnL (st.take (k + 1)) = lnL (st.take k) ++ [.string (nm ++ ⟨#[32, 61, 32]⟩ ++ fr)] from by rw [HNX.out]; unfold sufV; rw [if_neg m3, if_neg m4, show (⟨#[]⟩ : ByteArray) = ByteArray.empty from rfl, ByteArray.append_empty])
            go_wp2_with (first | (go_at_call 19; refine (HF.out _ growsA).mono ?_; rintro e' w' ⟨rfl, bs, d, rfl⟩) | (at_builtin; refine wpList_append_own _ rfl _ _ 55 rfl w.heap.size 9 i0 (.string ⟨#[]⟩) 1 16 Tryd.underlying55 hi hz0 hz1 hz2 rfl (by decide) _ _ _ rfl (own_grow HO.out growsA) ⟨wr.heap.size + 1 + bs.size, 0, none⟩ 1 1 [.string (nm ++ ⟨#[32, 61, 32]⟩ ++ fr)] rfl rfl ?c1 ?c2 ?c3 ?c4 ?c5 ?_))
            case c1 => (refine news_cells _ [_] _ _ ?_); simp
            case c2 => intro u hu; simp at hu; subst hu; rfl
            case c3 => have := HK.out; unfold maxLen; omega
            case c4 => have := HK.out; omega
            case c5 => simp; omega
            intro v' w1 hown' hgrow _
            have HW1 := Lib.hid (World.Grows.grown (W := w) (World.Grows.trans' HG.out growsA) hgrow (fun k hk => (HO.out.lt k hk).1))
            have HO1 := Lib.hid hown'
            clear hown' hgrow
            go_wp2_with fail
            go_roundw
            case rel => exact ⟨k + 1, _, rfl, HK.out.1, by go_num, HW1.out, by rw [HNX.out]; exact HO1.out⟩
            case measure => simp [intOf]; have := HK.out; omega
    · obtain rfl : k = st.length := by omega
      clear hG hlt hk
      go_wp2_with fail
      go_returns
      exact ⟨vb, rfl, HG.out, by have := hown; rw [List.take_length] at this; unfold StrRow; rw [List.length_map]; exact this⟩
set_option maxRecDepth 1000000 in
set_option maxHeartbeats 8000000 in
theorem Explain8_any (st : List (ByteArray × Val)) (va : Value) (w : World) (h : StpAt w va st) (hs : StpSm st) (ht : Tab w) : Calls Tryd.prog 10 #[va] w (LnP st w) := by
  obtain ⟨i0, hi, hz0, hz1, hz2⟩ := info_parts infoStr
  have HA := Lib.hid h
  have HT := Lib.hid ht
  have HS := Lib.hid hs
  obtain ⟨h1000, a, c, rfl, -⟩ := h
  clear hs ht
  go_enter Tryd.func10, Tryd.ntmps10
  go_wp2_with fail
  go_loopw [3, 4] (fun v3 v9 wr => ∃ (k : Nat) (vb : Value), vb = v3 ∧ k ≤ st.length ∧ v9 = .int .i64 k ∧ w.Grows wr ∧ wr.ownsRow w.heap.size 9 1 vb k (lnL (st.take k))) (fun _ v9 _ => st.length - (intOf v9).toNat)
  case atStart => exact ⟨0, _, rfl, by omega, rfl, .refl _, World.ownsRow_nil _ _ _ _⟩
  case round =>
    obtain ⟨k, vb, rfl, hk, rfl, hG, hown⟩ := hrel
    have HG := Lib.hid hG
    by_cases hlt : k < st.length
    · obtain ⟨b, o, rfl, hb, p0, p1, p2, p3, p4⟩ := stp_cells (HA.out.grows hG) hlt
      have d1 : (k : Int) < (st.length : Int) := by omega
      have HNX := Lib.hid (ln_take hlt)
      have hsW := hG.below.size
      have hsm := HS.out.at hlt
      have hbd := ok_i64 hsm.2
      have HF := Lib.hid (fun w' (hg : wr.Grows w') => FormatFraction_any (stV st k).n (stV st k).d w' (by omega) (by omega) (by omega) (by omega))
      have HFZ := Lib.hid (fracS_size (n := (stV st k).n) (d := (stV st k).d))
      have HOK := Lib.hid hsm.2
      have hz := hsm.1
      have hK : k + 1 ≤ st.length ∧ k ≤ 1000 := by omega
      have HK := Lib.hid hK
      have HO := Lib.hid hown
      generalize stN st k = nm at *
      generalize stV st k = x at *
      obtain ⟨m, y, n, d0⟩ := x
      dsimp only at p1 p2 p3 p4 hbd HF HFZ
      have hTX : txV ⟨m, y, n, d0⟩ = if m = 1 then (if y = true then ⟨#[121, 101, 115]⟩ else ⟨#[110, 111]⟩) else fracS n d0 ++ sufV m := rfl
      have hfz := HFZ.out
      clear hown hG hlt hk hsm hK HFZ
      generalize fracS n d0 = fr at *
      by_cases m1 : m = 1
      · subst m1
        cases y with
        | true =>
          rw [hTX, if_pos rfl, if_pos rfl] at HNX
          clear hTX
          go_wp2_with (first | (go_at_call 20; refine (HF.out _ growsA).mono ?_; rintro e' w' ⟨rfl, bs, d, rfl⟩) | (at_builtin; refine wpList_append_own _ rfl _ _ 55 rfl w.heap.size 9 i0 (.string ⟨#[]⟩) 1 16 Tryd.underlying55 hi hz0 hz1 hz2 rfl (by decide) _ _ _ rfl (own_grow HO.out growsA) ⟨wr.heap.size + 1, 0, none⟩ 1 1 [.string (nm ++ ⟨#[32, 61, 32]⟩ ++ ⟨#[121, 101, 115]⟩)] rfl rfl ?c1 ?c2 ?c3 ?c4 ?c5 ?_))
          case c1 => (refine news_cells _ [_] _ _ ?_); simp
          case c2 => intro u hu; simp at hu; subst hu; rfl
          case c3 => have := HK.out; unfold maxLen; omega
          case c4 => have := HK.out; omega
          case c5 => simp; omega
          intro v' w1 hown' hgrow _
          have HW1 := Lib.hid (World.Grows.grown (W := w) (World.Grows.trans' HG.out growsA) hgrow (fun k hk => (HO.out.lt k hk).1))
          have HO1 := Lib.hid hown'
          clear hown' hgrow
          go_wp2_with fail
          go_roundw
          case rel => exact ⟨k + 1, _, rfl, HK.out.1, by go_num, HW1.out, by rw [HNX.out]; exact HO1.out⟩
          case measure => simp [intOf]; have := HK.out; omega
        | false =>
          rw [hTX, if_pos rfl, if_neg (by decide)] at HNX
          clear hTX
          go_wp2_with (first | (go_at_call 20; refine (HF.out _ growsA).mono ?_; rintro e' w' ⟨rfl, bs, d, rfl⟩) | (at_builtin; refine wpList_append_own _ rfl _ _ 55 rfl w.heap.size 9 i0 (.string ⟨#[]⟩) 1 16 Tryd.underlying55 hi hz0 hz1 hz2 rfl (by decide) _ _ _ rfl (own_grow HO.out growsA) ⟨wr.heap.size + 1, 0, none⟩ 1 1 [.string (nm ++ ⟨#[32, 61, 32]⟩ ++ ⟨#[110, 111]⟩)] rfl rfl ?c1 ?c2 ?c3 ?c4 ?c5 ?_))
          case c1 => (refine news_cells _ [_] _ _ ?_); simp
          case c2 => intro u hu; simp at hu; subst hu; rfl
          case c3 => have := HK.out; unfold maxLen; omega
          case c4 => have := HK.out; omega
          case c5 => simp; omega
          intro v' w1 hown' hgrow _
          have HW1 := Lib.hid (World.Grows.grown (W := w) (World.Grows.trans' HG.out growsA) hgrow (fun k hk => (HO.out.lt k hk).1))
          have HO1 := Lib.hid hown'
          clear hown' hgrow
          go_wp2_with fail
          go_roundw
          case rel => exact ⟨k + 1, _, rfl, HK.out.1, by go_num, HW1.out, by rw [HNX.out]; exact HO1.out⟩
          case measure => simp [intOf]; have := HK.out; omega
      · have hm1 : (m == 1) = false := by simpa using m1
        have hy : y = false := (Val.ok_num HOK.out m1).2.2.1
        subst hy
        rw [hTX, if_neg m1] at HNX
        clear hTX
        by_cases m3 : m = 3
        · subst m3
          have HNX := Lib.hid (show lnL (st.take (k + 1)) = lnL (st.take k) ++ [.string (nm ++ ⟨#[32, 61, 32]⟩ ++ (fr ++ ⟨#[100]⟩))] from HNX.out)
          go_wp2_with (first | (go_at_call 20; refine (HF.out _ growsA).mono ?_; rintro e' w' ⟨rfl, bs, d, rfl⟩) | (at_builtin; refine wpList_append_own _ rfl _ _ 55 rfl w.heap.size 9 i0 (.string ⟨#[]⟩) 1 16 Tryd.underlying55 hi hz0 hz1 hz2 rfl (by decide) _ _ _ rfl (own_grow HO.out growsA) ⟨wr.heap.size + 1 + bs.size, 0, none⟩ 1 1 [.string (nm ++ ⟨#[32, 61, 32]⟩ ++ (fr ++ ⟨#[100]⟩))] rfl rfl ?c1 ?c2 ?c3 ?c4 ?c5 ?_))
          case c1 => (refine news_cells _ [_] _ _ ?_); simp
          case c2 => intro u hu; simp at hu; subst hu; rfl
          case c3 => have := HK.out; unfold maxLen; omega
          case c4 => have := HK.out; omega
          case c5 => simp; omega
          intro v' w1 hown' hgrow _
          have HW1 := Lib.hid (World.Grows.grown (W := w) (World.Grows.trans' HG.out growsA) hgrow (fun k hk => (HO.out.lt k hk).1))
          have HO1 := Lib.hid hown'
          clear hown' hgrow
          go_wp2_with fail
          go_roundw
          case rel => exact ⟨k + 1, _, rfl, HK.out.1, by go_num, HW1.out, by rw [HNX.out]; exact HO1.out⟩
          case measure => simp [intOf]; have := HK.out; omega
        · have hm3 : (m == 3) = false := by simpa using m3
          by_cases m4 : m = 4
          · subst m4
            have HNX := Lib.hid (show lnL (st.take (k + 1)) = lnL (st.take k) ++ [.string (nm ++ ⟨#[32, 61, 32]⟩ ++ (fr ++ ⟨#[109]⟩))] from HNX.out)
            go_wp2_with (first | (go_at_call 20; refine (HF.out _ growsA).mono ?_; rintro e' w' ⟨rfl, bs, d, rfl⟩) | (at_builtin; refine wpList_append_own _ rfl _ _ 55 rfl w.heap.size 9 i0 (.string ⟨#[]⟩) 1 16 Tryd.underlying55 hi hz0 hz1 hz2 rfl (by decide) _ _ _ rfl (own_grow HO.out growsA) ⟨wr.heap.size + 1 + bs.size, 0, none⟩ 1 1 [.string (nm ++ ⟨#[32, 61, 32]⟩ ++ (fr ++ ⟨#[109]⟩))] rfl rfl ?c1 ?c2 ?c3 ?c4 ?c5 ?_))
            case c1 => (refine news_cells _ [_] _ _ ?_); simp
            case c2 => intro u hu; simp at hu; subst hu; rfl
            case c3 => have := HK.out; unfold maxLen; omega
            case c4 => have := HK.out; omega
            case c5 => simp; omega
            intro v' w1 hown' hgrow _
            have HW1 := Lib.hid (World.Grows.grown (W := w) (World.Grows.trans' HG.out growsA) hgrow (fun k hk => (HO.out.lt k hk).1))
            have HO1 := Lib.hid hown'
            clear hown' hgrow
            go_wp2_with fail
            go_roundw
            case rel => exact ⟨k + 1, _, rfl, HK.out.1, by go_num, HW1.out, by rw [HNX.out]; exact HO1.out⟩
            case measure => simp [intOf]; have := HK.out; omega
          · have hm4 : (m == 4) = false := by simpa using m4
            have HNX := Lib.hid (show lnL (st.take (k + 1)) = lnL (st.take k) ++ [.string (nm ++ ⟨#[32, 61, 32]⟩ ++ fr)] from by rw [HNX.out]; unfold sufV; rw [if_neg m3, if_neg m4, show (⟨#[]⟩ : ByteArray) = ByteArray.empty from rfl, ByteArray.append_empty])
            go_wp2_with (first | (go_at_call 20; refine (HF.out _ growsA).mono ?_; rintro e' w' ⟨rfl, bs, d, rfl⟩) | (at_builtin; refine wpList_append_own _ rfl _ _ 55 rfl w.heap.size 9 i0 (.string ⟨#[]⟩) 1 16 Tryd.underlying55 hi hz0 hz1 hz2 rfl (by decide) _ _ _ rfl (own_grow HO.out growsA) ⟨wr.heap.size + 1 + bs.size, 0, none⟩ 1 1 [.string (nm ++ ⟨#[32, 61, 32]⟩ ++ fr)] rfl rfl ?c1 ?c2 ?c3 ?c4 ?c5 ?_))
            case c1 => (refine news_cells _ [_] _ _ ?_); simp
            case c2 => intro u hu; simp at hu; subst hu; rfl
            case c3 => have := HK.out; unfold maxLen; omega
            case c4 => have := HK.out; omega
            case c5 => simp; omega
            intro v' w1 hown' hgrow _
            have HW1 := Lib.hid (World.Grows.grown (W := w) (World.Grows.trans' HG.out growsA) hgrow (fun k hk => (HO.out.lt k hk).1))
            have HO1 := Lib.hid hown'
            clear hown' hgrow
            go_wp2_with fail
            go_roundw
            case rel => exact ⟨k + 1, _, rfl, HK.out.1, by go_num, HW1.out, by rw [HNX.out]; exact HO1.out⟩
            case measure => simp [intOf]; have := HK.out; omega
    · obtain rfl : k = st.length := by omega
      clear hG hlt hk
      go_wp2_with fail
      go_returns
      exact ⟨vb, rfl, HG.out, by have := hown; rw [List.take_length] at this; unfold StrRow; rw [List.length_map]; exact this⟩
end Go.Proofs.YthionhbjmheimaaDoor
