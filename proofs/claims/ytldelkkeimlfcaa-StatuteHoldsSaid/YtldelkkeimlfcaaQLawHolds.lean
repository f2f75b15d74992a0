/- StatuteHolds: for every input the law returns true. -/
import Derived.Test.YtldelkkeimlfcaaQLawDays
set_option linter.all false
namespace Go.Proofs.Ytldelkkeimlfcaa
open Go.ChangeShapes Go.WideShapes Go.ChangeAt Go.RowKit
theorem insAll_pos {zs : List Int} (h : 0 < zs.length) : 0 < (insAll zs).length := by
  rcases Nat.eq_zero_or_pos (insAll zs).length with h0 | h0
  · have := insAll_nil (List.eq_nil_of_length_eq_zero h0)
    rw [this] at h; simp at h
  · exact h0
/-- Where no day of change lies between them two days have one version; there is one if the first change is not later. -/
theorem holds_plain {L : List VerP} {zs : List Int} {lo hi : Int} {V V' : VerP} {ok ok' : Bool} (hz : insAll (frms L) = zs) (hm : Asc zs ∧ ∀ y, y ∈ zs ↔ y ∈ frms L) (h0 : 0 < zs.length) (hlo : 0 ≤ lo) (hhi : hi ≤ 73048) (hle : lo ≤ hi)
    (hno : ∀ i, i < zs.length → ¬ (lo < zs.getD i 0 ∧ zs.getD i 0 ≤ hi)) (h : AtR L lo V ok) (h' : AtR L hi V' ok') : V = V' ∧ ok = ok' ∧ (ok = true ↔ zs.getD 0 0 ≤ lo) := by
  have key : ∀ (i : Nat) (U : VerP), L[i]? = some U → (U.frm ≤ hi → U.frm ≤ lo) ∧ zs.getD 0 0 ≤ U.frm := by
    intro i U hU
    have hmem : U.frm ∈ zs := (hm.2 _).2 (List.mem_map.2 ⟨U, List.mem_of_getElem? hU, rfl⟩)
    obtain ⟨j, hj, he⟩ := List.mem_iff_getElem.1 hmem
    have hg : zs.getD j 0 = U.frm := by rw [List.getD_eq_getElem?_getD, List.getElem?_eq_getElem hj]; exact he
    refine ⟨fun hh => ?_, ?_⟩
    · have := hno j hj
      rw [hg] at this
      omega
    · rcases Nat.eq_zero_or_pos j with h3 | h3
      · subst h3; rw [hg]; exact Int.le_refl _
      · have := asc_get hm.1 h3 hj; rw [hg] at this; omega
  have hd : DayOk lo := ⟨hlo, by omega⟩
  have hd' : DayOk hi := ⟨by omega, hhi⟩
  have hx : AtR L hi V ok := by
    rcases h with ⟨rfl, _, k, h1, h2, h3⟩ | ⟨rfl, rfl, h1⟩
    · exact .inl ⟨rfl, hd', k, h1, by omega, fun i U hi2 hU => by
        have := h3 i U hi2 hU
        have := (key i U hU).1
        omega⟩
    · refine .inr ⟨rfl, rfl, .inr fun i U hU => ?_⟩
      rcases h1 with h1 | h1
      · exact absurd hd h1
      · have := h1 i U hU
        have := (key i U hU).1
        omega
  obtain ⟨rfl, rfl⟩ := hx.uniq h'
  refine ⟨rfl, rfl, ?_⟩
  rcases h with ⟨rfl, _, k, h1, h2, h3⟩ | ⟨rfl, rfl, h1⟩
  · have h5 := (key k V h1).2
    exact ⟨fun _ => by omega, fun _ => rfl⟩
  · simp only [Bool.false_eq_true, false_iff]
    intro hc
    have hmem : zs.getD 0 0 ∈ zs := by rw [List.getD_eq_getElem?_getD, List.getElem?_eq_getElem h0]; exact List.getElem_mem h0
    obtain ⟨U, hU, he⟩ := List.mem_map.1 ((hm.2 _).1 hmem)
    obtain ⟨i, hi2, hi3⟩ := List.mem_iff_getElem.1 hU
    rcases h1 with h1 | h1
    · exact absurd hd h1
    · have := h1 i U (by rw [List.getElem?_eq_getElem hi2, hi3])
      omega
set_option maxHeartbeats 8000000 in
set_option maxRecDepth 100000 in
theorem holds_any (hOf : Hid OfSaid) (Rs : List RawV) (v : Value) (order from_ to_ : Int) (w : World) (h : RawsAt w v Rs) (ho : I64 order) :
    Calls Try.prog 8 #[v, .int .i64 order, .int .i64 from_, .int .i64 to_] w fun e w' => e = .returned (.bool true) ∧ w.Grows w' := by
  have HR := Lib.hid h
  obtain ⟨hlen, a, cap, rfl, -⟩ := h
  by_cases h4 : Rs.length > 4
  · have hc : (4 : Int) < (Rs.length : Int) := by omega
    go_enter Try.func8, Try.ntmps8
    go_wp2_with fail
    go_returns
    exact ⟨rfl, .refl _⟩
  · have hc : ¬ (4 : Int) < (Rs.length : Int) := by omega
    obtain ⟨L, hL⟩ : ∃ L, statL Rs order = L := ⟨_, rfl⟩
    have hL0 := statL_pos Rs order
    have hL3 := statL_le Rs order
    rw [hL] at hL0 hL3
    have HO := Lib.hid ho
    go_enter Try.func8, Try.ntmps8
    go_wp2_with fail
    refine (stat_any hOf Rs _ order w HR.out HO.out).mono ?_
    rintro e w1 ⟨v2, x, rfl, hg1, hvs⟩
    rw [hL] at hvs
    have HVS := Lib.hid hvs
    obtain ⟨hn, a2, cap2, rfl, -⟩ := hvs.lies
    have hb1 := hg1.below
    have HB1 := Lib.hid hb1
    generalize 1 + pick order 3 = cur at *
    have HLN : Hid ((insAll (frms L)).length ≤ 1000) := Lib.hid (by
      have := insAll_length (frms L)
      have h2 : (frms L).length = L.length := by simp [frms]
      omega)
    go_upto_region 4 with fail
    have HBA := Lib.hid (hb1.alloc hb1.size (.cells #[.string lawN, .int .i64 cur, .slice a2 L.length cap2] 53))
    have HVA := Lib.hid (hvs.alloc (.cells #[.string lawN, .int .i64 cur, .slice a2 L.length cap2] 53))
    have k0 : (w1.alloc (.cells #[.string lawN, .int .i64 cur, .slice a2 L.length cap2] 53)).cell? ⟨w1.heap.size, 0, none⟩ = some (.string lawN) := by rw [World.cell?_alloc_at _ _ _ _ rfl]; rfl
    have k1 : (w1.alloc (.cells #[.string lawN, .int .i64 cur, .slice a2 L.length cap2] 53)).cell? ⟨w1.heap.size, 1, none⟩ = some (.int .i64 cur) := by rw [World.cell?_alloc_at _ _ _ _ rfl]; rfl
    have k2 : (w1.alloc (.cells #[.string lawN, .int .i64 cur, .slice a2 L.length cap2] 53)).cell? ⟨w1.heap.size, 2, none⟩ = some (.slice a2 L.length cap2) := by rw [World.cell?_alloc_at _ _ _ _ rfl]; rfl
    have hka : w1.heap.size < (w1.alloc (.cells #[.string lawN, .int .i64 cur, .slice a2 L.length cap2] 53)).heap.size := by simp
    clear hvs hg1 hb1 hL HVS HB1
    generalize w1.alloc (.cells #[.string lawN, .int .i64 cur, .slice a2 L.length cap2] 53) = wa at *
    generalize w1.heap.size = b9 at *
    have hp := pick_bd from_ 73049 (by omega)
    obtain ⟨hp0, hp1⟩ := hp
    have hq := pick_bd to_ 73049 (by omega)
    obtain ⟨hq0, hq1⟩ := hq
    go_upto_region 5 with (go_at_call 10; refine (Pick_any _ _ _ (by omega)).mono ?_; rintro e w' ⟨rfl, rfl⟩)
    generalize pick from_ 73049 = pf at *
    generalize pick to_ 73049 = pt at *
    by_cases hsw : pt < pf
    · have HSW := Lib.hid (show pt ≤ pf by omega)
      go_wp2_with fail
      refine (chgP_any lawN _ _ _ x wa HVA.out hL0).mono ?_
      rintro e w2 ⟨vp, rfl, hg2, hip, hcp⟩
      rw [chg_same] at hip
      have HASC := Lib.hid (insAll_asc (frms L))
      have hz0 := insAll_pos (zs := frms L) (by simpa [frms] using hL0)
      obtain ⟨zs, hzs⟩ : ∃ zs, insAll (frms L) = zs := ⟨_, rfl⟩
      rw [hzs] at hip HLN HASC hz0
      have HZS := Lib.hid hzs
      obtain ⟨va, vc, hvp⟩ := IntsAt.form hip
      subst hvp
      have hlz := HLN.out
      have hb2 := hg2.below
      have l0 : w2.cell? ⟨b9, 0, none⟩ = some (.string lawN) := (hb2.cell (p := ⟨b9, 0, none⟩) hka).trans k0
      have l1 : w2.cell? ⟨b9, 1, none⟩ = some (.int .i64 cur) := (hb2.cell (p := ⟨b9, 1, none⟩) hka).trans k1
      have l2 : w2.cell? ⟨b9, 2, none⟩ = some (.slice a2 L.length cap2) := (hb2.cell (p := ⟨b9, 2, none⟩) hka).trans k2
      have hs2 := hb2.size
      have HB2 := Lib.hid (HBA.out.trans (hb2.mono HBA.out.size))
      have HV2 := Lib.hid (HVA.out.same hb2)
      obtain ⟨-, -, a', c', hv', hcz⟩ := id hip
      simp only [Value.slice.injEq, true_and] at hv'
      obtain ⟨rfl, rfl⟩ := hv'
      have HCZ := Lib.hid hcz
      clear hg2 hip hcp hb2 k0 k1 k2 hzs hcz
      go_upto_block 0 with fail
      go_wp2_with fail
      go_loop [11] (fun v11 => ∃ k : Nat, k ≤ zs.length ∧ v11 = .int .i64 k ∧ Hid (∀ i, i < k → ¬ (pt < zs.getD i 0 ∧ zs.getD i 0 ≤ pf))) (fun v11 => zs.length - (intOf v11).toNat)
      case atStart => exact ⟨0, by omega, rfl, Lib.hid (fun i hi => by omega)⟩
      case round =>
        obtain ⟨k, hk, rfl, HNO⟩ := hrel
        by_cases hlt : k < zs.length
        · rcases HCZ.out with h0 | ⟨b, off, rfl, hb, hc⟩
          · omega
          have x0 := hc k hlt
          have d1 : (k : Int) < (zs.length : Int) := by omega
          have d0 : (0 : Int) ≤ (k : Int) := by omega
          obtain ⟨z, hz⟩ : ∃ z, zs.getD k 0 = z := ⟨_, rfl⟩
          rw [hz] at x0
          have HZ := Lib.hid hz
          clear hc hz
          by_cases h1 : pt < z
          · by_cases h2 : z ≤ pf
            · go_wp2_with fail
              refine (awake_any _).mono ?_
              rintro e w9 ⟨rfl, hg9⟩
              have HB9 := Lib.hid (HB2.out.trans (hg9.below.mono HB2.out.size))
              clear hg9
              go_wp2_with fail
              go_returns
              exact ⟨rfl, .of_below HB9.out⟩
            · have HX := Lib.hid h2
              go_wp2_with fail
              go_round
              case rel => exact ⟨k + 1, by omega, by go_num, Lib.hid (fun i hi => by
                rcases Nat.lt_or_ge i k with h3 | h3
                · exact HNO.out i h3
                · obtain rfl : i = k := by omega
                  rw [HZ.out]
                  rintro ⟨h5, h6⟩
                  exact HX.out h6)⟩
              case measure => simp [intOf]; omega
          · have HX := Lib.hid h1
            go_wp2_with fail
            go_round
            case rel => exact ⟨k + 1, by omega, by go_num, Lib.hid (fun i hi => by
              rcases Nat.lt_or_ge i k with h3 | h3
              · exact HNO.out i h3
              · obtain rfl : i = k := by omega
                rw [HZ.out]
                rintro ⟨h5, h6⟩
                exact HX.out h5)⟩
            case measure => simp [intOf]; omega
        · obtain rfl : k = zs.length := by omega
          go_upto_region 13 with fail
          go_wp2_with fail
          refine (atP_any lawN _ _ _ x (pt) w2 HV2.out).mono ?_
          rintro e w3 ⟨V, ok, v3, v4, v5, v6, v7, rfl, hg3, hver, hat⟩
          obtain ⟨⟨a3, n3, c3, rfl⟩, ⟨a4, n4, c4, rfl⟩, ⟨a5, n5, c5, rfl⟩, ⟨a6, n6, c6, rfl⟩, ⟨a7, n7, c7, rfl⟩⟩ := hver.form2
          have hb3 := hg3.below
          have m0 : w3.cell? ⟨b9, 0, none⟩ = some (.string lawN) := (hb3.cell (p := ⟨b9, 0, none⟩) (by show b9 < w2.heap.size; omega)).trans l0
          have m1 : w3.cell? ⟨b9, 1, none⟩ = some (.int .i64 cur) := (hb3.cell (p := ⟨b9, 1, none⟩) (by show b9 < w2.heap.size; omega)).trans l1
          have m2 : w3.cell? ⟨b9, 2, none⟩ = some (.slice a2 L.length cap2) := (hb3.cell (p := ⟨b9, 2, none⟩) (by show b9 < w2.heap.size; omega)).trans l2
          have hs3 := hb3.size
          go_upto_region 14 with fail
          have p0 : (w3.alloc (.cells #[.int .i64 V.frm, .int .i64 V.mode, .int .i64 V.unit, .slice a3 n3 c3, .slice a4 n4 c4, .slice a5 n5 c5, .slice a6 n6 c6, .slice a7 n7 c7] 34)).cell? ⟨w3.heap.size, 0, none⟩ = some (.int .i64 V.frm) := by rw [World.cell?_alloc_at _ _ _ _ rfl]; rfl
          have p1 : (w3.alloc (.cells #[.int .i64 V.frm, .int .i64 V.mode, .int .i64 V.unit, .slice a3 n3 c3, .slice a4 n4 c4, .slice a5 n5 c5, .slice a6 n6 c6, .slice a7 n7 c7] 34)).cell? ⟨w3.heap.size, 1, none⟩ = some (.int .i64 V.mode) := by rw [World.cell?_alloc_at _ _ _ _ rfl]; rfl
          have p2 : (w3.alloc (.cells #[.int .i64 V.frm, .int .i64 V.mode, .int .i64 V.unit, .slice a3 n3 c3, .slice a4 n4 c4, .slice a5 n5 c5, .slice a6 n6 c6, .slice a7 n7 c7] 34)).cell? ⟨w3.heap.size, 2, none⟩ = some (.int .i64 V.unit) := by rw [World.cell?_alloc_at _ _ _ _ rfl]; rfl
          have p3 : (w3.alloc (.cells #[.int .i64 V.frm, .int .i64 V.mode, .int .i64 V.unit, .slice a3 n3 c3, .slice a4 n4 c4, .slice a5 n5 c5, .slice a6 n6 c6, .slice a7 n7 c7] 34)).cell? ⟨w3.heap.size, 3, none⟩ = some (.slice a3 n3 c3) := by rw [World.cell?_alloc_at _ _ _ _ rfl]; rfl
          have p4 : (w3.alloc (.cells #[.int .i64 V.frm, .int .i64 V.mode, .int .i64 V.unit, .slice a3 n3 c3, .slice a4 n4 c4, .slice a5 n5 c5, .slice a6 n6 c6, .slice a7 n7 c7] 34)).cell? ⟨w3.heap.size, 4, none⟩ = some (.slice a4 n4 c4) := by rw [World.cell?_alloc_at _ _ _ _ rfl]; rfl
          have p5 : (w3.alloc (.cells #[.int .i64 V.frm, .int .i64 V.mode, .int .i64 V.unit, .slice a3 n3 c3, .slice a4 n4 c4, .slice a5 n5 c5, .slice a6 n6 c6, .slice a7 n7 c7] 34)).cell? ⟨w3.heap.size, 5, none⟩ = some (.slice a5 n5 c5) := by rw [World.cell?_alloc_at _ _ _ _ rfl]; rfl
          have p6 : (w3.alloc (.cells #[.int .i64 V.frm, .int .i64 V.mode, .int .i64 V.unit, .slice a3 n3 c3, .slice a4 n4 c4, .slice a5 n5 c5, .slice a6 n6 c6, .slice a7 n7 c7] 34)).cell? ⟨w3.heap.size, 6, none⟩ = some (.slice a6 n6 c6) := by rw [World.cell?_alloc_at _ _ _ _ rfl]; rfl
          have p7 : (w3.alloc (.cells #[.int .i64 V.frm, .int .i64 V.mode, .int .i64 V.unit, .slice a3 n3 c3, .slice a4 n4 c4, .slice a5 n5 c5, .slice a6 n6 c6, .slice a7 n7 c7] 34)).cell? ⟨w3.heap.size, 7, none⟩ = some (.slice a7 n7 c7) := by rw [World.cell?_alloc_at _ _ _ _ rfl]; rfl
          have hb4 : Below w2.heap.size w2 (w3.alloc (.cells #[.int .i64 V.frm, .int .i64 V.mode, .int .i64 V.unit, .slice a3 n3 c3, .slice a4 n4 c4, .slice a5 n5 c5, .slice a6 n6 c6, .slice a7 n7 c7] 34)) := hb3.alloc hs3 _
          have n0 : (w3.alloc (.cells #[.int .i64 V.frm, .int .i64 V.mode, .int .i64 V.unit, .slice a3 n3 c3, .slice a4 n4 c4, .slice a5 n5 c5, .slice a6 n6 c6, .slice a7 n7 c7] 34)).cell? ⟨b9, 0, none⟩ = some (.string lawN) := (hb4.cell (p := ⟨b9, 0, none⟩) (by show b9 < w2.heap.size; omega)).trans l0
          have n1 : (w3.alloc (.cells #[.int .i64 V.frm, .int .i64 V.mode, .int .i64 V.unit, .slice a3 n3 c3, .slice a4 n4 c4, .slice a5 n5 c5, .slice a6 n6 c6, .slice a7 n7 c7] 34)).cell? ⟨b9, 1, none⟩ = some (.int .i64 cur) := (hb4.cell (p := ⟨b9, 1, none⟩) (by show b9 < w2.heap.size; omega)).trans l1
          have n2 : (w3.alloc (.cells #[.int .i64 V.frm, .int .i64 V.mode, .int .i64 V.unit, .slice a3 n3 c3, .slice a4 n4 c4, .slice a5 n5 c5, .slice a6 n6 c6, .slice a7 n7 c7] 34)).cell? ⟨b9, 2, none⟩ = some (.slice a2 L.length cap2) := (hb4.cell (p := ⟨b9, 2, none⟩) (by show b9 < w2.heap.size; omega)).trans l2
          have hver1 := hver.alloc (.cells #[.int .i64 V.frm, .int .i64 V.mode, .int .i64 V.unit, .slice a3 n3 c3, .slice a4 n4 c4, .slice a5 n5 c5, .slice a6 n6 c6, .slice a7 n7 c7] 34)
          have hsz : (w3.alloc (.cells #[.int .i64 V.frm, .int .i64 V.mode, .int .i64 V.unit, .slice a3 n3 c3, .slice a4 n4 c4, .slice a5 n5 c5, .slice a6 n6 c6, .slice a7 n7 c7] 34)).heap.size = w3.heap.size + 1 := by simp
          generalize (w3.alloc (.cells #[.int .i64 V.frm, .int .i64 V.mode, .int .i64 V.unit, .slice a3 n3 c3, .slice a4 n4 c4, .slice a5 n5 c5, .slice a6 n6 c6, .slice a7 n7 c7] 34)) = wb at *
          generalize w3.heap.size = b12 at *
          have HVB := Lib.hid (HV2.out.same hb4)
          have HB4 := Lib.hid (HB2.out.trans (hb4.mono HB2.out.size))
          have HBW := Lib.hid hb4
          have HVER := Lib.hid hver1
          have HAT := Lib.hid hat
          clear hver hver1 hat hg3 hb3 hb4 m0 m1 m2 l0 l1 l2
          go_wp2_with fail
          refine (atP_any lawN _ _ _ x (pf) wb HVB.out).mono ?_
          rintro e w4 ⟨V', ok', u3, u4, u5, u6, u7, rfl, hg4, hver', hat'⟩
          obtain ⟨hVV, hok, hokz⟩ := holds_plain HZS.out HASC.out hz0 (by omega) (by omega) (HSW.out) HNO.out HAT.out hat'
          subst hVV hok
          obtain ⟨⟨d3, m3, e3, rfl⟩, ⟨d4, m4, e4, rfl⟩, ⟨d5, m5, e5, rfl⟩, ⟨d6, m6, e6, rfl⟩, ⟨d7, m7, e7, rfl⟩⟩ := hver'.form2
          have hb5 := hg4.below
          have hs5 := hb5.size
          go_upto_region 15 with fail
          have hb6 : Below wb.heap.size wb (w4.alloc (.cells #[.int .i64 V.frm, .int .i64 V.mode, .int .i64 V.unit, .slice d3 m3 e3, .slice d4 m4 e4, .slice d5 m5 e5, .slice d6 m6 e6, .slice d7 m7 e7] 34)) := hb5.alloc hs5 _
          have z0 : (w4.alloc (.cells #[.int .i64 V.frm, .int .i64 V.mode, .int .i64 V.unit, .slice d3 m3 e3, .slice d4 m4 e4, .slice d5 m5 e5, .slice d6 m6 e6, .slice d7 m7 e7] 34)).cell? ⟨w4.heap.size, 0, none⟩ = some (.int .i64 V.frm) := by rw [World.cell?_alloc_at _ _ _ _ rfl]; rfl
          have z1 : (w4.alloc (.cells #[.int .i64 V.frm, .int .i64 V.mode, .int .i64 V.unit, .slice d3 m3 e3, .slice d4 m4 e4, .slice d5 m5 e5, .slice d6 m6 e6, .slice d7 m7 e7] 34)).cell? ⟨w4.heap.size, 1, none⟩ = some (.int .i64 V.mode) := by rw [World.cell?_alloc_at _ _ _ _ rfl]; rfl
          have z2 : (w4.alloc (.cells #[.int .i64 V.frm, .int .i64 V.mode, .int .i64 V.unit, .slice d3 m3 e3, .slice d4 m4 e4, .slice d5 m5 e5, .slice d6 m6 e6, .slice d7 m7 e7] 34)).cell? ⟨w4.heap.size, 2, none⟩ = some (.int .i64 V.unit) := by rw [World.cell?_alloc_at _ _ _ _ rfl]; rfl
          have z3 : (w4.alloc (.cells #[.int .i64 V.frm, .int .i64 V.mode, .int .i64 V.unit, .slice d3 m3 e3, .slice d4 m4 e4, .slice d5 m5 e5, .slice d6 m6 e6, .slice d7 m7 e7] 34)).cell? ⟨w4.heap.size, 3, none⟩ = some (.slice d3 m3 e3) := by rw [World.cell?_alloc_at _ _ _ _ rfl]; rfl
          have z4 : (w4.alloc (.cells #[.int .i64 V.frm, .int .i64 V.mode, .int .i64 V.unit, .slice d3 m3 e3, .slice d4 m4 e4, .slice d5 m5 e5, .slice d6 m6 e6, .slice d7 m7 e7] 34)).cell? ⟨w4.heap.size, 4, none⟩ = some (.slice d4 m4 e4) := by rw [World.cell?_alloc_at _ _ _ _ rfl]; rfl
          have z5 : (w4.alloc (.cells #[.int .i64 V.frm, .int .i64 V.mode, .int .i64 V.unit, .slice d3 m3 e3, .slice d4 m4 e4, .slice d5 m5 e5, .slice d6 m6 e6, .slice d7 m7 e7] 34)).cell? ⟨w4.heap.size, 5, none⟩ = some (.slice d5 m5 e5) := by rw [World.cell?_alloc_at _ _ _ _ rfl]; rfl
          have z6 : (w4.alloc (.cells #[.int .i64 V.frm, .int .i64 V.mode, .int .i64 V.unit, .slice d3 m3 e3, .slice d4 m4 e4, .slice d5 m5 e5, .slice d6 m6 e6, .slice d7 m7 e7] 34)).cell? ⟨w4.heap.size, 6, none⟩ = some (.slice d6 m6 e6) := by rw [World.cell?_alloc_at _ _ _ _ rfl]; rfl
          have z7 : (w4.alloc (.cells #[.int .i64 V.frm, .int .i64 V.mode, .int .i64 V.unit, .slice d3 m3 e3, .slice d4 m4 e4, .slice d5 m5 e5, .slice d6 m6 e6, .slice d7 m7 e7] 34)).cell? ⟨w4.heap.size, 7, none⟩ = some (.slice d7 m7 e7) := by rw [World.cell?_alloc_at _ _ _ _ rfl]; rfl
          have y0 : (w4.alloc (.cells #[.int .i64 V.frm, .int .i64 V.mode, .int .i64 V.unit, .slice d3 m3 e3, .slice d4 m4 e4, .slice d5 m5 e5, .slice d6 m6 e6, .slice d7 m7 e7] 34)).cell? ⟨b12, 0, none⟩ = some (.int .i64 V.frm) := (hb6.cell (p := ⟨b12, 0, none⟩) (by show b12 < wb.heap.size; omega)).trans p0
          have y1 : (w4.alloc (.cells #[.int .i64 V.frm, .int .i64 V.mode, .int .i64 V.unit, .slice d3 m3 e3, .slice d4 m4 e4, .slice d5 m5 e5, .slice d6 m6 e6, .slice d7 m7 e7] 34)).cell? ⟨b12, 1, none⟩ = some (.int .i64 V.mode) := (hb6.cell (p := ⟨b12, 1, none⟩) (by show b12 < wb.heap.size; omega)).trans p1
          have y2 : (w4.alloc (.cells #[.int .i64 V.frm, .int .i64 V.mode, .int .i64 V.unit, .slice d3 m3 e3, .slice d4 m4 e4, .slice d5 m5 e5, .slice d6 m6 e6, .slice d7 m7 e7] 34)).cell? ⟨b12, 2, none⟩ = some (.int .i64 V.unit) := (hb6.cell (p := ⟨b12, 2, none⟩) (by show b12 < wb.heap.size; omega)).trans p2
          have y3 : (w4.alloc (.cells #[.int .i64 V.frm, .int .i64 V.mode, .int .i64 V.unit, .slice d3 m3 e3, .slice d4 m4 e4, .slice d5 m5 e5, .slice d6 m6 e6, .slice d7 m7 e7] 34)).cell? ⟨b12, 3, none⟩ = some (.slice a3 n3 c3) := (hb6.cell (p := ⟨b12, 3, none⟩) (by show b12 < wb.heap.size; omega)).trans p3
          have y4 : (w4.alloc (.cells #[.int .i64 V.frm, .int .i64 V.mode, .int .i64 V.unit, .slice d3 m3 e3, .slice d4 m4 e4, .slice d5 m5 e5, .slice d6 m6 e6, .slice d7 m7 e7] 34)).cell? ⟨b12, 4, none⟩ = some (.slice a4 n4 c4) := (hb6.cell (p := ⟨b12, 4, none⟩) (by show b12 < wb.heap.size; omega)).trans p4
          have y5 : (w4.alloc (.cells #[.int .i64 V.frm, .int .i64 V.mode, .int .i64 V.unit, .slice d3 m3 e3, .slice d4 m4 e4, .slice d5 m5 e5, .slice d6 m6 e6, .slice d7 m7 e7] 34)).cell? ⟨b12, 5, none⟩ = some (.slice a5 n5 c5) := (hb6.cell (p := ⟨b12, 5, none⟩) (by show b12 < wb.heap.size; omega)).trans p5
          have y6 : (w4.alloc (.cells #[.int .i64 V.frm, .int .i64 V.mode, .int .i64 V.unit, .slice d3 m3 e3, .slice d4 m4 e4, .slice d5 m5 e5, .slice d6 m6 e6, .slice d7 m7 e7] 34)).cell? ⟨b12, 6, none⟩ = some (.slice a6 n6 c6) := (hb6.cell (p := ⟨b12, 6, none⟩) (by show b12 < wb.heap.size; omega)).trans p6
          have y7 : (w4.alloc (.cells #[.int .i64 V.frm, .int .i64 V.mode, .int .i64 V.unit, .slice d3 m3 e3, .slice d4 m4 e4, .slice d5 m5 e5, .slice d6 m6 e6, .slice d7 m7 e7] 34)).cell? ⟨b12, 7, none⟩ = some (.slice a7 n7 c7) := (hb6.cell (p := ⟨b12, 7, none⟩) (by show b12 < wb.heap.size; omega)).trans p7
          have hver2 := hver'.alloc (.cells #[.int .i64 V.frm, .int .i64 V.mode, .int .i64 V.unit, .slice d3 m3 e3, .slice d4 m4 e4, .slice d5 m5 e5, .slice d6 m6 e6, .slice d7 m7 e7] 34)
          have hver3 := HVER.out.below hb6
          have hsz3 : (w4.alloc (.cells #[.int .i64 V.frm, .int .i64 V.mode, .int .i64 V.unit, .slice d3 m3 e3, .slice d4 m4 e4, .slice d5 m5 e5, .slice d6 m6 e6, .slice d7 m7 e7] 34)).heap.size = w4.heap.size + 1 := by simp
          have hcz2 : 0 < zs.length := hz0
          rcases HCZ.out with h0 | ⟨b, off, rfl, hb, hc⟩
          · omega
          have q0 := (hb6.cell (p := ⟨b, off + 0, none⟩) (by show b < wb.heap.size; omega)).trans ((HBW.out.cell (p := ⟨b, off + 0, none⟩) hb).trans (hc 0 hz0))
          rw [Nat.add_zero] at q0
          have HB6 := Lib.hid (HB4.out.trans (hb6.mono HB4.out.size))
          have hbX : b < (w4.alloc (.cells #[.int .i64 V.frm, .int .i64 V.mode, .int .i64 V.unit, .slice d3 m3 e3, .slice d4 m4 e4, .slice d5 m5 e5, .slice d6 m6 e6, .slice d7 m7 e7] 34)).heap.size := by omega
          generalize (w4.alloc (.cells #[.int .i64 V.frm, .int .i64 V.mode, .int .i64 V.unit, .slice d3 m3 e3, .slice d4 m4 e4, .slice d5 m5 e5, .slice d6 m6 e6, .slice d7 m7 e7] 34)) = X at *
          generalize w4.heap.size = b14 at *
          have HVE := Lib.hid hver2
          have HVF := Lib.hid hver3
          clear hver' hver2 hver3 hat' hg4 hb5 hb6 HVER HVB HB4 n0 n1 n2 p0 p1 p2 p3 p4 p5 p6 p7 hc
          obtain ⟨z, hz⟩ : ∃ z, zs.getD 0 0 = z := ⟨_, rfl⟩
          rw [hz] at q0 hokz
          clear hz
          have dz : (0 : Int) < (zs.length : Int) := by omega
          go_wp2_with fail
          refine (awake_any _).mono ?_
          rintro e w5 ⟨rfl, hg5⟩
          have hb7 := hg5.below
          have f0 : w5.cell? ⟨b12, 0, none⟩ = some (.int .i64 V.frm) := (hb7.cell (p := ⟨b12, 0, none⟩) (by show b12 < X.heap.size; omega)).trans y0
          have f1 : w5.cell? ⟨b12, 1, none⟩ = some (.int .i64 V.mode) := (hb7.cell (p := ⟨b12, 1, none⟩) (by show b12 < X.heap.size; omega)).trans y1
          have f2 : w5.cell? ⟨b12, 2, none⟩ = some (.int .i64 V.unit) := (hb7.cell (p := ⟨b12, 2, none⟩) (by show b12 < X.heap.size; omega)).trans y2
          have f3 : w5.cell? ⟨b12, 3, none⟩ = some (.slice a3 n3 c3) := (hb7.cell (p := ⟨b12, 3, none⟩) (by show b12 < X.heap.size; omega)).trans y3
          have f4 : w5.cell? ⟨b12, 4, none⟩ = some (.slice a4 n4 c4) := (hb7.cell (p := ⟨b12, 4, none⟩) (by show b12 < X.heap.size; omega)).trans y4
          have f5 : w5.cell? ⟨b12, 5, none⟩ = some (.slice a5 n5 c5) := (hb7.cell (p := ⟨b12, 5, none⟩) (by show b12 < X.heap.size; omega)).trans y5
          have f6 : w5.cell? ⟨b12, 6, none⟩ = some (.slice a6 n6 c6) := (hb7.cell (p := ⟨b12, 6, none⟩) (by show b12 < X.heap.size; omega)).trans y6
          have f7 : w5.cell? ⟨b12, 7, none⟩ = some (.slice a7 n7 c7) := (hb7.cell (p := ⟨b12, 7, none⟩) (by show b12 < X.heap.size; omega)).trans y7
          have g0 : w5.cell? ⟨b14, 0, none⟩ = some (.int .i64 V.frm) := (hb7.cell (p := ⟨b14, 0, none⟩) (by show b14 < X.heap.size; omega)).trans z0
          have g1 : w5.cell? ⟨b14, 1, none⟩ = some (.int .i64 V.mode) := (hb7.cell (p := ⟨b14, 1, none⟩) (by show b14 < X.heap.size; omega)).trans z1
          have g2 : w5.cell? ⟨b14, 2, none⟩ = some (.int .i64 V.unit) := (hb7.cell (p := ⟨b14, 2, none⟩) (by show b14 < X.heap.size; omega)).trans z2
          have g3 : w5.cell? ⟨b14, 3, none⟩ = some (.slice d3 m3 e3) := (hb7.cell (p := ⟨b14, 3, none⟩) (by show b14 < X.heap.size; omega)).trans z3
          have g4 : w5.cell? ⟨b14, 4, none⟩ = some (.slice d4 m4 e4) := (hb7.cell (p := ⟨b14, 4, none⟩) (by show b14 < X.heap.size; omega)).trans z4
          have g5 : w5.cell? ⟨b14, 5, none⟩ = some (.slice d5 m5 e5) := (hb7.cell (p := ⟨b14, 5, none⟩) (by show b14 < X.heap.size; omega)).trans z5
          have g6 : w5.cell? ⟨b14, 6, none⟩ = some (.slice d6 m6 e6) := (hb7.cell (p := ⟨b14, 6, none⟩) (by show b14 < X.heap.size; omega)).trans z6
          have g7 : w5.cell? ⟨b14, 7, none⟩ = some (.slice d7 m7 e7) := (hb7.cell (p := ⟨b14, 7, none⟩) (by show b14 < X.heap.size; omega)).trans z7
          have hbw5 : b < w5.heap.size := by have := hb7.size; omega
          have r0 := (hb7.cell (p := ⟨b, off, none⟩) hbX).trans q0
          have HB7 := Lib.hid (HB6.out.trans (hb7.mono HB6.out.size))
          have HVG := Lib.hid (HVE.out.below hb7)
          have HVH := Lib.hid (HVF.out.below hb7)
          clear hg5 hb7 y0 y1 y2 y3 y4 y5 y6 y7 z0 z1 z2 z3 z4 z5 z6 z7 q0
          cases ok
          · have hzl : ¬ z ≤ pt := by simpa using hokz
            clear hokz
            go_wp2_with fail
            refine (SameV_any (V := V) HVH.out HVG.out).mono ?_
            rintro e w6 ⟨rfl, hg6⟩
            have hs6 := HB7.out.size
            have r1 := (hg6.below.cell (p := ⟨b, off, none⟩) (by show b < w5.heap.size; omega)).trans r0
            have HB8 := Lib.hid (HB7.out.trans (hg6.below.mono HB7.out.size))
            clear hg6 r0
            go_wp2_with fail
            go_returns
            refine ⟨?_, .of_below HB8.out⟩
            first | rfl | (simp [hzl]; done) | (show Ending.returned (.bool (!decide _)) = _; simp [hzl])
          · have hzl : z ≤ pt := by simpa using hokz
            clear hokz
            go_wp2_with fail
            refine (SameV_any (V := V) HVH.out HVG.out).mono ?_
            rintro e w6 ⟨rfl, hg6⟩
            have hs6 := HB7.out.size
            have r1 := (hg6.below.cell (p := ⟨b, off, none⟩) (by show b < w5.heap.size; omega)).trans r0
            have HB8 := Lib.hid (HB7.out.trans (hg6.below.mono HB7.out.size))
            clear hg6 r0
            go_wp2_with fail
            go_returns
            refine ⟨?_, .of_below HB8.out⟩
            first | rfl | (simp [hzl]; done) | (show Ending.returned (.bool (!decide _)) = _; simp [hzl])
    · have HSW := Lib.hid (show pf ≤ pt by omega)
      go_wp2_with fail
      refine (chgP_any lawN _ _ _ x wa HVA.out hL0).mono ?_
      rintro e w2 ⟨vp, rfl, hg2, hip, hcp⟩
      rw [chg_same] at hip
      have HASC := Lib.hid (insAll_asc (frms L))
      have hz0 := insAll_pos (zs := frms L) (by simpa [frms] using hL0)
      obtain ⟨zs, hzs⟩ : ∃ zs, insAll (frms L) = zs := ⟨_, rfl⟩
      rw [hzs] at hip HLN HASC hz0
      have HZS := Lib.hid hzs
      obtain ⟨va, vc, hvp⟩ := IntsAt.form hip
      subst hvp
      have hlz := HLN.out
      have hb2 := hg2.below
      have l0 : w2.cell? ⟨b9, 0, none⟩ = some (.string lawN) := (hb2.cell (p := ⟨b9, 0, none⟩) hka).trans k0
      have l1 : w2.cell? ⟨b9, 1, none⟩ = some (.int .i64 cur) := (hb2.cell (p := ⟨b9, 1, none⟩) hka).trans k1
      have l2 : w2.cell? ⟨b9, 2, none⟩ = some (.slice a2 L.length cap2) := (hb2.cell (p := ⟨b9, 2, none⟩) hka).trans k2
      have hs2 := hb2.size
      have HB2 := Lib.hid (HBA.out.trans (hb2.mono HBA.out.size))
      have HV2 := Lib.hid (HVA.out.same hb2)
      obtain ⟨-, -, a', c', hv', hcz⟩ := id hip
      simp only [Value.slice.injEq, true_and] at hv'
      obtain ⟨rfl, rfl⟩ := hv'
      have HCZ := Lib.hid hcz
      clear hg2 hip hcp hb2 k0 k1 k2 hzs hcz
      go_upto_block 0 with fail
      go_wp2_with fail
      go_loop [11] (fun v11 => ∃ k : Nat, k ≤ zs.length ∧ v11 = .int .i64 k ∧ Hid (∀ i, i < k → ¬ (pf < zs.getD i 0 ∧ zs.getD i 0 ≤ pt))) (fun v11 => zs.length - (intOf v11).toNat)
      case atStart => exact ⟨0, by omega, rfl, Lib.hid (fun i hi => by omega)⟩
      case round =>
        obtain ⟨k, hk, rfl, HNO⟩ := hrel
        by_cases hlt : k < zs.length
        · rcases HCZ.out with h0 | ⟨b, off, rfl, hb, hc⟩
          · omega
          have x0 := hc k hlt
          have d1 : (k : Int) < (zs.length : Int) := by omega
          have d0 : (0 : Int) ≤ (k : Int) := by omega
          obtain ⟨z, hz⟩ : ∃ z, zs.getD k 0 = z := ⟨_, rfl⟩
          rw [hz] at x0
          have HZ := Lib.hid hz
          clear hc hz
          by_cases h1 : pf < z
          · by_cases h2 : z ≤ pt
            · go_wp2_with fail
              refine (awake_any _).mono ?_
              rintro e w9 ⟨rfl, hg9⟩
              have HB9 := Lib.hid (HB2.out.trans (hg9.below.mono HB2.out.size))
              clear hg9
              go_wp2_with fail
              go_returns
              exact ⟨rfl, .of_below HB9.out⟩
            · have HX := Lib.hid h2
              go_wp2_with fail
              go_round
              case rel => exact ⟨k + 1, by omega, by go_num, Lib.hid (fun i hi => by
                rcases Nat.lt_or_ge i k with h3 | h3
                · exact HNO.out i h3
                · obtain rfl : i = k := by omega
                  rw [HZ.out]
                  rintro ⟨h5, h6⟩
                  exact HX.out h6)⟩
              case measure => simp [intOf]; omega
          · have HX := Lib.hid h1
            go_wp2_with fail
            go_round
            case rel => exact ⟨k + 1, by omega, by go_num, Lib.hid (fun i hi => by
              rcases Nat.lt_or_ge i k with h3 | h3
              · exact HNO.out i h3
              · obtain rfl : i = k := by omega
                rw [HZ.out]
                rintro ⟨h5, h6⟩
                exact HX.out h5)⟩
            case measure => simp [intOf]; omega
        · obtain rfl : k = zs.length := by omega
          go_upto_region 13 with fail
          go_wp2_with fail
          refine (atP_any lawN _ _ _ x (pf) w2 HV2.out).mono ?_
          rintro e w3 ⟨V, ok, v3, v4, v5, v6, v7, rfl, hg3, hver, hat⟩
          obtain ⟨⟨a3, n3, c3, rfl⟩, ⟨a4, n4, c4, rfl⟩, ⟨a5, n5, c5, rfl⟩, ⟨a6, n6, c6, rfl⟩, ⟨a7, n7, c7, rfl⟩⟩ := hver.form2
          have hb3 := hg3.below
          have m0 : w3.cell? ⟨b9, 0, none⟩ = some (.string lawN) := (hb3.cell (p := ⟨b9, 0, none⟩) (by show b9 < w2.heap.size; omega)).trans l0
          have m1 : w3.cell? ⟨b9, 1, none⟩ = some (.int .i64 cur) := (hb3.cell (p := ⟨b9, 1, none⟩) (by show b9 < w2.heap.size; omega)).trans l1
          have m2 : w3.cell? ⟨b9, 2, none⟩ = some (.slice a2 L.length cap2) := (hb3.cell (p := ⟨b9, 2, none⟩) (by show b9 < w2.heap.size; omega)).trans l2
          have hs3 := hb3.size
          go_upto_region 14 with fail
          have p0 : (w3.alloc (.cells #[.int .i64 V.frm, .int .i64 V.mode, .int .i64 V.unit, .slice a3 n3 c3, .slice a4 n4 c4, .slice a5 n5 c5, .slice a6 n6 c6, .slice a7 n7 c7] 34)).cell? ⟨w3.heap.size, 0, none⟩ = some (.int .i64 V.frm) := by rw [World.cell?_alloc_at _ _ _ _ rfl]; rfl
          have p1 : (w3.alloc (.cells #[.int .i64 V.frm, .int .i64 V.mode, .int .i64 V.unit, .slice a3 n3 c3, .slice a4 n4 c4, .slice a5 n5 c5, .slice a6 n6 c6, .slice a7 n7 c7] 34)).cell? ⟨w3.heap.size, 1, none⟩ = some (.int .i64 V.mode) := by rw [World.cell?_alloc_at _ _ _ _ rfl]; rfl
          have p2 : (w3.alloc (.cells #[.int .i64 V.frm, .int .i64 V.mode, .int .i64 V.unit, .slice a3 n3 c3, .slice a4 n4 c4, .slice a5 n5 c5, .slice a6 n6 c6, .slice a7 n7 c7] 34)).cell? ⟨w3.heap.size, 2, none⟩ = some (.int .i64 V.unit) := by rw [World.cell?_alloc_at _ _ _ _ rfl]; rfl
          have p3 : (w3.alloc (.cells #[.int .i64 V.frm, .int .i64 V.mode, .int .i64 V.unit, .slice a3 n3 c3, .slice a4 n4 c4, .slice a5 n5 c5, .slice a6 n6 c6, .slice a7 n7 c7] 34)).cell? ⟨w3.heap.size, 3, none⟩ = some (.slice a3 n3 c3) := by rw [World.cell?_alloc_at _ _ _ _ rfl]; rfl
          have p4 : (w3.alloc (.cells #[.int .i64 V.frm, .int .i64 V.mode, .int .i64 V.unit, .slice a3 n3 c3, .slice a4 n4 c4, .slice a5 n5 c5, .slice a6 n6 c6, .slice a7 n7 c7] 34)).cell? ⟨w3.heap.size, 4, none⟩ = some (.slice a4 n4 c4) := by rw [World.cell?_alloc_at _ _ _ _ rfl]; rfl
          have p5 : (w3.alloc (.cells #[.int .i64 V.frm, .int .i64 V.mode, .int .i64 V.unit, .slice a3 n3 c3, .slice a4 n4 c4, .slice a5 n5 c5, .slice a6 n6 c6, .slice a7 n7 c7] 34)).cell? ⟨w3.heap.size, 5, none⟩ = some (.slice a5 n5 c5) := by rw [World.cell?_alloc_at _ _ _ _ rfl]; rfl
          have p6 : (w3.alloc (.cells #[.int .i64 V.frm, .int .i64 V.mode, .int .i64 V.unit, .slice a3 n3 c3, .slice a4 n4 c4, .slice a5 n5 c5, .slice a6 n6 c6, .slice a7 n7 c7] 34)).cell? ⟨w3.heap.size, 6, none⟩ = some (.slice a6 n6 c6) := by rw [World.cell?_alloc_at _ _ _ _ rfl]; rfl
          have p7 : (w3.alloc (.cells #[.int .i64 V.frm, .int .i64 V.mode, .int .i64 V.unit, .slice a3 n3 c3, .slice a4 n4 c4, .slice a5 n5 c5, .slice a6 n6 c6, .slice a7 n7 c7] 34)).cell? ⟨w3.heap.size, 7, none⟩ = some (.slice a7 n7 c7) := by rw [World.cell?_alloc_at _ _ _ _ rfl]; rfl
          have hb4 : Below w2.heap.size w2 (w3.alloc (.cells #[.int .i64 V.frm, .int .i64 V.mode, .int .i64 V.unit, .slice a3 n3 c3, .slice a4 n4 c4, .slice a5 n5 c5, .slice a6 n6 c6, .slice a7 n7 c7] 34)) := hb3.alloc hs3 _
          have n0 : (w3.alloc (.cells #[.int .i64 V.frm, .int .i64 V.mode, .int .i64 V.unit, .slice a3 n3 c3, .slice a4 n4 c4, .slice a5 n5 c5, .slice a6 n6 c6, .slice a7 n7 c7] 34)).cell? ⟨b9, 0, none⟩ = some (.string lawN) := (hb4.cell (p := ⟨b9, 0, none⟩) (by show b9 < w2.heap.size; omega)).trans l0
          have n1 : (w3.alloc (.cells #[.int .i64 V.frm, .int .i64 V.mode, .int .i64 V.unit, .slice a3 n3 c3, .slice a4 n4 c4, .slice a5 n5 c5, .slice a6 n6 c6, .slice a7 n7 c7] 34)).cell? ⟨b9, 1, none⟩ = some (.int .i64 cur) := (hb4.cell (p := ⟨b9, 1, none⟩) (by show b9 < w2.heap.size; omega)).trans l1
          have n2 : (w3.alloc (.cells #[.int .i64 V.frm, .int .i64 V.mode, .int .i64 V.unit, .slice a3 n3 c3, .slice a4 n4 c4, .slice a5 n5 c5, .slice a6 n6 c6, .slice a7 n7 c7] 34)).cell? ⟨b9, 2, none⟩ = some (.slice a2 L.length cap2) := (hb4.cell (p := ⟨b9, 2, none⟩) (by show b9 < w2.heap.size; omega)).trans l2
          have hver1 := hver.alloc (.cells #[.int .i64 V.frm, .int .i64 V.mode, .int .i64 V.unit, .slice a3 n3 c3, .slice a4 n4 c4, .slice a5 n5 c5, .slice a6 n6 c6, .slice a7 n7 c7] 34)
          have hsz : (w3.alloc (.cells #[.int .i64 V.frm, .int .i64 V.mode, .int .i64 V.unit, .slice a3 n3 c3, .slice a4 n4 c4, .slice a5 n5 c5, .slice a6 n6 c6, .slice a7 n7 c7] 34)).heap.size = w3.heap.size + 1 := by simp
          generalize (w3.alloc (.cells #[.int .i64 V.frm, .int .i64 V.mode, .int .i64 V.unit, .slice a3 n3 c3, .slice a4 n4 c4, .slice a5 n5 c5, .slice a6 n6 c6, .slice a7 n7 c7] 34)) = wb at *
          generalize w3.heap.size = b12 at *
          have HVB := Lib.hid (HV2.out.same hb4)
          have HB4 := Lib.hid (HB2.out.trans (hb4.mono HB2.out.size))
          have HBW := Lib.hid hb4
          have HVER := Lib.hid hver1
          have HAT := Lib.hid hat
          clear hver hver1 hat hg3 hb3 hb4 m0 m1 m2 l0 l1 l2
          go_wp2_with fail
          refine (atP_any lawN _ _ _ x (pt) wb HVB.out).mono ?_
          rintro e w4 ⟨V', ok', u3, u4, u5, u6, u7, rfl, hg4, hver', hat'⟩
          obtain ⟨hVV, hok, hokz⟩ := holds_plain HZS.out HASC.out hz0 (by omega) (by omega) (HSW.out) HNO.out HAT.out hat'
          subst hVV hok
          obtain ⟨⟨d3, m3, e3, rfl⟩, ⟨d4, m4, e4, rfl⟩, ⟨d5, m5, e5, rfl⟩, ⟨d6, m6, e6, rfl⟩, ⟨d7, m7, e7, rfl⟩⟩ := hver'.form2
          have hb5 := hg4.below
          have hs5 := hb5.size
          go_upto_region 15 with fail
          have hb6 : Below wb.heap.size wb (w4.alloc (.cells #[.int .i64 V.frm, .int .i64 V.mode, .int .i64 V.unit, .slice d3 m3 e3, .slice d4 m4 e4, .slice d5 m5 e5, .slice d6 m6 e6, .slice d7 m7 e7] 34)) := hb5.alloc hs5 _
          have z0 : (w4.alloc (.cells #[.int .i64 V.frm, .int .i64 V.mode, .int .i64 V.unit, .slice d3 m3 e3, .slice d4 m4 e4, .slice d5 m5 e5, .slice d6 m6 e6, .slice d7 m7 e7] 34)).cell? ⟨w4.heap.size, 0, none⟩ = some (.int .i64 V.frm) := by rw [World.cell?_alloc_at _ _ _ _ rfl]; rfl
          have z1 : (w4.alloc (.cells #[.int .i64 V.frm, .int .i64 V.mode, .int .i64 V.unit, .slice d3 m3 e3, .slice d4 m4 e4, .slice d5 m5 e5, .slice d6 m6 e6, .slice d7 m7 e7] 34)).cell? ⟨w4.heap.size, 1, none⟩ = some (.int .i64 V.mode) := by rw [World.cell?_alloc_at _ _ _ _ rfl]; rfl
          have z2 : (w4.alloc (.cells #[.int .i64 V.frm, .int .i64 V.mode, .int .i64 V.unit, .slice d3 m3 e3, .slice d4 m4 e4, .slice d5 m5 e5, .slice d6 m6 e6, .slice d7 m7 e7] 34)).cell? ⟨w4.heap.size, 2, none⟩ = some (.int .i64 V.unit) := by rw [World.cell?_alloc_at _ _ _ _ rfl]; rfl
          have z3 : (w4.alloc (.cells #[.int .i64 V.frm, .int .i64 V.mode, .int .i64 V.unit, .slice d3 m3 e3, .slice d4 m4 e4, .slice d5 m5 e5, .slice d6 m6 e6, .slice d7 m7 e7] 34)).cell? ⟨w4.heap.size, 3, none⟩ = some (.slice d3 m3 e3) := by rw [World.cell?_alloc_at _ _ _ _ rfl]; rfl
          have z4 : (w4.alloc (.cells #[.int .i64 V.frm, .int .i64 V.mode, .int .i64 V.unit, .slice d3 m3 e3, .slice d4 m4 e4, .slice d5 m5 e5, .slice d6 m6 e6, .slice d7 m7 e7] 34)).cell? ⟨w4.heap.size, 4, none⟩ = some (.slice d4 m4 e4) := by rw [World.cell?_alloc_at _ _ _ _ rfl]; rfl
          have z5 : (w4.alloc (.cells #[.int .i64 V.frm, .int .i64 V.mode, .int .i64 V.unit, .slice d3 m3 e3, .slice d4 m4 e4, .slice d5 m5 e5, .slice d6 m6 e6, .slice d7 m7 e7] 34)).cell? ⟨w4.heap.size, 5, none⟩ = some (.slice d5 m5 e5) := by rw [World.cell?_alloc_at _ _ _ _ rfl]; rfl
          have z6 : (w4.alloc (.cells #[.int .i64 V.frm, .int .i64 V.mode, .int .i64 V.unit, .slice d3 m3 e3, .slice d4 m4 e4, .slice d5 m5 e5, .slice d6 m6 e6, .slice d7 m7 e7] 34)).cell? ⟨w4.heap.size, 6, none⟩ = some (.slice d6 m6 e6) := by rw [World.cell?_alloc_at _ _ _ _ rfl]; rfl
          have z7 : (w4.alloc (.cells #[.int .i64 V.frm, .int .i64 V.mode, .int .i64 V.unit, .slice d3 m3 e3, .slice d4 m4 e4, .slice d5 m5 e5, .slice d6 m6 e6, .slice d7 m7 e7] 34)).cell? ⟨w4.heap.size, 7, none⟩ = some (.slice d7 m7 e7) := by rw [World.cell?_alloc_at _ _ _ _ rfl]; rfl
          have y0 : (w4.alloc (.cells #[.int .i64 V.frm, .int .i64 V.mode, .int .i64 V.unit, .slice d3 m3 e3, .slice d4 m4 e4, .slice d5 m5 e5, .slice d6 m6 e6, .slice d7 m7 e7] 34)).cell? ⟨b12, 0, none⟩ = some (.int .i64 V.frm) := (hb6.cell (p := ⟨b12, 0, none⟩) (by show b12 < wb.heap.size; omega)).trans p0
          have y1 : (w4.alloc (.cells #[.int .i64 V.frm, .int .i64 V.mode, .int .i64 V.unit, .slice d3 m3 e3, .slice d4 m4 e4, .slice d5 m5 e5, .slice d6 m6 e6, .slice d7 m7 e7] 34)).cell? ⟨b12, 1, none⟩ = some (.int .i64 V.mode) := (hb6.cell (p := ⟨b12, 1, none⟩) (by show b12 < wb.heap.size; omega)).trans p1
          have y2 : (w4.alloc (.cells #[.int .i64 V.frm, .int .i64 V.mode, .int .i64 V.unit, .slice d3 m3 e3, .slice d4 m4 e4, .slice d5 m5 e5, .slice d6 m6 e6, .slice d7 m7 e7] 34)).cell? ⟨b12, 2, none⟩ = some (.int .i64 V.unit) := (hb6.cell (p := ⟨b12, 2, none⟩) (by show b12 < wb.heap.size; omega)).trans p2
          have y3 : (w4.alloc (.cells #[.int .i64 V.frm, .int .i64 V.mode, .int .i64 V.unit, .slice d3 m3 e3, .slice d4 m4 e4, .slice d5 m5 e5, .slice d6 m6 e6, .slice d7 m7 e7] 34)).cell? ⟨b12, 3, none⟩ = some (.slice a3 n3 c3) := (hb6.cell (p := ⟨b12, 3, none⟩) (by show b12 < wb.heap.size; omega)).trans p3
          have y4 : (w4.alloc (.cells #[.int .i64 V.frm, .int .i64 V.mode, .int .i64 V.unit, .slice d3 m3 e3, .slice d4 m4 e4, .slice d5 m5 e5, .slice d6 m6 e6, .slice d7 m7 e7] 34)).cell? ⟨b12, 4, none⟩ = some (.slice a4 n4 c4) := (hb6.cell (p := ⟨b12, 4, none⟩) (by show b12 < wb.heap.size; omega)).trans p4
          have y5 : (w4.alloc (.cells #[.int .i64 V.frm, .int .i64 V.mode, .int .i64 V.unit, .slice d3 m3 e3, .slice d4 m4 e4, .slice d5 m5 e5, .slice d6 m6 e6, .slice d7 m7 e7] 34)).cell? ⟨b12, 5, none⟩ = some (.slice a5 n5 c5) := (hb6.cell (p := ⟨b12, 5, none⟩) (by show b12 < wb.heap.size; omega)).trans p5
          have y6 : (w4.alloc (.cells #[.int .i64 V.frm, .int .i64 V.mode, .int .i64 V.unit, .slice d3 m3 e3, .slice d4 m4 e4, .slice d5 m5 e5, .slice d6 m6 e6, .slice d7 m7 e7] 34)).cell? ⟨b12, 6, none⟩ = some (.slice a6 n6 c6) := (hb6.cell (p := ⟨b12, 6, none⟩) (by show b12 < wb.heap.size; omega)).trans p6
          have y7 : (w4.alloc (.cells #[.int .i64 V.frm, .int .i64 V.mode, .int .i64 V.unit, .slice d3 m3 e3, .slice d4 m4 e4, .slice d5 m5 e5, .slice d6 m6 e6, .slice d7 m7 e7] 34)).cell? ⟨b12, 7, none⟩ = some (.slice a7 n7 c7) := (hb6.cell (p := ⟨b12, 7, none⟩) (by show b12 < wb.heap.size; omega)).trans p7
          have hver2 := hver'.alloc (.cells #[.int .i64 V.frm, .int .i64 V.mode, .int .i64 V.unit, .slice d3 m3 e3, .slice d4 m4 e4, .slice d5 m5 e5, .slice d6 m6 e6, .slice d7 m7 e7] 34)
          have hver3 := HVER.out.below hb6
          have hsz3 : (w4.alloc (.cells #[.int .i64 V.frm, .int .i64 V.mode, .int .i64 V.unit, .slice d3 m3 e3, .slice d4 m4 e4, .slice d5 m5 e5, .slice d6 m6 e6, .slice d7 m7 e7] 34)).heap.size = w4.heap.size + 1 := by simp
          have hcz2 : 0 < zs.length := hz0
          rcases HCZ.out with h0 | ⟨b, off, rfl, hb, hc⟩
          · omega
          have q0 := (hb6.cell (p := ⟨b, off + 0, none⟩) (by show b < wb.heap.size; omega)).trans ((HBW.out.cell (p := ⟨b, off + 0, none⟩) hb).trans (hc 0 hz0))
          rw [Nat.add_zero] at q0
          have HB6 := Lib.hid (HB4.out.trans (hb6.mono HB4.out.size))
          have hbX : b < (w4.alloc (.cells #[.int .i64 V.frm, .int .i64 V.mode, .int .i64 V.unit, .slice d3 m3 e3, .slice d4 m4 e4, .slice d5 m5 e5, .slice d6 m6 e6, .slice d7 m7 e7] 34)).heap.size := by omega
          generalize (w4.alloc (.cells #[.int .i64 V.frm, .int .i64 V.mode, .int .i64 V.unit, .slice d3 m3 e3, .slice d4 m4 e4, .slice d5 m5 e5, .slice d6 m6 e6, .slice d7 m7 e7] 34)) = X at *
          generalize w4.heap.size = b14 at *
          have HVE := Lib.hid hver2
          have HVF := Lib.hid hver3
          clear hver' hver2 hver3 hat' hg4 hb5 hb6 HVER HVB HB4 n0 n1 n2 p0 p1 p2 p3 p4 p5 p6 p7 hc
          obtain ⟨z, hz⟩ : ∃ z, zs.getD 0 0 = z := ⟨_, rfl⟩
          rw [hz] at q0 hokz
          clear hz
          have dz : (0 : Int) < (zs.length : Int) := by omega
          go_wp2_with fail
          refine (awake_any _).mono ?_
          rintro e w5 ⟨rfl, hg5⟩
          have hb7 := hg5.below
          have f0 : w5.cell? ⟨b12, 0, none⟩ = some (.int .i64 V.frm) := (hb7.cell (p := ⟨b12, 0, none⟩) (by show b12 < X.heap.size; omega)).trans y0
          have f1 : w5.cell? ⟨b12, 1, none⟩ = some (.int .i64 V.mode) := (hb7.cell (p := ⟨b12, 1, none⟩) (by show b12 < X.heap.size; omega)).trans y1
          have f2 : w5.cell? ⟨b12, 2, none⟩ = some (.int .i64 V.unit) := (hb7.cell (p := ⟨b12, 2, none⟩) (by show b12 < X.heap.size; omega)).trans y2
          have f3 : w5.cell? ⟨b12, 3, none⟩ = some (.slice a3 n3 c3) := (hb7.cell (p := ⟨b12, 3, none⟩) (by show b12 < X.heap.size; omega)).trans y3
          have f4 : w5.cell? ⟨b12, 4, none⟩ = some (.slice a4 n4 c4) := (hb7.cell (p := ⟨b12, 4, none⟩) (by show b12 < X.heap.size; omega)).trans y4
          have f5 : w5.cell? ⟨b12, 5, none⟩ = some (.slice a5 n5 c5) := (hb7.cell (p := ⟨b12, 5, none⟩) (by show b12 < X.heap.size; omega)).trans y5
          have f6 : w5.cell? ⟨b12, 6, none⟩ = some (.slice a6 n6 c6) := (hb7.cell (p := ⟨b12, 6, none⟩) (by show b12 < X.heap.size; omega)).trans y6
          have f7 : w5.cell? ⟨b12, 7, none⟩ = some (.slice a7 n7 c7) := (hb7.cell (p := ⟨b12, 7, none⟩) (by show b12 < X.heap.size; omega)).trans y7
          have g0 : w5.cell? ⟨b14, 0, none⟩ = some (.int .i64 V.frm) := (hb7.cell (p := ⟨b14, 0, none⟩) (by show b14 < X.heap.size; omega)).trans z0
          have g1 : w5.cell? ⟨b14, 1, none⟩ = some (.int .i64 V.mode) := (hb7.cell (p := ⟨b14, 1, none⟩) (by show b14 < X.heap.size; omega)).trans z1
          have g2 : w5.cell? ⟨b14, 2, none⟩ = some (.int .i64 V.unit) := (hb7.cell (p := ⟨b14, 2, none⟩) (by show b14 < X.heap.size; omega)).trans z2
          have g3 : w5.cell? ⟨b14, 3, none⟩ = some (.slice d3 m3 e3) := (hb7.cell (p := ⟨b14, 3, none⟩) (by show b14 < X.heap.size; omega)).trans z3
          have g4 : w5.cell? ⟨b14, 4, none⟩ = some (.slice d4 m4 e4) := (hb7.cell (p := ⟨b14, 4, none⟩) (by show b14 < X.heap.size; omega)).trans z4
          have g5 : w5.cell? ⟨b14, 5, none⟩ = some (.slice d5 m5 e5) := (hb7.cell (p := ⟨b14, 5, none⟩) (by show b14 < X.heap.size; omega)).trans z5
          have g6 : w5.cell? ⟨b14, 6, none⟩ = some (.slice d6 m6 e6) := (hb7.cell (p := ⟨b14, 6, none⟩) (by show b14 < X.heap.size; omega)).trans z6
          have g7 : w5.cell? ⟨b14, 7, none⟩ = some (.slice d7 m7 e7) := (hb7.cell (p := ⟨b14, 7, none⟩) (by show b14 < X.heap.size; omega)).trans z7
          have hbw5 : b < w5.heap.size := by have := hb7.size; omega
          have r0 := (hb7.cell (p := ⟨b, off, none⟩) hbX).trans q0
          have HB7 := Lib.hid (HB6.out.trans (hb7.mono HB6.out.size))
          have HVG := Lib.hid (HVE.out.below hb7)
          have HVH := Lib.hid (HVF.out.below hb7)
          clear hg5 hb7 y0 y1 y2 y3 y4 y5 y6 y7 z0 z1 z2 z3 z4 z5 z6 z7 q0
          cases ok
          · have hzl : ¬ z ≤ pf := by simpa using hokz
            clear hokz
            go_wp2_with fail
            refine (SameV_any (V := V) HVH.out HVG.out).mono ?_
            rintro e w6 ⟨rfl, hg6⟩
            have hs6 := HB7.out.size
            have r1 := (hg6.below.cell (p := ⟨b, off, none⟩) (by show b < w5.heap.size; omega)).trans r0
            have HB8 := Lib.hid (HB7.out.trans (hg6.below.mono HB7.out.size))
            clear hg6 r0
            go_wp2_with fail
            go_returns
            refine ⟨?_, .of_below HB8.out⟩
            first | rfl | (simp [hzl]; done) | (show Ending.returned (.bool (!decide _)) = _; simp [hzl])
          · have hzl : z ≤ pf := by simpa using hokz
            clear hokz
            go_wp2_with fail
            refine (SameV_any (V := V) HVH.out HVG.out).mono ?_
            rintro e w6 ⟨rfl, hg6⟩
            have hs6 := HB7.out.size
            have r1 := (hg6.below.cell (p := ⟨b, off, none⟩) (by show b < w5.heap.size; omega)).trans r0
            have HB8 := Lib.hid (HB7.out.trans (hg6.below.mono HB7.out.size))
            clear hg6 r0
            go_wp2_with fail
            go_returns
            refine ⟨?_, .of_below HB8.out⟩
            first | rfl | (simp [hzl]; done) | (show Ending.returned (.bool (!decide _)) = _; simp [hzl])
set_option maxRecDepth 1000000 in
theorem holds_law (hOf : Hid OfSaid) {H : Type} (enc : TypeId × Value → H) : LawWalk enc Try.prog 8 [50, 3, 3, 3] := by
  intro W base args ds p hval hA hfit
  obtain ⟨v0, vs0, d0, ds0, p0, q0, hargs, rfl, rfl, h0, r0⟩ := trodAll_cons hA
  obtain ⟨v1, vs1, d1, ds1, p1, q1, rfl, rfl, rfl, h1, r1⟩ := trodAll_cons r0
  obtain ⟨v2, vs2, d2, ds2, p2, q2, rfl, rfl, rfl, h2, r2⟩ := trodAll_cons r1
  obtain ⟨v3, vs3, d3, ds3, p3, q3, rfl, rfl, rfl, h3, r3⟩ := trodAll_cons r2
  obtain ⟨rfl, rfl, rfl⟩ := trodAll_nil r3
  obtain rfl : args = #[v0, v1, v2, v3] := by cases args; simp_all
  obtain ⟨sa, sn, sc, hsv⟩ := okWide_slice Try.underlying50 (hval 0 _ v0 rfl rfl)
  subst hsv
  obtain ⟨fuel, h0⟩ := h0
  obtain ⟨Rs, hR⟩ := RawsAt.of_trod (x := (d0, p0)) (v := .slice sa sn sc) (by simpa [Value.cells] using h0) (hfit 0 _ d0 rfl rfl)
  obtain ⟨z1, rfl, -, -, w1⟩ := open_int Try.underlying3 (hval 1 _ v1 rfl rfl) h1
  obtain ⟨z2, rfl, -, -, w2⟩ := open_int Try.underlying3 (hval 2 _ v2 rfl rfl) h2
  obtain ⟨z3, rfl, -, -, w3⟩ := open_int Try.underlying3 (hval 3 _ v3 rfl rfl) h3
  exact (holds_any hOf Rs _ z1 z2 z3 W hR (i64_of_wf w1)).mono fun e w' h => ⟨h.1, h.2.below⟩
set_option maxRecDepth 1000000 in
theorem holds_lifted (hOf : Hid OfSaid) (os : Os) (started : os.Started) (H : Type) (enc : TypeId × Value → H) :
    ReturnsInHanded {} Try.checked os 8 .any (Rows.statuteHoldsSpec.pre6 enc Try.prog Try.f8 Rows.statuteHoldsRow.domain false) (Rows.statuteHoldsSpec.post enc Try.prog Try.f8 false true false false) :=
  law_lift (C := Try.checked) (s := Rows.statuteHoldsSpec) own started (by kernel_rfl) Try.func8
    (ChangeSpec.witness6 (enc := enc) (C := Try.checked) false ⟨#[], #[.slice none 0 0, .int .i64 0, .int .i64 0, .int .i64 0], []⟩ 8 (by kernel_rfl) (by kernel_rfl) (by kernel_rfl) (by kernel_rfl))
    laidOut (by kernel_rfl) rfl Try.underlying4 rfl (fun ds hds => by
      match ds, hds with
      | [d0, d1, d2, d3], _ => rfl) (holds_law hOf enc)
theorem holds_holds (hOf : Hid OfSaid) : Rows.StatuteHoldsSaid :=
  OpenClaim.holds_of_wide 8 Try.f8 rfl rfl rfl rfl rfl rfl rfl ⟨rfl, rfl, rfl, rfl, rfl⟩ rfl rfl rfl rfl rfl (by kernel_rfl) Try.func8 (by kernel_rfl)
    (of_decide_eq_true (by kernel_rfl)) (by unfold Func.isWrapper; first | (rw [if_pos (by decide +kernel)]; kernel_rfl) | (rw [if_neg (by decide +kernel)]; exact ⟨rfl, rfl⟩))
    (fun os started H enc _ => holds_lifted hOf os started H enc)
end Go.Proofs.Ytldelkkeimlfcaa
