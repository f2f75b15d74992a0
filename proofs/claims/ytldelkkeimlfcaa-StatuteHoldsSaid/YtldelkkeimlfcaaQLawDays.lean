/- StatuteDays: for every input the law returns true. -/
import Derived.Test.YtldelkkeimlfcaaQArgL
import Derived.Test.YtldelkkeimlfcaaQAtP
import Derived.Test.YtldelkkeimlfcaaQInsL
import Derived.Test.YtldelkkeimlfcaaQSameV5
import Derived.Test.YtldelkkeimlfcaaQAwake
import Derived.Test.YtldelkkeimlfcaaQArg
set_option linter.all false
namespace Go.Proofs.Ytldelkkeimlfcaa
open Go.ChangeShapes Go.WideShapes Go.ChangeAt Go.RowKit
theorem VsAt.alloc {w : World} {v : Value} {L : List VerP} {x : VRow} (h : VsAt w v L x) (o : Obj) : VsAt (w.alloc o) v L x := h.same ((Below.refl _ _).alloc (Nat.le_refl _) o)
theorem statL_pos (Rs : List RawV) (order : Int) : 0 < (statL Rs order).length := by
  unfold statL
  split
  · simp
  · simp [statV]; omega
theorem statL_le (Rs : List RawV) (order : Int) : (statL Rs order).length ≤ 3 := by
  unfold statL
  split
  · simp
  · simp [statV]; omega
set_option maxHeartbeats 8000000 in
set_option maxRecDepth 100000 in
theorem days_any (hOf : Hid OfSaid) (Rs : List RawV) (v : Value) (order day : Int) (w : World) (h : RawsAt w v Rs) (ho : I64 order) (hd : I64 day) :
    Calls Try.prog 7 #[v, .int .i64 order, .int .i64 day] w fun e w' => e = .returned (.bool true) ∧ w.Grows w' := by
  have HR := Lib.hid h
  obtain ⟨hlen, a, cap, rfl, -⟩ := h
  obtain ⟨hd1, hd2⟩ := hd
  by_cases h4 : Rs.length > 4
  · have hc : (4 : Int) < (Rs.length : Int) := by omega
    go_enter Try.func7, Try.ntmps7
    go_wp2_with fail
    go_returns
    exact ⟨rfl, .refl _⟩
  · have hc : ¬ (4 : Int) < (Rs.length : Int) := by omega
    obtain ⟨L, hL⟩ : ∃ L, statL Rs order = L := ⟨_, rfl⟩
    have hL0 := statL_pos Rs order
    have hL3 := statL_le Rs order
    rw [hL] at hL0 hL3
    have HO := Lib.hid ho
    go_enter Try.func7, Try.ntmps7
    go_wp2_with fail
    refine (stat_any hOf Rs _ order w HR.out HO.out).mono ?_
    rintro e w1 ⟨v2, x, rfl, hg1, hvs⟩
    rw [hL] at hvs
    have HVS := Lib.hid hvs
    obtain ⟨hn, a2, cap2, rfl, -⟩ := hvs.lies
    have hb1 := hg1.below
    have HB1 := Lib.hid hb1
    generalize 1 + pick order 3 = cur at *
    have HLN : Hid ((insAll (frms L)).length ≤ 1000) := Lib.hid (by
      have := insAll_length (frms L)
      have h2 : (frms L).length = L.length := by simp [frms]
      omega)
    go_upto_region 4 with fail
    have HBA := Lib.hid (hb1.alloc hb1.size (.cells #[.string lawN, .int .i64 cur, .slice a2 L.length cap2] 53))
    have HVA := Lib.hid (hvs.alloc (.cells #[.string lawN, .int .i64 cur, .slice a2 L.length cap2] 53))
    have k0 : (w1.alloc (.cells #[.string lawN, .int .i64 cur, .slice a2 L.length cap2] 53)).cell? ⟨w1.heap.size, 0, none⟩ = some (.string lawN) := by rw [World.cell?_alloc_at _ _ _ _ rfl]; rfl
    have k1 : (w1.alloc (.cells #[.string lawN, .int .i64 cur, .slice a2 L.length cap2] 53)).cell? ⟨w1.heap.size, 1, none⟩ = some (.int .i64 cur) := by rw [World.cell?_alloc_at _ _ _ _ rfl]; rfl
    have k2 : (w1.alloc (.cells #[.string lawN, .int .i64 cur, .slice a2 L.length cap2] 53)).cell? ⟨w1.heap.size, 2, none⟩ = some (.slice a2 L.length cap2) := by rw [World.cell?_alloc_at _ _ _ _ rfl]; rfl
    have hka : w1.heap.size < (w1.alloc (.cells #[.string lawN, .int .i64 cur, .slice a2 L.length cap2] 53)).heap.size := by simp
    clear hvs hg1 hb1 hL HVS HB1
    generalize w1.alloc (.cells #[.string lawN, .int .i64 cur, .slice a2 L.length cap2] 53) = wa at *
    generalize w1.heap.size = b7 at *
    have hp := pick_bd day 73068 (by omega)
    obtain ⟨hp0, hp1⟩ := hp
    by_cases h8 : day.tmod 8 = 0
    · have hb8 : (day.tmod 8 == 0) = true := by simp [h8]
      have hb9 : (day.tmod 8 != 0) = false := by simp [h8]
      clear h8
      go_wp2_with fail
      refine (atP_any lawN _ _ _ x (day) wa HVA.out).mono ?_
      rintro e w2 ⟨V, ok, v3, v4, v5, v6, v7, rfl, hg2, hver, hat⟩
      obtain ⟨⟨a3, n3, c3, rfl⟩, ⟨a4, n4, c4, rfl⟩, ⟨a5, n5, c5, rfl⟩, ⟨a6, n6, c6, rfl⟩, ⟨a7, n7, c7, rfl⟩⟩ := hver.form2
      have hb2 := hg2.below
      have l0 : w2.cell? ⟨b7, 0, none⟩ = some (.string lawN) := (hb2.cell (p := ⟨b7, 0, none⟩) hka).trans k0
      have l1 : w2.cell? ⟨b7, 1, none⟩ = some (.int .i64 cur) := (hb2.cell (p := ⟨b7, 1, none⟩) hka).trans k1
      have l2 : w2.cell? ⟨b7, 2, none⟩ = some (.slice a2 L.length cap2) := (hb2.cell (p := ⟨b7, 2, none⟩) hka).trans k2
      have hs2 := hb2.size
      have HAT := Lib.hid hat
      go_upto_region 7 with fail
      have p0 : (w2.alloc (.cells #[.int .i64 V.frm, .int .i64 V.mode, .int .i64 V.unit, .slice a3 n3 c3, .slice a4 n4 c4, .slice a5 n5 c5, .slice a6 n6 c6, .slice a7 n7 c7] 34)).cell? ⟨w2.heap.size, 0, none⟩ = some (.int .i64 V.frm) := by rw [World.cell?_alloc_at _ _ _ _ rfl]; rfl
      have p1 : (w2.alloc (.cells #[.int .i64 V.frm, .int .i64 V.mode, .int .i64 V.unit, .slice a3 n3 c3, .slice a4 n4 c4, .slice a5 n5 c5, .slice a6 n6 c6, .slice a7 n7 c7] 34)).cell? ⟨w2.heap.size, 1, none⟩ = some (.int .i64 V.mode) := by rw [World.cell?_alloc_at _ _ _ _ rfl]; rfl
      have p2 : (w2.alloc (.cells #[.int .i64 V.frm, .int .i64 V.mode, .int .i64 V.unit, .slice a3 n3 c3, .slice a4 n4 c4, .slice a5 n5 c5, .slice a6 n6 c6, .slice a7 n7 c7] 34)).cell? ⟨w2.heap.size, 2, none⟩ = some (.int .i64 V.unit) := by rw [World.cell?_alloc_at _ _ _ _ rfl]; rfl
      have p3 : (w2.alloc (.cells #[.int .i64 V.frm, .int .i64 V.mode, .int .i64 V.unit, .slice a3 n3 c3, .slice a4 n4 c4, .slice a5 n5 c5, .slice a6 n6 c6, .slice a7 n7 c7] 34)).cell? ⟨w2.heap.size, 3, none⟩ = some (.slice a3 n3 c3) := by rw [World.cell?_alloc_at _ _ _ _ rfl]; rfl
      have p4 : (w2.alloc (.cells #[.int .i64 V.frm, .int .i64 V.mode, .int .i64 V.unit, .slice a3 n3 c3, .slice a4 n4 c4, .slice a5 n5 c5, .slice a6 n6 c6, .slice a7 n7 c7] 34)).cell? ⟨w2.heap.size, 4, none⟩ = some (.slice a4 n4 c4) := by rw [World.cell?_alloc_at _ _ _ _ rfl]; rfl
      have p5 : (w2.alloc (.cells #[.int .i64 V.frm, .int .i64 V.mode, .int .i64 V.unit, .slice a3 n3 c3, .slice a4 n4 c4, .slice a5 n5 c5, .slice a6 n6 c6, .slice a7 n7 c7] 34)).cell? ⟨w2.heap.size, 5, none⟩ = some (.slice a5 n5 c5) := by rw [World.cell?_alloc_at _ _ _ _ rfl]; rfl
      have p6 : (w2.alloc (.cells #[.int .i64 V.frm, .int .i64 V.mode, .int .i64 V.unit, .slice a3 n3 c3, .slice a4 n4 c4, .slice a5 n5 c5, .slice a6 n6 c6, .slice a7 n7 c7] 34)).cell? ⟨w2.heap.size, 6, none⟩ = some (.slice a6 n6 c6) := by rw [World.cell?_alloc_at _ _ _ _ rfl]; rfl
      have p7 : (w2.alloc (.cells #[.int .i64 V.frm, .int .i64 V.mode, .int .i64 V.unit, .slice a3 n3 c3, .slice a4 n4 c4, .slice a5 n5 c5, .slice a6 n6 c6, .slice a7 n7 c7] 34)).cell? ⟨w2.heap.size, 7, none⟩ = some (.slice a7 n7 c7) := by rw [World.cell?_alloc_at _ _ _ _ rfl]; rfl
      have hb3 : Below wa.heap.size wa (w2.alloc (.cells #[.int .i64 V.frm, .int .i64 V.mode, .int .i64 V.unit, .slice a3 n3 c3, .slice a4 n4 c4, .slice a5 n5 c5, .slice a6 n6 c6, .slice a7 n7 c7] 34)) := hb2.alloc hs2 _
      have m0 : (w2.alloc (.cells #[.int .i64 V.frm, .int .i64 V.mode, .int .i64 V.unit, .slice a3 n3 c3, .slice a4 n4 c4, .slice a5 n5 c5, .slice a6 n6 c6, .slice a7 n7 c7] 34)).cell? ⟨b7, 0, none⟩ = some (.string lawN) := (World.cell?_alloc_lt w2 (.cells #[.int .i64 V.frm, .int .i64 V.mode, .int .i64 V.unit, .slice a3 n3 c3, .slice a4 n4 c4, .slice a5 n5 c5, .slice a6 n6 c6, .slice a7 n7 c7] 34) ⟨b7, 0, none⟩ (by show b7 < _; omega)).trans l0
      have m1 : (w2.alloc (.cells #[.int .i64 V.frm, .int .i64 V.mode, .int .i64 V.unit, .slice a3 n3 c3, .slice a4 n4 c4, .slice a5 n5 c5, .slice a6 n6 c6, .slice a7 n7 c7] 34)).cell? ⟨b7, 1, none⟩ = some (.int .i64 cur) := (World.cell?_alloc_lt w2 (.cells #[.int .i64 V.frm, .int .i64 V.mode, .int .i64 V.unit, .slice a3 n3 c3, .slice a4 n4 c4, .slice a5 n5 c5, .slice a6 n6 c6, .slice a7 n7 c7] 34) ⟨b7, 1, none⟩ (by show b7 < _; omega)).trans l1
      have m2 : (w2.alloc (.cells #[.int .i64 V.frm, .int .i64 V.mode, .int .i64 V.unit, .slice a3 n3 c3, .slice a4 n4 c4, .slice a5 n5 c5, .slice a6 n6 c6, .slice a7 n7 c7] 34)).cell? ⟨b7, 2, none⟩ = some (.slice a2 L.length cap2) := (World.cell?_alloc_lt w2 (.cells #[.int .i64 V.frm, .int .i64 V.mode, .int .i64 V.unit, .slice a3 n3 c3, .slice a4 n4 c4, .slice a5 n5 c5, .slice a6 n6 c6, .slice a7 n7 c7] 34) ⟨b7, 2, none⟩ (by show b7 < _; omega)).trans l2
      have hver1 := hver.alloc (.cells #[.int .i64 V.frm, .int .i64 V.mode, .int .i64 V.unit, .slice a3 n3 c3, .slice a4 n4 c4, .slice a5 n5 c5, .slice a6 n6 c6, .slice a7 n7 c7] 34)
      have hsz : (w2.alloc (.cells #[.int .i64 V.frm, .int .i64 V.mode, .int .i64 V.unit, .slice a3 n3 c3, .slice a4 n4 c4, .slice a5 n5 c5, .slice a6 n6 c6, .slice a7 n7 c7] 34)).heap.size = w2.heap.size + 1 := by simp
      generalize w2.alloc (.cells #[.int .i64 V.frm, .int .i64 V.mode, .int .i64 V.unit, .slice a3 n3 c3, .slice a4 n4 c4, .slice a5 n5 c5, .slice a6 n6 c6, .slice a7 n7 c7] 34) = wb at *
      generalize w2.heap.size = b8 at *
      have HVB := Lib.hid (HVA.out.same hb3)
      have HB3 := Lib.hid hb3
      have HVER := Lib.hid hver1
      clear hver hver1 hat hg2 hb2 hb3 l0 l1 l2
      go_wp2_with fail
      refine (refAt_any lawN _ _ _ x (day) wb HVB.out).mono ?_
      rintro e w3 ⟨V', ok', u3, u4, u5, u6, u7, rfl, hg3, hver', hat'⟩
      obtain ⟨hVV, hok⟩ := HAT.out.uniq hat'
      subst hVV hok
      obtain ⟨⟨d3, m3, e3, rfl⟩, ⟨d4, m4, e4, rfl⟩, ⟨d5, m5, e5, rfl⟩, ⟨d6, m6, e6, rfl⟩, ⟨d7, m7, e7, rfl⟩⟩ := hver'.form2
      have hb4 := hg3.below
      have hs4 := hb4.size
      have n0 : w3.cell? ⟨b7, 0, none⟩ = some (.string lawN) := (hb4.cell (p := ⟨b7, 0, none⟩) (by show b7 < wb.heap.size; omega)).trans m0
      have n1 : w3.cell? ⟨b7, 1, none⟩ = some (.int .i64 cur) := (hb4.cell (p := ⟨b7, 1, none⟩) (by show b7 < wb.heap.size; omega)).trans m1
      have n2 : w3.cell? ⟨b7, 2, none⟩ = some (.slice a2 L.length cap2) := (hb4.cell (p := ⟨b7, 2, none⟩) (by show b7 < wb.heap.size; omega)).trans m2
      go_upto_region 8 with fail
      have hb5 : Below wb.heap.size wb (w3.alloc (.cells #[.int .i64 V.frm, .int .i64 V.mode, .int .i64 V.unit, .slice d3 m3 e3, .slice d4 m4 e4, .slice d5 m5 e5, .slice d6 m6 e6, .slice d7 m7 e7] 34)) := hb4.alloc hs4 _
      have z0 : (w3.alloc (.cells #[.int .i64 V.frm, .int .i64 V.mode, .int .i64 V.unit, .slice d3 m3 e3, .slice d4 m4 e4, .slice d5 m5 e5, .slice d6 m6 e6, .slice d7 m7 e7] 34)).cell? ⟨w3.heap.size, 0, none⟩ = some (.int .i64 V.frm) := by rw [World.cell?_alloc_at _ _ _ _ rfl]; rfl
      have z1 : (w3.alloc (.cells #[.int .i64 V.frm, .int .i64 V.mode, .int .i64 V.unit, .slice d3 m3 e3, .slice d4 m4 e4, .slice d5 m5 e5, .slice d6 m6 e6, .slice d7 m7 e7] 34)).cell? ⟨w3.heap.size, 1, none⟩ = some (.int .i64 V.mode) := by rw [World.cell?_alloc_at _ _ _ _ rfl]; rfl
      have z2 : (w3.alloc (.cells #[.int .i64 V.frm, .int .i64 V.mode, .int .i64 V.unit, .slice d3 m3 e3, .slice d4 m4 e4, .slice d5 m5 e5, .slice d6 m6 e6, .slice d7 m7 e7] 34)).cell? ⟨w3.heap.size, 2, none⟩ = some (.int .i64 V.unit) := by rw [World.cell?_alloc_at _ _ _ _ rfl]; rfl
      have z3 : (w3.alloc (.cells #[.int .i64 V.frm, .int .i64 V.mode, .int .i64 V.unit, .slice d3 m3 e3, .slice d4 m4 e4, .slice d5 m5 e5, .slice d6 m6 e6, .slice d7 m7 e7] 34)).cell? ⟨w3.heap.size, 3, none⟩ = some (.slice d3 m3 e3) := by rw [World.cell?_alloc_at _ _ _ _ rfl]; rfl
      have z4 : (w3.alloc (.cells #[.int .i64 V.frm, .int .i64 V.mode, .int .i64 V.unit, .slice d3 m3 e3, .slice d4 m4 e4, .slice d5 m5 e5, .slice d6 m6 e6, .slice d7 m7 e7] 34)).cell? ⟨w3.heap.size, 4, none⟩ = some (.slice d4 m4 e4) := by rw [World.cell?_alloc_at _ _ _ _ rfl]; rfl
      have z5 : (w3.alloc (.cells #[.int .i64 V.frm, .int .i64 V.mode, .int .i64 V.unit, .slice d3 m3 e3, .slice d4 m4 e4, .slice d5 m5 e5, .slice d6 m6 e6, .slice d7 m7 e7] 34)).cell? ⟨w3.heap.size, 5, none⟩ = some (.slice d5 m5 e5) := by rw [World.cell?_alloc_at _ _ _ _ rfl]; rfl
      have z6 : (w3.alloc (.cells #[.int .i64 V.frm, .int .i64 V.mode, .int .i64 V.unit, .slice d3 m3 e3, .slice d4 m4 e4, .slice d5 m5 e5, .slice d6 m6 e6, .slice d7 m7 e7] 34)).cell? ⟨w3.heap.size, 6, none⟩ = some (.slice d6 m6 e6) := by rw [World.cell?_alloc_at _ _ _ _ rfl]; rfl
      have z7 : (w3.alloc (.cells #[.int .i64 V.frm, .int .i64 V.mode, .int .i64 V.unit, .slice d3 m3 e3, .slice d4 m4 e4, .slice d5 m5 e5, .slice d6 m6 e6, .slice d7 m7 e7] 34)).cell? ⟨w3.heap.size, 7, none⟩ = some (.slice d7 m7 e7) := by rw [World.cell?_alloc_at _ _ _ _ rfl]; rfl
      have x0 : (w3.alloc (.cells #[.int .i64 V.frm, .int .i64 V.mode, .int .i64 V.unit, .slice d3 m3 e3, .slice d4 m4 e4, .slice d5 m5 e5, .slice d6 m6 e6, .slice d7 m7 e7] 34)).cell? ⟨b7, 0, none⟩ = some (.string lawN) := (hb5.cell (p := ⟨b7, 0, none⟩) (by show b7 < wb.heap.size; omega)).trans m0
      have x1 : (w3.alloc (.cells #[.int .i64 V.frm, .int .i64 V.mode, .int .i64 V.unit, .slice d3 m3 e3, .slice d4 m4 e4, .slice d5 m5 e5, .slice d6 m6 e6, .slice d7 m7 e7] 34)).cell? ⟨b7, 1, none⟩ = some (.int .i64 cur) := (hb5.cell (p := ⟨b7, 1, none⟩) (by show b7 < wb.heap.size; omega)).trans m1
      have x2 : (w3.alloc (.cells #[.int .i64 V.frm, .int .i64 V.mode, .int .i64 V.unit, .slice d3 m3 e3, .slice d4 m4 e4, .slice d5 m5 e5, .slice d6 m6 e6, .slice d7 m7 e7] 34)).cell? ⟨b7, 2, none⟩ = some (.slice a2 L.length cap2) := (hb5.cell (p := ⟨b7, 2, none⟩) (by show b7 < wb.heap.size; omega)).trans m2
      have y0 : (w3.alloc (.cells #[.int .i64 V.frm, .int .i64 V.mode, .int .i64 V.unit, .slice d3 m3 e3, .slice d4 m4 e4, .slice d5 m5 e5, .slice d6 m6 e6, .slice d7 m7 e7] 34)).cell? ⟨b8, 0, none⟩ = some (.int .i64 V.frm) := (hb5.cell (p := ⟨b8, 0, none⟩) (by show b8 < wb.heap.size; omega)).trans p0
      have y1 : (w3.alloc (.cells #[.int .i64 V.frm, .int .i64 V.mode, .int .i64 V.unit, .slice d3 m3 e3, .slice d4 m4 e4, .slice d5 m5 e5, .slice d6 m6 e6, .slice d7 m7 e7] 34)).cell? ⟨b8, 1, none⟩ = some (.int .i64 V.mode) := (hb5.cell (p := ⟨b8, 1, none⟩) (by show b8 < wb.heap.size; omega)).trans p1
      have y2 : (w3.alloc (.cells #[.int .i64 V.frm, .int .i64 V.mode, .int .i64 V.unit, .slice d3 m3 e3, .slice d4 m4 e4, .slice d5 m5 e5, .slice d6 m6 e6, .slice d7 m7 e7] 34)).cell? ⟨b8, 2, none⟩ = some (.int .i64 V.unit) := (hb5.cell (p := ⟨b8, 2, none⟩) (by show b8 < wb.heap.size; omega)).trans p2
      have y3 : (w3.alloc (.cells #[.int .i64 V.frm, .int .i64 V.mode, .int .i64 V.unit, .slice d3 m3 e3, .slice d4 m4 e4, .slice d5 m5 e5, .slice d6 m6 e6, .slice d7 m7 e7] 34)).cell? ⟨b8, 3, none⟩ = some (.slice a3 n3 c3) := (hb5.cell (p := ⟨b8, 3, none⟩) (by show b8 < wb.heap.size; omega)).trans p3
      have y4 : (w3.alloc (.cells #[.int .i64 V.frm, .int .i64 V.mode, .int .i64 V.unit, .slice d3 m3 e3, .slice d4 m4 e4, .slice d5 m5 e5, .slice d6 m6 e6, .slice d7 m7 e7] 34)).cell? ⟨b8, 4, none⟩ = some (.slice a4 n4 c4) := (hb5.cell (p := ⟨b8, 4, none⟩) (by show b8 < wb.heap.size; omega)).trans p4
      have y5 : (w3.alloc (.cells #[.int .i64 V.frm, .int .i64 V.mode, .int .i64 V.unit, .slice d3 m3 e3, .slice d4 m4 e4, .slice d5 m5 e5, .slice d6 m6 e6, .slice d7 m7 e7] 34)).cell? ⟨b8, 5, none⟩ = some (.slice a5 n5 c5) := (hb5.cell (p := ⟨b8, 5, none⟩) (by show b8 < wb.heap.size; omega)).trans p5
      have y6 : (w3.alloc (.cells #[.int .i64 V.frm, .int .i64 V.mode, .int .i64 V.unit, .slice d3 m3 e3, .slice d4 m4 e4, .slice d5 m5 e5, .slice d6 m6 e6, .slice d7 m7 e7] 34)).cell? ⟨b8, 6, none⟩ = some (.slice a6 n6 c6) := (hb5.cell (p := ⟨b8, 6, none⟩) (by show b8 < wb.heap.size; omega)).trans p6
      have y7 : (w3.alloc (.cells #[.int .i64 V.frm, .int .i64 V.mode, .int .i64 V.unit, .slice d3 m3 e3, .slice d4 m4 e4, .slice d5 m5 e5, .slice d6 m6 e6, .slice d7 m7 e7] 34)).cell? ⟨b8, 7, none⟩ = some (.slice a7 n7 c7) := (hb5.cell (p := ⟨b8, 7, none⟩) (by show b8 < wb.heap.size; omega)).trans p7
      have hver2 := hver'.alloc (.cells #[.int .i64 V.frm, .int .i64 V.mode, .int .i64 V.unit, .slice d3 m3 e3, .slice d4 m4 e4, .slice d5 m5 e5, .slice d6 m6 e6, .slice d7 m7 e7] 34)
      have hver3 := HVER.out.below hb5
      have hsz3 : (w3.alloc (.cells #[.int .i64 V.frm, .int .i64 V.mode, .int .i64 V.unit, .slice d3 m3 e3, .slice d4 m4 e4, .slice d5 m5 e5, .slice d6 m6 e6, .slice d7 m7 e7] 34)).heap.size = w3.heap.size + 1 := by simp
      have HBX := Lib.hid (HBA.out.trans ((HB3.out.trans (hb5.mono HB3.out.size)).mono HBA.out.size))
      have HVX := Lib.hid (HVB.out.same hb5)
      generalize (w3.alloc (.cells #[.int .i64 V.frm, .int .i64 V.mode, .int .i64 V.unit, .slice d3 m3 e3, .slice d4 m4 e4, .slice d5 m5 e5, .slice d6 m6 e6, .slice d7 m7 e7] 34)) = X at *
      generalize w3.heap.size = b10 at *
      have hx7 : b7 < X.heap.size := by omega
      have hx8 : b8 < X.heap.size := by omega
      have hx10 : b10 < X.heap.size := by omega
      have HVE := Lib.hid hver2
      have HVF := Lib.hid hver3
      clear hver' hver2 hver3 hat' hg3 hb4 hb5 HVER HVB HB3 m0 m1 m2 n0 n1 n2 p0 p1 p2 p3 p4 p5 p6 p7 k0 k1 k2
      refine TG.begin 18 (fun w' => Below X.heap.size X w') (by kernel_rfl) (by kernel_rfl) (Below.refl _ _).drew (fun hS => ?_)
      refine TG.one (i := 0) (by kernel_rfl) rfl (fun K1 hK1 => ?_)
      go_simp
      go_at_call 11
      refine (awake_any _).mono ?_
      rintro e' wA ⟨rfl, hgA⟩
      have hS2 : Below X.heap.size X wA := Below.trans hS (hgA.below.mono hS.size)
      refine TG.go hK1 hS2 (fun hS => ?_)
      clear hK1 K1
      (try simp only [Act.put, List.getElem_toArray, List.getElem_cons_zero, List.getElem_cons_succ, List.setIfInBounds_toArray, List.set_cons_zero, List.set_cons_succ])
      refine TG.takeV (i := 1) (v := ?_) rfl (by kernel_rfl) (by kernel_rfl) (by kernel_rfl) (by decide) (fun _ _ _ h => h) rfl hS ?_ ?_
      rotate_left
      focus
        intro wS hSw
        (try dsimp only at hSw)
        go_simp
        rfl
      (try simp only [Act.put, List.getElem_toArray, List.getElem_cons_zero, List.getElem_cons_succ, List.setIfInBounds_toArray, List.set_cons_zero, List.set_cons_succ])
      refine TG.takeV (i := 2) (v := ?_) rfl (by kernel_rfl) (by kernel_rfl) (by kernel_rfl) (by decide) (fun _ _ _ h => h) rfl hS ?_ ?_
      rotate_left
      focus
        intro wS hSw
        (try dsimp only at hSw)
        go_simp
        rfl
      (try simp only [Act.put, List.getElem_toArray, List.getElem_cons_zero, List.getElem_cons_succ, List.setIfInBounds_toArray, List.set_cons_zero, List.set_cons_succ])
      refine TG.takeV (i := 3) (v := ?_) rfl (by kernel_rfl) (by kernel_rfl) (by kernel_rfl) (by decide) (fun _ _ _ h => h) rfl hS ?_ ?_
      rotate_left
      focus
        intro wS hSw
        (try dsimp only at hSw)
        go_simp
        rfl
      (try simp only [Act.put, List.getElem_toArray, List.getElem_cons_zero, List.getElem_cons_succ, List.setIfInBounds_toArray, List.set_cons_zero, List.set_cons_succ])
      refine TG.takeV (i := 4) (v := ?_) rfl (by kernel_rfl) (by kernel_rfl) (by kernel_rfl) (by decide) (fun _ _ _ h => h) rfl hS ?_ ?_
      rotate_left
      focus
        intro wS hSw
        (try dsimp only at hSw)
        go_simp
        rfl
      (try simp only [Act.put, List.getElem_toArray, List.getElem_cons_zero, List.getElem_cons_succ, List.setIfInBounds_toArray, List.set_cons_zero, List.set_cons_succ])
      refine TG.takeV (i := 5) (v := ?_) rfl (by kernel_rfl) (by kernel_rfl) (by kernel_rfl) (by decide) (fun _ _ _ h => h) rfl hS ?_ ?_
      rotate_left
      focus
        intro wS hSw
        (try dsimp only at hSw)
        go_simp
        rfl
      (try simp only [Act.put, List.getElem_toArray, List.getElem_cons_zero, List.getElem_cons_succ, List.setIfInBounds_toArray, List.set_cons_zero, List.set_cons_succ])
      refine TG.takeV (i := 6) (v := ?_) rfl (by kernel_rfl) (by kernel_rfl) (by kernel_rfl) (by decide) (fun _ _ _ h => h) rfl hS ?_ ?_
      rotate_left
      focus
        intro wS hSw
        (try dsimp only at hSw)
        go_simp
        rfl
      (try simp only [Act.put, List.getElem_toArray, List.getElem_cons_zero, List.getElem_cons_succ, List.setIfInBounds_toArray, List.set_cons_zero, List.set_cons_succ])
      refine TG.takeV (i := 7) (v := ?_) rfl (by kernel_rfl) (by kernel_rfl) (by kernel_rfl) (by decide) (fun _ _ _ h => h) rfl hS ?_ ?_
      rotate_left
      focus
        intro wS hSw
        (try dsimp only at hSw)
        (have e0 := (hSw.cell (p := ⟨b8, 0, none⟩) hx8).trans y0; have e1 := (hSw.cell (p := ⟨b8, 1, none⟩) hx8).trans y1; have e2 := (hSw.cell (p := ⟨b8, 2, none⟩) hx8).trans y2; have e3 := (hSw.cell (p := ⟨b8, 3, none⟩) hx8).trans y3; have e4 := (hSw.cell (p := ⟨b8, 4, none⟩) hx8).trans y4; have e5 := (hSw.cell (p := ⟨b8, 5, none⟩) hx8).trans y5; have e6 := (hSw.cell (p := ⟨b8, 6, none⟩) hx8).trans y6; have e7 := (hSw.cell (p := ⟨b8, 7, none⟩) hx8).trans y7)
        go_simp
        rfl
      (try simp only [Act.put, List.getElem_toArray, List.getElem_cons_zero, List.getElem_cons_succ, List.setIfInBounds_toArray, List.set_cons_zero, List.set_cons_succ])
      refine TG.takeV (i := 8) (v := ?_) rfl (by kernel_rfl) (by kernel_rfl) (by kernel_rfl) (by decide) (fun _ _ _ h => h) rfl hS ?_ ?_
      rotate_left
      focus
        intro wS hSw
        (try dsimp only at hSw)
        (have e0 := (hSw.cell (p := ⟨b10, 0, none⟩) hx10).trans z0; have e1 := (hSw.cell (p := ⟨b10, 1, none⟩) hx10).trans z1; have e2 := (hSw.cell (p := ⟨b10, 2, none⟩) hx10).trans z2; have e3 := (hSw.cell (p := ⟨b10, 3, none⟩) hx10).trans z3; have e4 := (hSw.cell (p := ⟨b10, 4, none⟩) hx10).trans z4; have e5 := (hSw.cell (p := ⟨b10, 5, none⟩) hx10).trans z5; have e6 := (hSw.cell (p := ⟨b10, 6, none⟩) hx10).trans z6; have e7 := (hSw.cell (p := ⟨b10, 7, none⟩) hx10).trans z7)
        go_simp
        rfl
      (try simp only [Act.put, List.getElem_toArray, List.getElem_cons_zero, List.getElem_cons_succ, List.setIfInBounds_toArray, List.set_cons_zero, List.set_cons_succ])
      refine TG.one (i := 9) (by kernel_rfl) rfl (fun K1 hK1 => ?_)
      go_simp
      go_at_call 21
      refine (SameV_any (V := V) (HVF.out.below hS) (HVE.out.below hS)).mono ?_
      rintro e' wB ⟨rfl, hgB⟩
      have hS2 : Below X.heap.size X wB := Below.trans hS (hgB.below.mono hS.size)
      refine TG.go hK1 hS2 (fun hS => ?_)
      clear hK1 K1
      (try simp only [Act.put, List.getElem_toArray, List.getElem_cons_zero, List.getElem_cons_succ, List.setIfInBounds_toArray, List.set_cons_zero, List.set_cons_succ])
      refine TG.takeV (i := 10) (v := ?_) rfl (by kernel_rfl) (by kernel_rfl) (by kernel_rfl) (by decide) (fun _ _ _ h => h) rfl hS ?_ ?_
      rotate_left
      focus
        intro wS hSw
        (try dsimp only at hSw)
        go_simp
        rfl
      (try simp only [Act.put, List.getElem_toArray, List.getElem_cons_zero, List.getElem_cons_succ, List.setIfInBounds_toArray, List.set_cons_zero, List.set_cons_succ])
      refine TG.takeV (i := 11) (v := ?_) rfl (by kernel_rfl) (by kernel_rfl) (by kernel_rfl) (by decide) (fun _ _ _ h => h) rfl hS ?_ ?_
      rotate_left
      focus
        intro wS hSw
        (try dsimp only at hSw)
        go_simp
        rfl
      (try simp only [Act.put, List.getElem_toArray, List.getElem_cons_zero, List.getElem_cons_succ, List.setIfInBounds_toArray, List.set_cons_zero, List.set_cons_succ])
      refine TG.takeV (i := 12) (v := ?_) rfl (by kernel_rfl) (by kernel_rfl) (by kernel_rfl) (by decide) (fun _ _ _ h => h) rfl hS ?_ ?_
      rotate_left
      focus
        intro wS hSw
        (try dsimp only at hSw)
        (have e0 := (hSw.cell (p := ⟨b7, 0, none⟩) hx7).trans x0; have e1 := (hSw.cell (p := ⟨b7, 1, none⟩) hx7).trans x1; have e2 := (hSw.cell (p := ⟨b7, 2, none⟩) hx7).trans x2)
        go_simp
        rfl
      (try simp only [Act.put, List.getElem_toArray, List.getElem_cons_zero, List.getElem_cons_succ, List.setIfInBounds_toArray, List.set_cons_zero, List.set_cons_succ])
      refine TG.takeV (i := 14) (v := ?_) rfl (by kernel_rfl) (by kernel_rfl) (by kernel_rfl) (by decide) (fun _ _ _ h => h) rfl hS ?_ ?_
      rotate_left
      focus
        intro wS hSw
        (try dsimp only at hSw)
        (have e0 := (hSw.cell (p := ⟨b7, 0, none⟩) hx7).trans x0; have e1 := (hSw.cell (p := ⟨b7, 1, none⟩) hx7).trans x1; have e2 := (hSw.cell (p := ⟨b7, 2, none⟩) hx7).trans x2)
        go_simp
        rfl
      (try simp only [Act.put, List.getElem_toArray, List.getElem_cons_zero, List.getElem_cons_succ, List.setIfInBounds_toArray, List.set_cons_zero, List.set_cons_succ])
      refine TG.one (i := 13) (by kernel_rfl) rfl (fun K1 hK1 => ?_)
      go_simp
      go_at_call 23
      refine (chgP_any lawN _ _ _ x _ (HVX.out.same hS) hL0).mono ?_
      rintro e' wC ⟨vp, rfl, hgC, hip, hcp⟩
      rw [chg_same] at hip
      obtain ⟨va, vc, hvp⟩ := IntsAt.form hip
      subst hvp
      have HIP := Lib.hid hip
      clear hip hcp
      have hS2 : Below X.heap.size X wC := Below.trans hS (hgC.below.mono hS.size)
      refine TG.go hK1 hS2 (fun hS => ?_)
      clear hK1 K1
      (try simp only [Act.put, List.getElem_toArray, List.getElem_cons_zero, List.getElem_cons_succ, List.setIfInBounds_toArray, List.set_cons_zero, List.set_cons_succ])
      refine TG.one (i := 15) (by kernel_rfl) rfl (fun K1 hK1 => ?_)
      go_simp
      go_at_call 24
      refine (chgR_any lawN _ _ _ x _ (HVX.out.same hS) (by omega)).mono ?_
      rintro e' wD ⟨vr, rfl, hgD, hir, hcr⟩
      obtain ⟨ua, uc, hvr⟩ := IntsAt.form hir
      subst hvr
      have HIR := Lib.hid hir
      have hip2 := IntsAt.same HIP.out hgD.below
      have HIP2 := Lib.hid hip2
      clear hir hcr hip2
      have hS2 : Below X.heap.size X wD := Below.trans hS (hgD.below.mono hS.size)
      refine TG.go hK1 hS2 (fun hS => ?_)
      clear hK1 K1
      (try simp only [Act.put, List.getElem_toArray, List.getElem_cons_zero, List.getElem_cons_succ, List.setIfInBounds_toArray, List.set_cons_zero, List.set_cons_succ])
      refine TG.one (i := 16) (by kernel_rfl) rfl (fun K1 hK1 => ?_)
      go_simp
      go_at_call 22
      refine (sameInts_any HIP2.out HIR.out HLN.out).mono ?_
      rintro e' wE ⟨rfl, hgE⟩
      have hS2 : Below X.heap.size X wE := Below.trans hS (hgE.below.mono hS.size)
      refine TG.go hK1 hS2 (fun hS => ?_)
      clear hK1 K1
      (try simp only [Act.put, List.getElem_toArray, List.getElem_cons_zero, List.getElem_cons_succ, List.setIfInBounds_toArray, List.set_cons_zero, List.set_cons_succ])
      refine TG.takeV (i := 17) (v := ?_) rfl (by kernel_rfl) (by kernel_rfl) (by kernel_rfl) (by decide) (fun _ _ _ h => h) rfl hS ?_ ?_
      rotate_left
      focus
        intro wS hSw
        (try dsimp only at hSw)
        go_simp
        rfl
      (try simp only [Act.put, List.getElem_toArray, List.getElem_cons_zero, List.getElem_cons_succ, List.setIfInBounds_toArray, List.set_cons_zero, List.set_cons_succ])
      have HSE := Lib.hid (show Below X.heap.size X wE from hS)
      refine TG.one (i := 18) (by kernel_rfl) rfl (fun K1 hK1 => ?_)
      go_simp
      refine hK1 _ _ (fun h => absurd rfl h) (TG.done (by kernel_rfl) ?_)
      clear hK1 K1 hS
      (try simp only [Act.put, List.getElem_toArray, List.getElem_cons_zero, List.getElem_cons_succ, List.setIfInBounds_toArray, List.set_cons_zero, List.set_cons_succ])
      go_wp2_with fail
      go_returns
      exact ⟨rfl, .of_below (HBX.out.trans (HSE.out.mono HBX.out.size))⟩
    · have hb8 : (day.tmod 8 == 0) = false := by simp [h8]
      have hb9 : (day.tmod 8 != 0) = true := by simp [h8]
      clear h8
      go_wp2_with fail
      refine (Pick_any _ _ _ (by omega)).mono ?_
      rintro e w' ⟨rfl, rfl⟩
      go_wp2_with fail
      refine (atP_any lawN _ _ _ x (pick day 73068 - 10) wa HVA.out).mono ?_
      rintro e w2 ⟨V, ok, v3, v4, v5, v6, v7, rfl, hg2, hver, hat⟩
      obtain ⟨⟨a3, n3, c3, rfl⟩, ⟨a4, n4, c4, rfl⟩, ⟨a5, n5, c5, rfl⟩, ⟨a6, n6, c6, rfl⟩, ⟨a7, n7, c7, rfl⟩⟩ := hver.form2
      have hb2 := hg2.below
      have l0 : w2.cell? ⟨b7, 0, none⟩ = some (.string lawN) := (hb2.cell (p := ⟨b7, 0, none⟩) hka).trans k0
      have l1 : w2.cell? ⟨b7, 1, none⟩ = some (.int .i64 cur) := (hb2.cell (p := ⟨b7, 1, none⟩) hka).trans k1
      have l2 : w2.cell? ⟨b7, 2, none⟩ = some (.slice a2 L.length cap2) := (hb2.cell (p := ⟨b7, 2, none⟩) hka).trans k2
      have hs2 := hb2.size
      have HAT := Lib.hid hat
      go_upto_region 7 with fail
      have p0 : (w2.alloc (.cells #[.int .i64 V.frm, .int .i64 V.mode, .int .i64 V.unit, .slice a3 n3 c3, .slice a4 n4 c4, .slice a5 n5 c5, .slice a6 n6 c6, .slice a7 n7 c7] 34)).cell? ⟨w2.heap.size, 0, none⟩ = some (.int .i64 V.frm) := by rw [World.cell?_alloc_at _ _ _ _ rfl]; rfl
      have p1 : (w2.alloc (.cells #[.int .i64 V.frm, .int .i64 V.mode, .int .i64 V.unit, .slice a3 n3 c3, .slice a4 n4 c4, .slice a5 n5 c5, .slice a6 n6 c6, .slice a7 n7 c7] 34)).cell? ⟨w2.heap.size, 1, none⟩ = some (.int .i64 V.mode) := by rw [World.cell?_alloc_at _ _ _ _ rfl]; rfl
      have p2 : (w2.alloc (.cells #[.int .i64 V.frm, .int .i64 V.mode, .int .i64 V.unit, .slice a3 n3 c3, .slice a4 n4 c4, .slice a5 n5 c5, .slice a6 n6 c6, .slice a7 n7 c7] 34)).cell? ⟨w2.heap.size, 2, none⟩ = some (.int .i64 V.unit) := by rw [World.cell?_alloc_at _ _ _ _ rfl]; rfl
      have p3 : (w2.alloc (.cells #[.int .i64 V.frm, .int .i64 V.mode, .int .i64 V.unit, .slice a3 n3 c3, .slice a4 n4 c4, .slice a5 n5 c5, .slice a6 n6 c6, .slice a7 n7 c7] 34)).cell? ⟨w2.heap.size, 3, none⟩ = some (.slice a3 n3 c3) := by rw [World.cell?_alloc_at _ _ _ _ rfl]; rfl
      have p4 : (w2.alloc (.cells #[.int .i64 V.frm, .int .i64 V.mode, .int .i64 V.unit, .slice a3 n3 c3, .slice a4 n4 c4, .slice a5 n5 c5, .slice a6 n6 c6, .slice a7 n7 c7] 34)).cell? ⟨w2.heap.size, 4, none⟩ = some (.slice a4 n4 c4) := by rw [World.cell?_alloc_at _ _ _ _ rfl]; rfl
      have p5 : (w2.alloc (.cells #[.int .i64 V.frm, .int .i64 V.mode, .int .i64 V.unit, .slice a3 n3 c3, .slice a4 n4 c4, .slice a5 n5 c5, .slice a6 n6 c6, .slice a7 n7 c7] 34)).cell? ⟨w2.heap.size, 5, none⟩ = some (.slice a5 n5 c5) := by rw [World.cell?_alloc_at _ _ _ _ rfl]; rfl
      have p6 : (w2.alloc (.cells #[.int .i64 V.frm, .int .i64 V.mode, .int .i64 V.unit, .slice a3 n3 c3, .slice a4 n4 c4, .slice a5 n5 c5, .slice a6 n6 c6, .slice a7 n7 c7] 34)).cell? ⟨w2.heap.size, 6, none⟩ = some (.slice a6 n6 c6) := by rw [World.cell?_alloc_at _ _ _ _ rfl]; rfl
      have p7 : (w2.alloc (.cells #[.int .i64 V.frm, .int .i64 V.mode, .int .i64 V.unit, .slice a3 n3 c3, .slice a4 n4 c4, .slice a5 n5 c5, .slice a6 n6 c6, .slice a7 n7 c7] 34)).cell? ⟨w2.heap.size, 7, none⟩ = some (.slice a7 n7 c7) := by rw [World.cell?_alloc_at _ _ _ _ rfl]; rfl
      have hb3 : Below wa.heap.size wa (w2.alloc (.cells #[.int .i64 V.frm, .int .i64 V.mode, .int .i64 V.unit, .slice a3 n3 c3, .slice a4 n4 c4, .slice a5 n5 c5, .slice a6 n6 c6, .slice a7 n7 c7] 34)) := hb2.alloc hs2 _
      have m0 : (w2.alloc (.cells #[.int .i64 V.frm, .int .i64 V.mode, .int .i64 V.unit, .slice a3 n3 c3, .slice a4 n4 c4, .slice a5 n5 c5, .slice a6 n6 c6, .slice a7 n7 c7] 34)).cell? ⟨b7, 0, none⟩ = some (.string lawN) := (World.cell?_alloc_lt w2 (.cells #[.int .i64 V.frm, .int .i64 V.mode, .int .i64 V.unit, .slice a3 n3 c3, .slice a4 n4 c4, .slice a5 n5 c5, .slice a6 n6 c6, .slice a7 n7 c7] 34) ⟨b7, 0, none⟩ (by show b7 < _; omega)).trans l0
      have m1 : (w2.alloc (.cells #[.int .i64 V.frm, .int .i64 V.mode, .int .i64 V.unit, .slice a3 n3 c3, .slice a4 n4 c4, .slice a5 n5 c5, .slice a6 n6 c6, .slice a7 n7 c7] 34)).cell? ⟨b7, 1, none⟩ = some (.int .i64 cur) := (World.cell?_alloc_lt w2 (.cells #[.int .i64 V.frm, .int .i64 V.mode, .int .i64 V.unit, .slice a3 n3 c3, .slice a4 n4 c4, .slice a5 n5 c5, .slice a6 n6 c6, .slice a7 n7 c7] 34) ⟨b7, 1, none⟩ (by show b7 < _; omega)).trans l1
      have m2 : (w2.alloc (.cells #[.int .i64 V.frm, .int .i64 V.mode, .int .i64 V.unit, .slice a3 n3 c3, .slice a4 n4 c4, .slice a5 n5 c5, .slice a6 n6 c6, .slice a7 n7 c7] 34)).cell? ⟨b7, 2, none⟩ = some (.slice a2 L.length cap2) := (World.cell?_alloc_lt w2 (.cells #[.int .i64 V.frm, .int .i64 V.mode, .int .i64 V.unit, .slice a3 n3 c3, .slice a4 n4 c4, .slice a5 n5 c5, .slice a6 n6 c6, .slice a7 n7 c7] 34) ⟨b7, 2, none⟩ (by show b7 < _; omega)).trans l2
      have hver1 := hver.alloc (.cells #[.int .i64 V.frm, .int .i64 V.mode, .int .i64 V.unit, .slice a3 n3 c3, .slice a4 n4 c4, .slice a5 n5 c5, .slice a6 n6 c6, .slice a7 n7 c7] 34)
      have hsz : (w2.alloc (.cells #[.int .i64 V.frm, .int .i64 V.mode, .int .i64 V.unit, .slice a3 n3 c3, .slice a4 n4 c4, .slice a5 n5 c5, .slice a6 n6 c6, .slice a7 n7 c7] 34)).heap.size = w2.heap.size + 1 := by simp
      generalize w2.alloc (.cells #[.int .i64 V.frm, .int .i64 V.mode, .int .i64 V.unit, .slice a3 n3 c3, .slice a4 n4 c4, .slice a5 n5 c5, .slice a6 n6 c6, .slice a7 n7 c7] 34) = wb at *
      generalize w2.heap.size = b8 at *
      have HVB := Lib.hid (HVA.out.same hb3)
      have HB3 := Lib.hid hb3
      have HVER := Lib.hid hver1
      clear hver hver1 hat hg2 hb2 hb3 l0 l1 l2
      go_wp2_with fail
      refine (refAt_any lawN _ _ _ x (pick day 73068 - 10) wb HVB.out).mono ?_
      rintro e w3 ⟨V', ok', u3, u4, u5, u6, u7, rfl, hg3, hver', hat'⟩
      obtain ⟨hVV, hok⟩ := HAT.out.uniq hat'
      subst hVV hok
      obtain ⟨⟨d3, m3, e3, rfl⟩, ⟨d4, m4, e4, rfl⟩, ⟨d5, m5, e5, rfl⟩, ⟨d6, m6, e6, rfl⟩, ⟨d7, m7, e7, rfl⟩⟩ := hver'.form2
      have hb4 := hg3.below
      have hs4 := hb4.size
      have n0 : w3.cell? ⟨b7, 0, none⟩ = some (.string lawN) := (hb4.cell (p := ⟨b7, 0, none⟩) (by show b7 < wb.heap.size; omega)).trans m0
      have n1 : w3.cell? ⟨b7, 1, none⟩ = some (.int .i64 cur) := (hb4.cell (p := ⟨b7, 1, none⟩) (by show b7 < wb.heap.size; omega)).trans m1
      have n2 : w3.cell? ⟨b7, 2, none⟩ = some (.slice a2 L.length cap2) := (hb4.cell (p := ⟨b7, 2, none⟩) (by show b7 < wb.heap.size; omega)).trans m2
      go_upto_region 8 with fail
      have hb5 : Below wb.heap.size wb (w3.alloc (.cells #[.int .i64 V.frm, .int .i64 V.mode, .int .i64 V.unit, .slice d3 m3 e3, .slice d4 m4 e4, .slice d5 m5 e5, .slice d6 m6 e6, .slice d7 m7 e7] 34)) := hb4.alloc hs4 _
      have z0 : (w3.alloc (.cells #[.int .i64 V.frm, .int .i64 V.mode, .int .i64 V.unit, .slice d3 m3 e3, .slice d4 m4 e4, .slice d5 m5 e5, .slice d6 m6 e6, .slice d7 m7 e7] 34)).cell? ⟨w3.heap.size, 0, none⟩ = some (.int .i64 V.frm) := by rw [World.cell?_alloc_at _ _ _ _ rfl]; rfl
      have z1 : (w3.alloc (.cells #[.int .i64 V.frm, .int .i64 V.mode, .int .i64 V.unit, .slice d3 m3 e3, .slice d4 m4 e4, .slice d5 m5 e5, .slice d6 m6 e6, .slice d7 m7 e7] 34)).cell? ⟨w3.heap.size, 1, none⟩ = some (.int .i64 V.mode) := by rw [World.cell?_alloc_at _ _ _ _ rfl]; rfl
      have z2 : (w3.alloc (.cells #[.int .i64 V.frm, .int .i64 V.mode, .int .i64 V.unit, .slice d3 m3 e3, .slice d4 m4 e4, .slice d5 m5 e5, .slice d6 m6 e6, .slice d7 m7 e7] 34)).cell? ⟨w3.heap.size, 2, none⟩ = some (.int .i64 V.unit) := by rw [World.cell?_alloc_at _ _ _ _ rfl]; rfl
      have z3 : (w3.alloc (.cells #[.int .i64 V.frm, .int .i64 V.mode, .int .i64 V.unit, .slice d3 m3 e3, .slice d4 m4 e4, .slice d5 m5 e5, .slice d6 m6 e6, .slice d7 m7 e7] 34)).cell? ⟨w3.heap.size, 3, none⟩ = some (.slice d3 m3 e3) := by rw [World.cell?_alloc_at _ _ _ _ rfl]; rfl
      have z4 : (w3.alloc (.cells #[.int .i64 V.frm, .int .i64 V.mode, .int .i64 V.unit, .slice d3 m3 e3, .slice d4 m4 e4, .slice d5 m5 e5, .slice d6 m6 e6, .slice d7 m7 e7] 34)).cell? ⟨w3.heap.size, 4, none⟩ = some (.slice d4 m4 e4) := by rw [World.cell?_alloc_at _ _ _ _ rfl]; rfl
      have z5 : (w3.alloc (.cells #[.int .i64 V.frm, .int .i64 V.mode, .int .i64 V.unit, .slice d3 m3 e3, .slice d4 m4 e4, .slice d5 m5 e5, .slice d6 m6 e6, .slice d7 m7 e7] 34)).cell? ⟨w3.heap.size, 5, none⟩ = some (.slice d5 m5 e5) := by rw [World.cell?_alloc_at _ _ _ _ rfl]; rfl
      have z6 : (w3.alloc (.cells #[.int .i64 V.frm, .int .i64 V.mode, .int .i64 V.unit, .slice d3 m3 e3, .slice d4 m4 e4, .slice d5 m5 e5, .slice d6 m6 e6, .slice d7 m7 e7] 34)).cell? ⟨w3.heap.size, 6, none⟩ = some (.slice d6 m6 e6) := by rw [World.cell?_alloc_at _ _ _ _ rfl]; rfl
      have z7 : (w3.alloc (.cells #[.int .i64 V.frm, .int .i64 V.mode, .int .i64 V.unit, .slice d3 m3 e3, .slice d4 m4 e4, .slice d5 m5 e5, .slice d6 m6 e6, .slice d7 m7 e7] 34)).cell? ⟨w3.heap.size, 7, none⟩ = some (.slice d7 m7 e7) := by rw [World.cell?_alloc_at _ _ _ _ rfl]; rfl
      have x0 : (w3.alloc (.cells #[.int .i64 V.frm, .int .i64 V.mode, .int .i64 V.unit, .slice d3 m3 e3, .slice d4 m4 e4, .slice d5 m5 e5, .slice d6 m6 e6, .slice d7 m7 e7] 34)).cell? ⟨b7, 0, none⟩ = some (.string lawN) := (hb5.cell (p := ⟨b7, 0, none⟩) (by show b7 < wb.heap.size; omega)).trans m0
      have x1 : (w3.alloc (.cells #[.int .i64 V.frm, .int .i64 V.mode, .int .i64 V.unit, .slice d3 m3 e3, .slice d4 m4 e4, .slice d5 m5 e5, .slice d6 m6 e6, .slice d7 m7 e7] 34)).cell? ⟨b7, 1, none⟩ = some (.int .i64 cur) := (hb5.cell (p := ⟨b7, 1, none⟩) (by show b7 < wb.heap.size; omega)).trans m1
      have x2 : (w3.alloc (.cells #[.int .i64 V.frm, .int .i64 V.mode, .int .i64 V.unit, .slice d3 m3 e3, .slice d4 m4 e4, .slice d5 m5 e5, .slice d6 m6 e6, .slice d7 m7 e7] 34)).cell? ⟨b7, 2, none⟩ = some (.slice a2 L.length cap2) := (hb5.cell (p := ⟨b7, 2, none⟩) (by show b7 < wb.heap.size; omega)).trans m2
      have y0 : (w3.alloc (.cells #[.int .i64 V.frm, .int .i64 V.mode, .int .i64 V.unit, .slice d3 m3 e3, .slice d4 m4 e4, .slice d5 m5 e5, .slice d6 m6 e6, .slice d7 m7 e7] 34)).cell? ⟨b8, 0, none⟩ = some (.int .i64 V.frm) := (hb5.cell (p := ⟨b8, 0, none⟩) (by show b8 < wb.heap.size; omega)).trans p0
      have y1 : (w3.alloc (.cells #[.int .i64 V.frm, .int .i64 V.mode, .int .i64 V.unit, .slice d3 m3 e3, .slice d4 m4 e4, .slice d5 m5 e5, .slice d6 m6 e6, .slice d7 m7 e7] 34)).cell? ⟨b8, 1, none⟩ = some (.int .i64 V.mode) := (hb5.cell (p := ⟨b8, 1, none⟩) (by show b8 < wb.heap.size; omega)).trans p1
      have y2 : (w3.alloc (.cells #[.int .i64 V.frm, .int .i64 V.mode, .int .i64 V.unit, .slice d3 m3 e3, .slice d4 m4 e4, .slice d5 m5 e5, .slice d6 m6 e6, .slice d7 m7 e7] 34)).cell? ⟨b8, 2, none⟩ = some (.int .i64 V.unit) := (hb5.cell (p := ⟨b8, 2, none⟩) (by show b8 < wb.heap.size; omega)).trans p2
      have y3 : (w3.alloc (.cells #[.int .i64 V.frm, .int .i64 V.mode, .int .i64 V.unit, .slice d3 m3 e3, .slice d4 m4 e4, .slice d5 m5 e5, .slice d6 m6 e6, .slice d7 m7 e7] 34)).cell? ⟨b8, 3, none⟩ = some (.slice a3 n3 c3) := (hb5.cell (p := ⟨b8, 3, none⟩) (by show b8 < wb.heap.size; omega)).trans p3
      have y4 : (w3.alloc (.cells #[.int .i64 V.frm, .int .i64 V.mode, .int .i64 V.unit, .slice d3 m3 e3, .slice d4 m4 e4, .slice d5 m5 e5, .slice d6 m6 e6, .slice d7 m7 e7] 34)).cell? ⟨b8, 4, none⟩ = some (.slice a4 n4 c4) := (hb5.cell (p := ⟨b8, 4, none⟩) (by show b8 < wb.heap.size; omega)).trans p4
      have y5 : (w3.alloc (.cells #[.int .i64 V.frm, .int .i64 V.mode, .int .i64 V.unit, .slice d3 m3 e3, .slice d4 m4 e4, .slice d5 m5 e5, .slice d6 m6 e6, .slice d7 m7 e7] 34)).cell? ⟨b8, 5, none⟩ = some (.slice a5 n5 c5) := (hb5.cell (p := ⟨b8, 5, none⟩) (by show b8 < wb.heap.size; omega)).trans p5
      have y6 : (w3.alloc (.cells #[.int .i64 V.frm, .int .i64 V.mode, .int .i64 V.unit, .slice d3 m3 e3, .slice d4 m4 e4, .slice d5 m5 e5, .slice d6 m6 e6, .slice d7 m7 e7] 34)).cell? ⟨b8, 6, none⟩ = some (.slice a6 n6 c6) := (hb5.cell (p := ⟨b8, 6, none⟩) (by show b8 < wb.heap.size; omega)).trans p6
      have y7 : (w3.alloc (.cells #[.int .i64 V.frm, .int .i64 V.mode, .int .i64 V.unit, .slice d3 m3 e3, .slice d4 m4 e4, .slice d5 m5 e5, .slice d6 m6 e6, .slice d7 m7 e7] 34)).cell? ⟨b8, 7, none⟩ = some (.slice a7 n7 c7) := (hb5.cell (p := ⟨b8, 7, none⟩) (by show b8 < wb.heap.size; omega)).trans p7
      have hver2 := hver'.alloc (.cells #[.int .i64 V.frm, .int .i64 V.mode, .int .i64 V.unit, .slice d3 m3 e3, .slice d4 m4 e4, .slice d5 m5 e5, .slice d6 m6 e6, .slice d7 m7 e7] 34)
      have hver3 := HVER.out.below hb5
      have hsz3 : (w3.alloc (.cells #[.int .i64 V.frm, .int .i64 V.mode, .int .i64 V.unit, .slice d3 m3 e3, .slice d4 m4 e4, .slice d5 m5 e5, .slice d6 m6 e6, .slice d7 m7 e7] 34)).heap.size = w3.heap.size + 1 := by simp
      have HBX := Lib.hid (HBA.out.trans ((HB3.out.trans (hb5.mono HB3.out.size)).mono HBA.out.size))
      have HVX := Lib.hid (HVB.out.same hb5)
      generalize (w3.alloc (.cells #[.int .i64 V.frm, .int .i64 V.mode, .int .i64 V.unit, .slice d3 m3 e3, .slice d4 m4 e4, .slice d5 m5 e5, .slice d6 m6 e6, .slice d7 m7 e7] 34)) = X at *
      generalize w3.heap.size = b10 at *
      have hx7 : b7 < X.heap.size := by omega
      have hx8 : b8 < X.heap.size := by omega
      have hx10 : b10 < X.heap.size := by omega
      have HVE := Lib.hid hver2
      have HVF := Lib.hid hver3
      clear hver' hver2 hver3 hat' hg3 hb4 hb5 HVER HVB HB3 m0 m1 m2 n0 n1 n2 p0 p1 p2 p3 p4 p5 p6 p7 k0 k1 k2
      refine TG.begin 18 (fun w' => Below X.heap.size X w') (by kernel_rfl) (by kernel_rfl) (Below.refl _ _).drew (fun hS => ?_)
      refine TG.one (i := 0) (by kernel_rfl) rfl (fun K1 hK1 => ?_)
      go_simp
      go_at_call 11
      refine (awake_any _).mono ?_
      rintro e' wA ⟨rfl, hgA⟩
      have hS2 : Below X.heap.size X wA := Below.trans hS (hgA.below.mono hS.size)
      refine TG.go hK1 hS2 (fun hS => ?_)
      clear hK1 K1
      (try simp only [Act.put, List.getElem_toArray, List.getElem_cons_zero, List.getElem_cons_succ, List.setIfInBounds_toArray, List.set_cons_zero, List.set_cons_succ])
      refine TG.takeV (i := 1) (v := ?_) rfl (by kernel_rfl) (by kernel_rfl) (by kernel_rfl) (by decide) (fun _ _ _ h => h) rfl hS ?_ ?_
      rotate_left
      focus
        intro wS hSw
        (try dsimp only at hSw)
        go_simp
        rfl
      (try simp only [Act.put, List.getElem_toArray, List.getElem_cons_zero, List.getElem_cons_succ, List.setIfInBounds_toArray, List.set_cons_zero, List.set_cons_succ])
      refine TG.takeV (i := 2) (v := ?_) rfl (by kernel_rfl) (by kernel_rfl) (by kernel_rfl) (by decide) (fun _ _ _ h => h) rfl hS ?_ ?_
      rotate_left
      focus
        intro wS hSw
        (try dsimp only at hSw)
        go_simp
        rfl
      (try simp only [Act.put, List.getElem_toArray, List.getElem_cons_zero, List.getElem_cons_succ, List.setIfInBounds_toArray, List.set_cons_zero, List.set_cons_succ])
      refine TG.takeV (i := 3) (v := ?_) rfl (by kernel_rfl) (by kernel_rfl) (by kernel_rfl) (by decide) (fun _ _ _ h => h) rfl hS ?_ ?_
      rotate_left
      focus
        intro wS hSw
        (try dsimp only at hSw)
        go_simp
        rfl
      (try simp only [Act.put, List.getElem_toArray, List.getElem_cons_zero, List.getElem_cons_succ, List.setIfInBounds_toArray, List.set_cons_zero, List.set_cons_succ])
      refine TG.takeV (i := 4) (v := ?_) rfl (by kernel_rfl) (by kernel_rfl) (by kernel_rfl) (by decide) (fun _ _ _ h => h) rfl hS ?_ ?_
      rotate_left
      focus
        intro wS hSw
        (try dsimp only at hSw)
        go_simp
        rfl
      (try simp only [Act.put, List.getElem_toArray, List.getElem_cons_zero, List.getElem_cons_succ, List.setIfInBounds_toArray, List.set_cons_zero, List.set_cons_succ])
      refine TG.takeV (i := 5) (v := ?_) rfl (by kernel_rfl) (by kernel_rfl) (by kernel_rfl) (by decide) (fun _ _ _ h => h) rfl hS ?_ ?_
      rotate_left
      focus
        intro wS hSw
        (try dsimp only at hSw)
        go_simp
        rfl
      (try simp only [Act.put, List.getElem_toArray, List.getElem_cons_zero, List.getElem_cons_succ, List.setIfInBounds_toArray, List.set_cons_zero, List.set_cons_succ])
      refine TG.takeV (i := 6) (v := ?_) rfl (by kernel_rfl) (by kernel_rfl) (by kernel_rfl) (by decide) (fun _ _ _ h => h) rfl hS ?_ ?_
      rotate_left
      focus
        intro wS hSw
        (try dsimp only at hSw)
        go_simp
        rfl
      (try simp only [Act.put, List.getElem_toArray, List.getElem_cons_zero, List.getElem_cons_succ, List.setIfInBounds_toArray, List.set_cons_zero, List.set_cons_succ])
      refine TG.takeV (i := 7) (v := ?_) rfl (by kernel_rfl) (by kernel_rfl) (by kernel_rfl) (by decide) (fun _ _ _ h => h) rfl hS ?_ ?_
      rotate_left
      focus
        intro wS hSw
        (try dsimp only at hSw)
        (have e0 := (hSw.cell (p := ⟨b8, 0, none⟩) hx8).trans y0; have e1 := (hSw.cell (p := ⟨b8, 1, none⟩) hx8).trans y1; have e2 := (hSw.cell (p := ⟨b8, 2, none⟩) hx8).trans y2; have e3 := (hSw.cell (p := ⟨b8, 3, none⟩) hx8).trans y3; have e4 := (hSw.cell (p := ⟨b8, 4, none⟩) hx8).trans y4; have e5 := (hSw.cell (p := ⟨b8, 5, none⟩) hx8).trans y5; have e6 := (hSw.cell (p := ⟨b8, 6, none⟩) hx8).trans y6; have e7 := (hSw.cell (p := ⟨b8, 7, none⟩) hx8).trans y7)
        go_simp
        rfl
      (try simp only [Act.put, List.getElem_toArray, List.getElem_cons_zero, List.getElem_cons_succ, List.setIfInBounds_toArray, List.set_cons_zero, List.set_cons_succ])
      refine TG.takeV (i := 8) (v := ?_) rfl (by kernel_rfl) (by kernel_rfl) (by kernel_rfl) (by decide) (fun _ _ _ h => h) rfl hS ?_ ?_
      rotate_left
      focus
        intro wS hSw
        (try dsimp only at hSw)
        (have e0 := (hSw.cell (p := ⟨b10, 0, none⟩) hx10).trans z0; have e1 := (hSw.cell (p := ⟨b10, 1, none⟩) hx10).trans z1; have e2 := (hSw.cell (p := ⟨b10, 2, none⟩) hx10).trans z2; have e3 := (hSw.cell (p := ⟨b10, 3, none⟩) hx10).trans z3; have e4 := (hSw.cell (p := ⟨b10, 4, none⟩) hx10).trans z4; have e5 := (hSw.cell (p := ⟨b10, 5, none⟩) hx10).trans z5; have e6 := (hSw.cell (p := ⟨b10, 6, none⟩) hx10).trans z6; have e7 := (hSw.cell (p := ⟨b10, 7, none⟩) hx10).trans z7)
        go_simp
        rfl
      (try simp only [Act.put, List.getElem_toArray, List.getElem_cons_zero, List.getElem_cons_succ, List.setIfInBounds_toArray, List.set_cons_zero, List.set_cons_succ])
      refine TG.one (i := 9) (by kernel_rfl) rfl (fun K1 hK1 => ?_)
      go_simp
      go_at_call 21
      refine (SameV_any (V := V) (HVF.out.below hS) (HVE.out.below hS)).mono ?_
      rintro e' wB ⟨rfl, hgB⟩
      have hS2 : Below X.heap.size X wB := Below.trans hS (hgB.below.mono hS.size)
      refine TG.go hK1 hS2 (fun hS => ?_)
      clear hK1 K1
      (try simp only [Act.put, List.getElem_toArray, List.getElem_cons_zero, List.getElem_cons_succ, List.setIfInBounds_toArray, List.set_cons_zero, List.set_cons_succ])
      refine TG.takeV (i := 10) (v := ?_) rfl (by kernel_rfl) (by kernel_rfl) (by kernel_rfl) (by decide) (fun _ _ _ h => h) rfl hS ?_ ?_
      rotate_left
      focus
        intro wS hSw
        (try dsimp only at hSw)
        go_simp
        rfl
      (try simp only [Act.put, List.getElem_toArray, List.getElem_cons_zero, List.getElem_cons_succ, List.setIfInBounds_toArray, List.set_cons_zero, List.set_cons_succ])
      refine TG.takeV (i := 11) (v := ?_) rfl (by kernel_rfl) (by kernel_rfl) (by kernel_rfl) (by decide) (fun _ _ _ h => h) rfl hS ?_ ?_
      rotate_left
      focus
        intro wS hSw
        (try dsimp only at hSw)
        go_simp
        rfl
      (try simp only [Act.put, List.getElem_toArray, List.getElem_cons_zero, List.getElem_cons_succ, List.setIfInBounds_toArray, List.set_cons_zero, List.set_cons_succ])
      refine TG.takeV (i := 12) (v := ?_) rfl (by kernel_rfl) (by kernel_rfl) (by kernel_rfl) (by decide) (fun _ _ _ h => h) rfl hS ?_ ?_
      rotate_left
      focus
        intro wS hSw
        (try dsimp only at hSw)
        (have e0 := (hSw.cell (p := ⟨b7, 0, none⟩) hx7).trans x0; have e1 := (hSw.cell (p := ⟨b7, 1, none⟩) hx7).trans x1; have e2 := (hSw.cell (p := ⟨b7, 2, none⟩) hx7).trans x2)
        go_simp
        rfl
      (try simp only [Act.put, List.getElem_toArray, List.getElem_cons_zero, List.getElem_cons_succ, List.setIfInBounds_toArray, List.set_cons_zero, List.set_cons_succ])
      refine TG.takeV (i := 14) (v := ?_) rfl (by kernel_rfl) (by kernel_rfl) (by kernel_rfl) (by decide) (fun _ _ _ h => h) rfl hS ?_ ?_
      rotate_left
      focus
        intro wS hSw
        (try dsimp only at hSw)
        (have e0 := (hSw.cell (p := ⟨b7, 0, none⟩) hx7).trans x0; have e1 := (hSw.cell (p := ⟨b7, 1, none⟩) hx7).trans x1; have e2 := (hSw.cell (p := ⟨b7, 2, none⟩) hx7).trans x2)
        go_simp
        rfl
      (try simp only [Act.put, List.getElem_toArray, List.getElem_cons_zero, List.getElem_cons_succ, List.setIfInBounds_toArray, List.set_cons_zero, List.set_cons_succ])
      refine TG.one (i := 13) (by kernel_rfl) rfl (fun K1 hK1 => ?_)
      go_simp
      go_at_call 23
      refine (chgP_any lawN _ _ _ x _ (HVX.out.same hS) hL0).mono ?_
      rintro e' wC ⟨vp, rfl, hgC, hip, hcp⟩
      rw [chg_same] at hip
      obtain ⟨va, vc, hvp⟩ := IntsAt.form hip
      subst hvp
      have HIP := Lib.hid hip
      clear hip hcp
      have hS2 : Below X.heap.size X wC := Below.trans hS (hgC.below.mono hS.size)
      refine TG.go hK1 hS2 (fun hS => ?_)
      clear hK1 K1
      (try simp only [Act.put, List.getElem_toArray, List.getElem_cons_zero, List.getElem_cons_succ, List.setIfInBounds_toArray, List.set_cons_zero, List.set_cons_succ])
      refine TG.one (i := 15) (by kernel_rfl) rfl (fun K1 hK1 => ?_)
      go_simp
      go_at_call 24
      refine (chgR_any lawN _ _ _ x _ (HVX.out.same hS) (by omega)).mono ?_
      rintro e' wD ⟨vr, rfl, hgD, hir, hcr⟩
      obtain ⟨ua, uc, hvr⟩ := IntsAt.form hir
      subst hvr
      have HIR := Lib.hid hir
      have hip2 := IntsAt.same HIP.out hgD.below
      have HIP2 := Lib.hid hip2
      clear hir hcr hip2
      have hS2 : Below X.heap.size X wD := Below.trans hS (hgD.below.mono hS.size)
      refine TG.go hK1 hS2 (fun hS => ?_)
      clear hK1 K1
      (try simp only [Act.put, List.getElem_toArray, List.getElem_cons_zero, List.getElem_cons_succ, List.setIfInBounds_toArray, List.set_cons_zero, List.set_cons_succ])
      refine TG.one (i := 16) (by kernel_rfl) rfl (fun K1 hK1 => ?_)
      go_simp
      go_at_call 22
      refine (sameInts_any HIP2.out HIR.out HLN.out).mono ?_
      rintro e' wE ⟨rfl, hgE⟩
      have hS2 : Below X.heap.size X wE := Below.trans hS (hgE.below.mono hS.size)
      refine TG.go hK1 hS2 (fun hS => ?_)
      clear hK1 K1
      (try simp only [Act.put, List.getElem_toArray, List.getElem_cons_zero, List.getElem_cons_succ, List.setIfInBounds_toArray, List.set_cons_zero, List.set_cons_succ])
      refine TG.takeV (i := 17) (v := ?_) rfl (by kernel_rfl) (by kernel_rfl) (by kernel_rfl) (by decide) (fun _ _ _ h => h) rfl hS ?_ ?_
      rotate_left
      focus
        intro wS hSw
        (try dsimp only at hSw)
        go_simp
        rfl
      (try simp only [Act.put, List.getElem_toArray, List.getElem_cons_zero, List.getElem_cons_succ, List.setIfInBounds_toArray, List.set_cons_zero, List.set_cons_succ])
      have HSE := Lib.hid (show Below X.heap.size X wE from hS)
      refine TG.one (i := 18) (by kernel_rfl) rfl (fun K1 hK1 => ?_)
      go_simp
      refine hK1 _ _ (fun h => absurd rfl h) (TG.done (by kernel_rfl) ?_)
      clear hK1 K1 hS
      (try simp only [Act.put, List.getElem_toArray, List.getElem_cons_zero, List.getElem_cons_succ, List.setIfInBounds_toArray, List.set_cons_zero, List.set_cons_succ])
      go_wp2_with fail
      go_returns
      exact ⟨rfl, .of_below (HBX.out.trans (HSE.out.mono HBX.out.size))⟩
set_option maxRecDepth 1000000 in
theorem days_law (hOf : Hid OfSaid) {H : Type} (enc : TypeId × Value → H) : LawWalk enc Try.prog 7 [50, 3, 3] := by
  intro W base args ds p hval hA hfit
  obtain ⟨v0, vs0, d0, ds0, p0, q0, hargs, rfl, rfl, h0, r0⟩ := trodAll_cons hA
  obtain ⟨v1, vs1, d1, ds1, p1, q1, rfl, rfl, rfl, h1, r1⟩ := trodAll_cons r0
  obtain ⟨v2, vs2, d2, ds2, p2, q2, rfl, rfl, rfl, h2, r2⟩ := trodAll_cons r1
  obtain ⟨rfl, rfl, rfl⟩ := trodAll_nil r2
  obtain rfl : args = #[v0, v1, v2] := by cases args; simp_all
  obtain ⟨sa, sn, sc, hsv⟩ := okWide_slice Try.underlying50 (hval 0 _ v0 rfl rfl)
  subst hsv
  obtain ⟨fuel, h0⟩ := h0
  obtain ⟨Rs, hR⟩ := RawsAt.of_trod (x := (d0, p0)) (v := .slice sa sn sc) (by simpa [Value.cells] using h0) (hfit 0 _ d0 rfl rfl)
  obtain ⟨z1, rfl, -, -, w1⟩ := open_int Try.underlying3 (hval 1 _ v1 rfl rfl) h1
  obtain ⟨z2, rfl, -, -, w2⟩ := open_int Try.underlying3 (hval 2 _ v2 rfl rfl) h2
  exact (days_any hOf Rs _ z1 z2 W hR (i64_of_wf w1) (i64_of_wf w2)).mono fun e w' h => ⟨h.1, h.2.below⟩
set_option maxRecDepth 1000000 in
theorem days_lifted (hOf : Hid OfSaid) (os : Os) (started : os.Started) (H : Type) (enc : TypeId × Value → H) :
    ReturnsInHanded {} Try.checked os 7 .any (Rows.statuteDaysSpec.pre6 enc Try.prog Try.f7 Rows.statuteDaysRow.domain false) (Rows.statuteDaysSpec.post enc Try.prog Try.f7 false true false false) :=
  law_lift (C := Try.checked) (s := Rows.statuteDaysSpec) own started (by kernel_rfl) Try.func7
    (ChangeSpec.witness6 (enc := enc) (C := Try.checked) false ⟨#[], #[.slice none 0 0, .int .i64 0, .int .i64 0], []⟩ 8 (by kernel_rfl) (by kernel_rfl) (by kernel_rfl) (by kernel_rfl))
    laidOut (by kernel_rfl) rfl Try.underlying4 rfl (fun ds hds => by
      match ds, hds with
      | [d0, d1, d2], _ => rfl) (days_law hOf enc)
theorem days_holds (hOf : Hid OfSaid) : Rows.StatuteDaysSaid :=
  OpenClaim.holds_of_wide 7 Try.f7 rfl rfl rfl rfl rfl rfl rfl ⟨rfl, rfl, rfl, rfl, rfl⟩ rfl rfl rfl rfl rfl (by kernel_rfl) Try.func7 (by kernel_rfl)
    (of_decide_eq_true (by kernel_rfl)) (by unfold Func.isWrapper; first | (rw [if_pos (by decide +kernel)]; kernel_rfl) | (rw [if_neg (by decide +kernel)]; exact ⟨rfl, rfl⟩))
    (fun os started H enc _ => days_lifted hOf os started H enc)
end Go.Proofs.Ytldelkkeimlfcaa
