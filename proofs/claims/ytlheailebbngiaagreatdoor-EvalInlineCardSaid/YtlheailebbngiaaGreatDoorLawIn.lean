/- EvalInline: the walk. -/
import Derived.Test.YtlheailebbngiaaGreatDoorInlW
import Derived.Test.YtlheailebbngiaaGreatDoorInlQ
import Derived.Test.YtlheailebbngiaaGreatDoorVwOf
import Derived.Test.YtlheailebbngiaaGreatDoorLawK
set_option linter.all false
namespace Go.Proofs.YtlheailebbngiaaGreatDoor
open Go.RowKit
theorem in_long (zs ms : List Int) (vl vm : Value) (a b c d e dim : Int) (vd vy : Value) (w : World) (hl : IntsAt w vl zs) (hm : IntsAt w vm ms) (h : 100 < zs.length ∨ 100 < ms.length) :
    Calls Tryz.prog 9 #[vl, vm, .agg #[.int .i64 a, .int .i64 b, .int .i64 c, .int .i64 d, .int .i64 e, vd, vy], .int .i64 dim] w fun e w' => e = .returned (.bool true) ∧ w.Grows w' := by
  obtain ⟨-, -, a1, c1, rfl, -⟩ := hl
  obtain ⟨-, -, a2, c2, rfl, -⟩ := hm
  by_cases h1 : 100 < zs.length
  · have hn : (100 : Int) < (zs.length : Int) := by omega
    clear h
    go_enter Tryz.func9, Tryz.ntmps9
    go_wp2_with fail
    go_returns
    exact ⟨rfl, .of_below (by (exact belB))⟩
  · have hn : ¬ (100 : Int) < (zs.length : Int) := by omega
    have hn2 : (100 : Int) < (ms.length : Int) := by omega
    clear h
    go_enter Tryz.func9, Tryz.ntmps9
    go_wp2_with fail
    go_returns
    exact ⟨rfl, .of_below (by (exact belB))⟩
theorem bind_a {w : World} {b : Nat} {t : TypeId} (m : Int) (hb : w.heap[b]? = some (.cells #[.string ⟨#[97]⟩, .int .i64 m] t (0, 0))) : BindAt w (.slice (some ⟨b, 0, none⟩) 1 1) [(aN, m)] := by
  refine ⟨by simp, _, 1, rfl, .inr ⟨b, 0, rfl, (Array.getElem?_eq_some_iff.1 hb).1, fun i hi => ?_⟩⟩
  obtain rfl : i = 0 := by simpa using hi
  exact ⟨by rw [cell_of_row w b _ _ _ _ hb]; rfl, by rw [cell_of_row w b _ _ _ _ hb]; rfl⟩
theorem stp_a {w : World} {b : Nat} {t : TypeId} (m : Int) (y : Bool) (n d : Int) (hb : w.heap[b]? = some (.cells #[.string ⟨#[97]⟩, .int .i64 m, .bool y, .int .i64 n, .int .i64 d] t (0, 0))) : StpAt w (.slice (some ⟨b, 0, none⟩) 1 1) [(aN, ⟨m, y, n, d⟩)] := by
  refine ⟨by simp, _, 1, rfl, .inr ⟨b, 0, rfl, (Array.getElem?_eq_some_iff.1 hb).1, fun i hi => ?_⟩⟩
  obtain rfl : i = 0 := by have : i < 1 := hi; omega
  exact ⟨by rw [cell_of_row w b _ _ _ _ hb]; rfl, by rw [cell_of_row w b _ _ _ _ hb]; rfl, by rw [cell_of_row w b _ _ _ _ hb]; rfl, by rw [cell_of_row w b _ _ _ _ hb]; rfl, by rw [cell_of_row w b _ _ _ _ hb]; rfl⟩
theorem RepE.low {S : Nat → Prop} {w : World} {e : Ex} {v : Value} (h : RepE S w e v) : RepE (fun b => b < w.heap.size) w e v := h.mono' fun _ _ hb => hb
set_option maxRecDepth 1000000 in
set_option maxHeartbeats 16000000 in
theorem in_core (zs ms : List Int) (R : VwR) (vl vm vd vy : Value) (dim : Int) (w : World) (hl : IntsAt w vl zs) (hm : IntsAt w vm ms) (hd : IntsAt w vd R.days) (hy : IntsAt w vy R.years) (ht : Tab w) (h1 : zs.length ≤ 100) (h2 : ms.length ≤ 100)
    (B E W : Ex) (v : Vw) (dd : Int) (hdd : Hid (2 + pick dim 3 = dd)) (hdb : 2 ≤ dd ∧ dd ≤ 4) (hB : Hid (topF zs [] dd = B)) (hE : Hid (topF ms [(aN, dd)] dd = E)) (hW : Hid (inlineF B E = W)) (hv : Hid (viewP R = v)) (x : Val) (c : Int) (r : Val × Int)
    (hx : Hid (exprF' v [] B = (x, c))) (hr : Hid (c = 0 → validB W = true → exprF' v [(aN, x)] E = r ∧ exprF' v [] W = r ∧ x.ok = true))
    (hrng : Hid (VwRng v)) (hb1 : Hid (B.size ≤ 1000000)) (hb2 : Hid (E.size ≤ 1000000)) :
    Calls Tryz.prog 9 #[vl, vm, .agg #[.int .i64 R.age, .int .i64 R.year, .int .i64 R.children, .int .i64 R.base, .int .i64 R.den, vd, vy], .int .i64 dim] w fun e w' => e = .returned (.bool true) ∧ w.Grows w' := by
  have HT := Lib.hid ht
  have HV := Lib.hid (fun w' (hg : w.Grows w') => viewOf_any R vd vy w' (IntsAt.growsG hd hg) (IntsAt.growsG hy hg))
  have HMB := Lib.hid (fun w' (hg : w.Grows w') => Expr_any vl (.slice none 0 0) zs [] dd w' (IntsAt.list (IntsAt.growsG hl hg) (Nat.le_refl _)) (env_no _ _) (by omega) (by omega))
  have HME := Lib.hid (fun w' (hg : w.Grows w') (ev : Value) (he : EnvAt w' w'.heap.size ev [(aN, dd)]) => Expr_any vm ev ms [(aN, dd)] dd w' (IntsAt.list (IntsAt.growsG hm hg) (Nat.le_refl _)) he (by omega) (by omega))
  have HSW : Hid (W.size ≤ 2305843009213693952) := Lib.hid (by
    rw [← hW.out]
    have h := inlineF_size B E
    have h3 : E.size * B.size ≤ 1000000 * 1000000 := Nat.mul_le_mul hb2.out hb1.out
    omega)
  unfold VoP vwV at HV
  unfold MadeEx exV at HMB HME
  rw [hv.out] at HV
  rw [hB.out] at HMB
  rw [hE.out] at HME
  have HX0 := Lib.hid (exC hrng.out (se := .slice none 0 0) (env := []) (fun p hp => by cases hp) hx.out (by have := hb1.out; omega))
  unfold ExC vwV at HX0
  have hn1 : ¬ (100 : Int) < (zs.length : Int) := by omega
  have hn2 : ¬ (100 : Int) < (ms.length : Int) := by omega
  have hw1 : IntKind.i64.wrap (2 + pick dim 3) = dd := by rw [IntWalk.i64_in _ (by have := pick_bd dim 3 (by omega); omega)]; exact hdd.out
  have hw2 : 2 + pick dim 3 = dd := hdd.out
  obtain ⟨-, -, la, lc, rfl, -⟩ := hl
  obtain ⟨-, -, ma, mc, rfl, -⟩ := hm
  obtain ⟨-, -, da, dc, rfl, -⟩ := hd
  obtain ⟨-, -, ya, yc, rfl, -⟩ := hy
  obtain ⟨xm, xy, xn, xd⟩ := x
  dsimp only at HX0
  clear ht
  by_cases hc : c = 0
  · subst hc
    cases hvw : validB W with
    | false =>
      have HVW := Lib.hid hvw
      clear hvw
      go_enter Tryz.func9, Tryz.ntmps9
      go_wp2_with (first
        | ((go_at_call 14; refine (HV.out _ growsA).mono ?_; rintro e' w' ⟨yv, rfl, ⟨bs, d, rfl⟩, hyv⟩; have HYV := Lib.hid hyv; obtain ⟨-, ya1, yc1, rfl, -⟩ := hyv))
        | ((go_at_call 15; refine (Pick_any _ _ _ (by omega)).mono ?_; rintro e' w' ⟨rfl, rfl⟩)))
      go_at_call 27
      refine (HMB.out _ growsA).mono ?_
      rintro e' w' ⟨cv, rfl, ⟨bs2, d2, rfl⟩, hrep⟩
      have HREP := Lib.hid (hrep.mono (S' := fun _ => True) (fun _ _ => trivial))
      obtain ⟨ca1, cc1, rfl⟩ := hrep.form0
      clear hrep
      go_wp2_with fail
      go_at_call 29
      refine (HX0.out ya1 yc1 _ ca1 cc1 (HREP.out.grows growsA) (HT.out.grows growsA) (HYV.out.grows growsA) (steps_no _)).mono ?_
      rintro e' w' ⟨rfl, bs3, d3, rfl⟩
      go_wp2_with fail
      go_at_call 27
      refine (HME.out _ growsA _ (EnvAt.of_bind (bind_a dd (heap_new _ _ _ (by simp; try omega))) (by intro q hq; obtain rfl : q = (aN, dd) := (by simpa using hq); exact (by decide : aN.size ≤ 140737488355328)))).mono ?_
      rintro e' w' ⟨cw, rfl, ⟨bs4, d4, rfl⟩, hrep⟩
      have HREQ := Lib.hid (hrep.mono (S' := fun _ => True) (fun _ _ => trivial))
      obtain ⟨ca2, cc2, rfl⟩ := hrep.form0
      clear hrep
      go_wp2_with fail
      go_at_call 34
      refine (inl_walk _ B _ E.size E (Nat.le_refl _) hb2.out _ _ (Nat.le_refl _) (HREQ.out.grows growsA).low (HREP.out.grows growsA).low).mono ?_
      rw [hW.out]
      rintro e' w' ⟨cz, rfl, ⟨bs5, d5, rfl⟩, hrep⟩
      have HRER := Lib.hid (hrep.mono (S' := fun _ => True) (fun _ _ => trivial))
      obtain ⟨ca3, cc3, rfl⟩ := hrep.form0
      clear hrep
      go_wp2_with fail
      go_at_call 35
      refine (ValidExpr_any _ W _ _ (Lib.hid (HRER.out.grows growsA)) HSW).mono ?_
      rintro e' w' ⟨rfl, bs6, d6, rfl⟩
      rw [HVW.out]
      go_wp2_with ((go_at_call 19; refine (awake8_any _ (HT.out.grows growsA)).mono ?_; rintro e' w' ⟨rfl, bs9, d9, rfl⟩))
      go_returns
      exact ⟨rfl, growsA⟩
    | true =>
      obtain ⟨r1, r2, xok⟩ := hr.out rfl hvw
      have HX1 := Lib.hid (fun (se : Value) => exC hrng.out (se := se) (env := [(aN, ⟨xm, xy, xn, xd⟩)]) (fun p hp => by obtain rfl : p = (aN, ⟨xm, xy, xn, xd⟩) := (by simpa using hp); exact xok) r1 (by have := hb2.out; omega))
      have HX2 := Lib.hid (exC hrng.out (se := .slice none 0 0) (env := []) (fun p hp => by cases hp) r2 HSW.out)
      unfold ExC vwV at HX1 HX2
      obtain ⟨⟨rm, ry, rn, rd⟩, rc⟩ := r
      dsimp only at HX1 HX2
      have HVW := Lib.hid hvw
      clear hvw r1 r2 xok
      go_enter Tryz.func9, Tryz.ntmps9
      go_wp2_with (first
        | ((go_at_call 14; refine (HV.out _ growsA).mono ?_; rintro e' w' ⟨yv, rfl, ⟨bs, d, rfl⟩, hyv⟩; have HYV := Lib.hid hyv; obtain ⟨-, ya1, yc1, rfl, -⟩ := hyv))
        | ((go_at_call 15; refine (Pick_any _ _ _ (by omega)).mono ?_; rintro e' w' ⟨rfl, rfl⟩)))
      go_at_call 27
      refine (HMB.out _ growsA).mono ?_
      rintro e' w' ⟨cv, rfl, ⟨bs2, d2, rfl⟩, hrep⟩
      have HREP := Lib.hid (hrep.mono (S' := fun _ => True) (fun _ _ => trivial))
      obtain ⟨ca1, cc1, rfl⟩ := hrep.form0
      clear hrep
      go_wp2_with fail
      go_at_call 29
      refine (HX0.out ya1 yc1 _ ca1 cc1 (HREP.out.grows growsA) (HT.out.grows growsA) (HYV.out.grows growsA) (steps_no _)).mono ?_
      rintro e' w' ⟨rfl, bs3, d3, rfl⟩
      go_wp2_with fail
      go_at_call 27
      refine (HME.out _ growsA _ (EnvAt.of_bind (bind_a dd (heap_new _ _ _ (by simp; try omega))) (by intro q hq; obtain rfl : q = (aN, dd) := (by simpa using hq); exact (by decide : aN.size ≤ 140737488355328)))).mono ?_
      rintro e' w' ⟨cw, rfl, ⟨bs4, d4, rfl⟩, hrep⟩
      have HREQ := Lib.hid (hrep.mono (S' := fun _ => True) (fun _ _ => trivial))
      obtain ⟨ca2, cc2, rfl⟩ := hrep.form0
      clear hrep
      go_wp2_with fail
      go_at_call 34
      refine (inl_walk _ B _ E.size E (Nat.le_refl _) hb2.out _ _ (Nat.le_refl _) (HREQ.out.grows growsA).low (HREP.out.grows growsA).low).mono ?_
      rw [hW.out]
      rintro e' w' ⟨cz, rfl, ⟨bs5, d5, rfl⟩, hrep⟩
      have HRER := Lib.hid (hrep.mono (S' := fun _ => True) (fun _ _ => trivial))
      obtain ⟨ca3, cc3, rfl⟩ := hrep.form0
      clear hrep
      go_wp2_with fail
      go_at_call 35
      refine (ValidExpr_any _ W _ _ (Lib.hid (HRER.out.grows growsA)) HSW).mono ?_
      rintro e' w' ⟨rfl, bs6, d6, rfl⟩
      rw [HVW.out]
      go_wp2_with fail
      go_at_call 29
      refine (HX1.out _ ya1 yc1 _ ca2 cc2 (HREQ.out.grows growsA) (HT.out.grows growsA) (HYV.out.grows growsA) (stp_a xm xy xn xd (heap_new _ _ _ (by simp; try omega)))).mono ?_
      rintro e' w' ⟨rfl, bs7, d7, rfl⟩
      go_wp2_with fail
      go_at_call 29
      refine (HX2.out ya1 yc1 _ ca3 cc3 (HRER.out.grows growsA) (HT.out.grows growsA) (HYV.out.grows growsA) (steps_no _)).mono ?_
      rintro e' w' ⟨rfl, bs8, d8, rfl⟩
      go_wp2_with ((go_at_call 19; refine (awake8_any _ (HT.out.grows growsA)).mono ?_; rintro e' w' ⟨rfl, bs9, d9, rfl⟩))
      go_returns
      exact ⟨rfl, growsA⟩
  · have hq : (c != 0) = true := by simpa using hc
    clear hc
    go_enter Tryz.func9, Tryz.ntmps9
    go_wp2_with (first
      | ((go_at_call 14; refine (HV.out _ growsA).mono ?_; rintro e' w' ⟨yv, rfl, ⟨bs, d, rfl⟩, hyv⟩; have HYV := Lib.hid hyv; obtain ⟨-, ya1, yc1, rfl, -⟩ := hyv))
      | ((go_at_call 15; refine (Pick_any _ _ _ (by omega)).mono ?_; rintro e' w' ⟨rfl, rfl⟩)))
    go_at_call 27
    refine (HMB.out _ growsA).mono ?_
    rintro e' w' ⟨cv, rfl, ⟨bs2, d2, rfl⟩, hrep⟩
    have HREP := Lib.hid (hrep.mono (S' := fun _ => True) (fun _ _ => trivial))
    obtain ⟨ca1, cc1, rfl⟩ := hrep.form0
    clear hrep
    go_wp2_with fail
    go_at_call 29
    refine (HX0.out ya1 yc1 _ ca1 cc1 (HREP.out.grows growsA) (HT.out.grows growsA) (HYV.out.grows growsA) (steps_no _)).mono ?_
    rintro e' w' ⟨rfl, bs3, d3, rfl⟩
    go_wp2_with ((go_at_call 19; refine (awake8_any _ (HT.out.grows growsA)).mono ?_; rintro e' w' ⟨rfl, bs9, d9, rfl⟩))
    go_returns
    exact ⟨rfl, growsA⟩
theorem in_any (zs ms : List Int) (R : VwR) (vl vm vd vy : Value) (dim : Int) (w : World) (hl : IntsAt w vl zs) (hm : IntsAt w vm ms) (hd : IntsAt w vd R.days) (hy : IntsAt w vy R.years) (ht : Tab w) :
    Calls Tryz.prog 9 #[vl, vm, .agg #[.int .i64 R.age, .int .i64 R.year, .int .i64 R.children, .int .i64 R.base, .int .i64 R.den, vd, vy], .int .i64 dim] w fun e w' => e = .returned (.bool true) ∧ w.Grows w' := by
  by_cases hlen : zs.length ≤ 100 ∧ ms.length ≤ 100
  · have hp := pick_bd dim 3 (by omega)
    obtain ⟨hT, hV⟩ := topF_typed zs EnvG.nil (dim := 2 + pick dim 3) (by omega) (by omega)
    obtain ⟨hT2, hV2⟩ := topF_typed ms (env_a (d := 2 + pick dim 3) (by omega) (by omega)) (dim := 2 + pick dim 3) (by omega) (by omega)
    exact in_core zs ms R vl vm vd vy dim w hl hm hd hy ht hlen.1 hlen.2 _ _ _ (viewP R) _ (Lib.hid rfl) ⟨by omega, by omega⟩ (Lib.hid rfl) (Lib.hid rfl) (Lib.hid rfl) (Lib.hid rfl) (exprF' (viewP R) [] (topF zs [] (2 + pick dim 3))).1 (exprF' (viewP R) [] (topF zs [] (2 + pick dim 3))).2 _ (Lib.hid rfl)
      (Lib.hid (fun hc hw => by
        obtain ⟨q1, q2, q3⟩ := inl_plain (viewP_ok R) hT hV (x := (exprF' (viewP R) [] (topF zs [] (2 + pick dim 3))).1) (by rw [← hc]) hT2 hV2 hw
        exact ⟨q1, rfl, q2⟩)) (Lib.hid (viewP_rng R)) (Lib.hid (topF_size _ _ _)) (Lib.hid (topF_size _ _ _))
  · exact in_long zs ms vl vm R.age R.year R.children R.base R.den dim vd vy w hl hm (by omega)
end Go.Proofs.YtlheailebbngiaaGreatDoor
