/- EvalSound: the walk. -/
import Derived.Test.YtlheailebbngiaaGreatDoorStpW
import Derived.Test.YtlheailebbngiaaGreatDoorVwOf
import Derived.Test.YtlheailebbngiaaGreatDoorLawK
set_option linter.all false
namespace Go
/-- As growsA, where the world behind has calls in a row, too. -/
theorem growsM {w w' : World} (h : RowKit.Below w.heap.size w w' := by (try simp only [World.grow_grow, World.grow_drew, World.drew_grow, ← Array.append_assoc]); repeat' (first | (with_reducible exact Go.RowKit.Below.fin) | (with_reducible exact Go.RowKit.Below.refl _ _) | (with_reducible assumption) | (with_reducible refine Go.RowKit.Below.peel ?_ ?_) | (with_reducible refine Go.RowKit.Below.grow ?_ ?_ _ _) | (with_reducible refine Go.RowKit.Below.alloc ?_ ?_ _) | (with_reducible refine Go.RowKit.Below.drewN ?_ _) | (with_reducible refine Go.RowKit.Below.drew ?_) | (with_reducible refine Go.RowKit.Below.setCell ?_ ?_ _) | go_size)) : w.Grows w' := .of_below h
end Go
namespace Go.Proofs.YtlheailebbngiaaGreatDoor
open Go.RowKit
theorem sn_long (zs : List Int) (vl ve : Value) (a b c d e dim : Int) (vd vy : Value) (w : World) (hl : IntsAt w vl zs) (h : 200 < zs.length) :
    Calls Tryz.prog 7 #[vl, .agg #[.int .i64 a, .int .i64 b, .int .i64 c, .int .i64 d, .int .i64 e, vd, vy], ve, .int .i64 dim] w fun e w' => e = .returned (.bool true) ∧ w.Grows w' := by
  obtain ⟨-, -, a1, c1, rfl, -⟩ := hl
  have hn : (200 : Int) < (zs.length : Int) := by omega
  clear h
  go_enter Tryz.func7, Tryz.ntmps7
  go_wp2_with fail
  go_returns
  exact ⟨rfl, .of_below (by (exact belB))⟩
theorem dims_names (es : List Int) : ∀ x ∈ dimsOf (stepsP es), x.1.size ≤ 140737488355328 := by
  rw [stepsP_dims]
  intro x hx
  obtain ⟨i, -, rfl⟩ := List.mem_map.1 hx
  show (nmS i).size ≤ _
  unfold nmS
  (repeat' split) <;> decide
theorem snd_plain (R : VwR) (zs es : List Int) {dd : Int} (h1 : 1 ≤ dd) (h4 : dd ≤ 4) : okR dd (exprF' (viewP R) (stepsP es) (topF zs (dimsOf (stepsP es)) dd)) := by
  obtain ⟨hT, hV⟩ := topF_typed zs (stepsP_env es) h1 h4
  obtain ⟨e0, k0⟩ := expr_typed (env := stepsP es) (viewP_ok R) (stepsP_ok es) hV (by rw [hT.2])
  rw [hT.2] at k0
  rw [e0]
  exact k0
set_option maxRecDepth 1000000 in
set_option maxHeartbeats 16000000 in
theorem sn_core (zs es : List Int) (R : VwR) (vl ve vd vy : Value) (dim : Int) (w : World) (hl : IntsAt w vl zs) (he : IntsAt w ve es) (hd : IntsAt w vd R.days) (hy : IntsAt w vy R.years) (ht : Tab w) (h1 : zs.length ≤ 200)
    (E : Ex) (v : Vw) (env : List (ByteArray × Val)) (dd : Int) (hdd : Hid (1 + pick dim 4 = dd)) (hdb : 1 ≤ dd ∧ dd ≤ 4) (henv : Hid (stepsP es = env)) (hE : Hid (topF zs (dimsOf env) dd = E)) (hv : Hid (viewP R = v)) (r : Val × Int)
    (hr : Hid (exprF' v env E = r)) (hok : Hid (okR dd r)) (hnm : Hid (∀ x ∈ dimsOf env, x.1.size ≤ 140737488355328)) (heok : Hid (∀ p ∈ env, p.2.ok = true)) (hrng : Hid (VwRng v)) (hb : Hid (E.size ≤ 1000000)) :
    Calls Tryz.prog 7 #[vl, .agg #[.int .i64 R.age, .int .i64 R.year, .int .i64 R.children, .int .i64 R.base, .int .i64 R.den, vd, vy], ve, .int .i64 dim] w fun e w' => e = .returned (.bool true) ∧ w.Grows w' := by
  have HT := Lib.hid ht
  have HV := Lib.hid (fun w' (hg : w.Grows w') => viewOf_any R vd vy w' (IntsAt.growsG hd hg) (IntsAt.growsG hy hg))
  have HMK := Lib.hid (fun w' (hg : w.Grows w') (ev : Value) (he : EnvAt w' w'.heap.size ev (dimsOf env)) => Expr_any vl ev zs (dimsOf env) dd w' (IntsAt.list (IntsAt.growsG hl hg) (Nat.le_refl _)) he (by omega) (by omega))
  have HSP := Lib.hid (fun w' (hg : w.Grows w') => steps8_any es ve w' (IntsAt.growsG he hg))
  unfold VoP vwV at HV
  unfold MadeEx exV at HMK
  unfold StpP at HSP
  rw [hv.out] at HV
  rw [hE.out] at HMK
  rw [henv.out] at HSP
  have HX := Lib.hid (fun (se : Value) => exC hrng.out (se := se) heok.out hr.out (by have := hb.out; omega))
  unfold ExC vwV at HX
  have hn1 : ¬ (200 : Int) < (zs.length : Int) := by omega
  have hw1 : IntKind.i64.wrap (1 + pick dim 4) = dd := by rw [IntWalk.i64_in _ (by have := pick_bd dim 4 (by omega); omega)]; exact hdd.out
  have hw2 : 1 + pick dim 4 = dd := hdd.out
  have HVAL : Hid (r.1.ok = true → ∀ w, Calls Tryz.prog 31 #[valV r.1] w fun e w' => e = .returned (.bool true) ∧ w.Grows w') := Lib.hid (fun h w => by have h2 := ValidValue8_any r.1 w (Val.ok_rng h); rw [h] at h2; exact h2)
  obtain ⟨-, -, la, lc, rfl, -⟩ := hl
  obtain ⟨-, -, ea, ec, rfl, -⟩ := he
  obtain ⟨-, -, da, dc, rfl, -⟩ := hd
  obtain ⟨-, -, ya, yc, rfl, -⟩ := hy
  obtain ⟨⟨rm, ry, rn, rd⟩, rc⟩ := r
  dsimp only at HX HVAL
  clear ht
  go_enter Tryz.func7, Tryz.ntmps7
  go_wp2_with (go_at_call 15; refine (Pick_any _ _ _ (by omega)).mono ?_; rintro e' w' ⟨rfl, rfl⟩)
  go_at_call 25
  refine (HSP.out _ growsM).mono ?_
  rintro e' w' ⟨sv, rfl, ⟨bs, d, rfl⟩, hst⟩
  have HST := Lib.hid hst
  obtain ⟨-, sa, sc, rfl, -⟩ := hst
  go_wp2_with fail
  go_at_call 28
  refine (bindings8_any env _ _ (HST.out.grows growsM)).mono ?_
  rintro e' w' ⟨bv, rfl, ⟨bs2, d2, rfl⟩, hbd⟩
  have HBD := Lib.hid hbd
  obtain ⟨-, ba, bc, rfl, -⟩ := hbd
  go_wp2_with fail
  go_at_call 27
  refine (HMK.out _ growsM _ (EnvAt.of_bind (HBD.out.grows growsM) hnm.out)).mono ?_
  rintro e' w' ⟨cv, rfl, ⟨bs3, d3, rfl⟩, hrep⟩
  have HREP := Lib.hid (hrep.mono (S' := fun _ => True) (fun _ _ => trivial))
  obtain ⟨ca1, cc1, rfl⟩ := hrep.form0
  clear hrep
  replace HX := Lib.hid (HX.out (.slice sa env.length sc))
  go_wp2_with fail
  refine TS.begin [10] (World.Grows _) (by kernel_rfl) (by kernel_rfl) grows_drew0 (fun hS => ?_)
  refine TS.takeV (i := 0) (v := ?_) rfl (by kernel_rfl) (by kernel_rfl) (by kernel_rfl) (by decide) (fun _ _ _ h => h) rfl hS ?_ ?_
  rotate_left
  focus
    rintro wS ⟨gbS, gdS, rfl⟩
    go_simp
    rfl
  (try simp only [nS])
  refine TS.takeV (i := 1) (v := ?_) rfl (by kernel_rfl) (by kernel_rfl) (by kernel_rfl) (by decide) (fun _ _ _ h => h) rfl hS ?_ ?_
  rotate_left
  focus
    rintro wS ⟨gbS, gdS, rfl⟩
    go_simp
    rfl
  (try simp only [nS])
  refine TS.takeV (i := 3) (v := ?_) rfl (by kernel_rfl) (by kernel_rfl) (by kernel_rfl) (by decide) (fun _ _ _ h => h) rfl hS ?_ ?_
  rotate_left
  focus
    rintro wS ⟨gbS, gdS, rfl⟩
    go_simp
    rfl
  (try simp only [nS])
  refine TS.two (i := 2) (k := 8) (by decide +kernel) rfl rfl (fun K1 hK1 => ?_) (fun K1 hK1 => ?_)
  · have HK1 := Lib.hid hK1
    clear hK1 hS
    dsimp only [List.getElem_toArray, List.getElem_cons_succ, List.getElem_cons_zero]
    go_simp
    go_at_call 14
    refine (HV.out _ growsM).mono ?_
    rintro e' w' ⟨yv, rfl, ⟨bA, dA, rfl⟩, hyv⟩
    have HYV := Lib.hid hyv
    obtain ⟨-, ya1, yc1, rfl, -⟩ := hyv
    refine TS.go HK1.out growsM (fun hS => ?_)
    clear HK1 K1
    (try simp only [nS])
    refine TS.two (i := 4) (k := 8) (by decide +kernel) rfl rfl (fun K1 hK1 => ?_) (fun K1 hK1 => ?_)
    · have HK1 := Lib.hid hK1
      clear hK1 hS
      dsimp only [List.getElem_toArray, List.getElem_cons_succ, List.getElem_cons_zero]
      go_simp
      go_at_call 29
      refine (HX.out ya1 yc1 _ ca1 cc1 (HREP.out.grows growsM) (HT.out.grows growsM) (HYV.out.grows growsM) (HST.out.grows growsM)).mono ?_
      rintro e' w' ⟨rfl, bB, dB, rfl⟩
      refine TS.go HK1.out growsM (fun hS => ?_)
      clear HK1 K1
      (try simp only [nS])
      refine TS.takeV (i := 5) (v := ?_) rfl (by kernel_rfl) (by kernel_rfl) (by kernel_rfl) (by decide) (fun _ _ _ h => h) rfl hS ?_ ?_
      rotate_left
      focus
        rintro wS ⟨gbS, gdS, rfl⟩
        go_simp
        rfl
      (try simp only [nS])
      refine TS.takeV (i := 6) (v := ?_) rfl (by kernel_rfl) (by kernel_rfl) (by kernel_rfl) (by decide) (fun _ _ _ h => h) rfl hS ?_ ?_
      rotate_left
      focus
        rintro wS ⟨gbS, gdS, rfl⟩
        go_simp
        rfl
      (try simp only [nS])
      refine TS.takeV (i := 7) (v := ?_) rfl (by kernel_rfl) (by kernel_rfl) (by kernel_rfl) (by decide) (fun _ _ _ h => h) rfl hS ?_ ?_
      rotate_left
      focus
        rintro wS ⟨gbS, gdS, rfl⟩
        go_simp
        rfl
      (try simp only [nS])
      refine TS.one (i := 8) (by decide +kernel) rfl (fun K1 hK1 => ?_)
      have HK1 := Lib.hid hK1
      clear hK1 hS
      dsimp only [List.getElem_toArray, List.getElem_cons_succ, List.getElem_cons_zero]
      go_simp
      refine TS.go HK1.out (by first | exact grows_drew | exact .of_below (by (exact belB))) (fun hS => ?_)
      clear HK1 K1
      (try simp only [nS])
      refine TS.one (i := 9) (by decide +kernel) rfl (fun K1 hK1 => ?_)
      have HK1 := Lib.hid hK1
      clear hK1 hS
      dsimp only [List.getElem_toArray, List.getElem_cons_succ, List.getElem_cons_zero]
      go_simp
      refine TS.go HK1.out growsM (fun hS => ?_)
      clear HK1 K1
      (try simp only [nS])
      refine TS.one (i := 10) (by kernel_rfl) rfl (fun K1 hK1 => ?_)
      go_simp
      refine hK1 _ _ (fun h => absurd (by decide) h) (TS.done (by kernel_rfl) ?_)
      clear hK1 K1 hS
      (try simp only [nS])
      go_wp2_with fail
      go_at_call 19
      refine (awake8_any _ (HT.out.grows growsM)).mono ?_
      rintro e' w' ⟨rfl, bs9, d9, rfl⟩
      clear HX
      rcases hok.out with ⟨hc, ho, hm⟩ | ⟨hz, hc⟩
      · have HVL := Lib.hid (HVAL.out ho)
        unfold valV at HVL
        dsimp only at hc hm HVL
        subst hc
        subst hm
        clear HVAL ho
        go_wp2_with (go_at_call 31; refine (HVL.out _).mono ?_; rintro e' w' ⟨rfl, bs8, d8, rfl⟩)
        go_returns
        exact ⟨rfl, growsM⟩
      · simp only [Val.zero, Val.mk.injEq] at hz
        obtain ⟨rfl, rfl, rfl, rfl⟩ := hz
        dsimp only at hc
        clear HVAL
        rcases hc with rfl | rfl
        · go_wp2_with fail
          go_returns
          exact ⟨rfl, growsM⟩
        · go_wp2_with fail
          go_returns
          exact ⟨rfl, growsM⟩
    · have HK1 := Lib.hid hK1
      clear hK1 hS
      dsimp only [List.getElem_toArray, List.getElem_cons_succ, List.getElem_cons_zero]
      go_simp
      refine TS.go HK1.out (by first | exact grows_drew | exact .of_below (by (exact belB))) (fun hS => ?_)
      clear HK1 K1
      (try simp only [nS])
      refine TS.one (i := 4) (by decide +kernel) rfl (fun K1 hK1 => ?_)
      have HK1 := Lib.hid hK1
      clear hK1 hS
      dsimp only [List.getElem_toArray, List.getElem_cons_succ, List.getElem_cons_zero]
      go_simp
      go_at_call 29
      refine (HX.out ya1 yc1 _ ca1 cc1 (HREP.out.grows growsM) (HT.out.grows growsM) (HYV.out.grows growsM) (HST.out.grows growsM)).mono ?_
      rintro e' w' ⟨rfl, bB, dB, rfl⟩
      refine TS.go HK1.out growsM (fun hS => ?_)
      clear HK1 K1
      (try simp only [nS])
      refine TS.takeV (i := 5) (v := ?_) rfl (by kernel_rfl) (by kernel_rfl) (by kernel_rfl) (by decide) (fun _ _ _ h => h) rfl hS ?_ ?_
      rotate_left
      focus
        rintro wS ⟨gbS, gdS, rfl⟩
        go_simp
        rfl
      (try simp only [nS])
      refine TS.takeV (i := 6) (v := ?_) rfl (by kernel_rfl) (by kernel_rfl) (by kernel_rfl) (by decide) (fun _ _ _ h => h) rfl hS ?_ ?_
      rotate_left
      focus
        rintro wS ⟨gbS, gdS, rfl⟩
        go_simp
        rfl
      (try simp only [nS])
      refine TS.takeV (i := 7) (v := ?_) rfl (by kernel_rfl) (by kernel_rfl) (by kernel_rfl) (by decide) (fun _ _ _ h => h) rfl hS ?_ ?_
      rotate_left
      focus
        rintro wS ⟨gbS, gdS, rfl⟩
        go_simp
        rfl
      (try simp only [nS])
      refine TS.one (i := 9) (by decide +kernel) rfl (fun K1 hK1 => ?_)
      have HK1 := Lib.hid hK1
      clear hK1 hS
      dsimp only [List.getElem_toArray, List.getElem_cons_succ, List.getElem_cons_zero]
      go_simp
      refine TS.go HK1.out growsM (fun hS => ?_)
      clear HK1 K1
      (try simp only [nS])
      refine TS.one (i := 10) (by kernel_rfl) rfl (fun K1 hK1 => ?_)
      go_simp
      refine hK1 _ _ (fun h => absurd (by decide) h) (TS.done (by kernel_rfl) ?_)
      clear hK1 K1 hS
      (try simp only [nS])
      go_wp2_with fail
      go_at_call 19
      refine (awake8_any _ (HT.out.grows growsM)).mono ?_
      rintro e' w' ⟨rfl, bs9, d9, rfl⟩
      clear HX
      rcases hok.out with ⟨hc, ho, hm⟩ | ⟨hz, hc⟩
      · have HVL := Lib.hid (HVAL.out ho)
        unfold valV at HVL
        dsimp only at hc hm HVL
        subst hc
        subst hm
        clear HVAL ho
        go_wp2_with (go_at_call 31; refine (HVL.out _).mono ?_; rintro e' w' ⟨rfl, bs8, d8, rfl⟩)
        go_returns
        exact ⟨rfl, growsM⟩
      · simp only [Val.zero, Val.mk.injEq] at hz
        obtain ⟨rfl, rfl, rfl, rfl⟩ := hz
        dsimp only at hc
        clear HVAL
        rcases hc with rfl | rfl
        · go_wp2_with fail
          go_returns
          exact ⟨rfl, growsM⟩
        · go_wp2_with fail
          go_returns
          exact ⟨rfl, growsM⟩
  · have HK1 := Lib.hid hK1
    clear hK1 hS
    dsimp only [List.getElem_toArray, List.getElem_cons_succ, List.getElem_cons_zero]
    go_simp
    refine TS.go HK1.out (by first | exact grows_drew | exact .of_below (by (exact belB))) (fun hS => ?_)
    clear HK1 K1
    (try simp only [nS])
    refine TS.one (i := 2) (by decide +kernel) rfl (fun K1 hK1 => ?_)
    have HK1 := Lib.hid hK1
    clear hK1 hS
    dsimp only [List.getElem_toArray, List.getElem_cons_succ, List.getElem_cons_zero]
    go_simp
    go_at_call 14
    refine (HV.out _ growsM).mono ?_
    rintro e' w' ⟨yv, rfl, ⟨bA, dA, rfl⟩, hyv⟩
    have HYV := Lib.hid hyv
    obtain ⟨-, ya1, yc1, rfl, -⟩ := hyv
    refine TS.go HK1.out growsM (fun hS => ?_)
    clear HK1 K1
    (try simp only [nS])
    refine TS.one (i := 4) (by decide +kernel) rfl (fun K1 hK1 => ?_)
    have HK1 := Lib.hid hK1
    clear hK1 hS
    dsimp only [List.getElem_toArray, List.getElem_cons_succ, List.getElem_cons_zero]
    go_simp
    go_at_call 29
    refine (HX.out ya1 yc1 _ ca1 cc1 (HREP.out.grows growsM) (HT.out.grows growsM) (HYV.out.grows growsM) (HST.out.grows growsM)).mono ?_
    rintro e' w' ⟨rfl, bB, dB, rfl⟩
    refine TS.go HK1.out growsM (fun hS => ?_)
    clear HK1 K1
    (try simp only [nS])
    refine TS.takeV (i := 5) (v := ?_) rfl (by kernel_rfl) (by kernel_rfl) (by kernel_rfl) (by decide) (fun _ _ _ h => h) rfl hS ?_ ?_
    rotate_left
    focus
      rintro wS ⟨gbS, gdS, rfl⟩
      go_simp
      rfl
    (try simp only [nS])
    refine TS.takeV (i := 6) (v := ?_) rfl (by kernel_rfl) (by kernel_rfl) (by kernel_rfl) (by decide) (fun _ _ _ h => h) rfl hS ?_ ?_
    rotate_left
    focus
      rintro wS ⟨gbS, gdS, rfl⟩
      go_simp
      rfl
    (try simp only [nS])
    refine TS.takeV (i := 7) (v := ?_) rfl (by kernel_rfl) (by kernel_rfl) (by kernel_rfl) (by decide) (fun _ _ _ h => h) rfl hS ?_ ?_
    rotate_left
    focus
      rintro wS ⟨gbS, gdS, rfl⟩
      go_simp
      rfl
    (try simp only [nS])
    refine TS.one (i := 9) (by decide +kernel) rfl (fun K1 hK1 => ?_)
    have HK1 := Lib.hid hK1
    clear hK1 hS
    dsimp only [List.getElem_toArray, List.getElem_cons_succ, List.getElem_cons_zero]
    go_simp
    refine TS.go HK1.out growsM (fun hS => ?_)
    clear HK1 K1
    (try simp only [nS])
    refine TS.one (i := 10) (by kernel_rfl) rfl (fun K1 hK1 => ?_)
    go_simp
    refine hK1 _ _ (fun h => absurd (by decide) h) (TS.done (by kernel_rfl) ?_)
    clear hK1 K1 hS
    (try simp only [nS])
    go_wp2_with fail
    go_at_call 19
    refine (awake8_any _ (HT.out.grows growsM)).mono ?_
    rintro e' w' ⟨rfl, bs9, d9, rfl⟩
    clear HX
    rcases hok.out with ⟨hc, ho, hm⟩ | ⟨hz, hc⟩
    · have HVL := Lib.hid (HVAL.out ho)
      unfold valV at HVL
      dsimp only at hc hm HVL
      subst hc
      subst hm
      clear HVAL ho
      go_wp2_with (go_at_call 31; refine (HVL.out _).mono ?_; rintro e' w' ⟨rfl, bs8, d8, rfl⟩)
      go_returns
      exact ⟨rfl, growsM⟩
    · simp only [Val.zero, Val.mk.injEq] at hz
      obtain ⟨rfl, rfl, rfl, rfl⟩ := hz
      dsimp only at hc
      clear HVAL
      rcases hc with rfl | rfl
      · go_wp2_with fail
        go_returns
        exact ⟨rfl, growsM⟩
      · go_wp2_with fail
        go_returns
        exact ⟨rfl, growsM⟩
theorem sn_any (zs es : List Int) (R : VwR) (vl ve vd vy : Value) (dim : Int) (w : World) (hl : IntsAt w vl zs) (he : IntsAt w ve es) (hd : IntsAt w vd R.days) (hy : IntsAt w vy R.years) (ht : Tab w) :
    Calls Tryz.prog 7 #[vl, .agg #[.int .i64 R.age, .int .i64 R.year, .int .i64 R.children, .int .i64 R.base, .int .i64 R.den, vd, vy], ve, .int .i64 dim] w fun e w' => e = .returned (.bool true) ∧ w.Grows w' := by
  by_cases hlen : zs.length ≤ 200
  · have hp := pick_bd dim 4 (by omega)
    exact sn_core zs es R vl ve vd vy dim w hl he hd hy ht hlen _ (viewP R) _ _ (Lib.hid rfl) ⟨by omega, by omega⟩ (Lib.hid rfl) (Lib.hid rfl) (Lib.hid rfl) _ (Lib.hid rfl) (Lib.hid (snd_plain R zs es (by omega) (by omega))) (Lib.hid (dims_names es)) (Lib.hid (stepsP_ok es)) (Lib.hid (viewP_rng R)) (Lib.hid (topF_size _ _ _))
  · exact sn_long zs vl ve R.age R.year R.children R.base R.den dim vd vy w hl (by omega)
end Go.Proofs.YtlheailebbngiaaGreatDoor
