/- StatuteExplains: the walk. -/
import Derived.Test.YthionhbjmheimaaDoorExpW
import Derived.Test.YthionhbjmheimaaDoorLGr8
import Derived.Test.YthionhbjmheimaaDoorSmSL
import Derived.Test.YthionhbjmheimaaDoorLExpL
import Derived.Test.YthionhbjmheimaaDoorLVwOf
import Derived.Test.YthionhbjmheimaaDoorLYrV
import Derived.Test.YthionhbjmheimaaDoorLTwistW
import Derived.Test.YthionhbjmheimaaDoorXpX
set_option linter.all false
namespace Go.Proofs.YthionhbjmheimaaDoor
open Go.RowKit
def extP (z : Int) : ByteArray × Val := (⟨#[120]⟩, valP z (stepD z))
def extL (zs : List Int) : List (ByteArray × Val) := zs.map extP
theorem ext_take {zs : List Int} {k : Nat} (h : k < zs.length) : extL (zs.take (k + 1)) = extL (zs.take k) ++ [extP (zs.getD k 0)] := by
  unfold extL
  rw [List.take_succ_eq_append_getElem h, List.map_append, List.getD_eq_getElem?_getD, List.getElem?_eq_getElem h]; rfl
theorem ext_sm (zs : List Int) : StpSm (extL zs) := fun p hp => by
  obtain ⟨z, -, rfl⟩ := List.mem_map.1 hp
  exact ⟨by show ((⟨#[120]⟩ : ByteArray).size ≤ 12); decide, valP_ok z (stepD_bd z)⟩
theorem StpSm.app {a b : List (ByteArray × Val)} (ha : StpSm a) (hb : StpSm b) : StpSm (a ++ b) := fun p hp => (List.mem_append.1 hp).elim (ha p) (hb p)
theorem ext_stp (st : List (ByteArray × Val)) (zs : List Int) (k : Nat) (h : k < zs.length) : stpL (st ++ extL (zs.take (k + 1))) = stpL (st ++ extL (zs.take k)) ++ [.string ⟨#[120]⟩, .int .i64 (stepD (zs.getD k 0)), .bool (valP (zs.getD k 0) (stepD (zs.getD k 0))).yes, .int .i64 (valP (zs.getD k 0) (stepD (zs.getD k 0))).n, .int .i64 (valP (zs.getD k 0) (stepD (zs.getD k 0))).d] := by
  rw [ext_take h, ← List.append_assoc, stpL_snoc]
  unfold extP
  rw [valP_dim]
theorem ext_len (st : List (ByteArray × Val)) (zs : List Int) (k : Nat) (h : k ≤ zs.length) : (st ++ extL (zs.take k)).length = st.length + k := by
  unfold extL; simp; omega
/-- Two rows of texts at one place. -/
theorem str_cell {w : World} {B : Nat} {a : Option Addr} {n c : Nat} {l : List ByteArray} (h : StrRow B w (.slice a n c) l) {k : Nat} (hk : k < l.length) : ∃ b, a = some ⟨b, 0, none⟩ ∧ n = l.length ∧ b < w.heap.size ∧ w.cell? ⟨b, k, none⟩ = some (.string (l.getD k ByteArray.empty)) := by
  unfold StrRow at h
  obtain ⟨hx, ⟨hv, h0⟩ | ⟨g, cap, cur, hv, hb, hg, h2, h3, h4, h5⟩⟩ := id h
  · omega
  · simp only [Value.slice.injEq] at hv
    obtain ⟨rfl, rfl, rfl⟩ := hv
    refine ⟨g, rfl, rfl, (Array.getElem?_eq_some_iff.1 hg).1, ?_⟩
    have := h.cellAt k (by simpa using hk)
    rw [this, List.getElem?_map, List.getElem?_eq_getElem hk, List.getD_eq_getElem?_getD, List.getElem?_eq_getElem hk]; rfl
theorem str_form {w : World} {B : Nat} {v : Value} {l : List ByteArray} (h : StrRow B w v l) : ∃ a c, v = .slice a l.length c := by
  unfold StrRow at h
  obtain ⟨-, ⟨rfl, h0⟩ | ⟨g, cap, cur, rfl, -⟩⟩ := h
  · exact ⟨_, _, by rw [h0]⟩
  · exact ⟨_, _, rfl⟩
theorem StrRow.grows {w w' : World} {B : Nat} {v : Value} {l : List ByteArray} (h : StrRow B w v l) (hg : w.Grows w') : StrRow B w' v l := own_grow h hg
theorem ext_len' (st : List (ByteArray × Val)) (zs : List Int) : (st ++ extL zs).length = st.length + zs.length := by unfold extL; simp
theorem own_form {w : World} {B : Nat} {e : TypeId} {z : Nat} {v : Value} {n : Nat} {xs : List Value} (h : w.ownsRow B e z v n xs) : ∃ a c, v = .slice a n c := by
  obtain ⟨-, ⟨rfl, rfl⟩ | ⟨g, cap, cur, rfl, -⟩⟩ := h
  · exact ⟨_, _, rfl⟩
  · exact ⟨_, _, rfl⟩
/-- A row above a world's blocks lies in every world that has the same above them. -/
theorem own_above {X Y : World} {bs : Array Obj} {d d' : Nat} {base base' size n : Nat} {e : TypeId} {v : Value} {xs : List Value} (hs : X.heap.size = Y.heap.size) (hb : X.heap.size ≤ base) (hb' : base' ≤ base) (h : (X.grow bs d).ownsRow base e size v n xs) : (Y.grow bs d').ownsRow base' e size v n xs :=
  own_base hb' (World.ownsRow_same hs hb h)
theorem own_mg {X : World} {a b : Array Obj} {d d' : Nat} {base size n : Nat} {e : TypeId} {v : Value} {xs : List Value} (h : ((X.grow a d).grow b d').ownsRow base e size v n xs) : (X.grow (a ++ b) d').ownsRow base e size v n xs := by rwa [World.grow_grow] at h
theorem own_mg3 {X : World} {a b c : Array Obj} {d d' : Nat} {base size n : Nat} {e : TypeId} {v : Value} {xs : List Value} (h : ((X.grow (a ++ b) d).grow c d').ownsRow base e size v n xs) : (X.grow (a ++ (b ++ c)) d').ownsRow base e size v n xs := by rwa [World.grow_grow, Array.append_assoc] at h
set_option maxRecDepth 1000000 in
set_option maxHeartbeats 16000000 in
theorem xp_core (hOf : Hid OfSaid) (cs : Array Value) (R : RawV) (P : VwR) (vd vy vl : Value) (zs : List Int) (bn : Int) (w : World) (hR : RawAt w cs.toList R) (hd : IntsAt w vd P.days) (hy : IntsAt w vy P.years) (hl : IntsAt w vl zs) (ht : Tab w)
    (V : VerP) (hV : Hid (ofP R = V)) (hsm : VerSm V) (hln : V.cr.length ≤ 1000 ∧ V.se.length ≤ 1000 ∧ V.le.length ≤ 10 ∧ V.gr.length ≤ 1000 ∧ V.re.length ≤ 1000) (v : Vw) (hv : Hid (viewP P = v)) (hrng : VwRng v) (k : Int) (hk : Hid (pick bn 4 = k)) :
    Calls Tryd.prog 3 #[.agg cs, .agg #[.int .i64 P.age, .int .i64 P.year, .int .i64 P.children, .int .i64 P.base, .int .i64 P.den, vd, vy], .int .i64 bn, vl] w fun e w' => e = .returned (.bool true) ∧ w.Grows w' := by
  have HT := Lib.hid ht
  have HR := Lib.hid hR
  have HL := Lib.hid hl
  have HVV := hV
  have HW := Lib.hid (fun w' (hg : w.Grows w') => viewOf_any P vd vy w' (IntsAt.growsG hd hg) (IntsAt.growsG hy hg))
  unfold VoP vwV at HW
  rw [hv.out] at HW
  have HPK := Lib.hid (fun w => Pick_any bn 4 w (by omega))
  rw [hk.out] at HPK
  have HOF := Lib.hid (fun w' (hg : w.Grows w') => hOf.out R cs w' (HR.out.below hg.below))
  have HB := Lib.hid (fun W (hg : World.Grows w W) a3 a4 a5 a6 a7 k3 k4 k5 k6 k7 (ya : Option Addr) (yc : Nat) (hVC : VerC W V (.slice a3 V.cr.length k3) (.slice a4 V.se.length k4) (.slice a5 V.le.length k5) (.slice a6 V.gr.length k6) (.slice a7 V.re.length k7)) (hY : YrAt W (.slice ya v.years.length yc) v.years) =>
    GrantO_any V v k (ofP R).frm (ofP R).mode (ofP R).unit _ _ _ _ _ _ W hVC hsm hln.2.2.1 hrng hY)
  have HSM := Lib.hid (grF_sm (V := V) (b := k) (v := v))
  obtain ⟨⟨⟨h, n, d⟩, st, c⟩, hr⟩ : ∃ r, grantF V k v = r := ⟨_, rfl⟩
  unfold GrO vwV at HB
  simp only [List.length_map, hr] at HB HSM ⊢
  clear hr
  obtain ⟨-, -, -, -, vc, vs, vl', vi, vp, vu, he, -⟩ := hR
  obtain ⟨l⟩ := cs
  simp only at he
  subst he
  obtain ⟨-, -, da, dc, rfl, -⟩ := hd
  obtain ⟨-, -, ya, yc, rfl, -⟩ := hy
  obtain ⟨hz0, hz64, la, lc, rfl, hlc⟩ := hl
  have HLC := Lib.hid hlc
  have H64 := Lib.hid hz64
  clear ht hlc hz64
  by_cases h30 : 30 < zs.length
  · have h31 : (30 : Int) < (zs.length : Int) := by omega
    go_enter Tryd.func3, Tryd.ntmps3
    go_wp2_with fail
    go_returns
    exact ⟨rfl, growsR⟩
  have h31 : ¬ (30 : Int) < (zs.length : Int) := by omega
  have H30 := Lib.hid h30
  clear h30
  go_enter Tryd.func3, Tryd.ntmps3
  go_upto_region 3 with fail
  go_cut [9, 10] from 17 (fun v9 v10 wx => ∃ (B : Nat) (sv : Value), v9 = .pointer (some ⟨B, 0, none⟩) ∧ B < wx.heap.size ∧ wx.cell? ⟨B, 3, none⟩ = some sv ∧ w.Grows wx ∧ wx.ownsRow w.heap.size 54 5 sv st.length (stpL st) ∧ Hid (st.length ≤ 40 ∧ ∀ p ∈ st, p.2.ok = true))
  case first =>
    go_wp2_with fail
    refine TS.begin [12] (World.Grows _) (by kernel_rfl) (by kernel_rfl) grows_drew0 (fun hS => ?_)
    refine TS.takeV (i := 0) (v := ?_) rfl (by kernel_rfl) (by kernel_rfl) (by kernel_rfl) (by decide) (fun _ _ _ h => h) rfl hS ?_ ?_
    rotate_left
    focus
      rintro wS ⟨gbS, gdS, rfl⟩
      go_simp
      rfl
    (try simp only [nS])
    refine TS.takeV (i := 2) (v := ?_) rfl (by kernel_rfl) (by kernel_rfl) (by kernel_rfl) (by decide) (fun _ _ _ h => h) rfl hS ?_ ?_
    rotate_left
    focus
      rintro wS ⟨gbS, gdS, rfl⟩
      go_simp
      rfl
    (try simp only [nS])
    refine TS.takeV (i := 4) (v := ?_) rfl (by kernel_rfl) (by kernel_rfl) (by kernel_rfl) (by decide) (fun _ _ _ h => h) rfl hS ?_ ?_
    rotate_left
    focus
      rintro wS ⟨gbS, gdS, rfl⟩
      go_simp
      rfl
    (try simp only [nS])
    refine TS.two (i := 1) (k := 10) (by kernel_rfl) rfl rfl (fun K1 hK1 => ?_) (fun K1 hK1 => ?_)
    · have HK1 := Lib.hid hK1
      clear hK1 hS
      dsimp only [List.getElem_toArray, List.getElem_cons_succ, List.getElem_cons_zero]
      go_simp
      go_at_call 5
      refine (HOF.out _ growsR).mono ?_
      rintro e' w' ⟨v3, v4, v5, v6, v7, rfl, ⟨bs, dr, rfl⟩, hver⟩
      rw [HVV.out] at hver
      have HVC := Lib.hid (hver.verX ⟨hln.1, hln.2.1, by omega, hln.2.2.2.1, hln.2.2.2.2⟩)
      clear hver
      obtain ⟨-, a3, k3, rfl, -⟩ := HVC.out.cr
      obtain ⟨-, a4, k4, rfl, -⟩ := HVC.out.se
      obtain ⟨-, a5, k5, rfl, -⟩ := HVC.out.le
      obtain ⟨-, a6, k6, rfl, -⟩ := HVC.out.gr
      obtain ⟨-, a7, k7, rfl, -⟩ := HVC.out.re
      simp only [List.length_map] at HVC
      refine TS.go HK1.out growsR (fun hS => ?_)
      clear HK1 K1
      (try simp only [nS])
      refine TS.takeC (i := 3) (v := (.int .i64 k)) (fn := 6) (args := #[.int .i64 bn, .int .i64 4]) rfl (by kernel_rfl) (by kernel_rfl) (by kernel_rfl) (by decide) (fun _ _ _ h => h) rfl hS ?_ ?_ ?_
      focus
        rintro wS ⟨gbS, gdS, rfl⟩
        go_simp
      focus exact fun wS _ => (HPK.out wS)
      (try simp only [nS])
      refine TS.two (i := 5) (k := 10) (by kernel_rfl) rfl rfl (fun K1 hK1 => ?_) (fun K1 hK1 => ?_)
      · have HK1 := Lib.hid hK1
        clear hK1 hS
        dsimp only [List.getElem_toArray, List.getElem_cons_succ, List.getElem_cons_zero]
        go_simp
        go_at_call 7
        refine (HW.out _ growsR).mono ?_
        rintro e' w' ⟨yv, rfl, ⟨bA, dA, rfl⟩, hyv⟩
        have HYV := Lib.hid hyv
        obtain ⟨-, ya1, yc1, rfl, -⟩ := hyv
        refine TS.go HK1.out growsR (fun hS => ?_)
        clear HK1 K1
        (try simp only [nS])
        refine TS.two (i := 6) (k := 10) (by kernel_rfl) rfl rfl (fun K1 hK1 => ?_) (fun K1 hK1 => ?_)
        · have HK1 := Lib.hid hK1
          clear hK1 hS
          dsimp only [List.getElem_toArray, List.getElem_cons_succ, List.getElem_cons_zero]
          go_simp
          go_at_call 4
          refine (HB.out _ growsR _ _ _ _ _ _ _ _ _ _ _ _ (HVC.out.grows growsR) (HYV.out.grows growsR)).mono ?_
          rintro e' w' ⟨sv, rfl, ⟨bC, dC, rfl⟩, hsv, hsl, hso⟩
          have HSV := Lib.hid hsv
          have HSL := Lib.hid hsl
          have HSO := Lib.hid hso
          obtain ⟨sa0, sc0, rfl⟩ := own_form hsv
          clear hsv hsl hso
          refine TS.go HK1.out growsR (fun hS => ?_)
          clear HK1 K1
          (try simp only [nS])
          refine TS.takeV (i := 7) (v := ?_) rfl (by kernel_rfl) (by kernel_rfl) (by kernel_rfl) (by decide) (fun _ _ _ h => h) rfl hS ?_ ?_
          rotate_left
          focus
            rintro wS ⟨gbS, gdS, rfl⟩
            go_simp
            rfl
          (try simp only [nS])
          refine TS.takeV (i := 8) (v := ?_) rfl (by kernel_rfl) (by kernel_rfl) (by kernel_rfl) (by decide) (fun _ _ _ h => h) rfl hS ?_ ?_
          rotate_left
          focus
            rintro wS ⟨gbS, gdS, rfl⟩
            go_simp
            rfl
          (try simp only [nS])
          refine TS.takeV (i := 9) (v := ?_) rfl (by kernel_rfl) (by kernel_rfl) (by kernel_rfl) (by decide) (fun _ _ _ h => h) rfl hS ?_ ?_
          rotate_left
          focus
            rintro wS ⟨gbS, gdS, rfl⟩
            go_simp
            rfl
          (try simp only [nS])
          refine TS.one (i := 10) (by kernel_rfl) rfl (fun K1 hK1 => ?_); have HK1 := Lib.hid hK1; clear hK1 hS; dsimp only [List.getElem_toArray, List.getElem_cons_succ, List.getElem_cons_zero]; go_simp; refine TS.go HK1.out growsR (fun hS => ?_); clear HK1 K1; (try simp only [nS])
          refine TS.one (i := 11) (by kernel_rfl) rfl (fun K1 hK1 => ?_)
          have HK1 := Lib.hid hK1
          clear hK1 hS
          dsimp only [List.getElem_toArray, List.getElem_cons_succ, List.getElem_cons_zero]
          go_simp
          refine TS.go HK1.out growsR (fun hS => ?_)
          clear HK1 K1
          (try simp only [nS])
          refine TS.one (i := 12) (by kernel_rfl) rfl (fun K1 hK1 => ?_)
          go_simp
          refine hK1 _ _ (fun h => absurd (by decide) h) (TS.done (by kernel_rfl) ?_)
          clear hK1 K1 hS
          (try simp only [nS])
          go_wp2_with fail
          go_meet
          exact ⟨_, .slice sa0 st.length sc0, rfl, by simp <;> omega, by simp [go_sem], growsR, own_base (b' := w.heap.size) (by simp <;> omega) (own_grow HSV.out growsR), Lib.hid ⟨HSL.out, HSO.out⟩⟩
        · have HK1 := Lib.hid hK1
          clear hK1 hS
          dsimp only [List.getElem_toArray, List.getElem_cons_succ, List.getElem_cons_zero]
          go_simp
          refine TS.go HK1.out growsR (fun hS => ?_)
          clear HK1 K1
          (try simp only [nS])
          refine TS.one (i := 6) (by kernel_rfl) rfl (fun K1 hK1 => ?_)
          have HK1 := Lib.hid hK1
          clear hK1 hS
          dsimp only [List.getElem_toArray, List.getElem_cons_succ, List.getElem_cons_zero]
          go_simp
          go_at_call 4
          refine (HB.out _ growsR _ _ _ _ _ _ _ _ _ _ _ _ (HVC.out.grows growsR) (HYV.out.grows growsR)).mono ?_
          rintro e' w' ⟨sv, rfl, ⟨bC, dC, rfl⟩, hsv, hsl, hso⟩
          have HSV := Lib.hid hsv
          have HSL := Lib.hid hsl
          have HSO := Lib.hid hso
          obtain ⟨sa0, sc0, rfl⟩ := own_form hsv
          clear hsv hsl hso
          refine TS.go HK1.out growsR (fun hS => ?_)
          clear HK1 K1
          (try simp only [nS])
          refine TS.takeV (i := 7) (v := ?_) rfl (by kernel_rfl) (by kernel_rfl) (by kernel_rfl) (by decide) (fun _ _ _ h => h) rfl hS ?_ ?_
          rotate_left
          focus
            rintro wS ⟨gbS, gdS, rfl⟩
            go_simp
            rfl
          (try simp only [nS])
          refine TS.takeV (i := 8) (v := ?_) rfl (by kernel_rfl) (by kernel_rfl) (by kernel_rfl) (by decide) (fun _ _ _ h => h) rfl hS ?_ ?_
          rotate_left
          focus
            rintro wS ⟨gbS, gdS, rfl⟩
            go_simp
            rfl
          (try simp only [nS])
          refine TS.takeV (i := 9) (v := ?_) rfl (by kernel_rfl) (by kernel_rfl) (by kernel_rfl) (by decide) (fun _ _ _ h => h) rfl hS ?_ ?_
          rotate_left
          focus
            rintro wS ⟨gbS, gdS, rfl⟩
            go_simp
            rfl
          (try simp only [nS])
          skip
          refine TS.one (i := 11) (by kernel_rfl) rfl (fun K1 hK1 => ?_)
          have HK1 := Lib.hid hK1
          clear hK1 hS
          dsimp only [List.getElem_toArray, List.getElem_cons_succ, List.getElem_cons_zero]
          go_simp
          refine TS.go HK1.out growsR (fun hS => ?_)
          clear HK1 K1
          (try simp only [nS])
          refine TS.one (i := 12) (by kernel_rfl) rfl (fun K1 hK1 => ?_)
          go_simp
          refine hK1 _ _ (fun h => absurd (by decide) h) (TS.done (by kernel_rfl) ?_)
          clear hK1 K1 hS
          (try simp only [nS])
          go_wp2_with fail
          go_meet
          exact ⟨_, .slice sa0 st.length sc0, rfl, by simp <;> omega, by simp [go_sem], growsR, (own_above (h := HSV.out) (by simp) (by simp) (by simp <;> omega)), Lib.hid ⟨HSL.out, HSO.out⟩⟩
      · have HK1 := Lib.hid hK1
        clear hK1 hS
        dsimp only [List.getElem_toArray, List.getElem_cons_succ, List.getElem_cons_zero]
        go_simp
        refine TS.go HK1.out growsR (fun hS => ?_)
        clear HK1 K1
        (try simp only [nS])
        refine TS.one (i := 5) (by kernel_rfl) rfl (fun K1 hK1 => ?_)
        have HK1 := Lib.hid hK1
        clear hK1 hS
        dsimp only [List.getElem_toArray, List.getElem_cons_succ, List.getElem_cons_zero]
        go_simp
        go_at_call 7
        refine (HW.out _ growsR).mono ?_
        rintro e' w' ⟨yv, rfl, ⟨bA, dA, rfl⟩, hyv⟩
        have HYV := Lib.hid hyv
        obtain ⟨-, ya1, yc1, rfl, -⟩ := hyv
        refine TS.go HK1.out growsR (fun hS => ?_)
        clear HK1 K1
        (try simp only [nS])
        refine TS.one (i := 6) (by kernel_rfl) rfl (fun K1 hK1 => ?_)
        have HK1 := Lib.hid hK1
        clear hK1 hS
        dsimp only [List.getElem_toArray, List.getElem_cons_succ, List.getElem_cons_zero]
        go_simp
        go_at_call 4
        refine (HB.out _ growsR _ _ _ _ _ _ _ _ _ _ _ _ (HVC.out.grows growsR) (HYV.out.grows growsR)).mono ?_
        rintro e' w' ⟨sv, rfl, ⟨bC, dC, rfl⟩, hsv, hsl, hso⟩
        have HSV := Lib.hid hsv
        have HSL := Lib.hid hsl
        have HSO := Lib.hid hso
        obtain ⟨sa0, sc0, rfl⟩ := own_form hsv
        clear hsv hsl hso
        refine TS.go HK1.out growsR (fun hS => ?_)
        clear HK1 K1
        (try simp only [nS])
        refine TS.takeV (i := 7) (v := ?_) rfl (by kernel_rfl) (by kernel_rfl) (by kernel_rfl) (by decide) (fun _ _ _ h => h) rfl hS ?_ ?_
        rotate_left
        focus
          rintro wS ⟨gbS, gdS, rfl⟩
          go_simp
          rfl
        (try simp only [nS])
        refine TS.takeV (i := 8) (v := ?_) rfl (by kernel_rfl) (by kernel_rfl) (by kernel_rfl) (by decide) (fun _ _ _ h => h) rfl hS ?_ ?_
        rotate_left
        focus
          rintro wS ⟨gbS, gdS, rfl⟩
          go_simp
          rfl
        (try simp only [nS])
        refine TS.takeV (i := 9) (v := ?_) rfl (by kernel_rfl) (by kernel_rfl) (by kernel_rfl) (by decide) (fun _ _ _ h => h) rfl hS ?_ ?_
        rotate_left
        focus
          rintro wS ⟨gbS, gdS, rfl⟩
          go_simp
          rfl
        (try simp only [nS])
        skip
        refine TS.one (i := 11) (by kernel_rfl) rfl (fun K1 hK1 => ?_)
        have HK1 := Lib.hid hK1
        clear hK1 hS
        dsimp only [List.getElem_toArray, List.getElem_cons_succ, List.getElem_cons_zero]
        go_simp
        refine TS.go HK1.out growsR (fun hS => ?_)
        clear HK1 K1
        (try simp only [nS])
        refine TS.one (i := 12) (by kernel_rfl) rfl (fun K1 hK1 => ?_)
        go_simp
        refine hK1 _ _ (fun h => absurd (by decide) h) (TS.done (by kernel_rfl) ?_)
        clear hK1 K1 hS
        (try simp only [nS])
        go_wp2_with fail
        go_meet
        exact ⟨_, .slice sa0 st.length sc0, rfl, by simp <;> omega, by simp [go_sem], growsR, (own_above (h := own_mg HSV.out) (by simp) (by simp) (by simp <;> omega)), Lib.hid ⟨HSL.out, HSO.out⟩⟩
    · have HK1 := Lib.hid hK1
      clear hK1 hS
      dsimp only [List.getElem_toArray, List.getElem_cons_succ, List.getElem_cons_zero]
      go_simp
      refine TS.go HK1.out growsR (fun hS => ?_)
      clear HK1 K1
      (try simp only [nS])
      refine TS.one (i := 1) (by kernel_rfl) rfl (fun K1 hK1 => ?_)
      have HK1 := Lib.hid hK1
      clear hK1 hS
      dsimp only [List.getElem_toArray, List.getElem_cons_succ, List.getElem_cons_zero]
      go_simp
      go_at_call 5
      refine (HOF.out _ growsR).mono ?_
      rintro e' w' ⟨v3, v4, v5, v6, v7, rfl, ⟨bs, dr, rfl⟩, hver⟩
      rw [HVV.out] at hver
      have HVC := Lib.hid (hver.verX ⟨hln.1, hln.2.1, by omega, hln.2.2.2.1, hln.2.2.2.2⟩)
      clear hver
      obtain ⟨-, a3, k3, rfl, -⟩ := HVC.out.cr
      obtain ⟨-, a4, k4, rfl, -⟩ := HVC.out.se
      obtain ⟨-, a5, k5, rfl, -⟩ := HVC.out.le
      obtain ⟨-, a6, k6, rfl, -⟩ := HVC.out.gr
      obtain ⟨-, a7, k7, rfl, -⟩ := HVC.out.re
      simp only [List.length_map] at HVC
      refine TS.go HK1.out growsR (fun hS => ?_)
      clear HK1 K1
      (try simp only [nS])
      refine TS.takeC (i := 3) (v := (.int .i64 k)) (fn := 6) (args := #[.int .i64 bn, .int .i64 4]) rfl (by kernel_rfl) (by kernel_rfl) (by kernel_rfl) (by decide) (fun _ _ _ h => h) rfl hS ?_ ?_ ?_
      focus
        rintro wS ⟨gbS, gdS, rfl⟩
        go_simp
      focus exact fun wS _ => (HPK.out wS)
      (try simp only [nS])
      refine TS.one (i := 5) (by kernel_rfl) rfl (fun K1 hK1 => ?_)
      have HK1 := Lib.hid hK1
      clear hK1 hS
      dsimp only [List.getElem_toArray, List.getElem_cons_succ, List.getElem_cons_zero]
      go_simp
      go_at_call 7
      refine (HW.out _ growsR).mono ?_
      rintro e' w' ⟨yv, rfl, ⟨bA, dA, rfl⟩, hyv⟩
      have HYV := Lib.hid hyv
      obtain ⟨-, ya1, yc1, rfl, -⟩ := hyv
      refine TS.go HK1.out growsR (fun hS => ?_)
      clear HK1 K1
      (try simp only [nS])
      refine TS.one (i := 6) (by kernel_rfl) rfl (fun K1 hK1 => ?_)
      have HK1 := Lib.hid hK1
      clear hK1 hS
      dsimp only [List.getElem_toArray, List.getElem_cons_succ, List.getElem_cons_zero]
      go_simp
      go_at_call 4
      refine (HB.out _ growsR _ _ _ _ _ _ _ _ _ _ _ _ (HVC.out.grows growsR) (HYV.out.grows growsR)).mono ?_
      rintro e' w' ⟨sv, rfl, ⟨bC, dC, rfl⟩, hsv, hsl, hso⟩
      have HSV := Lib.hid hsv
      have HSL := Lib.hid hsl
      have HSO := Lib.hid hso
      obtain ⟨sa0, sc0, rfl⟩ := own_form hsv
      clear hsv hsl hso
      refine TS.go HK1.out growsR (fun hS => ?_)
      clear HK1 K1
      (try simp only [nS])
      refine TS.takeV (i := 7) (v := ?_) rfl (by kernel_rfl) (by kernel_rfl) (by kernel_rfl) (by decide) (fun _ _ _ h => h) rfl hS ?_ ?_
      rotate_left
      focus
        rintro wS ⟨gbS, gdS, rfl⟩
        go_simp
        rfl
      (try simp only [nS])
      refine TS.takeV (i := 8) (v := ?_) rfl (by kernel_rfl) (by kernel_rfl) (by kernel_rfl) (by decide) (fun _ _ _ h => h) rfl hS ?_ ?_
      rotate_left
      focus
        rintro wS ⟨gbS, gdS, rfl⟩
        go_simp
        rfl
      (try simp only [nS])
      refine TS.takeV (i := 9) (v := ?_) rfl (by kernel_rfl) (by kernel_rfl) (by kernel_rfl) (by decide) (fun _ _ _ h => h) rfl hS ?_ ?_
      rotate_left
      focus
        rintro wS ⟨gbS, gdS, rfl⟩
        go_simp
        rfl
      (try simp only [nS])
      skip
      refine TS.one (i := 11) (by kernel_rfl) rfl (fun K1 hK1 => ?_)
      have HK1 := Lib.hid hK1
      clear hK1 hS
      dsimp only [List.getElem_toArray, List.getElem_cons_succ, List.getElem_cons_zero]
      go_simp
      refine TS.go HK1.out growsR (fun hS => ?_)
      clear HK1 K1
      (try simp only [nS])
      refine TS.one (i := 12) (by kernel_rfl) rfl (fun K1 hK1 => ?_)
      go_simp
      refine hK1 _ _ (fun h => absurd (by decide) h) (TS.done (by kernel_rfl) ?_)
      clear hK1 K1 hS
      (try simp only [nS])
      go_wp2_with fail
      go_meet
      exact ⟨_, .slice sa0 st.length sc0, rfl, by simp <;> omega, by simp [go_sem], growsR, (own_above (h := own_mg3 HSV.out) (by simp) (by simp) (by simp <;> omega)), Lib.hid ⟨HSL.out, HSO.out⟩⟩
  obtain ⟨B, sv, rfl, hB, hsc, hG, hown, HSS⟩ := hcut
  have HG := Lib.hid hG
  have HO := Lib.hid hown
  obtain ⟨sa, sc, rfl⟩ := own_form hown
  clear hG hown HW HOF HB HPK
  have hst40 := HSS.out.1
  have HSMA := Lib.hid (StpSm.app (a := st) (b := extL zs) (fun p hp => ⟨HSM.out p hp, HSS.out.2 p hp⟩) (ext_sm zs))
  obtain ⟨i0, hi, hz0', hz1', hz2'⟩ := info_parts infoS
  go_wp2_with fail
  go_loopw [11, 12] (fun v11 v12 wr => ∃ (k : Nat) (vb : Value), vb = v11 ∧ k ≤ zs.length ∧ v12 = .int .i64 k ∧ w.Grows wr ∧ wr.ownsRow w.heap.size 54 5 vb (st.length + k) (stpL (st ++ extL (zs.take k)))) (fun _ v12 _ => zs.length - (intOf v12).toNat)
  case atStart => exact ⟨0, _, rfl, by omega, rfl, HG.out, by have := HO.out; simpa [extL] using this⟩
  case round =>
    obtain ⟨k, vb, rfl, hk, rfl, hG, hown⟩ := hrel
    have HGR := Lib.hid hG
    have HOR := Lib.hid hown
    have hsW := hG.below.size
    have h30 := H30.out
    by_cases hlt : k < zs.length
    · rcases HLC.out with h0 | ⟨b, off, rfl, hbw, hx⟩
      · omega
      have x0 : wr.cell? ⟨b, off + k, none⟩ = some (.int .i64 (zs.getD k 0)) := (hG.below.cell (p := ⟨b, off + k, none⟩) hbw).trans (hx k hlt)
      have hbr : b < wr.heap.size := by omega
      have d1 : (k : Int) < (zs.length : Int) := by omega
      have HNX := Lib.hid (ext_stp st zs k hlt)
      have HKL := Lib.hid (And.intro hlt h30)
      have hz64 : I64 (zs.getD k 0) := H64.out _ (by
        rw [List.getD_eq_getElem?_getD, List.getElem?_eq_getElem hlt]; exact List.getElem_mem _)
      clear hx hG hown h30
      generalize zs.getD k 0 = z at *
      have HVA := Lib.hid (fun wS => value_any z (stepD z) wS hz64)
      unfold valA at HVA
      have hs : 1 + pick (z.tdiv 2) 4 = stepD z := rfl
      have hsb := stepD_bd z
      have hw1 : IntKind.i64.wrap (z.tdiv 2) = z.tdiv 2 := IntWalk.i64_in _ (by have := tdiv_i64 hz64 (show (2 : Int) ≤ 2 by omega); omega)
      have hw2 : IntKind.i64.wrap (1 + pick (z.tdiv 2) 4) = 1 + pick (z.tdiv 2) 4 := IntWalk.i64_in _ (by rw [hs]; omega)
      have hw3 : IntKind.i64.wrap (stepD z) = stepD z := IntWalk.i64_in _ (by omega)
      clear hz64
      go_wp2_with fail
      refine TS.begin [15, 16] (World.Grows _) (by kernel_rfl) (by kernel_rfl) grows_drew0 (fun hS => ?_)
      refine TS.takeV (i := 0) (v := ?_) rfl (by kernel_rfl) (by kernel_rfl) (by kernel_rfl) (by decide) (fun _ _ _ h => h) rfl hS ?_ ?_
      rotate_left
      focus
        rintro wS ⟨gbS, gdS, rfl⟩
        go_simp
        rfl
      (try simp only [nS])
      refine TS.takeV (i := 1) (v := ?_) rfl (by kernel_rfl) (by kernel_rfl) (by kernel_rfl) (by decide) (fun _ _ _ h => h) rfl hS ?_ ?_
      rotate_left
      focus
        rintro wS ⟨gbS, gdS, rfl⟩
        go_simp
        rfl
      (try simp only [nS])
      refine TS.takeV (i := 2) (v := ?_) rfl (by kernel_rfl) (by kernel_rfl) (by kernel_rfl) (by decide) (fun _ _ _ h => h) rfl hS ?_ ?_
      rotate_left
      focus
        rintro wS ⟨gbS, gdS, rfl⟩
        go_simp
        rfl
      (try simp only [nS])
      refine TS.takeV (i := 3) (v := ?_) rfl (by kernel_rfl) (by kernel_rfl) (by kernel_rfl) (by decide) (fun _ _ _ h => h) rfl hS ?_ ?_
      rotate_left
      focus
        rintro wS ⟨gbS, gdS, rfl⟩
        go_simp
        rfl
      (try simp only [nS])
      refine TS.takeV (i := 4) (v := ?_) rfl (by kernel_rfl) (by kernel_rfl) (by kernel_rfl) (by decide) (fun _ _ _ h => h) rfl hS ?_ ?_
      rotate_left
      focus
        rintro wS ⟨gbS, gdS, rfl⟩
        go_simp
        rfl
      (try simp only [nS])
      refine TS.takeV (i := 5) (v := ?_) rfl (by kernel_rfl) (by kernel_rfl) (by kernel_rfl) (by decide) (fun _ _ _ h => h) rfl hS ?_ ?_
      rotate_left
      focus
        rintro wS ⟨gbS, gdS, rfl⟩
        go_simp
        rfl
      (try simp only [nS])
      refine TS.takeV (i := 6) (v := ?_) rfl (by kernel_rfl) (by kernel_rfl) (by kernel_rfl) (by decide) (fun _ _ _ h => h) rfl hS ?_ ?_
      rotate_left
      focus
        rintro wS ⟨gbS, gdS, rfl⟩
        go_simp
        rfl
      (try simp only [nS])
      refine TS.takeV (i := 7) (v := ?_) rfl (by kernel_rfl) (by kernel_rfl) (by kernel_rfl) (by decide) (fun _ _ _ h => h) rfl hS ?_ ?_
      rotate_left
      focus
        rintro wS ⟨gbS, gdS, rfl⟩
        go_simp
        rfl
      (try simp only [nS])
      refine TS.takeV (i := 8) (v := ?_) rfl (by kernel_rfl) (by kernel_rfl) (by kernel_rfl) (by decide) (fun _ _ _ h => h) rfl hS ?_ ?_
      rotate_left
      focus
        rintro wS ⟨gbS, gdS, rfl⟩
        go_simp
        rfl
      (try simp only [nS])
      refine TS.takeV (i := 9) (v := ?_) rfl (by kernel_rfl) (by kernel_rfl) (by kernel_rfl) (by decide) (fun _ _ _ h => h) rfl hS ?_ ?_
      rotate_left
      focus
        rintro wS ⟨gbS, gdS, rfl⟩
        go_simp
        rfl
      (try simp only [nS])
      (try simp only [hw1])
      refine TS.takeC (i := 10) (v := (.int .i64 (pick (z.tdiv 2) 4))) (fn := 6) (args := #[.int .i64 (z.tdiv 2), .int .i64 4]) rfl (by kernel_rfl) (by kernel_rfl) (by kernel_rfl) (by decide) (fun _ _ _ h => h) rfl hS ?_ ?_ ?_
      focus
        rintro wS ⟨gbS, gdS, rfl⟩
        go_simp
      focus exact fun wS _ => (Pick_any _ _ wS (by omega))
      (try simp only [nS])
      refine TS.takeV (i := 11) (v := ?_) rfl (by kernel_rfl) (by kernel_rfl) (by kernel_rfl) (by decide) (fun _ _ _ h => h) rfl hS ?_ ?_
      rotate_left
      focus
        rintro wS ⟨gbS, gdS, rfl⟩
        go_simp
        rfl
      (try simp only [nS])
      (try simp only [hw2])
      (try simp only [hs])
      (try simp only [hw3])
      refine TS.one (i := 12) (by decide +kernel) rfl (fun K1 hK1 => ?_)
      have HK1 := Lib.hid hK1
      clear hK1 hS
      dsimp only [List.getElem_toArray, List.getElem_cons_succ, List.getElem_cons_zero]
      go_simp
      go_at_call 8
      refine (HVA.out _).mono ?_
      rintro e' wA ⟨rfl, bA, dA, rfl⟩
      refine TS.go HK1.out growsA (fun hS => ?_)
      clear HK1 K1
      (try simp only [nS])
      refine TS.takeV (i := 13) (v := ?_) rfl (by kernel_rfl) (by kernel_rfl) (by kernel_rfl) (by decide) (fun _ _ _ h => h) rfl hS ?_ ?_
      rotate_left
      focus
        rintro wS ⟨gbS, gdS, rfl⟩
        go_simp
        rfl
      (try simp only [nS])
      refine TS.one (i := 14) (by decide +kernel) rfl (fun K1 hK1 => ?_)
      have HK1 := Lib.hid hK1
      clear hK1 hS
      dsimp only [List.getElem_toArray, List.getElem_cons_succ, List.getElem_cons_zero]
      go_simp
      refine TS.go HK1.out (by first | exact grows_drew | exact .of_below (by (exact belB))) (fun hS => ?_)
      clear HK1 K1
      (try simp only [nS])
      refine TS.one (i := 15) (by decide +kernel) rfl (fun K1 hK1 => ?_)
      refine step_append_ownY rfl _ _ 30 rfl w.heap.size 54 i0 _ 5 48 Tryd.underlying30 hi hz0' hz1' hz2' rfl (by decide) vb (st.length + k) _ rfl (own_grow HOR.out growsA) ⟨wr.heap.size + bA.size, 0, none⟩ 1 1 [.string ⟨#[120]⟩, .int .i64 (stepD z), .bool (valP z (stepD z)).yes, .int .i64 (valP z (stepD z)).n, .int .i64 (valP z (stepD z)).d] rfl rfl (news_cells _ [.string ⟨#[120]⟩, .int .i64 (stepD z), .bool (valP z (stepD z)).yes, .int .i64 (valP z (stepD z)).n, .int .i64 (valP z (stepD z)).d] _ _ (by simp)) (by intro u hu; simp at hu; rcases hu with rfl | rfl | rfl | rfl | rfl <;> rfl) (by unfold maxLen; omega) (by omega) (by simp; omega) ?_
      intro v2 w2 hown2 hgrow2
      have hB2 : w.Grows w2 := World.Grows.grown (W := w) (World.Grows.trans' HGR.out growsA) hgrow2 (fun k hk => (HOR.out.lt k hk).1)
      have HB2 := Lib.hid hB2
      have HO2 := Lib.hid hown2
      refine hK1 _ _ (fun h => absurd (by decide) h) ?_
      clear hK1 K1 hown2 hgrow2 hB2
      (try simp only [nS])
      refine TS.one (i := 16) (by kernel_rfl) rfl (fun K1 hK1 => ?_)
      go_simp
      refine hK1 _ _ (fun h => absurd (by decide) h) (TS.done (by kernel_rfl) ?_)
      clear hK1 K1 hS
      (try simp only [nS])
      go_wp2_with fail
      go_roundw
      case rel => exact ⟨k + 1, _, rfl, HKL.out.1, by go_num, HB2.out, by rw [HNX.out]; exact HO2.out⟩
      case measure => simp [intOf]; have := HKL.out; omega
    · obtain rfl : k = zs.length := by omega
      rw [List.take_length, ← ext_len' st zs] at hown
      have hlen : (st ++ extL zs).length ≤ 1000 := by rw [ext_len']; omega
      have HSA := Lib.hid (StpAt.of_own (hown) hlen)
      have HXA := Lib.hid (fun w' (hg : wr.Grows w') => Explain2_any (st ++ extL zs) vb w' (HSA.out.grows hg) HSMA.out (HT.out.grows (World.Grows.trans' HGR.out hg)))
      have HXB := Lib.hid (fun w' (hg : wr.Grows w') => Explain8_any (st ++ extL zs) vb w' (HSA.out.grows hg) HSMA.out (HT.out.grows (World.Grows.trans' HGR.out hg)))
      unfold LnP at HXA HXB
      have hL1000 : ((st ++ extL zs).map lineS).length ≤ 1000 := by rw [List.length_map]; exact hlen
      generalize (st ++ extL zs).map lineS = L at *
      clear hG hown hlen hk hlt h30 HO HOR
      go_wp2_with (first
        | (go_at_call 9; refine (HXA.out _ growsR).mono ?_; rintro e' w' ⟨ve, rfl, ⟨bsE, dE, rfl⟩, hre⟩; have HRA := Lib.hid (ownsRow_base (base' := wr.heap.size) hre (by simp; try omega)); obtain ⟨ea, ec, rfl⟩ := str_form hre; clear hre)
        | (go_at_call 10; refine (HXB.out _ growsR).mono ?_; rintro e' w' ⟨vf, rfl, ⟨bsF, dF, rfl⟩, hrf⟩; have HRB := Lib.hid (ownsRow_base (base' := wr.heap.size) hrf (by simp; try omega)); obtain ⟨fa, fc, rfl⟩ := str_form hrf; clear hrf)
        | (go_at_call 11; refine (awake_any _).mono ?_; rintro e' w' ⟨rfl, bD, dD, rfl⟩))
      go_loopw [16] (fun v16 wq => ∃ k : Nat, k ≤ L.length ∧ v16 = .int .i64 k ∧ StrRow wr.heap.size wq (.slice ea L.length ec) L ∧ StrRow wr.heap.size wq (.slice fa L.length fc) L ∧ wr.Grows wq) (fun v16 _ => L.length - (intOf v16).toNat)
      case atStart => exact ⟨0, by omega, rfl, StrRow.grows HRA.out growsR, StrRow.grows HRB.out growsR, growsR⟩
      case round =>
        obtain ⟨k, hk, rfl, hra, hrb, hgq⟩ := hrel
        have HRA2 := Lib.hid hra
        have HRB2 := Lib.hid hrb
        have HGQ := Lib.hid hgq
        by_cases hlt : k < L.length
        · obtain ⟨b1, rfl, -, hb1, q1⟩ := str_cell hra hlt
          obtain ⟨b2, rfl, -, hb2, q2⟩ := str_cell hrb hlt
          have d1 : (k : Int) < (L.length : Int) := by omega
          have HLT := Lib.hid hlt
          generalize L.getD k ByteArray.empty = s at *
          clear hra hrb hgq hlt hk
          go_wp2_with fail
          go_region
          go_wp2_with fail
          go_roundw
          case rel => exact ⟨k + 1, HLT.out, by go_num, StrRow.grows HRA2.out growsA, StrRow.grows HRB2.out growsA, World.Grows.trans' HGQ.out growsA⟩
          case measure => simp [intOf]; have := HLT.out; omega
        · obtain rfl : k = L.length := by omega
          clear hra hrb hgq hlt hk
          go_wp2_with fail
          go_returns
          exact ⟨rfl, World.Grows.trans' HGR.out HGQ.out⟩
theorem xp_any (hOf : Hid OfSaid) (cs : Array Value) (R : RawV) (P : VwR) (vd vy vl : Value) (zs : List Int) (bn : Int) (w : World) (hR : RawAt w cs.toList R) (hd : IntsAt w vd P.days) (hy : IntsAt w vy P.years) (hl : IntsAt w vl zs) (ht : Tab w) :
    Calls Tryd.prog 3 #[.agg cs, .agg #[.int .i64 P.age, .int .i64 P.year, .int .i64 P.children, .int .i64 P.base, .int .i64 P.den, vd, vy], .int .i64 bn, vl] w fun e w' => e = .returned (.bool true) ∧ w.Grows w' :=
  xp_core hOf cs R P vd vy vl zs bn w hR hd hy hl ht _ (Lib.hid rfl) (of_sm R) (of_lens R) _ (Lib.hid rfl) (viewX_rng P) _ (Lib.hid rfl)
end Go.Proofs.YthionhbjmheimaaDoor
