/- StatuteIndexOrder: the plain law and the walk. -/
import Derived.Test.YtldelkkeimlfcaaAwake
import Derived.Test.YtldelkkeimlfcaaSerLaw
set_option linter.all false
namespace Go.Proofs.Ytldelkkeimlfcaa
open Go.RowKit
/-- Indexing in two steps never gives more than in one. -/
theorem two_steps (n mn md yn yd rn rd : Nat) (h1 : 0 < mn) (h3 : 0 < yn) (h5 : 0 < rd) :
    (n * (mn * yd) / (md * yn)) * (rn * md) / (rd * mn) ≤ n * (rn * yd) / (rd * yn) := by
  rw [Nat.le_div_iff_mul_le (Nat.mul_pos h5 h3)]
  generalize hD : n * (mn * yd) / (md * yn) = D
  generalize hI : D * (rn * md) / (rd * mn) = I
  have hd : D * (md * yn) ≤ n * (mn * yd) := by rw [← hD]; exact Nat.div_mul_le_self _ _
  have hi : I * (rd * mn) ≤ D * (rn * md) := by rw [← hI]; exact Nat.div_mul_le_self _ _
  have h : I * (rd * yn) * mn ≤ n * (rn * yd) * mn := by
    calc I * (rd * yn) * mn = I * (rd * mn) * yn := by simp only [Nat.mul_assoc, Nat.mul_comm, Nat.mul_left_comm]
      _ ≤ D * (rn * md) * yn := Nat.mul_le_mul_right _ hi
      _ = D * (md * yn) * rn := by simp only [Nat.mul_assoc, Nat.mul_comm, Nat.mul_left_comm]
      _ ≤ n * (mn * yd) * rn := Nat.mul_le_mul_right _ hd
      _ = n * (rn * yd) * mn := by simp only [Nat.mul_assoc, Nat.mul_comm, Nat.mul_left_comm]
  exact Nat.le_of_mul_le_mul_right h h1
theorem small (n tn td fn fd B : Nat) (hn : n ≤ B) (h1 : 0 < td) (h2 : 0 < fn) (h3 : tn ≤ 4 * td) (h4 : fd ≤ 1000 * fn) : n * (tn * fd) / (td * fn) ≤ B * 4000 := by
  rw [Nat.div_le_iff_le_mul_add_pred (Nat.mul_pos h1 h2)]
  have : n * (tn * fd) ≤ B * (4 * td * (1000 * fn)) := Nat.mul_le_mul hn (Nat.mul_le_mul h3 h4)
  rw [Nat.mul_mul_mul_comm] at this
  have e : B * (4 * 1000 * (td * fn)) = td * fn * (B * 4000) := by
    generalize td * fn = q
    rw [Nat.mul_comm (4 * 1000) q, ← Nat.mul_assoc, Nat.mul_comm B q, Nat.mul_assoc]
  omega
theorem idx_val {N T TD FN FD : Nat} (h1 : usableB (T : Int) TD = true) (h2 : usableB (FN : Int) FD = true) (hN : N ≤ 1000000000000) (hq : N * (T * FD) / (TD * FN) ≤ 1000000000000) :
    idxN (N : Int) T TD FN FD = ((N * (T * FD) / (TD * FN) : Nat) : Int) ∧ idxE (N : Int) T TD FN FD = 0 := by
  have hok : idxOk (N : Int) T TD FN FD = true := by
    unfold idxOk
    rw [h1, h2]
    simp; omega
  have hv := idx_yes hok (by rw [idxQ_nat]; omega)
  rw [hv.1, hv.2, idxQ_nat]
  exact ⟨rfl, rfl⟩
theorem nat_of {x : Int} (h : 0 < x) : ∃ X : Nat, x = X ∧ 0 < X := ⟨x.toNat, by omega, by omega⟩
/-- The five answers. -/
theorem ord_vals (n m : Int) (y r d : Int × Int) (hn : 0 ≤ n ∧ n < 1000000) (hm : 0 ≤ m ∧ m < 1000000) (hy : SerOk y) (hr : SerOk r) (hd : SerOk d) : ∃ a b e i : Int,
    (idxN n r.1 r.2 y.1 y.2 = a ∧ idxE n r.1 r.2 y.1 y.2 = 0) ∧ (idxN m r.1 r.2 y.1 y.2 = b ∧ idxE m r.1 r.2 y.1 y.2 = 0) ∧ (idxN n y.1 y.2 y.1 y.2 = n ∧ idxE n y.1 y.2 y.1 y.2 = 0) ∧
    (idxN n d.1 d.2 y.1 y.2 = e ∧ idxE n d.1 d.2 y.1 y.2 = 0) ∧ (idxN e r.1 r.2 d.1 d.2 = i ∧ idxE e r.1 r.2 d.1 d.2 = 0) ∧ (n ≤ m → a ≤ b) ∧ (m ≤ n → b ≤ a) ∧ i ≤ a ∧ (0 ≤ a ∧ a ≤ 1000000000000) ∧ (0 ≤ b ∧ b ≤ 1000000000000) ∧ (0 ≤ e ∧ e ≤ 1000000000000) ∧ (0 ≤ i ∧ i ≤ 1000000000000) := by
  obtain ⟨y1, y2⟩ := y
  obtain ⟨r1, r2⟩ := r
  obtain ⟨d1, d2⟩ := d
  obtain ⟨uy, fy, gy⟩ := hy
  obtain ⟨ur, fr, gr⟩ := hr
  obtain ⟨ud, fd, gd⟩ := hd
  simp only at *
  have by_ := usableB_bd uy
  have br := usableB_bd ur
  have bd := usableB_bd ud
  obtain ⟨YN, rfl, yp⟩ := nat_of by_.1
  obtain ⟨YD, rfl, yq⟩ := nat_of (show 0 < y2 by omega)
  obtain ⟨RN, rfl, rp⟩ := nat_of br.1
  obtain ⟨RD, rfl, rq⟩ := nat_of (show 0 < r2 by omega)
  obtain ⟨DN, rfl, dp⟩ := nat_of bd.1
  obtain ⟨DD, rfl, dq⟩ := nat_of (show 0 < d2 by omega)
  obtain ⟨N, rfl⟩ := Int.eq_ofNat_of_zero_le hn.1
  obtain ⟨M, rfl⟩ := Int.eq_ofNat_of_zero_le hm.1
  have sa := small N RN RD YN YD 1000000 (by omega) rq yp (by omega) (by omega)
  have sb := small M RN RD YN YD 1000000 (by omega) rq yp (by omega) (by omega)
  have se := small N DN DD YN YD 1000000 (by omega) dq yp (by omega) (by omega)
  have si := two_steps N DN DD YN YD RN RD dp yp rq
  have eA := idx_val (N := N) ur uy (by omega) (by omega)
  have eB := idx_val (N := M) ur uy (by omega) (by omega)
  have hc : N * (YN * YD) / (YD * YN) = N := by rw [Nat.mul_comm YD YN]; exact Nat.mul_div_cancel _ (Nat.mul_pos yp yq)
  have eC := idx_val (N := N) uy uy (by omega) (by omega)
  rw [hc] at eC
  have eE := idx_val (N := N) ud uy (by omega) (by omega)
  have eI := idx_val (N := N * (DN * YD) / (DD * YN)) ur ud (by omega) (by omega)
  refine ⟨_, _, _, _, eA, eB, eC, eE, eI, ?_⟩
  clear eA eB eC eE eI
  have m1 := fun h : N ≤ M => Nat.div_le_div_right (c := RD * YN) (Nat.mul_le_mul_right (RN * YD) h)
  have m2 := fun h : M ≤ N => Nat.div_le_div_right (c := RD * YN) (Nat.mul_le_mul_right (RN * YD) h)
  generalize N * (RN * YD) / (RD * YN) = A at *
  generalize M * (RN * YD) / (RD * YN) = B at *
  generalize N * (DN * YD) / (DD * YN) = E at *
  generalize E * (RN * DD) / (RD * DN) = I at *
  refine ⟨fun h => ?_, fun h => ?_, by omega, by omega, by omega, by omega, by omega⟩
  · have := m1 (by omega); omega
  · have := m2 (by omega); omega
/-- The five calls of Indexed. -/
def IdxTo (c0 c1 c2 c3 c4 c5 c6 c7 : Value) (n : Nat) (y nu de : Nat → Int) (N Y F A : Int) : Prop :=
  ∀ w, SeriesAt w c4 n y nu de → Calls Try.prog 14 #[.agg #[c0, c1, c2, c3, c4, c5, c6, c7], .int .i64 N, .int .i64 Y, .int .i64 F] w fun e w' => e = .returned (.tuple #[.int .i64 A, .int .i64 0]) ∧ w.Grows w'
theorem idxTo_of (c0 c1 c2 c3 c4 c5 c6 c7 : Value) (n : Nat) (y nu de : Nat → Int) (N Y F A : Int) (h : ∀ i, i < n → SerOk (nu i, de i)) (hA : idxN N (facN y nu F n) (facN y de F n) (facN y nu Y n) (facN y de Y n) = A ∧ idxE N (facN y nu F n) (facN y de F n) (facN y nu Y n) (facN y de Y n) = 0) :
    IdxTo c0 c1 c2 c3 c4 c5 c6 c7 n y nu de N Y F A := by
  intro w hS
  have := Indexed2_any c0 c1 c2 c3 c4 c5 c6 c7 n y nu de N Y F w hS (fun i hi => by have := (h i hi).rng; omega) (fun i hi => by have := (h i hi).rng; omega)
  rw [hA.1, hA.2] at this
  exact this
theorem ord_calls (c0 c1 c2 c3 c4 c5 c6 c7 : Value) (k : Nat) (y nu de : Nat → Int) (n m Y D F : Int) (hn : 0 ≤ n ∧ n < 1000000) (hm : 0 ≤ m ∧ m < 1000000) (h : ∀ i, i < k → SerOk (nu i, de i)) : ∃ a b e i : Int,
    IdxTo c0 c1 c2 c3 c4 c5 c6 c7 k y nu de n Y F a ∧ IdxTo c0 c1 c2 c3 c4 c5 c6 c7 k y nu de m Y F b ∧ IdxTo c0 c1 c2 c3 c4 c5 c6 c7 k y nu de n Y Y n ∧ IdxTo c0 c1 c2 c3 c4 c5 c6 c7 k y nu de n Y D e ∧ IdxTo c0 c1 c2 c3 c4 c5 c6 c7 k y nu de e D F i ∧
    (n ≤ m → a ≤ b) ∧ (m ≤ n → b ≤ a) ∧ i ≤ a := by
  obtain ⟨a, b, e, i, h1, h2, h3, h4, h5, h6, h7, h8, -⟩ := ord_vals n m _ _ _ hn hm (facOk h Y) (facOk h F) (facOk h D)
  exact ⟨a, b, e, i, idxTo_of _ _ _ _ _ _ _ _ _ _ _ _ _ _ _ _ h h1, idxTo_of _ _ _ _ _ _ _ _ _ _ _ _ _ _ _ _ h h2, idxTo_of _ _ _ _ _ _ _ _ _ _ _ _ _ _ _ _ h h3, idxTo_of _ _ _ _ _ _ _ _ _ _ _ _ _ _ _ _ h h4, idxTo_of _ _ _ _ _ _ _ _ _ _ _ _ _ _ _ _ h h5, h6, h7, h8⟩
set_option maxHeartbeats 4000000 in
theorem ord_any (hOf : Hid OfSaid) (R : RawV) (cs : Array Value) (N M Y D F : Int) (w : World) (hR : RawAt w cs.toList R) :
    Calls Try.prog 4 #[.agg cs, .int .i64 N, .int .i64 M, .int .i64 Y, .int .i64 D, .int .i64 F] w fun e w' => e = .returned (.bool true) ∧ w.Grows w' := by
  have HR := Lib.hid hR
  obtain ⟨-, -, -, -, vc, vs, vl, vi, vp, vu, he, -⟩ := hR
  obtain ⟨l⟩ := cs
  simp only at he
  subst he
  obtain ⟨hp1, hp2⟩ := pick_bd N 1000000 (by omega)
  obtain ⟨hp3, hp4⟩ := pick_bd M 1000000 (by omega)
  obtain ⟨hp5, hp6⟩ := pick_bd Y 200 (by omega)
  obtain ⟨hp7, hp8⟩ := pick_bd D 200 (by omega)
  obtain ⟨hp9, hp10⟩ := pick_bd F 200 (by omega)
  by_cases h1 : pick N 1000000 < pick M 1000000
  · have h2 : ¬ pick M 1000000 < pick N 1000000 := by omega
    go_enter Try.func4, Try.ntmps4
    go_wp2_with fail
    refine (hOf.out R _ _ (HR.out.below (by (repeat' (first | (with_reducible exact Below.refl _ _) | (with_reducible assumption) | (with_reducible refine Below.grow ?_ ?_ _ _) | (with_reducible refine Below.alloc ?_ ?_ _) | (with_reducible refine Below.drewN ?_ _) | (with_reducible refine Below.drew ?_) | (with_reducible refine Below.setCell ?_ ?_ _) | go_size))))).mono ?_
    rintro e w' ⟨v3, v4, v5, v6, v7, rfl, ⟨bs, dr, rfl⟩, hver⟩
    have HSE := Lib.hid (hver.series (ofP_se R))
    obtain ⟨⟨a3, n3, k3, rfl⟩, ⟨a4, n4, k4, rfl⟩, ⟨a5, n5, k5, rfl⟩, ⟨a6, n6, k6, rfl⟩, ⟨a7, n7, k7, rfl⟩⟩ := hver.forms
    clear hver
    obtain ⟨a, b, e, i, hx1, hx2, hx3, hx4, hx5, hx6, hx7, hx8⟩ := ord_calls (.int .i64 (ofP R).frm) (.int .i64 (ofP R).mode) (.int .i64 (ofP R).unit) (.slice a3 n3 k3) (.slice a4 n4 k4) (.slice a5 n5 k5) (.slice a6 n6 k6) (.slice a7 n7 k7) (ofP R).se.length (seY (ofP R)) (seN (ofP R)) (seD (ofP R)) (pick N 1000000) (pick M 1000000) (1900 + pick Y 200) (1900 + pick D 200) (1900 + pick F 200) ⟨hp1, hp2⟩ ⟨hp3, hp4⟩ (fun i hi => seOk R i hi)
    have H1 := Lib.hid hx1
    have H2 := Lib.hid hx2
    have H3 := Lib.hid hx3
    have H4 := Lib.hid hx4
    have H5 := Lib.hid hx5
    have g1 := hx6 (by omega)
    clear hx1 hx2 hx3 hx4 hx5 hx6 hx7
    go_wp2_with (first
      | (go_at_call 10; refine (Pick_any _ _ _ (by omega)).mono ?_; rintro e w' ⟨rfl, rfl⟩)
      | (go_at_call 14; refine (H1.out _ (by (repeat' (first | (with_reducible exact HSE.out) | (with_reducible refine SeriesAt.alloc ?_ _) | (with_reducible refine SeriesAt.grow ?_ _ _) | (with_reducible refine SeriesAt.drewN ?_ _))))).mono ?_; clear H1; rintro e w' ⟨rfl, bs1, dr1, rfl⟩)
      | (go_at_call 14; refine (H2.out _ (by (repeat' (first | (with_reducible exact HSE.out) | (with_reducible refine SeriesAt.alloc ?_ _) | (with_reducible refine SeriesAt.grow ?_ _ _) | (with_reducible refine SeriesAt.drewN ?_ _))))).mono ?_; clear H2; rintro e w' ⟨rfl, bs2, dr2, rfl⟩)
      | (go_at_call 14; refine (H3.out _ (by (repeat' (first | (with_reducible exact HSE.out) | (with_reducible refine SeriesAt.alloc ?_ _) | (with_reducible refine SeriesAt.grow ?_ _ _) | (with_reducible refine SeriesAt.drewN ?_ _))))).mono ?_; clear H3; rintro e w' ⟨rfl, bs3, dr3, rfl⟩)
      | (go_at_call 14; refine (H4.out _ (by (repeat' (first | (with_reducible exact HSE.out) | (with_reducible refine SeriesAt.alloc ?_ _) | (with_reducible refine SeriesAt.grow ?_ _ _) | (with_reducible refine SeriesAt.drewN ?_ _))))).mono ?_; clear H4; rintro e w' ⟨rfl, bs4, dr4, rfl⟩)
      | (go_at_call 14; refine (H5.out _ (by (repeat' (first | (with_reducible exact HSE.out) | (with_reducible refine SeriesAt.alloc ?_ _) | (with_reducible refine SeriesAt.grow ?_ _ _) | (with_reducible refine SeriesAt.drewN ?_ _))))).mono ?_; rintro e w' ⟨rfl, bs5, dr5, rfl⟩)
      | (go_at_call 11; refine (awake_any _).mono ?_; rintro e w' ⟨rfl, bs6, dr6, rfl⟩))
    go_returns
    exact ⟨rfl, .of_below (by (repeat' (first | (with_reducible exact Below.refl _ _) | (with_reducible assumption) | (with_reducible refine Below.grow ?_ ?_ _ _) | (with_reducible refine Below.alloc ?_ ?_ _) | (with_reducible refine Below.drewN ?_ _) | (with_reducible refine Below.drew ?_) | (with_reducible refine Below.setCell ?_ ?_ _) | go_size)))⟩
  · by_cases h2 : pick M 1000000 < pick N 1000000
    · go_enter Try.func4, Try.ntmps4
      go_wp2_with fail
      refine (hOf.out R _ _ (HR.out.below (by (repeat' (first | (with_reducible exact Below.refl _ _) | (with_reducible assumption) | (with_reducible refine Below.grow ?_ ?_ _ _) | (with_reducible refine Below.alloc ?_ ?_ _) | (with_reducible refine Below.drewN ?_ _) | (with_reducible refine Below.drew ?_) | (with_reducible refine Below.setCell ?_ ?_ _) | go_size))))).mono ?_
      rintro e w' ⟨v3, v4, v5, v6, v7, rfl, ⟨bs, dr, rfl⟩, hver⟩
      have HSE := Lib.hid (hver.series (ofP_se R))
      obtain ⟨⟨a3, n3, k3, rfl⟩, ⟨a4, n4, k4, rfl⟩, ⟨a5, n5, k5, rfl⟩, ⟨a6, n6, k6, rfl⟩, ⟨a7, n7, k7, rfl⟩⟩ := hver.forms
      clear hver
      obtain ⟨a, b, e, i, hx1, hx2, hx3, hx4, hx5, hx6, hx7, hx8⟩ := ord_calls (.int .i64 (ofP R).frm) (.int .i64 (ofP R).mode) (.int .i64 (ofP R).unit) (.slice a3 n3 k3) (.slice a4 n4 k4) (.slice a5 n5 k5) (.slice a6 n6 k6) (.slice a7 n7 k7) (ofP R).se.length (seY (ofP R)) (seN (ofP R)) (seD (ofP R)) (pick N 1000000) (pick M 1000000) (1900 + pick Y 200) (1900 + pick D 200) (1900 + pick F 200) ⟨hp1, hp2⟩ ⟨hp3, hp4⟩ (fun i hi => seOk R i hi)
      have H1 := Lib.hid hx1
      have H2 := Lib.hid hx2
      have H3 := Lib.hid hx3
      have H4 := Lib.hid hx4
      have H5 := Lib.hid hx5
      have g1 := hx7 (by omega)
      clear hx1 hx2 hx3 hx4 hx5 hx6 hx7
      go_wp2_with (first
        | (go_at_call 10; refine (Pick_any _ _ _ (by omega)).mono ?_; rintro e w' ⟨rfl, rfl⟩)
        | (go_at_call 14; refine (H1.out _ (by (repeat' (first | (with_reducible exact HSE.out) | (with_reducible refine SeriesAt.alloc ?_ _) | (with_reducible refine SeriesAt.grow ?_ _ _) | (with_reducible refine SeriesAt.drewN ?_ _))))).mono ?_; clear H1; rintro e w' ⟨rfl, bs1, dr1, rfl⟩)
        | (go_at_call 14; refine (H2.out _ (by (repeat' (first | (with_reducible exact HSE.out) | (with_reducible refine SeriesAt.alloc ?_ _) | (with_reducible refine SeriesAt.grow ?_ _ _) | (with_reducible refine SeriesAt.drewN ?_ _))))).mono ?_; clear H2; rintro e w' ⟨rfl, bs2, dr2, rfl⟩)
        | (go_at_call 14; refine (H3.out _ (by (repeat' (first | (with_reducible exact HSE.out) | (with_reducible refine SeriesAt.alloc ?_ _) | (with_reducible refine SeriesAt.grow ?_ _ _) | (with_reducible refine SeriesAt.drewN ?_ _))))).mono ?_; clear H3; rintro e w' ⟨rfl, bs3, dr3, rfl⟩)
        | (go_at_call 14; refine (H4.out _ (by (repeat' (first | (with_reducible exact HSE.out) | (with_reducible refine SeriesAt.alloc ?_ _) | (with_reducible refine SeriesAt.grow ?_ _ _) | (with_reducible refine SeriesAt.drewN ?_ _))))).mono ?_; clear H4; rintro e w' ⟨rfl, bs4, dr4, rfl⟩)
        | (go_at_call 14; refine (H5.out _ (by (repeat' (first | (with_reducible exact HSE.out) | (with_reducible refine SeriesAt.alloc ?_ _) | (with_reducible refine SeriesAt.grow ?_ _ _) | (with_reducible refine SeriesAt.drewN ?_ _))))).mono ?_; rintro e w' ⟨rfl, bs5, dr5, rfl⟩)
        | (go_at_call 11; refine (awake_any _).mono ?_; rintro e w' ⟨rfl, bs6, dr6, rfl⟩))
      go_returns
      exact ⟨rfl, .of_below (by (repeat' (first | (with_reducible exact Below.refl _ _) | (with_reducible assumption) | (with_reducible refine Below.grow ?_ ?_ _ _) | (with_reducible refine Below.alloc ?_ ?_ _) | (with_reducible refine Below.drewN ?_ _) | (with_reducible refine Below.drew ?_) | (with_reducible refine Below.setCell ?_ ?_ _) | go_size)))⟩
    · go_enter Try.func4, Try.ntmps4
      go_wp2_with fail
      refine (hOf.out R _ _ (HR.out.below (by (repeat' (first | (with_reducible exact Below.refl _ _) | (with_reducible assumption) | (with_reducible refine Below.grow ?_ ?_ _ _) | (with_reducible refine Below.alloc ?_ ?_ _) | (with_reducible refine Below.drewN ?_ _) | (with_reducible refine Below.drew ?_) | (with_reducible refine Below.setCell ?_ ?_ _) | go_size))))).mono ?_
      rintro e w' ⟨v3, v4, v5, v6, v7, rfl, ⟨bs, dr, rfl⟩, hver⟩
      have HSE := Lib.hid (hver.series (ofP_se R))
      obtain ⟨⟨a3, n3, k3, rfl⟩, ⟨a4, n4, k4, rfl⟩, ⟨a5, n5, k5, rfl⟩, ⟨a6, n6, k6, rfl⟩, ⟨a7, n7, k7, rfl⟩⟩ := hver.forms
      clear hver
      obtain ⟨a, b, e, i, hx1, hx2, hx3, hx4, hx5, hx6, hx7, hx8⟩ := ord_calls (.int .i64 (ofP R).frm) (.int .i64 (ofP R).mode) (.int .i64 (ofP R).unit) (.slice a3 n3 k3) (.slice a4 n4 k4) (.slice a5 n5 k5) (.slice a6 n6 k6) (.slice a7 n7 k7) (ofP R).se.length (seY (ofP R)) (seN (ofP R)) (seD (ofP R)) (pick N 1000000) (pick M 1000000) (1900 + pick Y 200) (1900 + pick D 200) (1900 + pick F 200) ⟨hp1, hp2⟩ ⟨hp3, hp4⟩ (fun i hi => seOk R i hi)
      have H1 := Lib.hid hx1
      have H2 := Lib.hid hx2
      have H3 := Lib.hid hx3
      have H4 := Lib.hid hx4
      have H5 := Lib.hid hx5
      have g1 := hx6 (by omega); have g2 := hx7 (by omega)
      clear hx1 hx2 hx3 hx4 hx5 hx6 hx7
      go_wp2_with (first
        | (go_at_call 10; refine (Pick_any _ _ _ (by omega)).mono ?_; rintro e w' ⟨rfl, rfl⟩)
        | (go_at_call 14; refine (H1.out _ (by (repeat' (first | (with_reducible exact HSE.out) | (with_reducible refine SeriesAt.alloc ?_ _) | (with_reducible refine SeriesAt.grow ?_ _ _) | (with_reducible refine SeriesAt.drewN ?_ _))))).mono ?_; clear H1; rintro e w' ⟨rfl, bs1, dr1, rfl⟩)
        | (go_at_call 14; refine (H2.out _ (by (repeat' (first | (with_reducible exact HSE.out) | (with_reducible refine SeriesAt.alloc ?_ _) | (with_reducible refine SeriesAt.grow ?_ _ _) | (with_reducible refine SeriesAt.drewN ?_ _))))).mono ?_; clear H2; rintro e w' ⟨rfl, bs2, dr2, rfl⟩)
        | (go_at_call 14; refine (H3.out _ (by (repeat' (first | (with_reducible exact HSE.out) | (with_reducible refine SeriesAt.alloc ?_ _) | (with_reducible refine SeriesAt.grow ?_ _ _) | (with_reducible refine SeriesAt.drewN ?_ _))))).mono ?_; clear H3; rintro e w' ⟨rfl, bs3, dr3, rfl⟩)
        | (go_at_call 14; refine (H4.out _ (by (repeat' (first | (with_reducible exact HSE.out) | (with_reducible refine SeriesAt.alloc ?_ _) | (with_reducible refine SeriesAt.grow ?_ _ _) | (with_reducible refine SeriesAt.drewN ?_ _))))).mono ?_; clear H4; rintro e w' ⟨rfl, bs4, dr4, rfl⟩)
        | (go_at_call 14; refine (H5.out _ (by (repeat' (first | (with_reducible exact HSE.out) | (with_reducible refine SeriesAt.alloc ?_ _) | (with_reducible refine SeriesAt.grow ?_ _ _) | (with_reducible refine SeriesAt.drewN ?_ _))))).mono ?_; rintro e w' ⟨rfl, bs5, dr5, rfl⟩)
        | (go_at_call 11; refine (awake_any _).mono ?_; rintro e w' ⟨rfl, bs6, dr6, rfl⟩))
      go_returns
      exact ⟨rfl, .of_below (by (repeat' (first | (with_reducible exact Below.refl _ _) | (with_reducible assumption) | (with_reducible refine Below.grow ?_ ?_ _ _) | (with_reducible refine Below.alloc ?_ ?_ _) | (with_reducible refine Below.drewN ?_ _) | (with_reducible refine Below.drew ?_) | (with_reducible refine Below.setCell ?_ ?_ _) | go_size)))⟩
end Go.Proofs.Ytldelkkeimlfcaa
