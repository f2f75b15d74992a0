
import Derived.Test.YtldelkkeimlfcaaQMake
set_option linter.all false
namespace Go.Proofs.Ytldelkkeimlfcaa
open Go.RowKit

/-- The index of the row that counts for a year, among the first k; -1: none. -/
def bestTo (y : Nat → Int) (year : Int) : Nat → Int
  | 0 => -1
  | k + 1 => if y k ≤ year ∧ (bestTo y year k < 0 ∨ y (bestTo y year k).toNat < y k) then (k : Int) else bestTo y year k

theorem bestTo_bd (y : Nat → Int) (year : Int) (k : Nat) : -1 ≤ bestTo y year k ∧ bestTo y year k < k := by
  induction k with
  | zero => simp [bestTo]
  | succ k ih => unfold bestTo; split <;> omega

/-- A slice of rows of the indexation series: n rows. -/
def SeriesAt (w : World) (v : Value) (n : Nat) (y nu de : Nat → Int) : Prop :=
  n ≤ 140737488355328 ∧ ∃ a cap, v = .slice a n cap ∧ (n = 0 ∨ ∃ b off, a = some ⟨b, off, none⟩ ∧ b < w.heap.size ∧ ∀ i, i < n →
    w.cell? ⟨b, off + i * 3, none⟩ = some (.int .i64 (y i)) ∧ w.cell? ⟨b, off + i * 3 + 1, none⟩ = some (.int .i64 (nu i)) ∧ w.cell? ⟨b, off + i * 3 + 2, none⟩ = some (.int .i64 (de i)))

theorem SeriesAt.grow {w : World} {v : Value} {n : Nat} {y nu de : Nat → Int} (h : SeriesAt w v n y nu de) (bs : Array Obj) (d : Nat) : SeriesAt (w.grow bs d) v n y nu de := by
  obtain ⟨h0, a, cap, hv, h1⟩ := h
  refine ⟨h0, a, cap, hv, h1.imp id ?_⟩
  rintro ⟨b, off, ha, hb, hc⟩
  refine ⟨b, off, ha, by simp; omega, fun i hi => ?_⟩
  rw [World.cell?_grow _ _ _ hb, World.cell?_grow _ _ _ hb, World.cell?_grow _ _ _ hb]
  exact hc i hi

def facN (y nu : Nat → Int) (year : Int) (n : Nat) : Int := if bestTo y year n < 0 then 1 else nu (bestTo y year n).toNat

theorem bestTo_no1 {y : Nat → Int} {year : Int} {k : Nat} (h : ¬ y k ≤ year) : bestTo y year (k + 1) = bestTo y year k := by rw [bestTo, if_neg (by intro h1; exact h h1.1)]
theorem bestTo_no2 {y : Nat → Int} {year : Int} {k m : Nat} (hm : bestTo y year k = m) (h : ¬ y m < y k) : bestTo y year (k + 1) = m := by
  rw [bestTo, if_neg (by rw [hm]; simp; omega), hm]
theorem bestTo_yes1 {y : Nat → Int} {year : Int} {k : Nat} (h : y k ≤ year) (hb : bestTo y year k = -1) : bestTo y year (k + 1) = k := by rw [bestTo, if_pos ⟨h, .inl (by omega)⟩]
theorem bestTo_yes2 {y : Nat → Int} {year : Int} {k m : Nat} (h : y k ≤ year) (hm : bestTo y year k = m) (h2 : y m < y k) : bestTo y year (k + 1) = k := by
  rw [bestTo, if_pos ⟨h, .inr (by rw [hm]; simpa using h2)⟩]


set_option maxHeartbeats 1000000 in
theorem Factor2_zero (c0 c1 c2 c3 c5 c6 c7 : Value) (a : Option Addr) (cap : Nat) (year : Int) (w : World) :
    Calls Try.prog 12 #[.agg #[c0, c1, c2, c3, .slice a 0 cap, c5, c6, c7], .int .i64 year] w fun e w' => e = .returned (.agg #[.int .i64 1, .int .i64 1]) ∧ w.Grows w' := by
  go_enter Try.func12, Try.ntmps12
  go_wp2_with fail
  refine wp_loop_rounds 1 ?_
  rw [rounds_succ]
  go_wp2_with fail
  go_returns
  exact ⟨rfl, .of_below (by (repeat' (first | (with_reducible exact Below.refl _ _) | (with_reducible assumption) | (with_reducible refine Below.grow ?_ ?_ _ _) | (with_reducible refine Below.alloc ?_ ?_ _) | (with_reducible refine Below.drewN ?_ _) | (with_reducible refine Below.drew ?_) | (with_reducible refine Below.setCell ?_ ?_ _) | go_size)))⟩

set_option maxHeartbeats 1000000 in
theorem Factor1_zero (c0 c1 c2 c3 c5 c6 c7 : Value) (a : Option Addr) (cap : Nat) (year : Int) (w : World) :
    Calls Try.prog 13 #[.agg #[c0, c1, c2, c3, .slice a 0 cap, c5, c6, c7], .int .i64 year] w fun e w' => e = .returned (.agg #[.int .i64 1, .int .i64 1]) ∧ w.Grows w' := by
  go_enter Try.func13, Try.ntmps13
  go_wp2_with fail
  refine wp_loop_rounds 1 ?_
  rw [rounds_succ]
  go_wp2_with fail
  go_returns
  exact ⟨rfl, .of_below (by (repeat' (first | (with_reducible exact Below.refl _ _) | (with_reducible assumption) | (with_reducible refine Below.grow ?_ ?_ _ _) | (with_reducible refine Below.alloc ?_ ?_ _) | (with_reducible refine Below.drewN ?_ _) | (with_reducible refine Below.drew ?_) | (with_reducible refine Below.setCell ?_ ?_ _) | go_size)))⟩

set_option maxHeartbeats 4000000 in
theorem Factor2_some (c0 c1 c2 c3 c5 c6 c7 : Value) (b off n cap : Nat) (y nu de : Nat → Int) (year : Int) (w : World) (h0 : 0 < n) (hn : n ≤ 140737488355328) (hb : b < w.heap.size)
    (hcs : Hid (∀ i, i < n → w.cell? ⟨b, off + i * 3, none⟩ = some (.int .i64 (y i)) ∧ w.cell? ⟨b, off + i * 3 + 1, none⟩ = some (.int .i64 (nu i)) ∧ w.cell? ⟨b, off + i * 3 + 2, none⟩ = some (.int .i64 (de i)))) :
    Calls Try.prog 12 #[.agg #[c0, c1, c2, c3, .slice (some ⟨b, off, none⟩) n cap, c5, c6, c7], .int .i64 year] w fun e w' => e = .returned (.agg #[.int .i64 (facN y nu year n), .int .i64 (facN y de year n)]) ∧ w.Grows w' := by
  have hcs2 := hcs
  go_enter Try.func12, Try.ntmps12
  go_wp2_with fail
  go_loopw [5, 11] (fun v5 v11 wr => ∃ k : Nat, k ≤ n ∧ v5 = .int .i64 (bestTo y year k) ∧ v11 = .int .i64 k ∧
    World.Grows ((w.alloc (.cells #[c0, c1, c2, c3, .slice (some ⟨b, off, none⟩) n cap, c5, c6, c7] 34)).alloc (.cells #[.int .i64 0, .int .i64 0] 39)) wr) (fun _ v11 _ => n - (intOf v11).toNat)
  case atStart => exact ⟨0, by omega, rfl, rfl, .refl _⟩
  case round =>
    obtain ⟨k, hk, rfl, rfl, bs, d, rfl⟩ := hrel
    have hbd := bestTo_bd y year k
    have hbn := bestTo_bd y year n
    generalize hB : bestTo y year k = B at *
    have HB := Lib.hid hB
    clear hB
    by_cases hlt : k < n
    · obtain ⟨q0, q1, q2⟩ := hcs.out k hlt
      by_cases t1 : y k ≤ year
      · by_cases t2 : B < 0
        · obtain rfl : B = -1 := by omega
          have HN := Lib.hid (bestTo_yes1 t1 HB.out)
          go_wp2_with fail
          go_quiet (fail)
          go_wp2_with fail
          go_roundw
          case rel => exact ⟨k + 1, by omega, by rw [HN.out], by go_num, .of_below (by (repeat' (first | (with_reducible exact Below.refl _ _) | (with_reducible assumption) | (with_reducible refine Below.grow ?_ ?_ _ _) | (with_reducible refine Below.alloc ?_ ?_ _) | (with_reducible refine Below.drewN ?_ _) | (with_reducible refine Below.drew ?_) | (with_reducible refine Below.setCell ?_ ?_ _) | go_size)))⟩
          case measure => simp [intOf]; omega
        · obtain ⟨m, rfl⟩ := Int.eq_ofNat_of_zero_le (show 0 ≤ B by omega)
          obtain ⟨p0, p1, p2⟩ := hcs.out m (by omega)
          have hm0 : (0 : Int) ≤ (m : Int) := by omega
          have hm1 : (m : Int) < (n : Int) := by omega
          have d2 : decide ((m : Int) < 0) = false := by simp; try omega
          by_cases t3 : y m < y k
          · have HN := Lib.hid (bestTo_yes2 t1 HB.out t3)
            go_wp2_with fail
            go_quiet (fail)
            go_wp2_with fail
            go_roundw
            case rel => exact ⟨k + 1, by omega, by rw [HN.out], by go_num, .of_below (by (repeat' (first | (with_reducible exact Below.refl _ _) | (with_reducible assumption) | (with_reducible refine Below.grow ?_ ?_ _ _) | (with_reducible refine Below.alloc ?_ ?_ _) | (with_reducible refine Below.drewN ?_ _) | (with_reducible refine Below.drew ?_) | (with_reducible refine Below.setCell ?_ ?_ _) | go_size)))⟩
            case measure => simp [intOf]; omega
          · have HN := Lib.hid (bestTo_no2 HB.out t3)
            have d3 : decide (y m < y k) = false := by simpa using t3
            go_wp2_with fail
            go_quiet (fail)
            go_wp2_with fail
            go_roundw
            case rel => exact ⟨k + 1, by omega, by rw [HN.out], by go_num, .of_below (by (repeat' (first | (with_reducible exact Below.refl _ _) | (with_reducible assumption) | (with_reducible refine Below.grow ?_ ?_ _ _) | (with_reducible refine Below.alloc ?_ ?_ _) | (with_reducible refine Below.drewN ?_ _) | (with_reducible refine Below.drew ?_) | (with_reducible refine Below.setCell ?_ ?_ _) | go_size)))⟩
            case measure => simp [intOf]; omega
      · have HN := Lib.hid ((bestTo_no1 t1).trans HB.out)
        have d1 : decide (y k ≤ year) = false := by simpa using t1
        go_wp2_with fail
        go_quiet (fail)
        go_wp2_with fail
        go_roundw
        case rel => exact ⟨k + 1, by omega, by rw [HN.out], by go_num, .of_below (by (repeat' (first | (with_reducible exact Below.refl _ _) | (with_reducible assumption) | (with_reducible refine Below.grow ?_ ?_ _ _) | (with_reducible refine Below.alloc ?_ ?_ _) | (with_reducible refine Below.drewN ?_ _) | (with_reducible refine Below.drew ?_) | (with_reducible refine Below.setCell ?_ ?_ _) | go_size)))⟩
        case measure => simp [intOf]; omega
    · obtain rfl : k = n := by omega
      clear hcs2
      by_cases t2 : B < 0
      · obtain rfl : B = -1 := by omega
        go_wp2_with fail
        go_returns
        exact ⟨by simp only [facN, HB.out]; rfl, .of_below (by (repeat' (first | (with_reducible exact Below.refl _ _) | (with_reducible assumption) | (with_reducible refine Below.grow ?_ ?_ _ _) | (with_reducible refine Below.alloc ?_ ?_ _) | (with_reducible refine Below.drewN ?_ _) | (with_reducible refine Below.drew ?_) | (with_reducible refine Below.setCell ?_ ?_ _) | go_size)))⟩
      · obtain ⟨m, rfl⟩ := Int.eq_ofNat_of_zero_le (show 0 ≤ B by omega)
        obtain ⟨p0, p1, p2⟩ := hcs.out m (by omega)
        have hm0 : (0 : Int) ≤ (m : Int) := by omega
        have hm1 : (m : Int) < (k : Int) := by omega
        have d2 : decide ((m : Int) < 0) = false := by simp; try omega
        go_wp2_with fail
        go_returns
        exact ⟨by simp only [facN, HB.out]; rfl, .of_below (by (repeat' (first | (with_reducible exact Below.refl _ _) | (with_reducible assumption) | (with_reducible refine Below.grow ?_ ?_ _ _) | (with_reducible refine Below.alloc ?_ ?_ _) | (with_reducible refine Below.drewN ?_ _) | (with_reducible refine Below.drew ?_) | (with_reducible refine Below.setCell ?_ ?_ _) | go_size)))⟩

set_option maxHeartbeats 4000000 in
theorem Factor1_some (c0 c1 c2 c3 c5 c6 c7 : Value) (b off n cap : Nat) (y nu de : Nat → Int) (year : Int) (w : World) (h0 : 0 < n) (hn : n ≤ 140737488355328) (hb : b < w.heap.size)
    (hcs : Hid (∀ i, i < n → w.cell? ⟨b, off + i * 3, none⟩ = some (.int .i64 (y i)) ∧ w.cell? ⟨b, off + i * 3 + 1, none⟩ = some (.int .i64 (nu i)) ∧ w.cell? ⟨b, off + i * 3 + 2, none⟩ = some (.int .i64 (de i)))) :
    Calls Try.prog 13 #[.agg #[c0, c1, c2, c3, .slice (some ⟨b, off, none⟩) n cap, c5, c6, c7], .int .i64 year] w fun e w' => e = .returned (.agg #[.int .i64 (facN y nu year n), .int .i64 (facN y de year n)]) ∧ w.Grows w' := by
  have hcs2 := hcs
  go_enter Try.func13, Try.ntmps13
  go_wp2_with fail
  go_loopw [5, 6] (fun v5 v11 wr => ∃ k : Nat, k ≤ n ∧ v5 = .int .i64 (bestTo y year k) ∧ v11 = .int .i64 k ∧
    World.Grows ((w.alloc (.cells #[c0, c1, c2, c3, .slice (some ⟨b, off, none⟩) n cap, c5, c6, c7] 34)).alloc (.cells #[.int .i64 0, .int .i64 0] 39)) wr) (fun _ v11 _ => n - (intOf v11).toNat)
  case atStart => exact ⟨0, by omega, rfl, rfl, .refl _⟩
  case round =>
    obtain ⟨k, hk, rfl, rfl, bs, d, rfl⟩ := hrel
    have hbd := bestTo_bd y year k
    have hbn := bestTo_bd y year n
    generalize hB : bestTo y year k = B at *
    have HB := Lib.hid hB
    clear hB
    by_cases hlt : k < n
    · obtain ⟨q0, q1, q2⟩ := hcs.out k hlt
      by_cases t1 : y k ≤ year
      · by_cases t2 : B < 0
        · obtain rfl : B = -1 := by omega
          have HN := Lib.hid (bestTo_yes1 t1 HB.out)
          go_wp2_with fail
          go_roundw
          case rel => exact ⟨k + 1, by omega, by rw [HN.out], by go_num, .of_below (by (repeat' (first | (with_reducible exact Below.refl _ _) | (with_reducible assumption) | (with_reducible refine Below.grow ?_ ?_ _ _) | (with_reducible refine Below.alloc ?_ ?_ _) | (with_reducible refine Below.drewN ?_ _) | (with_reducible refine Below.drew ?_) | (with_reducible refine Below.setCell ?_ ?_ _) | go_size)))⟩
          case measure => simp [intOf]; omega
        · obtain ⟨m, rfl⟩ := Int.eq_ofNat_of_zero_le (show 0 ≤ B by omega)
          obtain ⟨p0, p1, p2⟩ := hcs.out m (by omega)
          have hm0 : (0 : Int) ≤ (m : Int) := by omega
          have hm1 : (m : Int) < (n : Int) := by omega
          have d2 : decide ((m : Int) < 0) = false := by simp; try omega
          by_cases t3 : y m < y k
          · have HN := Lib.hid (bestTo_yes2 t1 HB.out t3)
            go_wp2_with fail
            go_roundw
            case rel => exact ⟨k + 1, by omega, by rw [HN.out], by go_num, .of_below (by (repeat' (first | (with_reducible exact Below.refl _ _) | (with_reducible assumption) | (with_reducible refine Below.grow ?_ ?_ _ _) | (with_reducible refine Below.alloc ?_ ?_ _) | (with_reducible refine Below.drewN ?_ _) | (with_reducible refine Below.drew ?_) | (with_reducible refine Below.setCell ?_ ?_ _) | go_size)))⟩
            case measure => simp [intOf]; omega
          · have HN := Lib.hid (bestTo_no2 HB.out t3)
            have d3 : decide (y m < y k) = false := by simpa using t3
            go_wp2_with fail
            go_roundw
            case rel => exact ⟨k + 1, by omega, by rw [HN.out], by go_num, .of_below (by (repeat' (first | (with_reducible exact Below.refl _ _) | (with_reducible assumption) | (with_reducible refine Below.grow ?_ ?_ _ _) | (with_reducible refine Below.alloc ?_ ?_ _) | (with_reducible refine Below.drewN ?_ _) | (with_reducible refine Below.drew ?_) | (with_reducible refine Below.setCell ?_ ?_ _) | go_size)))⟩
            case measure => simp [intOf]; omega
      · have HN := Lib.hid ((bestTo_no1 t1).trans HB.out)
        have d1 : decide (y k ≤ year) = false := by simpa using t1
        go_wp2_with fail
        go_roundw
        case rel => exact ⟨k + 1, by omega, by rw [HN.out], by go_num, .of_below (by (repeat' (first | (with_reducible exact Below.refl _ _) | (with_reducible assumption) | (with_reducible refine Below.grow ?_ ?_ _ _) | (with_reducible refine Below.alloc ?_ ?_ _) | (with_reducible refine Below.drewN ?_ _) | (with_reducible refine Below.drew ?_) | (with_reducible refine Below.setCell ?_ ?_ _) | go_size)))⟩
        case measure => simp [intOf]; omega
    · obtain rfl : k = n := by omega
      clear hcs2
      by_cases t2 : B < 0
      · obtain rfl : B = -1 := by omega
        go_wp2_with fail
        go_returns
        exact ⟨by simp only [facN, HB.out]; rfl, .of_below (by (repeat' (first | (with_reducible exact Below.refl _ _) | (with_reducible assumption) | (with_reducible refine Below.grow ?_ ?_ _ _) | (with_reducible refine Below.alloc ?_ ?_ _) | (with_reducible refine Below.drewN ?_ _) | (with_reducible refine Below.drew ?_) | (with_reducible refine Below.setCell ?_ ?_ _) | go_size)))⟩
      · obtain ⟨m, rfl⟩ := Int.eq_ofNat_of_zero_le (show 0 ≤ B by omega)
        obtain ⟨p0, p1, p2⟩ := hcs.out m (by omega)
        have hm0 : (0 : Int) ≤ (m : Int) := by omega
        have hm1 : (m : Int) < (k : Int) := by omega
        have d2 : decide ((m : Int) < 0) = false := by simp; try omega
        go_wp2_with fail
        go_returns
        exact ⟨by simp only [facN, HB.out]; rfl, .of_below (by (repeat' (first | (with_reducible exact Below.refl _ _) | (with_reducible assumption) | (with_reducible refine Below.grow ?_ ?_ _ _) | (with_reducible refine Below.alloc ?_ ?_ _) | (with_reducible refine Below.drewN ?_ _) | (with_reducible refine Below.drew ?_) | (with_reducible refine Below.setCell ?_ ?_ _) | go_size)))⟩

theorem Factor2_any (c0 c1 c2 c3 c4 c5 c6 c7 : Value) (n : Nat) (y nu de : Nat → Int) (year : Int) (w : World) (h : SeriesAt w c4 n y nu de) :
    Calls Try.prog 12 #[.agg #[c0, c1, c2, c3, c4, c5, c6, c7], .int .i64 year] w fun e w' => e = .returned (.agg #[.int .i64 (facN y nu year n), .int .i64 (facN y de year n)]) ∧ w.Grows w' := by
  obtain ⟨hn, a, cap, rfl, h0 | ⟨b, off, rfl, hb, hc⟩⟩ := h
  · subst h0; have e : ∀ z : Nat → Int, facN y z year 0 = 1 := fun z => by simp [facN, bestTo]
    rw [e, e]; exact Factor2_zero c0 c1 c2 c3 c5 c6 c7 _ cap year w
  · by_cases h0 : n = 0
    · subst h0; have e : ∀ z : Nat → Int, facN y z year 0 = 1 := fun z => by simp [facN, bestTo]
      rw [e, e]; exact Factor2_zero c0 c1 c2 c3 c5 c6 c7 _ cap year w
    · exact Factor2_some _ _ _ _ _ _ _ b off n cap y nu de year w (by omega) hn hb hc

theorem Factor1_any (c0 c1 c2 c3 c4 c5 c6 c7 : Value) (n : Nat) (y nu de : Nat → Int) (year : Int) (w : World) (h : SeriesAt w c4 n y nu de) :
    Calls Try.prog 13 #[.agg #[c0, c1, c2, c3, c4, c5, c6, c7], .int .i64 year] w fun e w' => e = .returned (.agg #[.int .i64 (facN y nu year n), .int .i64 (facN y de year n)]) ∧ w.Grows w' := by
  obtain ⟨hn, a, cap, rfl, h0 | ⟨b, off, rfl, hb, hc⟩⟩ := h
  · subst h0; have e : ∀ z : Nat → Int, facN y z year 0 = 1 := fun z => by simp [facN, bestTo]
    rw [e, e]; exact Factor1_zero c0 c1 c2 c3 c5 c6 c7 _ cap year w
  · by_cases h0 : n = 0
    · subst h0; have e : ∀ z : Nat → Int, facN y z year 0 = 1 := fun z => by simp [facN, bestTo]
      rw [e, e]; exact Factor1_zero c0 c1 c2 c3 c5 c6 c7 _ cap year w
    · exact Factor1_some _ _ _ _ _ _ _ b off n cap y nu de year w (by omega) hn hb hc
end Go.Proofs.Ytldelkkeimlfcaa
