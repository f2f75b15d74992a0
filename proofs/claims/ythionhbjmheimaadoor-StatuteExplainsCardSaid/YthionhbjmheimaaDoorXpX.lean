/- What StatuteExplains needs of versions and views, beside the library. -/
import Derived.Test.YthionhbjmheimaaDoorLExpL
import Derived.Test.YthionhbjmheimaaDoorLVwOf
import Derived.Test.YthionhbjmheimaaDoorLUsR
import Derived.Test.YthionhbjmheimaaDoorLEvP
set_option linter.all false
namespace Go.Proofs.YthionhbjmheimaaDoor
open Go.RowKit
theorem VerAt.verX {B : Nat} {w : World} {V : VerP} {v3 v4 v5 v6 v7 : Value} (h : VerAt B w V v3 v4 v5 v6 v7) (hl : V.cr.length ≤ 1000 ∧ V.se.length ≤ 1000 ∧ V.le.length ≤ 1000 ∧ V.gr.length ≤ 1000 ∧ V.re.length ≤ 1000) : VerC w V v3 v4 v5 v6 v7 := by
  have hle := h.lets hl.2.2.1
  obtain ⟨ql, qg, qr, H1, H2, H3, H4, H5, e1, e2, e3, ord, r1, r2, r3, r4, r5⟩ := h
  refine ⟨VerAt.nums r1.toG (by omega) (by simp [crL]) (by simp; omega) (fun i hi => ?_), VerAt.nums r2.toG (by omega) (by simp [seL]) (by simp; omega) (fun i hi => ?_), hle, ?_, ?_⟩
  · rw [List.length_map] at hi
    simp [crL, List.getD_eq_getElem?_getD, List.getElem?_map, List.getElem?_eq_getElem hi]
  · rw [List.length_map] at hi
    simp [seL, List.getD_eq_getElem?_getD, List.getElem?_map, List.getElem?_eq_getElem hi]
  · obtain ⟨a, cap, hv, hc⟩ := r4.toG.cells
    have hlen : (grL qg).length = V.gr.length := by rw [← e2]; simp [grL]
    rw [hlen] at hv hc
    refine ⟨hl.2.2.2.1, a, cap, hv, hc.imp id ?_⟩
    rintro ⟨g, ha, hb, hlt, hx⟩
    refine ⟨g, 0, ha, hlt, fun i hi => ?_⟩
    obtain ⟨⟨n, ⟨e, v⟩, ⟨e', v'⟩⟩, hta, htl⟩ := map_at' e2 hi
    have hget : (grL qg).getD i [] = .int .i64 n :: (cells1 e v ++ cells1 e' v') := by simp [grL, List.getD_eq_getElem?_getD, List.getElem?_map, hta]
    have hle : V.gr.getD i default = (n, e, e') := by rw [List.getD_eq_getElem?_getD, htl]; rfl
    have h7 := fun j u hj hu => hx i j u hi hj (by rw [hget]; exact hu)
    have hm := List.mem_of_getElem? hta
    rw [hle, show 0 + i * 13 = i * 13 by omega]
    exact ⟨v, v', h7 0 _ (by omega) rfl, h7 1 _ (by omega) rfl, h7 2 _ (by omega) rfl, h7 3 _ (by omega) rfl, h7 4 _ (by omega) rfl, h7 5 _ (by omega) rfl, h7 6 _ (by omega) rfl, h7 7 _ (by omega) rfl, h7 8 _ (by omega) rfl, h7 9 _ (by omega) rfl, h7 10 _ (by omega) rfl, h7 11 _ (by omega) rfl, h7 12 _ (by omega) rfl,
      (r4.rep (e, v) (by unfold grR; exact List.mem_flatMap.2 ⟨_, hm, by simp⟩)).mono fun _ _ => trivial, (r4.rep (e', v') (by unfold grR; exact List.mem_flatMap.2 ⟨_, hm, by simp⟩)).mono fun _ _ => trivial⟩
  · obtain ⟨a, cap, hv, hc⟩ := r5.cells
    have hlen : (reL qr).length = V.re.length := by rw [← e3]; simp [reL]
    rw [hlen] at hv hc
    refine ⟨hl.2.2.2.2, a, cap, hv, hc.imp id ?_⟩
    rintro ⟨g, ha, hb, hlt, hx⟩
    refine ⟨g, 0, ha, hlt, fun i hi => ?_⟩
    obtain ⟨⟨n, e, v⟩, hta, htl⟩ := map_at' e3 hi
    have hget : (reL qr).getD i [] = .int .i64 n :: cells1 e v := by simp [reL, List.getD_eq_getElem?_getD, List.getElem?_map, hta]
    have hle : V.re.getD i default = (n, e) := by rw [List.getD_eq_getElem?_getD, htl]; rfl
    have h7 := fun j u hj hu => hx i j u hi hj (by rw [hget]; exact hu)
    rw [hle, show 0 + i * 7 = i * 7 by omega]
    exact ⟨v, h7 0 _ (by omega) rfl, h7 1 _ (by omega) rfl, h7 2 _ (by omega) rfl, h7 3 _ (by omega) rfl, h7 4 _ (by omega) rfl, h7 5 _ (by omega) rfl, h7 6 _ (by omega) rfl, (r5.rep (e, v) (List.mem_map.2 ⟨_, List.mem_of_getElem? hta, rfl⟩)).mono fun _ _ => trivial⟩
theorem mkX_value {n d : Int} (h1 : 0 ≤ n) (h2 : 1 ≤ d) (he : mkE n d = 0) : mkN n d * d = n * mkD n d := by
  have hg : 0 < Nat.gcd n.natAbs d.natAbs := Nat.gcd_pos_of_pos_right _ (by omega)
  unfold mkE at he
  unfold mkN mkD
  rw [if_neg (by omega)] at he ⊢
  rw [if_neg (by omega)]
  unfold lowE at he
  unfold lowN lowD
  split at he <;> rename_i hc
  · simp at he
  rw [if_neg hc, if_neg hc, decide_eq_false (by omega), decide_eq_false (by omega)]
  simp only [bne_self_eq_false, Bool.false_eq_true, if_false]
  obtain ⟨a, rfl⟩ := Int.eq_ofNat_of_zero_le h1
  obtain ⟨b, rfl⟩ := Int.eq_ofNat_of_zero_le (show 0 ≤ d by omega)
  simp only [Int.natAbs_natCast] at hg ⊢
  rw [← Int.natCast_mul, ← Int.natCast_mul]
  congr 1
  obtain ⟨p, hp⟩ := Nat.gcd_dvd_left a b
  obtain ⟨q, hq⟩ := Nat.gcd_dvd_right a b
  generalize Nat.gcd a b = g at *
  subst hp hq
  rw [Nat.mul_div_cancel_left _ hg, Nat.mul_div_cancel_left _ hg, Nat.mul_left_comm, Nat.mul_comm g p, Nat.mul_assoc, Nat.mul_comm p]
  rw [Nat.mul_comm q p, Nat.mul_left_comm]
theorem VwR.dX_bd (R : VwR) (i : Nat) : 0 ≤ R.d i ∧ R.d i < 20000 := by
  unfold VwR.d
  split
  · exact pick_bd _ 20000 (by omega)
  · omega
theorem leX_mul {a b d n : Int} (h0 : 0 ≤ a) (hb : 0 ≤ b) (hd : 1 ≤ d) (h : a * d = n * b) (hn : n ≤ 1000000000000) : a ≤ 1000000000000 * b := by
  have h1 : a * 1 ≤ a * d := Int.mul_le_mul_of_nonneg_left hd h0
  have h2 : n * b ≤ 1000000000000 * b := Int.mul_le_mul_of_nonneg_right hn hb
  omega
theorem viewX_ok (R : VwR) : (viewP R).ok = true := by
  have a := pick_bd R.age 110 (by omega)
  have b := pick_bd R.year 200 (by omega)
  have c := pick_bd R.children 8 (by omega)
  have n := pick_bd R.base 1000000 (by omega)
  have d := pick_bd R.den 12 (by omega)
  have e := mkE_small n.1 (by omega) (show 1 ≤ pick R.den 12 + 1 by omega) (by omega)
  have v := mk_vfrac (show pick R.den 12 + 1 ≠ 0 by omega) e
  have m := mkX_value n.1 (show 1 ≤ pick R.den 12 + 1 by omega) e
  have nn := mkN_nonneg n.1 (show 1 ≤ pick R.den 12 + 1 by omega)
  have vb := vfrac_bd v
  have le := leX_mul nn (by omega) (show 1 ≤ pick R.den 12 + 1 by omega) m (by omega)
  have dd : ∀ i, daysOk (R.d i) = true := fun i => by
    have := R.dX_bd i
    unfold daysOk
    exact decide_eq_true (by omega)
  have yy : yearsOk ((R.years.take 20).map fun z => pick z 5000000) = true := by
    unfold yearsOk
    rw [decide_eq_true (by rw [List.length_map, List.length_take]; omega), Bool.true_and, List.all_eq_true]
    intro x hx
    obtain ⟨z, -, rfl⟩ := List.mem_map.1 hx
    have := pick_bd z 5000000 (by omega)
    exact decide_eq_true (by omega)
  unfold Vw.ok viewP
  dsimp only
  rw [decide_eq_true ⟨by omega, by omega, by omega, by omega, by omega, by omega⟩, dd, dd, dd, dd, dd, dd, dd, v, decide_eq_true ⟨nn, le⟩, yy]
  rfl
theorem viewX_rng (R : VwR) : VwRng (viewP R) := by
  have h := viewX_ok R
  unfold Vw.ok at h
  simp only [Bool.and_eq_true] at h
  have := vfrac_bd h.1.2.1
  exact ⟨⟨by omega, by omega⟩, ⟨by omega, by omega⟩⟩
end Go.Proofs.YthionhbjmheimaaDoor
