/- What a made series' factors are like. -/
import Derived.Test.YtldelkkeimlfcaaOfSaid
import Derived.Test.YtldelkkeimlfcaaIdx
set_option linter.all false
namespace Go.Proofs.Ytldelkkeimlfcaa
open Go.RowKit

def SerOk (t : Int × Int) : Prop := usableB t.1 t.2 = true ∧ t.1 ≤ 4 * t.2 ∧ t.2 ≤ 1000 * t.1
theorem SerOk.one : SerOk (1, 1) := by unfold SerOk; exact ⟨by decide +kernel, by omega, by omega⟩
theorem serOk_low (n : Nat) (h1 : 1 ≤ n) (h2 : n ≤ 4000) : SerOk (mkN n 1000, mkD n 1000) := by
  have hg : 0 < Nat.gcd n 1000 := Nat.gcd_pos_of_pos_left _ (by omega)
  obtain ⟨a, ha⟩ := Nat.gcd_dvd_left n 1000
  obtain ⟨b, hb⟩ := Nat.gcd_dvd_right n 1000
  have hco := Nat.gcd_div_gcd_div_gcd_of_pos_left (m := n) (n := 1000) (by omega)
  generalize hG : Nat.gcd n 1000 = g at *
  have ea : n / g = a := by rw [ha]; exact Nat.mul_div_cancel_left _ hg
  have eb : 1000 / g = b := by rw [hb]; exact Nat.mul_div_cancel_left _ hg
  rw [Nat.gcd_comm 1000 n, hG, ea, eb, Nat.gcd_comm] at hco
  have hga : g * a ≤ 4 * (g * b) := by omega
  have hab : a ≤ 4 * b := by
    have : g * a ≤ g * (4 * b) := by rw [Nat.mul_left_comm]; exact hga
    exact Nat.le_of_mul_le_mul_left this hg
  have ha0 : 0 < a := by
    rcases Nat.eq_zero_or_pos a with h | h
    · subst h; simp at ha; omega
    · exact h
  have hb0 : 0 < b := by
    rcases Nat.eq_zero_or_pos b with h | h
    · subst h; simp at hb
    · exact h
  have hb1 : b ≤ 1000 := by rw [hb]; exact Nat.le_mul_of_pos_left b hg
  have ha1 : a ≤ 4000 := by omega
  have eN : mkN (n : Int) 1000 = a := by
    have e1 : (decide ((n : Int) < 0) != decide ((1000 : Int) < 0)) = false := by
      have : ¬ (n : Int) < 0 := by omega
      simp [this]
    unfold mkN lowN
    rw [if_neg (by omega), e1]
    simp only [Int.natAbs_natCast, show (1000 : Int).natAbs = 1000 from rfl, hG, ea, eb]
    rw [if_neg (by omega)]
    simp
  have eD : mkD (n : Int) 1000 = b := by
    unfold mkD lowD
    rw [if_neg (by omega)]
    simp only [Int.natAbs_natCast, show (1000 : Int).natAbs = 1000 from rfl, hG, ea, eb]
    rw [if_neg (by omega)]
  unfold SerOk
  rw [eN, eD]
  have hv : vfrac a b = true := vfrac_of ⟨by omega, by omega, by omega, by omega⟩ (by simpa using hco)
  refine ⟨?_, by omega, by omega⟩
  rw [usableB_yes hv]
  simp; omega
theorem madeP_ok (R : RawV) : ∀ t ∈ (madeP R).se, SerOk t.2 := by
  intro t ht
  simp only [madeP, List.mem_map] at ht
  obtain ⟨i, -, rfl⟩ := ht
  have hp := pick_bd (R.series.getD i 0) 4000 (by omega)
  obtain ⟨h1, h2⟩ := hp
  have := serOk_low (pick (R.series.getD i 0) 4000 + 1).toNat (by omega) (by omega)
  rw [Int.toNat_of_nonneg (by omega)] at this
  exact this
theorem twistP_se2 (n : Int) (V : VerP) : (twistP n V).se.map (·.2) = V.se.map (·.2) := by
  unfold twistP
  repeat' split
  all_goals first | rfl | skip
  all_goals simp_all
theorem ofP_ok (R : RawV) : ∀ t ∈ (ofP R).se, SerOk t.2 := by
  have key : ∀ V : VerP, V.se.map (·.2) = (madeP R).se.map (·.2) → ∀ t ∈ V.se, SerOk t.2 := by
    intro V hV t ht
    have : t.2 ∈ (madeP R).se.map (·.2) := by rw [← hV]; exact List.mem_map_of_mem ht
    obtain ⟨u, hu, he⟩ := List.mem_map.1 this
    rw [← he]; exact madeP_ok R u hu
  unfold ofP
  split
  · exact madeP_ok R
  · split
    · exact key _ (twistP_se2 _ _)
    · exact madeP_ok R
theorem seOk (R : RawV) (i : Nat) (hi : i < (ofP R).se.length) : SerOk (seN (ofP R) i, seD (ofP R) i) := by
  have := ofP_ok R ((ofP R).se.getD i (0, 0, 0)) (by rw [List.getD_eq_getElem?_getD, List.getElem?_eq_getElem hi]; exact List.getElem_mem hi)
  exact this
theorem SerOk.rng {t : Int × Int} (h : SerOk t) : (0 < t.1 ∧ t.1 ≤ 10000000000000) ∧ 1 ≤ t.2 ∧ t.2 ≤ 10000 := by
  have := usableB_bd h.1
  exact ⟨⟨this.1, this.2.1⟩, this.2.2.1, this.2.2.2⟩
/-- The factor that counts is usable. -/
theorem facOk {n : Nat} {y nu de : Nat → Int} (h : ∀ i, i < n → SerOk (nu i, de i)) (year : Int) : SerOk (facN y nu year n, facN y de year n) := by
  unfold facN
  split
  · exact .one
  · rename_i hb
    exact h _ (bestTo_lt hb)
end Go.Proofs.Ytldelkkeimlfcaa
