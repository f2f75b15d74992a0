
import Derived.Test.YtldelkkeimlfcaaQQuot
set_option linter.all false
namespace Go.Proofs.Ytldelkkeimlfcaa
open Go.RowKit

theorem bestTo_lt {y : Nat → Int} {year : Int} {n : Nat} (h : ¬ bestTo y year n < 0) : (bestTo y year n).toNat < n := by
  have := bestTo_bd y year n
  omega

theorem facN_bd {y z : Nat → Int} {year : Int} {n : Nat} (h : ∀ i, i < n → -9223372036854775808 ≤ z i ∧ z i ≤ 9223372036854775807) : -9223372036854775808 ≤ facN y z year n ∧ facN y z year n ≤ 9223372036854775807 := by
  unfold facN
  split
  · omega
  · rename_i hb
    exact h _ (bestTo_lt hb)

theorem mul_nat {a b : Int} (A B : Nat) (ha : a = A) (hb : b = B) : a * b = ((A * B : Nat) : Int) := by rw [ha, hb, Int.natCast_mul]

/-- Both factors usable: natural numbers in their bounds. -/
theorem idx_nats {amount tn td fn fd : Int} (h : idxOk amount tn td fn fd = true) : ∃ A T TD FN FD : Nat, amount = A ∧ tn = T ∧ td = TD ∧ fn = FN ∧ fd = FD ∧ A ≤ 1000000000000 ∧ 0 < T ∧ T ≤ 10000000000000 ∧ 1 ≤ TD ∧ TD ≤ 10000 ∧ 0 < FN ∧ FN ≤ 10000000000000 ∧ 1 ≤ FD ∧ FD ≤ 10000 := by
  simp only [idxOk, Bool.and_eq_true, decide_eq_true_eq] at h
  obtain ⟨⟨⟨h1, h2⟩, h3⟩, h4⟩ := h
  have h5 := usableB_bd h3
  have h6 := usableB_bd h4
  exact ⟨amount.toNat, tn.toNat, td.toNat, fn.toNat, fd.toNat, by omega, by omega, by omega, by omega, by omega, by omega, by omega, by omega, by omega, by omega, by omega, by omega, by omega, by omega⟩

theorem idxQ_nat (A T TD FN FD : Nat) : idxQ A T TD FN FD = ((A * (T * FD) / (TD * FN) : Nat) : Int) := by
  unfold idxQ
  rw [← Int.natCast_mul, ← Int.natCast_mul, ← Int.natCast_mul, Int.natCast_ediv]

theorem idxV_eq {amount tn td fn fd Y h : Int} (hok : idxOk amount tn td fn fd = true) (hbig : Y ≤ h → 1000000000000 < idxQ amount tn td fn fd) :
    idxV Y h (idxQ amount tn td fn fd) = .tuple #[.int .i64 (idxN amount tn td fn fd), .int .i64 (idxE amount tn td fn fd)] := by
  unfold idxV
  by_cases c : 1000000000000 < idxQ amount tn td fn fd
  · rw [if_pos (.inr c), (idx_big hok c).1, (idx_big hok c).2]
  · rw [if_neg (by intro hc; rcases hc with hc | hc; exact c (hbig hc); exact c hc), (idx_yes hok c).1, (idx_yes hok c).2]

theorem wrapN (X : Nat) (h : X < 18446744073709551616) : IntKind.u64.wrap (X : Int) = X := IntWalk.u64_in _ (by omega)

theorem idx_not {amount : Int} {ut uf : Bool} (h : ¬ (decide (0 ≤ amount ∧ amount ≤ 1000000000000) && ut && uf) = true) : amount < 0 ∨ 1000000000000 < amount ∨ ut = false ∨ uf = false := by
  cases ut <;> cases uf <;> simp at h ⊢
  by_cases c : 0 ≤ amount
  · have := h c; omega
  · omega

theorem Indexed2_any (c0 c1 c2 c3 c4 c5 c6 c7 : Value) (n : Nat) (y nu de : Nat → Int) (amount year ref : Int) (w : World) (h : SeriesAt w c4 n y nu de)
    (hnu : ∀ i, i < n → -9223372036854775808 ≤ nu i ∧ nu i ≤ 9223372036854775807) (hde : ∀ i, i < n → -9223372036854775808 ≤ de i ∧ de i ≤ 9223372036854775807) :
    Calls Try.prog 14 #[.agg #[c0, c1, c2, c3, c4, c5, c6, c7], .int .i64 amount, .int .i64 year, .int .i64 ref] w fun e w' =>
      e = .returned (.tuple #[.int .i64 (idxN amount (facN y nu ref n) (facN y de ref n) (facN y nu year n) (facN y de year n)), .int .i64 (idxE amount (facN y nu ref n) (facN y de ref n) (facN y nu year n) (facN y de year n))]) ∧ w.Grows w' := by
  have HT : Hid (∀ w' : World, w.Grows w' → Calls Try.prog 12 #[.agg #[c0, c1, c2, c3, c4, c5, c6, c7], .int .i64 ref] w' fun e w'' => e = .returned (.agg #[.int .i64 (facN y nu ref n), .int .i64 (facN y de ref n)]) ∧ w'.Grows w'') := by
    rintro w' ⟨bs, d, rfl⟩
    exact Factor2_any c0 c1 c2 c3 c4 c5 c6 c7 n y nu de ref _ (h.grow bs d)
  have HF : Hid (∀ w' : World, w.Grows w' → Calls Try.prog 12 #[.agg #[c0, c1, c2, c3, c4, c5, c6, c7], .int .i64 year] w' fun e w'' => e = .returned (.agg #[.int .i64 (facN y nu year n), .int .i64 (facN y de year n)]) ∧ w'.Grows w'') := by
    rintro w' ⟨bs, d, rfl⟩
    exact Factor2_any c0 c1 c2 c3 c4 c5 c6 c7 n y nu de year _ (h.grow bs d)
  have r1 := facN_bd (y := y) (year := ref) hnu
  have r2 := facN_bd (y := y) (year := ref) hde
  have r3 := facN_bd (y := y) (year := year) hnu
  have r4 := facN_bd (y := y) (year := year) hde
  generalize facN y nu ref n = tn at *
  generalize facN y de ref n = td at *
  generalize facN y nu year n = fn at *
  generalize facN y de year n = fd at *
  have HU : Hid (∀ w' : World, Calls Try.prog 29 #[.agg #[.int .i64 tn, .int .i64 td]] w' fun e w'' => e = .returned (.bool (usableB tn td)) ∧ w'.Grows w'') := fun w' => usable2_any tn td w' r1.1 r1.2 r2.1 r2.2
  have HV : Hid (∀ w' : World, Calls Try.prog 29 #[.agg #[.int .i64 fn, .int .i64 fd]] w' fun e w'' => e = .returned (.bool (usableB fn fd)) ∧ w'.Grows w'') := fun w' => usable2_any fn fd w' r3.1 r3.2 r4.1 r4.2
  by_cases hok : idxOk amount tn td fn fd = true
  · have hok' := hok
    simp only [idxOk, Bool.and_eq_true] at hok'
    obtain ⟨A, T, TD, FN, FD, rfl, rfl, rfl, rfl, rfl, hA, hT, hT2, hTD, hTD2, hFN, hFN2, hFD, hFD2⟩ := idx_nats hok
    have hX : T * FD ≤ 10000000000000 * 10000 := Nat.mul_le_mul hT2 hFD2
    have hY : TD * FN ≤ 10000 * 10000000000000 := Nat.mul_le_mul hTD2 hFN2
    have hY0 : 0 < TD * FN := Nat.mul_pos (by omega) hFN
    have hP : A * (T * FD) ≤ 1000000000000 * 100000000000000000 := Nat.mul_le_mul hA hX
    have key := Indexed2_yes c0 c1 c2 c3 c4 c5 c6 c7 A year ref T TD FN FD (T * FD : Nat) (TD * FN : Nat) (hiW (A * (T * FD))) (loW (A * (T * FD))) (idxQ A T TD FN FD) (remI (A * (T * FD)) (TD * FN)) _ _ w hok'.1.2 hok'.2
      (by omega) (by omega) (by omega) (by omega) (by omega) (by omega) (by omega) (by omega) (by omega) (by omega)
      (by rw [← Int.natCast_mul]; exact wrapN _ (by omega)) (by rw [← Int.natCast_mul]; exact wrapN _ (by omega)) (by rw [idxQ_nat]; exact Int.natCast_nonneg _) HT HF HU HV
      (fun w' => by
        have := Try.bits_Mul64 A (T * FD) (by omega) (by omega) w'
        exact this.mono fun e w'' ⟨he, hw⟩ => ⟨he, hw.symm⟩)
      (fun hlt w' => by
        unfold hiW at hlt
        have := Div64_any (A * (T * FD) / 18446744073709551616) (A * (T * FD) % 18446744073709551616) (TD * FN) w' (by omega) (Nat.mod_lt _ (by omega)) (by omega)
        rw [Nat.div_add_mod', ← idxQ_nat] at this
        exact this)
    rw [idxV_eq hok (fun hle => by
      rw [idxQ_nat]
      unfold hiW at hle
      have h2 : 18446744073709551616 ≤ A * (T * FD) / (TD * FN) := by
        rw [Nat.le_div_iff_mul_le hY0]
        have h3 := Nat.div_mul_le_self (A * (T * FD)) 18446744073709551616
        have h4 : 18446744073709551616 * (TD * FN) ≤ 18446744073709551616 * (A * (T * FD) / 18446744073709551616) := Nat.mul_le_mul_left _ (by omega)
        omega
      generalize A * (T * FD) / (TD * FN) = z at *
      omega)] at key
    exact key
  · have hno : idxOk amount tn td fn fd = false := by simpa using hok
    rw [(idx_no hno).1, (idx_no hno).2]
    exact Indexed2_no c0 c1 c2 c3 c4 c5 c6 c7 amount year ref tn td fn fd _ _ w (idx_not hok) HT HF HU HV

theorem Quotient1_any (A T FD TD FN : Nat) (w : World) (hA : A ≤ 1000000000000) (hT : 0 < T) (hT2 : T ≤ 10000000000000) (hTD : 1 ≤ TD) (hTD2 : TD ≤ 10000) (hFN : 0 < FN) (hFN2 : FN ≤ 10000000000000) (hFD : 1 ≤ FD) (hFD2 : FD ≤ 10000)
    (hok : idxOk A T TD FN FD = true) :
    Calls Try.prog 33 #[.int .i64 A, .int .i64 T, .int .i64 FD, .int .i64 TD, .int .i64 FN] w fun e w' =>
      e = .returned (.tuple #[.int .i64 (idxN A T TD FN FD), .int .i64 (idxE A T TD FN FD)]) ∧ w.Grows w' := by
  have hX : A * T ≤ 1000000000000 * 10000000000000 := Nat.mul_le_mul hA hT2
  have hP : A * T * FD ≤ 10000000000000000000000000 * 10000 := Nat.mul_le_mul hX hFD2
  have hY : TD * FN ≤ 10000 * 10000000000000 := Nat.mul_le_mul hTD2 hFN2
  have hY0 : 0 < TD * FN := Nat.mul_pos (by omega) hFN
  have hm : A * T / 18446744073709551616 * FD ≤ 542102 * 10000 := Nat.mul_le_mul (by omega) hFD2
  have hsum : A * T % 18446744073709551616 * FD + A * T / 18446744073709551616 * FD * 18446744073709551616 = A * (T * FD) := by
    have e := Nat.div_add_mod (A * T) 18446744073709551616
    have : (18446744073709551616 * (A * T / 18446744073709551616) + A * T % 18446744073709551616) * FD = A * T * FD := by rw [e]
    rw [Nat.add_mul, Nat.mul_assoc 18446744073709551616, Nat.mul_assoc A] at this
    omega
  have hr := remI_bd (A * (T * FD)) (TD * FN) hY0
  have hPP : A * (T * FD) < 340282366920938463463374607431768211456 := by rw [← Nat.mul_assoc]; omega
  refine Quotient1_walk A T FD TD FN (TD * FN : Nat) (hiW (A * T)) (loW (A * T)) (A * T / 18446744073709551616 * FD : Nat) (hiW (A * T % 18446744073709551616 * FD)) (loW (A * T % 18446744073709551616 * FD)) (hiW (A * (T * FD))) (loW (A * (T * FD))) _ _ w
    (by omega) (by omega) (by omega) (by omega) (by omega) (by omega) (by omega) (by omega) (by omega) (by omega) (by rw [← Int.natCast_mul]; exact wrapN _ (by omega))
    (fun w' => times1_any A T w' (by omega) (by omega)) (fun w' => ?_) (fun w' => ?_) (fun w' => ?_) (fun w' => ?_)
  · have := Try.bits_Mul64 (A * T / 18446744073709551616) FD (by omega) (by omega) w'
    rw [Nat.div_eq_of_lt (show A * T / 18446744073709551616 * FD < 18446744073709551616 by omega), Nat.mod_eq_of_lt (show A * T / 18446744073709551616 * FD < 18446744073709551616 by omega)] at this
    exact this.mono fun e w'' ⟨he, hw⟩ => ⟨he, hw.symm⟩
  · have := times1_any (A * T % 18446744073709551616) FD w' (Nat.mod_lt _ (by omega)) (by omega)
    exact this
  · have := plus1_any (A * T % 18446744073709551616 * FD) (A * T / 18446744073709551616 * FD * 18446744073709551616) w' (by rw [hsum]; exact hPP)
    rw [hsum] at this
    rw [show hiW (A * T / 18446744073709551616 * FD * 18446744073709551616) = (A * T / 18446744073709551616 * FD : Nat) by unfold hiW; rw [Nat.mul_div_cancel _ (by omega)], show loW (A * T / 18446744073709551616 * FD * 18446744073709551616) = 0 by unfold loW; rw [Nat.mul_mod_left]; rfl] at this
    exact this
  · have hle : A * (T * FD) / (TD * FN) ≤ A * (T * FD) := Nat.div_le_self _ _
    have := rounded1_walk (TD * FN : Nat) (hiW (A * (T * FD) / (TD * FN))) (loW (A * (T * FD) / (TD * FN))) (remI (A * (T * FD)) (TD * FN)) (hiW (A * (T * FD))) (loW (A * (T * FD))) w' (by omega) (by omega) (loW_bd _).1 hr.1 hr.2
      (fun w' => over1_any (A * (T * FD)) (TD * FN) w' hPP (by omega) hY0)
    have hv : idxV 1 (if (hiW (A * (T * FD) / (TD * FN)) != 0) = true then 1 else 0) (loW (A * (T * FD) / (TD * FN))) = .tuple #[.int .i64 (idxN A T TD FN FD), .int .i64 (idxE A T TD FN FD)] := by
      by_cases c : A * (T * FD) / (TD * FN) < 18446744073709551616
      · have e1 : hiW (A * (T * FD) / (TD * FN)) = 0 := by unfold hiW; rw [Nat.div_eq_of_lt c]; rfl
        have e2 : loW (A * (T * FD) / (TD * FN)) = idxQ A T TD FN FD := by rw [idxQ_nat]; unfold loW; rw [Nat.mod_eq_of_lt c]
        rw [e1, e2]
        exact idxV_eq hok (fun h => by simp at h)
      · have hq : 1000000000000 < idxQ A T TD FN FD := by rw [idxQ_nat]; generalize A * (T * FD) / (TD * FN) = z at *; omega
        have e1 : (hiW (A * (T * FD) / (TD * FN)) != 0) = true := by
          unfold hiW
          generalize A * (T * FD) / (TD * FN) = z at *
          rw [bne_iff_ne]; omega
        rw [if_pos e1, (idx_big hok hq).1, (idx_big hok hq).2, idxV, if_pos (.inl (Int.le_refl _))]
    rw [hv] at this
    exact this

theorem Indexed1_any (c0 c1 c2 c3 c4 c5 c6 c7 : Value) (n : Nat) (y nu de : Nat → Int) (amount year ref : Int) (w : World) (h : SeriesAt w c4 n y nu de)
    (hnu : ∀ i, i < n → -9223372036854775808 ≤ nu i ∧ nu i ≤ 9223372036854775807) (hde : ∀ i, i < n → -9223372036854775808 ≤ de i ∧ de i ≤ 9223372036854775807) :
    Calls Try.prog 15 #[.agg #[c0, c1, c2, c3, c4, c5, c6, c7], .int .i64 amount, .int .i64 year, .int .i64 ref] w fun e w' =>
      e = .returned (.tuple #[.int .i64 (idxN amount (facN y nu ref n) (facN y de ref n) (facN y nu year n) (facN y de year n)), .int .i64 (idxE amount (facN y nu ref n) (facN y de ref n) (facN y nu year n) (facN y de year n))]) ∧ w.Grows w' := by
  have HT : Hid (∀ w' : World, w.Grows w' → Calls Try.prog 13 #[.agg #[c0, c1, c2, c3, c4, c5, c6, c7], .int .i64 ref] w' fun e w'' => e = .returned (.agg #[.int .i64 (facN y nu ref n), .int .i64 (facN y de ref n)]) ∧ w'.Grows w'') := by
    rintro w' ⟨bs, d, rfl⟩
    exact Factor1_any c0 c1 c2 c3 c4 c5 c6 c7 n y nu de ref _ (h.grow bs d)
  have HF : Hid (∀ w' : World, w.Grows w' → Calls Try.prog 13 #[.agg #[c0, c1, c2, c3, c4, c5, c6, c7], .int .i64 year] w' fun e w'' => e = .returned (.agg #[.int .i64 (facN y nu year n), .int .i64 (facN y de year n)]) ∧ w'.Grows w'') := by
    rintro w' ⟨bs, d, rfl⟩
    exact Factor1_any c0 c1 c2 c3 c4 c5 c6 c7 n y nu de year _ (h.grow bs d)
  have r1 := facN_bd (y := y) (year := ref) hnu
  have r2 := facN_bd (y := y) (year := ref) hde
  have r3 := facN_bd (y := y) (year := year) hnu
  have r4 := facN_bd (y := y) (year := year) hde
  generalize facN y nu ref n = tn at *
  generalize facN y de ref n = td at *
  generalize facN y nu year n = fn at *
  generalize facN y de year n = fd at *
  have HU : Hid (∀ w' : World, Calls Try.prog 32 #[.agg #[.int .i64 tn, .int .i64 td]] w' fun e w'' => e = .returned (.bool (usableB tn td)) ∧ w'.Grows w'') := fun w' => usable1_any tn td w' r1.1 r1.2 r2.1 r2.2
  have HV : Hid (∀ w' : World, Calls Try.prog 32 #[.agg #[.int .i64 fn, .int .i64 fd]] w' fun e w'' => e = .returned (.bool (usableB fn fd)) ∧ w'.Grows w'') := fun w' => usable1_any fn fd w' r3.1 r3.2 r4.1 r4.2
  by_cases hok : idxOk amount tn td fn fd = true
  · have hok' := hok
    simp only [idxOk, Bool.and_eq_true] at hok'
    obtain ⟨A, T, TD, FN, FD, rfl, rfl, rfl, rfl, rfl, hA, hT, hT2, hTD, hTD2, hFN, hFN2, hFD, hFD2⟩ := idx_nats hok
    exact Indexed1_yes c0 c1 c2 c3 c4 c5 c6 c7 A year ref T TD FN FD _ _ _ _ w hok'.1.2 hok'.2 (by omega) (by omega) HT HF HU HV
      (fun w' => Quotient1_any A T FD TD FN w' hA hT hT2 hTD hTD2 hFN hFN2 hFD hFD2 hok)
  · have hno : idxOk amount tn td fn fd = false := by simpa using hok
    rw [(idx_no hno).1, (idx_no hno).2]
    exact Indexed1_no c0 c1 c2 c3 c4 c5 c6 c7 amount year ref tn td fn fd _ _ w (idx_not hok) HT HF HU HV
end Go.Proofs.Ytldelkkeimlfcaa
