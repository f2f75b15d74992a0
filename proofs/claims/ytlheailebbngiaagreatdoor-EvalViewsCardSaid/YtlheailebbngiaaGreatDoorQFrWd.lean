/- The numbers of 128 bits of both packages: products, sums, differences, quotients, comparisons. -/
import Derived.Test.YtlheailebbngiaaGreatDoorQMake
import Derived.Test.YtlheailebbngiaaGreatDoorQFrP
import Derived.Shelf.Spec.BitsCarry
set_option linter.all false
namespace Go.Proofs.YtlheailebbngiaaGreatDoor
open Go.RowKit

set_option maxHeartbeats 400000 in
theorem times2_any (a b : Nat) (w : World) (h1 : a < 18446744073709551616) (h2 : b < 18446744073709551616) :
    Calls Tryz.prog 183 #[.int .u64 a, .int .u64 b] w fun e w' => e = .returned (.agg #[.int .u64 (hiW (a * b)), .int .u64 (loW (a * b))]) ∧ w.Grows w' := by
  have H : Hid (∀ w, Calls Tryz.prog 133 #[.int .u64 a, .int .u64 b] w fun e w' => e = .returned (.tuple #[.int .u64 (hiW (a * b)), .int .u64 (loW (a * b))]) ∧ w' = w) := Tryz.bits_Mul64 a b h1 h2
  generalize a * b = n at *
  go_enter Tryz.func183, Tryz.ntmps183
  go_wp2_with fail
  refine (H.out _).mono ?_
  rintro e w' ⟨rfl, rfl⟩
  clear H
  go_wp2_with fail
  go_returns
  exact ⟨rfl, .of_below (by (exact belB))⟩
theorem add64_nat (x y c : Nat) (hc : c ≤ 1) (w : World) : (callFunc 208 #[.int .u64 x, .int .u64 y, .int .u64 c]).run Tryz.prog w =
    .ok (.value (.tuple #[.int .u64 (((x + y + c) % 18446744073709551616 : Nat) : Int), .int .u64 (((x + y + c) / 18446744073709551616 : Nat) : Int)])) w := by
  rw [run_callFunc_extern Tryz.func208 (by kernel_rfl) (by kernel_rfl) (by kernel_rfl) (e := add64Entry) (by kernel_rfl), run_add64 x y c (by omega) (by omega) (by omega) (by omega)]
  simp only [Result.andThen]
  congr 5 <;> omega
theorem sub64_nat (x y b : Nat) (hb : b ≤ 1) (w : World) : (callFunc 209 #[.int .u64 x, .int .u64 y, .int .u64 b]).run Tryz.prog w =
    .ok (.value (.tuple #[.int .u64 (((x + 18446744073709551616 - y - b) % 18446744073709551616 : Nat) : Int), .int .u64 ((if x < y + b then 1 else 0 : Nat) : Int)])) w := by
  rw [run_callFunc_extern Tryz.func209 (by kernel_rfl) (by kernel_rfl) (by kernel_rfl) (e := sub64Entry) (by kernel_rfl), run_sub64 x y b hb]
  rfl
def hiN (n : Nat) : Nat := n / 18446744073709551616
def loN (n : Nat) : Nat := n % 18446744073709551616
theorem add_words (a b : Nat) (h : a + b < 340282366920938463463374607431768211456) :
    (loN a + loN b + 0) % 18446744073709551616 = loN (a + b) ∧ (loN a + loN b + 0) / 18446744073709551616 ≤ 1 ∧ (hiN a + hiN b + (loN a + loN b + 0) / 18446744073709551616) % 18446744073709551616 = hiN (a + b) := by
  unfold loN hiN; omega
theorem sub_words (a b : Nat) (h : b ≤ a) (ha : a < 340282366920938463463374607431768211456) :
    (loN a + 18446744073709551616 - loN b - 0) % 18446744073709551616 = loN (a - b) ∧ (if loN a < loN b + 0 then 1 else 0) ≤ 1 ∧ (hiN a + 18446744073709551616 - hiN b - (if loN a < loN b + 0 then 1 else 0)) % 18446744073709551616 = hiN (a - b) := by
  unfold loN hiN; split <;> omega
set_option maxHeartbeats 1000000 in
theorem plus2_any (a b : Nat) (w : World) (h : a + b < 340282366920938463463374607431768211456) :
    Calls Tryz.prog 185 #[.agg #[.int .u64 (hiW a), .int .u64 (loW a)], .agg #[.int .u64 (hiW b), .int .u64 (loW b)]] w fun e w' => e = .returned (.agg #[.int .u64 (hiW (a + b)), .int .u64 (loW (a + b))]) ∧ w.Grows w' := by
  obtain ⟨e1, e2, e3⟩ := add_words a b h
  obtain ⟨c, hc⟩ : ∃ c, (loN a + loN b + 0) / 18446744073709551616 = c := ⟨_, rfl⟩
  have ha : ∀ w, (callFunc 208 #[.int .u64 (loW a), .int .u64 (loW b), .int .u64 0]).run Tryz.prog w = .ok (.value (.tuple #[.int .u64 (loW (a + b)), .int .u64 (c : Int)])) w := by
    intro w; have := add64_nat (loN a) (loN b) 0 (by omega) w; rw [e1, hc] at this; exact this
  have hb : ∀ w, (callFunc 208 #[.int .u64 (hiW a), .int .u64 (hiW b), .int .u64 (c : Int)]).run Tryz.prog w = .ok (.value (.tuple #[.int .u64 (hiW (a + b)), .int .u64 ((hiN a + hiN b + c) / 18446744073709551616 : Nat)])) w := by
    intro w; have := add64_nat (hiN a) (hiN b) c (by omega) w; rw [← hc, e3, hc] at this; exact this
  generalize (((hiN a + hiN b + c) / 18446744073709551616 : Nat) : Int) = z at *
  generalize (c : Int) = c' at *
  clear e1 e2 e3 hc h
  generalize hiW a = A at *
  generalize hiW b = B at *
  generalize loW a = La at *
  generalize loW b = Lb at *
  generalize hiW (a + b) = S at *
  generalize loW (a + b) = T at *
  go_enter Tryz.func185, Tryz.ntmps185
  go_wp2_with fail
  go_returns
  exact ⟨rfl, .of_below (by (exact belB))⟩
set_option maxHeartbeats 1000000 in
theorem minus2_any (a b : Nat) (w : World) (h : b ≤ a) (h2 : a < 340282366920938463463374607431768211456) :
    Calls Tryz.prog 186 #[.agg #[.int .u64 (hiW a), .int .u64 (loW a)], .agg #[.int .u64 (hiW b), .int .u64 (loW b)]] w fun e w' => e = .returned (.agg #[.int .u64 (hiW (a - b)), .int .u64 (loW (a - b))]) ∧ w.Grows w' := by
  obtain ⟨e1, e2, e3⟩ := sub_words a b h h2
  obtain ⟨c, hc⟩ : ∃ c, (if loN a < loN b + 0 then 1 else 0) = c := ⟨_, rfl⟩
  have ha : ∀ w, (callFunc 209 #[.int .u64 (loW a), .int .u64 (loW b), .int .u64 0]).run Tryz.prog w = .ok (.value (.tuple #[.int .u64 (loW (a - b)), .int .u64 (c : Int)])) w := by
    intro w; have := sub64_nat (loN a) (loN b) 0 (by omega) w; rw [e1, hc] at this; exact this
  have hb : ∀ w, (callFunc 209 #[.int .u64 (hiW a), .int .u64 (hiW b), .int .u64 (c : Int)]).run Tryz.prog w = .ok (.value (.tuple #[.int .u64 (hiW (a - b)), .int .u64 ((if hiN a < hiN b + c then 1 else 0 : Nat) : Int)])) w := by
    intro w; have := sub64_nat (hiN a) (hiN b) c (by omega) w; rw [← hc, e3, hc] at this; exact this
  generalize ((if hiN a < hiN b + c then 1 else 0 : Nat) : Int) = z at *
  generalize (c : Int) = c' at *
  clear e1 e2 e3 hc h h2
  generalize hiW a = A at *
  generalize hiW b = B at *
  generalize loW a = La at *
  generalize loW b = Lb at *
  generalize hiW (a - b) = S at *
  generalize loW (a - b) = T at *
  go_enter Tryz.func186, Tryz.ntmps186
  go_wp2_with fail
  go_returns
  exact ⟨rfl, .of_below (by (exact belB))⟩
theorem hi_minus (a b : Nat) (h : b ≤ a) (ha : a < 340282366920938463463374607431768211456) : IntKind.u64.wrap (IntKind.u64.wrap (hiW a - hiW b) - ((if loN a < loN b + 0 then 1 else 0 : Nat) : Int)) = hiW (a - b) := by
  simp only [IntKind.wrap_u64]
  unfold hiW loN
  split <;> omega
set_option maxHeartbeats 1000000 in
theorem minus1_any (a b : Nat) (w : World) (h : b ≤ a) (h2 : a < 340282366920938463463374607431768211456) :
    Calls Tryz.prog 191 #[.agg #[.int .u64 (hiW a), .int .u64 (loW a)], .agg #[.int .u64 (hiW b), .int .u64 (loW b)]] w fun e w' => e = .returned (.agg #[.int .u64 (hiW (a - b)), .int .u64 (loW (a - b))]) ∧ w.Grows w' := by
  have hp := hi_minus a b h h2
  obtain ⟨e1, e2, e3⟩ := sub_words a b h h2
  obtain ⟨c, hc⟩ : ∃ c, (if loN a < loN b + 0 then 1 else 0) = c := ⟨_, rfl⟩
  have ha : ∀ w, (callFunc 209 #[.int .u64 (loW a), .int .u64 (loW b), .int .u64 0]).run Tryz.prog w = .ok (.value (.tuple #[.int .u64 (loW (a - b)), .int .u64 (c : Int)])) w := by
    intro w; have := sub64_nat (loN a) (loN b) 0 (by omega) w; rw [e1, hc] at this; exact this
  rw [hc] at hp
  generalize (c : Int) = c' at *
  clear e1 e2 e3 hc h h2
  generalize hiW a = A at *
  generalize hiW b = B at *
  generalize loW a = La at *
  generalize loW b = Lb at *
  generalize hiW (a - b) = S at *
  generalize loW (a - b) = T at *
  go_enter Tryz.func191, Tryz.ntmps191
  go_wp2_with fail
  go_returns
  exact ⟨rfl, .of_below (by (exact belB))⟩
def wless (ah al bh bl : Int) : Bool := decide (ah < bh) || ((ah == bh) && decide (al < bl))
theorem wless_nat (a b : Nat) : wless (hiW a) (loW a) (hiW b) (loW b) = decide (a < b) := by
  unfold wless
  rw [Bool.eq_iff_iff]
  simp only [Bool.or_eq_true, Bool.and_eq_true, decide_eq_true_eq, beq_iff_eq]
  unfold hiW loW
  omega
set_option maxHeartbeats 1000000 in
theorem less1_any (ah al bh bl : Int) (w : World) :
    Calls Tryz.prog 102 #[.agg #[.int .u64 ah, .int .u64 al], .agg #[.int .u64 bh, .int .u64 bl]] w fun e w' => e = .returned (.bool (wless ah al bh bl)) ∧ w.Grows w' := by
  by_cases c1 : ah < bh
  · go_enter Tryz.func102, Tryz.ntmps102
    go_wp2_with fail
    go_returns
    exact ⟨ret_bool (by simp [wless, c1]), .of_below (by (exact belB))⟩
  · by_cases c2 : ah = bh
    · subst c2
      go_enter Tryz.func102, Tryz.ntmps102
      go_wp2_with fail
      go_returns
      exact ⟨ret_bool (by simp [wless]), .of_below (by (exact belB))⟩
    · have c3 : (ah == bh) = false := by simpa using c2
      go_enter Tryz.func102, Tryz.ntmps102
      go_wp2_with fail
      go_returns
      exact ⟨ret_bool (by simp [wless, c1, c3]), .of_below (by (exact belB))⟩
set_option maxHeartbeats 1000000 in
theorem less2_any (ah al bh bl : Int) (w : World) :
    Calls Tryz.prog 184 #[.agg #[.int .u64 ah, .int .u64 al], .agg #[.int .u64 bh, .int .u64 bl]] w fun e w' => e = .returned (.bool (wless ah al bh bl)) ∧ w.Grows w' := by
  by_cases c1 : ah < bh
  · go_enter Tryz.func184, Tryz.ntmps184
    go_wp2_with fail
    go_returns
    exact ⟨ret_bool (by simp [wless, c1]), .of_below (by (exact belB))⟩
  · by_cases c2 : ah = bh
    · subst c2
      go_enter Tryz.func184, Tryz.ntmps184
      go_wp2_with fail
      go_returns
      exact ⟨ret_bool (by simp [wless]), .of_below (by (exact belB))⟩
    · have c3 : (ah == bh) = false := by simpa using c2
      go_enter Tryz.func184, Tryz.ntmps184
      go_wp2_with fail
      go_returns
      exact ⟨ret_bool (by simp [wless, c1, c3]), .of_below (by (exact belB))⟩
set_option maxHeartbeats 400000 in
theorem over2_core (H L d q r Q : Int) (w : World) (a1 : (d == 0) = false) (a2 : 1 ≤ d) (h0 : 0 ≤ H)
    (a3 : IntKind.u64.wrap (H.tdiv d) = Q)
    (HD : Hid (∀ w, Calls Tryz.prog 167 #[.int .u64 (H % d), .int .u64 L, .int .u64 d] w fun e w' => e = .returned (.tuple #[.int .u64 q, .int .u64 r]) ∧ w.Grows w')) :
    Calls Tryz.prog 188 #[.agg #[.int .u64 H, .int .u64 L], .int .u64 d] w fun e w' => e = .returned (.agg #[.int .u64 Q, .int .u64 q]) ∧ w.Grows w' := by
  go_enter Tryz.func188, Tryz.ntmps188
  go_wp2_with fail
  go_region
  go_wp2_with fail
  refine (HD.out _).mono ?_
  rintro e w' ⟨rfl, bs, dr, rfl⟩
  clear HD
  go_wp2_with fail
  go_returns
  exact ⟨rfl, .of_below (by (exact belB))⟩
theorem over2_any (n d : Nat) (w : World) (h1 : n < 340282366920938463463374607431768211456) (h2 : d < 18446744073709551616) (h0 : 0 < d) :
    Calls Tryz.prog 188 #[.agg #[.int .u64 (hiW n), .int .u64 (loW n)], .int .u64 d] w fun e w' => e = .returned (.agg #[.int .u64 (hiW (n / d)), .int .u64 (loW (n / d))]) ∧ w.Grows w' := by
  obtain ⟨e1, e2, e3⟩ := over_nat n d h0 h2
  have hh := hiW_bd n h1
  refine over2_core _ _ _ _ (remI n d) _ w (by simp; omega) (by omega) hh.1 ?_ ?_
  · have : (hiW n).tdiv d = ((n / 18446744073709551616 / d : Nat) : Int) := by
      rw [Int.tdiv_eq_ediv_of_nonneg hh.1]; unfold hiW; simp
    rw [this, ← e1]
    have h3 : n / d ≤ n := Nat.div_le_self _ _
    unfold hiW
    generalize n / d = m at *
    exact IntWalk.u64_in _ (by omega)
  · intro w
    have := Div64_any (n / 18446744073709551616 % d) (n % 18446744073709551616) d w (Nat.mod_lt _ h0) (Nat.mod_lt _ (by omega)) h2
    rw [← e2, ← e3] at this
    simpa [hiW, loW, remI] using this
set_option maxHeartbeats 400000 in
theorem rem_core (H L d q r : Int) (w : World) (a1 : (d == 0) = false) (a2 : 1 ≤ d) (h0 : 0 ≤ H)
    (HD : Hid (∀ w, Calls Tryz.prog 167 #[.int .u64 (H % d), .int .u64 L, .int .u64 d] w fun e w' => e = .returned (.tuple #[.int .u64 q, .int .u64 r]) ∧ w.Grows w')) :
    Calls Tryz.prog 187 #[.int .u64 H, .int .u64 L, .int .u64 d] w fun e w' => e = .returned (.int .u64 r) ∧ w.Grows w' := by
  go_enter Tryz.func187, Tryz.ntmps187
  go_wp2_with fail
  refine (HD.out _).mono ?_
  rintro e w' ⟨rfl, bs, dr, rfl⟩
  clear HD
  go_wp2_with fail
  go_returns
  exact ⟨rfl, .of_below (by (exact belB))⟩
theorem Rem64_any (n d : Nat) (w : World) (h1 : n < 340282366920938463463374607431768211456) (h2 : d < 18446744073709551616) (h0 : 0 < d) :
    Calls Tryz.prog 187 #[.int .u64 (hiW n), .int .u64 (loW n), .int .u64 d] w fun e w' => e = .returned (.int .u64 (remI n d)) ∧ w.Grows w' := by
  obtain ⟨e1, e2, e3⟩ := over_nat n d h0 h2
  have hh := hiW_bd n h1
  refine rem_core _ _ _ (loW (n / d)) _ w (by simp; omega) (by omega) hh.1 ?_
  intro w
  have := Div64_any (n / 18446744073709551616 % d) (n % 18446744073709551616) d w (Nat.mod_lt _ h0) (Nat.mod_lt _ (by omega)) h2
  rw [← e2, ← e3] at this
  simpa [hiW, loW, remI] using this
/-- within: a fraction of two wide numbers, if it is valid. -/
def witV (neg : Bool) (h l k d : Int) : Value := if (h != 0) = true ∨ 1000000000000000 < l ∨ (k != 0) = true ∨ 1000000000 < d then .tuple #[.agg #[.int .i64 0, .int .i64 0], .int .i64 2] else .tuple #[.agg #[.int .i64 (if neg then -l else l), .int .i64 d], .int .i64 0]
set_option maxHeartbeats 2000000 in
theorem within2_any (neg : Bool) (h l k d : Int) (w : World) (hl0 : 0 ≤ l) (hd0 : 0 ≤ d) :
    Calls Tryz.prog 99 #[.bool neg, .agg #[.int .u64 h, .int .u64 l], .agg #[.int .u64 k, .int .u64 d]] w fun e w' => e = .returned (witV neg h l k d) ∧ w.Grows w' := by
  by_cases c1 : (h != 0) = true
  · go_enter Tryz.func99, Tryz.ntmps99
    go_wp2_with fail
    go_returns
    exact ⟨by rw [witV, if_pos (.inl c1)], .of_below (by (exact belB))⟩
  · have c1' : (h != 0) = false := by simpa using c1
    by_cases c2 : (1000000000000000 : Int) < l
    · clear c1
      go_enter Tryz.func99, Tryz.ntmps99
      go_wp2_with fail
      go_returns
      exact ⟨by rw [witV, if_pos (.inr (.inl c2))], .of_below (by (exact belB))⟩
    · have c2' : decide ((1000000000000000 : Int) < l) = false := by simpa using c2
      by_cases c3 : (k != 0) = true
      · clear c1
        go_enter Tryz.func99, Tryz.ntmps99
        go_wp2_with fail
        go_returns
        exact ⟨by rw [witV, if_pos (.inr (.inr (.inl c3)))], .of_below (by (exact belB))⟩
      · have c3' : (k != 0) = false := by simpa using c3
        by_cases c4 : (1000000000 : Int) < d
        · clear c1 c3
          go_enter Tryz.func99, Tryz.ntmps99
          go_wp2_with fail
          go_returns
          exact ⟨by rw [witV, if_pos (.inr (.inr (.inr c4)))], .of_below (by (exact belB))⟩
        · have c4' : decide ((1000000000 : Int) < d) = false := by simpa using c4
          have Hn := Lib.hid (show ¬ ((h != 0) = true ∨ 1000000000000000 < l ∨ (k != 0) = true ∨ 1000000000 < d) by
            rintro (x | x | x | x)
            · exact c1 x
            · exact c2 x
            · exact c3 x
            · exact c4 x)
          clear c1 c3
          cases neg
          · go_enter Tryz.func99, Tryz.ntmps99
            go_wp2_with fail
            go_returns
            exact ⟨by rw [witV, if_neg Hn.out]; rfl, .of_below (by (exact belB))⟩
          · go_enter Tryz.func99, Tryz.ntmps99
            go_wp2_with fail
            go_returns
            exact ⟨by rw [witV, if_neg Hn.out]; rfl, .of_below (by (exact belB))⟩
end Go.Proofs.YtlheailebbngiaaGreatDoor
