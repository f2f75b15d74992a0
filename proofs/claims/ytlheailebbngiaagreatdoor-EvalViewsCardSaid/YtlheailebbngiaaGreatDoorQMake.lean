
import Derived.Test.YtlheailebbngiaaGreatDoorQDivAny
set_option linter.all false
namespace Go.Proofs.YtlheailebbngiaaGreatDoor
open Go.RowKit

def remI (n d : Nat) : Int := (n % d : Nat)
theorem remI_bd (n d : Nat) (h : 0 < d) : 0 ≤ remI n d ∧ remI n d < d := by
  unfold remI; have := Nat.mod_lt n h; omega

theorem over_nat (n d : Nat) (h0 : 0 < d) (_ : d < 18446744073709551616) :
    n / d / 18446744073709551616 = n / 18446744073709551616 / d ∧ n / d % 18446744073709551616 = (n / 18446744073709551616 % d * 18446744073709551616 + n % 18446744073709551616) / d ∧
    n % d = (n / 18446744073709551616 % d * 18446744073709551616 + n % 18446744073709551616) % d := by
  generalize hB : 18446744073709551616 = B at *
  have hB0 : 0 < B := by omega
  clear hB
  have e : n = d * (n / B / d * B) + (n / B % d * B + n % B) := by
    have a1 := Nat.div_add_mod n B
    have a2 := Nat.div_add_mod (n / B) d
    have a3 : B * (n / B) = B * (d * (n / B / d)) + B * (n / B % d) := by rw [← Nat.mul_add, a2]
    rw [Nat.mul_comm B (d * _), Nat.mul_assoc, Nat.mul_comm B (n / B % d)] at a3
    omega
  have hlt : (n / B % d * B + n % B) / d < B := by
    rw [Nat.div_lt_iff_lt_mul h0]
    have b1 := Nat.mod_lt (n / B) h0
    have b2 := Nat.mod_lt n hB0
    have b3 : (n / B % d + 1) * B ≤ d * B := Nat.mul_le_mul_right _ b1
    rw [Nat.add_mul, Nat.one_mul] at b3
    rw [Nat.mul_comm B d]
    omega
  have q : n / d = n / B / d * B + (n / B % d * B + n % B) / d := by
    conv => lhs; rw [e]
    rw [Nat.mul_add_div h0]
  refine ⟨?_, ?_, ?_⟩
  · rw [q, Nat.mul_comm _ B, Nat.mul_add_div hB0, Nat.div_eq_of_lt hlt, Nat.add_zero]
  · rw [q, Nat.mul_comm _ B, Nat.mul_add_mod, Nat.mod_eq_of_lt hlt]
  · conv => lhs; rw [e]
    rw [Nat.mul_add_mod]

theorem over1_any (n d : Nat) (w : World) (h1 : n < 340282366920938463463374607431768211456) (h2 : d < 18446744073709551616) (h0 : 0 < d) :
    Calls Tryz.prog 128 #[.agg #[.int .u64 (hiW n), .int .u64 (loW n)], .int .u64 d] w fun e w' => e = .returned (.tuple #[.agg #[.int .u64 (hiW (n / d)), .int .u64 (loW (n / d))], .int .u64 (remI n d)]) ∧ w.Grows w' := by
  obtain ⟨e1, e2, e3⟩ := over_nat n d h0 h2
  have hh := hiW_bd n h1
  refine over1_core _ _ _ _ _ _ w (by simp; omega) (by omega) hh.1 ?_ ?_
  · have : (hiW n).tdiv d = ((n / 18446744073709551616 / d : Nat) : Int) := by
      rw [Int.tdiv_eq_ediv_of_nonneg hh.1]; unfold hiW; simp
    rw [this, ← e1]
    have h3 : n / d ≤ n := Nat.div_le_self _ _
    unfold hiW
    generalize n / d = m at *
    exact IntWalk.u64_in _ (by omega)
  · intro w
    have := Div64_any (n / 18446744073709551616 % d) (n % 18446744073709551616) d w (Nat.mod_lt _ h0) (Nat.mod_lt _ (by omega)) h2
    rw [← e2, ← e3] at this
    simpa [hiW, loW, remI] using this

/-- lowest, as a plain function: numerator, denominator, error. -/
def lowN (neg : Bool) (n d : Nat) : Int := if 1000000000000000 < n / Nat.gcd n d ∨ 1000000000 < d / Nat.gcd n d then 0 else if neg then -((n / Nat.gcd n d : Nat) : Int) else (n / Nat.gcd n d : Nat)
def lowD (n d : Nat) : Int := if 1000000000000000 < n / Nat.gcd n d ∨ 1000000000 < d / Nat.gcd n d then 0 else (d / Nat.gcd n d : Nat)
def lowE (n d : Nat) : Int := if 1000000000000000 < n / Nat.gcd n d ∨ 1000000000 < d / Nat.gcd n d then 2 else 0

theorem gcd_rest (n d : Nat) (h0 : 0 < d) : gcdI d (remI n d) = (Nat.gcd n d : Nat) := by
  unfold gcdI remI
  simp only [Int.toNat_natCast]
  congr 1
  rw [Nat.gcd_comm n d, Nat.gcd_rec d n, Nat.gcd_comm]

def lowV (neg : Bool) (h l d : Int) : Value := if (h != 0) = true ∨ 1000000000000000 < l ∨ 1000000000 < d then .tuple #[.agg #[.int .i64 0, .int .i64 0], .int .i64 2] else .tuple #[.agg #[.int .i64 (if neg then -l else l), .int .i64 d], .int .i64 0]

set_option maxHeartbeats 2000000 in
/-- lowest, its walk, out of what its callees give. -/
theorem lowest1_walk (neg : Bool) (H L D r g h l h' l' rr : Int) (w : World) (hd : 0 ≤ D) (hd1 : D < 18446744073709551616) (hg0 : 1 ≤ g)
    (hl0 : 0 ≤ l') (hg00 : (g == 0) = false)
    (H1 : Hid (∀ w, Calls Tryz.prog 128 #[.agg #[.int .u64 H, .int .u64 L], .int .u64 D] w fun e w' => e = .returned (.tuple #[.agg #[.int .u64 h, .int .u64 l], .int .u64 r]) ∧ w.Grows w'))
    (H2 : Hid (∀ w, Calls Tryz.prog 100 #[.int .u64 D, .int .u64 r] w fun e w' => e = .returned (.int .u64 g) ∧ ∃ n, w' = w.drewN n))
    (H3 : Hid (∀ w, Calls Tryz.prog 128 #[.agg #[.int .u64 H, .int .u64 L], .int .u64 g] w fun e w' => e = .returned (.tuple #[.agg #[.int .u64 h', .int .u64 l'], .int .u64 rr]) ∧ w.Grows w')) :
    Calls Tryz.prog 90 #[.bool neg, .agg #[.int .u64 H, .int .u64 L], .int .u64 D] w fun e w' =>
      e = .returned (lowV neg h' l' (D / g)) ∧ w.Grows w' := by
  have hdg : 0 ≤ D / g := Int.ediv_nonneg hd (by omega)
  by_cases c1 : (h' != 0) = true
  · go_enter Tryz.func90, Tryz.ntmps90
    go_wp2_with fail
    refine (H1.out _).mono ?_
    rintro e w' ⟨rfl, bs, dr, rfl⟩
    go_wp2_with fail
    refine (H2.out _).mono ?_
    rintro e w' ⟨rfl, nn, rfl⟩
    go_wp2_with fail
    refine (H3.out _).mono ?_
    rintro e w' ⟨rfl, bs3, dr3, rfl⟩
    clear H1 H2 H3
    go_wp2_with fail
    go_returns
    exact ⟨by rw [lowV, if_pos (.inl c1)], .of_below (by (exact belB))⟩
  · have c1' : (h' != 0) = false := by simpa using c1
    clear c1
    by_cases c2 : (1000000000000000 : Int) < l'
    · go_enter Tryz.func90, Tryz.ntmps90
      go_wp2_with fail
      refine (H1.out _).mono ?_
      rintro e w' ⟨rfl, bs, dr, rfl⟩
      go_wp2_with fail
      refine (H2.out _).mono ?_
      rintro e w' ⟨rfl, nn, rfl⟩
      go_wp2_with fail
      refine (H3.out _).mono ?_
      rintro e w' ⟨rfl, bs3, dr3, rfl⟩
      clear H1 H2 H3
      go_wp2_with fail
      go_returns
      exact ⟨by rw [lowV, if_pos (.inr (.inl c2))], .of_below (by (exact belB))⟩
    · have c2' : decide ((1000000000000000 : Int) < l') = false := by simpa using c2
      by_cases c3 : (1000000000 : Int) < D / g
      · go_enter Tryz.func90, Tryz.ntmps90
        go_wp2_with fail
        refine (H1.out _).mono ?_
        rintro e w' ⟨rfl, bs, dr, rfl⟩
        go_wp2_with fail
        refine (H2.out _).mono ?_
        rintro e w' ⟨rfl, nn, rfl⟩
        go_wp2_with fail
        refine (H3.out _).mono ?_
        rintro e w' ⟨rfl, bs3, dr3, rfl⟩
        clear H1 H2 H3
        go_wp2_with fail
        go_returns
        exact ⟨by rw [lowV, if_pos (.inr (.inr c3))], .of_below (by (exact belB))⟩
      · have c3' : decide ((1000000000 : Int) < D / g) = false := by simpa using c3
        have hn : ¬ ((h' != 0) = true ∨ 1000000000000000 < l' ∨ 1000000000 < D / g) := by simp only [c1', Bool.false_eq_true, false_or, not_or]; exact ⟨c2, c3⟩
        have Hn := Lib.hid hn
        clear hn
        cases neg
        · go_enter Tryz.func90, Tryz.ntmps90
          go_wp2_with fail
          refine (H1.out _).mono ?_
          rintro e w' ⟨rfl, bs, dr, rfl⟩
          go_wp2_with fail
          refine (H2.out _).mono ?_
          rintro e w' ⟨rfl, nn, rfl⟩
          go_wp2_with fail
          refine (H3.out _).mono ?_
          rintro e w' ⟨rfl, bs3, dr3, rfl⟩
          clear H1 H2 H3
          go_wp2_with fail
          go_returns
          exact ⟨by rw [lowV, if_neg Hn.out]; rfl, .of_below (by (exact belB))⟩
        · go_enter Tryz.func90, Tryz.ntmps90
          go_wp2_with fail
          refine (H1.out _).mono ?_
          rintro e w' ⟨rfl, bs, dr, rfl⟩
          go_wp2_with fail
          refine (H2.out _).mono ?_
          rintro e w' ⟨rfl, nn, rfl⟩
          go_wp2_with fail
          refine (H3.out _).mono ?_
          rintro e w' ⟨rfl, bs3, dr3, rfl⟩
          clear H1 H2 H3
          go_wp2_with fail
          go_returns
          exact ⟨by rw [lowV, if_neg Hn.out]; rfl, .of_below (by (exact belB))⟩

/-- lowest: n over d in lowest terms, with a sign, if it is valid. -/
theorem lowest1_any (neg : Bool) (n d : Nat) (w : World) (h1 : n < 340282366920938463463374607431768211456) (h2 : d < 18446744073709551616) (h0 : 0 < d) :
    Calls Tryz.prog 90 #[.bool neg, .agg #[.int .u64 (hiW n), .int .u64 (loW n)], .int .u64 d] w fun e w' =>
      e = .returned (.tuple #[.agg #[.int .i64 (lowN neg n d), .int .i64 (lowD n d)], .int .i64 (lowE n d)]) ∧ w.Grows w' := by
  have hg : 0 < Nat.gcd n d := Nat.gcd_pos_of_pos_right _ h0
  have hgd : Nat.gcd n d ≤ d := Nat.gcd_le_right _ h0
  have hr := remI_bd n d h0
  refine (lowest1_walk neg (hiW n) (loW n) d (remI n d) (Nat.gcd n d : Nat) (hiW (n / d)) (loW (n / d)) (hiW (n / Nat.gcd n d)) (loW (n / Nat.gcd n d)) (remI n (Nat.gcd n d)) w (by omega) (by omega) (by omega)
    (loW_bd _).1 (by simp; omega) (fun w => over1_any n d w h1 h2 h0) (fun w => ?_) (fun w => over1_any n _ w h1 (by omega) hg)).mono ?_
  · have := gcd1_any d (remI n d) w (by omega) (by omega) hr.1 (by omega)
    rw [gcd_rest n d h0] at this
    exact this
  · rintro e w' ⟨rfl, hw⟩
    refine ⟨?_, hw⟩
    have hq : n / Nat.gcd n d ≤ n := Nat.div_le_self _ _
    have hdd : (d : Int) / (Nat.gcd n d : Nat) = (d / Nat.gcd n d : Nat) := by simp
    rw [hdd]
    unfold lowV lowN lowD lowE hiW loW
    generalize n / Nat.gcd n d = a at *
    generalize d / Nat.gcd n d = b at *
    by_cases c : 1000000000000000 < a ∨ 1000000000 < b
    · rw [if_pos c, if_pos c, if_pos c, if_pos (by
        by_cases ha : a / 18446744073709551616 = 0
        · right; omega
        · left; simp; omega)]
    · have ha : a / 18446744073709551616 = 0 := by omega
      have hb : a % 18446744073709551616 = a := by omega
      rw [if_neg c, if_neg c, if_neg c, if_neg (by rw [ha, hb]; simp; omega), hb]

/-- MakeFraction, as plain functions. -/
def mkN (n d : Int) : Int := if d = 0 then 0 else lowN (decide (n < 0) != decide (d < 0)) n.natAbs d.natAbs
def mkD (n d : Int) : Int := if d = 0 then 0 else lowD n.natAbs d.natAbs
def mkE (n d : Int) : Int := if d = 0 then 3 else lowE n.natAbs d.natAbs

set_option maxHeartbeats 2000000 in
theorem MakeFraction_any (n d : Int) (w : World) (h1 : -9223372036854775808 ≤ n) (h2 : n ≤ 9223372036854775807) (h3 : -9223372036854775808 ≤ d) (h4 : d ≤ 9223372036854775807) :
    Calls Tryz.prog 46 #[.int .i64 n, .int .i64 d] w fun e w' =>
      e = .returned (.tuple #[.agg #[.int .i64 (mkN n d), .int .i64 (mkD n d)], .int .i64 (mkE n d)]) ∧ w.Grows w' := by
  by_cases c : d = 0
  · subst c
    go_enter Tryz.func46, Tryz.ntmps46
    go_wp2_with fail
    go_returns
    exact ⟨rfl, .of_below (by (exact belB))⟩
  · have c' : (d == 0) = false := by simpa using c
    have hl : ∀ b, (decide (n < 0) != decide (d < 0)) = b → Hid (∀ w, Calls Tryz.prog 90 #[.bool b, .agg #[.int .u64 0, .int .u64 (absI n)], .int .u64 (absI d)] w fun e w' =>
        e = .returned (.tuple #[.agg #[.int .i64 (mkN n d), .int .i64 (mkD n d)], .int .i64 (mkE n d)]) ∧ w.Grows w') := by
      intro b hb w
      have := lowest1_any b n.natAbs d.natAbs w (by omega) (by omega) (by omega)
      rw [show hiW n.natAbs = 0 by unfold hiW; omega, show loW n.natAbs = absI n by unfold loW absI; omega] at this
      unfold mkN mkD mkE
      rw [if_neg c, if_neg c, if_neg c, hb]
      exact this
    clear c
    generalize mkN n d = N at *
    generalize mkD n d = D at *
    generalize mkE n d = E at *
    by_cases c1 : n < 0
    · by_cases c2 : d < 0
      · have hn := hl false (by simp [c1, c2])
        clear hl
        go_enter Tryz.func46, Tryz.ntmps46
        go_wp2_with (first | (go_at_call 91; refine (size1_any _ _ (by omega) (by omega)).mono ?_; rintro e w' ⟨rfl, rfl⟩) | (go_at_call 90; refine (hn.out _).mono ?_; rintro e w' ⟨rfl, bs, dr, rfl⟩; clear hn))
        go_returns
        exact ⟨rfl, .of_below (by (exact belB))⟩
      · have hn := hl true (by simp only [c1, c2]; rfl)
        clear hl
        go_enter Tryz.func46, Tryz.ntmps46
        go_wp2_with (first | (go_at_call 91; refine (size1_any _ _ (by omega) (by omega)).mono ?_; rintro e w' ⟨rfl, rfl⟩) | (go_at_call 90; refine (hn.out _).mono ?_; rintro e w' ⟨rfl, bs, dr, rfl⟩; clear hn))
        go_returns
        exact ⟨rfl, .of_below (by (exact belB))⟩
    · by_cases c2 : d < 0
      · have hn := hl true (by simp only [c1, c2]; rfl)
        clear hl
        go_enter Tryz.func46, Tryz.ntmps46
        go_wp2_with (first | (go_at_call 91; refine (size1_any _ _ (by omega) (by omega)).mono ?_; rintro e w' ⟨rfl, rfl⟩) | (go_at_call 90; refine (hn.out _).mono ?_; rintro e w' ⟨rfl, bs, dr, rfl⟩; clear hn))
        go_returns
        exact ⟨rfl, .of_below (by (exact belB))⟩
      · have hn := hl false (by simp only [c1, c2]; rfl)
        clear hl
        go_enter Tryz.func46, Tryz.ntmps46
        go_wp2_with (first | (go_at_call 91; refine (size1_any _ _ (by omega) (by omega)).mono ?_; rintro e w' ⟨rfl, rfl⟩) | (go_at_call 90; refine (hn.out _).mono ?_; rintro e w' ⟨rfl, bs, dr, rfl⟩; clear hn))
        go_returns
        exact ⟨rfl, .of_below (by (exact belB))⟩

end Go.Proofs.YtlheailebbngiaaGreatDoor

namespace Go.Proofs.YtlheailebbngiaaGreatDoor
open Go.RowKit
def carryW (a b : Nat) : Int := ((a % 18446744073709551616 + b % 18446744073709551616) / 18446744073709551616 : Nat)
theorem add64_run (a b : Nat) (w : World) : (callFunc 208 #[.int .u64 (loW a), .int .u64 (loW b), .int .u64 0]).run Tryz.prog w = .ok (.value (.tuple #[.int .u64 (loW (a + b)), .int .u64 (carryW a b)])) w := by
  rw [run_callFunc_extern Tryz.func208 (by kernel_rfl) (by kernel_rfl) (by kernel_rfl) (e := add64Entry) (by kernel_rfl)]
  unfold loW carryW
  have h := run_add64 (P := Tryz.prog) (w := w) ((a % 18446744073709551616 : Nat) : Int) ((b % 18446744073709551616 : Nat) : Int) 0 (by omega) (by omega) (by omega) (by omega)
  have e1 : (((a % 18446744073709551616 : Nat) : Int) + ((b % 18446744073709551616 : Nat) : Int) + 0) % 18446744073709551616 = (((a + b) % 18446744073709551616 : Nat) : Int) := by omega
  have e2 : (((a % 18446744073709551616 : Nat) : Int) + ((b % 18446744073709551616 : Nat) : Int) + 0) / 18446744073709551616 = (((a % 18446744073709551616 + b % 18446744073709551616) / 18446744073709551616 : Nat) : Int) := by omega
  rw [e1, e2] at h
  rw [h]
  rfl

theorem hi_plus (a b : Nat) (h : a + b < 340282366920938463463374607431768211456) : IntKind.u64.wrap (IntKind.u64.wrap (hiW a + hiW b) + carryW a b) = hiW (a + b) := by
  simp only [IntKind.wrap_u64]
  unfold hiW carryW
  omega

set_option maxHeartbeats 1000000 in
theorem plus1_any (a b : Nat) (w : World) (h : a + b < 340282366920938463463374607431768211456) :
    Calls Tryz.prog 190 #[.agg #[.int .u64 (hiW a), .int .u64 (loW a)], .agg #[.int .u64 (hiW b), .int .u64 (loW b)]] w fun e w' => e = .returned (.agg #[.int .u64 (hiW (a + b)), .int .u64 (loW (a + b))]) ∧ w.Grows w' := by
  have ha := add64_run a b
  have hp := Lib.hid (hi_plus a b h)
  clear h
  generalize hA : hiW a = A at *
  generalize hB : hiW b = B at *
  generalize loW a = La at *
  generalize loW b = Lb at *
  generalize hiW (a + b) = S at *
  generalize loW (a + b) = T at *
  generalize carryW a b = c at *
  clear hA hB
  go_enter Tryz.func190, Tryz.ntmps190
  go_wp2_with fail
  go_returns
  exact ⟨by rw [hp.out], .of_below (by (exact belB))⟩
end Go.Proofs.YtlheailebbngiaaGreatDoor
