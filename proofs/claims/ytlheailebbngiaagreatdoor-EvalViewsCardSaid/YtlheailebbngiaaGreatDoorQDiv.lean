
import Derived.Test.YtlheailebbngiaaGreatDoorQBase
import Derived.Test.YtlheailebbngiaaGreatDoorQShelf
import Derived.Lib.Hide
set_option linter.all false
namespace Go.Proofs.YtlheailebbngiaaGreatDoor
open Go.RowKit

theorem ret_u2 {a b c d : Int} (h : a = c) (h' : b = d) : Ending.returned (.tuple #[.int .u64 a, .int .u64 b]) = .returned (.tuple #[.int .u64 c, .int .u64 d]) := by rw [h, h']

theorem Knuth.step (q r n1 n0 u u1 : Nat) (hu : q * n1 + r = u) (hlt : u < n1 * 4294967296 + n0) (h1 : u1 < 4294967296)
    (_hq : (u * 4294967296 + u1) / (n1 * 4294967296 + n0) ≤ q) (hc : 4294967296 ≤ q ∨ 4294967296 * r + u1 < q * n0) : 1 ≤ q ∧ (u * 4294967296 + u1) / (n1 * 4294967296 + n0) ≤ q - 1 := by
  have hy : 0 < n1 * 4294967296 + n0 := by omega
  have key : (u * 4294967296 + u1) / (n1 * 4294967296 + n0) < q := by
    rcases hc with h | h
    · rw [Nat.div_lt_iff_lt_mul hy]
      have : 4294967296 * (n1 * 4294967296 + n0) ≤ q * (n1 * 4294967296 + n0) := Nat.mul_le_mul_right _ h
      omega
    · rw [Nat.div_lt_iff_lt_mul hy]
      have : q * (n1 * 4294967296 + n0) = (q * n1) * 4294967296 + q * n0 := by rw [Nat.mul_add, Nat.mul_assoc]
      omega
  generalize (u * 4294967296 + u1) / (n1 * 4294967296 + n0) = z at *
  omega

theorem Knuth.out (q r n1 n0 u u1 : Nat) (hu : q * n1 + r = u) (hlt : u < n1 * 4294967296 + n0)
    (hq : (u * 4294967296 + u1) / (n1 * 4294967296 + n0) ≤ q) (hc : q * n0 ≤ 4294967296 * r + u1) : q = (u * 4294967296 + u1) / (n1 * 4294967296 + n0) := by
  have hy : 0 < n1 * 4294967296 + n0 := by omega
  have : q ≤ (u * 4294967296 + u1) / (n1 * 4294967296 + n0) := by
    rw [Nat.le_div_iff_mul_le hy]
    have : q * (n1 * 4294967296 + n0) = (q * n1) * 4294967296 + q * n0 := by rw [Nat.mul_add, Nat.mul_assoc]
    omega
  generalize (u * 4294967296 + u1) / (n1 * 4294967296 + n0) = z at *
  omega

theorem Knuth.brk (q r n1 n0 u u1 : Nat) (hu : q * n1 + r = u) (hlt : u < n1 * 4294967296 + n0) (h0 : n0 < 4294967296) (hr : 4294967296 ≤ r) : q * n0 ≤ 4294967296 * r + u1 := by
  have hq : q < 4294967296 := by
    rcases Nat.lt_or_ge q 4294967296 with h | h
    · exact h
    · have : 4294967296 * n1 ≤ q * n1 := Nat.mul_le_mul_right _ h
      omega
  have h1 : q * n0 ≤ 4294967296 * 4294967296 := Nat.mul_le_mul (by omega) (by omega)
  omega

set_option maxHeartbeats 400000 in
theorem Div64_small (lo y : Nat) (w : World) (h1 : lo < 18446744073709551616) (h2 : y < 18446744073709551616) (h0 : 0 < y) :
    Calls Tryz.prog 167 #[.int .u64 0, .int .u64 lo, .int .u64 y] w fun e w' => e = .returned (.tuple #[.int .u64 (lo / y : Nat), .int .u64 (lo % y : Nat)]) ∧ w.Grows w' := by
  have a1 : ((y : Int) == 0) = false := by simp; omega
  have a2 : (1 : Int) ≤ y := by omega
  go_enter Tryz.func167, Tryz.ntmps167
  go_wp2_with fail
  go_quiet (fail)
  go_wp2_with fail
  go_ret2
  have hd : (lo : Int) / y = ((lo / y : Nat) : Int) := by simp
  refine ⟨ret_u2 ?_ (by simp), .of_below ?_⟩
  · have hl := Nat.div_le_self lo y
    rw [hd]
    generalize lo / y = z at *
    exact IntWalk.u64_in _ (by omega)
  · exact ⟨rfl, rfl, rfl, Nat.le_refl _, fun _ _ => rfl⟩


theorem Knuth.init (U n1 n0 : Nat) (hU : U < n1 * 4294967296 + n0) (b2 : 2147483648 ≤ n1) (b3 : n0 < 4294967296) : U / n1 ≤ 4294967298 := by
  have : U / n1 < 4294967299 := by
    rw [Nat.div_lt_iff_lt_mul (by omega)]; omega
  omega

theorem Knuth.wrap1 (U n1 : Nat) (h : U / n1 ≤ 4294967298) : IntKind.u64.wrap (↑U / ↑n1) = ((U / n1 : Nat) : Int) := by
  have hd : (U : Int) / n1 = ((U / n1 : Nat) : Int) := by simp
  rw [hd]
  generalize U / n1 = z at *
  exact IntWalk.u64_in _ (by omega)

theorem Knuth.wrap2 (U n1 : Nat) (hU : U < 18446744073709551616) : IntKind.u64.wrap (↑U - IntKind.u64.wrap (((U / n1 : Nat) : Int) * ↑n1)) = ((U % n1 : Nat) : Int) := by
  have h1 := Nat.div_mul_le_self U n1
  have h2 := Nat.div_add_mod U n1
  have h3 : ((U / n1 : Nat) : Int) * (n1 : Int) = ((U / n1 * n1 : Nat) : Int) := by rw [Int.natCast_mul]
  rw [h3]
  rw [Nat.mul_comm] at h2
  generalize U / n1 * n1 = z at *
  generalize U % n1 = y at *
  rw [IntWalk.u64_in (z : Int) (by omega)]
  rw [IntWalk.u64_in _ (by omega)]; omega

theorem Knuth.wrapq (q n0 : Nat) (hq : q < 4294967296) (h0 : n0 < 4294967296) : IntKind.u64.wrap (↑q * ↑n0) = ((q * n0 : Nat) : Int) := by
  have h1 : q * n0 ≤ 4294967295 * 4294967295 := Nat.mul_le_mul (by omega) (by omega)
  rw [← Int.natCast_mul]
  generalize q * n0 = z at *
  exact IntWalk.u64_in _ (by omega)

/-- What is left behind a step: below y, so that the wraps do not matter. -/
theorem Knuth.rest (U l1 Y Q : Nat) (hY : Y < 18446744073709551616) (hQ : Q = (U * 4294967296 + l1) / Y) (h0 : 0 < Y) :
    IntKind.u64.wrap (IntKind.u64.wrap (IntKind.u64.wrap (↑U * 4294967296) + ↑l1) - IntKind.u64.wrap (↑Q * ↑Y)) = (((U * 4294967296 + l1) % Y : Nat) : Int) := by
  have h2 := Nat.div_add_mod (U * 4294967296 + l1) Y
  rw [← hQ, Nat.mul_comm] at h2
  have hm := Nat.mod_lt (U * 4294967296 + l1) h0
  rw [← Int.natCast_mul Q Y]
  generalize Q * Y = z at *
  generalize hr : (U * 4294967296 + l1) % Y = r at *
  simp only [IntKind.wrap_u64]
  omega

theorem Knuth.start (U n1 n0 l1 : Nat) (h : n1 ≠ 0) (b4 : l1 < 4294967296) : (U * 4294967296 + l1) / (n1 * 4294967296 + n0) ≤ U / n1 := by
  have h1 : (U * 4294967296 + l1) / (n1 * 4294967296) = U / n1 := by
    rw [Nat.mul_comm n1, ← Nat.div_div_eq_div_mul]
    congr 1
    omega
  rw [← h1]
  exact Nat.div_le_div_left (by omega) (by omega)

/-- The two quotients and the rest, put together. -/
theorem Knuth.fin (B D y s U Y l1 l0 k V k2 : Nat) (hy : 0 < y) (hD : D * 2 ^ s = (U * B + l1) * B + l0) (hY : Y = y * 2 ^ s)
    (hk : k = (U * B + l1) / Y) (hV : V = (U * B + l1) % Y) (hk2 : k2 = (V * B + l0) / Y) :
    k * B + k2 = D / y ∧ (V * B + l0) % Y = D % y * 2 ^ s := by
  have hp : 0 < 2 ^ s := Nat.two_pow_pos s
  have hY0 : 0 < Y := by rw [hY]; exact Nat.mul_pos hy hp
  have e1 := Nat.div_add_mod (U * B + l1) Y
  rw [← hk, ← hV] at e1
  have e2 := Nat.div_add_mod (V * B + l0) Y
  rw [← hk2] at e2
  have hlt := Nat.mod_lt (V * B + l0) hY0
  have hsum : Y * (k * B + k2) + (V * B + l0) % Y = D * 2 ^ s := by
    rw [hD, ← e1, Nat.mul_add, Nat.add_mul, Nat.mul_assoc]
    generalize (V * B + l0) % Y = z at *
    omega
  have q : D * 2 ^ s / Y = k * B + k2 := by
    rw [← hsum, Nat.mul_add_div hY0, Nat.div_eq_of_lt hlt, Nat.add_zero]
  have r : D * 2 ^ s % Y = (V * B + l0) % Y := by
    rw [← hsum, Nat.mul_add_mod, Nat.mod_eq_of_lt hlt]
  constructor
  · rw [← q, hY, Nat.mul_div_mul_right _ _ hp]
  · rw [← r, hY, Nat.mul_mod_mul_right]

theorem Knuth.qlt (U l1 Y k : Nat) (hk : k = (U * 4294967296 + l1) / Y) (hU : U < Y) (h1 : l1 < 4294967296) : k < 4294967296 := by
  rw [hk, Nat.div_lt_iff_lt_mul (by omega)]
  omega

theorem Knuth.join (k k2 : Nat) (h : k < 4294967296) (h2 : k2 < 4294967296) : IntKind.u64.wrap (IntKind.u64.wrap (↑k * 4294967296) + ↑k2) = ((k * 4294967296 + k2 : Nat) : Int) := by
  rw [IntWalk.u64_in ((k : Int) * 4294967296) (by omega), IntWalk.u64_in _ (by omega)]; omega

theorem Knuth.joinq (k k2 q : Nat) (_ : k < 4294967296) (_ : k2 < 4294967296) (h : k * 4294967296 + k2 = q) :
    (k : Int) * 4294967296 + k2 = q := by omega

theorem Knuth.joinq2 (k k2 q : Nat) (h1 : k < 4294967296) (h2 : k2 < 4294967296) (h : k * 4294967296 + k2 = q) :
    IntKind.u64.wrap (↑k * 4294967296 + ↑k2) = (q : Int) := by
  rw [IntWalk.u64_in _ (by omega)]; omega
theorem Knuth.joinq3 (k k2 q : Nat) (h1 : k < 4294967296) (h2 : k2 < 4294967296) (h : k * 4294967296 + k2 = q) :
    IntKind.u64.wrap (IntKind.u64.wrap (↑k * 4294967296) + ↑k2) = (q : Int) := by
  rw [Knuth.join k k2 h1 h2, h]

theorem Knuth.shift (a s : Nat) : ((a * 2 ^ s : Nat) : Int) / 2 ^ s = a := by
  rw [show ((2 : Int) ^ s) = ((2 ^ s : Nat) : Int) by simp, ← Int.natCast_ediv, Nat.mul_div_cancel _ (Nat.two_pow_pos s)]

def Div64_rel (U n1 n0 l1 : Nat) (x y : Value) : Prop :=
  ∃ q r : Nat, x = .int .u64 q ∧ y = .int .u64 r ∧ q * n1 + r = U ∧ (U * 4294967296 + l1) / (n1 * 4294967296 + n0) ≤ q ∧ (r : Int) < 4294967296 ∧ (q : Int) ≤ 4294967298

set_option maxHeartbeats 4000000 in
set_option maxRecDepth 100000 in
theorem Div64_core (D hi lo y s Y n1 n0 U L l1 l0 Qr Rr : Nat) (w : World) (hh : hi < y) (h0 : 0 < hi) (hs : s ≤ 63)
    (e1 : IntKind.u64.wrap (↑y * 2 ^ s) = ↑Y) (e2 : (Y : Int) / 4294967296 = ↑n1) (e3 : bits BinOp.and IntKind.u64 ↑Y 4294967295 = ↑n0)
    (e4 : bits BinOp.or IntKind.u64 (IntKind.u64.wrap (↑hi * 2 ^ s)) (↑lo / 2 ^ (64 - s)) = ↑U) (e5 : IntKind.u64.wrap (↑lo * 2 ^ s) = ↑L)
    (e6 : (L : Int) / 4294967296 = ↑l1) (e7 : bits BinOp.and IntKind.u64 ↑L 4294967295 = ↑l0)
    (b1 : n1 < 4294967296) (b2 : 2147483648 ≤ n1) (b3 : n0 < 4294967296) (b4 : l1 < 4294967296) (b5 : l0 < 4294967296) (bY : Hid (Y = n1 * 4294967296 + n0)) (bU : Hid (U < n1 * 4294967296 + n0))
    (HD : Hid (D * 2 ^ s = (U * 4294967296 + l1) * 4294967296 + l0)) (HY : Hid (Y = y * 2 ^ s)) (HQr : Hid (Qr = D / y)) (HRr : Hid (Rr = D % y))
    (H' : Hid (∀ w, Calls Tryz.prog 197 #[.int .u64 y] w fun e w' => e = .returned (.int .i64 s) ∧ w = w')) :
    Calls Tryz.prog 167 #[.int .u64 hi, .int .u64 lo, .int .u64 y] w fun e w' => e = .returned (.tuple #[.int .u64 Qr, .int .u64 Rr]) ∧ w.Grows w' := by
  have a1 : ((y : Int) == 0) = false := by simp; omega
  have a3 : ((hi : Int) == 0) = false := by simp; omega
  have a2 : (1 : Int) ≤ y := by omega
  have a4 : (1 : Int) ≤ n1 := by omega
  have a5 : ((n1 : Int) == 0) = false := by simp; omega
  have bU' := bU.out
  have hQ := Knuth.init U n1 n0 bU' b2 b3
  have f1 := Knuth.wrap1 U n1 hQ
  have f2 := Knuth.wrap2 U n1 (by omega)
  have g1 : Hid (U / n1 * n1 + U % n1 = U) := by have := Nat.div_add_mod U n1; rw [Nat.mul_comm] at this; exact this
  have g2 : U % n1 < n1 := Nat.mod_lt _ (by omega)
  have g3 : Hid ((U * 4294967296 + l1) / (n1 * 4294967296 + n0) ≤ U / n1) := by
    exact Knuth.start U n1 n0 l1 (by omega) b4
  generalize U / n1 = Q at *
  generalize U % n1 = R at *
  clear bU'
  go_enter Tryz.func167, Tryz.ntmps167
  go_wp2_with fail
  refine (H'.out _).mono ?_
  rintro e w' ⟨rfl, rfl⟩
  clear H'
  go_wp2_with fail
  go_loop [15, 16] (fun x y => Div64_rel U n1 n0 l1 x y) (fun x _ => (intOf x).toNat)
  case atStart => exact ⟨Q, R, rfl, rfl, g1.out, g3.out, by omega, by omega⟩
  case round =>
    clear f1 f2 g1 g2 g3 hQ
    obtain ⟨q, r, rfl, rfl, hu, hq, hr, hb⟩ := hrel
    have Hu := Lib.hid hu
    have Hq := Lib.hid hq
    clear hu hq
    by_cases c1 : (4294967296 : Int) ≤ q
    · obtain ⟨h1q, hq1⟩ := Knuth.step q r n1 n0 U l1 Hu.out bU.out b4 Hq.out (.inl (by omega))
      obtain ⟨k, hk⟩ : ∃ k, q = k + 1 := ⟨q - 1, by omega⟩
      have e8 : (q : Int) - 1 = ↑k := by omega
      have Hk0 := Lib.hid hk
      clear hk
      have Hq1 := Lib.hid (by have := Hk0.out; rw [this] at hq1; exact hq1)
      clear hq1 h1q
      have Hu2 : Hid (k * n1 + (r + n1) = U) := by have := Hu.out; rw [Hk0.out, Nat.add_mul] at this; simp only [Hid]; omega
      by_cases c2 : (4294967296 : Int) ≤ (r : Int) + n1
      · have Hk : Hid (k = (U * 4294967296 + l1) / Y) := by
          rw [Hid, bY.out]
          exact Knuth.out _ (r + n1) _ _ _ _ Hu2.out bU.out Hq1.out (Knuth.brk _ _ _ _ _ _ Hu2.out bU.out b3 (by omega))
        have klt : Hid (k < 4294967296) := Knuth.qlt U l1 Y k Hk.out (by have := bU.out; have := bY.out; omega) b4
        clear Hu Hu2 Hq1 Hq
        have r1 := Knuth.rest U l1 Y k (by have := bY.out; omega) Hk.out (by have := bY.out; omega)
        have Vlt : Hid ((U * 4294967296 + l1) % Y < Y) := Nat.mod_lt _ (by have := bY.out; omega)
        generalize hV : (U * 4294967296 + l1) % Y = V at *
        have HV := Lib.hid hV
        clear hV
        have Vlt' : V < n1 * 4294967296 + n0 := by have := Vlt.out; have := bY.out; omega
        have hQ2 := Knuth.init V n1 n0 Vlt' b2 b3
        have f3 := Knuth.wrap1 V n1 hQ2
        have f4 := Knuth.wrap2 V n1 (by omega)
        have g4 : Hid (V / n1 * n1 + V % n1 = V) := by have := Nat.div_add_mod V n1; rw [Nat.mul_comm] at this; exact this
        have g5 : V % n1 < n1 := Nat.mod_lt _ (by omega)
        have g6 : Hid ((V * 4294967296 + l0) / (n1 * 4294967296 + n0) ≤ V / n1) := Knuth.start V n1 n0 l0 (by omega) b5
        generalize V / n1 = Q2 at *
        generalize V % n1 = R2 at *
        clear Vlt'
        go_wp2_with fail
        go_loop [18, 16] (fun x y => Div64_rel V n1 n0 l0 x y) (fun x _ => (intOf x).toNat)
        case atStart => exact ⟨Q2, R2, rfl, rfl, g4.out, g6.out, by omega, by omega⟩
        case round =>
          clear f3 f4 g4 g5 g6 hQ2
          obtain ⟨q, r, rfl, rfl, hu, hq, hr, hb⟩ := hrel
          have Hu := Lib.hid hu
          have Hq := Lib.hid hq
          clear hu hq
          by_cases c1 : (4294967296 : Int) ≤ q
          · obtain ⟨h1q, hq1⟩ := Knuth.step q r n1 n0 V l0 Hu.out (by have := Vlt.out; have := bY.out; omega) b5 Hq.out (.inl (by omega))
            obtain ⟨k2, hk⟩ : ∃ k2, q = k2 + 1 := ⟨q - 1, by omega⟩
            have e8 : (q : Int) - 1 = ↑k2 := by omega
            have Hk0 := Lib.hid hk
            clear hk
            have Hq1 := Lib.hid (by have := Hk0.out; rw [this] at hq1; exact hq1)
            clear hq1 h1q
            have Hu2 : Hid (k2 * n1 + (r + n1) = V) := by have := Hu.out; rw [Hk0.out, Nat.add_mul] at this; simp only [Hid]; omega
            by_cases c2 : (4294967296 : Int) ≤ (r : Int) + n1
            · have Hk2 : Hid (k2 = (V * 4294967296 + l0) / Y) := by
                rw [Hid, bY.out]
                exact Knuth.out _ (r + n1) _ _ _ _ Hu2.out (by have := Vlt.out; have := bY.out; omega) Hq1.out (Knuth.brk _ _ _ _ _ _ Hu2.out (by have := Vlt.out; have := bY.out; omega) b3 (by omega))
              have r2 := Knuth.rest V l0 Y k2 (by have := bY.out; omega) Hk2.out (by have := bY.out; omega)
              have Hf := Lib.hid (Knuth.fin 4294967296 D y s U Y l1 l0 k V k2 (by omega) HD.out HY.out Hk.out HV.out.symm Hk2.out)
              have k2lt : Hid (k2 < 4294967296) := Knuth.qlt V l0 Y k2 Hk2.out Vlt.out b5
              go_wp2_with fail
              go_ret2
              refine ⟨ret_u2 ?_ ?_, .refl _⟩
              · have hj : k * 4294967296 + k2 = Qr := by rw [Hf.out.1]; exact HQr.out.symm
                first
                  | exact Knuth.joinq k k2 Qr klt.out k2lt.out hj
                  | exact Knuth.joinq2 k k2 Qr klt.out k2lt.out hj
                  | exact Knuth.joinq3 k k2 Qr klt.out k2lt.out hj
              · have h := congrArg (fun x : Nat => (x : Int) / 2 ^ s) Hf.out.2
                simp only [Knuth.shift] at h
                rw [← HRr.out] at h
                exact h
            · go_wp2_with fail
              exact ⟨⟨k2, r + n1, by simp, by simp, Hu2.out, Hq1.out, by omega, by omega⟩, by simp [intOf]; omega⟩
          · have m1 := Knuth.wrapq q n0 (by omega) b3
            have m2 : ((q * n0 : Nat) : Int) ≤ 18446744065119617025 := by
              have : q * n0 ≤ 4294967295 * 4294967295 := Nat.mul_le_mul (by omega) (by omega)
              omega
            generalize hm : q * n0 = m at *
            have Hm := Lib.hid hm
            clear hm
            by_cases c3 : (4294967296 : Int) * r + l0 < m
            · obtain ⟨h1q, hq1⟩ := Knuth.step q r n1 n0 V l0 Hu.out (by have := Vlt.out; have := bY.out; omega) b5 Hq.out (.inr (by have := Hm.out; omega))
              obtain ⟨k2, hk⟩ : ∃ k2, q = k2 + 1 := ⟨q - 1, by omega⟩
              have e8 : (q : Int) - 1 = ↑k2 := by omega
              have Hk0 := Lib.hid hk
              clear hk
              have Hq1 := Lib.hid (by have := Hk0.out; rw [this] at hq1; exact hq1)
              clear hq1 h1q
              have Hu2 : Hid (k2 * n1 + (r + n1) = V) := by have := Hu.out; rw [Hk0.out, Nat.add_mul] at this; simp only [Hid]; omega
              by_cases c2 : (4294967296 : Int) ≤ (r : Int) + n1
              · have Hk2 : Hid (k2 = (V * 4294967296 + l0) / Y) := by
                  rw [Hid, bY.out]
                  exact Knuth.out _ (r + n1) _ _ _ _ Hu2.out (by have := Vlt.out; have := bY.out; omega) Hq1.out (Knuth.brk _ _ _ _ _ _ Hu2.out (by have := Vlt.out; have := bY.out; omega) b3 (by omega))
                have r2 := Knuth.rest V l0 Y k2 (by have := bY.out; omega) Hk2.out (by have := bY.out; omega)
                have Hf := Lib.hid (Knuth.fin 4294967296 D y s U Y l1 l0 k V k2 (by omega) HD.out HY.out Hk.out HV.out.symm Hk2.out)
                have k2lt : Hid (k2 < 4294967296) := Knuth.qlt V l0 Y k2 Hk2.out Vlt.out b5
                go_wp2_with fail
                go_ret2
                refine ⟨ret_u2 ?_ ?_, .refl _⟩
                · have hj : k * 4294967296 + k2 = Qr := by rw [Hf.out.1]; exact HQr.out.symm
                  first
                    | exact Knuth.joinq k k2 Qr klt.out k2lt.out hj
                    | exact Knuth.joinq2 k k2 Qr klt.out k2lt.out hj
                    | exact Knuth.joinq3 k k2 Qr klt.out k2lt.out hj
                · have h := congrArg (fun x : Nat => (x : Int) / 2 ^ s) Hf.out.2
                  simp only [Knuth.shift] at h
                  rw [← HRr.out] at h
                  exact h
              · go_wp2_with fail
                exact ⟨⟨k2, r + n1, by simp, by simp, Hu2.out, Hq1.out, by omega, by omega⟩, by simp [intOf]; omega⟩
            · obtain ⟨k2, rfl⟩ : ∃ k2, q = k2 := ⟨q, rfl⟩
              have Hk2 : Hid (q = (V * 4294967296 + l0) / Y) := by
                rw [Hid, bY.out]
                exact Knuth.out _ r _ _ _ _ Hu.out (by have := Vlt.out; have := bY.out; omega) Hq.out (by have := Hm.out; omega)
              obtain ⟨k2, hk2⟩ : ∃ k2, k2 = q := ⟨q, rfl⟩
              subst hk2
              have r2 := Knuth.rest V l0 Y k2 (by have := bY.out; omega) Hk2.out (by have := bY.out; omega)
              have Hf := Lib.hid (Knuth.fin 4294967296 D y s U Y l1 l0 k V k2 (by omega) HD.out HY.out Hk.out HV.out.symm Hk2.out)
              have k2lt : Hid (k2 < 4294967296) := Knuth.qlt V l0 Y k2 Hk2.out Vlt.out b5
              go_wp2_with fail
              go_ret2
              refine ⟨ret_u2 ?_ ?_, .refl _⟩
              · have hj : k * 4294967296 + k2 = Qr := by rw [Hf.out.1]; exact HQr.out.symm
                first
                  | exact Knuth.joinq k k2 Qr klt.out k2lt.out hj
                  | exact Knuth.joinq2 k k2 Qr klt.out k2lt.out hj
                  | exact Knuth.joinq3 k k2 Qr klt.out k2lt.out hj
              · have h := congrArg (fun x : Nat => (x : Int) / 2 ^ s) Hf.out.2
                simp only [Knuth.shift] at h
                rw [← HRr.out] at h
                exact h
      · go_wp2_with fail
        exact ⟨⟨k, r + n1, by simp, by simp, Hu2.out, Hq1.out, by omega, by omega⟩, by simp [intOf]; omega⟩
    · have m1 := Knuth.wrapq q n0 (by omega) b3
      have m2 : ((q * n0 : Nat) : Int) ≤ 18446744065119617025 := by
        have : q * n0 ≤ 4294967295 * 4294967295 := Nat.mul_le_mul (by omega) (by omega)
        omega
      generalize hm : q * n0 = m at *
      have Hm := Lib.hid hm
      clear hm
      by_cases c3 : (4294967296 : Int) * r + l1 < m
      · obtain ⟨h1q, hq1⟩ := Knuth.step q r n1 n0 U l1 Hu.out bU.out b4 Hq.out (.inr (by have := Hm.out; omega))
        obtain ⟨k, hk⟩ : ∃ k, q = k + 1 := ⟨q - 1, by omega⟩
        have e8 : (q : Int) - 1 = ↑k := by omega
        have Hk0 := Lib.hid hk
        clear hk
        have Hq1 := Lib.hid (by have := Hk0.out; rw [this] at hq1; exact hq1)
        clear hq1 h1q
        have Hu2 : Hid (k * n1 + (r + n1) = U) := by have := Hu.out; rw [Hk0.out, Nat.add_mul] at this; simp only [Hid]; omega
        by_cases c2 : (4294967296 : Int) ≤ (r : Int) + n1
        · have Hk : Hid (k = (U * 4294967296 + l1) / Y) := by
            rw [Hid, bY.out]
            exact Knuth.out _ (r + n1) _ _ _ _ Hu2.out bU.out Hq1.out (Knuth.brk _ _ _ _ _ _ Hu2.out bU.out b3 (by omega))
          have klt : Hid (k < 4294967296) := Knuth.qlt U l1 Y k Hk.out (by have := bU.out; have := bY.out; omega) b4
          clear Hu Hu2 Hq1 Hq
          have r1 := Knuth.rest U l1 Y k (by have := bY.out; omega) Hk.out (by have := bY.out; omega)
          have Vlt : Hid ((U * 4294967296 + l1) % Y < Y) := Nat.mod_lt _ (by have := bY.out; omega)
          generalize hV : (U * 4294967296 + l1) % Y = V at *
          have HV := Lib.hid hV
          clear hV
          have Vlt' : V < n1 * 4294967296 + n0 := by have := Vlt.out; have := bY.out; omega
          have hQ2 := Knuth.init V n1 n0 Vlt' b2 b3
          have f3 := Knuth.wrap1 V n1 hQ2
          have f4 := Knuth.wrap2 V n1 (by omega)
          have g4 : Hid (V / n1 * n1 + V % n1 = V) := by have := Nat.div_add_mod V n1; rw [Nat.mul_comm] at this; exact this
          have g5 : V % n1 < n1 := Nat.mod_lt _ (by omega)
          have g6 : Hid ((V * 4294967296 + l0) / (n1 * 4294967296 + n0) ≤ V / n1) := Knuth.start V n1 n0 l0 (by omega) b5
          generalize V / n1 = Q2 at *
          generalize V % n1 = R2 at *
          clear Vlt'
          go_wp2_with fail
          go_loop [18, 16] (fun x y => Div64_rel V n1 n0 l0 x y) (fun x _ => (intOf x).toNat)
          case atStart => exact ⟨Q2, R2, rfl, rfl, g4.out, g6.out, by omega, by omega⟩
          case round =>
            clear f3 f4 g4 g5 g6 hQ2
            obtain ⟨q, r, rfl, rfl, hu, hq, hr, hb⟩ := hrel
            have Hu := Lib.hid hu
            have Hq := Lib.hid hq
            clear hu hq
            by_cases c1 : (4294967296 : Int) ≤ q
            · obtain ⟨h1q, hq1⟩ := Knuth.step q r n1 n0 V l0 Hu.out (by have := Vlt.out; have := bY.out; omega) b5 Hq.out (.inl (by omega))
              obtain ⟨k2, hk⟩ : ∃ k2, q = k2 + 1 := ⟨q - 1, by omega⟩
              have e8 : (q : Int) - 1 = ↑k2 := by omega
              have Hk0 := Lib.hid hk
              clear hk
              have Hq1 := Lib.hid (by have := Hk0.out; rw [this] at hq1; exact hq1)
              clear hq1 h1q
              have Hu2 : Hid (k2 * n1 + (r + n1) = V) := by have := Hu.out; rw [Hk0.out, Nat.add_mul] at this; simp only [Hid]; omega
              by_cases c2 : (4294967296 : Int) ≤ (r : Int) + n1
              · have Hk2 : Hid (k2 = (V * 4294967296 + l0) / Y) := by
                  rw [Hid, bY.out]
                  exact Knuth.out _ (r + n1) _ _ _ _ Hu2.out (by have := Vlt.out; have := bY.out; omega) Hq1.out (Knuth.brk _ _ _ _ _ _ Hu2.out (by have := Vlt.out; have := bY.out; omega) b3 (by omega))
                have r2 := Knuth.rest V l0 Y k2 (by have := bY.out; omega) Hk2.out (by have := bY.out; omega)
                have Hf := Lib.hid (Knuth.fin 4294967296 D y s U Y l1 l0 k V k2 (by omega) HD.out HY.out Hk.out HV.out.symm Hk2.out)
                have k2lt : Hid (k2 < 4294967296) := Knuth.qlt V l0 Y k2 Hk2.out Vlt.out b5
                go_wp2_with fail
                go_ret2
                refine ⟨ret_u2 ?_ ?_, .refl _⟩
                · have hj : k * 4294967296 + k2 = Qr := by rw [Hf.out.1]; exact HQr.out.symm
                  first
                    | exact Knuth.joinq k k2 Qr klt.out k2lt.out hj
                    | exact Knuth.joinq2 k k2 Qr klt.out k2lt.out hj
                    | exact Knuth.joinq3 k k2 Qr klt.out k2lt.out hj
                · have h := congrArg (fun x : Nat => (x : Int) / 2 ^ s) Hf.out.2
                  simp only [Knuth.shift] at h
                  rw [← HRr.out] at h
                  exact h
              · go_wp2_with fail
                exact ⟨⟨k2, r + n1, by simp, by simp, Hu2.out, Hq1.out, by omega, by omega⟩, by simp [intOf]; omega⟩
            · have m1 := Knuth.wrapq q n0 (by omega) b3
              have m2 : ((q * n0 : Nat) : Int) ≤ 18446744065119617025 := by
                have : q * n0 ≤ 4294967295 * 4294967295 := Nat.mul_le_mul (by omega) (by omega)
                omega
              generalize hm : q * n0 = m at *
              have Hm := Lib.hid hm
              clear hm
              by_cases c3 : (4294967296 : Int) * r + l0 < m
              · obtain ⟨h1q, hq1⟩ := Knuth.step q r n1 n0 V l0 Hu.out (by have := Vlt.out; have := bY.out; omega) b5 Hq.out (.inr (by have := Hm.out; omega))
                obtain ⟨k2, hk⟩ : ∃ k2, q = k2 + 1 := ⟨q - 1, by omega⟩
                have e8 : (q : Int) - 1 = ↑k2 := by omega
                have Hk0 := Lib.hid hk
                clear hk
                have Hq1 := Lib.hid (by have := Hk0.out; rw [this] at hq1; exact hq1)
                clear hq1 h1q
                have Hu2 : Hid (k2 * n1 + (r + n1) = V) := by have := Hu.out; rw [Hk0.out, Nat.add_mul] at this; simp only [Hid]; omega
                by_cases c2 : (4294967296 : Int) ≤ (r : Int) + n1
                · have Hk2 : Hid (k2 = (V * 4294967296 + l0) / Y) := by
                    rw [Hid, bY.out]
                    exact Knuth.out _ (r + n1) _ _ _ _ Hu2.out (by have := Vlt.out; have := bY.out; omega) Hq1.out (Knuth.brk _ _ _ _ _ _ Hu2.out (by have := Vlt.out; have := bY.out; omega) b3 (by omega))
                  have r2 := Knuth.rest V l0 Y k2 (by have := bY.out; omega) Hk2.out (by have := bY.out; omega)
                  have Hf := Lib.hid (Knuth.fin 4294967296 D y s U Y l1 l0 k V k2 (by omega) HD.out HY.out Hk.out HV.out.symm Hk2.out)
                  have k2lt : Hid (k2 < 4294967296) := Knuth.qlt V l0 Y k2 Hk2.out Vlt.out b5
                  go_wp2_with fail
                  go_ret2
                  refine ⟨ret_u2 ?_ ?_, .refl _⟩
                  · have hj : k * 4294967296 + k2 = Qr := by rw [Hf.out.1]; exact HQr.out.symm
                    first
                      | exact Knuth.joinq k k2 Qr klt.out k2lt.out hj
                      | exact Knuth.joinq2 k k2 Qr klt.out k2lt.out hj
                      | exact Knuth.joinq3 k k2 Qr klt.out k2lt.out hj
                  · have h := congrArg (fun x : Nat => (x : Int) / 2 ^ s) Hf.out.2
                    simp only [Knuth.shift] at h
                    rw [← HRr.out] at h
                    exact h
                · go_wp2_with fail
                  exact ⟨⟨k2, r + n1, by simp, by simp, Hu2.out, Hq1.out, by omega, by omega⟩, by simp [intOf]; omega⟩
              · obtain ⟨k2, rfl⟩ : ∃ k2, q = k2 := ⟨q, rfl⟩
                have Hk2 : Hid (q = (V * 4294967296 + l0) / Y) := by
                  rw [Hid, bY.out]
                  exact Knuth.out _ r _ _ _ _ Hu.out (by have := Vlt.out; have := bY.out; omega) Hq.out (by have := Hm.out; omega)
                obtain ⟨k2, hk2⟩ : ∃ k2, k2 = q := ⟨q, rfl⟩
                subst hk2
                have r2 := Knuth.rest V l0 Y k2 (by have := bY.out; omega) Hk2.out (by have := bY.out; omega)
                have Hf := Lib.hid (Knuth.fin 4294967296 D y s U Y l1 l0 k V k2 (by omega) HD.out HY.out Hk.out HV.out.symm Hk2.out)
                have k2lt : Hid (k2 < 4294967296) := Knuth.qlt V l0 Y k2 Hk2.out Vlt.out b5
                go_wp2_with fail
                go_ret2
                refine ⟨ret_u2 ?_ ?_, .refl _⟩
                · have hj : k * 4294967296 + k2 = Qr := by rw [Hf.out.1]; exact HQr.out.symm
                  first
                    | exact Knuth.joinq k k2 Qr klt.out k2lt.out hj
                    | exact Knuth.joinq2 k k2 Qr klt.out k2lt.out hj
                    | exact Knuth.joinq3 k k2 Qr klt.out k2lt.out hj
                · have h := congrArg (fun x : Nat => (x : Int) / 2 ^ s) Hf.out.2
                  simp only [Knuth.shift] at h
                  rw [← HRr.out] at h
                  exact h
        · go_wp2_with fail
          exact ⟨⟨k, r + n1, by simp, by simp, Hu2.out, Hq1.out, by omega, by omega⟩, by simp [intOf]; omega⟩
      · have Hk : Hid (q = (U * 4294967296 + l1) / Y) := by
          rw [Hid, bY.out]
          exact Knuth.out _ r _ _ _ _ Hu.out bU.out Hq.out (by have := Hm.out; omega)
        obtain ⟨k, hk⟩ : ∃ k, k = q := ⟨q, rfl⟩
        subst hk
        have klt : Hid (k < 4294967296) := Knuth.qlt U l1 Y k Hk.out (by have := bU.out; have := bY.out; omega) b4
        clear Hu Hq
        have r1 := Knuth.rest U l1 Y k (by have := bY.out; omega) Hk.out (by have := bY.out; omega)
        have Vlt : Hid ((U * 4294967296 + l1) % Y < Y) := Nat.mod_lt _ (by have := bY.out; omega)
        generalize hV : (U * 4294967296 + l1) % Y = V at *
        have HV := Lib.hid hV
        clear hV
        have Vlt' : V < n1 * 4294967296 + n0 := by have := Vlt.out; have := bY.out; omega
        have hQ2 := Knuth.init V n1 n0 Vlt' b2 b3
        have f3 := Knuth.wrap1 V n1 hQ2
        have f4 := Knuth.wrap2 V n1 (by omega)
        have g4 : Hid (V / n1 * n1 + V % n1 = V) := by have := Nat.div_add_mod V n1; rw [Nat.mul_comm] at this; exact this
        have g5 : V % n1 < n1 := Nat.mod_lt _ (by omega)
        have g6 : Hid ((V * 4294967296 + l0) / (n1 * 4294967296 + n0) ≤ V / n1) := Knuth.start V n1 n0 l0 (by omega) b5
        generalize V / n1 = Q2 at *
        generalize V % n1 = R2 at *
        clear Vlt'
        go_wp2_with fail
        go_loop [18, 16] (fun x y => Div64_rel V n1 n0 l0 x y) (fun x _ => (intOf x).toNat)
        case atStart => exact ⟨Q2, R2, rfl, rfl, g4.out, g6.out, by omega, by omega⟩
        case round =>
          clear f3 f4 g4 g5 g6 hQ2
          obtain ⟨q, r, rfl, rfl, hu, hq, hr, hb⟩ := hrel
          have Hu := Lib.hid hu
          have Hq := Lib.hid hq
          clear hu hq
          by_cases c1 : (4294967296 : Int) ≤ q
          · obtain ⟨h1q, hq1⟩ := Knuth.step q r n1 n0 V l0 Hu.out (by have := Vlt.out; have := bY.out; omega) b5 Hq.out (.inl (by omega))
            obtain ⟨k2, hk⟩ : ∃ k2, q = k2 + 1 := ⟨q - 1, by omega⟩
            have e8 : (q : Int) - 1 = ↑k2 := by omega
            have Hk0 := Lib.hid hk
            clear hk
            have Hq1 := Lib.hid (by have := Hk0.out; rw [this] at hq1; exact hq1)
            clear hq1 h1q
            have Hu2 : Hid (k2 * n1 + (r + n1) = V) := by have := Hu.out; rw [Hk0.out, Nat.add_mul] at this; simp only [Hid]; omega
            by_cases c2 : (4294967296 : Int) ≤ (r : Int) + n1
            · have Hk2 : Hid (k2 = (V * 4294967296 + l0) / Y) := by
                rw [Hid, bY.out]
                exact Knuth.out _ (r + n1) _ _ _ _ Hu2.out (by have := Vlt.out; have := bY.out; omega) Hq1.out (Knuth.brk _ _ _ _ _ _ Hu2.out (by have := Vlt.out; have := bY.out; omega) b3 (by omega))
              have r2 := Knuth.rest V l0 Y k2 (by have := bY.out; omega) Hk2.out (by have := bY.out; omega)
              have Hf := Lib.hid (Knuth.fin 4294967296 D y s U Y l1 l0 k V k2 (by omega) HD.out HY.out Hk.out HV.out.symm Hk2.out)
              have k2lt : Hid (k2 < 4294967296) := Knuth.qlt V l0 Y k2 Hk2.out Vlt.out b5
              go_wp2_with fail
              go_ret2
              refine ⟨ret_u2 ?_ ?_, .refl _⟩
              · have hj : k * 4294967296 + k2 = Qr := by rw [Hf.out.1]; exact HQr.out.symm
                first
                  | exact Knuth.joinq k k2 Qr klt.out k2lt.out hj
                  | exact Knuth.joinq2 k k2 Qr klt.out k2lt.out hj
                  | exact Knuth.joinq3 k k2 Qr klt.out k2lt.out hj
              · have h := congrArg (fun x : Nat => (x : Int) / 2 ^ s) Hf.out.2
                simp only [Knuth.shift] at h
                rw [← HRr.out] at h
                exact h
            · go_wp2_with fail
              exact ⟨⟨k2, r + n1, by simp, by simp, Hu2.out, Hq1.out, by omega, by omega⟩, by simp [intOf]; omega⟩
          · have m1 := Knuth.wrapq q n0 (by omega) b3
            have m2 : ((q * n0 : Nat) : Int) ≤ 18446744065119617025 := by
              have : q * n0 ≤ 4294967295 * 4294967295 := Nat.mul_le_mul (by omega) (by omega)
              omega
            generalize hm : q * n0 = m at *
            have Hm := Lib.hid hm
            clear hm
            by_cases c3 : (4294967296 : Int) * r + l0 < m
            · obtain ⟨h1q, hq1⟩ := Knuth.step q r n1 n0 V l0 Hu.out (by have := Vlt.out; have := bY.out; omega) b5 Hq.out (.inr (by have := Hm.out; omega))
              obtain ⟨k2, hk⟩ : ∃ k2, q = k2 + 1 := ⟨q - 1, by omega⟩
              have e8 : (q : Int) - 1 = ↑k2 := by omega
              have Hk0 := Lib.hid hk
              clear hk
              have Hq1 := Lib.hid (by have := Hk0.out; rw [this] at hq1; exact hq1)
              clear hq1 h1q
              have Hu2 : Hid (k2 * n1 + (r + n1) = V) := by have := Hu.out; rw [Hk0.out, Nat.add_mul] at this; simp only [Hid]; omega
              by_cases c2 : (4294967296 : Int) ≤ (r : Int) + n1
              · have Hk2 : Hid (k2 = (V * 4294967296 + l0) / Y) := by
                  rw [Hid, bY.out]
                  exact Knuth.out _ (r + n1) _ _ _ _ Hu2.out (by have := Vlt.out; have := bY.out; omega) Hq1.out (Knuth.brk _ _ _ _ _ _ Hu2.out (by have := Vlt.out; have := bY.out; omega) b3 (by omega))
                have r2 := Knuth.rest V l0 Y k2 (by have := bY.out; omega) Hk2.out (by have := bY.out; omega)
                have Hf := Lib.hid (Knuth.fin 4294967296 D y s U Y l1 l0 k V k2 (by omega) HD.out HY.out Hk.out HV.out.symm Hk2.out)
                have k2lt : Hid (k2 < 4294967296) := Knuth.qlt V l0 Y k2 Hk2.out Vlt.out b5
                go_wp2_with fail
                go_ret2
                refine ⟨ret_u2 ?_ ?_, .refl _⟩
                · have hj : k * 4294967296 + k2 = Qr := by rw [Hf.out.1]; exact HQr.out.symm
                  first
                    | exact Knuth.joinq k k2 Qr klt.out k2lt.out hj
                    | exact Knuth.joinq2 k k2 Qr klt.out k2lt.out hj
                    | exact Knuth.joinq3 k k2 Qr klt.out k2lt.out hj
                · have h := congrArg (fun x : Nat => (x : Int) / 2 ^ s) Hf.out.2
                  simp only [Knuth.shift] at h
                  rw [← HRr.out] at h
                  exact h
              · go_wp2_with fail
                exact ⟨⟨k2, r + n1, by simp, by simp, Hu2.out, Hq1.out, by omega, by omega⟩, by simp [intOf]; omega⟩
            · obtain ⟨k2, rfl⟩ : ∃ k2, q = k2 := ⟨q, rfl⟩
              have Hk2 : Hid (q = (V * 4294967296 + l0) / Y) := by
                rw [Hid, bY.out]
                exact Knuth.out _ r _ _ _ _ Hu.out (by have := Vlt.out; have := bY.out; omega) Hq.out (by have := Hm.out; omega)
              obtain ⟨k2, hk2⟩ : ∃ k2, k2 = q := ⟨q, rfl⟩
              subst hk2
              have r2 := Knuth.rest V l0 Y k2 (by have := bY.out; omega) Hk2.out (by have := bY.out; omega)
              have Hf := Lib.hid (Knuth.fin 4294967296 D y s U Y l1 l0 k V k2 (by omega) HD.out HY.out Hk.out HV.out.symm Hk2.out)
              have k2lt : Hid (k2 < 4294967296) := Knuth.qlt V l0 Y k2 Hk2.out Vlt.out b5
              go_wp2_with fail
              go_ret2
              refine ⟨ret_u2 ?_ ?_, .refl _⟩
              · have hj : k * 4294967296 + k2 = Qr := by rw [Hf.out.1]; exact HQr.out.symm
                first
                  | exact Knuth.joinq k k2 Qr klt.out k2lt.out hj
                  | exact Knuth.joinq2 k k2 Qr klt.out k2lt.out hj
                  | exact Knuth.joinq3 k k2 Qr klt.out k2lt.out hj
              · have h := congrArg (fun x : Nat => (x : Int) / 2 ^ s) Hf.out.2
                simp only [Knuth.shift] at h
                rw [← HRr.out] at h
                exact h
end Go.Proofs.YtlheailebbngiaaGreatDoor
