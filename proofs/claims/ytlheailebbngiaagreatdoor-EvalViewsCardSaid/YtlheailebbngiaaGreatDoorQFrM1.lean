/- Products and quotients of fractions in the reference package. -/
import Derived.Test.YtlheailebbngiaaGreatDoorQFrMd
set_option linter.all false
namespace Go.Proofs.YtlheailebbngiaaGreatDoor
open Go.RowKit

set_option maxHeartbeats 8000000 in
theorem mul1_core (an ad bn bd n1 n2 n3 : Int) (s t : Bool) (w : World) (h1 : decide (an < 0) = s) (h2 : decide (bn < 0) = t) (u1 : IntKind.u64.wrap ad = ad) (u2 : IntKind.u64.wrap bd = bd)
    (V1 : Hid (∀ w, Calls Tryz.prog 60 #[.agg #[.int .i64 an, .int .i64 ad]] w fun e w' => e = .returned (.bool true) ∧ w.Grows w')) (V2 : Hid (∀ w, Calls Tryz.prog 60 #[.agg #[.int .i64 bn, .int .i64 bd]] w fun e w' => e = .returned (.bool true) ∧ w.Grows w'))
    (Z : Hid (∀ n, I64 n → ∀ w, Calls Tryz.prog 91 #[.int .i64 n] w fun e w' => e = .returned (.int .u64 (absI n)) ∧ w = w')) (I1 : I64 an) (I2 : I64 ad) (I3 : I64 bn) (I4 : I64 bd)
    (Q : Hid (∀ w, Calls Tryz.prog 192 #[.bool (s != t), .int .u64 (absI an), .int .u64 ad, .int .u64 (absI bn), .int .u64 bd] w fun e w' => (e = .returned (.tuple #[.agg #[.int .i64 n1, .int .i64 n2], .int .i64 n3]) ∧ w.Grows w')))
    : Calls Tryz.prog 153 (#[.agg #[.int .i64 an, .int .i64 ad], .agg #[.int .i64 bn, .int .i64 bd]]) w fun e w' => (e = .returned (.tuple #[.agg #[.int .i64 n1, .int .i64 n2], .int .i64 n3]) ∧ w.Grows w') := by
  go_enter Tryz.func153, Tryz.ntmps153
  go_wp2_with (first | (go_at_call 60; (with_reducible refine (V1.out _).mono ?_); rintro e w' ⟨rfl, bs, dr, rfl⟩) | (go_at_call 60; (with_reducible refine (V2.out _).mono ?_); rintro e w' ⟨rfl, bs2, dr2, rfl⟩))
  refine TS.begin [22, 23] (World.Grows _) (by kernel_rfl) (by kernel_rfl) grows_drew (fun hS => ?_)
  refine TS.takeV (i := 0) (v := ?_) rfl (by kernel_rfl) (by kernel_rfl) (by kernel_rfl) (by decide) (fun _ _ _ h => h) rfl hS ?_ ?_
  rotate_left
  focus
    rintro wS ⟨gbS, gdS, rfl⟩
    go_simp
    rfl
  (try simp only [nS])
  refine TS.takeV (i := 1) (v := ?_) rfl (by kernel_rfl) (by kernel_rfl) (by kernel_rfl) (by decide) (fun _ _ _ h => h) rfl hS ?_ ?_
  rotate_left
  focus
    rintro wS ⟨gbS, gdS, rfl⟩
    go_simp
    rfl
  (try simp only [nS])
  refine TS.takeV (i := 2) (v := ?_) rfl (by kernel_rfl) (by kernel_rfl) (by kernel_rfl) (by decide) (fun _ _ _ h => h) rfl hS ?_ ?_
  rotate_left
  focus
    rintro wS ⟨gbS, gdS, rfl⟩
    go_simp
    rfl
  (try simp only [nS])
  refine TS.takeV (i := 3) (v := ?_) rfl (by kernel_rfl) (by kernel_rfl) (by kernel_rfl) (by decide) (fun _ _ _ h => h) rfl hS ?_ ?_
  rotate_left
  focus
    rintro wS ⟨gbS, gdS, rfl⟩
    go_simp
    rfl
  (try simp only [nS])
  refine TS.takeV (i := 4) (v := ?_) rfl (by kernel_rfl) (by kernel_rfl) (by kernel_rfl) (by decide) (fun _ _ _ h => h) rfl hS ?_ ?_
  rotate_left
  focus
    rintro wS ⟨gbS, gdS, rfl⟩
    go_simp
    rfl
  (try simp only [nS])
  refine TS.takeV (i := 5) (v := ?_) rfl (by kernel_rfl) (by kernel_rfl) (by kernel_rfl) (by decide) (fun _ _ _ h => h) rfl hS ?_ ?_
  rotate_left
  focus
    rintro wS ⟨gbS, gdS, rfl⟩
    go_simp
    rfl
  (try simp only [nS])
  refine TS.takeV (i := 6) (v := ?_) rfl (by kernel_rfl) (by kernel_rfl) (by kernel_rfl) (by decide) (fun _ _ _ h => h) rfl hS ?_ ?_
  rotate_left
  focus
    rintro wS ⟨gbS, gdS, rfl⟩
    go_simp
    rfl
  (try simp only [nS])
  refine TS.takeV (i := 7) (v := ?_) rfl (by kernel_rfl) (by kernel_rfl) (by kernel_rfl) (by decide) (fun _ _ _ h => h) rfl hS ?_ ?_
  rotate_left
  focus
    rintro wS ⟨gbS, gdS, rfl⟩
    go_simp
    rfl
  (try simp only [nS])
  refine TS.takeV (i := 8) (v := ?_) rfl (by kernel_rfl) (by kernel_rfl) (by kernel_rfl) (by decide) (fun _ _ _ h => h) rfl hS ?_ ?_
  rotate_left
  focus
    rintro wS ⟨gbS, gdS, rfl⟩
    go_simp
    rfl
  (try simp only [nS])
  refine TS.takeC (i := 9) (v := (.int .u64 (absI an))) (fn := 91) (args := #[.int .i64 an]) rfl (by kernel_rfl) (by kernel_rfl) (by kernel_rfl) (by decide) (fun _ _ _ h => h) rfl hS ?_ ?_ ?_
  focus
    rintro wS ⟨gbS, gdS, rfl⟩
    go_simp
  focus exact fun wS _ => (Z.out _ (by assumption) wS)
  (try simp only [nS])
  refine TS.takeV (i := 10) (v := ?_) rfl (by kernel_rfl) (by kernel_rfl) (by kernel_rfl) (by decide) (fun _ _ _ h => h) rfl hS ?_ ?_
  rotate_left
  focus
    rintro wS ⟨gbS, gdS, rfl⟩
    go_simp
    rfl
  (try simp only [nS])
  refine TS.takeV (i := 11) (v := ?_) rfl (by kernel_rfl) (by kernel_rfl) (by kernel_rfl) (by decide) (fun _ _ _ h => h) rfl hS ?_ ?_
  rotate_left
  focus
    rintro wS ⟨gbS, gdS, rfl⟩
    go_simp
    rfl
  (try simp only [nS])
  refine TS.takeV (i := 12) (v := ?_) rfl (by kernel_rfl) (by kernel_rfl) (by kernel_rfl) (by decide) (fun _ _ _ h => h) rfl hS ?_ ?_
  rotate_left
  focus
    rintro wS ⟨gbS, gdS, rfl⟩
    go_simp
    rfl
  (try simp only [nS])
  refine TS.takeV (i := 13) (v := ?_) rfl (by kernel_rfl) (by kernel_rfl) (by kernel_rfl) (by decide) (fun _ _ _ h => h) rfl hS ?_ ?_
  rotate_left
  focus
    rintro wS ⟨gbS, gdS, rfl⟩
    go_simp
    rfl
  (try simp only [nS])
  refine TS.takeV (i := 14) (v := ?_) rfl (by kernel_rfl) (by kernel_rfl) (by kernel_rfl) (by decide) (fun _ _ _ h => h) rfl hS ?_ ?_
  rotate_left
  focus
    rintro wS ⟨gbS, gdS, rfl⟩
    go_simp
    rfl
  (try simp only [nS])
  refine TS.takeC (i := 15) (v := (.int .u64 (absI bn))) (fn := 91) (args := #[.int .i64 bn]) rfl (by kernel_rfl) (by kernel_rfl) (by kernel_rfl) (by decide) (fun _ _ _ h => h) rfl hS ?_ ?_ ?_
  focus
    rintro wS ⟨gbS, gdS, rfl⟩
    go_simp
  focus exact fun wS _ => (Z.out _ (by assumption) wS)
  (try simp only [nS])
  refine TS.takeV (i := 16) (v := ?_) rfl (by kernel_rfl) (by kernel_rfl) (by kernel_rfl) (by decide) (fun _ _ _ h => h) rfl hS ?_ ?_
  rotate_left
  focus
    rintro wS ⟨gbS, gdS, rfl⟩
    go_simp
    rfl
  (try simp only [nS])
  refine TS.takeV (i := 17) (v := ?_) rfl (by kernel_rfl) (by kernel_rfl) (by kernel_rfl) (by decide) (fun _ _ _ h => h) rfl hS ?_ ?_
  rotate_left
  focus
    rintro wS ⟨gbS, gdS, rfl⟩
    go_simp
    rfl
  (try simp only [nS])
  refine TS.takeV (i := 18) (v := ?_) rfl (by kernel_rfl) (by kernel_rfl) (by kernel_rfl) (by decide) (fun _ _ _ h => h) rfl hS ?_ ?_
  rotate_left
  focus
    rintro wS ⟨gbS, gdS, rfl⟩
    go_simp
    rfl
  (try simp only [nS])
  refine TS.one (i := 19) (by kernel_rfl) rfl (fun K1 hK1 => ?_)
  go_simp
  go_at_call 192
  refine (Q.out _).mono ?_
  rintro e' wA ⟨rfl, bA, dA, rfl⟩
  refine TS.go hK1 (by first | exact ⟨_, _, World.grow_grow _ _ _ _ _⟩ | exact ⟨_, _, rfl⟩) (fun hS => ?_)
  clear hK1 K1
  (try simp only [nS])
  refine TS.takeV (i := 20) (v := ?_) rfl (by kernel_rfl) (by kernel_rfl) (by kernel_rfl) (by decide) (fun _ _ _ h => h) rfl hS ?_ ?_
  rotate_left
  focus
    rintro wS ⟨gbS, gdS, rfl⟩
    go_simp
    rfl
  (try simp only [nS])
  refine TS.takeV (i := 21) (v := ?_) rfl (by kernel_rfl) (by kernel_rfl) (by kernel_rfl) (by decide) (fun _ _ _ h => h) rfl hS ?_ ?_
  rotate_left
  focus
    rintro wS ⟨gbS, gdS, rfl⟩
    go_simp
    rfl
  (try simp only [nS])
  refine TS.one (i := 22) (by kernel_rfl) rfl (fun K1 hK1 => ?_)
  go_simp
  refine hK1 _ _ (fun h => absurd (by decide) h) ?_
  clear hK1 K1
  (try simp only [nS])
  refine TS.one (i := 23) (by kernel_rfl) rfl (fun K1 hK1 => ?_)
  go_simp
  refine hK1 _ _ (fun h => absurd (by decide) h) (TS.done (by kernel_rfl) ?_)
  clear hK1 K1 hS
  (try simp only [nS])
  go_wp2_with fail
  go_returns
  exact ⟨rfl, .of_below (by (exact belB))⟩
set_option maxHeartbeats 8000000 in
theorem div1_core (an ad bn bd n1 n2 n3 : Int) (s t : Bool) (w : World) (h1 : decide (an < 0) = s) (h2 : decide (bn < 0) = t) (u1 : IntKind.u64.wrap ad = ad) (u2 : IntKind.u64.wrap bd = bd) (h5 : (bn == 0) = false)
    (V1 : Hid (∀ w, Calls Tryz.prog 60 #[.agg #[.int .i64 an, .int .i64 ad]] w fun e w' => e = .returned (.bool true) ∧ w.Grows w')) (V2 : Hid (∀ w, Calls Tryz.prog 60 #[.agg #[.int .i64 bn, .int .i64 bd]] w fun e w' => e = .returned (.bool true) ∧ w.Grows w'))
    (Z : Hid (∀ n, I64 n → ∀ w, Calls Tryz.prog 91 #[.int .i64 n] w fun e w' => e = .returned (.int .u64 (absI n)) ∧ w = w')) (I1 : I64 an) (I2 : I64 ad) (I3 : I64 bn) (I4 : I64 bd)
    (Q : Hid (∀ w, Calls Tryz.prog 192 #[.bool (s != t), .int .u64 (absI an), .int .u64 ad, .int .u64 bd, .int .u64 (absI bn)] w fun e w' => (e = .returned (.tuple #[.agg #[.int .i64 n1, .int .i64 n2], .int .i64 n3]) ∧ w.Grows w')))
    : Calls Tryz.prog 154 (#[.agg #[.int .i64 an, .int .i64 ad], .agg #[.int .i64 bn, .int .i64 bd]]) w fun e w' => (e = .returned (.tuple #[.agg #[.int .i64 n1, .int .i64 n2], .int .i64 n3]) ∧ w.Grows w') := by
  go_enter Tryz.func154, Tryz.ntmps154
  go_wp2_with (first | (go_at_call 60; (with_reducible refine (V1.out _).mono ?_); rintro e w' ⟨rfl, bs, dr, rfl⟩) | (go_at_call 60; (with_reducible refine (V2.out _).mono ?_); rintro e w' ⟨rfl, bs2, dr2, rfl⟩))
  refine TS.begin [22, 23] (World.Grows _) (by kernel_rfl) (by kernel_rfl) grows_drew (fun hS => ?_)
  refine TS.takeV (i := 0) (v := ?_) rfl (by kernel_rfl) (by kernel_rfl) (by kernel_rfl) (by decide) (fun _ _ _ h => h) rfl hS ?_ ?_
  rotate_left
  focus
    rintro wS ⟨gbS, gdS, rfl⟩
    go_simp
    rfl
  (try simp only [nS])
  refine TS.takeV (i := 1) (v := ?_) rfl (by kernel_rfl) (by kernel_rfl) (by kernel_rfl) (by decide) (fun _ _ _ h => h) rfl hS ?_ ?_
  rotate_left
  focus
    rintro wS ⟨gbS, gdS, rfl⟩
    go_simp
    rfl
  (try simp only [nS])
  refine TS.takeV (i := 2) (v := ?_) rfl (by kernel_rfl) (by kernel_rfl) (by kernel_rfl) (by decide) (fun _ _ _ h => h) rfl hS ?_ ?_
  rotate_left
  focus
    rintro wS ⟨gbS, gdS, rfl⟩
    go_simp
    rfl
  (try simp only [nS])
  refine TS.takeV (i := 3) (v := ?_) rfl (by kernel_rfl) (by kernel_rfl) (by kernel_rfl) (by decide) (fun _ _ _ h => h) rfl hS ?_ ?_
  rotate_left
  focus
    rintro wS ⟨gbS, gdS, rfl⟩
    go_simp
    rfl
  (try simp only [nS])
  refine TS.takeV (i := 4) (v := ?_) rfl (by kernel_rfl) (by kernel_rfl) (by kernel_rfl) (by decide) (fun _ _ _ h => h) rfl hS ?_ ?_
  rotate_left
  focus
    rintro wS ⟨gbS, gdS, rfl⟩
    go_simp
    rfl
  (try simp only [nS])
  refine TS.takeV (i := 5) (v := ?_) rfl (by kernel_rfl) (by kernel_rfl) (by kernel_rfl) (by decide) (fun _ _ _ h => h) rfl hS ?_ ?_
  rotate_left
  focus
    rintro wS ⟨gbS, gdS, rfl⟩
    go_simp
    rfl
  (try simp only [nS])
  refine TS.takeV (i := 6) (v := ?_) rfl (by kernel_rfl) (by kernel_rfl) (by kernel_rfl) (by decide) (fun _ _ _ h => h) rfl hS ?_ ?_
  rotate_left
  focus
    rintro wS ⟨gbS, gdS, rfl⟩
    go_simp
    rfl
  (try simp only [nS])
  refine TS.takeV (i := 7) (v := ?_) rfl (by kernel_rfl) (by kernel_rfl) (by kernel_rfl) (by decide) (fun _ _ _ h => h) rfl hS ?_ ?_
  rotate_left
  focus
    rintro wS ⟨gbS, gdS, rfl⟩
    go_simp
    rfl
  (try simp only [nS])
  refine TS.takeV (i := 8) (v := ?_) rfl (by kernel_rfl) (by kernel_rfl) (by kernel_rfl) (by decide) (fun _ _ _ h => h) rfl hS ?_ ?_
  rotate_left
  focus
    rintro wS ⟨gbS, gdS, rfl⟩
    go_simp
    rfl
  (try simp only [nS])
  refine TS.takeC (i := 9) (v := (.int .u64 (absI an))) (fn := 91) (args := #[.int .i64 an]) rfl (by kernel_rfl) (by kernel_rfl) (by kernel_rfl) (by decide) (fun _ _ _ h => h) rfl hS ?_ ?_ ?_
  focus
    rintro wS ⟨gbS, gdS, rfl⟩
    go_simp
  focus exact fun wS _ => (Z.out _ (by assumption) wS)
  (try simp only [nS])
  refine TS.takeV (i := 10) (v := ?_) rfl (by kernel_rfl) (by kernel_rfl) (by kernel_rfl) (by decide) (fun _ _ _ h => h) rfl hS ?_ ?_
  rotate_left
  focus
    rintro wS ⟨gbS, gdS, rfl⟩
    go_simp
    rfl
  (try simp only [nS])
  refine TS.takeV (i := 11) (v := ?_) rfl (by kernel_rfl) (by kernel_rfl) (by kernel_rfl) (by decide) (fun _ _ _ h => h) rfl hS ?_ ?_
  rotate_left
  focus
    rintro wS ⟨gbS, gdS, rfl⟩
    go_simp
    rfl
  (try simp only [nS])
  refine TS.takeV (i := 12) (v := ?_) rfl (by kernel_rfl) (by kernel_rfl) (by kernel_rfl) (by decide) (fun _ _ _ h => h) rfl hS ?_ ?_
  rotate_left
  focus
    rintro wS ⟨gbS, gdS, rfl⟩
    go_simp
    rfl
  (try simp only [nS])
  refine TS.takeV (i := 13) (v := ?_) rfl (by kernel_rfl) (by kernel_rfl) (by kernel_rfl) (by decide) (fun _ _ _ h => h) rfl hS ?_ ?_
  rotate_left
  focus
    rintro wS ⟨gbS, gdS, rfl⟩
    go_simp
    rfl
  (try simp only [nS])
  refine TS.takeV (i := 14) (v := ?_) rfl (by kernel_rfl) (by kernel_rfl) (by kernel_rfl) (by decide) (fun _ _ _ h => h) rfl hS ?_ ?_
  rotate_left
  focus
    rintro wS ⟨gbS, gdS, rfl⟩
    go_simp
    rfl
  (try simp only [nS])
  refine TS.takeV (i := 15) (v := ?_) rfl (by kernel_rfl) (by kernel_rfl) (by kernel_rfl) (by decide) (fun _ _ _ h => h) rfl hS ?_ ?_
  rotate_left
  focus
    rintro wS ⟨gbS, gdS, rfl⟩
    go_simp
    rfl
  (try simp only [nS])
  refine TS.takeV (i := 16) (v := ?_) rfl (by kernel_rfl) (by kernel_rfl) (by kernel_rfl) (by decide) (fun _ _ _ h => h) rfl hS ?_ ?_
  rotate_left
  focus
    rintro wS ⟨gbS, gdS, rfl⟩
    go_simp
    rfl
  (try simp only [nS])
  refine TS.takeV (i := 17) (v := ?_) rfl (by kernel_rfl) (by kernel_rfl) (by kernel_rfl) (by decide) (fun _ _ _ h => h) rfl hS ?_ ?_
  rotate_left
  focus
    rintro wS ⟨gbS, gdS, rfl⟩
    go_simp
    rfl
  (try simp only [nS])
  refine TS.takeC (i := 18) (v := (.int .u64 (absI bn))) (fn := 91) (args := #[.int .i64 bn]) rfl (by kernel_rfl) (by kernel_rfl) (by kernel_rfl) (by decide) (fun _ _ _ h => h) rfl hS ?_ ?_ ?_
  focus
    rintro wS ⟨gbS, gdS, rfl⟩
    go_simp
  focus exact fun wS _ => (Z.out _ (by assumption) wS)
  (try simp only [nS])
  refine TS.one (i := 19) (by kernel_rfl) rfl (fun K1 hK1 => ?_)
  go_simp
  go_at_call 192
  refine (Q.out _).mono ?_
  rintro e' wA ⟨rfl, bA, dA, rfl⟩
  refine TS.go hK1 (by first | exact ⟨_, _, World.grow_grow _ _ _ _ _⟩ | exact ⟨_, _, rfl⟩) (fun hS => ?_)
  clear hK1 K1
  (try simp only [nS])
  refine TS.takeV (i := 20) (v := ?_) rfl (by kernel_rfl) (by kernel_rfl) (by kernel_rfl) (by decide) (fun _ _ _ h => h) rfl hS ?_ ?_
  rotate_left
  focus
    rintro wS ⟨gbS, gdS, rfl⟩
    go_simp
    rfl
  (try simp only [nS])
  refine TS.takeV (i := 21) (v := ?_) rfl (by kernel_rfl) (by kernel_rfl) (by kernel_rfl) (by decide) (fun _ _ _ h => h) rfl hS ?_ ?_
  rotate_left
  focus
    rintro wS ⟨gbS, gdS, rfl⟩
    go_simp
    rfl
  (try simp only [nS])
  refine TS.one (i := 22) (by kernel_rfl) rfl (fun K1 hK1 => ?_)
  go_simp
  refine hK1 _ _ (fun h => absurd (by decide) h) ?_
  clear hK1 K1
  (try simp only [nS])
  refine TS.one (i := 23) (by kernel_rfl) rfl (fun K1 hK1 => ?_)
  go_simp
  refine hK1 _ _ (fun h => absurd (by decide) h) (TS.done (by kernel_rfl) ?_)
  clear hK1 K1 hS
  (try simp only [nS])
  go_wp2_with fail
  go_returns
  exact ⟨rfl, .of_below (by (exact belB))⟩
set_option maxHeartbeats 2000000 in
theorem mul1_no (an ad bn bd : Int) (p q : Bool) (w : World) (hpq : (p && q) = false)
    (V1 : Hid (∀ w, Calls Tryz.prog 60 #[.agg #[.int .i64 an, .int .i64 ad]] w fun e w' => e = .returned (.bool p) ∧ w.Grows w')) (V2 : Hid (∀ w, Calls Tryz.prog 60 #[.agg #[.int .i64 bn, .int .i64 bd]] w fun e w' => e = .returned (.bool q) ∧ w.Grows w'))
    : Calls Tryz.prog 153 (#[.agg #[.int .i64 an, .int .i64 ad], .agg #[.int .i64 bn, .int .i64 bd]]) w fun e w' => e = .returned (frV (0, 0, 1)) ∧ w.Grows w' := by
  cases p <;> cases q
  all_goals first
    | (exfalso; simp at hpq; done)
    | clear hpq
  all_goals
    go_enter Tryz.func153, Tryz.ntmps153
    go_wp2_with (first | (go_at_call 60; (with_reducible refine (V1.out _).mono ?_); rintro e w' ⟨rfl, bs, dr, rfl⟩) | (go_at_call 60; (with_reducible refine (V2.out _).mono ?_); rintro e w' ⟨rfl, bs2, dr2, rfl⟩))
    go_returns
    exact ⟨rfl, .of_below (by (exact belB))⟩
set_option maxHeartbeats 2000000 in
theorem div1_no (an ad bn bd : Int) (p q : Bool) (w : World) (hpq : (p && q) = false)
    (V1 : Hid (∀ w, Calls Tryz.prog 60 #[.agg #[.int .i64 an, .int .i64 ad]] w fun e w' => e = .returned (.bool p) ∧ w.Grows w')) (V2 : Hid (∀ w, Calls Tryz.prog 60 #[.agg #[.int .i64 bn, .int .i64 bd]] w fun e w' => e = .returned (.bool q) ∧ w.Grows w'))
    : Calls Tryz.prog 154 (#[.agg #[.int .i64 an, .int .i64 ad], .agg #[.int .i64 bn, .int .i64 bd]]) w fun e w' => e = .returned (frV (0, 0, 1)) ∧ w.Grows w' := by
  cases p <;> cases q
  all_goals first
    | (exfalso; simp at hpq; done)
    | clear hpq
  all_goals
    go_enter Tryz.func154, Tryz.ntmps154
    go_wp2_with (first | (go_at_call 60; (with_reducible refine (V1.out _).mono ?_); rintro e w' ⟨rfl, bs, dr, rfl⟩) | (go_at_call 60; (with_reducible refine (V2.out _).mono ?_); rintro e w' ⟨rfl, bs2, dr2, rfl⟩))
    go_returns
    exact ⟨rfl, .of_below (by (exact belB))⟩
set_option maxHeartbeats 2000000 in
theorem add1_no (an ad bn bd : Int) (p q : Bool) (w : World) (hpq : (p && q) = false)
    (V1 : Hid (∀ w, Calls Tryz.prog 60 #[.agg #[.int .i64 an, .int .i64 ad]] w fun e w' => e = .returned (.bool p) ∧ w.Grows w')) (V2 : Hid (∀ w, Calls Tryz.prog 60 #[.agg #[.int .i64 bn, .int .i64 bd]] w fun e w' => e = .returned (.bool q) ∧ w.Grows w'))
    : Calls Tryz.prog 151 (#[.agg #[.int .i64 an, .int .i64 ad], .agg #[.int .i64 bn, .int .i64 bd]]) w fun e w' => e = .returned (frV (0, 0, 1)) ∧ w.Grows w' := by
  cases p <;> cases q
  all_goals first
    | (exfalso; simp at hpq; done)
    | clear hpq
  all_goals
    go_enter Tryz.func151, Tryz.ntmps151
    go_wp2_with (first | (go_at_call 60; (with_reducible refine (V1.out _).mono ?_); rintro e w' ⟨rfl, bs, dr, rfl⟩) | (go_at_call 60; (with_reducible refine (V2.out _).mono ?_); rintro e w' ⟨rfl, bs2, dr2, rfl⟩))
    go_returns
    exact ⟨rfl, .of_below (by (exact belB))⟩
set_option maxHeartbeats 2000000 in
theorem mul2_no (an ad bn bd : Int) (p q : Bool) (w : World) (hpq : (p && q) = false)
    (V1 : Hid (∀ w, Calls Tryz.prog 55 #[.agg #[.int .i64 an, .int .i64 ad]] w fun e w' => e = .returned (.bool p) ∧ w.Grows w')) (V2 : Hid (∀ w, Calls Tryz.prog 55 #[.agg #[.int .i64 bn, .int .i64 bd]] w fun e w' => e = .returned (.bool q) ∧ w.Grows w'))
    : Calls Tryz.prog 146 (#[.agg #[.int .i64 an, .int .i64 ad], .agg #[.int .i64 bn, .int .i64 bd]]) w fun e w' => e = .returned (frV (0, 0, 1)) ∧ w.Grows w' := by
  cases p <;> cases q
  all_goals first
    | (exfalso; simp at hpq; done)
    | clear hpq
  all_goals
    go_enter Tryz.func146, Tryz.ntmps146
    go_wp2_with (first | (go_at_call 55; (with_reducible refine (V1.out _).mono ?_); rintro e w' ⟨rfl, bs, dr, rfl⟩) | (go_at_call 55; (with_reducible refine (V2.out _).mono ?_); rintro e w' ⟨rfl, bs2, dr2, rfl⟩))
    go_returns
    exact ⟨rfl, .of_below (by (exact belB))⟩
set_option maxHeartbeats 2000000 in
theorem div2_no (an ad bn bd : Int) (p q : Bool) (w : World) (hpq : (p && q) = false)
    (V1 : Hid (∀ w, Calls Tryz.prog 55 #[.agg #[.int .i64 an, .int .i64 ad]] w fun e w' => e = .returned (.bool p) ∧ w.Grows w')) (V2 : Hid (∀ w, Calls Tryz.prog 55 #[.agg #[.int .i64 bn, .int .i64 bd]] w fun e w' => e = .returned (.bool q) ∧ w.Grows w'))
    : Calls Tryz.prog 147 (#[.agg #[.int .i64 an, .int .i64 ad], .agg #[.int .i64 bn, .int .i64 bd]]) w fun e w' => e = .returned (frV (0, 0, 1)) ∧ w.Grows w' := by
  cases p <;> cases q
  all_goals first
    | (exfalso; simp at hpq; done)
    | clear hpq
  all_goals
    go_enter Tryz.func147, Tryz.ntmps147
    go_wp2_with (first | (go_at_call 55; (with_reducible refine (V1.out _).mono ?_); rintro e w' ⟨rfl, bs, dr, rfl⟩) | (go_at_call 55; (with_reducible refine (V2.out _).mono ?_); rintro e w' ⟨rfl, bs2, dr2, rfl⟩))
    go_returns
    exact ⟨rfl, .of_below (by (exact belB))⟩
set_option maxHeartbeats 2000000 in
theorem add2_no (an ad bn bd : Int) (p q : Bool) (w : World) (hpq : (p && q) = false)
    (V1 : Hid (∀ w, Calls Tryz.prog 55 #[.agg #[.int .i64 an, .int .i64 ad]] w fun e w' => e = .returned (.bool p) ∧ w.Grows w')) (V2 : Hid (∀ w, Calls Tryz.prog 55 #[.agg #[.int .i64 bn, .int .i64 bd]] w fun e w' => e = .returned (.bool q) ∧ w.Grows w'))
    : Calls Tryz.prog 144 (#[.agg #[.int .i64 an, .int .i64 ad], .agg #[.int .i64 bn, .int .i64 bd]]) w fun e w' => e = .returned (frV (0, 0, 1)) ∧ w.Grows w' := by
  cases p <;> cases q
  all_goals first
    | (exfalso; simp at hpq; done)
    | clear hpq
  all_goals
    go_enter Tryz.func144, Tryz.ntmps144
    go_wp2_with (first | (go_at_call 55; (with_reducible refine (V1.out _).mono ?_); rintro e w' ⟨rfl, bs, dr, rfl⟩) | (go_at_call 55; (with_reducible refine (V2.out _).mono ?_); rintro e w' ⟨rfl, bs2, dr2, rfl⟩))
    go_returns
    exact ⟨rfl, .of_below (by (exact belB))⟩
set_option maxHeartbeats 2000000 in
theorem div1_zero (an ad bd : Int) (w : World)
    (V1 : Hid (∀ w, Calls Tryz.prog 60 #[.agg #[.int .i64 an, .int .i64 ad]] w fun e w' => e = .returned (.bool true) ∧ w.Grows w')) (V2 : Hid (∀ w, Calls Tryz.prog 60 #[.agg #[.int .i64 0, .int .i64 bd]] w fun e w' => e = .returned (.bool true) ∧ w.Grows w'))
    : Calls Tryz.prog 154 #[.agg #[.int .i64 an, .int .i64 ad], .agg #[.int .i64 0, .int .i64 bd]] w fun e w' => e = .returned (frV (0, 0, 3)) ∧ w.Grows w' := by
  go_enter Tryz.func154, Tryz.ntmps154
  go_wp2_with (first | (go_at_call 60; (with_reducible refine (V1.out _).mono ?_); rintro e w' ⟨rfl, bs, dr, rfl⟩) | (go_at_call 60; (with_reducible refine (V2.out _).mono ?_); rintro e w' ⟨rfl, bs2, dr2, rfl⟩))
  go_returns
  exact ⟨rfl, .of_below (by (exact belB))⟩
set_option maxHeartbeats 2000000 in
theorem div2_zero (an ad bd : Int) (w : World)
    (V1 : Hid (∀ w, Calls Tryz.prog 55 #[.agg #[.int .i64 an, .int .i64 ad]] w fun e w' => e = .returned (.bool true) ∧ w.Grows w')) (V2 : Hid (∀ w, Calls Tryz.prog 55 #[.agg #[.int .i64 0, .int .i64 bd]] w fun e w' => e = .returned (.bool true) ∧ w.Grows w'))
    : Calls Tryz.prog 147 #[.agg #[.int .i64 an, .int .i64 ad], .agg #[.int .i64 0, .int .i64 bd]] w fun e w' => e = .returned (frV (0, 0, 3)) ∧ w.Grows w' := by
  go_enter Tryz.func147, Tryz.ntmps147
  go_wp2_with (first | (go_at_call 55; (with_reducible refine (V1.out _).mono ?_); rintro e w' ⟨rfl, bs, dr, rfl⟩) | (go_at_call 55; (with_reducible refine (V2.out _).mono ?_); rintro e w' ⟨rfl, bs2, dr2, rfl⟩))
  go_returns
  exact ⟨rfl, .of_below (by (exact belB))⟩
end Go.Proofs.YtlheailebbngiaaGreatDoor
