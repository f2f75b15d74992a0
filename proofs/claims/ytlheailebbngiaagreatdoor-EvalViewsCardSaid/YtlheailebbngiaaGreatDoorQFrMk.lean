/- Make: a fraction of two numbers in lowest terms, in the program. -/
import Derived.Test.YtlheailebbngiaaGreatDoorQFrMd
set_option linter.all false
namespace Go.Proofs.YtlheailebbngiaaGreatDoor
open Go.RowKit
set_option maxHeartbeats 8000000 in
theorem make2_core (n d a b g p q n1 n2 n3 : Int) (s t neg : Bool) (hneg : ((s != t) && (n != 0)) = neg) (w : World) (h1 : decide (n < 0) = s) (h2 : decide (d < 0) = t) (d0 : (d == 0) = false) (g1 : 1 ≤ g) (g0 : (g == 0) = false) (e1 : IntKind.u64.wrap (a.tdiv g) = p) (e2 : IntKind.u64.wrap (b.tdiv g) = q)
    (Z1 : Hid (∀ w, Calls Tryz.prog 95 #[.int .i64 n] w fun e w' => e = .returned (.int .u64 a) ∧ w = w'))
    (Z2 : Hid (∀ w, Calls Tryz.prog 95 #[.int .i64 d] w fun e w' => e = .returned (.int .u64 b) ∧ w = w'))
    (G : Hid (∀ w, Calls Tryz.prog 94 #[.int .u64 a, .int .u64 b] w fun e w' => e = .returned (.int .u64 g) ∧ w.Grows w'))
    (Q : Hid (∀ w, Calls Tryz.prog 99 #[.bool neg, .agg #[.int .u64 0, .int .u64 p], .agg #[.int .u64 0, .int .u64 q]] w fun e w' => e = .returned (.tuple #[.agg #[.int .i64 n1, .int .i64 n2], .int .i64 n3]) ∧ w.Grows w'))
    : Calls Tryz.prog 59 #[.int .i64 n, .int .i64 d] w fun e w' => e = .returned (.tuple #[.agg #[.int .i64 n1, .int .i64 n2], .int .i64 n3]) ∧ w.Grows w' := by
  by_cases c : n = 0
  · subst c
    cases s
    · obtain rfl : neg = false := by rw [← hneg]; cases t <;> rfl
      clear hneg
      cases t
      · go_enter Tryz.func59, Tryz.ntmps59
        go_wp2_with (first | (go_at_call 95; (with_reducible refine (Z1.out _).mono ?_); rintro e w' ⟨rfl, rfl⟩; clear Z1) | (go_at_call 95; (with_reducible refine (Z2.out _).mono ?_); rintro e w' ⟨rfl, rfl⟩; clear Z2) | (go_at_call 94; (with_reducible refine (G.out _).mono ?_); rintro e w' ⟨rfl, bs, dr, rfl⟩; clear G))
        have gz : ¬ g = 0 := by omega
        refine TS.begin [20, 21] (World.Grows _) (by kernel_rfl) (by kernel_rfl) grows_drew (fun hS => ?_)
        refine TS.takeV (i := 0) (v := ?_) rfl (by kernel_rfl) (by kernel_rfl) (by kernel_rfl) (by decide) (fun _ _ _ h => h) rfl hS ?_ ?_
        rotate_left
        focus
          rintro wS ⟨gbS, gdS, rfl⟩
          go_simp
          rfl
        (try simp only [nS])
        refine TS.takeV (i := 1) (v := ?_) rfl (by kernel_rfl) (by kernel_rfl) (by kernel_rfl) (by decide) (fun _ _ _ h => h) rfl hS ?_ ?_
        rotate_left
        focus
          rintro wS ⟨gbS, gdS, rfl⟩
          go_simp
          rfl
        (try simp only [nS])
        refine TS.takeV (i := 2) (v := ?_) rfl (by kernel_rfl) (by kernel_rfl) (by kernel_rfl) (by decide) (fun _ _ _ h => h) rfl hS ?_ ?_
        rotate_left
        focus
          rintro wS ⟨gbS, gdS, rfl⟩
          go_simp
          rfl
        (try simp only [nS])
        refine TS.takeV (i := 3) (v := ?_) rfl (by kernel_rfl) (by kernel_rfl) (by kernel_rfl) (by decide) (fun _ _ _ h => h) rfl hS ?_ ?_
        rotate_left
        focus
          rintro wS ⟨gbS, gdS, rfl⟩
          go_simp
          rfl
        (try simp only [nS])
        refine TS.takeV (i := 4) (v := ?_) rfl (by kernel_rfl) (by kernel_rfl) (by kernel_rfl) (by decide) (fun _ _ _ h => h) rfl hS ?_ ?_
        rotate_left
        focus
          rintro wS ⟨gbS, gdS, rfl⟩
          go_simp
          rfl
        (try simp only [nS])
        refine TS.takeV (i := 5) (v := ?_) rfl (by kernel_rfl) (by kernel_rfl) (by kernel_rfl) (by decide) (fun _ _ _ h => h) rfl hS ?_ ?_
        rotate_left
        focus
          rintro wS ⟨gbS, gdS, rfl⟩
          go_simp
          rfl
        (try simp only [nS])
        refine TS.take (i := 6) (v := undef) rfl (by kernel_rfl) (by kernel_rfl) (by kernel_rfl) (by decide) (fun _ _ _ h => h) (.inl ⟨rfl, rfl⟩) hS ?_
        (try simp only [nS])
        refine TS.take (i := 7) (v := undef) rfl (by kernel_rfl) (by kernel_rfl) (by kernel_rfl) (by decide) (fun _ _ _ h => h) (.inl ⟨rfl, rfl⟩) hS ?_
        (try simp only [nS])
        refine TS.takeV (i := 8) (v := ?_) rfl (by kernel_rfl) (by kernel_rfl) (by kernel_rfl) (by decide) (fun _ _ _ h => h) rfl hS ?_ ?_
        rotate_left
        focus
          rintro wS ⟨gbS, gdS, rfl⟩
          go_simp
          rfl
        (try simp only [nS])
        refine TS.takeV (i := 9) (v := ?_) rfl (by kernel_rfl) (by kernel_rfl) (by kernel_rfl) (by decide) (fun _ _ _ h => h) rfl hS ?_ ?_
        rotate_left
        focus
          rintro wS ⟨gbS, gdS, rfl⟩
          go_simp
          rfl
        (try simp only [nS])
        refine TS.takeV (i := 10) (v := ?_) rfl (by kernel_rfl) (by kernel_rfl) (by kernel_rfl) (by decide) (fun _ _ _ h => h) rfl hS ?_ ?_
        rotate_left
        focus
          rintro wS ⟨gbS, gdS, rfl⟩
          go_simp
          rfl
        (try simp only [nS])
        refine TS.takeV (i := 11) (v := .int .u64 (p)) rfl (by kernel_rfl) (by kernel_rfl) (by kernel_rfl) (by decide) (fun _ _ _ h => h) rfl hS ?_ ?_
        focus
          rintro wS ⟨gbS, gdS, rfl⟩
          go_simp
          (try exact e1)
        (try simp only [nS])
        refine TS.takeV (i := 12) (v := ?_) rfl (by kernel_rfl) (by kernel_rfl) (by kernel_rfl) (by decide) (fun _ _ _ h => h) rfl hS ?_ ?_
        rotate_left
        focus
          rintro wS ⟨gbS, gdS, rfl⟩
          go_simp
          rfl
        (try simp only [nS])
        refine TS.takeV (i := 13) (v := ?_) rfl (by kernel_rfl) (by kernel_rfl) (by kernel_rfl) (by decide) (fun _ _ _ h => h) rfl hS ?_ ?_
        rotate_left
        focus
          rintro wS ⟨gbS, gdS, rfl⟩
          go_simp
          rfl
        (try simp only [nS])
        refine TS.takeV (i := 14) (v := ?_) rfl (by kernel_rfl) (by kernel_rfl) (by kernel_rfl) (by decide) (fun _ _ _ h => h) rfl hS ?_ ?_
        rotate_left
        focus
          rintro wS ⟨gbS, gdS, rfl⟩
          go_simp
          rfl
        (try simp only [nS])
        refine TS.takeV (i := 15) (v := .int .u64 (q)) rfl (by kernel_rfl) (by kernel_rfl) (by kernel_rfl) (by decide) (fun _ _ _ h => h) rfl hS ?_ ?_
        focus
          rintro wS ⟨gbS, gdS, rfl⟩
          go_simp
          (try exact e2)
        (try simp only [nS])
        refine TS.takeV (i := 16) (v := ?_) rfl (by kernel_rfl) (by kernel_rfl) (by kernel_rfl) (by decide) (fun _ _ _ h => h) rfl hS ?_ ?_
        rotate_left
        focus
          rintro wS ⟨gbS, gdS, rfl⟩
          go_simp
          rfl
        (try simp only [nS])
        refine TS.one (i := 17) (by kernel_rfl) rfl (fun K1 hK1 => ?_)
        go_simp
        go_at_call 99
        refine (Q.out _).mono ?_
        rintro e' wA ⟨rfl, bA, dA, rfl⟩
        refine TS.go hK1 (by first | exact ⟨_, _, World.grow_grow _ _ _ _ _⟩ | exact ⟨_, _, rfl⟩) (fun hS => ?_)
        clear hK1 K1
        (try simp only [nS])
        refine TS.takeV (i := 18) (v := ?_) rfl (by kernel_rfl) (by kernel_rfl) (by kernel_rfl) (by decide) (fun _ _ _ h => h) rfl hS ?_ ?_
        rotate_left
        focus
          rintro wS ⟨gbS, gdS, rfl⟩
          go_simp
          rfl
        (try simp only [nS])
        refine TS.takeV (i := 19) (v := ?_) rfl (by kernel_rfl) (by kernel_rfl) (by kernel_rfl) (by decide) (fun _ _ _ h => h) rfl hS ?_ ?_
        rotate_left
        focus
          rintro wS ⟨gbS, gdS, rfl⟩
          go_simp
          rfl
        (try simp only [nS])
        refine TS.one (i := 20) (by kernel_rfl) rfl (fun K1 hK1 => ?_)
        go_simp
        refine hK1 _ _ (fun h => absurd (by decide) h) ?_
        clear hK1 K1
        (try simp only [nS])
        refine TS.one (i := 21) (by kernel_rfl) rfl (fun K1 hK1 => ?_)
        go_simp
        refine hK1 _ _ (fun h => absurd (by decide) h) (TS.done (by kernel_rfl) ?_)
        clear hK1 K1 hS
        (try simp only [nS])
        go_wp2_with fail
        go_returns
        exact ⟨rfl, .of_below (by (exact belB))⟩
      · go_enter Tryz.func59, Tryz.ntmps59
        go_wp2_with (first | (go_at_call 95; (with_reducible refine (Z1.out _).mono ?_); rintro e w' ⟨rfl, rfl⟩; clear Z1) | (go_at_call 95; (with_reducible refine (Z2.out _).mono ?_); rintro e w' ⟨rfl, rfl⟩; clear Z2) | (go_at_call 94; (with_reducible refine (G.out _).mono ?_); rintro e w' ⟨rfl, bs, dr, rfl⟩; clear G))
        have gz : ¬ g = 0 := by omega
        refine TS.begin [20, 21] (World.Grows _) (by kernel_rfl) (by kernel_rfl) grows_drew (fun hS => ?_)
        refine TS.takeV (i := 0) (v := ?_) rfl (by kernel_rfl) (by kernel_rfl) (by kernel_rfl) (by decide) (fun _ _ _ h => h) rfl hS ?_ ?_
        rotate_left
        focus
          rintro wS ⟨gbS, gdS, rfl⟩
          go_simp
          rfl
        (try simp only [nS])
        refine TS.takeV (i := 1) (v := ?_) rfl (by kernel_rfl) (by kernel_rfl) (by kernel_rfl) (by decide) (fun _ _ _ h => h) rfl hS ?_ ?_
        rotate_left
        focus
          rintro wS ⟨gbS, gdS, rfl⟩
          go_simp
          rfl
        (try simp only [nS])
        refine TS.takeV (i := 2) (v := ?_) rfl (by kernel_rfl) (by kernel_rfl) (by kernel_rfl) (by decide) (fun _ _ _ h => h) rfl hS ?_ ?_
        rotate_left
        focus
          rintro wS ⟨gbS, gdS, rfl⟩
          go_simp
          rfl
        (try simp only [nS])
        refine TS.takeV (i := 3) (v := ?_) rfl (by kernel_rfl) (by kernel_rfl) (by kernel_rfl) (by decide) (fun _ _ _ h => h) rfl hS ?_ ?_
        rotate_left
        focus
          rintro wS ⟨gbS, gdS, rfl⟩
          go_simp
          rfl
        (try simp only [nS])
        refine TS.takeV (i := 4) (v := ?_) rfl (by kernel_rfl) (by kernel_rfl) (by kernel_rfl) (by decide) (fun _ _ _ h => h) rfl hS ?_ ?_
        rotate_left
        focus
          rintro wS ⟨gbS, gdS, rfl⟩
          go_simp
          rfl
        (try simp only [nS])
        refine TS.takeV (i := 5) (v := ?_) rfl (by kernel_rfl) (by kernel_rfl) (by kernel_rfl) (by decide) (fun _ _ _ h => h) rfl hS ?_ ?_
        rotate_left
        focus
          rintro wS ⟨gbS, gdS, rfl⟩
          go_simp
          rfl
        (try simp only [nS])
        refine TS.takeV (i := 6) (v := ?_) rfl (by kernel_rfl) (by kernel_rfl) (by kernel_rfl) (by decide) (fun _ _ _ h => h) rfl hS ?_ ?_
        rotate_left
        focus
          rintro wS ⟨gbS, gdS, rfl⟩
          go_simp
          rfl
        (try simp only [nS])
        refine TS.takeV (i := 7) (v := ?_) rfl (by kernel_rfl) (by kernel_rfl) (by kernel_rfl) (by decide) (fun _ _ _ h => h) rfl hS ?_ ?_
        rotate_left
        focus
          rintro wS ⟨gbS, gdS, rfl⟩
          go_simp
          rfl
        (try simp only [nS])
        refine TS.takeV (i := 8) (v := ?_) rfl (by kernel_rfl) (by kernel_rfl) (by kernel_rfl) (by decide) (fun _ _ _ h => h) rfl hS ?_ ?_
        rotate_left
        focus
          rintro wS ⟨gbS, gdS, rfl⟩
          go_simp
          rfl
        (try simp only [nS])
        refine TS.takeV (i := 9) (v := ?_) rfl (by kernel_rfl) (by kernel_rfl) (by kernel_rfl) (by decide) (fun _ _ _ h => h) rfl hS ?_ ?_
        rotate_left
        focus
          rintro wS ⟨gbS, gdS, rfl⟩
          go_simp
          rfl
        (try simp only [nS])
        refine TS.takeV (i := 10) (v := ?_) rfl (by kernel_rfl) (by kernel_rfl) (by kernel_rfl) (by decide) (fun _ _ _ h => h) rfl hS ?_ ?_
        rotate_left
        focus
          rintro wS ⟨gbS, gdS, rfl⟩
          go_simp
          rfl
        (try simp only [nS])
        refine TS.takeV (i := 11) (v := .int .u64 (p)) rfl (by kernel_rfl) (by kernel_rfl) (by kernel_rfl) (by decide) (fun _ _ _ h => h) rfl hS ?_ ?_
        focus
          rintro wS ⟨gbS, gdS, rfl⟩
          go_simp
          (try exact e1)
        (try simp only [nS])
        refine TS.takeV (i := 12) (v := ?_) rfl (by kernel_rfl) (by kernel_rfl) (by kernel_rfl) (by decide) (fun _ _ _ h => h) rfl hS ?_ ?_
        rotate_left
        focus
          rintro wS ⟨gbS, gdS, rfl⟩
          go_simp
          rfl
        (try simp only [nS])
        refine TS.takeV (i := 13) (v := ?_) rfl (by kernel_rfl) (by kernel_rfl) (by kernel_rfl) (by decide) (fun _ _ _ h => h) rfl hS ?_ ?_
        rotate_left
        focus
          rintro wS ⟨gbS, gdS, rfl⟩
          go_simp
          rfl
        (try simp only [nS])
        refine TS.takeV (i := 14) (v := ?_) rfl (by kernel_rfl) (by kernel_rfl) (by kernel_rfl) (by decide) (fun _ _ _ h => h) rfl hS ?_ ?_
        rotate_left
        focus
          rintro wS ⟨gbS, gdS, rfl⟩
          go_simp
          rfl
        (try simp only [nS])
        refine TS.takeV (i := 15) (v := .int .u64 (q)) rfl (by kernel_rfl) (by kernel_rfl) (by kernel_rfl) (by decide) (fun _ _ _ h => h) rfl hS ?_ ?_
        focus
          rintro wS ⟨gbS, gdS, rfl⟩
          go_simp
          (try exact e2)
        (try simp only [nS])
        refine TS.takeV (i := 16) (v := ?_) rfl (by kernel_rfl) (by kernel_rfl) (by kernel_rfl) (by decide) (fun _ _ _ h => h) rfl hS ?_ ?_
        rotate_left
        focus
          rintro wS ⟨gbS, gdS, rfl⟩
          go_simp
          rfl
        (try simp only [nS])
        refine TS.one (i := 17) (by kernel_rfl) rfl (fun K1 hK1 => ?_)
        go_simp
        go_at_call 99
        refine (Q.out _).mono ?_
        rintro e' wA ⟨rfl, bA, dA, rfl⟩
        refine TS.go hK1 (by first | exact ⟨_, _, World.grow_grow _ _ _ _ _⟩ | exact ⟨_, _, rfl⟩) (fun hS => ?_)
        clear hK1 K1
        (try simp only [nS])
        refine TS.takeV (i := 18) (v := ?_) rfl (by kernel_rfl) (by kernel_rfl) (by kernel_rfl) (by decide) (fun _ _ _ h => h) rfl hS ?_ ?_
        rotate_left
        focus
          rintro wS ⟨gbS, gdS, rfl⟩
          go_simp
          rfl
        (try simp only [nS])
        refine TS.takeV (i := 19) (v := ?_) rfl (by kernel_rfl) (by kernel_rfl) (by kernel_rfl) (by decide) (fun _ _ _ h => h) rfl hS ?_ ?_
        rotate_left
        focus
          rintro wS ⟨gbS, gdS, rfl⟩
          go_simp
          rfl
        (try simp only [nS])
        refine TS.one (i := 20) (by kernel_rfl) rfl (fun K1 hK1 => ?_)
        go_simp
        refine hK1 _ _ (fun h => absurd (by decide) h) ?_
        clear hK1 K1
        (try simp only [nS])
        refine TS.one (i := 21) (by kernel_rfl) rfl (fun K1 hK1 => ?_)
        go_simp
        refine hK1 _ _ (fun h => absurd (by decide) h) (TS.done (by kernel_rfl) ?_)
        clear hK1 K1 hS
        (try simp only [nS])
        go_wp2_with fail
        go_returns
        exact ⟨rfl, .of_below (by (exact belB))⟩
    · exact absurd h1 (by decide)
  · have c1 : (n != 0) = true := by simpa using c
    have c2 : (n == 0) = false := by simpa using c
    rw [c1, Bool.and_true] at hneg
    subst hneg
    cases s <;> cases t
    · go_enter Tryz.func59, Tryz.ntmps59
      go_wp2_with (first | (go_at_call 95; (with_reducible refine (Z1.out _).mono ?_); rintro e w' ⟨rfl, rfl⟩; clear Z1) | (go_at_call 95; (with_reducible refine (Z2.out _).mono ?_); rintro e w' ⟨rfl, rfl⟩; clear Z2) | (go_at_call 94; (with_reducible refine (G.out _).mono ?_); rintro e w' ⟨rfl, bs, dr, rfl⟩; clear G))
      have gz : ¬ g = 0 := by omega
      refine TS.begin [20, 21] (World.Grows _) (by kernel_rfl) (by kernel_rfl) grows_drew (fun hS => ?_)
      refine TS.takeV (i := 0) (v := ?_) rfl (by kernel_rfl) (by kernel_rfl) (by kernel_rfl) (by decide) (fun _ _ _ h => h) rfl hS ?_ ?_
      rotate_left
      focus
        rintro wS ⟨gbS, gdS, rfl⟩
        go_simp
        rfl
      (try simp only [nS])
      refine TS.takeV (i := 1) (v := ?_) rfl (by kernel_rfl) (by kernel_rfl) (by kernel_rfl) (by decide) (fun _ _ _ h => h) rfl hS ?_ ?_
      rotate_left
      focus
        rintro wS ⟨gbS, gdS, rfl⟩
        go_simp
        rfl
      (try simp only [nS])
      refine TS.takeV (i := 2) (v := ?_) rfl (by kernel_rfl) (by kernel_rfl) (by kernel_rfl) (by decide) (fun _ _ _ h => h) rfl hS ?_ ?_
      rotate_left
      focus
        rintro wS ⟨gbS, gdS, rfl⟩
        go_simp
        rfl
      (try simp only [nS])
      refine TS.takeV (i := 3) (v := ?_) rfl (by kernel_rfl) (by kernel_rfl) (by kernel_rfl) (by decide) (fun _ _ _ h => h) rfl hS ?_ ?_
      rotate_left
      focus
        rintro wS ⟨gbS, gdS, rfl⟩
        go_simp
        rfl
      (try simp only [nS])
      refine TS.takeV (i := 4) (v := ?_) rfl (by kernel_rfl) (by kernel_rfl) (by kernel_rfl) (by decide) (fun _ _ _ h => h) rfl hS ?_ ?_
      rotate_left
      focus
        rintro wS ⟨gbS, gdS, rfl⟩
        go_simp
        rfl
      (try simp only [nS])
      refine TS.takeV (i := 5) (v := ?_) rfl (by kernel_rfl) (by kernel_rfl) (by kernel_rfl) (by decide) (fun _ _ _ h => h) rfl hS ?_ ?_
      rotate_left
      focus
        rintro wS ⟨gbS, gdS, rfl⟩
        go_simp
        rfl
      (try simp only [nS])
      refine TS.take (i := 6) (v := undef) rfl (by kernel_rfl) (by kernel_rfl) (by kernel_rfl) (by decide) (fun _ _ _ h => h) (.inl ⟨rfl, rfl⟩) hS ?_
      (try simp only [nS])
      refine TS.take (i := 7) (v := undef) rfl (by kernel_rfl) (by kernel_rfl) (by kernel_rfl) (by decide) (fun _ _ _ h => h) (.inl ⟨rfl, rfl⟩) hS ?_
      (try simp only [nS])
      refine TS.takeV (i := 8) (v := ?_) rfl (by kernel_rfl) (by kernel_rfl) (by kernel_rfl) (by decide) (fun _ _ _ h => h) rfl hS ?_ ?_
      rotate_left
      focus
        rintro wS ⟨gbS, gdS, rfl⟩
        go_simp
        rfl
      (try simp only [nS])
      refine TS.takeV (i := 9) (v := ?_) rfl (by kernel_rfl) (by kernel_rfl) (by kernel_rfl) (by decide) (fun _ _ _ h => h) rfl hS ?_ ?_
      rotate_left
      focus
        rintro wS ⟨gbS, gdS, rfl⟩
        go_simp
        rfl
      (try simp only [nS])
      refine TS.takeV (i := 10) (v := ?_) rfl (by kernel_rfl) (by kernel_rfl) (by kernel_rfl) (by decide) (fun _ _ _ h => h) rfl hS ?_ ?_
      rotate_left
      focus
        rintro wS ⟨gbS, gdS, rfl⟩
        go_simp
        rfl
      (try simp only [nS])
      refine TS.takeV (i := 11) (v := .int .u64 (p)) rfl (by kernel_rfl) (by kernel_rfl) (by kernel_rfl) (by decide) (fun _ _ _ h => h) rfl hS ?_ ?_
      focus
        rintro wS ⟨gbS, gdS, rfl⟩
        go_simp
        (try exact e1)
      (try simp only [nS])
      refine TS.takeV (i := 12) (v := ?_) rfl (by kernel_rfl) (by kernel_rfl) (by kernel_rfl) (by decide) (fun _ _ _ h => h) rfl hS ?_ ?_
      rotate_left
      focus
        rintro wS ⟨gbS, gdS, rfl⟩
        go_simp
        rfl
      (try simp only [nS])
      refine TS.takeV (i := 13) (v := ?_) rfl (by kernel_rfl) (by kernel_rfl) (by kernel_rfl) (by decide) (fun _ _ _ h => h) rfl hS ?_ ?_
      rotate_left
      focus
        rintro wS ⟨gbS, gdS, rfl⟩
        go_simp
        rfl
      (try simp only [nS])
      refine TS.takeV (i := 14) (v := ?_) rfl (by kernel_rfl) (by kernel_rfl) (by kernel_rfl) (by decide) (fun _ _ _ h => h) rfl hS ?_ ?_
      rotate_left
      focus
        rintro wS ⟨gbS, gdS, rfl⟩
        go_simp
        rfl
      (try simp only [nS])
      refine TS.takeV (i := 15) (v := .int .u64 (q)) rfl (by kernel_rfl) (by kernel_rfl) (by kernel_rfl) (by decide) (fun _ _ _ h => h) rfl hS ?_ ?_
      focus
        rintro wS ⟨gbS, gdS, rfl⟩
        go_simp
        (try exact e2)
      (try simp only [nS])
      refine TS.takeV (i := 16) (v := ?_) rfl (by kernel_rfl) (by kernel_rfl) (by kernel_rfl) (by decide) (fun _ _ _ h => h) rfl hS ?_ ?_
      rotate_left
      focus
        rintro wS ⟨gbS, gdS, rfl⟩
        go_simp
        rfl
      (try simp only [nS])
      refine TS.one (i := 17) (by kernel_rfl) rfl (fun K1 hK1 => ?_)
      go_simp
      go_at_call 99
      refine (Q.out _).mono ?_
      rintro e' wA ⟨rfl, bA, dA, rfl⟩
      refine TS.go hK1 (by first | exact ⟨_, _, World.grow_grow _ _ _ _ _⟩ | exact ⟨_, _, rfl⟩) (fun hS => ?_)
      clear hK1 K1
      (try simp only [nS])
      refine TS.takeV (i := 18) (v := ?_) rfl (by kernel_rfl) (by kernel_rfl) (by kernel_rfl) (by decide) (fun _ _ _ h => h) rfl hS ?_ ?_
      rotate_left
      focus
        rintro wS ⟨gbS, gdS, rfl⟩
        go_simp
        rfl
      (try simp only [nS])
      refine TS.takeV (i := 19) (v := ?_) rfl (by kernel_rfl) (by kernel_rfl) (by kernel_rfl) (by decide) (fun _ _ _ h => h) rfl hS ?_ ?_
      rotate_left
      focus
        rintro wS ⟨gbS, gdS, rfl⟩
        go_simp
        rfl
      (try simp only [nS])
      refine TS.one (i := 20) (by kernel_rfl) rfl (fun K1 hK1 => ?_)
      go_simp
      refine hK1 _ _ (fun h => absurd (by decide) h) ?_
      clear hK1 K1
      (try simp only [nS])
      refine TS.one (i := 21) (by kernel_rfl) rfl (fun K1 hK1 => ?_)
      go_simp
      refine hK1 _ _ (fun h => absurd (by decide) h) (TS.done (by kernel_rfl) ?_)
      clear hK1 K1 hS
      (try simp only [nS])
      go_wp2_with fail
      go_returns
      exact ⟨rfl, .of_below (by (exact belB))⟩
    · go_enter Tryz.func59, Tryz.ntmps59
      go_wp2_with (first | (go_at_call 95; (with_reducible refine (Z1.out _).mono ?_); rintro e w' ⟨rfl, rfl⟩; clear Z1) | (go_at_call 95; (with_reducible refine (Z2.out _).mono ?_); rintro e w' ⟨rfl, rfl⟩; clear Z2) | (go_at_call 94; (with_reducible refine (G.out _).mono ?_); rintro e w' ⟨rfl, bs, dr, rfl⟩; clear G))
      have gz : ¬ g = 0 := by omega
      refine TS.begin [20, 21] (World.Grows _) (by kernel_rfl) (by kernel_rfl) grows_drew (fun hS => ?_)
      refine TS.takeV (i := 0) (v := ?_) rfl (by kernel_rfl) (by kernel_rfl) (by kernel_rfl) (by decide) (fun _ _ _ h => h) rfl hS ?_ ?_
      rotate_left
      focus
        rintro wS ⟨gbS, gdS, rfl⟩
        go_simp
        rfl
      (try simp only [nS])
      refine TS.takeV (i := 1) (v := ?_) rfl (by kernel_rfl) (by kernel_rfl) (by kernel_rfl) (by decide) (fun _ _ _ h => h) rfl hS ?_ ?_
      rotate_left
      focus
        rintro wS ⟨gbS, gdS, rfl⟩
        go_simp
        rfl
      (try simp only [nS])
      refine TS.takeV (i := 2) (v := ?_) rfl (by kernel_rfl) (by kernel_rfl) (by kernel_rfl) (by decide) (fun _ _ _ h => h) rfl hS ?_ ?_
      rotate_left
      focus
        rintro wS ⟨gbS, gdS, rfl⟩
        go_simp
        rfl
      (try simp only [nS])
      refine TS.takeV (i := 3) (v := ?_) rfl (by kernel_rfl) (by kernel_rfl) (by kernel_rfl) (by decide) (fun _ _ _ h => h) rfl hS ?_ ?_
      rotate_left
      focus
        rintro wS ⟨gbS, gdS, rfl⟩
        go_simp
        rfl
      (try simp only [nS])
      refine TS.takeV (i := 4) (v := ?_) rfl (by kernel_rfl) (by kernel_rfl) (by kernel_rfl) (by decide) (fun _ _ _ h => h) rfl hS ?_ ?_
      rotate_left
      focus
        rintro wS ⟨gbS, gdS, rfl⟩
        go_simp
        rfl
      (try simp only [nS])
      refine TS.takeV (i := 5) (v := ?_) rfl (by kernel_rfl) (by kernel_rfl) (by kernel_rfl) (by decide) (fun _ _ _ h => h) rfl hS ?_ ?_
      rotate_left
      focus
        rintro wS ⟨gbS, gdS, rfl⟩
        go_simp
        rfl
      (try simp only [nS])
      refine TS.takeV (i := 6) (v := ?_) rfl (by kernel_rfl) (by kernel_rfl) (by kernel_rfl) (by decide) (fun _ _ _ h => h) rfl hS ?_ ?_
      rotate_left
      focus
        rintro wS ⟨gbS, gdS, rfl⟩
        go_simp
        rfl
      (try simp only [nS])
      refine TS.takeV (i := 7) (v := ?_) rfl (by kernel_rfl) (by kernel_rfl) (by kernel_rfl) (by decide) (fun _ _ _ h => h) rfl hS ?_ ?_
      rotate_left
      focus
        rintro wS ⟨gbS, gdS, rfl⟩
        go_simp
        rfl
      (try simp only [nS])
      refine TS.takeV (i := 8) (v := ?_) rfl (by kernel_rfl) (by kernel_rfl) (by kernel_rfl) (by decide) (fun _ _ _ h => h) rfl hS ?_ ?_
      rotate_left
      focus
        rintro wS ⟨gbS, gdS, rfl⟩
        go_simp
        rfl
      (try simp only [nS])
      refine TS.takeV (i := 9) (v := ?_) rfl (by kernel_rfl) (by kernel_rfl) (by kernel_rfl) (by decide) (fun _ _ _ h => h) rfl hS ?_ ?_
      rotate_left
      focus
        rintro wS ⟨gbS, gdS, rfl⟩
        go_simp
        rfl
      (try simp only [nS])
      refine TS.takeV (i := 10) (v := ?_) rfl (by kernel_rfl) (by kernel_rfl) (by kernel_rfl) (by decide) (fun _ _ _ h => h) rfl hS ?_ ?_
      rotate_left
      focus
        rintro wS ⟨gbS, gdS, rfl⟩
        go_simp
        rfl
      (try simp only [nS])
      refine TS.takeV (i := 11) (v := .int .u64 (p)) rfl (by kernel_rfl) (by kernel_rfl) (by kernel_rfl) (by decide) (fun _ _ _ h => h) rfl hS ?_ ?_
      focus
        rintro wS ⟨gbS, gdS, rfl⟩
        go_simp
        (try exact e1)
      (try simp only [nS])
      refine TS.takeV (i := 12) (v := ?_) rfl (by kernel_rfl) (by kernel_rfl) (by kernel_rfl) (by decide) (fun _ _ _ h => h) rfl hS ?_ ?_
      rotate_left
      focus
        rintro wS ⟨gbS, gdS, rfl⟩
        go_simp
        rfl
      (try simp only [nS])
      refine TS.takeV (i := 13) (v := ?_) rfl (by kernel_rfl) (by kernel_rfl) (by kernel_rfl) (by decide) (fun _ _ _ h => h) rfl hS ?_ ?_
      rotate_left
      focus
        rintro wS ⟨gbS, gdS, rfl⟩
        go_simp
        rfl
      (try simp only [nS])
      refine TS.takeV (i := 14) (v := ?_) rfl (by kernel_rfl) (by kernel_rfl) (by kernel_rfl) (by decide) (fun _ _ _ h => h) rfl hS ?_ ?_
      rotate_left
      focus
        rintro wS ⟨gbS, gdS, rfl⟩
        go_simp
        rfl
      (try simp only [nS])
      refine TS.takeV (i := 15) (v := .int .u64 (q)) rfl (by kernel_rfl) (by kernel_rfl) (by kernel_rfl) (by decide) (fun _ _ _ h => h) rfl hS ?_ ?_
      focus
        rintro wS ⟨gbS, gdS, rfl⟩
        go_simp
        (try exact e2)
      (try simp only [nS])
      refine TS.takeV (i := 16) (v := ?_) rfl (by kernel_rfl) (by kernel_rfl) (by kernel_rfl) (by decide) (fun _ _ _ h => h) rfl hS ?_ ?_
      rotate_left
      focus
        rintro wS ⟨gbS, gdS, rfl⟩
        go_simp
        rfl
      (try simp only [nS])
      refine TS.one (i := 17) (by kernel_rfl) rfl (fun K1 hK1 => ?_)
      go_simp
      go_at_call 99
      refine (Q.out _).mono ?_
      rintro e' wA ⟨rfl, bA, dA, rfl⟩
      refine TS.go hK1 (by first | exact ⟨_, _, World.grow_grow _ _ _ _ _⟩ | exact ⟨_, _, rfl⟩) (fun hS => ?_)
      clear hK1 K1
      (try simp only [nS])
      refine TS.takeV (i := 18) (v := ?_) rfl (by kernel_rfl) (by kernel_rfl) (by kernel_rfl) (by decide) (fun _ _ _ h => h) rfl hS ?_ ?_
      rotate_left
      focus
        rintro wS ⟨gbS, gdS, rfl⟩
        go_simp
        rfl
      (try simp only [nS])
      refine TS.takeV (i := 19) (v := ?_) rfl (by kernel_rfl) (by kernel_rfl) (by kernel_rfl) (by decide) (fun _ _ _ h => h) rfl hS ?_ ?_
      rotate_left
      focus
        rintro wS ⟨gbS, gdS, rfl⟩
        go_simp
        rfl
      (try simp only [nS])
      refine TS.one (i := 20) (by kernel_rfl) rfl (fun K1 hK1 => ?_)
      go_simp
      refine hK1 _ _ (fun h => absurd (by decide) h) ?_
      clear hK1 K1
      (try simp only [nS])
      refine TS.one (i := 21) (by kernel_rfl) rfl (fun K1 hK1 => ?_)
      go_simp
      refine hK1 _ _ (fun h => absurd (by decide) h) (TS.done (by kernel_rfl) ?_)
      clear hK1 K1 hS
      (try simp only [nS])
      go_wp2_with fail
      go_returns
      exact ⟨rfl, .of_below (by (exact belB))⟩
    · go_enter Tryz.func59, Tryz.ntmps59
      go_wp2_with (first | (go_at_call 95; (with_reducible refine (Z1.out _).mono ?_); rintro e w' ⟨rfl, rfl⟩; clear Z1) | (go_at_call 95; (with_reducible refine (Z2.out _).mono ?_); rintro e w' ⟨rfl, rfl⟩; clear Z2) | (go_at_call 94; (with_reducible refine (G.out _).mono ?_); rintro e w' ⟨rfl, bs, dr, rfl⟩; clear G))
      have gz : ¬ g = 0 := by omega
      refine TS.begin [20, 21] (World.Grows _) (by kernel_rfl) (by kernel_rfl) grows_drew (fun hS => ?_)
      refine TS.takeV (i := 0) (v := ?_) rfl (by kernel_rfl) (by kernel_rfl) (by kernel_rfl) (by decide) (fun _ _ _ h => h) rfl hS ?_ ?_
      rotate_left
      focus
        rintro wS ⟨gbS, gdS, rfl⟩
        go_simp
        rfl
      (try simp only [nS])
      refine TS.takeV (i := 1) (v := ?_) rfl (by kernel_rfl) (by kernel_rfl) (by kernel_rfl) (by decide) (fun _ _ _ h => h) rfl hS ?_ ?_
      rotate_left
      focus
        rintro wS ⟨gbS, gdS, rfl⟩
        go_simp
        rfl
      (try simp only [nS])
      refine TS.takeV (i := 2) (v := ?_) rfl (by kernel_rfl) (by kernel_rfl) (by kernel_rfl) (by decide) (fun _ _ _ h => h) rfl hS ?_ ?_
      rotate_left
      focus
        rintro wS ⟨gbS, gdS, rfl⟩
        go_simp
        rfl
      (try simp only [nS])
      refine TS.takeV (i := 3) (v := ?_) rfl (by kernel_rfl) (by kernel_rfl) (by kernel_rfl) (by decide) (fun _ _ _ h => h) rfl hS ?_ ?_
      rotate_left
      focus
        rintro wS ⟨gbS, gdS, rfl⟩
        go_simp
        rfl
      (try simp only [nS])
      refine TS.takeV (i := 4) (v := ?_) rfl (by kernel_rfl) (by kernel_rfl) (by kernel_rfl) (by decide) (fun _ _ _ h => h) rfl hS ?_ ?_
      rotate_left
      focus
        rintro wS ⟨gbS, gdS, rfl⟩
        go_simp
        rfl
      (try simp only [nS])
      refine TS.takeV (i := 5) (v := ?_) rfl (by kernel_rfl) (by kernel_rfl) (by kernel_rfl) (by decide) (fun _ _ _ h => h) rfl hS ?_ ?_
      rotate_left
      focus
        rintro wS ⟨gbS, gdS, rfl⟩
        go_simp
        rfl
      (try simp only [nS])
      refine TS.takeV (i := 6) (v := ?_) rfl (by kernel_rfl) (by kernel_rfl) (by kernel_rfl) (by decide) (fun _ _ _ h => h) rfl hS ?_ ?_
      rotate_left
      focus
        rintro wS ⟨gbS, gdS, rfl⟩
        go_simp
        rfl
      (try simp only [nS])
      refine TS.takeV (i := 7) (v := ?_) rfl (by kernel_rfl) (by kernel_rfl) (by kernel_rfl) (by decide) (fun _ _ _ h => h) rfl hS ?_ ?_
      rotate_left
      focus
        rintro wS ⟨gbS, gdS, rfl⟩
        go_simp
        rfl
      (try simp only [nS])
      refine TS.takeV (i := 8) (v := ?_) rfl (by kernel_rfl) (by kernel_rfl) (by kernel_rfl) (by decide) (fun _ _ _ h => h) rfl hS ?_ ?_
      rotate_left
      focus
        rintro wS ⟨gbS, gdS, rfl⟩
        go_simp
        rfl
      (try simp only [nS])
      refine TS.takeV (i := 9) (v := ?_) rfl (by kernel_rfl) (by kernel_rfl) (by kernel_rfl) (by decide) (fun _ _ _ h => h) rfl hS ?_ ?_
      rotate_left
      focus
        rintro wS ⟨gbS, gdS, rfl⟩
        go_simp
        rfl
      (try simp only [nS])
      refine TS.takeV (i := 10) (v := ?_) rfl (by kernel_rfl) (by kernel_rfl) (by kernel_rfl) (by decide) (fun _ _ _ h => h) rfl hS ?_ ?_
      rotate_left
      focus
        rintro wS ⟨gbS, gdS, rfl⟩
        go_simp
        rfl
      (try simp only [nS])
      refine TS.takeV (i := 11) (v := .int .u64 (p)) rfl (by kernel_rfl) (by kernel_rfl) (by kernel_rfl) (by decide) (fun _ _ _ h => h) rfl hS ?_ ?_
      focus
        rintro wS ⟨gbS, gdS, rfl⟩
        go_simp
        (try exact e1)
      (try simp only [nS])
      refine TS.takeV (i := 12) (v := ?_) rfl (by kernel_rfl) (by kernel_rfl) (by kernel_rfl) (by decide) (fun _ _ _ h => h) rfl hS ?_ ?_
      rotate_left
      focus
        rintro wS ⟨gbS, gdS, rfl⟩
        go_simp
        rfl
      (try simp only [nS])
      refine TS.takeV (i := 13) (v := ?_) rfl (by kernel_rfl) (by kernel_rfl) (by kernel_rfl) (by decide) (fun _ _ _ h => h) rfl hS ?_ ?_
      rotate_left
      focus
        rintro wS ⟨gbS, gdS, rfl⟩
        go_simp
        rfl
      (try simp only [nS])
      refine TS.takeV (i := 14) (v := ?_) rfl (by kernel_rfl) (by kernel_rfl) (by kernel_rfl) (by decide) (fun _ _ _ h => h) rfl hS ?_ ?_
      rotate_left
      focus
        rintro wS ⟨gbS, gdS, rfl⟩
        go_simp
        rfl
      (try simp only [nS])
      refine TS.takeV (i := 15) (v := .int .u64 (q)) rfl (by kernel_rfl) (by kernel_rfl) (by kernel_rfl) (by decide) (fun _ _ _ h => h) rfl hS ?_ ?_
      focus
        rintro wS ⟨gbS, gdS, rfl⟩
        go_simp
        (try exact e2)
      (try simp only [nS])
      refine TS.takeV (i := 16) (v := ?_) rfl (by kernel_rfl) (by kernel_rfl) (by kernel_rfl) (by decide) (fun _ _ _ h => h) rfl hS ?_ ?_
      rotate_left
      focus
        rintro wS ⟨gbS, gdS, rfl⟩
        go_simp
        rfl
      (try simp only [nS])
      refine TS.one (i := 17) (by kernel_rfl) rfl (fun K1 hK1 => ?_)
      go_simp
      go_at_call 99
      refine (Q.out _).mono ?_
      rintro e' wA ⟨rfl, bA, dA, rfl⟩
      refine TS.go hK1 (by first | exact ⟨_, _, World.grow_grow _ _ _ _ _⟩ | exact ⟨_, _, rfl⟩) (fun hS => ?_)
      clear hK1 K1
      (try simp only [nS])
      refine TS.takeV (i := 18) (v := ?_) rfl (by kernel_rfl) (by kernel_rfl) (by kernel_rfl) (by decide) (fun _ _ _ h => h) rfl hS ?_ ?_
      rotate_left
      focus
        rintro wS ⟨gbS, gdS, rfl⟩
        go_simp
        rfl
      (try simp only [nS])
      refine TS.takeV (i := 19) (v := ?_) rfl (by kernel_rfl) (by kernel_rfl) (by kernel_rfl) (by decide) (fun _ _ _ h => h) rfl hS ?_ ?_
      rotate_left
      focus
        rintro wS ⟨gbS, gdS, rfl⟩
        go_simp
        rfl
      (try simp only [nS])
      refine TS.one (i := 20) (by kernel_rfl) rfl (fun K1 hK1 => ?_)
      go_simp
      refine hK1 _ _ (fun h => absurd (by decide) h) ?_
      clear hK1 K1
      (try simp only [nS])
      refine TS.one (i := 21) (by kernel_rfl) rfl (fun K1 hK1 => ?_)
      go_simp
      refine hK1 _ _ (fun h => absurd (by decide) h) (TS.done (by kernel_rfl) ?_)
      clear hK1 K1 hS
      (try simp only [nS])
      go_wp2_with fail
      go_returns
      exact ⟨rfl, .of_below (by (exact belB))⟩
    · go_enter Tryz.func59, Tryz.ntmps59
      go_wp2_with (first | (go_at_call 95; (with_reducible refine (Z1.out _).mono ?_); rintro e w' ⟨rfl, rfl⟩; clear Z1) | (go_at_call 95; (with_reducible refine (Z2.out _).mono ?_); rintro e w' ⟨rfl, rfl⟩; clear Z2) | (go_at_call 94; (with_reducible refine (G.out _).mono ?_); rintro e w' ⟨rfl, bs, dr, rfl⟩; clear G))
      have gz : ¬ g = 0 := by omega
      refine TS.begin [20, 21] (World.Grows _) (by kernel_rfl) (by kernel_rfl) grows_drew (fun hS => ?_)
      refine TS.takeV (i := 0) (v := ?_) rfl (by kernel_rfl) (by kernel_rfl) (by kernel_rfl) (by decide) (fun _ _ _ h => h) rfl hS ?_ ?_
      rotate_left
      focus
        rintro wS ⟨gbS, gdS, rfl⟩
        go_simp
        rfl
      (try simp only [nS])
      refine TS.takeV (i := 1) (v := ?_) rfl (by kernel_rfl) (by kernel_rfl) (by kernel_rfl) (by decide) (fun _ _ _ h => h) rfl hS ?_ ?_
      rotate_left
      focus
        rintro wS ⟨gbS, gdS, rfl⟩
        go_simp
        rfl
      (try simp only [nS])
      refine TS.takeV (i := 2) (v := ?_) rfl (by kernel_rfl) (by kernel_rfl) (by kernel_rfl) (by decide) (fun _ _ _ h => h) rfl hS ?_ ?_
      rotate_left
      focus
        rintro wS ⟨gbS, gdS, rfl⟩
        go_simp
        rfl
      (try simp only [nS])
      refine TS.takeV (i := 3) (v := ?_) rfl (by kernel_rfl) (by kernel_rfl) (by kernel_rfl) (by decide) (fun _ _ _ h => h) rfl hS ?_ ?_
      rotate_left
      focus
        rintro wS ⟨gbS, gdS, rfl⟩
        go_simp
        rfl
      (try simp only [nS])
      refine TS.takeV (i := 4) (v := ?_) rfl (by kernel_rfl) (by kernel_rfl) (by kernel_rfl) (by decide) (fun _ _ _ h => h) rfl hS ?_ ?_
      rotate_left
      focus
        rintro wS ⟨gbS, gdS, rfl⟩
        go_simp
        rfl
      (try simp only [nS])
      refine TS.takeV (i := 5) (v := ?_) rfl (by kernel_rfl) (by kernel_rfl) (by kernel_rfl) (by decide) (fun _ _ _ h => h) rfl hS ?_ ?_
      rotate_left
      focus
        rintro wS ⟨gbS, gdS, rfl⟩
        go_simp
        rfl
      (try simp only [nS])
      refine TS.take (i := 6) (v := undef) rfl (by kernel_rfl) (by kernel_rfl) (by kernel_rfl) (by decide) (fun _ _ _ h => h) (.inl ⟨rfl, rfl⟩) hS ?_
      (try simp only [nS])
      refine TS.take (i := 7) (v := undef) rfl (by kernel_rfl) (by kernel_rfl) (by kernel_rfl) (by decide) (fun _ _ _ h => h) (.inl ⟨rfl, rfl⟩) hS ?_
      (try simp only [nS])
      refine TS.takeV (i := 8) (v := ?_) rfl (by kernel_rfl) (by kernel_rfl) (by kernel_rfl) (by decide) (fun _ _ _ h => h) rfl hS ?_ ?_
      rotate_left
      focus
        rintro wS ⟨gbS, gdS, rfl⟩
        go_simp
        rfl
      (try simp only [nS])
      refine TS.takeV (i := 9) (v := ?_) rfl (by kernel_rfl) (by kernel_rfl) (by kernel_rfl) (by decide) (fun _ _ _ h => h) rfl hS ?_ ?_
      rotate_left
      focus
        rintro wS ⟨gbS, gdS, rfl⟩
        go_simp
        rfl
      (try simp only [nS])
      refine TS.takeV (i := 10) (v := ?_) rfl (by kernel_rfl) (by kernel_rfl) (by kernel_rfl) (by decide) (fun _ _ _ h => h) rfl hS ?_ ?_
      rotate_left
      focus
        rintro wS ⟨gbS, gdS, rfl⟩
        go_simp
        rfl
      (try simp only [nS])
      refine TS.takeV (i := 11) (v := .int .u64 (p)) rfl (by kernel_rfl) (by kernel_rfl) (by kernel_rfl) (by decide) (fun _ _ _ h => h) rfl hS ?_ ?_
      focus
        rintro wS ⟨gbS, gdS, rfl⟩
        go_simp
        (try exact e1)
      (try simp only [nS])
      refine TS.takeV (i := 12) (v := ?_) rfl (by kernel_rfl) (by kernel_rfl) (by kernel_rfl) (by decide) (fun _ _ _ h => h) rfl hS ?_ ?_
      rotate_left
      focus
        rintro wS ⟨gbS, gdS, rfl⟩
        go_simp
        rfl
      (try simp only [nS])
      refine TS.takeV (i := 13) (v := ?_) rfl (by kernel_rfl) (by kernel_rfl) (by kernel_rfl) (by decide) (fun _ _ _ h => h) rfl hS ?_ ?_
      rotate_left
      focus
        rintro wS ⟨gbS, gdS, rfl⟩
        go_simp
        rfl
      (try simp only [nS])
      refine TS.takeV (i := 14) (v := ?_) rfl (by kernel_rfl) (by kernel_rfl) (by kernel_rfl) (by decide) (fun _ _ _ h => h) rfl hS ?_ ?_
      rotate_left
      focus
        rintro wS ⟨gbS, gdS, rfl⟩
        go_simp
        rfl
      (try simp only [nS])
      refine TS.takeV (i := 15) (v := .int .u64 (q)) rfl (by kernel_rfl) (by kernel_rfl) (by kernel_rfl) (by decide) (fun _ _ _ h => h) rfl hS ?_ ?_
      focus
        rintro wS ⟨gbS, gdS, rfl⟩
        go_simp
        (try exact e2)
      (try simp only [nS])
      refine TS.takeV (i := 16) (v := ?_) rfl (by kernel_rfl) (by kernel_rfl) (by kernel_rfl) (by decide) (fun _ _ _ h => h) rfl hS ?_ ?_
      rotate_left
      focus
        rintro wS ⟨gbS, gdS, rfl⟩
        go_simp
        rfl
      (try simp only [nS])
      refine TS.one (i := 17) (by kernel_rfl) rfl (fun K1 hK1 => ?_)
      go_simp
      go_at_call 99
      refine (Q.out _).mono ?_
      rintro e' wA ⟨rfl, bA, dA, rfl⟩
      refine TS.go hK1 (by first | exact ⟨_, _, World.grow_grow _ _ _ _ _⟩ | exact ⟨_, _, rfl⟩) (fun hS => ?_)
      clear hK1 K1
      (try simp only [nS])
      refine TS.takeV (i := 18) (v := ?_) rfl (by kernel_rfl) (by kernel_rfl) (by kernel_rfl) (by decide) (fun _ _ _ h => h) rfl hS ?_ ?_
      rotate_left
      focus
        rintro wS ⟨gbS, gdS, rfl⟩
        go_simp
        rfl
      (try simp only [nS])
      refine TS.takeV (i := 19) (v := ?_) rfl (by kernel_rfl) (by kernel_rfl) (by kernel_rfl) (by decide) (fun _ _ _ h => h) rfl hS ?_ ?_
      rotate_left
      focus
        rintro wS ⟨gbS, gdS, rfl⟩
        go_simp
        rfl
      (try simp only [nS])
      refine TS.one (i := 20) (by kernel_rfl) rfl (fun K1 hK1 => ?_)
      go_simp
      refine hK1 _ _ (fun h => absurd (by decide) h) ?_
      clear hK1 K1
      (try simp only [nS])
      refine TS.one (i := 21) (by kernel_rfl) rfl (fun K1 hK1 => ?_)
      go_simp
      refine hK1 _ _ (fun h => absurd (by decide) h) (TS.done (by kernel_rfl) ?_)
      clear hK1 K1 hS
      (try simp only [nS])
      go_wp2_with fail
      go_returns
      exact ⟨rfl, .of_below (by (exact belB))⟩
set_option maxHeartbeats 2000000 in
theorem make2_zero (n : Int) (w : World) : Calls Tryz.prog 59 #[.int .i64 n, .int .i64 0] w fun e w' => e = .returned (frV (0, 0, 3)) ∧ w.Grows w' := by
  go_enter Tryz.func59, Tryz.ntmps59
  go_wp2_with fail
  go_returns
  exact ⟨rfl, .of_below (by (exact belB))⟩
end Go.Proofs.YtlheailebbngiaaGreatDoor
