
import Derived.Test.YtldelkkeimlfcaaQIndexed
set_option linter.all false
namespace Go.Proofs.Ytldelkkeimlfcaa
open Go.RowKit

def carryW (a b : Nat) : Int := ((a % 18446744073709551616 + b % 18446744073709551616) / 18446744073709551616 : Nat)
theorem add64_run (a b : Nat) (w : World) : (callFunc 76 #[.int .u64 (loW a), .int .u64 (loW b), .int .u64 0]).run Try.prog w = .ok (.value (.tuple #[.int .u64 (loW (a + b)), .int .u64 (carryW a b)])) w := by
  rw [run_callFunc_extern Try.func76 (by kernel_rfl) (by kernel_rfl) (by kernel_rfl) (e := add64Entry) (by kernel_rfl)]
  unfold loW carryW
  have h := run_add64 (P := Try.prog) (w := w) ((a % 18446744073709551616 : Nat) : Int) ((b % 18446744073709551616 : Nat) : Int) 0 (by omega) (by omega) (by omega) (by omega)
  have e1 : (((a % 18446744073709551616 : Nat) : Int) + ((b % 18446744073709551616 : Nat) : Int) + 0) % 18446744073709551616 = (((a + b) % 18446744073709551616 : Nat) : Int) := by omega
  have e2 : (((a % 18446744073709551616 : Nat) : Int) + ((b % 18446744073709551616 : Nat) : Int) + 0) / 18446744073709551616 = (((a % 18446744073709551616 + b % 18446744073709551616) / 18446744073709551616 : Nat) : Int) := by omega
  rw [e1, e2] at h
  rw [h]
  rfl

theorem hi_plus (a b : Nat) (h : a + b < 340282366920938463463374607431768211456) : IntKind.u64.wrap (IntKind.u64.wrap (hiW a + hiW b) + carryW a b) = hiW (a + b) := by
  simp only [IntKind.wrap_u64]
  unfold hiW carryW
  omega

set_option maxHeartbeats 1000000 in
theorem plus1_any (a b : Nat) (w : World) (h : a + b < 340282366920938463463374607431768211456) :
    Calls Try.prog 54 #[.agg #[.int .u64 (hiW a), .int .u64 (loW a)], .agg #[.int .u64 (hiW b), .int .u64 (loW b)]] w fun e w' => e = .returned (.agg #[.int .u64 (hiW (a + b)), .int .u64 (loW (a + b))]) ∧ w.Grows w' := by
  have ha := add64_run a b
  have hp := Lib.hid (hi_plus a b h)
  clear h
  generalize hA : hiW a = A at *
  generalize hB : hiW b = B at *
  generalize loW a = La at *
  generalize loW b = Lb at *
  generalize hiW (a + b) = S at *
  generalize loW (a + b) = T at *
  generalize carryW a b = c at *
  clear hA hB
  go_enter Try.func54, Try.ntmps54
  go_wp2_with fail
  go_returns
  exact ⟨by rw [hp.out], .of_below (by (repeat' (first | (with_reducible exact Below.refl _ _) | (with_reducible assumption) | (with_reducible refine Below.grow ?_ ?_ _ _) | (with_reducible refine Below.alloc ?_ ?_ _) | (with_reducible refine Below.drewN ?_ _) | (with_reducible refine Below.drew ?_) | (with_reducible refine Below.setCell ?_ ?_ _) | go_size)))⟩

set_option maxHeartbeats 2000000 in
/-- rounded, downwards to a whole number, of a number without sign. -/
theorem rounded1_walk (d qh ql rest H L : Int) (w : World) (hd : 0 ≤ d) (hd1 : d < 18446744073709551616) (hq : 0 ≤ ql) (hr : 0 ≤ rest) (hr1 : rest < d)
    (HO : Hid (∀ w' : World, Calls Try.prog 64 #[.agg #[.int .u64 H, .int .u64 L], .int .u64 d] w' fun e w'' => e = .returned (.tuple #[.agg #[.int .u64 qh, .int .u64 ql], .int .u64 rest]) ∧ w'.Grows w'')) :
    Calls Try.prog 53 #[.bool false, .agg #[.int .u64 H, .int .u64 L], .int .u64 d, .agg #[.int .i64 1, .int .i64 1]] w fun e w' => e = .returned (idxV 1 (if (qh != 0) = true then 1 else 0) ql) ∧ w.Grows w' := by
  by_cases c1 : (qh != 0) = true
  · rw [if_pos c1]
    go_enter Try.func53, Try.ntmps53
    go_wp2_with (first | (go_at_call 64; (with_reducible refine (HO.out _).mono ?_); rintro e w' ⟨rfl, bs, dr, rfl⟩))
    go_returns
    refine ⟨?_, .of_below (by (repeat' (first | (with_reducible exact Below.refl _ _) | (with_reducible assumption) | (with_reducible refine Below.grow ?_ ?_ _ _) | (with_reducible refine Below.alloc ?_ ?_ _) | (with_reducible refine Below.drewN ?_ _) | (with_reducible refine Below.drew ?_) | (with_reducible refine Below.setCell ?_ ?_ _) | go_size)))⟩
    unfold idxV
    split <;> first | rfl | (exfalso; first | omega | (simp_all; done))
  · have c1' : (qh != 0) = false := by simpa using c1
    rw [if_neg c1]
    clear c1
    by_cases c2 : 1000000000000 < ql
    · go_enter Try.func53, Try.ntmps53
      go_wp2_with (first | (go_at_call 64; (with_reducible refine (HO.out _).mono ?_); rintro e w' ⟨rfl, bs, dr, rfl⟩))
      go_returns
      refine ⟨?_, .of_below (by (repeat' (first | (with_reducible exact Below.refl _ _) | (with_reducible assumption) | (with_reducible refine Below.grow ?_ ?_ _ _) | (with_reducible refine Below.alloc ?_ ?_ _) | (with_reducible refine Below.drewN ?_ _) | (with_reducible refine Below.drew ?_) | (with_reducible refine Below.setCell ?_ ?_ _) | go_size)))⟩
      unfold idxV
      split <;> first | rfl | (exfalso; first | omega | (simp_all; done))
    · go_enter Try.func53, Try.ntmps53
      go_wp2_with (first | (go_at_call 64; (with_reducible refine (HO.out _).mono ?_); rintro e w' ⟨rfl, bs, dr, rfl⟩))
      go_returns
      refine ⟨?_, .of_below (by (repeat' (first | (with_reducible exact Below.refl _ _) | (with_reducible assumption) | (with_reducible refine Below.grow ?_ ?_ _ _) | (with_reducible refine Below.alloc ?_ ?_ _) | (with_reducible refine Below.drewN ?_ _) | (with_reducible refine Below.drew ?_) | (with_reducible refine Below.setCell ?_ ?_ _) | go_size)))⟩
      unfold idxV
      split <;> first | rfl | (exfalso; first | omega | (simp_all; done))

set_option maxHeartbeats 2000000 in
theorem Quotient1_walk (a b c d e D xh xl m yh yl ph pl rn re : Int) (w : World) (ha : 0 ≤ a) (ha1 : a ≤ 1000000000000) (hb : 0 < b) (hb1 : b ≤ 10000000000000) (hc : 1 ≤ c) (hc1 : c ≤ 10000) (hd : 1 ≤ d) (hd1 : d ≤ 10000) (he : 0 < e) (he1 : e ≤ 10000000000000)
    (eD : IntKind.u64.wrap (d * e) = D)
    (HX : Hid (∀ w' : World, Calls Try.prog 52 #[.int .u64 a, .int .u64 b] w' fun e w'' => e = .returned (.agg #[.int .u64 xh, .int .u64 xl]) ∧ w'.Grows w''))
    (HM : Hid (∀ w' : World, Calls Try.prog 30 #[.int .u64 xh, .int .u64 c] w' fun e w'' => e = .returned (.tuple #[.int .u64 0, .int .u64 m]) ∧ w' = w''))
    (HY : Hid (∀ w' : World, Calls Try.prog 52 #[.int .u64 xl, .int .u64 c] w' fun e w'' => e = .returned (.agg #[.int .u64 yh, .int .u64 yl]) ∧ w'.Grows w''))
    (HP : Hid (∀ w' : World, Calls Try.prog 54 #[.agg #[.int .u64 yh, .int .u64 yl], .agg #[.int .u64 m, .int .u64 0]] w' fun e w'' => e = .returned (.agg #[.int .u64 ph, .int .u64 pl]) ∧ w'.Grows w''))
    (HR : Hid (∀ w' : World, Calls Try.prog 53 #[.bool false, .agg #[.int .u64 ph, .int .u64 pl], .int .u64 D, .agg #[.int .i64 1, .int .i64 1]] w' fun e w'' => e = .returned (.tuple #[.int .i64 rn, .int .i64 re]) ∧ w'.Grows w'')) :
    Calls Try.prog 33 #[.int .i64 a, .int .i64 b, .int .i64 c, .int .i64 d, .int .i64 e] w fun e w' => e = .returned (.tuple #[.int .i64 rn, .int .i64 re]) ∧ w.Grows w' := by
  go_enter Try.func33, Try.ntmps33
  go_wp2_with (first
    | (go_at_call 52; (with_reducible refine (HX.out _).mono ?_); rintro e w' ⟨rfl, bs, dr, rfl⟩)
    | (go_at_call 52; (with_reducible refine (HY.out _).mono ?_); rintro e w' ⟨rfl, bs, dr, rfl⟩)
    | (go_at_call 30; (with_reducible refine (HM.out _).mono ?_); rintro e w' ⟨rfl, rfl⟩)
    | (go_at_call 54; (with_reducible refine (HP.out _).mono ?_); rintro e w' ⟨rfl, bs, dr, rfl⟩)
    | (go_at_call 53; (with_reducible refine (HR.out _).mono ?_); rintro e w' ⟨rfl, bs, dr, rfl⟩))
  go_returns
  exact ⟨rfl, .of_below (by (repeat' (first | (with_reducible exact Below.refl _ _) | (with_reducible assumption) | (with_reducible refine Below.grow ?_ ?_ _ _) | (with_reducible refine Below.alloc ?_ ?_ _) | (with_reducible refine Below.drewN ?_ _) | (with_reducible refine Below.drew ?_) | (with_reducible refine Below.setCell ?_ ?_ _) | go_size)))⟩

set_option maxHeartbeats 2000000 in
theorem Indexed1_no (c0 c1 c2 c3 c4 c5 c6 c7 : Value) (amount year ref tn td fn fd : Int) (ut uf : Bool) (w : World) (hno : amount < 0 ∨ 1000000000000 < amount ∨ ut = false ∨ uf = false)
    (HT : Hid (∀ w' : World, w.Grows w' → Calls Try.prog 13 #[.agg #[c0, c1, c2, c3, c4, c5, c6, c7], .int .i64 ref] w' fun e w'' => e = .returned (.agg #[.int .i64 tn, .int .i64 td]) ∧ w'.Grows w''))
    (HF : Hid (∀ w' : World, w.Grows w' → Calls Try.prog 13 #[.agg #[c0, c1, c2, c3, c4, c5, c6, c7], .int .i64 year] w' fun e w'' => e = .returned (.agg #[.int .i64 fn, .int .i64 fd]) ∧ w'.Grows w''))
    (HU : Hid (∀ w' : World, Calls Try.prog 32 #[.agg #[.int .i64 tn, .int .i64 td]] w' fun e w'' => e = .returned (.bool ut) ∧ w'.Grows w''))
    (HV : Hid (∀ w' : World, Calls Try.prog 32 #[.agg #[.int .i64 fn, .int .i64 fd]] w' fun e w'' => e = .returned (.bool uf) ∧ w'.Grows w''))
    :
    Calls Try.prog 15 #[.agg #[c0, c1, c2, c3, c4, c5, c6, c7], .int .i64 amount, .int .i64 year, .int .i64 ref] w fun e w' => e = .returned (.tuple #[.int .i64 0, .int .i64 1]) ∧ w.Grows w' := by
  by_cases d1 : amount < 0
  · clear hno
    go_enter Try.func15, Try.ntmps15
    go_wp2_with fail
    apply wp_region_made2 8 (6, 10, .cells #[.int .i64 0, .int .i64 0] 39) (7, 11, .cells #[.int .i64 0, .int .i64 0] 39) (by kernel_rfl) (by kernel_rfl)
    case hrx =>
      intro o ho ρ w
      obtain rfl := Option.some.inj ho
      simp [go_sem]
    case hry =>
      intro o ho ρ w
      obtain rfl := Option.some.inj ho
      simp [go_sem]
    case h1 =>
      intro bs d
      simp only [List.take_succ_cons, List.take_zero, List.map_cons, List.map_nil, Oper.mask]
      repeat (go_big_quiet_step ((go_at_call 13; first | (with_reducible exact Calls.quietM (HT.out _ (.of_below (by (repeat' (first | (with_reducible exact Below.refl _ _) | (with_reducible assumption) | (with_reducible refine Below.grow ?_ ?_ _ _) | (with_reducible refine Below.alloc ?_ ?_ _) | (with_reducible refine Below.drewN ?_ _) | (with_reducible refine Below.drew ?_) | (with_reducible refine Below.setCell ?_ ?_ _) | go_size)))))) | (with_reducible exact Calls.quietM (HF.out _ (.of_below (by (repeat' (first | (with_reducible exact Below.refl _ _) | (with_reducible assumption) | (with_reducible refine Below.grow ?_ ?_ _ _) | (with_reducible refine Below.alloc ?_ ?_ _) | (with_reducible refine Below.drewN ?_ _) | (with_reducible refine Below.drew ?_) | (with_reducible refine Below.setCell ?_ ?_ _) | go_size)))))))))
      exact wpQuiet_nil rfl
    all_goals
      intro gb1 gd1 gb2 gd2 gb gd
      simp only [List.drop_succ_cons, List.drop_zero, Act.put, List.setIfInBounds_toArray, List.set_cons_zero, List.set_cons_succ]
    all_goals
      clear HT HF
      go_wp2_with (first | (go_at_call 32; (with_reducible refine (HU.out _).mono ?_); rintro e w' ⟨rfl, bs, dr, rfl⟩) | (go_at_call 32; (with_reducible refine (HV.out _).mono ?_); rintro e w' ⟨rfl, bs, dr, rfl⟩) | (go_at_call 30; (with_reducible refine (HM.out _).mono ?_); rintro e w' ⟨rfl, rfl⟩) | (go_at_call 31; (with_reducible refine (HD.out _).mono ?_); rintro e w' ⟨rfl, bs, dr, rfl⟩) | (go_at_call 33; (with_reducible refine (HQ.out _).mono ?_); rintro e w' ⟨rfl, bs, dr, rfl⟩))
      go_returns
      first
        | exact ⟨rfl, .of_below (by (repeat' (first | (with_reducible exact Below.refl _ _) | (with_reducible assumption) | (with_reducible refine Below.grow ?_ ?_ _ _) | (with_reducible refine Below.alloc ?_ ?_ _) | (with_reducible refine Below.drewN ?_ _) | (with_reducible refine Below.drew ?_) | (with_reducible refine Below.setCell ?_ ?_ _) | go_size)))⟩
        | (refine ⟨?_, .of_below (by (repeat' (first | (with_reducible exact Below.refl _ _) | (with_reducible assumption) | (with_reducible refine Below.grow ?_ ?_ _ _) | (with_reducible refine Below.alloc ?_ ?_ _) | (with_reducible refine Below.drewN ?_ _) | (with_reducible refine Below.drew ?_) | (with_reducible refine Below.setCell ?_ ?_ _) | go_size)))⟩
           unfold idxV
           split <;> first | rfl | (exfalso; omega))
  · by_cases d2 : (1000000000000 : Int) < amount
    · clear hno
      go_enter Try.func15, Try.ntmps15
      go_wp2_with fail
      apply wp_region_made2 8 (6, 10, .cells #[.int .i64 0, .int .i64 0] 39) (7, 11, .cells #[.int .i64 0, .int .i64 0] 39) (by kernel_rfl) (by kernel_rfl)
      case hrx =>
        intro o ho ρ w
        obtain rfl := Option.some.inj ho
        simp [go_sem]
      case hry =>
        intro o ho ρ w
        obtain rfl := Option.some.inj ho
        simp [go_sem]
      case h1 =>
        intro bs d
        simp only [List.take_succ_cons, List.take_zero, List.map_cons, List.map_nil, Oper.mask]
        repeat (go_big_quiet_step ((go_at_call 13; first | (with_reducible exact Calls.quietM (HT.out _ (.of_below (by (repeat' (first | (with_reducible exact Below.refl _ _) | (with_reducible assumption) | (with_reducible refine Below.grow ?_ ?_ _ _) | (with_reducible refine Below.alloc ?_ ?_ _) | (with_reducible refine Below.drewN ?_ _) | (with_reducible refine Below.drew ?_) | (with_reducible refine Below.setCell ?_ ?_ _) | go_size)))))) | (with_reducible exact Calls.quietM (HF.out _ (.of_below (by (repeat' (first | (with_reducible exact Below.refl _ _) | (with_reducible assumption) | (with_reducible refine Below.grow ?_ ?_ _ _) | (with_reducible refine Below.alloc ?_ ?_ _) | (with_reducible refine Below.drewN ?_ _) | (with_reducible refine Below.drew ?_) | (with_reducible refine Below.setCell ?_ ?_ _) | go_size)))))))))
        exact wpQuiet_nil rfl
      all_goals
        intro gb1 gd1 gb2 gd2 gb gd
        simp only [List.drop_succ_cons, List.drop_zero, Act.put, List.setIfInBounds_toArray, List.set_cons_zero, List.set_cons_succ]
      all_goals
        clear HT HF
        go_wp2_with (first | (go_at_call 32; (with_reducible refine (HU.out _).mono ?_); rintro e w' ⟨rfl, bs, dr, rfl⟩) | (go_at_call 32; (with_reducible refine (HV.out _).mono ?_); rintro e w' ⟨rfl, bs, dr, rfl⟩) | (go_at_call 30; (with_reducible refine (HM.out _).mono ?_); rintro e w' ⟨rfl, rfl⟩) | (go_at_call 31; (with_reducible refine (HD.out _).mono ?_); rintro e w' ⟨rfl, bs, dr, rfl⟩) | (go_at_call 33; (with_reducible refine (HQ.out _).mono ?_); rintro e w' ⟨rfl, bs, dr, rfl⟩))
        go_returns
        first
          | exact ⟨rfl, .of_below (by (repeat' (first | (with_reducible exact Below.refl _ _) | (with_reducible assumption) | (with_reducible refine Below.grow ?_ ?_ _ _) | (with_reducible refine Below.alloc ?_ ?_ _) | (with_reducible refine Below.drewN ?_ _) | (with_reducible refine Below.drew ?_) | (with_reducible refine Below.setCell ?_ ?_ _) | go_size)))⟩
          | (refine ⟨?_, .of_below (by (repeat' (first | (with_reducible exact Below.refl _ _) | (with_reducible assumption) | (with_reducible refine Below.grow ?_ ?_ _ _) | (with_reducible refine Below.alloc ?_ ?_ _) | (with_reducible refine Below.drewN ?_ _) | (with_reducible refine Below.drew ?_) | (with_reducible refine Below.setCell ?_ ?_ _) | go_size)))⟩
             unfold idxV
             split <;> first | rfl | (exfalso; omega))
    · have d1' : decide (amount < 0) = false := by simpa using d1
      have d2' : decide ((1000000000000 : Int) < amount) = false := by simpa using d2
      cases ut
      · clear hno
        go_enter Try.func15, Try.ntmps15
        go_wp2_with fail
        apply wp_region_made2 8 (6, 10, .cells #[.int .i64 0, .int .i64 0] 39) (7, 11, .cells #[.int .i64 0, .int .i64 0] 39) (by kernel_rfl) (by kernel_rfl)
        case hrx =>
          intro o ho ρ w
          obtain rfl := Option.some.inj ho
          simp [go_sem]
        case hry =>
          intro o ho ρ w
          obtain rfl := Option.some.inj ho
          simp [go_sem]
        case h1 =>
          intro bs d
          simp only [List.take_succ_cons, List.take_zero, List.map_cons, List.map_nil, Oper.mask]
          repeat (go_big_quiet_step ((go_at_call 13; first | (with_reducible exact Calls.quietM (HT.out _ (.of_below (by (repeat' (first | (with_reducible exact Below.refl _ _) | (with_reducible assumption) | (with_reducible refine Below.grow ?_ ?_ _ _) | (with_reducible refine Below.alloc ?_ ?_ _) | (with_reducible refine Below.drewN ?_ _) | (with_reducible refine Below.drew ?_) | (with_reducible refine Below.setCell ?_ ?_ _) | go_size)))))) | (with_reducible exact Calls.quietM (HF.out _ (.of_below (by (repeat' (first | (with_reducible exact Below.refl _ _) | (with_reducible assumption) | (with_reducible refine Below.grow ?_ ?_ _ _) | (with_reducible refine Below.alloc ?_ ?_ _) | (with_reducible refine Below.drewN ?_ _) | (with_reducible refine Below.drew ?_) | (with_reducible refine Below.setCell ?_ ?_ _) | go_size)))))))))
          exact wpQuiet_nil rfl
        all_goals
          intro gb1 gd1 gb2 gd2 gb gd
          simp only [List.drop_succ_cons, List.drop_zero, Act.put, List.setIfInBounds_toArray, List.set_cons_zero, List.set_cons_succ]
        all_goals
          clear HT HF
          go_wp2_with (first | (go_at_call 32; (with_reducible refine (HU.out _).mono ?_); rintro e w' ⟨rfl, bs, dr, rfl⟩) | (go_at_call 32; (with_reducible refine (HV.out _).mono ?_); rintro e w' ⟨rfl, bs, dr, rfl⟩) | (go_at_call 30; (with_reducible refine (HM.out _).mono ?_); rintro e w' ⟨rfl, rfl⟩) | (go_at_call 31; (with_reducible refine (HD.out _).mono ?_); rintro e w' ⟨rfl, bs, dr, rfl⟩) | (go_at_call 33; (with_reducible refine (HQ.out _).mono ?_); rintro e w' ⟨rfl, bs, dr, rfl⟩))
          go_returns
          first
            | exact ⟨rfl, .of_below (by (repeat' (first | (with_reducible exact Below.refl _ _) | (with_reducible assumption) | (with_reducible refine Below.grow ?_ ?_ _ _) | (with_reducible refine Below.alloc ?_ ?_ _) | (with_reducible refine Below.drewN ?_ _) | (with_reducible refine Below.drew ?_) | (with_reducible refine Below.setCell ?_ ?_ _) | go_size)))⟩
            | (refine ⟨?_, .of_below (by (repeat' (first | (with_reducible exact Below.refl _ _) | (with_reducible assumption) | (with_reducible refine Below.grow ?_ ?_ _ _) | (with_reducible refine Below.alloc ?_ ?_ _) | (with_reducible refine Below.drewN ?_ _) | (with_reducible refine Below.drew ?_) | (with_reducible refine Below.setCell ?_ ?_ _) | go_size)))⟩
               unfold idxV
               split <;> first | rfl | (exfalso; omega))
      · obtain rfl : uf = false := by rcases hno with h | h | h | h <;> first | exact h | omega | cases h
        go_enter Try.func15, Try.ntmps15
        go_wp2_with fail
        apply wp_region_made2 8 (6, 10, .cells #[.int .i64 0, .int .i64 0] 39) (7, 11, .cells #[.int .i64 0, .int .i64 0] 39) (by kernel_rfl) (by kernel_rfl)
        case hrx =>
          intro o ho ρ w
          obtain rfl := Option.some.inj ho
          simp [go_sem]
        case hry =>
          intro o ho ρ w
          obtain rfl := Option.some.inj ho
          simp [go_sem]
        case h1 =>
          intro bs d
          simp only [List.take_succ_cons, List.take_zero, List.map_cons, List.map_nil, Oper.mask]
          repeat (go_big_quiet_step ((go_at_call 13; first | (with_reducible exact Calls.quietM (HT.out _ (.of_below (by (repeat' (first | (with_reducible exact Below.refl _ _) | (with_reducible assumption) | (with_reducible refine Below.grow ?_ ?_ _ _) | (with_reducible refine Below.alloc ?_ ?_ _) | (with_reducible refine Below.drewN ?_ _) | (with_reducible refine Below.drew ?_) | (with_reducible refine Below.setCell ?_ ?_ _) | go_size)))))) | (with_reducible exact Calls.quietM (HF.out _ (.of_below (by (repeat' (first | (with_reducible exact Below.refl _ _) | (with_reducible assumption) | (with_reducible refine Below.grow ?_ ?_ _ _) | (with_reducible refine Below.alloc ?_ ?_ _) | (with_reducible refine Below.drewN ?_ _) | (with_reducible refine Below.drew ?_) | (with_reducible refine Below.setCell ?_ ?_ _) | go_size)))))))))
          exact wpQuiet_nil rfl
        all_goals
          intro gb1 gd1 gb2 gd2 gb gd
          simp only [List.drop_succ_cons, List.drop_zero, Act.put, List.setIfInBounds_toArray, List.set_cons_zero, List.set_cons_succ]
        all_goals
          clear HT HF
          go_wp2_with (first | (go_at_call 32; (with_reducible refine (HU.out _).mono ?_); rintro e w' ⟨rfl, bs, dr, rfl⟩) | (go_at_call 32; (with_reducible refine (HV.out _).mono ?_); rintro e w' ⟨rfl, bs, dr, rfl⟩) | (go_at_call 30; (with_reducible refine (HM.out _).mono ?_); rintro e w' ⟨rfl, rfl⟩) | (go_at_call 31; (with_reducible refine (HD.out _).mono ?_); rintro e w' ⟨rfl, bs, dr, rfl⟩) | (go_at_call 33; (with_reducible refine (HQ.out _).mono ?_); rintro e w' ⟨rfl, bs, dr, rfl⟩))
          go_returns
          first
            | exact ⟨rfl, .of_below (by (repeat' (first | (with_reducible exact Below.refl _ _) | (with_reducible assumption) | (with_reducible refine Below.grow ?_ ?_ _ _) | (with_reducible refine Below.alloc ?_ ?_ _) | (with_reducible refine Below.drewN ?_ _) | (with_reducible refine Below.drew ?_) | (with_reducible refine Below.setCell ?_ ?_ _) | go_size)))⟩
            | (refine ⟨?_, .of_below (by (repeat' (first | (with_reducible exact Below.refl _ _) | (with_reducible assumption) | (with_reducible refine Below.grow ?_ ?_ _ _) | (with_reducible refine Below.alloc ?_ ?_ _) | (with_reducible refine Below.drewN ?_ _) | (with_reducible refine Below.drew ?_) | (with_reducible refine Below.setCell ?_ ?_ _) | go_size)))⟩
               unfold idxV
               split <;> first | rfl | (exfalso; omega))

set_option maxHeartbeats 2000000 in
theorem Indexed1_yes (c0 c1 c2 c3 c4 c5 c6 c7 : Value) (amount year ref tn td fn fd rn re : Int) (ut uf : Bool) (w : World) (hut : ut = true) (huf : uf = true)
    (b1 : 0 ≤ amount) (b2 : amount ≤ 1000000000000)
    (HT : Hid (∀ w' : World, w.Grows w' → Calls Try.prog 13 #[.agg #[c0, c1, c2, c3, c4, c5, c6, c7], .int .i64 ref] w' fun e w'' => e = .returned (.agg #[.int .i64 tn, .int .i64 td]) ∧ w'.Grows w''))
    (HF : Hid (∀ w' : World, w.Grows w' → Calls Try.prog 13 #[.agg #[c0, c1, c2, c3, c4, c5, c6, c7], .int .i64 year] w' fun e w'' => e = .returned (.agg #[.int .i64 fn, .int .i64 fd]) ∧ w'.Grows w''))
    (HU : Hid (∀ w' : World, Calls Try.prog 32 #[.agg #[.int .i64 tn, .int .i64 td]] w' fun e w'' => e = .returned (.bool ut) ∧ w'.Grows w''))
    (HV : Hid (∀ w' : World, Calls Try.prog 32 #[.agg #[.int .i64 fn, .int .i64 fd]] w' fun e w'' => e = .returned (.bool uf) ∧ w'.Grows w''))
    (HQ : Hid (∀ w' : World, Calls Try.prog 33 #[.int .i64 amount, .int .i64 tn, .int .i64 fd, .int .i64 td, .int .i64 fn] w' fun e w'' => e = .returned (.tuple #[.int .i64 rn, .int .i64 re]) ∧ w'.Grows w''))
    :
    Calls Try.prog 15 #[.agg #[c0, c1, c2, c3, c4, c5, c6, c7], .int .i64 amount, .int .i64 year, .int .i64 ref] w fun e w' => e = .returned (.tuple #[.int .i64 rn, .int .i64 re]) ∧ w.Grows w' := by
  subst hut huf
  have d1' : decide (amount < 0) = false := by simp; omega
  have d2' : decide ((1000000000000 : Int) < amount) = false := by simp; omega
  go_enter Try.func15, Try.ntmps15
  go_wp2_with fail
  apply wp_region_made2 8 (6, 10, .cells #[.int .i64 0, .int .i64 0] 39) (7, 11, .cells #[.int .i64 0, .int .i64 0] 39) (by kernel_rfl) (by kernel_rfl)
  case hrx =>
    intro o ho ρ w
    obtain rfl := Option.some.inj ho
    simp [go_sem]
  case hry =>
    intro o ho ρ w
    obtain rfl := Option.some.inj ho
    simp [go_sem]
  case h1 =>
    intro bs d
    simp only [List.take_succ_cons, List.take_zero, List.map_cons, List.map_nil, Oper.mask]
    repeat (go_big_quiet_step ((go_at_call 13; first | (with_reducible exact Calls.quietM (HT.out _ (.of_below (by (repeat' (first | (with_reducible exact Below.refl _ _) | (with_reducible assumption) | (with_reducible refine Below.grow ?_ ?_ _ _) | (with_reducible refine Below.alloc ?_ ?_ _) | (with_reducible refine Below.drewN ?_ _) | (with_reducible refine Below.drew ?_) | (with_reducible refine Below.setCell ?_ ?_ _) | go_size)))))) | (with_reducible exact Calls.quietM (HF.out _ (.of_below (by (repeat' (first | (with_reducible exact Below.refl _ _) | (with_reducible assumption) | (with_reducible refine Below.grow ?_ ?_ _ _) | (with_reducible refine Below.alloc ?_ ?_ _) | (with_reducible refine Below.drewN ?_ _) | (with_reducible refine Below.drew ?_) | (with_reducible refine Below.setCell ?_ ?_ _) | go_size)))))))))
    exact wpQuiet_nil rfl
  all_goals
    intro gb1 gd1 gb2 gd2 gb gd
    simp only [List.drop_succ_cons, List.drop_zero, Act.put, List.setIfInBounds_toArray, List.set_cons_zero, List.set_cons_succ]
  all_goals
    clear HT HF
    go_wp2_with (first | (go_at_call 32; (with_reducible refine (HU.out _).mono ?_); rintro e w' ⟨rfl, bs, dr, rfl⟩) | (go_at_call 32; (with_reducible refine (HV.out _).mono ?_); rintro e w' ⟨rfl, bs, dr, rfl⟩) | (go_at_call 30; (with_reducible refine (HM.out _).mono ?_); rintro e w' ⟨rfl, rfl⟩) | (go_at_call 31; (with_reducible refine (HD.out _).mono ?_); rintro e w' ⟨rfl, bs, dr, rfl⟩) | (go_at_call 33; (with_reducible refine (HQ.out _).mono ?_); rintro e w' ⟨rfl, bs, dr, rfl⟩))
    go_returns
    first
      | exact ⟨rfl, .of_below (by (repeat' (first | (with_reducible exact Below.refl _ _) | (with_reducible assumption) | (with_reducible refine Below.grow ?_ ?_ _ _) | (with_reducible refine Below.alloc ?_ ?_ _) | (with_reducible refine Below.drewN ?_ _) | (with_reducible refine Below.drew ?_) | (with_reducible refine Below.setCell ?_ ?_ _) | go_size)))⟩
      | (refine ⟨?_, .of_below (by (repeat' (first | (with_reducible exact Below.refl _ _) | (with_reducible assumption) | (with_reducible refine Below.grow ?_ ?_ _ _) | (with_reducible refine Below.alloc ?_ ?_ _) | (with_reducible refine Below.drewN ?_ _) | (with_reducible refine Below.drew ?_) | (with_reducible refine Below.setCell ?_ ?_ _) | go_size)))⟩
         unfold idxV
         split <;> first | rfl | (exfalso; omega))
end Go.Proofs.Ytldelkkeimlfcaa
