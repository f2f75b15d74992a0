
import Derived.Test.YtldelkkeimlfcaaQFactor
import Derived.Test.YtldelkkeimlfcaaQTail
set_option linter.all false
namespace Go.Proofs.Ytldelkkeimlfcaa
open Go.RowKit

theorem ret_i2 {k j : IntKind} {a b c d : Int} (h : a = c) (h' : b = d) : Ending.returned (.tuple #[.int k a, .int j b]) = .returned (.tuple #[.int k c, .int j d]) := by rw [h, h']

/-- The indexed amount, and the error, out of the two factors. -/
def idxQ (amount tn td fn fd : Int) : Int := (amount * (tn * fd)) / (td * fn)
def idxOk (amount tn td fn fd : Int) : Bool := decide (0 ≤ amount ∧ amount ≤ 1000000000000) && usableB tn td && usableB fn fd
def idxN (amount tn td fn fd : Int) : Int := if idxOk amount tn td fn fd = true then (if 1000000000000 < idxQ amount tn td fn fd then 0 else idxQ amount tn td fn fd) else 0
def idxE (amount tn td fn fd : Int) : Int := if idxOk amount tn td fn fd = true then (if 1000000000000 < idxQ amount tn td fn fd then 2 else 0) else 1

theorem idx_no {amount tn td fn fd : Int} (h : idxOk amount tn td fn fd = false) : idxN amount tn td fn fd = 0 ∧ idxE amount tn td fn fd = 1 := by simp [idxN, idxE, h]
theorem idx_big {amount tn td fn fd : Int} (h : idxOk amount tn td fn fd = true) (h2 : 1000000000000 < idxQ amount tn td fn fd) : idxN amount tn td fn fd = 0 ∧ idxE amount tn td fn fd = 2 := by simp only [idxN, idxE, h, h2, if_true, and_self]
theorem idx_yes {amount tn td fn fd : Int} (h : idxOk amount tn td fn fd = true) (h2 : ¬ 1000000000000 < idxQ amount tn td fn fd) : idxN amount tn td fn fd = idxQ amount tn td fn fd ∧ idxE amount tn td fn fd = 0 := by simp only [idxN, idxE, h, h2, if_true, if_false, and_self]
theorem mul_bd {a b A B : Int} (h0 : 0 ≤ a) (h1 : 0 ≤ b) (h2 : a ≤ A) (h3 : b ≤ B) : 0 ≤ a * b ∧ a * b ≤ A * B := ⟨Int.mul_nonneg h0 h1, Int.mul_le_mul h2 h3 h1 (Int.le_trans h0 h2)⟩

def idxV (Y h q : Int) : Value := if Y ≤ h ∨ 1000000000000 < q then .tuple #[.int .i64 0, .int .i64 2] else .tuple #[.int .i64 q, .int .i64 0]

set_option maxHeartbeats 2000000 in
/-- where an argument is refused -/
theorem Indexed2_no (c0 c1 c2 c3 c4 c5 c6 c7 : Value) (amount year ref tn td fn fd : Int) (ut uf : Bool) (w : World) (hno : amount < 0 ∨ 1000000000000 < amount ∨ ut = false ∨ uf = false)
    (HT : Hid (∀ w' : World, w.Grows w' → Calls Try.prog 12 #[.agg #[c0, c1, c2, c3, c4, c5, c6, c7], .int .i64 ref] w' fun e w'' => e = .returned (.agg #[.int .i64 tn, .int .i64 td]) ∧ w'.Grows w''))
    (HF : Hid (∀ w' : World, w.Grows w' → Calls Try.prog 12 #[.agg #[c0, c1, c2, c3, c4, c5, c6, c7], .int .i64 year] w' fun e w'' => e = .returned (.agg #[.int .i64 fn, .int .i64 fd]) ∧ w'.Grows w''))
    (HU : Hid (∀ w' : World, Calls Try.prog 29 #[.agg #[.int .i64 tn, .int .i64 td]] w' fun e w'' => e = .returned (.bool ut) ∧ w'.Grows w''))
    (HV : Hid (∀ w' : World, Calls Try.prog 29 #[.agg #[.int .i64 fn, .int .i64 fd]] w' fun e w'' => e = .returned (.bool uf) ∧ w'.Grows w''))
    :
    Calls Try.prog 14 #[.agg #[c0, c1, c2, c3, c4, c5, c6, c7], .int .i64 amount, .int .i64 year, .int .i64 ref] w fun e w' => e = .returned (.tuple #[.int .i64 0, .int .i64 1]) ∧ w.Grows w' := by
  by_cases d1 : amount < 0
  · clear hno
    go_enter Try.func14, Try.ntmps14
    go_wp2_with fail
    apply wp_region_made2 8 (6, 10, .cells #[.int .i64 0, .int .i64 0] 39) (7, 11, .cells #[.int .i64 0, .int .i64 0] 39) (by kernel_rfl) (by kernel_rfl)
    case hrx =>
      intro o ho ρ w
      obtain rfl := Option.some.inj ho
      simp [go_sem]
    case hry =>
      intro o ho ρ w
      obtain rfl := Option.some.inj ho
      simp [go_sem]
    case h1 =>
      intro bs d
      simp only [List.take_succ_cons, List.take_zero, List.map_cons, List.map_nil, Oper.mask]
      repeat (go_big_quiet_step ((go_at_call 12; first | (with_reducible exact Calls.quietM (HT.out _ (.of_below (by (repeat' (first | (with_reducible exact Below.refl _ _) | (with_reducible assumption) | (with_reducible refine Below.grow ?_ ?_ _ _) | (with_reducible refine Below.alloc ?_ ?_ _) | (with_reducible refine Below.drewN ?_ _) | (with_reducible refine Below.drew ?_) | (with_reducible refine Below.setCell ?_ ?_ _) | go_size)))))) | (with_reducible exact Calls.quietM (HF.out _ (.of_below (by (repeat' (first | (with_reducible exact Below.refl _ _) | (with_reducible assumption) | (with_reducible refine Below.grow ?_ ?_ _ _) | (with_reducible refine Below.alloc ?_ ?_ _) | (with_reducible refine Below.drewN ?_ _) | (with_reducible refine Below.drew ?_) | (with_reducible refine Below.setCell ?_ ?_ _) | go_size)))))))))
      exact wpQuiet_nil rfl
    all_goals
      intro gb1 gd1 gb2 gd2 gb gd
      simp only [List.drop_succ_cons, List.drop_zero, Act.put, List.setIfInBounds_toArray, List.set_cons_zero, List.set_cons_succ]
    all_goals
      clear HT HF
      go_wp2_with (first | (go_at_call 29; (with_reducible refine (HU.out _).mono ?_); rintro e w' ⟨rfl, bs, dr, rfl⟩) | (go_at_call 29; (with_reducible refine (HV.out _).mono ?_); rintro e w' ⟨rfl, bs, dr, rfl⟩) | (go_at_call 30; (with_reducible refine (HM.out _).mono ?_); rintro e w' ⟨rfl, rfl⟩) | (go_at_call 31; (with_reducible refine (HD.out _).mono ?_); rintro e w' ⟨rfl, bs, dr, rfl⟩) | (go_at_call 33; (with_reducible refine (HQ.out _).mono ?_); rintro e w' ⟨rfl, bs, dr, rfl⟩))
      go_returns
      first
        | exact ⟨rfl, .of_below (by (repeat' (first | (with_reducible exact Below.refl _ _) | (with_reducible assumption) | (with_reducible refine Below.grow ?_ ?_ _ _) | (with_reducible refine Below.alloc ?_ ?_ _) | (with_reducible refine Below.drewN ?_ _) | (with_reducible refine Below.drew ?_) | (with_reducible refine Below.setCell ?_ ?_ _) | go_size)))⟩
        | (refine ⟨?_, .of_below (by (repeat' (first | (with_reducible exact Below.refl _ _) | (with_reducible assumption) | (with_reducible refine Below.grow ?_ ?_ _ _) | (with_reducible refine Below.alloc ?_ ?_ _) | (with_reducible refine Below.drewN ?_ _) | (with_reducible refine Below.drew ?_) | (with_reducible refine Below.setCell ?_ ?_ _) | go_size)))⟩
           unfold idxV
           split <;> first | rfl | (exfalso; omega))
  · by_cases d2 : (1000000000000 : Int) < amount
    · clear hno
      go_enter Try.func14, Try.ntmps14
      go_wp2_with fail
      apply wp_region_made2 8 (6, 10, .cells #[.int .i64 0, .int .i64 0] 39) (7, 11, .cells #[.int .i64 0, .int .i64 0] 39) (by kernel_rfl) (by kernel_rfl)
      case hrx =>
        intro o ho ρ w
        obtain rfl := Option.some.inj ho
        simp [go_sem]
      case hry =>
        intro o ho ρ w
        obtain rfl := Option.some.inj ho
        simp [go_sem]
      case h1 =>
        intro bs d
        simp only [List.take_succ_cons, List.take_zero, List.map_cons, List.map_nil, Oper.mask]
        repeat (go_big_quiet_step ((go_at_call 12; first | (with_reducible exact Calls.quietM (HT.out _ (.of_below (by (repeat' (first | (with_reducible exact Below.refl _ _) | (with_reducible assumption) | (with_reducible refine Below.grow ?_ ?_ _ _) | (with_reducible refine Below.alloc ?_ ?_ _) | (with_reducible refine Below.drewN ?_ _) | (with_reducible refine Below.drew ?_) | (with_reducible refine Below.setCell ?_ ?_ _) | go_size)))))) | (with_reducible exact Calls.quietM (HF.out _ (.of_below (by (repeat' (first | (with_reducible exact Below.refl _ _) | (with_reducible assumption) | (with_reducible refine Below.grow ?_ ?_ _ _) | (with_reducible refine Below.alloc ?_ ?_ _) | (with_reducible refine Below.drewN ?_ _) | (with_reducible refine Below.drew ?_) | (with_reducible refine Below.setCell ?_ ?_ _) | go_size)))))))))
        exact wpQuiet_nil rfl
      all_goals
        intro gb1 gd1 gb2 gd2 gb gd
        simp only [List.drop_succ_cons, List.drop_zero, Act.put, List.setIfInBounds_toArray, List.set_cons_zero, List.set_cons_succ]
      all_goals
        clear HT HF
        go_wp2_with (first | (go_at_call 29; (with_reducible refine (HU.out _).mono ?_); rintro e w' ⟨rfl, bs, dr, rfl⟩) | (go_at_call 29; (with_reducible refine (HV.out _).mono ?_); rintro e w' ⟨rfl, bs, dr, rfl⟩) | (go_at_call 30; (with_reducible refine (HM.out _).mono ?_); rintro e w' ⟨rfl, rfl⟩) | (go_at_call 31; (with_reducible refine (HD.out _).mono ?_); rintro e w' ⟨rfl, bs, dr, rfl⟩) | (go_at_call 33; (with_reducible refine (HQ.out _).mono ?_); rintro e w' ⟨rfl, bs, dr, rfl⟩))
        go_returns
        first
          | exact ⟨rfl, .of_below (by (repeat' (first | (with_reducible exact Below.refl _ _) | (with_reducible assumption) | (with_reducible refine Below.grow ?_ ?_ _ _) | (with_reducible refine Below.alloc ?_ ?_ _) | (with_reducible refine Below.drewN ?_ _) | (with_reducible refine Below.drew ?_) | (with_reducible refine Below.setCell ?_ ?_ _) | go_size)))⟩
          | (refine ⟨?_, .of_below (by (repeat' (first | (with_reducible exact Below.refl _ _) | (with_reducible assumption) | (with_reducible refine Below.grow ?_ ?_ _ _) | (with_reducible refine Below.alloc ?_ ?_ _) | (with_reducible refine Below.drewN ?_ _) | (with_reducible refine Below.drew ?_) | (with_reducible refine Below.setCell ?_ ?_ _) | go_size)))⟩
             unfold idxV
             split <;> first | rfl | (exfalso; omega))
    · have d1' : decide (amount < 0) = false := by simpa using d1
      have d2' : decide ((1000000000000 : Int) < amount) = false := by simpa using d2
      cases ut
      · clear hno
        go_enter Try.func14, Try.ntmps14
        go_wp2_with fail
        apply wp_region_made2 8 (6, 10, .cells #[.int .i64 0, .int .i64 0] 39) (7, 11, .cells #[.int .i64 0, .int .i64 0] 39) (by kernel_rfl) (by kernel_rfl)
        case hrx =>
          intro o ho ρ w
          obtain rfl := Option.some.inj ho
          simp [go_sem]
        case hry =>
          intro o ho ρ w
          obtain rfl := Option.some.inj ho
          simp [go_sem]
        case h1 =>
          intro bs d
          simp only [List.take_succ_cons, List.take_zero, List.map_cons, List.map_nil, Oper.mask]
          repeat (go_big_quiet_step ((go_at_call 12; first | (with_reducible exact Calls.quietM (HT.out _ (.of_below (by (repeat' (first | (with_reducible exact Below.refl _ _) | (with_reducible assumption) | (with_reducible refine Below.grow ?_ ?_ _ _) | (with_reducible refine Below.alloc ?_ ?_ _) | (with_reducible refine Below.drewN ?_ _) | (with_reducible refine Below.drew ?_) | (with_reducible refine Below.setCell ?_ ?_ _) | go_size)))))) | (with_reducible exact Calls.quietM (HF.out _ (.of_below (by (repeat' (first | (with_reducible exact Below.refl _ _) | (with_reducible assumption) | (with_reducible refine Below.grow ?_ ?_ _ _) | (with_reducible refine Below.alloc ?_ ?_ _) | (with_reducible refine Below.drewN ?_ _) | (with_reducible refine Below.drew ?_) | (with_reducible refine Below.setCell ?_ ?_ _) | go_size)))))))))
          exact wpQuiet_nil rfl
        all_goals
          intro gb1 gd1 gb2 gd2 gb gd
          simp only [List.drop_succ_cons, List.drop_zero, Act.put, List.setIfInBounds_toArray, List.set_cons_zero, List.set_cons_succ]
        all_goals
          clear HT HF
          go_wp2_with (first | (go_at_call 29; (with_reducible refine (HU.out _).mono ?_); rintro e w' ⟨rfl, bs, dr, rfl⟩) | (go_at_call 29; (with_reducible refine (HV.out _).mono ?_); rintro e w' ⟨rfl, bs, dr, rfl⟩) | (go_at_call 30; (with_reducible refine (HM.out _).mono ?_); rintro e w' ⟨rfl, rfl⟩) | (go_at_call 31; (with_reducible refine (HD.out _).mono ?_); rintro e w' ⟨rfl, bs, dr, rfl⟩) | (go_at_call 33; (with_reducible refine (HQ.out _).mono ?_); rintro e w' ⟨rfl, bs, dr, rfl⟩))
          go_returns
          first
            | exact ⟨rfl, .of_below (by (repeat' (first | (with_reducible exact Below.refl _ _) | (with_reducible assumption) | (with_reducible refine Below.grow ?_ ?_ _ _) | (with_reducible refine Below.alloc ?_ ?_ _) | (with_reducible refine Below.drewN ?_ _) | (with_reducible refine Below.drew ?_) | (with_reducible refine Below.setCell ?_ ?_ _) | go_size)))⟩
            | (refine ⟨?_, .of_below (by (repeat' (first | (with_reducible exact Below.refl _ _) | (with_reducible assumption) | (with_reducible refine Below.grow ?_ ?_ _ _) | (with_reducible refine Below.alloc ?_ ?_ _) | (with_reducible refine Below.drewN ?_ _) | (with_reducible refine Below.drew ?_) | (with_reducible refine Below.setCell ?_ ?_ _) | go_size)))⟩
               unfold idxV
               split <;> first | rfl | (exfalso; omega))
      · obtain rfl : uf = false := by rcases hno with h | h | h | h <;> first | exact h | omega | cases h
        go_enter Try.func14, Try.ntmps14
        go_wp2_with fail
        apply wp_region_made2 8 (6, 10, .cells #[.int .i64 0, .int .i64 0] 39) (7, 11, .cells #[.int .i64 0, .int .i64 0] 39) (by kernel_rfl) (by kernel_rfl)
        case hrx =>
          intro o ho ρ w
          obtain rfl := Option.some.inj ho
          simp [go_sem]
        case hry =>
          intro o ho ρ w
          obtain rfl := Option.some.inj ho
          simp [go_sem]
        case h1 =>
          intro bs d
          simp only [List.take_succ_cons, List.take_zero, List.map_cons, List.map_nil, Oper.mask]
          repeat (go_big_quiet_step ((go_at_call 12; first | (with_reducible exact Calls.quietM (HT.out _ (.of_below (by (repeat' (first | (with_reducible exact Below.refl _ _) | (with_reducible assumption) | (with_reducible refine Below.grow ?_ ?_ _ _) | (with_reducible refine Below.alloc ?_ ?_ _) | (with_reducible refine Below.drewN ?_ _) | (with_reducible refine Below.drew ?_) | (with_reducible refine Below.setCell ?_ ?_ _) | go_size)))))) | (with_reducible exact Calls.quietM (HF.out _ (.of_below (by (repeat' (first | (with_reducible exact Below.refl _ _) | (with_reducible assumption) | (with_reducible refine Below.grow ?_ ?_ _ _) | (with_reducible refine Below.alloc ?_ ?_ _) | (with_reducible refine Below.drewN ?_ _) | (with_reducible refine Below.drew ?_) | (with_reducible refine Below.setCell ?_ ?_ _) | go_size)))))))))
          exact wpQuiet_nil rfl
        all_goals
          intro gb1 gd1 gb2 gd2 gb gd
          simp only [List.drop_succ_cons, List.drop_zero, Act.put, List.setIfInBounds_toArray, List.set_cons_zero, List.set_cons_succ]
        all_goals
          clear HT HF
          go_wp2_with (first | (go_at_call 29; (with_reducible refine (HU.out _).mono ?_); rintro e w' ⟨rfl, bs, dr, rfl⟩) | (go_at_call 29; (with_reducible refine (HV.out _).mono ?_); rintro e w' ⟨rfl, bs, dr, rfl⟩) | (go_at_call 30; (with_reducible refine (HM.out _).mono ?_); rintro e w' ⟨rfl, rfl⟩) | (go_at_call 31; (with_reducible refine (HD.out _).mono ?_); rintro e w' ⟨rfl, bs, dr, rfl⟩) | (go_at_call 33; (with_reducible refine (HQ.out _).mono ?_); rintro e w' ⟨rfl, bs, dr, rfl⟩))
          go_returns
          first
            | exact ⟨rfl, .of_below (by (repeat' (first | (with_reducible exact Below.refl _ _) | (with_reducible assumption) | (with_reducible refine Below.grow ?_ ?_ _ _) | (with_reducible refine Below.alloc ?_ ?_ _) | (with_reducible refine Below.drewN ?_ _) | (with_reducible refine Below.drew ?_) | (with_reducible refine Below.setCell ?_ ?_ _) | go_size)))⟩
            | (refine ⟨?_, .of_below (by (repeat' (first | (with_reducible exact Below.refl _ _) | (with_reducible assumption) | (with_reducible refine Below.grow ?_ ?_ _ _) | (with_reducible refine Below.alloc ?_ ?_ _) | (with_reducible refine Below.drewN ?_ _) | (with_reducible refine Below.drew ?_) | (with_reducible refine Below.setCell ?_ ?_ _) | go_size)))⟩
               unfold idxV
               split <;> first | rfl | (exfalso; omega))

set_option maxHeartbeats 2000000 in
theorem Indexed2_yes (c0 c1 c2 c3 c4 c5 c6 c7 : Value) (amount year ref tn td fn fd X Y h l q r : Int) (ut uf : Bool) (w : World) (hut : ut = true) (huf : uf = true)
    (b1 : 0 ≤ amount) (b2 : amount ≤ 1000000000000) (b3 : 0 < tn) (b4 : tn ≤ 10000000000000) (b5 : 1 ≤ td) (b6 : td ≤ 10000) (b7 : 0 < fn) (b8 : fn ≤ 10000000000000) (b9 : 1 ≤ fd) (b10 : fd ≤ 10000)
    (e1 : IntKind.u64.wrap (tn * fd) = X) (e2 : IntKind.u64.wrap (td * fn) = Y) (hq0 : 0 ≤ q)
    (HT : Hid (∀ w' : World, w.Grows w' → Calls Try.prog 12 #[.agg #[c0, c1, c2, c3, c4, c5, c6, c7], .int .i64 ref] w' fun e w'' => e = .returned (.agg #[.int .i64 tn, .int .i64 td]) ∧ w'.Grows w''))
    (HF : Hid (∀ w' : World, w.Grows w' → Calls Try.prog 12 #[.agg #[c0, c1, c2, c3, c4, c5, c6, c7], .int .i64 year] w' fun e w'' => e = .returned (.agg #[.int .i64 fn, .int .i64 fd]) ∧ w'.Grows w''))
    (HU : Hid (∀ w' : World, Calls Try.prog 29 #[.agg #[.int .i64 tn, .int .i64 td]] w' fun e w'' => e = .returned (.bool ut) ∧ w'.Grows w''))
    (HV : Hid (∀ w' : World, Calls Try.prog 29 #[.agg #[.int .i64 fn, .int .i64 fd]] w' fun e w'' => e = .returned (.bool uf) ∧ w'.Grows w''))
    (HM : Hid (∀ w' : World, Calls Try.prog 30 #[.int .u64 amount, .int .u64 X] w' fun e w'' => e = .returned (.tuple #[.int .u64 h, .int .u64 l]) ∧ w' = w''))
    (HD : Hid (h < Y → ∀ w' : World, Calls Try.prog 31 #[.int .u64 h, .int .u64 l, .int .u64 Y] w' fun e w'' => e = .returned (.tuple #[.int .u64 q, .int .u64 r]) ∧ w'.Grows w''))
    :
    Calls Try.prog 14 #[.agg #[c0, c1, c2, c3, c4, c5, c6, c7], .int .i64 amount, .int .i64 year, .int .i64 ref] w fun e w' => e = .returned (idxV Y h q) ∧ w.Grows w' := by
  subst hut huf
  have d1' : decide (amount < 0) = false := by simp; omega
  have d2' : decide ((1000000000000 : Int) < amount) = false := by simp; omega
  by_cases g1 : Y ≤ h
  · have g1' : ¬ h < Y := by omega
    clear HD
    go_enter Try.func14, Try.ntmps14
    go_wp2_with fail
    apply wp_region_made2 8 (6, 10, .cells #[.int .i64 0, .int .i64 0] 39) (7, 11, .cells #[.int .i64 0, .int .i64 0] 39) (by kernel_rfl) (by kernel_rfl)
    case hrx =>
      intro o ho ρ w
      obtain rfl := Option.some.inj ho
      simp [go_sem]
    case hry =>
      intro o ho ρ w
      obtain rfl := Option.some.inj ho
      simp [go_sem]
    case h1 =>
      intro bs d
      simp only [List.take_succ_cons, List.take_zero, List.map_cons, List.map_nil, Oper.mask]
      repeat (go_big_quiet_step ((go_at_call 12; first | (with_reducible exact Calls.quietM (HT.out _ (.of_below (by (repeat' (first | (with_reducible exact Below.refl _ _) | (with_reducible assumption) | (with_reducible refine Below.grow ?_ ?_ _ _) | (with_reducible refine Below.alloc ?_ ?_ _) | (with_reducible refine Below.drewN ?_ _) | (with_reducible refine Below.drew ?_) | (with_reducible refine Below.setCell ?_ ?_ _) | go_size)))))) | (with_reducible exact Calls.quietM (HF.out _ (.of_below (by (repeat' (first | (with_reducible exact Below.refl _ _) | (with_reducible assumption) | (with_reducible refine Below.grow ?_ ?_ _ _) | (with_reducible refine Below.alloc ?_ ?_ _) | (with_reducible refine Below.drewN ?_ _) | (with_reducible refine Below.drew ?_) | (with_reducible refine Below.setCell ?_ ?_ _) | go_size)))))))))
      exact wpQuiet_nil rfl
    all_goals
      intro gb1 gd1 gb2 gd2 gb gd
      simp only [List.drop_succ_cons, List.drop_zero, Act.put, List.setIfInBounds_toArray, List.set_cons_zero, List.set_cons_succ]
    all_goals
      clear HT HF
      go_wp2_with (first | (go_at_call 29; (with_reducible refine (HU.out _).mono ?_); rintro e w' ⟨rfl, bs, dr, rfl⟩) | (go_at_call 29; (with_reducible refine (HV.out _).mono ?_); rintro e w' ⟨rfl, bs, dr, rfl⟩) | (go_at_call 30; (with_reducible refine (HM.out _).mono ?_); rintro e w' ⟨rfl, rfl⟩) | (go_at_call 31; (with_reducible refine (HD.out _).mono ?_); rintro e w' ⟨rfl, bs, dr, rfl⟩) | (go_at_call 33; (with_reducible refine (HQ.out _).mono ?_); rintro e w' ⟨rfl, bs, dr, rfl⟩))
      go_returns
      first
        | exact ⟨rfl, .of_below (by (repeat' (first | (with_reducible exact Below.refl _ _) | (with_reducible assumption) | (with_reducible refine Below.grow ?_ ?_ _ _) | (with_reducible refine Below.alloc ?_ ?_ _) | (with_reducible refine Below.drewN ?_ _) | (with_reducible refine Below.drew ?_) | (with_reducible refine Below.setCell ?_ ?_ _) | go_size)))⟩
        | (refine ⟨?_, .of_below (by (repeat' (first | (with_reducible exact Below.refl _ _) | (with_reducible assumption) | (with_reducible refine Below.grow ?_ ?_ _ _) | (with_reducible refine Below.alloc ?_ ?_ _) | (with_reducible refine Below.drewN ?_ _) | (with_reducible refine Below.drew ?_) | (with_reducible refine Below.setCell ?_ ?_ _) | go_size)))⟩
           unfold idxV
           split <;> first | rfl | (exfalso; omega))
  · have g1' : h < Y := by omega
    have HD := Lib.hid (HD.out g1')
    by_cases g2 : 1000000000000 < q
    · go_enter Try.func14, Try.ntmps14
      go_wp2_with fail
      apply wp_region_made2 8 (6, 10, .cells #[.int .i64 0, .int .i64 0] 39) (7, 11, .cells #[.int .i64 0, .int .i64 0] 39) (by kernel_rfl) (by kernel_rfl)
      case hrx =>
        intro o ho ρ w
        obtain rfl := Option.some.inj ho
        simp [go_sem]
      case hry =>
        intro o ho ρ w
        obtain rfl := Option.some.inj ho
        simp [go_sem]
      case h1 =>
        intro bs d
        simp only [List.take_succ_cons, List.take_zero, List.map_cons, List.map_nil, Oper.mask]
        repeat (go_big_quiet_step ((go_at_call 12; first | (with_reducible exact Calls.quietM (HT.out _ (.of_below (by (repeat' (first | (with_reducible exact Below.refl _ _) | (with_reducible assumption) | (with_reducible refine Below.grow ?_ ?_ _ _) | (with_reducible refine Below.alloc ?_ ?_ _) | (with_reducible refine Below.drewN ?_ _) | (with_reducible refine Below.drew ?_) | (with_reducible refine Below.setCell ?_ ?_ _) | go_size)))))) | (with_reducible exact Calls.quietM (HF.out _ (.of_below (by (repeat' (first | (with_reducible exact Below.refl _ _) | (with_reducible assumption) | (with_reducible refine Below.grow ?_ ?_ _ _) | (with_reducible refine Below.alloc ?_ ?_ _) | (with_reducible refine Below.drewN ?_ _) | (with_reducible refine Below.drew ?_) | (with_reducible refine Below.setCell ?_ ?_ _) | go_size)))))))))
        exact wpQuiet_nil rfl
      all_goals
        intro gb1 gd1 gb2 gd2 gb gd
        simp only [List.drop_succ_cons, List.drop_zero, Act.put, List.setIfInBounds_toArray, List.set_cons_zero, List.set_cons_succ]
      all_goals
        clear HT HF
        go_wp2_with (first | (go_at_call 29; (with_reducible refine (HU.out _).mono ?_); rintro e w' ⟨rfl, bs, dr, rfl⟩) | (go_at_call 29; (with_reducible refine (HV.out _).mono ?_); rintro e w' ⟨rfl, bs, dr, rfl⟩) | (go_at_call 30; (with_reducible refine (HM.out _).mono ?_); rintro e w' ⟨rfl, rfl⟩) | (go_at_call 31; (with_reducible refine (HD.out _).mono ?_); rintro e w' ⟨rfl, bs, dr, rfl⟩) | (go_at_call 33; (with_reducible refine (HQ.out _).mono ?_); rintro e w' ⟨rfl, bs, dr, rfl⟩))
        go_returns
        first
          | exact ⟨rfl, .of_below (by (repeat' (first | (with_reducible exact Below.refl _ _) | (with_reducible assumption) | (with_reducible refine Below.grow ?_ ?_ _ _) | (with_reducible refine Below.alloc ?_ ?_ _) | (with_reducible refine Below.drewN ?_ _) | (with_reducible refine Below.drew ?_) | (with_reducible refine Below.setCell ?_ ?_ _) | go_size)))⟩
          | (refine ⟨?_, .of_below (by (repeat' (first | (with_reducible exact Below.refl _ _) | (with_reducible assumption) | (with_reducible refine Below.grow ?_ ?_ _ _) | (with_reducible refine Below.alloc ?_ ?_ _) | (with_reducible refine Below.drewN ?_ _) | (with_reducible refine Below.drew ?_) | (with_reducible refine Below.setCell ?_ ?_ _) | go_size)))⟩
             unfold idxV
             split <;> first | rfl | (exfalso; omega))
    · go_enter Try.func14, Try.ntmps14
      go_wp2_with fail
      apply wp_region_made2 8 (6, 10, .cells #[.int .i64 0, .int .i64 0] 39) (7, 11, .cells #[.int .i64 0, .int .i64 0] 39) (by kernel_rfl) (by kernel_rfl)
      case hrx =>
        intro o ho ρ w
        obtain rfl := Option.some.inj ho
        simp [go_sem]
      case hry =>
        intro o ho ρ w
        obtain rfl := Option.some.inj ho
        simp [go_sem]
      case h1 =>
        intro bs d
        simp only [List.take_succ_cons, List.take_zero, List.map_cons, List.map_nil, Oper.mask]
        repeat (go_big_quiet_step ((go_at_call 12; first | (with_reducible exact Calls.quietM (HT.out _ (.of_below (by (repeat' (first | (with_reducible exact Below.refl _ _) | (with_reducible assumption) | (with_reducible refine Below.grow ?_ ?_ _ _) | (with_reducible refine Below.alloc ?_ ?_ _) | (with_reducible refine Below.drewN ?_ _) | (with_reducible refine Below.drew ?_) | (with_reducible refine Below.setCell ?_ ?_ _) | go_size)))))) | (with_reducible exact Calls.quietM (HF.out _ (.of_below (by (repeat' (first | (with_reducible exact Below.refl _ _) | (with_reducible assumption) | (with_reducible refine Below.grow ?_ ?_ _ _) | (with_reducible refine Below.alloc ?_ ?_ _) | (with_reducible refine Below.drewN ?_ _) | (with_reducible refine Below.drew ?_) | (with_reducible refine Below.setCell ?_ ?_ _) | go_size)))))))))
        exact wpQuiet_nil rfl
      all_goals
        intro gb1 gd1 gb2 gd2 gb gd
        simp only [List.drop_succ_cons, List.drop_zero, Act.put, List.setIfInBounds_toArray, List.set_cons_zero, List.set_cons_succ]
      all_goals
        clear HT HF
        go_wp2_with (first | (go_at_call 29; (with_reducible refine (HU.out _).mono ?_); rintro e w' ⟨rfl, bs, dr, rfl⟩) | (go_at_call 29; (with_reducible refine (HV.out _).mono ?_); rintro e w' ⟨rfl, bs, dr, rfl⟩) | (go_at_call 30; (with_reducible refine (HM.out _).mono ?_); rintro e w' ⟨rfl, rfl⟩) | (go_at_call 31; (with_reducible refine (HD.out _).mono ?_); rintro e w' ⟨rfl, bs, dr, rfl⟩) | (go_at_call 33; (with_reducible refine (HQ.out _).mono ?_); rintro e w' ⟨rfl, bs, dr, rfl⟩))
        go_returns
        first
          | exact ⟨rfl, .of_below (by (repeat' (first | (with_reducible exact Below.refl _ _) | (with_reducible assumption) | (with_reducible refine Below.grow ?_ ?_ _ _) | (with_reducible refine Below.alloc ?_ ?_ _) | (with_reducible refine Below.drewN ?_ _) | (with_reducible refine Below.drew ?_) | (with_reducible refine Below.setCell ?_ ?_ _) | go_size)))⟩
          | (refine ⟨?_, .of_below (by (repeat' (first | (with_reducible exact Below.refl _ _) | (with_reducible assumption) | (with_reducible refine Below.grow ?_ ?_ _ _) | (with_reducible refine Below.alloc ?_ ?_ _) | (with_reducible refine Below.drewN ?_ _) | (with_reducible refine Below.drew ?_) | (with_reducible refine Below.setCell ?_ ?_ _) | go_size)))⟩
             unfold idxV
             split <;> first | rfl | (exfalso; omega))
end Go.Proofs.Ytldelkkeimlfcaa
