/- Words and names. -/
import Derived.Test.YtldelkkeimlfcaaTree
set_option linter.all false
namespace Go.Proofs.Ytldelkkeimlfcaa
open Go.RowKit

def lowc (c : Int) : Bool := decide (97 ≤ c) && decide (c ≤ 122)
def digc (c : Int) : Bool := decide (48 ≤ c) && decide (c ≤ 57)

set_option maxHeartbeats 400000 in
theorem letter1_any (c : Int) (w : World) : Calls Try.prog 103 #[.int .u8 c] w fun e w' => e = .returned (.bool (lowc c)) ∧ w = w' := by
  by_cases c1 : 97 ≤ c
  · by_cases c2 : c ≤ 122
    · go_enter Try.func103, Try.ntmps103
      go_wp2
      go_returns
      exact ⟨ret_bool (by simp [lowc, c1, c2]), rfl⟩
    · go_enter Try.func103, Try.ntmps103
      go_wp2
      go_returns
      exact ⟨ret_bool (by simp [lowc]; omega), rfl⟩
  · go_enter Try.func103, Try.ntmps103
    go_wp2
    go_returns
    exact ⟨ret_bool (by simp [lowc]; omega), rfl⟩
set_option maxHeartbeats 400000 in
theorem digit1_any (c : Int) (w : World) : Calls Try.prog 104 #[.int .u8 c] w fun e w' => e = .returned (.bool (digc c)) ∧ w = w' := by
  by_cases c1 : 48 ≤ c
  · by_cases c2 : c ≤ 57
    · go_enter Try.func104, Try.ntmps104
      go_wp2
      go_returns
      exact ⟨ret_bool (by simp [digc, c1, c2]), rfl⟩
    · go_enter Try.func104, Try.ntmps104
      go_wp2
      go_returns
      exact ⟨ret_bool (by simp [digc]; omega), rfl⟩
  · go_enter Try.func104, Try.ntmps104
    go_wp2
    go_returns
    exact ⟨ret_bool (by simp [digc]; omega), rfl⟩

/-- How many operands an operation has. -/
def argsN (op : Int) : Int := if 1 ≤ op ∧ op ≤ 3 then 0 else if 4 ≤ op ∧ op ≤ 6 then 1 else if 7 ≤ op ∧ op ≤ 20 then 2 else if op = 21 then 3 else -1
set_option maxHeartbeats 1000000 in
theorem Args_any (op : Int) (w : World) : Calls Try.prog 87 #[.int .i64 op] w fun e w' => e = .returned (.int .i64 (argsN op)) ∧ w = w' := by
  by_cases c1 : op < 1
  · go_enter Try.func87, Try.ntmps87
    go_wp2
    go_returns
    exact ⟨ret_int (by simp [argsN]; omega), rfl⟩
  · by_cases c2 : op ≤ 3
    · go_enter Try.func87, Try.ntmps87
      go_wp2
      go_returns
      exact ⟨ret_int (by simp [argsN]; omega), rfl⟩
    · by_cases c3 : op ≤ 6
      · go_enter Try.func87, Try.ntmps87
        go_wp2
        go_returns
        exact ⟨ret_int (by simp [argsN]; omega), rfl⟩
      · by_cases c4 : op ≤ 20
        · go_enter Try.func87, Try.ntmps87
          go_wp2
          go_returns
          exact ⟨ret_int (by simp [argsN]; omega), rfl⟩
        · by_cases c5 : op = 21
          · subst c5
            go_enter Try.func87, Try.ntmps87
            go_wp2
            go_returns
            exact ⟨ret_int (by simp [argsN]), rfl⟩
          · go_enter Try.func87, Try.ntmps87
            go_wp2
            go_returns
            exact ⟨ret_int (by simp [argsN]; omega), rfl⟩

/-- The byte at a place; 0 behind the end. -/
def byt (s : ByteArray) (i : Nat) : Int := if h : i < s.size then (s[i].toNat : Int) else 0
theorem byt_eq (s : ByteArray) (i : Nat) (h : i < s.size) : byt s i = (s[i].toNat : Int) := by simp [byt, h]
def wordC (i : Nat) (c : Int) : Bool := lowc c || (i != 0 && (digc c || decide (c = 95)))
def isWord (s : ByteArray) : Bool := decide (∀ i, i < s.size → wordC i (byt s i) = true) && decide (1 ≤ s.size) && decide (s.size ≤ 12)
theorem isWord_no (s : ByteArray) (k : Nat) (h : k < s.size) (hc : wordC k (s[k].toNat : Int) = false) : isWord s = false := by
  have : ¬ ∀ i, i < s.size → wordC i (byt s i) = true := fun f => by have := f k h; rw [byt_eq s k h, hc] at this; cases this
  simp only [isWord, decide_eq_false this, Bool.false_and]
theorem isWord_all (s : ByteArray) (h : ∀ i, i < s.size → wordC i (byt s i) = true) : isWord s = (decide (1 ≤ s.size) && decide (s.size ≤ 12)) := by
  simp only [isWord, decide_eq_true h, Bool.true_and]
set_option maxHeartbeats 1000000 in
theorem IsWord_any (s : ByteArray) (w : World) (hs : s.size ≤ maxLen) : Calls Try.prog 99 #[.string s] w fun e w' => e = .returned (.bool (isWord s)) ∧ w = w' := by
  unfold maxLen at hs
  go_enter Try.func99, Try.ntmps99
  go_wp2
  go_loop [3] (fun i => ∃ k : Nat, k ≤ s.size ∧ i = .int .i64 k ∧ ∀ j, j < k → wordC j (byt s j) = true) (fun i => s.size - (intOf i).toNat)
  case atStart => exact ⟨0, Nat.zero_le _, rfl, fun j hj => absurd hj (Nat.not_lt_zero _)⟩
  case round =>
    obtain ⟨k, hk, rfl, hall⟩ := hrel
    by_cases hk2 : k < s.size
    · cases hL : lowc (s[k].toNat : Int)
      · by_cases h0 : k = 0
        · subst h0
          go_wp2_with ((go_at_call 103; (with_reducible refine (letter1_any _ _).mono ?_); rintro e w' ⟨rfl, rfl⟩; simp only [hL]))
          go_ret
          exact ⟨ret_bool (isWord_no s 0 hk2 (by simp [wordC, hL])).symm, rfl⟩
        · cases hD : digc (s[k].toNat : Int)
          · by_cases hU : (s[k].toNat : Int) = 95
            · go_wp2_with (first | ((go_at_call 103; (with_reducible refine (letter1_any _ _).mono ?_); rintro e w' ⟨rfl, rfl⟩; simp only [hL])) | ((go_at_call 104; (with_reducible refine (digit1_any _ _).mono ?_); rintro e w' ⟨rfl, rfl⟩; simp only [hD])))
              go_round
              case rel => exact ⟨k + 1, by omega, by go_num, fun i hi => by
                by_cases e : i = k
                · subst e; rw [byt_eq s i hk2]; simp [wordC, hL, hD, hU, h0]
                · exact hall i (by omega)⟩
              case measure => simp [intOf]; omega
            · go_wp2_with (first | ((go_at_call 103; (with_reducible refine (letter1_any _ _).mono ?_); rintro e w' ⟨rfl, rfl⟩; simp only [hL])) | ((go_at_call 104; (with_reducible refine (digit1_any _ _).mono ?_); rintro e w' ⟨rfl, rfl⟩; simp only [hD])))
              all_goals first
                | (go_ret
                   exact ⟨ret_bool (isWord_no s k hk2 (by simp [wordC, hL, hD, hU])).symm, rfl⟩)
                | (exfalso; simp_all)
          · go_wp2_with (first | ((go_at_call 103; (with_reducible refine (letter1_any _ _).mono ?_); rintro e w' ⟨rfl, rfl⟩; simp only [hL])) | ((go_at_call 104; (with_reducible refine (digit1_any _ _).mono ?_); rintro e w' ⟨rfl, rfl⟩; simp only [hD])))
            go_round
            case rel => exact ⟨k + 1, by omega, by go_num, fun i hi => by
              by_cases e : i = k
              · subst e; rw [byt_eq s i hk2]; simp [wordC, hL, hD, h0]
              · exact hall i (by omega)⟩
            case measure => simp [intOf]; omega
      · go_wp2_with ((go_at_call 103; (with_reducible refine (letter1_any _ _).mono ?_); rintro e w' ⟨rfl, rfl⟩; simp only [hL]))
        go_round
        case rel => exact ⟨k + 1, by omega, by go_num, fun i hi => by
          by_cases e : i = k
          · subst e; rw [byt_eq s i hk2]; simp [wordC, hL]
          · exact hall i (by omega)⟩
        case measure => simp [intOf]; omega
    · have : k = s.size := by omega
      subst this
      by_cases h1 : 1 ≤ s.size
      · go_wp2
        go_ret
        exact ⟨ret_bool (by rw [isWord_all s hall]; simp [h1]; omega), rfl⟩
      · go_wp2
        go_ret
        exact ⟨ret_bool (by rw [isWord_all s hall]; simp [h1]), rfl⟩
/-- The keywords, as bytes. -/
def keyL : List (List UInt8) := [[97, 110, 100], [98, 101, 115, 116], [98, 121], [99, 114, 101, 100, 105, 116], [99, 117, 114, 114, 101, 110, 99, 121], [101, 108, 115, 101], [102, 108, 111, 111, 114], [102, 114, 111, 109], [103, 114, 97, 110, 116], [105, 102], [105, 110, 100, 101, 120], [108, 101, 116], [108, 105, 109, 105, 116], [109, 97, 120], [109, 105, 110], [110, 111, 116], [111, 114], [112, 97, 121], [114, 101, 100, 117, 99, 101], [114, 111, 117, 110, 100], [115, 116, 97, 116, 117, 116, 101], [116, 104, 101, 110]
  ]
def keyB (s : ByteArray) : Bool := keyL.contains s.toList
set_option maxHeartbeats 1000000 in
theorem keyword_any (s : ByteArray) (w : World) : Calls Try.prog 100 #[.string s] w fun e w' => e = .returned (.bool (keyB s)) ∧ w = w' := by
  go_enter Try.func100, Try.ntmps100
  go_wp2
  all_goals first
    | (exfalso; simp_all; done)
    | (go_returns
       exact ⟨ret_bool (by simp_all [keyB, keyL]), rfl⟩)

def nameB (s : ByteArray) : Bool := isWord s && !keyB s
set_option maxHeartbeats 1000000 in
theorem IsName_any (s : ByteArray) (w : World) (hs : s.size ≤ maxLen) : Calls Try.prog 89 #[.string s] w fun e w' => e = .returned (.bool (nameB s)) ∧ w = w' := by
  cases hW : isWord s <;>
  · go_enter Try.func89, Try.ntmps89
    go_wp2_with (first | (go_at_call 99; (with_reducible refine (IsWord_any _ _ (by assumption)).mono ?_); rintro e w' ⟨rfl, rfl⟩; simp only [hW]) | (go_at_call 100; (with_reducible refine (keyword_any _ _).mono ?_); rintro e w' ⟨rfl, rfl⟩))
    go_returns
    exact ⟨ret_bool (by simp [nameB, hW]), rfl⟩
end Go.Proofs.Ytldelkkeimlfcaa
