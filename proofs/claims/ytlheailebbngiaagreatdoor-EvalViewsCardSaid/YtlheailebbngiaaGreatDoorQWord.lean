/- Words and names. -/
import Derived.Test.YtlheailebbngiaaGreatDoorQSrc
set_option linter.all false
namespace Go.Proofs.YtlheailebbngiaaGreatDoor
open Go.RowKit

def lowc (c : Int) : Bool := decide (97 ≤ c) && decide (c ≤ 122)
def digc (c : Int) : Bool := decide (48 ≤ c) && decide (c ≤ 57)

set_option maxHeartbeats 400000 in
theorem letter1_any (c : Int) (w : World) : Calls Tryz.prog 165 #[.int .u8 c] w fun e w' => e = .returned (.bool (lowc c)) ∧ w = w' := by
  by_cases c1 : 97 ≤ c
  · by_cases c2 : c ≤ 122
    · go_enter Tryz.func165, Tryz.ntmps165
      go_wp2
      go_returns
      exact ⟨ret_bool (by simp [lowc, c1, c2]), rfl⟩
    · go_enter Tryz.func165, Tryz.ntmps165
      go_wp2
      go_returns
      exact ⟨ret_bool (by simp [lowc]; omega), rfl⟩
  · go_enter Tryz.func165, Tryz.ntmps165
    go_wp2
    go_returns
    exact ⟨ret_bool (by simp [lowc]; omega), rfl⟩
set_option maxHeartbeats 400000 in
theorem digit1_any (c : Int) (w : World) : Calls Tryz.prog 166 #[.int .u8 c] w fun e w' => e = .returned (.bool (digc c)) ∧ w = w' := by
  by_cases c1 : 48 ≤ c
  · by_cases c2 : c ≤ 57
    · go_enter Tryz.func166, Tryz.ntmps166
      go_wp2
      go_returns
      exact ⟨ret_bool (by simp [digc, c1, c2]), rfl⟩
    · go_enter Tryz.func166, Tryz.ntmps166
      go_wp2
      go_returns
      exact ⟨ret_bool (by simp [digc]; omega), rfl⟩
  · go_enter Tryz.func166, Tryz.ntmps166
    go_wp2
    go_returns
    exact ⟨ret_bool (by simp [digc]; omega), rfl⟩

/-- How many operands an operation has. -/
def argsN (op : Int) : Int := if 1 ≤ op ∧ op ≤ 3 then 0 else if 4 ≤ op ∧ op ≤ 6 then 1 else if 7 ≤ op ∧ op ≤ 20 then 2 else if op = 21 then 3 else -1
set_option maxHeartbeats 1000000 in
theorem Args_any (op : Int) (w : World) : Calls Tryz.prog 104 #[.int .i64 op] w fun e w' => e = .returned (.int .i64 (argsN op)) ∧ w = w' := by
  by_cases c1 : op < 1
  · go_enter Tryz.func104, Tryz.ntmps104
    go_wp2
    go_returns
    exact ⟨ret_int (by simp [argsN]; omega), rfl⟩
  · by_cases c2 : op ≤ 3
    · go_enter Tryz.func104, Tryz.ntmps104
      go_wp2
      go_returns
      exact ⟨ret_int (by simp [argsN]; omega), rfl⟩
    · by_cases c3 : op ≤ 6
      · go_enter Tryz.func104, Tryz.ntmps104
        go_wp2
        go_returns
        exact ⟨ret_int (by simp [argsN]; omega), rfl⟩
      · by_cases c4 : op ≤ 20
        · go_enter Tryz.func104, Tryz.ntmps104
          go_wp2
          go_returns
          exact ⟨ret_int (by simp [argsN]; omega), rfl⟩
        · by_cases c5 : op = 21
          · subst c5
            go_enter Tryz.func104, Tryz.ntmps104
            go_wp2
            go_returns
            exact ⟨ret_int (by simp [argsN]), rfl⟩
          · go_enter Tryz.func104, Tryz.ntmps104
            go_wp2
            go_returns
            exact ⟨ret_int (by simp [argsN]; omega), rfl⟩

/-- The byte at a place; 0 behind the end. -/
def byt (s : ByteArray) (i : Nat) : Int := if h : i < s.size then (s[i].toNat : Int) else 0
theorem byt_eq (s : ByteArray) (i : Nat) (h : i < s.size) : byt s i = (s[i].toNat : Int) := by simp [byt, h]
def wordC (i : Nat) (c : Int) : Bool := lowc c || (i != 0 && (digc c || decide (c = 95)))
def isWord (s : ByteArray) : Bool := decide (∀ i, i < s.size → wordC i (byt s i) = true) && decide (1 ≤ s.size) && decide (s.size ≤ 12)
theorem isWord_no (s : ByteArray) (k : Nat) (h : k < s.size) (hc : wordC k (s[k].toNat : Int) = false) : isWord s = false := by
  have : ¬ ∀ i, i < s.size → wordC i (byt s i) = true := fun f => by have := f k h; rw [byt_eq s k h, hc] at this; cases this
  simp only [isWord, decide_eq_false this, Bool.false_and]
theorem isWord_all (s : ByteArray) (h : ∀ i, i < s.size → wordC i (byt s i) = true) : isWord s = (decide (1 ≤ s.size) && decide (s.size ≤ 12)) := by
  simp only [isWord, decide_eq_true h, Bool.true_and]
set_option maxHeartbeats 1000000 in
theorem IsWord_any (s : ByteArray) (w : World) (hs : s.size ≤ maxLen) : Calls Tryz.prog 126 #[.string s] w fun e w' => e = .returned (.bool (isWord s)) ∧ w = w' := by
  unfold maxLen at hs
  go_enter Tryz.func126, Tryz.ntmps126
  go_wp2
  go_loop [3] (fun i => ∃ k : Nat, k ≤ s.size ∧ i = .int .i64 k ∧ ∀ j, j < k → wordC j (byt s j) = true) (fun i => s.size - (intOf i).toNat)
  case atStart => exact ⟨0, Nat.zero_le _, rfl, fun j hj => absurd hj (Nat.not_lt_zero _)⟩
  case round =>
    obtain ⟨k, hk, rfl, hall⟩ := hrel
    by_cases hk2 : k < s.size
    · cases hL : lowc (s[k].toNat : Int)
      · by_cases h0 : k = 0
        · subst h0
          go_wp2_with ((go_at_call 165; (with_reducible refine (letter1_any _ _).mono ?_); rintro e w' ⟨rfl, rfl⟩; simp only [hL]))
          go_ret
          exact ⟨ret_bool (isWord_no s 0 hk2 (by simp [wordC, hL])).symm, rfl⟩
        · cases hD : digc (s[k].toNat : Int)
          · by_cases hU : (s[k].toNat : Int) = 95
            · go_wp2_with (first | ((go_at_call 165; (with_reducible refine (letter1_any _ _).mono ?_); rintro e w' ⟨rfl, rfl⟩; simp only [hL])) | ((go_at_call 166; (with_reducible refine (digit1_any _ _).mono ?_); rintro e w' ⟨rfl, rfl⟩; simp only [hD])))
              go_round
              case rel => exact ⟨k + 1, by omega, by go_num, fun i hi => by
                by_cases e : i = k
                · subst e; rw [byt_eq s i hk2]; simp [wordC, hL, hD, hU, h0]
                · exact hall i (by omega)⟩
              case measure => simp [intOf]; omega
            · go_wp2_with (first | ((go_at_call 165; (with_reducible refine (letter1_any _ _).mono ?_); rintro e w' ⟨rfl, rfl⟩; simp only [hL])) | ((go_at_call 166; (with_reducible refine (digit1_any _ _).mono ?_); rintro e w' ⟨rfl, rfl⟩; simp only [hD])))
              all_goals first
                | (go_ret
                   exact ⟨ret_bool (isWord_no s k hk2 (by simp [wordC, hL, hD, hU])).symm, rfl⟩)
                | (exfalso; simp_all)
          · go_wp2_with (first | ((go_at_call 165; (with_reducible refine (letter1_any _ _).mono ?_); rintro e w' ⟨rfl, rfl⟩; simp only [hL])) | ((go_at_call 166; (with_reducible refine (digit1_any _ _).mono ?_); rintro e w' ⟨rfl, rfl⟩; simp only [hD])))
            go_round
            case rel => exact ⟨k + 1, by omega, by go_num, fun i hi => by
              by_cases e : i = k
              · subst e; rw [byt_eq s i hk2]; simp [wordC, hL, hD, h0]
              · exact hall i (by omega)⟩
            case measure => simp [intOf]; omega
      · go_wp2_with ((go_at_call 165; (with_reducible refine (letter1_any _ _).mono ?_); rintro e w' ⟨rfl, rfl⟩; simp only [hL]))
        go_round
        case rel => exact ⟨k + 1, by omega, by go_num, fun i hi => by
          by_cases e : i = k
          · subst e; rw [byt_eq s i hk2]; simp [wordC, hL]
          · exact hall i (by omega)⟩
        case measure => simp [intOf]; omega
    · have : k = s.size := by omega
      subst this
      by_cases h1 : 1 ≤ s.size
      · go_wp2
        go_ret
        exact ⟨ret_bool (by rw [isWord_all s hall]; simp [h1]; omega), rfl⟩
      · go_wp2
        go_ret
        exact ⟨ret_bool (by rw [isWord_all s hall]; simp [h1]), rfl⟩
/-- The keywords, as bytes. -/
def keyL : List (List UInt8) := [[97, 110, 100], [98, 101, 115, 116], [98, 121], [99, 114, 101, 100, 105, 116], [99, 117, 114, 114, 101, 110, 99, 121], [101, 108, 115, 101], [102, 108, 111, 111, 114], [102, 114, 111, 109], [103, 114, 97, 110, 116], [105, 102], [105, 110, 100, 101, 120], [108, 101, 116], [108, 105, 109, 105, 116], [109, 97, 120], [109, 105, 110], [110, 111, 116], [111, 114], [112, 97, 121], [114, 101, 100, 117, 99, 101], [114, 111, 117, 110, 100], [115, 116, 97, 116, 117, 116, 101], [116, 104, 101, 110]
  ]
def keyB (s : ByteArray) : Bool := keyL.contains s.toList
set_option maxHeartbeats 1000000 in
theorem keyword_any (s : ByteArray) (w : World) : Calls Tryz.prog 127 #[.string s] w fun e w' => e = .returned (.bool (keyB s)) ∧ w = w' := by
  go_enter Tryz.func127, Tryz.ntmps127
  go_wp2
  all_goals first
    | (exfalso; simp_all; done)
    | (go_returns
       exact ⟨ret_bool (by simp_all [keyB, keyL]), rfl⟩)

def nameB (s : ByteArray) : Bool := isWord s && !keyB s
set_option maxHeartbeats 1000000 in
theorem IsName_any (s : ByteArray) (w : World) (hs : s.size ≤ maxLen) : Calls Tryz.prog 89 #[.string s] w fun e w' => e = .returned (.bool (nameB s)) ∧ w = w' := by
  cases hW : isWord s <;>
  · go_enter Tryz.func89, Tryz.ntmps89
    go_wp2_with (first | (go_at_call 126; (with_reducible refine (IsWord_any _ _ (by assumption)).mono ?_); rintro e w' ⟨rfl, rfl⟩; simp only [hW]) | (go_at_call 127; (with_reducible refine (keyword_any _ _).mono ?_); rintro e w' ⟨rfl, rfl⟩))
    go_returns
    exact ⟨ret_bool (by simp [nameB, hW]), rfl⟩
end Go.Proofs.YtlheailebbngiaaGreatDoor
/- Numbers as texts. -/
namespace Go.Proofs.YtlheailebbngiaaGreatDoor
open Go.RowKit

def tenS : ByteArray := ⟨#[48, 49, 50, 51, 52, 53, 54, 55, 56, 57]⟩
/-- The digits of n before a text, at least a number of them. -/
def digG : Nat → Int → Nat → ByteArray → ByteArray
  | 0, _, _, s => s
  | f + 1, n, l, s => if 0 < n ∨ s.size < l then digG f (n / 10) l (tenS.extract (n % 10).toNat (n % 10 + 1).toNat ++ s) else s
def digS (n : Int) (l : Nat) : ByteArray := digG (n.toNat + l) n l ByteArray.empty
theorem digG_stop (f : Nat) (n : Int) (l : Nat) (s : ByteArray) (h : ¬ (0 < n ∨ s.size < l)) : digG f n l s = s := by
  cases f with
  | zero => rfl
  | succ f => simp only [digG, if_neg h]
theorem digG_go (f : Nat) (n : Int) (l : Nat) (s : ByteArray) (h : 0 < n ∨ s.size < l) (hf : n.toNat + (l - s.size) ≤ f) :
    digG f n l s = digG (f - 1) (n / 10) l (tenS.extract (n % 10).toNat (n % 10 + 1).toNat ++ s) := by
  cases f with
  | zero => omega
  | succ f => simp only [digG, if_pos h]; rfl
theorem tenS_size : tenS.size = 10 := rfl
theorem ten_piece (m : Int) (s : ByteArray) : (tenS.extract (m % 10).toNat (m % 10 + 1).toNat ++ s).size = s.size + 1 := by
  rw [ByteArray.size_append, ByteArray.size_extract, tenS_size]; omega
theorem digG_size : ∀ (f : Nat) (n : Int) (l : Nat) (s : ByteArray), 0 ≤ n → (digG f n l s).size ≤ s.size + n.toNat + (l - s.size)
  | 0, _, _, _, _ => by simp only [digG]; omega
  | f + 1, n, l, s, h => by
    simp only [digG]
    split
    · have := digG_size f (n / 10) l (tenS.extract (n % 10).toNat (n % 10 + 1).toNat ++ s) (by omega)
      rw [ten_piece] at this
      omega
    · omega
theorem digS_size (n : Int) (l : Nat) (h : 0 ≤ n) : (digS n l).size ≤ n.toNat + l := by
  have := digG_size (n.toNat + l) n l ByteArray.empty h
  have e : ByteArray.empty.size = 0 := rfl
  unfold digS; omega
set_option maxHeartbeats 1000000 in
theorem digits1_any (n : Int) (l : Nat) (w : World) (h0 : 0 ≤ n) (h1 : n ≤ 9223372036854775807) (hl : l ≤ 4) : Calls Tryz.prog 193 #[.int .i64 n, .int .i64 l] w fun e w' => e = .returned (.string (digS n l)) ∧ w = w' := by
  go_enter Tryz.func193, Tryz.ntmps193
  go_wp2
  go_loop [0, 5] (fun a b => ∃ m : Int, ∃ s : ByteArray, ∃ f : Nat, 0 ≤ m ∧ (s.size : Int) + m ≤ 9223372036854775807 ∧ a = .int .i64 m ∧ b = .string s ∧ m.toNat + (l - s.size) ≤ f ∧ Hid (digG f m l s = digS n l)) (fun a b => (intOf a).toNat + (l - (match b with | .string s => s.size | _ => 0)))
  case atStart => exact ⟨n, _, n.toNat + l, h0, by show ((0 : Nat) : Int) + n ≤ _; omega, rfl, rfl, by omega, Lib.hid rfl⟩
  case round =>
    obtain ⟨m, s, f, hm0, hm1, rfl, rfl, hf, hg⟩ := hrel
    have hr : 0 ≤ m % 10 ∧ m % 10 < 10 := by omega
    have hpc : Hid (_) := Lib.hid (ten_piece m s)
    by_cases hp : 0 < m
    · go_wp2
      go_round
      case rel => exact ⟨m / 10, _, f - 1, by omega, by rw [show ({ data := #[48, 49, 50, 51, 52, 53, 54, 55, 56, 57] } : ByteArray) = tenS from rfl, hpc.out]; omega, rfl, rfl, by rw [show ({ data := #[48, 49, 50, 51, 52, 53, 54, 55, 56, 57] } : ByteArray) = tenS from rfl, hpc.out]; omega, Lib.hid (by rw [← hg.out, digG_go f m l s (.inl hp) hf]; rfl)⟩
      case measure =>
        simp only [intOf]
        rw [show ({ data := #[48, 49, 50, 51, 52, 53, 54, 55, 56, 57] } : ByteArray) = tenS from rfl, hpc.out]; omega
    · by_cases hq : s.size < l
      · go_wp2
        go_round
        case rel => exact ⟨m / 10, _, f - 1, by omega, by rw [show ({ data := #[48, 49, 50, 51, 52, 53, 54, 55, 56, 57] } : ByteArray) = tenS from rfl, hpc.out]; omega, rfl, rfl, by rw [show ({ data := #[48, 49, 50, 51, 52, 53, 54, 55, 56, 57] } : ByteArray) = tenS from rfl, hpc.out]; omega, Lib.hid (by rw [← hg.out, digG_go f m l s (.inr hq) hf]; rfl)⟩
        case measure =>
          simp only [intOf]
          rw [show ({ data := #[48, 49, 50, 51, 52, 53, 54, 55, 56, 57] } : ByteArray) = tenS from rfl, hpc.out]; omega
      · go_wp2
        go_returns
        exact ⟨by rw [← hg.out, digG_stop f m l s (by omega)]; rfl, rfl⟩

theorem ret_str {a b : ByteArray} (h : a = b) : Ending.returned (.string a) = .returned (.string b) := by rw [h]
/-- The text of a fraction. -/
def fracS (n d : Int) : ByteArray :=
  if vfrac n d = true then
    if n < 0 then (if d = 1 then ⟨#[45]⟩ ++ digS (absI n) 1 else ⟨#[45]⟩ ++ digS (absI n) 1 ++ ⟨#[47]⟩ ++ digS d 1)
    else (if d = 1 then digS (absI n) 1 else digS (absI n) 1 ++ ⟨#[47]⟩ ++ digS d 1)
  else ⟨#[]⟩
theorem digits1_one (n : Int) (w : World) (h0 : 0 ≤ n) (h1 : n ≤ 9223372036854775807) : Calls Tryz.prog 193 #[.int .i64 n, .int .i64 1] w fun e w' => e = .returned (.string (digS n 1)) ∧ w = w' :=
  digits1_any n 1 w h0 h1 (by omega)
theorem fracS_no (n d : Int) (h : vfrac n d = false) : fracS n d = ⟨#[]⟩ := by simp [fracS, h]
set_option maxHeartbeats 1000000 in
theorem FormatFraction_any (n d : Int) (w : World) (h1 : -9223372036854775808 ≤ n) (h2 : n ≤ 9223372036854775807) (h3 : -9223372036854775808 ≤ d) (h4 : d ≤ 9223372036854775807) : Calls Tryz.prog 155 #[.agg #[.int .i64 n, .int .i64 d]] w fun e w' => e = .returned (.string (fracS n d)) ∧ w.Grows w' := by
  cases hv : vfrac n d
  · go_enter Tryz.func155, Tryz.ntmps155
    go_wp2_with ((first | (go_at_call 60; (with_reducible refine (Valid1_any _ _ _ (by omega) (by omega) (by omega) (by omega)).mono ?_); rintro e w' ⟨rfl, bs, dr, rfl⟩; simp only [hv]) | (go_at_call 91; (with_reducible refine (size1_any _ _ (by omega) (by omega)).mono ?_); rintro e w' ⟨rfl, rfl⟩) | (go_at_call 193; (with_reducible refine (digits1_one _ _ (by omega) (by omega)).mono ?_); rintro e w' ⟨rfl, rfl⟩)))
    go_returns
    exact ⟨ret_str (fracS_no n d hv).symm, .of_below (by (exact belB))⟩
  · have ⟨b1, b2, b3, b4⟩ := vfrac_bd hv
    have a0 : 0 ≤ absI n := by unfold absI; omega
    have a1 : absI n ≤ 1000000000000000 := by unfold absI; omega
    have e1 : IntKind.i64.wrap (absI n) = absI n := IntWalk.i64_in _ (by omega)
    have z1 : ((digS (absI n) 1).size : Int) ≤ 1000000000000001 := by have := digS_size (absI n) 1 a0; omega
    have z2 : ((digS d 1).size : Int) ≤ 1000000001 := by have := digS_size d 1 (by omega); omega
    by_cases cn : n < 0
    · by_cases cd : d = 1
      · subst cd
        go_enter Tryz.func155, Tryz.ntmps155
        go_wp2_with ((first | (go_at_call 60; (with_reducible refine (Valid1_any _ _ _ (by omega) (by omega) (by omega) (by omega)).mono ?_); rintro e w' ⟨rfl, bs, dr, rfl⟩; simp only [hv]) | (go_at_call 91; (with_reducible refine (size1_any _ _ (by omega) (by omega)).mono ?_); rintro e w' ⟨rfl, rfl⟩) | (go_at_call 193; (with_reducible refine (digits1_one _ _ (by omega) (by omega)).mono ?_); rintro e w' ⟨rfl, rfl⟩)))
        go_returns
        exact ⟨ret_str (by simp [fracS, *] <;> (intro _; omega)), .of_below (by (exact belB))⟩
      · go_enter Tryz.func155, Tryz.ntmps155
        go_wp2_with ((first | (go_at_call 60; (with_reducible refine (Valid1_any _ _ _ (by omega) (by omega) (by omega) (by omega)).mono ?_); rintro e w' ⟨rfl, bs, dr, rfl⟩; simp only [hv]) | (go_at_call 91; (with_reducible refine (size1_any _ _ (by omega) (by omega)).mono ?_); rintro e w' ⟨rfl, rfl⟩) | (go_at_call 193; (with_reducible refine (digits1_one _ _ (by omega) (by omega)).mono ?_); rintro e w' ⟨rfl, rfl⟩)))
        go_returns
        exact ⟨ret_str (by simp [fracS, *] <;> (intro _; omega)), .of_below (by (exact belB))⟩
    · by_cases cd : d = 1
      · subst cd
        go_enter Tryz.func155, Tryz.ntmps155
        go_wp2_with ((first | (go_at_call 60; (with_reducible refine (Valid1_any _ _ _ (by omega) (by omega) (by omega) (by omega)).mono ?_); rintro e w' ⟨rfl, bs, dr, rfl⟩; simp only [hv]) | (go_at_call 91; (with_reducible refine (size1_any _ _ (by omega) (by omega)).mono ?_); rintro e w' ⟨rfl, rfl⟩) | (go_at_call 193; (with_reducible refine (digits1_one _ _ (by omega) (by omega)).mono ?_); rintro e w' ⟨rfl, rfl⟩)))
        go_returns
        exact ⟨ret_str (by simp [fracS, *] <;> (intro _; omega)), .of_below (by (exact belB))⟩
      · go_enter Tryz.func155, Tryz.ntmps155
        go_wp2_with ((first | (go_at_call 60; (with_reducible refine (Valid1_any _ _ _ (by omega) (by omega) (by omega) (by omega)).mono ?_); rintro e w' ⟨rfl, bs, dr, rfl⟩; simp only [hv]) | (go_at_call 91; (with_reducible refine (size1_any _ _ (by omega) (by omega)).mono ?_); rintro e w' ⟨rfl, rfl⟩) | (go_at_call 193; (with_reducible refine (digits1_one _ _ (by omega) (by omega)).mono ?_); rintro e w' ⟨rfl, rfl⟩)))
        go_returns
        exact ⟨ret_str (by simp [fracS, *] <;> (intro _; omega)), .of_below (by (exact belB))⟩
end Go.Proofs.YtlheailebbngiaaGreatDoor
