/- Words and names. -/
import Derived.Test.YtldelkkeimlfcaaQTree
import Derived.Test.YtldelkkeimlfcaaQRow
set_option linter.all false
namespace Go.Proofs.Ytldelkkeimlfcaa
open Go.RowKit

def lowc (c : Int) : Bool := decide (97 ≤ c) && decide (c ≤ 122)
def digc (c : Int) : Bool := decide (48 ≤ c) && decide (c ≤ 57)

set_option maxHeartbeats 400000 in
theorem letter1_any (c : Int) (w : World) : Calls Try.prog 103 #[.int .u8 c] w fun e w' => e = .returned (.bool (lowc c)) ∧ w = w' := by
  by_cases c1 : 97 ≤ c
  · by_cases c2 : c ≤ 122
    · go_enter Try.func103, Try.ntmps103
      go_wp2
      go_returns
      exact ⟨ret_bool (by simp [lowc, c1, c2]), rfl⟩
    · go_enter Try.func103, Try.ntmps103
      go_wp2
      go_returns
      exact ⟨ret_bool (by simp [lowc]; omega), rfl⟩
  · go_enter Try.func103, Try.ntmps103
    go_wp2
    go_returns
    exact ⟨ret_bool (by simp [lowc]; omega), rfl⟩
set_option maxHeartbeats 400000 in
theorem digit1_any (c : Int) (w : World) : Calls Try.prog 104 #[.int .u8 c] w fun e w' => e = .returned (.bool (digc c)) ∧ w = w' := by
  by_cases c1 : 48 ≤ c
  · by_cases c2 : c ≤ 57
    · go_enter Try.func104, Try.ntmps104
      go_wp2
      go_returns
      exact ⟨ret_bool (by simp [digc, c1, c2]), rfl⟩
    · go_enter Try.func104, Try.ntmps104
      go_wp2
      go_returns
      exact ⟨ret_bool (by simp [digc]; omega), rfl⟩
  · go_enter Try.func104, Try.ntmps104
    go_wp2
    go_returns
    exact ⟨ret_bool (by simp [digc]; omega), rfl⟩

/-- How many operands an operation has. -/
def argsN (op : Int) : Int := if 1 ≤ op ∧ op ≤ 3 then 0 else if 4 ≤ op ∧ op ≤ 6 then 1 else if 7 ≤ op ∧ op ≤ 20 then 2 else if op = 21 then 3 else -1
set_option maxHeartbeats 1000000 in
theorem Args_any (op : Int) (w : World) : Calls Try.prog 87 #[.int .i64 op] w fun e w' => e = .returned (.int .i64 (argsN op)) ∧ w = w' := by
  by_cases c1 : op < 1
  · go_enter Try.func87, Try.ntmps87
    go_wp2
    go_returns
    exact ⟨ret_int (by simp [argsN]; omega), rfl⟩
  · by_cases c2 : op ≤ 3
    · go_enter Try.func87, Try.ntmps87
      go_wp2
      go_returns
      exact ⟨ret_int (by simp [argsN]; omega), rfl⟩
    · by_cases c3 : op ≤ 6
      · go_enter Try.func87, Try.ntmps87
        go_wp2
        go_returns
        exact ⟨ret_int (by simp [argsN]; omega), rfl⟩
      · by_cases c4 : op ≤ 20
        · go_enter Try.func87, Try.ntmps87
          go_wp2
          go_returns
          exact ⟨ret_int (by simp [argsN]; omega), rfl⟩
        · by_cases c5 : op = 21
          · subst c5
            go_enter Try.func87, Try.ntmps87
            go_wp2
            go_returns
            exact ⟨ret_int (by simp [argsN]), rfl⟩
          · go_enter Try.func87, Try.ntmps87
            go_wp2
            go_returns
            exact ⟨ret_int (by simp [argsN]; omega), rfl⟩

/-- The byte at a place; 0 behind the end. -/
def byt (s : ByteArray) (i : Nat) : Int := if h : i < s.size then (s[i].toNat : Int) else 0
theorem byt_eq (s : ByteArray) (i : Nat) (h : i < s.size) : byt s i = (s[i].toNat : Int) := by simp [byt, h]
def wordC (i : Nat) (c : Int) : Bool := lowc c || (i != 0 && (digc c || decide (c = 95)))
def isWord (s : ByteArray) : Bool := decide (∀ i, i < s.size → wordC i (byt s i) = true) && decide (1 ≤ s.size) && decide (s.size ≤ 12)
theorem isWord_no (s : ByteArray) (k : Nat) (h : k < s.size) (hc : wordC k (s[k].toNat : Int) = false) : isWord s = false := by
  have : ¬ ∀ i, i < s.size → wordC i (byt s i) = true := fun f => by have := f k h; rw [byt_eq s k h, hc] at this; cases this
  simp only [isWord, decide_eq_false this, Bool.false_and]
theorem isWord_all (s : ByteArray) (h : ∀ i, i < s.size → wordC i (byt s i) = true) : isWord s = (decide (1 ≤ s.size) && decide (s.size ≤ 12)) := by
  simp only [isWord, decide_eq_true h, Bool.true_and]
set_option maxHeartbeats 1000000 in
theorem IsWord_any (s : ByteArray) (w : World) (hs : s.size ≤ maxLen) : Calls Try.prog 99 #[.string s] w fun e w' => e = .returned (.bool (isWord s)) ∧ w = w' := by
  unfold maxLen at hs
  go_enter Try.func99, Try.ntmps99
  go_wp2
  go_loop [3] (fun i => ∃ k : Nat, k ≤ s.size ∧ i = .int .i64 k ∧ ∀ j, j < k → wordC j (byt s j) = true) (fun i => s.size - (intOf i).toNat)
  case atStart => exact ⟨0, Nat.zero_le _, rfl, fun j hj => absurd hj (Nat.not_lt_zero _)⟩
  case round =>
    obtain ⟨k, hk, rfl, hall⟩ := hrel
    by_cases hk2 : k < s.size
    · cases hL : lowc (s[k].toNat : Int)
      · by_cases h0 : k = 0
        · subst h0
          go_wp2_with ((go_at_call 103; (with_reducible refine (letter1_any _ _).mono ?_); rintro e w' ⟨rfl, rfl⟩; simp only [hL]))
          go_ret
          exact ⟨ret_bool (isWord_no s 0 hk2 (by simp [wordC, hL])).symm, rfl⟩
        · cases hD : digc (s[k].toNat : Int)
          · by_cases hU : (s[k].toNat : Int) = 95
            · go_wp2_with (first | ((go_at_call 103; (with_reducible refine (letter1_any _ _).mono ?_); rintro e w' ⟨rfl, rfl⟩; simp only [hL])) | ((go_at_call 104; (with_reducible refine (digit1_any _ _).mono ?_); rintro e w' ⟨rfl, rfl⟩; simp only [hD])))
              go_round
              case rel => exact ⟨k + 1, by omega, by go_num, fun i hi => by
                by_cases e : i = k
                · subst e; rw [byt_eq s i hk2]; simp [wordC, hL, hD, hU, h0]
                · exact hall i (by omega)⟩
              case measure => simp [intOf]; omega
            · go_wp2_with (first | ((go_at_call 103; (with_reducible refine (letter1_any _ _).mono ?_); rintro e w' ⟨rfl, rfl⟩; simp only [hL])) | ((go_at_call 104; (with_reducible refine (digit1_any _ _).mono ?_); rintro e w' ⟨rfl, rfl⟩; simp only [hD])))
              all_goals first
                | (go_ret
                   exact ⟨ret_bool (isWord_no s k hk2 (by simp [wordC, hL, hD, hU])).symm, rfl⟩)
                | (exfalso; simp_all)
          · go_wp2_with (first | ((go_at_call 103; (with_reducible refine (letter1_any _ _).mono ?_); rintro e w' ⟨rfl, rfl⟩; simp only [hL])) | ((go_at_call 104; (with_reducible refine (digit1_any _ _).mono ?_); rintro e w' ⟨rfl, rfl⟩; simp only [hD])))
            go_round
            case rel => exact ⟨k + 1, by omega, by go_num, fun i hi => by
              by_cases e : i = k
              · subst e; rw [byt_eq s i hk2]; simp [wordC, hL, hD, h0]
              · exact hall i (by omega)⟩
            case measure => simp [intOf]; omega
      · go_wp2_with ((go_at_call 103; (with_reducible refine (letter1_any _ _).mono ?_); rintro e w' ⟨rfl, rfl⟩; simp only [hL]))
        go_round
        case rel => exact ⟨k + 1, by omega, by go_num, fun i hi => by
          by_cases e : i = k
          · subst e; rw [byt_eq s i hk2]; simp [wordC, hL]
          · exact hall i (by omega)⟩
        case measure => simp [intOf]; omega
    · have : k = s.size := by omega
      subst this
      by_cases h1 : 1 ≤ s.size
      · go_wp2
        go_ret
        exact ⟨ret_bool (by rw [isWord_all s hall]; simp [h1]; omega), rfl⟩
      · go_wp2
        go_ret
        exact ⟨ret_bool (by rw [isWord_all s hall]; simp [h1]), rfl⟩
/-- The keywords, as bytes. -/
def keyL : List (List UInt8) := [[97, 110, 100], [98, 101, 115, 116], [98, 121], [99, 114, 101, 100, 105, 116], [99, 117, 114, 114, 101, 110, 99, 121], [101, 108, 115, 101], [102, 108, 111, 111, 114], [102, 114, 111, 109], [103, 114, 97, 110, 116], [105, 102], [105, 110, 100, 101, 120], [108, 101, 116], [108, 105, 109, 105, 116], [109, 97, 120], [109, 105, 110], [110, 111, 116], [111, 114], [112, 97, 121], [114, 101, 100, 117, 99, 101], [114, 111, 117, 110, 100], [115, 116, 97, 116, 117, 116, 101], [116, 104, 101, 110]
  ]
def keyB (s : ByteArray) : Bool := keyL.contains s.toList
set_option maxHeartbeats 1000000 in
theorem keyword_any (s : ByteArray) (w : World) : Calls Try.prog 100 #[.string s] w fun e w' => e = .returned (.bool (keyB s)) ∧ w = w' := by
  go_enter Try.func100, Try.ntmps100
  go_wp2
  all_goals first
    | (exfalso; simp_all; done)
    | (go_returns
       exact ⟨ret_bool (by simp_all [keyB, keyL]), rfl⟩)

def nameB (s : ByteArray) : Bool := isWord s && !keyB s
set_option maxHeartbeats 1000000 in
theorem IsName_any (s : ByteArray) (w : World) (hs : s.size ≤ maxLen) : Calls Try.prog 89 #[.string s] w fun e w' => e = .returned (.bool (nameB s)) ∧ w = w' := by
  cases hW : isWord s <;>
  · go_enter Try.func89, Try.ntmps89
    go_wp2_with (first | (go_at_call 99; (with_reducible refine (IsWord_any _ _ (by assumption)).mono ?_); rintro e w' ⟨rfl, rfl⟩; simp only [hW]) | (go_at_call 100; (with_reducible refine (keyword_any _ _).mono ?_); rintro e w' ⟨rfl, rfl⟩))
    go_returns
    exact ⟨ret_bool (by simp [nameB, hW]), rfl⟩
end Go.Proofs.Ytldelkkeimlfcaa
/- The names of the inputs. -/
namespace Go.Proofs.Ytldelkkeimlfcaa
open Go.RowKit

/-- The dimension of an input; 0: there is none of this name. -/
def inpD (l : List UInt8) : Int :=
  if l = [97, 103, 101] ∨ l = [121, 101, 97, 114] ∨ l = [99, 104, 105, 108, 100, 114, 101, 110] then 2
  else if l = [105, 110, 115, 117, 114, 101, 100] ∨ l = [119, 111, 114, 107, 101, 100] ∨ l = [118, 111, 108, 117, 110, 116, 97, 114, 121] ∨ l = [115, 101, 114, 118, 105, 99, 101] ∨ l = [101, 113, 117, 97, 116, 101, 100] ∨ l = [114, 97, 105, 115, 105, 110, 103] ∨ l = [114, 101, 115, 105, 100, 101, 110, 116] then 3
  else if l = [98, 97, 115, 101] then 4 else 0
theorem ret_dimok {a b : Int} {p q : Bool} (h : a = b) (g : p = q) : Ending.returned (.tuple #[.int .i64 a, .bool p]) = .returned (.tuple #[.int .i64 b, .bool q]) := by rw [h, g]
set_option maxHeartbeats 1000000 in
theorem Input5_any (s : ByteArray) (w : World) : Calls Try.prog 91 #[.string s] w fun e w' => e = .returned (.tuple #[.int .i64 (inpD s.toList), .bool (decide (inpD s.toList ≠ 0))]) ∧ w = w' := by
  go_enter Try.func91, Try.ntmps91
  go_wp2
  all_goals first
    | (exfalso; simp_all; done)
    | (go_returns
       exact ⟨ret_dimok (by simp_all [inpD]) (by simp_all [inpD]), rfl⟩)

def inpA : Array Value := #[.string ⟨#[97, 103, 101]⟩, .string ⟨#[121, 101, 97, 114]⟩, .string ⟨#[99, 104, 105, 108, 100, 114, 101, 110]⟩, .string ⟨#[105, 110, 115, 117, 114, 101, 100]⟩, .string ⟨#[119, 111, 114, 107, 101, 100]⟩, .string ⟨#[118, 111, 108, 117, 110, 116, 97, 114, 121]⟩, .string ⟨#[115, 101, 114, 118, 105, 99, 101]⟩, .string ⟨#[101, 113, 117, 97, 116, 101, 100]⟩, .string ⟨#[114, 97, 105, 115, 105, 110, 103]⟩, .string ⟨#[114, 101, 115, 105, 100, 101, 110, 116]⟩, .string ⟨#[98, 97, 115, 101]⟩]
def inpNm (k : Nat) : ByteArray := (inpN.getD k (ByteArray.empty, 0)).1
theorem inpA_get (k : Nat) (h : k < 11) : inpA[k]? = some (.string (inpNm k)) := by
  obtain rfl | rfl | rfl | rfl | rfl | rfl | rfl | rfl | rfl | rfl | rfl : k = 0 ∨ k = 1 ∨ k = 2 ∨ k = 3 ∨ k = 4 ∨ k = 5 ∨ k = 6 ∨ k = 7 ∨ k = 8 ∨ k = 9 ∨ k = 10 := by omega
  all_goals rfl
theorem inpD_get (k : Nat) (h : k < 11) : inpD (inpNm k).toList = (inpN.getD k (ByteArray.empty, 0)).2 := by
  obtain rfl | rfl | rfl | rfl | rfl | rfl | rfl | rfl | rfl | rfl | rfl : k = 0 ∨ k = 1 ∨ k = 2 ∨ k = 3 ∨ k = 4 ∨ k = 5 ∨ k = 6 ∨ k = 7 ∨ k = 8 ∨ k = 9 ∨ k = 10 := by omega
  all_goals decide +kernel
theorem namesOf_take (l : List (ByteArray × Int)) (k : Nat) (dim : Int) (h : k < l.length) :
    namesOf (l.take (k + 1)) dim = namesOf (l.take k) dim ++ if (l.getD k (ByteArray.empty, 0)).2 = dim then [(l.getD k (ByteArray.empty, 0)).1] else [] := by
  rw [List.take_succ_eq_append_getElem h, namesOf_append, List.getD_eq_getElem?_getD, List.getElem?_eq_getElem h]
  congr 1
  simp only [namesOf, Option.getD_some]
  by_cases c : l[k].2 = dim <;> simp [c]
set_option maxHeartbeats 1000000 in
theorem Names_any (w : World) : Calls Try.prog 90 #[] w fun e w' => e = .returned (.slice (some ⟨w.heap.size, 0, none⟩) 11 11) ∧ w.alloc (.cells inpA 9) = w' := by
  go_enter Try.func90, Try.ntmps90
  go_wp2
  go_returns
  exact ⟨rfl, rfl⟩

theorem infoStr : (Try.prog.info? 9).map (fun i => (i.zero, i.size, i.bytes)) = some (some (.string ⟨#[]⟩), 1, 16) := by kernel_rfl
/-- v owns a row of texts. -/
def StrRow (base : Nat) (w : World) (v : Value) (l : List ByteArray) : Prop := w.ownsRow base 9 1 v l.length (l.map Value.string)
def InpPost (dim : Int) (w : World) (e : Ending) (w' : World) : Prop := ∃ v, e = .returned v ∧ StrRow w.heap.size w' v (namesOf inpN dim) ∧ w.Grows w'
theorem StrRow.push {base : Nat} {w : World} {v : Value} {l : List ByteArray} {s : ByteArray} {n : Nat} {xs : List Value} (h : w.ownsRow base 9 1 v n xs) (hn : n = l.length + 1) (hx : xs = l.map Value.string ++ [.string s]) : StrRow base w v (l ++ [s]) := by
  subst hn hx
  unfold StrRow
  simpa using h
theorem news_one (w : World) (u : Value) : ∀ (j : Nat) (v : Value), [u][j]? = some v → (w.alloc (.cells #[u] 9)).cell? ((⟨w.heap.size, 0, none⟩ : Addr).add j) = some v := by
  intro j v hj
  match j, hj with
  | 0, hj =>
    simp at hj; subst hj
    rw [addr_add, World.cell?_alloc_at _ _ _ _ rfl]; rfl
theorem ownsRow_base {w : World} {base base' : Nat} {e : TypeId} {size : Nat} {v : Value} {n : Nat} {xs : List Value} (h : w.ownsRow base e size v n xs) (hb : base' ≤ base) : w.ownsRow base' e size v n xs := by
  obtain ⟨h1, h2⟩ := h
  refine ⟨h1, h2.imp id ?_⟩
  rintro ⟨g, cap, cur, hv, hg, r⟩
  exact ⟨g, cap, cur, hv, by omega, r⟩
set_option maxHeartbeats 1000000 in
theorem inputs_any (dim : Int) (w : World) : Calls Try.prog 71 #[.int .i64 dim] w (InpPost dim w) := by
  obtain ⟨i0, hi, hz0, hz1, hz2⟩ := info_parts infoStr
  have hN : inpN.length = 11 := rfl
  go_enter Try.func71, Try.ntmps71
  go_wp2_with (go_at_call 90; refine (Names_any _).mono ?_; rintro e w' ⟨rfl, rfl⟩)
  go_loopw [4, 5] (fun v4 v5 wr => ∃ k : Nat, k ≤ 11 ∧ v5 = .int .i64 k ∧ StrRow (w.heap.size + 1) wr v4 (namesOf (inpN.take k) dim) ∧ Below (w.heap.size + 1) (w.alloc (.cells inpA 9)) wr) (fun _ v5 _ => 11 - (intOf v5).toNat)
  case atStart => exact ⟨0, by omega, rfl, World.ownsRow_nil _ _ _ _, .refl _ _⟩
  case round =>
    obtain ⟨k, hk, rfl, hown, hbel⟩ := hrel
    have Hown := Lib.hid hown
    have Hbel := Lib.hid hbel
    have hsz : w.heap.size + 1 ≤ wr.heap.size := by have := hbel.size; simpa using this
    clear hown
    by_cases hlt : k < 11
    · have hc : wr.cell? ⟨w.heap.size, k, none⟩ = some (.string (inpNm k)) := by
        rw [hbel.cell (by simp), World.cell?_alloc_at _ _ _ _ rfl]; exact inpA_get k hlt
      have hlt1 : (k : Int) < 11 := by omega
      have hd0 := inpD_get k hlt
      generalize hx : inpD (inpNm k).toList = x at hd0
      have HX := Lib.hid hx
      clear hx
      have HT := Lib.hid (namesOf_take inpN k dim (by omega))
      have HL := Lib.hid (namesOf_le (inpN.take k) dim)
      clear hbel
      by_cases hd : x = dim
      · have HD := Lib.hid (hd0.symm.trans hd)
        clear hd0
        go_wp2_with (first
          | (go_at_call 91; refine (Input5_any _ _).mono ?_; rintro e w' ⟨rfl, rfl⟩; simp only [HX.out])
          | (at_builtin; refine wpList_append_own _ rfl _ _ 134 rfl (w.heap.size + 1) 9 i0 (.string ⟨#[]⟩) 1 16 Try.underlying134 hi hz0 hz1 hz2 rfl (by decide) _ _ _ rfl (World.ownsRow.alloc Hown.out _) ⟨wr.heap.size, 0, none⟩ 1 1 [.string (inpNm k)] rfl rfl ?c1 ?c2 ?c3 ?c4 ?c5 ?_))
        case c1 => exact news_one _ _
        case c2 => intro u hu; simp at hu; subst hu; rfl
        case c3 => have := HL.out; have h := List.length_take_le k inpN; unfold maxLen; omega
        case c4 => have := HL.out; have h := List.length_take_le k inpN; omega
        case c5 => simp; omega
        intro v' w1 hown' hgrow _
        have B1 := Lib.hid ((Hbel.out.alloc (by simpa using hsz) _).grown hgrow (by simp; omega) (fun k hk => (Hown.out.lt k hk).1))
        have H1 := Lib.hid (StrRow.push (s := inpNm k) (l := namesOf (inpN.take k) dim) hown' rfl (by simp))
        clear hown' hgrow
        go_wp2
        go_roundw
        case rel => exact ⟨k + 1, by omega, by go_num, by rw [HT.out, if_pos HD.out]; exact H1.out, B1.out⟩
        case measure => simp [intOf]; omega
      · have HD := Lib.hid (fun h => hd (hd0.trans h))
        have hd1 : (x == dim) = false := by simpa using hd
        clear hd0
        go_wp2_with (go_at_call 91; refine (Input5_any _ _).mono ?_; rintro e w' ⟨rfl, rfl⟩; simp only [HX.out])
        go_roundw
        case rel => exact ⟨k + 1, by omega, by go_num, by rw [HT.out, if_neg HD.out, List.append_nil]; exact Hown.out, Hbel.out⟩
        case measure => simp [intOf]; omega
    · obtain rfl : k = 11 := by omega
      go_wp2
      go_returns
      exact ⟨_, rfl, ownsRow_base Hown.out (by omega), .of_below ((((Below.refl _ _).alloc (Nat.le_refl _) _)).trans (Hbel.out.mono (by omega)))⟩
end Go.Proofs.Ytldelkkeimlfcaa
/- Numbers as texts. -/
namespace Go.Proofs.Ytldelkkeimlfcaa
open Go.RowKit

def tenS : ByteArray := ⟨#[48, 49, 50, 51, 52, 53, 54, 55, 56, 57]⟩
/-- The digits of n before a text, at least a number of them. -/
def digG : Nat → Int → Nat → ByteArray → ByteArray
  | 0, _, _, s => s
  | f + 1, n, l, s => if 0 < n ∨ s.size < l then digG f (n / 10) l (tenS.extract (n % 10).toNat (n % 10 + 1).toNat ++ s) else s
def digS (n : Int) (l : Nat) : ByteArray := digG (n.toNat + l) n l ByteArray.empty
theorem digG_stop (f : Nat) (n : Int) (l : Nat) (s : ByteArray) (h : ¬ (0 < n ∨ s.size < l)) : digG f n l s = s := by
  cases f with
  | zero => rfl
  | succ f => simp only [digG, if_neg h]
theorem digG_go (f : Nat) (n : Int) (l : Nat) (s : ByteArray) (h : 0 < n ∨ s.size < l) (hf : n.toNat + (l - s.size) ≤ f) :
    digG f n l s = digG (f - 1) (n / 10) l (tenS.extract (n % 10).toNat (n % 10 + 1).toNat ++ s) := by
  cases f with
  | zero => omega
  | succ f => simp only [digG, if_pos h]; rfl
theorem tenS_size : tenS.size = 10 := rfl
theorem ten_piece (m : Int) (s : ByteArray) : (tenS.extract (m % 10).toNat (m % 10 + 1).toNat ++ s).size = s.size + 1 := by
  rw [ByteArray.size_append, ByteArray.size_extract, tenS_size]; omega
theorem digG_size : ∀ (f : Nat) (n : Int) (l : Nat) (s : ByteArray), 0 ≤ n → (digG f n l s).size ≤ s.size + n.toNat + (l - s.size)
  | 0, _, _, _, _ => by simp only [digG]; omega
  | f + 1, n, l, s, h => by
    simp only [digG]
    split
    · have := digG_size f (n / 10) l (tenS.extract (n % 10).toNat (n % 10 + 1).toNat ++ s) (by omega)
      rw [ten_piece] at this
      omega
    · omega
theorem digS_size (n : Int) (l : Nat) (h : 0 ≤ n) : (digS n l).size ≤ n.toNat + l := by
  have := digG_size (n.toNat + l) n l ByteArray.empty h
  have e : ByteArray.empty.size = 0 := rfl
  unfold digS; omega
set_option maxHeartbeats 1000000 in
theorem digits1_any (n : Int) (l : Nat) (w : World) (h0 : 0 ≤ n) (h1 : n ≤ 9223372036854775807) (hl : l ≤ 4) : Calls Try.prog 102 #[.int .i64 n, .int .i64 l] w fun e w' => e = .returned (.string (digS n l)) ∧ w = w' := by
  go_enter Try.func102, Try.ntmps102
  go_wp2
  go_loop [0, 5] (fun a b => ∃ m : Int, ∃ s : ByteArray, ∃ f : Nat, 0 ≤ m ∧ (s.size : Int) + m ≤ 9223372036854775807 ∧ a = .int .i64 m ∧ b = .string s ∧ m.toNat + (l - s.size) ≤ f ∧ Hid (digG f m l s = digS n l)) (fun a b => (intOf a).toNat + (l - (match b with | .string s => s.size | _ => 0)))
  case atStart => exact ⟨n, _, n.toNat + l, h0, by show ((0 : Nat) : Int) + n ≤ _; omega, rfl, rfl, by omega, Lib.hid rfl⟩
  case round =>
    obtain ⟨m, s, f, hm0, hm1, rfl, rfl, hf, hg⟩ := hrel
    have hr : 0 ≤ m % 10 ∧ m % 10 < 10 := by omega
    have hpc : Hid (_) := Lib.hid (ten_piece m s)
    by_cases hp : 0 < m
    · go_wp2
      go_round
      case rel => exact ⟨m / 10, _, f - 1, by omega, by rw [show ({ data := #[48, 49, 50, 51, 52, 53, 54, 55, 56, 57] } : ByteArray) = tenS from rfl, hpc.out]; omega, rfl, rfl, by rw [show ({ data := #[48, 49, 50, 51, 52, 53, 54, 55, 56, 57] } : ByteArray) = tenS from rfl, hpc.out]; omega, Lib.hid (by rw [← hg.out, digG_go f m l s (.inl hp) hf]; rfl)⟩
      case measure =>
        simp only [intOf]
        rw [show ({ data := #[48, 49, 50, 51, 52, 53, 54, 55, 56, 57] } : ByteArray) = tenS from rfl, hpc.out]; omega
    · by_cases hq : s.size < l
      · go_wp2
        go_round
        case rel => exact ⟨m / 10, _, f - 1, by omega, by rw [show ({ data := #[48, 49, 50, 51, 52, 53, 54, 55, 56, 57] } : ByteArray) = tenS from rfl, hpc.out]; omega, rfl, rfl, by rw [show ({ data := #[48, 49, 50, 51, 52, 53, 54, 55, 56, 57] } : ByteArray) = tenS from rfl, hpc.out]; omega, Lib.hid (by rw [← hg.out, digG_go f m l s (.inr hq) hf]; rfl)⟩
        case measure =>
          simp only [intOf]
          rw [show ({ data := #[48, 49, 50, 51, 52, 53, 54, 55, 56, 57] } : ByteArray) = tenS from rfl, hpc.out]; omega
      · go_wp2
        go_returns
        exact ⟨by rw [← hg.out, digG_stop f m l s (by omega)]; rfl, rfl⟩

theorem ret_str {a b : ByteArray} (h : a = b) : Ending.returned (.string a) = .returned (.string b) := by rw [h]
/-- The text of a fraction. -/
def fracS (n d : Int) : ByteArray :=
  if vfrac n d = true then
    if n < 0 then (if d = 1 then ⟨#[45]⟩ ++ digS (absI n) 1 else ⟨#[45]⟩ ++ digS (absI n) 1 ++ ⟨#[47]⟩ ++ digS d 1)
    else (if d = 1 then digS (absI n) 1 else digS (absI n) 1 ++ ⟨#[47]⟩ ++ digS d 1)
  else ⟨#[]⟩
theorem digits1_one (n : Int) (w : World) (h0 : 0 ≤ n) (h1 : n ≤ 9223372036854775807) : Calls Try.prog 102 #[.int .i64 n, .int .i64 1] w fun e w' => e = .returned (.string (digS n 1)) ∧ w = w' :=
  digits1_any n 1 w h0 h1 (by omega)
theorem fracS_no (n d : Int) (h : vfrac n d = false) : fracS n d = ⟨#[]⟩ := by simp [fracS, h]
set_option maxHeartbeats 1000000 in
theorem FormatFraction_any (n d : Int) (w : World) (h1 : -9223372036854775808 ≤ n) (h2 : n ≤ 9223372036854775807) (h3 : -9223372036854775808 ≤ d) (h4 : d ≤ 9223372036854775807) : Calls Try.prog 98 #[.agg #[.int .i64 n, .int .i64 d]] w fun e w' => e = .returned (.string (fracS n d)) ∧ w.Grows w' := by
  cases hv : vfrac n d
  · go_enter Try.func98, Try.ntmps98
    go_wp2_with ((first | (go_at_call 51; (with_reducible refine (Valid1_any _ _ _ (by omega) (by omega) (by omega) (by omega)).mono ?_); rintro e w' ⟨rfl, bs, dr, rfl⟩; simp only [hv]) | (go_at_call 45; (with_reducible refine (size1_any _ _ (by omega) (by omega)).mono ?_); rintro e w' ⟨rfl, rfl⟩) | (go_at_call 102; (with_reducible refine (digits1_one _ _ (by omega) (by omega)).mono ?_); rintro e w' ⟨rfl, rfl⟩)))
    go_returns
    exact ⟨ret_str (fracS_no n d hv).symm, .of_below (by (repeat' (first | (with_reducible exact Below.refl _ _) | (with_reducible assumption) | (with_reducible refine Below.grow ?_ ?_ _ _) | (with_reducible refine Below.alloc ?_ ?_ _) | (with_reducible refine Below.drewN ?_ _) | (with_reducible refine Below.drew ?_) | (with_reducible refine Below.setCell ?_ ?_ _) | go_size)))⟩
  · have ⟨b1, b2, b3, b4⟩ := vfrac_bd hv
    have a0 : 0 ≤ absI n := by unfold absI; omega
    have a1 : absI n ≤ 1000000000000000 := by unfold absI; omega
    have e1 : IntKind.i64.wrap (absI n) = absI n := IntWalk.i64_in _ (by omega)
    have z1 : ((digS (absI n) 1).size : Int) ≤ 1000000000000001 := by have := digS_size (absI n) 1 a0; omega
    have z2 : ((digS d 1).size : Int) ≤ 1000000001 := by have := digS_size d 1 (by omega); omega
    by_cases cn : n < 0
    · by_cases cd : d = 1
      · subst cd
        go_enter Try.func98, Try.ntmps98
        go_wp2_with ((first | (go_at_call 51; (with_reducible refine (Valid1_any _ _ _ (by omega) (by omega) (by omega) (by omega)).mono ?_); rintro e w' ⟨rfl, bs, dr, rfl⟩; simp only [hv]) | (go_at_call 45; (with_reducible refine (size1_any _ _ (by omega) (by omega)).mono ?_); rintro e w' ⟨rfl, rfl⟩) | (go_at_call 102; (with_reducible refine (digits1_one _ _ (by omega) (by omega)).mono ?_); rintro e w' ⟨rfl, rfl⟩)))
        go_returns
        exact ⟨ret_str (by simp [fracS, *] <;> (intro _; omega)), .of_below (by (repeat' (first | (with_reducible exact Below.refl _ _) | (with_reducible assumption) | (with_reducible refine Below.grow ?_ ?_ _ _) | (with_reducible refine Below.alloc ?_ ?_ _) | (with_reducible refine Below.drewN ?_ _) | (with_reducible refine Below.drew ?_) | (with_reducible refine Below.setCell ?_ ?_ _) | go_size)))⟩
      · go_enter Try.func98, Try.ntmps98
        go_wp2_with ((first | (go_at_call 51; (with_reducible refine (Valid1_any _ _ _ (by omega) (by omega) (by omega) (by omega)).mono ?_); rintro e w' ⟨rfl, bs, dr, rfl⟩; simp only [hv]) | (go_at_call 45; (with_reducible refine (size1_any _ _ (by omega) (by omega)).mono ?_); rintro e w' ⟨rfl, rfl⟩) | (go_at_call 102; (with_reducible refine (digits1_one _ _ (by omega) (by omega)).mono ?_); rintro e w' ⟨rfl, rfl⟩)))
        go_returns
        exact ⟨ret_str (by simp [fracS, *] <;> (intro _; omega)), .of_below (by (repeat' (first | (with_reducible exact Below.refl _ _) | (with_reducible assumption) | (with_reducible refine Below.grow ?_ ?_ _ _) | (with_reducible refine Below.alloc ?_ ?_ _) | (with_reducible refine Below.drewN ?_ _) | (with_reducible refine Below.drew ?_) | (with_reducible refine Below.setCell ?_ ?_ _) | go_size)))⟩
    · by_cases cd : d = 1
      · subst cd
        go_enter Try.func98, Try.ntmps98
        go_wp2_with ((first | (go_at_call 51; (with_reducible refine (Valid1_any _ _ _ (by omega) (by omega) (by omega) (by omega)).mono ?_); rintro e w' ⟨rfl, bs, dr, rfl⟩; simp only [hv]) | (go_at_call 45; (with_reducible refine (size1_any _ _ (by omega) (by omega)).mono ?_); rintro e w' ⟨rfl, rfl⟩) | (go_at_call 102; (with_reducible refine (digits1_one _ _ (by omega) (by omega)).mono ?_); rintro e w' ⟨rfl, rfl⟩)))
        go_returns
        exact ⟨ret_str (by simp [fracS, *] <;> (intro _; omega)), .of_below (by (repeat' (first | (with_reducible exact Below.refl _ _) | (with_reducible assumption) | (with_reducible refine Below.grow ?_ ?_ _ _) | (with_reducible refine Below.alloc ?_ ?_ _) | (with_reducible refine Below.drewN ?_ _) | (with_reducible refine Below.drew ?_) | (with_reducible refine Below.setCell ?_ ?_ _) | go_size)))⟩
      · go_enter Try.func98, Try.ntmps98
        go_wp2_with ((first | (go_at_call 51; (with_reducible refine (Valid1_any _ _ _ (by omega) (by omega) (by omega) (by omega)).mono ?_); rintro e w' ⟨rfl, bs, dr, rfl⟩; simp only [hv]) | (go_at_call 45; (with_reducible refine (size1_any _ _ (by omega) (by omega)).mono ?_); rintro e w' ⟨rfl, rfl⟩) | (go_at_call 102; (with_reducible refine (digits1_one _ _ (by omega) (by omega)).mono ?_); rintro e w' ⟨rfl, rfl⟩)))
        go_returns
        exact ⟨ret_str (by simp [fracS, *] <;> (intro _; omega)), .of_below (by (repeat' (first | (with_reducible exact Below.refl _ _) | (with_reducible assumption) | (with_reducible refine Below.grow ?_ ?_ _ _) | (with_reducible refine Below.alloc ?_ ?_ _) | (with_reducible refine Below.drewN ?_ _) | (with_reducible refine Below.drew ?_) | (with_reducible refine Below.setCell ?_ ?_ _) | go_size)))⟩
end Go.Proofs.Ytldelkkeimlfcaa
