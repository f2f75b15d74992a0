/- The names of the inputs. -/
import Derived.Test.YtldelkkeimlfcaaRow
import Derived.Test.YtldelkkeimlfcaaWord
set_option linter.all false
namespace Go.Proofs.Ytldelkkeimlfcaa
open Go.RowKit

/-- The dimension of an input; 0: there is none of this name. -/
def inpD (l : List UInt8) : Int :=
  if l = [97, 103, 101] ∨ l = [121, 101, 97, 114] ∨ l = [99, 104, 105, 108, 100, 114, 101, 110] then 2
  else if l = [105, 110, 115, 117, 114, 101, 100] ∨ l = [119, 111, 114, 107, 101, 100] ∨ l = [118, 111, 108, 117, 110, 116, 97, 114, 121] ∨ l = [115, 101, 114, 118, 105, 99, 101] ∨ l = [101, 113, 117, 97, 116, 101, 100] ∨ l = [114, 97, 105, 115, 105, 110, 103] ∨ l = [114, 101, 115, 105, 100, 101, 110, 116] then 3
  else if l = [98, 97, 115, 101] then 4 else 0
theorem ret_dimok {a b : Int} {p q : Bool} (h : a = b) (g : p = q) : Ending.returned (.tuple #[.int .i64 a, .bool p]) = .returned (.tuple #[.int .i64 b, .bool q]) := by rw [h, g]
set_option maxHeartbeats 1000000 in
theorem Input5_any (s : ByteArray) (w : World) : Calls Try.prog 91 #[.string s] w fun e w' => e = .returned (.tuple #[.int .i64 (inpD s.toList), .bool (decide (inpD s.toList ≠ 0))]) ∧ w = w' := by
  go_enter Try.func91, Try.ntmps91
  go_wp2
  all_goals first
    | (exfalso; simp_all; done)
    | (go_returns
       exact ⟨ret_dimok (by simp_all [inpD]) (by simp_all [inpD]), rfl⟩)

def inpA : Array Value := #[.string ⟨#[97, 103, 101]⟩, .string ⟨#[121, 101, 97, 114]⟩, .string ⟨#[99, 104, 105, 108, 100, 114, 101, 110]⟩, .string ⟨#[105, 110, 115, 117, 114, 101, 100]⟩, .string ⟨#[119, 111, 114, 107, 101, 100]⟩, .string ⟨#[118, 111, 108, 117, 110, 116, 97, 114, 121]⟩, .string ⟨#[115, 101, 114, 118, 105, 99, 101]⟩, .string ⟨#[101, 113, 117, 97, 116, 101, 100]⟩, .string ⟨#[114, 97, 105, 115, 105, 110, 103]⟩, .string ⟨#[114, 101, 115, 105, 100, 101, 110, 116]⟩, .string ⟨#[98, 97, 115, 101]⟩]
def inpNm (k : Nat) : ByteArray := (inpN.getD k (ByteArray.empty, 0)).1
theorem inpA_get (k : Nat) (h : k < 11) : inpA[k]? = some (.string (inpNm k)) := by
  obtain rfl | rfl | rfl | rfl | rfl | rfl | rfl | rfl | rfl | rfl | rfl : k = 0 ∨ k = 1 ∨ k = 2 ∨ k = 3 ∨ k = 4 ∨ k = 5 ∨ k = 6 ∨ k = 7 ∨ k = 8 ∨ k = 9 ∨ k = 10 := by omega
  all_goals rfl
theorem inpD_get (k : Nat) (h : k < 11) : inpD (inpNm k).toList = (inpN.getD k (ByteArray.empty, 0)).2 := by
  obtain rfl | rfl | rfl | rfl | rfl | rfl | rfl | rfl | rfl | rfl | rfl : k = 0 ∨ k = 1 ∨ k = 2 ∨ k = 3 ∨ k = 4 ∨ k = 5 ∨ k = 6 ∨ k = 7 ∨ k = 8 ∨ k = 9 ∨ k = 10 := by omega
  all_goals decide +kernel
theorem namesOf_take (l : List (ByteArray × Int)) (k : Nat) (dim : Int) (h : k < l.length) :
    namesOf (l.take (k + 1)) dim = namesOf (l.take k) dim ++ if (l.getD k (ByteArray.empty, 0)).2 = dim then [(l.getD k (ByteArray.empty, 0)).1] else [] := by
  rw [List.take_succ_eq_append_getElem h, namesOf_append, List.getD_eq_getElem?_getD, List.getElem?_eq_getElem h]
  congr 1
  simp only [namesOf, Option.getD_some]
  by_cases c : l[k].2 = dim <;> simp [c]
set_option maxHeartbeats 1000000 in
theorem Names_any (w : World) : Calls Try.prog 90 #[] w fun e w' => e = .returned (.slice (some ⟨w.heap.size, 0, none⟩) 11 11) ∧ w.alloc (.cells inpA 9) = w' := by
  go_enter Try.func90, Try.ntmps90
  go_wp2
  go_returns
  exact ⟨rfl, rfl⟩

theorem infoStr : (Try.prog.info? 9).map (fun i => (i.zero, i.size, i.bytes)) = some (some (.string ⟨#[]⟩), 1, 16) := by kernel_rfl
/-- v owns a row of texts. -/
def StrRow (base : Nat) (w : World) (v : Value) (l : List ByteArray) : Prop := w.ownsRow base 9 1 v l.length (l.map Value.string)
def InpPost (dim : Int) (w : World) (e : Ending) (w' : World) : Prop := ∃ v, e = .returned v ∧ StrRow w.heap.size w' v (namesOf inpN dim) ∧ w.Grows w'
theorem StrRow.push {base : Nat} {w : World} {v : Value} {l : List ByteArray} {s : ByteArray} {n : Nat} {xs : List Value} (h : w.ownsRow base 9 1 v n xs) (hn : n = l.length + 1) (hx : xs = l.map Value.string ++ [.string s]) : StrRow base w v (l ++ [s]) := by
  subst hn hx
  unfold StrRow
  simpa using h
theorem news_one (w : World) (u : Value) : ∀ (j : Nat) (v : Value), [u][j]? = some v → (w.alloc (.cells #[u] 9)).cell? ((⟨w.heap.size, 0, none⟩ : Addr).add j) = some v := by
  intro j v hj
  match j, hj with
  | 0, hj =>
    simp at hj; subst hj
    rw [addr_add, World.cell?_alloc_at _ _ _ _ rfl]; rfl
theorem ownsRow_base {w : World} {base base' : Nat} {e : TypeId} {size : Nat} {v : Value} {n : Nat} {xs : List Value} (h : w.ownsRow base e size v n xs) (hb : base' ≤ base) : w.ownsRow base' e size v n xs := by
  obtain ⟨h1, h2⟩ := h
  refine ⟨h1, h2.imp id ?_⟩
  rintro ⟨g, cap, cur, hv, hg, r⟩
  exact ⟨g, cap, cur, hv, by omega, r⟩
set_option maxHeartbeats 1000000 in
theorem inputs_any (dim : Int) (w : World) : Calls Try.prog 71 #[.int .i64 dim] w (InpPost dim w) := by
  obtain ⟨i0, hi, hz0, hz1, hz2⟩ := info_parts infoStr
  have hN : inpN.length = 11 := rfl
  go_enter Try.func71, Try.ntmps71
  go_wp2_with (go_at_call 90; refine (Names_any _).mono ?_; rintro e w' ⟨rfl, rfl⟩)
  go_loopw [4, 5] (fun v4 v5 wr => ∃ k : Nat, k ≤ 11 ∧ v5 = .int .i64 k ∧ StrRow (w.heap.size + 1) wr v4 (namesOf (inpN.take k) dim) ∧ Below (w.heap.size + 1) (w.alloc (.cells inpA 9)) wr) (fun _ v5 _ => 11 - (intOf v5).toNat)
  case atStart => exact ⟨0, by omega, rfl, World.ownsRow_nil _ _ _ _, .refl _ _⟩
  case round =>
    obtain ⟨k, hk, rfl, hown, hbel⟩ := hrel
    have Hown := Lib.hid hown
    have Hbel := Lib.hid hbel
    have hsz : w.heap.size + 1 ≤ wr.heap.size := by have := hbel.size; simpa using this
    clear hown
    by_cases hlt : k < 11
    · have hc : wr.cell? ⟨w.heap.size, k, none⟩ = some (.string (inpNm k)) := by
        rw [hbel.cell (by simp), World.cell?_alloc_at _ _ _ _ rfl]; exact inpA_get k hlt
      have hlt1 : (k : Int) < 11 := by omega
      have hd0 := inpD_get k hlt
      generalize hx : inpD (inpNm k).toList = x at hd0
      have HX := Lib.hid hx
      clear hx
      have HT := Lib.hid (namesOf_take inpN k dim (by omega))
      have HL := Lib.hid (namesOf_le (inpN.take k) dim)
      clear hbel
      by_cases hd : x = dim
      · have HD := Lib.hid (hd0.symm.trans hd)
        clear hd0
        go_wp2_with (first
          | (go_at_call 91; refine (Input5_any _ _).mono ?_; rintro e w' ⟨rfl, rfl⟩; simp only [HX.out])
          | (at_builtin; refine wpList_append_own _ rfl _ _ 134 rfl (w.heap.size + 1) 9 i0 (.string ⟨#[]⟩) 1 16 Try.underlying134 hi hz0 hz1 hz2 rfl (by decide) _ _ _ rfl (World.ownsRow.alloc Hown.out _) ⟨wr.heap.size, 0, none⟩ 1 1 [.string (inpNm k)] rfl rfl ?c1 ?c2 ?c3 ?c4 ?c5 ?_))
        case c1 => exact news_one _ _
        case c2 => intro u hu; simp at hu; subst hu; rfl
        case c3 => have := HL.out; have h := List.length_take_le k inpN; unfold maxLen; omega
        case c4 => have := HL.out; have h := List.length_take_le k inpN; omega
        case c5 => simp; omega
        intro v' w1 hown' hgrow _
        have B1 := Lib.hid ((Hbel.out.alloc (by simpa using hsz) _).grown hgrow (by simp; omega) (fun k hk => (Hown.out.lt k hk).1))
        have H1 := Lib.hid (StrRow.push (s := inpNm k) (l := namesOf (inpN.take k) dim) hown' rfl (by simp))
        clear hown' hgrow
        go_wp2
        go_roundw
        case rel => exact ⟨k + 1, by omega, by go_num, by rw [HT.out, if_pos HD.out]; exact H1.out, B1.out⟩
        case measure => simp [intOf]; omega
      · have HD := Lib.hid (fun h => hd (hd0.trans h))
        have hd1 : (x == dim) = false := by simpa using hd
        clear hd0
        go_wp2_with (go_at_call 91; refine (Input5_any _ _).mono ?_; rintro e w' ⟨rfl, rfl⟩; simp only [HX.out])
        go_roundw
        case rel => exact ⟨k + 1, by omega, by go_num, by rw [HT.out, if_neg HD.out, List.append_nil]; exact Hown.out, Hbel.out⟩
        case measure => simp [intOf]; omega
    · obtain rfl : k = 11 := by omega
      go_wp2
      go_returns
      exact ⟨_, rfl, ownsRow_base Hown.out (by omega), .of_below ((((Below.refl _ _).alloc (Nat.le_refl _) _)).trans (Hbel.out.mono (by omega)))⟩
end Go.Proofs.Ytldelkkeimlfcaa
