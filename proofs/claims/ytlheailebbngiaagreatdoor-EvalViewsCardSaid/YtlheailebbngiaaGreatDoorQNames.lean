/- The names of the inputs. -/
import Derived.Test.YtlheailebbngiaaGreatDoorQSrc
import Derived.Test.YtlheailebbngiaaGreatDoorQWord
import Derived.Test.YtlheailebbngiaaGreatDoorQFrP
import Derived.Test.YtlheailebbngiaaGreatDoorQForm
import Derived.Test.YtlheailebbngiaaGreatDoorQFrWd
import Derived.Test.YtlheailebbngiaaGreatDoorQBase
set_option linter.all false
namespace Go.Proofs.YtlheailebbngiaaGreatDoor
open Go.RowKit

/-- The dimension of an input; 0: there is none of this name. -/
def inpD (l : List UInt8) : Int :=
  if l = [97, 103, 101] ∨ l = [121, 101, 97, 114] ∨ l = [99, 104, 105, 108, 100, 114, 101, 110] then 2
  else if l = [105, 110, 115, 117, 114, 101, 100] ∨ l = [119, 111, 114, 107, 101, 100] ∨ l = [118, 111, 108, 117, 110, 116, 97, 114, 121] ∨ l = [115, 101, 114, 118, 105, 99, 101] ∨ l = [101, 113, 117, 97, 116, 101, 100] ∨ l = [114, 97, 105, 115, 105, 110, 103] ∨ l = [114, 101, 115, 105, 100, 101, 110, 116] then 3
  else if l = [98, 97, 115, 101] then 4 else 0
theorem ret_dimok {a b : Int} {p q : Bool} (h : a = b) (g : p = q) : Ending.returned (.tuple #[.int .i64 a, .bool p]) = .returned (.tuple #[.int .i64 b, .bool q]) := by rw [h, g]
set_option maxHeartbeats 1000000 in
theorem Input5_any (s : ByteArray) (w : World) : Calls Tryz.prog 49 #[.string s] w fun e w' => e = .returned (.tuple #[.int .i64 (inpD s.toList), .bool (decide (inpD s.toList ≠ 0))]) ∧ w = w' := by
  go_enter Tryz.func49, Tryz.ntmps49
  go_wp2
  all_goals first
    | (exfalso; simp_all; done)
    | (go_returns
       exact ⟨ret_dimok (by simp_all [inpD]) (by simp_all [inpD]), rfl⟩)

def inpA : Array Value := #[.string ⟨#[97, 103, 101]⟩, .string ⟨#[121, 101, 97, 114]⟩, .string ⟨#[99, 104, 105, 108, 100, 114, 101, 110]⟩, .string ⟨#[105, 110, 115, 117, 114, 101, 100]⟩, .string ⟨#[119, 111, 114, 107, 101, 100]⟩, .string ⟨#[118, 111, 108, 117, 110, 116, 97, 114, 121]⟩, .string ⟨#[115, 101, 114, 118, 105, 99, 101]⟩, .string ⟨#[101, 113, 117, 97, 116, 101, 100]⟩, .string ⟨#[114, 97, 105, 115, 105, 110, 103]⟩, .string ⟨#[114, 101, 115, 105, 100, 101, 110, 116]⟩, .string ⟨#[98, 97, 115, 101]⟩]
def inpNm (k : Nat) : ByteArray := (inpN.getD k (ByteArray.empty, 0)).1
theorem inpA_get (k : Nat) (h : k < 11) : inpA[k]? = some (.string (inpNm k)) := by
  obtain rfl | rfl | rfl | rfl | rfl | rfl | rfl | rfl | rfl | rfl | rfl : k = 0 ∨ k = 1 ∨ k = 2 ∨ k = 3 ∨ k = 4 ∨ k = 5 ∨ k = 6 ∨ k = 7 ∨ k = 8 ∨ k = 9 ∨ k = 10 := by omega
  all_goals rfl
theorem inpD_get (k : Nat) (h : k < 11) : inpD (inpNm k).toList = (inpN.getD k (ByteArray.empty, 0)).2 := by
  obtain rfl | rfl | rfl | rfl | rfl | rfl | rfl | rfl | rfl | rfl | rfl : k = 0 ∨ k = 1 ∨ k = 2 ∨ k = 3 ∨ k = 4 ∨ k = 5 ∨ k = 6 ∨ k = 7 ∨ k = 8 ∨ k = 9 ∨ k = 10 := by omega
  all_goals decide +kernel
theorem namesOf_take (l : List (ByteArray × Int)) (k : Nat) (dim : Int) (h : k < l.length) :
    namesOf (l.take (k + 1)) dim = namesOf (l.take k) dim ++ if (l.getD k (ByteArray.empty, 0)).2 = dim then [(l.getD k (ByteArray.empty, 0)).1] else [] := by
  rw [List.take_succ_eq_append_getElem h, namesOf_append, List.getD_eq_getElem?_getD, List.getElem?_eq_getElem h]
  congr 1
  simp only [namesOf, Option.getD_some]
  by_cases c : l[k].2 = dim <;> simp [c]
set_option maxHeartbeats 1000000 in
theorem Names_any (w : World) : Calls Tryz.prog 16 #[] w fun e w' => e = .returned (.slice (some ⟨w.heap.size, 0, none⟩) 11 11) ∧ w.alloc (.cells inpA 9) = w' := by
  go_enter Tryz.func16, Tryz.ntmps16
  go_wp2
  go_returns
  exact ⟨rfl, rfl⟩

theorem infoStr : (Tryz.prog.info? 9).map (fun i => (i.zero, i.size, i.bytes)) = some (some (.string ⟨#[]⟩), 1, 16) := by kernel_rfl
/-- v owns a row of texts. -/
def StrRow (base : Nat) (w : World) (v : Value) (l : List ByteArray) : Prop := w.ownsRow base 9 1 v l.length (l.map Value.string)
def InpPost (dim : Int) (w : World) (e : Ending) (w' : World) : Prop := ∃ v, e = .returned v ∧ StrRow w.heap.size w' v (namesOf inpN dim) ∧ w.Grows w'
theorem StrRow.push {base : Nat} {w : World} {v : Value} {l : List ByteArray} {s : ByteArray} {n : Nat} {xs : List Value} (h : w.ownsRow base 9 1 v n xs) (hn : n = l.length + 1) (hx : xs = l.map Value.string ++ [.string s]) : StrRow base w v (l ++ [s]) := by
  subst hn hx
  unfold StrRow
  simpa using h
theorem news_one (w : World) (u : Value) : ∀ (j : Nat) (v : Value), [u][j]? = some v → (w.alloc (.cells #[u] 9)).cell? ((⟨w.heap.size, 0, none⟩ : Addr).add j) = some v := by
  intro j v hj
  match j, hj with
  | 0, hj =>
    simp at hj; subst hj
    rw [addr_add, World.cell?_alloc_at _ _ _ _ rfl]; rfl
theorem ownsRow_base {w : World} {base base' : Nat} {e : TypeId} {size : Nat} {v : Value} {n : Nat} {xs : List Value} (h : w.ownsRow base e size v n xs) (hb : base' ≤ base) : w.ownsRow base' e size v n xs := by
  obtain ⟨h1, h2⟩ := h
  refine ⟨h1, h2.imp id ?_⟩
  rintro ⟨g, cap, cur, hv, hg, r⟩
  exact ⟨g, cap, cur, hv, by omega, r⟩
set_option maxHeartbeats 1000000 in
theorem inputs_any (dim : Int) (w : World) : Calls Tryz.prog 106 #[.int .i64 dim] w (InpPost dim w) := by
  obtain ⟨i0, hi, hz0, hz1, hz2⟩ := info_parts infoStr
  have hN : inpN.length = 11 := rfl
  go_enter Tryz.func106, Tryz.ntmps106
  go_wp2_with (go_at_call 16; refine (Names_any _).mono ?_; rintro e w' ⟨rfl, rfl⟩)
  go_loopw [4, 5] (fun v4 v5 wr => ∃ k : Nat, k ≤ 11 ∧ v5 = .int .i64 k ∧ StrRow (w.heap.size + 1) wr v4 (namesOf (inpN.take k) dim) ∧ Below (w.heap.size + 1) (w.alloc (.cells inpA 9)) wr) (fun _ v5 _ => 11 - (intOf v5).toNat)
  case atStart => exact ⟨0, by omega, rfl, World.ownsRow_nil _ _ _ _, .refl _ _⟩
  case round =>
    obtain ⟨k, hk, rfl, hown, hbel⟩ := hrel
    have Hown := Lib.hid hown
    have Hbel := Lib.hid hbel
    have hsz : w.heap.size + 1 ≤ wr.heap.size := by have := hbel.size; simpa using this
    clear hown
    by_cases hlt : k < 11
    · have hc : wr.cell? ⟨w.heap.size, k, none⟩ = some (.string (inpNm k)) := by
        rw [hbel.cell (by simp), World.cell?_alloc_at _ _ _ _ rfl]; exact inpA_get k hlt
      have hlt1 : (k : Int) < 11 := by omega
      have hd0 := inpD_get k hlt
      generalize hx : inpD (inpNm k).toList = x at hd0
      have HX := Lib.hid hx
      clear hx
      have HT := Lib.hid (namesOf_take inpN k dim (by omega))
      have HL := Lib.hid (namesOf_le (inpN.take k) dim)
      clear hbel
      by_cases hd : x = dim
      · have HD := Lib.hid (hd0.symm.trans hd)
        clear hd0
        go_wp2_with (first
          | (go_at_call 49; refine (Input5_any _ _).mono ?_; rintro e w' ⟨rfl, rfl⟩; simp only [HX.out])
          | (at_builtin; refine wpList_append_own _ rfl _ _ 31 rfl (w.heap.size + 1) 9 i0 (.string ⟨#[]⟩) 1 16 Tryz.underlying31 hi hz0 hz1 hz2 rfl (by decide) _ _ _ rfl (World.ownsRow.alloc Hown.out _) ⟨wr.heap.size, 0, none⟩ 1 1 [.string (inpNm k)] rfl rfl ?c1 ?c2 ?c3 ?c4 ?c5 ?_))
        case c1 => exact news_one _ _
        case c2 => intro u hu; simp at hu; subst hu; rfl
        case c3 => have := HL.out; have h := List.length_take_le k inpN; unfold maxLen; omega
        case c4 => have := HL.out; have h := List.length_take_le k inpN; omega
        case c5 => simp; omega
        intro v' w1 hown' hgrow _
        have B1 := Lib.hid ((Hbel.out.alloc (by simpa using hsz) _).grown hgrow (by simp; omega) (fun k hk => (Hown.out.lt k hk).1))
        have H1 := Lib.hid (StrRow.push (s := inpNm k) (l := namesOf (inpN.take k) dim) hown' rfl (by simp))
        clear hown' hgrow
        go_wp2
        go_roundw
        case rel => exact ⟨k + 1, by omega, by go_num, by rw [HT.out, if_pos HD.out]; exact H1.out, B1.out⟩
        case measure => simp [intOf]; omega
      · have HD := Lib.hid (fun h => hd (hd0.trans h))
        have hd1 : (x == dim) = false := by simpa using hd
        clear hd0
        go_wp2_with (go_at_call 49; refine (Input5_any _ _).mono ?_; rintro e w' ⟨rfl, rfl⟩; simp only [HX.out])
        go_roundw
        case rel => exact ⟨k + 1, by omega, by go_num, by rw [HT.out, if_neg HD.out, List.append_nil]; exact Hown.out, Hbel.out⟩
        case measure => simp [intOf]; omega
    · obtain rfl : k = 11 := by omega
      go_wp2
      go_returns
      exact ⟨_, rfl, ownsRow_base Hown.out (by omega), .of_below ((((Below.refl _ _).alloc (Nat.le_refl _) _)).trans (Hbel.out.mono (by omega)))⟩
end Go.Proofs.YtlheailebbngiaaGreatDoor
/- Views, values, dimensions and the evaluation of expressions as plain functions; a typed expression has a valid value of its dimension, or error 2 or 3. No program in sight. -/
namespace Go.Proofs.YtlheailebbngiaaGreatDoor

/-- A value: its dimension, its truth, its number. -/
structure Val where
  dim : Int
  yes : Bool
  n : Int
  d : Int
namespace Val
def zero : Val := ⟨0, false, 0, 0⟩
def num (m n d : Int) : Val := ⟨m, false, n, d⟩
def truth (b : Bool) : Val := ⟨1, b, 0, 0⟩
def ok (x : Val) : Bool := if x.dim = 1 then decide (x.n = 0 ∧ x.d = 0) else decide (2 ≤ x.dim ∧ x.dim ≤ 4) && !x.yes && vfrac x.n x.d
end Val
/-- A view. -/
structure Vw where
  age : Int
  year : Int
  children : Int
  insured : Int
  worked : Int
  voluntary : Int
  service : Int
  equated : Int
  raising : Int
  resident : Int
  bn : Int
  bd : Int
  years : List Int
def yearsOk (l : List Int) : Bool := decide (l.length ≤ 200) && l.all fun x => decide (0 ≤ x ∧ x ≤ 1000000000000)
def daysOk (z : Int) : Bool := decide (0 ≤ z ∧ z ≤ 73049)
def Vw.ok (v : Vw) : Bool := decide (0 ≤ v.age ∧ v.age ≤ 199 ∧ 1900 ≤ v.year ∧ v.year ≤ 2099 ∧ 0 ≤ v.children ∧ v.children ≤ 99) &&
  (daysOk v.insured && daysOk v.worked && daysOk v.voluntary && daysOk v.service && daysOk v.equated && daysOk v.raising && daysOk v.resident) &&
  (vfrac v.bn v.bd && decide (0 ≤ v.bn ∧ v.bn ≤ 1000000000000 * v.bd)) && yearsOk v.years
/-- The number behind an input's name. -/
def Vw.numF (v : Vw) (s : List UInt8) : Int × Int :=
  if s = [98, 97, 115, 101] then (v.bn, v.bd)
  else if s = [97, 103, 101] then (v.age, 1) else if s = [121, 101, 97, 114] then (v.year, 1) else if s = [99, 104, 105, 108, 100, 114, 101, 110] then (v.children, 1)
  else if s = [105, 110, 115, 117, 114, 101, 100] then (v.insured, 1) else if s = [119, 111, 114, 107, 101, 100] then (v.worked, 1) else if s = [118, 111, 108, 117, 110, 116, 97, 114, 121] then (v.voluntary, 1)
  else if s = [115, 101, 114, 118, 105, 99, 101] then (v.service, 1) else if s = [101, 113, 117, 97, 116, 101, 100] then (v.equated, 1) else if s = [114, 97, 105, 115, 105, 110, 103] then (v.raising, 1)
  else if s = [114, 101, 115, 105, 100, 101, 110, 116] then (v.resident, 1) else (0, 1)
def inputV (v : Vw) (s : ByteArray) : Option Val := if inpD s.toList = 0 ∨ v.ok = false then none else some (.num (inpD s.toList) (v.numF s.toList).1 (v.numF s.toList).2)

/-- The best years: all in descending order, the first n added up. -/
def insD (x : Int) : List Int → List Int
  | [] => [x]
  | y :: r => if x ≤ y then y :: insD x r else x :: y :: r
def sortD (l : List Int) : List Int := l.foldl (fun a x => insD x a) []
def bestS (l : List Int) (n : Int) : Int := ((sortD l).take n.toNat).sum
def bestF (l : List Int) (n : Int) : Int × Int × Int := if n < 1 ∨ 45 < n ∨ yearsOk l = false then (0, 0, 1) else (mkN (bestS l n) n, mkD (bestS l n) n, mkE (bestS l n) n)

/-- The last one of a name. -/
def lastN {α : Type} (env : List (ByteArray × α)) (s : ByteArray) : Option α := (env.reverse.find? fun p => decide (p.1 = s)).map Prod.snd

/-- The dimension of an operation's result; 0: it is not permitted. -/
def resD (op : Int) (d : List Int) : Int :=
  let a := d.getD 0 0; let b := d.getD 1 0; let c := d.getD 2 0
  if op = 5 then (if a = 1 then 1 else 0)
  else if op = 4 ∨ op = 6 then (if a ≠ 1 then a else 0)
  else if op = 7 ∨ op = 8 ∨ op = 19 ∨ op = 20 then (if a = b ∧ a ≠ 1 then a else 0)
  else if op = 9 then (if a = 2 ∧ b ≠ 1 then b else if b = 2 ∧ a ≠ 1 then a else 0)
  else if op = 10 then (if b = 2 ∧ a ≠ 1 then a else if a = b ∧ a ≠ 1 then 2 else 0)
  else if op = 17 ∨ op = 18 then (if a = 1 ∧ b = 1 then 1 else 0)
  else if op = 21 then (if a = 1 ∧ b = c then b else 0)
  else if a = b ∧ a ≠ 1 then 1 else 0
def inferN (env : List (ByteArray × Int)) (s : ByteArray) : Int × Int :=
  if inpD s.toList ≠ 0 then (inpD s.toList, 0) else match lastN env s with | some m => (m, 0) | none => (0, 5)
def infNode (op m : Int) (nm : Int × Int) (r : List Int × Int) : Int × Int :=
  if op = 1 then (m, 0) else if op = 3 then (4, 0) else if op = 2 then nm
  else if r.2 ≠ 0 then (0, r.2) else if resD op r.1 = 0 then (0, 6) else (resD op r.1, 0)
mutual
def inferF (env : List (ByteArray × Int)) : Ex → Int × Int
  | .mk op _ _ m s l => infNode op m (inferN env s) (infersF env l)
def infersF (env : List (ByteArray × Int)) : List Ex → List Int × Int
  | [] => ([], 0)
  | e :: r => if (inferF env e).2 ≠ 0 then ([], (inferF env e).2) else if (infersF env r).2 ≠ 0 then ([], (infersF env r).2) else ((inferF env e).1 :: (infersF env r).1, 0)
end

def numR (m : Int) (r : Int × Int × Int) : Val × Int := if r.2.2 = 0 then (.num m r.1 r.2.1, 0) else (.zero, r.2.2)
def cmpB (op c : Int) : Bool := if op = 11 then decide (c < 0) else if op = 12 then decide (c ≤ 0) else if op = 13 then decide (c = 0) else if op = 14 then decide (c ≠ 0) else if op = 15 then decide (c > 0) else decide (c ≥ 0)
def op1 (op : Int) (a : Val) : Val × Int := if op = 5 then (.truth (!a.yes), 0) else if op = 6 then numR a.dim ((floorF a.n a.d).1, 1, (floorF a.n a.d).2) else numR a.dim (negF a.n a.d)
def op2 (op : Int) (a b : Val) : Val × Int :=
  if op = 7 then numR a.dim (addF a.n a.d b.n b.d) else if op = 8 then numR a.dim (subF a.n a.d b.n b.d)
  else if op = 9 then numR (resD 9 [a.dim, b.dim]) (mulF a.n a.d b.n b.d) else if op = 10 then numR (resD 10 [a.dim, b.dim]) (divF a.n a.d b.n b.d)
  else if op = 19 then (if cmpI a.n a.d b.n b.d ≤ 0 then .num a.dim a.n a.d else .num a.dim b.n b.d, 0)
  else if op = 20 then (if 0 ≤ cmpI a.n a.d b.n b.d then .num a.dim a.n a.d else .num a.dim b.n b.d, 0)
  else (.truth (cmpB op (cmpI a.n a.d b.n b.d)), 0)
def nameF (v : Vw) (env : List (ByteArray × Val)) (s : ByteArray) : Val × Int :=
  match inputV v s with
  | some x => (x, 0)
  | none => match lastN env s with | some x => (x, 0) | none => (.zero, 5)
def valNode (v : Vw) (op n d m : Int) (nm : Val × Int) (rs : List (Val × Int)) : Val × Int :=
  let r0 := rs.getD 0 (.zero, 0); let r1 := rs.getD 1 (.zero, 0); let r2 := rs.getD 2 (.zero, 0)
  if op = 1 then (.num m n d, 0) else if op = 2 then nm else if op = 3 then numR 4 (bestF v.years n)
  else if r0.2 ≠ 0 then (.zero, r0.2)
  else if op = 17 then (if r0.1.yes = true then r1 else r0) else if op = 18 then (if r0.1.yes = true then r0 else r1)
  else if op = 21 then (if r0.1.yes = true then r1 else r2)
  else if op ≤ 6 then op1 op r0.1
  else if r1.2 ≠ 0 then (.zero, r1.2) else op2 op r0.1 r1.1
mutual
def valueF (v : Vw) (env : List (ByteArray × Val)) : Ex → Val × Int
  | .mk op n d m s l => valNode v op n d m (nameF v env s) (valuesF v env l)
def valuesF (v : Vw) (env : List (ByteArray × Val)) : List Ex → List (Val × Int)
  | [] => []
  | e :: r => valueF v env e :: valuesF v env r
end
theorem inferF_eq (env : List (ByteArray × Int)) (e : Ex) : inferF env e = infNode e.op e.dim (inferN env e.name) (infersF env e.args) := by cases e; rw [inferF]; rfl
theorem valueF_eq (v : Vw) (env : List (ByteArray × Val)) (e : Ex) : valueF v env e = valNode v e.op e.num e.den e.dim (nameF v env e.name) (valuesF v env e.args) := by cases e; rw [valueF]; rfl
def dimsOf (env : List (ByteArray × Val)) : List (ByteArray × Int) := env.map fun p => (p.1, p.2.dim)

theorem Val.num_ok {m n d : Int} (hm : 2 ≤ m ∧ m ≤ 4) (h : vfrac n d = true) : (Val.num m n d).ok = true := by
  unfold Val.ok Val.num
  rw [if_neg (show ¬ m = 1 by omega)]
  show (decide (2 ≤ m ∧ m ≤ 4) && !false && vfrac n d) = true
  rw [h, decide_eq_true hm]; rfl
/-- A result: a valid value of the dimension, or error 2 or 3. -/
def okR (m : Int) (r : Val × Int) : Prop := (r.2 = 0 ∧ r.1.ok = true ∧ r.1.dim = m) ∨ (r.1 = .zero ∧ (r.2 = 2 ∨ r.2 = 3))
theorem okR_num {m : Int} {r : Int × Int × Int} (hm : 2 ≤ m ∧ m ≤ 4) (h : okF r) : okR m (numR m r) := by
  unfold numR
  rcases h with ⟨h1, h2⟩ | ⟨-, -, h3⟩
  · rw [if_pos h1]
    refine .inl ⟨rfl, ?_, rfl⟩
    exact Val.num_ok hm h2
  · rw [if_neg (by omega)]
    exact .inr ⟨rfl, h3⟩
theorem okR_truth (b : Bool) : okR 1 (.truth b, 0) := .inl ⟨rfl, by simp [Val.ok, Val.truth], rfl⟩
theorem Val.ok_num {x : Val} (h : x.ok = true) (hd : x.dim ≠ 1) : 2 ≤ x.dim ∧ x.dim ≤ 4 ∧ x.yes = false ∧ vfrac x.n x.d = true := by
  unfold Val.ok at h
  rw [if_neg hd] at h
  simp only [Bool.and_eq_true, decide_eq_true_eq, Bool.not_eq_true'] at h
  exact ⟨h.1.1.1, h.1.1.2, h.1.2, h.2⟩
theorem Val.ok_dim {x : Val} (h : x.ok = true) : 1 ≤ x.dim ∧ x.dim ≤ 4 := by
  by_cases hd : x.dim = 1
  · omega
  · have := Val.ok_num h hd; omega
theorem vfrac_whole {n : Int} (h1 : -1000000000000000 ≤ n) (h2 : n ≤ 1000000000000000) : vfrac n 1 = true := vfrac_of ⟨by omega, by omega, h1, h2⟩ (by simp)
theorem floor_bd {n d : Int} (h : vfrac n d = true) : -1000000000000000 ≤ n / d ∧ n / d ≤ 1000000000000000 := by
  have := vfrac_bd h
  constructor
  · rw [Int.le_ediv_iff_mul_le (by omega)]
    omega
  · have h3 : n / d < 1000000000000001 := Int.ediv_lt_of_lt_mul (by omega) (by omega)
    omega
theorem negF_ok {n d : Int} (h : vfrac n d = true) : okF (negF n d) := by
  unfold negF; rw [if_pos h]; exact .inl ⟨rfl, by rw [vfrac_neg]; exact h⟩
theorem floor_ok {n d : Int} (h : vfrac n d = true) : okF ((floorF n d).1, 1, (floorF n d).2) := by
  unfold floorF; rw [if_pos h]; have := floor_bd h; exact .inl ⟨rfl, vfrac_whole this.1 this.2⟩
theorem op1_ok {op : Int} {x : Val} (h : x.ok = true) (h4 : 4 ≤ op) (h6 : op ≤ 6) (hr : resD op [x.dim] ≠ 0) : okR (resD op [x.dim]) (op1 op x) := by
  obtain rfl | rfl | rfl : op = 4 ∨ op = 5 ∨ op = 6 := by omega
  all_goals simp only [resD, List.getD_cons_zero, op1] at hr ⊢
  · simp at hr ⊢
    have := Val.ok_num h hr.1
    rw [if_neg hr.1]
    exact okR_num ⟨this.1, this.2.1⟩ (negF_ok this.2.2.2)
  · simp at hr ⊢
    rw [if_pos hr]; exact okR_truth _
  · simp at hr ⊢
    have := Val.ok_num h hr.1
    rw [if_neg hr.1]
    exact okR_num ⟨this.1, this.2.1⟩ (floor_ok this.2.2.2)
theorem okR_of {x : Val} (h : x.ok = true) : okR x.dim (x, 0) := .inl ⟨rfl, h, rfl⟩
theorem num_self {x : Val} (h : x.yes = false) : Val.num x.dim x.n x.d = x := by cases x; simp_all [Val.num]
theorem res_mul (a b : Int) : resD 9 [a, b] = if a = 2 ∧ b ≠ 1 then b else if b = 2 ∧ a ≠ 1 then a else 0 := rfl
theorem res_div (a b : Int) : resD 10 [a, b] = if b = 2 ∧ a ≠ 1 then a else if a = b ∧ a ≠ 1 then 2 else 0 := rfl
theorem res_add {op : Int} (a b : Int) (h : op = 7 ∨ op = 8 ∨ op = 19 ∨ op = 20) : resD op [a, b] = if a = b ∧ a ≠ 1 then a else 0 := by
  rcases h with rfl | rfl | rfl | rfl <;> rfl
theorem res_cmp {op : Int} (a b : Int) (h : 11 ≤ op ∧ op ≤ 16) : resD op [a, b] = if a = b ∧ a ≠ 1 then 1 else 0 := by
  obtain rfl | rfl | rfl | rfl | rfl | rfl : op = 11 ∨ op = 12 ∨ op = 13 ∨ op = 14 ∨ op = 15 ∨ op = 16 := by omega
  all_goals rfl
theorem op2_ok {op : Int} {x y : Val} (h : x.ok = true) (g : y.ok = true) (h4 : 7 ≤ op) (h6 : op ≤ 20) (h17 : op ≠ 17) (h18 : op ≠ 18) (hr : resD op [x.dim, y.dim] ≠ 0) : okR (resD op [x.dim, y.dim]) (op2 op x y) := by
  by_cases c : op = 9
  · subst c
    show okR _ (numR (resD 9 [x.dim, y.dim]) (mulF x.n x.d y.n y.d))
    have hx : x.dim ≠ 1 ∧ y.dim ≠ 1 ∧ (resD 9 [x.dim, y.dim] = x.dim ∨ resD 9 [x.dim, y.dim] = y.dim) := by
      rw [res_mul] at hr ⊢
      split at hr <;> rename_i c1
      · rw [if_pos c1]; omega
      · rw [if_neg c1]
        split at hr <;> rename_i c2
        · rw [if_pos c2]; omega
        · exact absurd rfl hr
    have h1 := Val.ok_num h hx.1
    have h2 := Val.ok_num g hx.2.1
    exact okR_num (by omega) (mulF_ok h1.2.2.2 h2.2.2.2)
  · by_cases c' : op = 10
    · subst c'
      show okR _ (numR (resD 10 [x.dim, y.dim]) (divF x.n x.d y.n y.d))
      have hx : x.dim ≠ 1 ∧ y.dim ≠ 1 ∧ (resD 10 [x.dim, y.dim] = x.dim ∨ resD 10 [x.dim, y.dim] = 2) := by
        rw [res_div] at hr ⊢
        split at hr <;> rename_i c1
        · rw [if_pos c1]; omega
        · rw [if_neg c1]
          split at hr <;> rename_i c2
          · rw [if_pos c2]; omega
          · exact absurd rfl hr
      have h1 := Val.ok_num h hx.1
      have h2 := Val.ok_num g hx.2.1
      exact okR_num (by omega) (divF_ok h1.2.2.2 h2.2.2.2)
    · have hx : x.dim = y.dim ∧ x.dim ≠ 1 := by
        by_cases c3 : 11 ≤ op ∧ op ≤ 16
        · rw [res_cmp _ _ c3] at hr
          split at hr <;> rename_i c1
          · exact c1
          · exact absurd rfl hr
        · rw [res_add _ _ (by omega)] at hr
          split at hr <;> rename_i c1
          · exact c1
          · exact absurd rfl hr
      have h1 := Val.ok_num h hx.2
      have h2 := Val.ok_num g (by omega)
      by_cases c3 : 11 ≤ op ∧ op ≤ 16
      · rw [res_cmp _ _ c3, if_pos hx]
        unfold op2
        rw [if_neg (by omega), if_neg (by omega), if_neg (by omega), if_neg (by omega), if_neg (by omega), if_neg (by omega)]
        exact okR_truth _
      · rw [res_add _ _ (by omega), if_pos hx]
        obtain rfl | rfl | rfl | rfl : op = 7 ∨ op = 8 ∨ op = 19 ∨ op = 20 := by omega
        · exact okR_num (by omega) (addF_ok h1.2.2.2 h2.2.2.2)
        · exact okR_num (by omega) (subF_ok h1.2.2.2 h2.2.2.2)
        · show okR _ (if cmpI x.n x.d y.n y.d ≤ 0 then .num x.dim x.n x.d else .num x.dim y.n y.d, 0)
          split
          · exact .inl ⟨rfl, Val.num_ok (by omega) h1.2.2.2, rfl⟩
          · exact .inl ⟨rfl, Val.num_ok (by omega) h2.2.2.2, rfl⟩
        · show okR _ (if 0 ≤ cmpI x.n x.d y.n y.d then .num x.dim x.n x.d else .num x.dim y.n y.d, 0)
          split
          · exact .inl ⟨rfl, Val.num_ok (by omega) h1.2.2.2, rfl⟩
          · exact .inl ⟨rfl, Val.num_ok (by omega) h2.2.2.2, rfl⟩
theorem okR.bad {m : Int} {r : Val × Int} (h : okR m r) (hr : r.2 ≠ 0) : r.1 = .zero ∧ (r.2 = 2 ∨ r.2 = 3) := by
  rcases h with h | h
  · exact absurd h.1 hr
  · exact h
theorem okR.good {m : Int} {r : Val × Int} (h : okR m r) (hr : r.2 = 0) : r.1.ok = true ∧ r.1.dim = m := by
  rcases h with h | h
  · exact h.2
  · omega
theorem node_ok (v : Vw) {op n d m : Int} {nm : Val × Int} {ds : List Int} {rs : List (Val × Int)} (h4 : 4 ≤ op) (h21 : op ≤ 21) (hl : (ds.length : Int) = argsN op)
    (hr : ∀ i, i < ds.length → okR (ds.getD i 0) (rs.getD i (.zero, 0))) (hres : resD op ds ≠ 0) : okR (resD op ds) (valNode v op n d m nm rs) := by
  have hn : 0 < ds.length := by unfold argsN at hl; (repeat' split at hl) <;> omega
  have r0 := hr 0 hn
  unfold valNode
  rw [if_neg (by omega), if_neg (by omega), if_neg (by omega)]
  by_cases e0 : (rs.getD 0 (Val.zero, 0)).2 ≠ 0
  · rw [if_pos e0]
    exact .inr ⟨rfl, (r0.bad e0).2⟩
  rw [if_neg e0]
  have g0 := r0.good (by omega)
  by_cases h6 : op ≤ 6
  · have hl1 : ds.length = 1 := by unfold argsN at hl; rw [if_neg (by omega), if_pos (by omega)] at hl; omega
    obtain ⟨a, rfl⟩ : ∃ a, ds = [a] := List.length_eq_one_iff.1 hl1
    rw [if_neg (by omega), if_neg (by omega), if_neg (by omega), if_pos h6]
    have ha : (rs.getD 0 (Val.zero, 0)).1.dim = a := g0.2
    rw [← ha] at hres ⊢
    exact op1_ok g0.1 h4 h6 hres
  by_cases h20 : op ≤ 20
  · have hl1 : ds.length = 2 := by unfold argsN at hl; rw [if_neg (by omega), if_neg (by omega), if_pos (by omega)] at hl; omega
    obtain ⟨a, b, rfl⟩ : ∃ a b, ds = [a, b] := by
      match ds, hl1 with
      | [a, b], _ => exact ⟨a, b, rfl⟩
    have r1 := hr 1 (by simp)
    have ha : (rs.getD 0 (Val.zero, 0)).1.dim = a := g0.2
    have hb : okR b (rs.getD 1 (Val.zero, 0)) := r1
    by_cases h17 : op = 17
    · subst h17
      have hab : a = 1 ∧ b = 1 := by
        have e : resD 17 [a, b] = if a = 1 ∧ b = 1 then 1 else 0 := rfl
        rw [e] at hres
        split at hres <;> rename_i c1
        · exact c1
        · exact absurd rfl hres
      obtain ⟨rfl, rfl⟩ := hab
      rw [if_pos rfl]
      split
      · exact hb
      · exact r0
    by_cases h18 : op = 18
    · subst h18
      have hab : a = 1 ∧ b = 1 := by
        have e : resD 18 [a, b] = if a = 1 ∧ b = 1 then 1 else 0 := rfl
        rw [e] at hres
        split at hres <;> rename_i c1
        · exact c1
        · exact absurd rfl hres
      obtain ⟨rfl, rfl⟩ := hab
      rw [if_neg (by omega), if_pos rfl]
      split
      · exact r0
      · exact hb
    rw [if_neg h17, if_neg h18, if_neg (by omega), if_neg h6]
    by_cases e1 : (rs.getD 1 (Val.zero, 0)).2 ≠ 0
    · rw [if_pos e1]
      exact .inr ⟨rfl, (hb.bad e1).2⟩
    rw [if_neg e1]
    have g1 := hb.good (by omega)
    rw [← ha, ← g1.2] at hres ⊢
    exact op2_ok g0.1 g1.1 (by omega) h20 h17 h18 hres
  · obtain rfl : op = 21 := by omega
    have hl1 : ds.length = 3 := by simp [argsN] at hl; omega
    obtain ⟨a, b, c, rfl⟩ : ∃ a b c, ds = [a, b, c] := by
      match ds, hl1 with
      | [a, b, c], _ => exact ⟨a, b, c, rfl⟩
    have hb : okR b (rs.getD 1 (Val.zero, 0)) := hr 1 (by simp)
    have hc : okR c (rs.getD 2 (Val.zero, 0)) := hr 2 (by simp)
    have e : resD 21 [a, b, c] = if a = 1 ∧ b = c then b else 0 := rfl
    rw [e] at hres ⊢
    split at hres <;> rename_i c1
    · obtain ⟨rfl, rfl⟩ := c1
      rw [if_pos (⟨rfl, rfl⟩ : (1 : Int) = 1 ∧ b = b), if_neg (by omega), if_neg (by omega), if_pos rfl]
      split
      · exact hb
      · exact hc
    · exact absurd rfl hres
theorem Vw.ok_bd {v : Vw} (h : v.ok = true) : (0 ≤ v.age ∧ v.age ≤ 199 ∧ 1900 ≤ v.year ∧ v.year ≤ 2099 ∧ 0 ≤ v.children ∧ v.children ≤ 99) ∧
    (0 ≤ v.insured ∧ v.insured ≤ 73049 ∧ 0 ≤ v.worked ∧ v.worked ≤ 73049 ∧ 0 ≤ v.voluntary ∧ v.voluntary ≤ 73049 ∧ 0 ≤ v.service ∧ v.service ≤ 73049 ∧ 0 ≤ v.equated ∧ v.equated ≤ 73049 ∧ 0 ≤ v.raising ∧ v.raising ≤ 73049 ∧ 0 ≤ v.resident ∧ v.resident ≤ 73049) ∧
    vfrac v.bn v.bd = true ∧ (0 ≤ v.bn ∧ v.bn ≤ 1000000000000 * v.bd) ∧ yearsOk v.years = true := by
  unfold Vw.ok at h
  obtain ⟨h, e⟩ := Bool.and_eq_true_iff.1 h
  obtain ⟨h, cd⟩ := Bool.and_eq_true_iff.1 h
  obtain ⟨a, b⟩ := Bool.and_eq_true_iff.1 h
  obtain ⟨c, d⟩ := Bool.and_eq_true_iff.1 cd
  have k : ∀ z, daysOk z = true → 0 ≤ z ∧ z ≤ 73049 := fun z hz => of_decide_eq_true hz
  repeat rw [Bool.and_eq_true] at b
  obtain ⟨⟨⟨⟨⟨⟨b1, b2⟩, b3⟩, b4⟩, b5⟩, b6⟩, b7⟩ := b
  have b1 := k _ b1
  have b2 := k _ b2
  have b3 := k _ b3
  have b4 := k _ b4
  have b5 := k _ b5
  have b6 := k _ b6
  have b7 := k _ b7
  exact ⟨of_decide_eq_true a, ⟨b1.1, b1.2, b2.1, b2.2, b3.1, b3.2, b4.1, b4.2, b5.1, b5.2, b6.1, b6.2, b7.1, b7.2⟩, c, of_decide_eq_true d, e⟩
theorem ite_ok {c : Prop} [Decidable c] {a b : Int × Int} (ha : vfrac a.1 a.2 = true) (hb : vfrac b.1 b.2 = true) : vfrac (if c then a else b).1 (if c then a else b).2 = true := by
  by_cases h : c
  · rw [if_pos h]; exact ha
  · rw [if_neg h]; exact hb
theorem Vw.numF_ok {v : Vw} (h : v.ok = true) (s : List UInt8) : vfrac (v.numF s).1 (v.numF s).2 = true := by
  obtain ⟨a, b, c, -, -⟩ := Vw.ok_bd h
  unfold Vw.numF
  refine ite_ok c ?_
  repeat refine ite_ok (vfrac_whole (by show _ ≤ (_ : Int); omega) (by show (_ : Int) ≤ _; omega)) ?_
  exact vfrac_whole (by omega) (by omega)
theorem inpD_bd (s : List UInt8) : inpD s = 0 ∨ (2 ≤ inpD s ∧ inpD s ≤ 4) := by
  unfold inpD
  (repeat' split) <;> simp
theorem inputV_some {v : Vw} {s : ByteArray} {x : Val} (h : inputV v s = some x) : x.ok = true ∧ x.dim = inpD s.toList ∧ inpD s.toList ≠ 0 := by
  unfold inputV at h
  split at h <;> rename_i hc
  · cases h
  · simp only [not_or, Bool.not_eq_false] at hc
    cases h
    have := inpD_bd s.toList
    exact ⟨Val.num_ok (by omega) (Vw.numF_ok hc.2 _), rfl, hc.1⟩
theorem inputV_none {v : Vw} (hv : v.ok = true) {s : ByteArray} (h : inputV v s = none) : inpD s.toList = 0 := by
  unfold inputV at h
  split at h <;> rename_i hc
  · rcases hc with hc | hc
    · exact hc
    · rw [hv] at hc; cases hc
  · cases h
theorem lastN_dims (env : List (ByteArray × Val)) (s : ByteArray) : lastN (dimsOf env) s = (lastN env s).map Val.dim := by
  unfold lastN dimsOf
  rw [← List.map_reverse, List.find?_map]
  simp only [Option.map_map]
  rfl
theorem lastN_mem {env : List (ByteArray × Val)} {s : ByteArray} {x : Val} (h : lastN env s = some x) : ∃ p ∈ env, p.2 = x := by
  unfold lastN at h
  obtain ⟨p, hp, rfl⟩ := Option.map_eq_some_iff.1 h
  exact ⟨p, List.mem_reverse.1 (List.mem_of_find?_eq_some hp), rfl⟩
theorem name_ok {v : Vw} (hv : v.ok = true) {env : List (ByteArray × Val)} (hE : ∀ p ∈ env, p.2.ok = true) {s : ByteArray} (h : (inferN (dimsOf env) s).2 = 0) : okR (inferN (dimsOf env) s).1 (nameF v env s) := by
  unfold inferN at h ⊢
  unfold nameF
  cases hi : inputV v s with
  | some x =>
    obtain ⟨h1, h2, h3⟩ := inputV_some hi
    rw [if_pos h3]
    exact .inl ⟨rfl, h1, h2⟩
  | none =>
    have h0 := inputV_none hv hi
    rw [if_neg (by simpa using h0), lastN_dims] at h ⊢
    cases hx : lastN env s with
    | some x =>
      obtain ⟨p, hp, rfl⟩ := lastN_mem hx
      exact .inl ⟨rfl, hE p hp, rfl⟩
    | none => rw [hx] at h; simp at h
theorem mk_ok {n d : Int} (h : d ≠ 0) : okF (mkN n d, mkD n d, mkE n d) := by
  unfold mkN mkD mkE
  rw [if_neg h, if_neg h, if_neg h]
  rcases lowE_cases n.natAbs d.natAbs with e | e
  · exact .inl ⟨e, low_ok _ (by omega) e⟩
  · have h3 := low_bad (decide (n < 0) != decide (d < 0)) (show lowE n.natAbs d.natAbs ≠ 0 by omega)
    exact .inr ⟨h3.1, h3.2, .inl e⟩
theorem best_ok {l : List Int} {n : Int} (h1 : 1 ≤ n) (h2 : n ≤ 45) (h : yearsOk l = true) : okF (bestF l n) := by
  unfold bestF
  rw [if_neg (by simp [h]; omega)]
  exact mk_ok (by omega)
theorem decOk_bd {n d m : Int} (h : decOk n d m = true) : vfrac n d = true ∧ 2 ≤ m ∧ m ≤ 4 := by
  simp only [decOk, Bool.and_eq_true, decide_eq_true_eq] at h
  exact ⟨h.1.1.1.1.1, h.1.1.2, h.1.2⟩
theorem infers_len (env : List (ByteArray × Int)) (l : List Ex) (h : (infersF env l).2 = 0) : (infersF env l).1.length = l.length := by
  induction l with
  | nil => simp [infersF]
  | cons e r ih =>
    rw [infersF] at h ⊢
    split at h <;> rename_i c1
    · exact absurd h c1
    · split at h <;> rename_i c2
      · exact absurd h c2
      · rw [if_neg c1, if_neg c2]
        simp [ih (by omega)]
mutual
/-- A typed expression over a valid view has a valid value of its dimension, or error 2 or 3. -/
theorem value_ok {v : Vw} (hv : v.ok = true) {env : List (ByteArray × Val)} (hE : ∀ p ∈ env, p.2.ok = true) : ∀ e : Ex, formedB e = true → (inferF (dimsOf env) e).2 = 0 → okR (inferF (dimsOf env) e).1 (valueF v env e)
  | .mk op n d m s l => by
    intro hf hi
    rw [formedB, Bool.and_eq_true, decide_eq_true_eq] at hf
    rw [inferF] at hi ⊢
    rw [valueF]
    obtain ⟨ha, hf⟩ := hf
    unfold infNode at hi ⊢
    by_cases c1 : op = 1
    · subst c1
      rw [if_pos rfl] at hf
      simp only [Bool.and_eq_true] at hf
      have := decOk_bd hf.1
      exact .inl ⟨rfl, Val.num_ok this.2 this.1, rfl⟩
    rw [if_neg c1] at hi hf ⊢
    by_cases c2 : op = 2
    · subst c2
      exact name_ok hv hE hi
    rw [if_neg c2] at hf
    by_cases c3 : op = 3
    · subst c3
      rw [if_pos rfl] at hf
      simp only [Bool.and_eq_true, decide_eq_true_eq] at hf
      show okR 4 (numR 4 (bestF v.years n))
      exact okR_num (by omega) (best_ok hf.1.2 hf.2 (Vw.ok_bd hv).2.2.2.2)
    rw [if_neg c3] at hf
    rw [if_neg c3, if_neg c2] at hi ⊢
    simp only [Bool.and_eq_true] at hf
    split at hi <;> rename_i c4
    · exact absurd hi c4
    rw [if_neg c4]
    split at hi <;> rename_i c5
    · simp at hi
    rw [if_neg c5]
    have hlen := infers_len (dimsOf env) l (by omega)
    have hop : 4 ≤ op ∧ op ≤ 21 := by unfold argsN at ha; (repeat' split at ha) <;> omega
    exact node_ok v hop.1 hop.2 (by rw [hlen]; exact ha) (fun i hi => values_ok hv hE l hf.1 (by omega) i (by omega)) c5
theorem values_ok {v : Vw} (hv : v.ok = true) {env : List (ByteArray × Val)} (hE : ∀ p ∈ env, p.2.ok = true) : ∀ l : List Ex, formedsB l = true → (infersF (dimsOf env) l).2 = 0 →
    ∀ i, i < l.length → okR ((infersF (dimsOf env) l).1.getD i 0) ((valuesF v env l).getD i (.zero, 0))
  | [] => by intro _ _ i hi; simp at hi
  | e :: r => by
    intro hf h i hi
    rw [formedsB, Bool.and_eq_true] at hf
    rw [infersF] at h ⊢
    rw [valuesF]
    split at h <;> rename_i c1
    · exact absurd h c1
    split at h <;> rename_i c2
    · exact absurd h c2
    rw [if_neg c1, if_neg c2]
    cases i with
    | zero => exact value_ok hv hE e hf.1 (by omega)
    | succ i => exact values_ok hv hE r hf.2 (by omega) i (by simpa using hi)
end
end Go.Proofs.YtlheailebbngiaaGreatDoor
/- Negatives and products of fractions, in both packages. -/
namespace Go.Proofs.YtlheailebbngiaaGreatDoor
open Go.RowKit
theorem Calls.quietG2 {P : Program} {f : FuncId} {args : Array Value} {W : World} {b0 bs : Array Obj} {d0 d : Nat} {v : Value}
    (h : Calls P f args (W.grow (b0 ++ bs) d) fun e w' => e = .returned v ∧ (W.grow (b0 ++ bs) d).Grows w') : Calls P f args (W.grow (b0 ++ bs) d) fun e w'' => e = .returned v ∧ ∃ g : Growth, w'' = (W.grow b0 d0).grow g.bs g.d :=
  h.mono fun _ _ ⟨he, bs', d', hw⟩ => ⟨he, ⟨bs ++ bs', d'⟩, by rw [hw, World.grow_grow, World.grow_grow, Array.append_assoc]⟩
def frV (r : Int × Int × Int) : Value := .tuple #[.agg #[.int .i64 r.1, .int .i64 r.2.1], .int .i64 r.2.2]
set_option maxHeartbeats 1000000 in
theorem Neg1_any (n d : Int) (w : World) (h1 : -9223372036854775808 ≤ n) (h2 : n ≤ 9223372036854775807) (h3 : -9223372036854775808 ≤ d) (h4 : d ≤ 9223372036854775807) :
    Calls Tryz.prog 149 #[.agg #[.int .i64 n, .int .i64 d]] w fun e w' => e = .returned (frV (negF n d)) ∧ w.Grows w' := by
  have hv := Lib.hid (fun w => Valid1_any n d w h1 h2 h3 h4)
  generalize hx : vfrac n d = b at *
  cases b
  · have HR := Lib.hid (show negF n d = (0, 0, 1) by unfold negF; rw [hx]; rfl)
    clear hx
    go_enter Tryz.func149, Tryz.ntmps149
    go_wp2_with fail
    refine (hv.out _).mono ?_
    rintro e w' ⟨rfl, bs, dr, rfl⟩
    clear hv
    go_wp2_with fail
    go_returns
    exact ⟨by rw [HR.out]; rfl, .of_below (by (exact belB))⟩
  · have HR := Lib.hid (show negF n d = (-n, d, 0) by unfold negF; rw [hx]; rfl)
    obtain ⟨k1, k2, k3, k4⟩ := vfrac_bd hx
    clear hx
    go_enter Tryz.func149, Tryz.ntmps149
    go_wp2_with fail
    refine (hv.out _).mono ?_
    rintro e w' ⟨rfl, bs, dr, rfl⟩
    clear hv
    go_wp2_with fail
    go_returns
    exact ⟨by rw [HR.out]; rfl, .of_below (by (exact belB))⟩
set_option maxHeartbeats 1000000 in
theorem Neg2_any (n d : Int) (w : World) (h1 : -9223372036854775808 ≤ n) (h2 : n ≤ 9223372036854775807) (h3 : -9223372036854775808 ≤ d) (h4 : d ≤ 9223372036854775807) :
    Calls Tryz.prog 142 #[.agg #[.int .i64 n, .int .i64 d]] w fun e w' => e = .returned (frV (negF n d)) ∧ w.Grows w' := by
  have hv := Lib.hid (fun w => Valid2_any n d w h1 h2 h3 h4)
  generalize hx : vfrac n d = b at *
  cases b
  · have HR := Lib.hid (show negF n d = (0, 0, 1) by unfold negF; rw [hx]; rfl)
    clear hx
    go_enter Tryz.func142, Tryz.ntmps142
    go_wp2_with fail
    refine (hv.out _).mono ?_
    rintro e w' ⟨rfl, bs, dr, rfl⟩
    clear hv
    go_wp2_with fail
    go_returns
    exact ⟨by rw [HR.out]; rfl, .of_below (by (exact belB))⟩
  · have HR := Lib.hid (show negF n d = (-n, d, 0) by unfold negF; rw [hx]; rfl)
    obtain ⟨k1, k2, k3, k4⟩ := vfrac_bd hx
    clear hx
    go_enter Tryz.func142, Tryz.ntmps142
    go_wp2_with fail
    refine (hv.out _).mono ?_
    rintro e w' ⟨rfl, bs, dr, rfl⟩
    clear hv
    go_wp2_with fail
    go_returns
    exact ⟨by rw [HR.out]; rfl, .of_below (by (exact belB))⟩

theorem gcdI_nat (a b : Nat) : gcdI a b = (Nat.gcd a b : Nat) := by unfold gcdI; simp
theorem frV_wit (b : Bool) (p q : Nat) : witV b (hiW p) (loW p) (hiW q) (loW q) = frV (if 1000000000000000 < p ∨ 1000000000 < q then (0, 0, 2) else (if b then -(p : Int) else p, q, 0)) := by
  unfold witV hiW loW
  by_cases c : 1000000000000000 < p ∨ 1000000000 < q
  · rw [if_pos c, if_pos (by
      by_cases ha : p / 18446744073709551616 = 0
      · by_cases hb : q / 18446744073709551616 = 0
        · omega
        · right; right; left; simp; omega
      · left; simp; omega)]
    rfl
  · have ha : p / 18446744073709551616 = 0 := by omega
    have hb : q / 18446744073709551616 = 0 := by omega
    have hc : p % 18446744073709551616 = p := by omega
    have hd : q % 18446744073709551616 = q := by omega
    rw [if_neg c, if_neg (by rw [ha, hb, hc, hd]; simp; omega), hc, hd]
    rfl
theorem quo_u64 {a g : Int} (h0 : 0 ≤ a) (h1 : a < 18446744073709551616) (hg : 1 ≤ g) : IntKind.u64.wrap (a.tdiv g) = a / g := by
  rw [Int.tdiv_eq_ediv_of_nonneg h0]
  have h2 := Int.ediv_nonneg h0 (show 0 ≤ g by omega)
  have h3 : a / g ≤ a := Int.ediv_le_self g h0
  exact IntWalk.u64_in _ (by omega)
set_option maxHeartbeats 2000000 in
theorem quotient2_core (neg : Bool) (a b c d g h H L K M n1 n2 n3 : Int) (w : World) (g0 : (g == 0) = false) (h0 : (h == 0) = false) (g1 : 1 ≤ g) (hh1 : 1 ≤ h)
    (a0 : 0 ≤ a) (b0 : 0 ≤ b) (c0 : 0 ≤ c) (d0 : 0 ≤ d) (a1 : a < 18446744073709551616) (b1 : b < 18446744073709551616) (c1 : c < 18446744073709551616) (d1 : d < 18446744073709551616)
    (G1 : Hid (∀ w, Calls Tryz.prog 94 #[.int .u64 a, .int .u64 d] w fun e w' => e = .returned (.int .u64 g) ∧ w.Grows w'))
    (G2 : Hid (∀ w, Calls Tryz.prog 94 #[.int .u64 c, .int .u64 b] w fun e w' => e = .returned (.int .u64 h) ∧ w.Grows w'))
    (T1 : Hid (∀ w, Calls Tryz.prog 183 #[.int .u64 (a / g), .int .u64 (c / h)] w fun e w' => e = .returned (.agg #[.int .u64 H, .int .u64 L]) ∧ w.Grows w'))
    (T2 : Hid (∀ w, Calls Tryz.prog 183 #[.int .u64 (b / h), .int .u64 (d / g)] w fun e w' => e = .returned (.agg #[.int .u64 K, .int .u64 M]) ∧ w.Grows w'))
    (W : Hid (∀ w, Calls Tryz.prog 99 #[.bool neg, .agg #[.int .u64 H, .int .u64 L], .agg #[.int .u64 K, .int .u64 M]] w fun e w' => e = .returned (.tuple #[.agg #[.int .i64 n1, .int .i64 n2], .int .i64 n3]) ∧ w.Grows w')) :
    Calls Tryz.prog 189 #[.bool neg, .int .u64 a, .int .u64 b, .int .u64 c, .int .u64 d] w fun e w' => e = .returned (.tuple #[.agg #[.int .i64 n1, .int .i64 n2], .int .i64 n3]) ∧ w.Grows w' := by
  go_enter Tryz.func189, Tryz.ntmps189
  go_wp2_with (first | (go_at_call 94; (with_reducible refine (G1.out _).mono ?_); rintro e w' ⟨rfl, bs, dr, rfl⟩; clear G1) | (go_at_call 94; (with_reducible refine (G2.out _).mono ?_); rintro e w' ⟨rfl, bs2, dr2, rfl⟩; clear G2))
  have gz : ¬ g = 0 := by omega
  have hz : ¬ h = 0 := by omega
  refine TG.begin 19 (fun _ => True) (by kernel_rfl) (by kernel_rfl) trivial (fun hS => ?_)
  refine TG.takeV (i := 0) (v := ?_) rfl (by kernel_rfl) (by kernel_rfl) (by kernel_rfl) (by decide) (fun _ _ _ h => h) rfl hS ?_ ?_
  rotate_left
  focus
    intro wS hSw
    (try dsimp only at hSw)
    go_simp
    rfl
  (try simp only [nS])
  refine TG.takeV (i := 1) (v := ?_) rfl (by kernel_rfl) (by kernel_rfl) (by kernel_rfl) (by decide) (fun _ _ _ h => h) rfl hS ?_ ?_
  rotate_left
  focus
    intro wS hSw
    (try dsimp only at hSw)
    go_simp
    rfl
  (try simp only [nS])
  refine TG.takeV (i := 2) (v := ?_) rfl (by kernel_rfl) (by kernel_rfl) (by kernel_rfl) (by decide) (fun _ _ _ h => h) rfl hS ?_ ?_
  rotate_left
  focus
    intro wS hSw
    (try dsimp only at hSw)
    go_simp
    rfl
  (try simp only [nS])
  refine TG.takeV (i := 3) (v := .int .u64 (a / g)) rfl (by kernel_rfl) (by kernel_rfl) (by kernel_rfl) (by decide) (fun _ _ _ h => h) rfl hS ?_ ?_
  focus
    intro wS hSw
    go_simp
    exact quo_u64 a0 a1 g1
  (try simp only [nS])
  refine TG.takeV (i := 4) (v := ?_) rfl (by kernel_rfl) (by kernel_rfl) (by kernel_rfl) (by decide) (fun _ _ _ h => h) rfl hS ?_ ?_
  rotate_left
  focus
    intro wS hSw
    (try dsimp only at hSw)
    go_simp
    rfl
  (try simp only [nS])
  refine TG.takeV (i := 5) (v := ?_) rfl (by kernel_rfl) (by kernel_rfl) (by kernel_rfl) (by decide) (fun _ _ _ h => h) rfl hS ?_ ?_
  rotate_left
  focus
    intro wS hSw
    (try dsimp only at hSw)
    go_simp
    rfl
  (try simp only [nS])
  refine TG.takeV (i := 6) (v := .int .u64 (c / h)) rfl (by kernel_rfl) (by kernel_rfl) (by kernel_rfl) (by decide) (fun _ _ _ h => h) rfl hS ?_ ?_
  focus
    intro wS hSw
    go_simp
    exact quo_u64 c0 c1 hh1
  (try simp only [nS])
  refine TG.takeV (i := 8) (v := ?_) rfl (by kernel_rfl) (by kernel_rfl) (by kernel_rfl) (by decide) (fun _ _ _ h => h) rfl hS ?_ ?_
  rotate_left
  focus
    intro wS hSw
    (try dsimp only at hSw)
    go_simp
    rfl
  (try simp only [nS])
  refine TG.takeV (i := 9) (v := ?_) rfl (by kernel_rfl) (by kernel_rfl) (by kernel_rfl) (by decide) (fun _ _ _ h => h) rfl hS ?_ ?_
  rotate_left
  focus
    intro wS hSw
    (try dsimp only at hSw)
    go_simp
    rfl
  (try simp only [nS])
  refine TG.takeV (i := 10) (v := .int .u64 (b / h)) rfl (by kernel_rfl) (by kernel_rfl) (by kernel_rfl) (by decide) (fun _ _ _ h => h) rfl hS ?_ ?_
  focus
    intro wS hSw
    go_simp
    exact quo_u64 b0 b1 hh1
  (try simp only [nS])
  refine TG.takeV (i := 11) (v := ?_) rfl (by kernel_rfl) (by kernel_rfl) (by kernel_rfl) (by decide) (fun _ _ _ h => h) rfl hS ?_ ?_
  rotate_left
  focus
    intro wS hSw
    (try dsimp only at hSw)
    go_simp
    rfl
  (try simp only [nS])
  refine TG.takeV (i := 12) (v := ?_) rfl (by kernel_rfl) (by kernel_rfl) (by kernel_rfl) (by decide) (fun _ _ _ h => h) rfl hS ?_ ?_
  rotate_left
  focus
    intro wS hSw
    (try dsimp only at hSw)
    go_simp
    rfl
  (try simp only [nS])
  refine TG.takeV (i := 13) (v := .int .u64 (d / g)) rfl (by kernel_rfl) (by kernel_rfl) (by kernel_rfl) (by decide) (fun _ _ _ h => h) rfl hS ?_ ?_
  focus
    intro wS hSw
    go_simp
    exact quo_u64 d0 d1 g1
  (try simp only [nS])
  refine TG.one (i := 7) (by kernel_rfl) rfl (fun K1 hK1 => ?_)
  go_simp
  go_at_call 183
  refine (T1.out _).mono ?_
  rintro e' wA ⟨rfl, b7, d7, rfl⟩
  refine TG.go hK1 trivial (fun hS => ?_)
  clear hK1 K1 T1
  (try simp only [nS])
  refine TG.one (i := 14) (by kernel_rfl) rfl (fun K1 hK1 => ?_)
  go_simp
  go_at_call 183
  refine (T2.out _).mono ?_
  rintro e' wA ⟨rfl, b8, d8, rfl⟩
  refine TG.go hK1 trivial (fun hS => ?_)
  clear hK1 K1 T2
  (try simp only [nS])
  refine TG.one (i := 15) (by kernel_rfl) rfl (fun K1 hK1 => ?_)
  go_simp
  go_at_call 99
  refine (W.out _).mono ?_
  rintro e' wA ⟨rfl, b9, d9, rfl⟩
  refine TG.go hK1 trivial (fun hS => ?_)
  clear hK1 K1 W
  (try simp only [nS])
  refine TG.takeV (i := 16) (v := ?_) rfl (by kernel_rfl) (by kernel_rfl) (by kernel_rfl) (by decide) (fun _ _ _ h => h) rfl hS ?_ ?_
  rotate_left
  focus
    intro wS hSw
    (try dsimp only at hSw)
    go_simp
    rfl
  (try simp only [nS])
  refine TG.takeV (i := 17) (v := ?_) rfl (by kernel_rfl) (by kernel_rfl) (by kernel_rfl) (by decide) (fun _ _ _ h => h) rfl hS ?_ ?_
  rotate_left
  focus
    intro wS hSw
    (try dsimp only at hSw)
    go_simp
    rfl
  (try simp only [nS])
  refine TG.one (i := 18) (by kernel_rfl) rfl (fun K1 hK1 => ?_)
  go_simp
  refine TG.go hK1 trivial (fun hS => ?_)
  clear hK1 K1
  (try simp only [nS])
  refine TG.one (i := 19) (by kernel_rfl) rfl (fun K1 hK1 => ?_)
  go_simp
  refine hK1 _ _ (fun h => absurd rfl h) (TG.done (by kernel_rfl) ?_)
  clear hK1 K1 hS
  (try simp only [nS])
  go_wp2_with fail
  go_returns
  exact ⟨rfl, .of_below (by (exact belB))⟩
theorem prdX_comm (d m k n : Nat) : d / Nat.gcd m d * (k / Nat.gcd n k) = prdX d m k n := by
  unfold prdX; rw [Nat.gcd_comm m d, Nat.gcd_comm n k]
theorem ediv_nat (a b : Nat) : (a : Int) / (b : Int) = ((a / b : Nat) : Int) := by simp
theorem quotient2_any (neg : Bool) (n d m k : Nat) (w : World) (h1 : n < 18446744073709551616) (h2 : d < 18446744073709551616) (h3 : m < 18446744073709551616) (h4 : k < 18446744073709551616) (hd : 0 < d) (hk : 0 < k) :
    Calls Tryz.prog 189 #[.bool neg, .int .u64 n, .int .u64 d, .int .u64 m, .int .u64 k] w fun e w' => e = .returned (frV (prdF neg n d m k)) ∧ w.Grows w' := by
  have g1 : 0 < Nat.gcd n k := Nat.gcd_pos_of_pos_right _ hk
  have g2 : 0 < Nat.gcd m d := Nat.gcd_pos_of_pos_right _ hd
  have b1 : n / Nat.gcd n k ≤ n := Nat.div_le_self _ _
  have b2 : m / Nat.gcd m d ≤ m := Nat.div_le_self _ _
  have b3 : d / Nat.gcd m d ≤ d := Nat.div_le_self _ _
  have b4 : k / Nat.gcd n k ≤ k := Nat.div_le_self _ _
  refine quotient2_core neg n d m k (Nat.gcd n k : Nat) (Nat.gcd m d : Nat) (hiW (prdX n k m d)) (loW (prdX n k m d)) (hiW (prdX d m k n)) (loW (prdX d m k n)) _ _ _ w
    (by simp; omega) (by simp; omega) (by omega) (by omega) (by omega) (by omega) (by omega) (by omega) (by omega) (by omega) (by omega) (by omega)
    (fun w => ?_) (fun w => ?_) (fun w => ?_) (fun w => ?_) (fun w => ?_)
  · have := gcd2_any n k w (by omega) (by omega) (by omega) (by omega)
    rw [gcdI_nat] at this
    exact Calls.quietD this
  · have := gcd2_any m d w (by omega) (by omega) (by omega) (by omega)
    rw [gcdI_nat] at this
    exact Calls.quietD this
  · rw [ediv_nat, ediv_nat]
    exact times2_any _ _ w (by omega) (by omega)
  · rw [ediv_nat, ediv_nat, ← prdX_comm]
    exact times2_any _ _ w (by omega) (by omega)
  · have := within2_any neg (hiW (prdX n k m d)) (loW (prdX n k m d)) (hiW (prdX d m k n)) (loW (prdX d m k n)) w (loW_bd _).1 (loW_bd _).1
    rw [frV_wit] at this
    exact this
end Go.Proofs.YtlheailebbngiaaGreatDoor
/- Rounding fractions down, in both packages. -/
namespace Go.Proofs.YtlheailebbngiaaGreatDoor
open Go.RowKit
def frI (r : Int × Int) : Value := .tuple #[.int .i64 r.1, .int .i64 r.2]
theorem floor_tdiv {n d : Int} (h : 1 ≤ d) : n / d = n.tdiv d ∨ n / d = n.tdiv d - 1 := by
  rw [← floor_mod h]; split <;> simp
set_option maxHeartbeats 1000000 in
theorem Floor2_any (n d : Int) (w : World) (h1 : -9223372036854775808 ≤ n) (h2 : n ≤ 9223372036854775807) (h3 : -9223372036854775808 ≤ d) (h4 : d ≤ 9223372036854775807) :
    Calls Tryz.prog 141 #[.agg #[.int .i64 n, .int .i64 d]] w fun e w' => e = .returned (frI (floorF n d)) ∧ w.Grows w' := by
  have hv := Lib.hid (fun w => Valid2_any n d w h1 h2 h3 h4)
  generalize hx : vfrac n d = b at *
  cases b
  · have HR := Lib.hid (show floorF n d = (0, 1) by unfold floorF; rw [hx]; rfl)
    clear hx
    go_enter Tryz.func141, Tryz.ntmps141
    go_wp2_with fail
    refine (hv.out _).mono ?_
    rintro e w' ⟨rfl, bs, dr, rfl⟩
    clear hv
    go_wp2_with fail
    go_returns
    exact ⟨by rw [HR.out]; rfl, .of_below (by (exact belB))⟩
  · have HR := Lib.hid (show floorF n d = (n / d, 0) by unfold floorF; rw [hx]; rfl)
    obtain ⟨k1, k2, k3, k4⟩ := vfrac_bd hx
    have hf := floor_bd hx
    have HF := Lib.hid (floor_mod (n := n) k1)
    have hft := floor_tdiv (n := n) k1
    have hq1 : -1000000000000001 ≤ n.tdiv d := by omega
    have hq2 : n.tdiv d ≤ 1000000000000001 := by omega
    have d0 : (d == 0) = false := by simp; omega
    clear hx hf hft
    have e1 : IntKind.i64.wrap (n.tdiv d) = n.tdiv d := IntWalk.i64_in _ (by omega)
    generalize n / d = z at *
    by_cases c : n.tmod d < 0
    · have HZ := Lib.hid (show z = n.tdiv d - 1 by rw [← HF.out, if_pos c])
      clear HF
      go_enter Tryz.func141, Tryz.ntmps141
      go_wp2_with fail
      refine (hv.out _).mono ?_
      rintro e w' ⟨rfl, bs, dr, rfl⟩
      clear hv
      go_wp2_with fail
      go_returns
      exact ⟨by rw [HR.out, HZ.out]; rfl, .of_below (by (exact belB))⟩
    · have HZ := Lib.hid (show z = n.tdiv d by rw [← HF.out, if_neg c])
      clear HF
      go_enter Tryz.func141, Tryz.ntmps141
      go_wp2_with fail
      refine (hv.out _).mono ?_
      rintro e w' ⟨rfl, bs, dr, rfl⟩
      clear hv
      go_wp2_with fail
      go_returns
      exact ⟨by rw [HR.out, HZ.out]; rfl, .of_below (by (exact belB))⟩
set_option maxHeartbeats 1000000 in
theorem Floor1_any (n d : Int) (w : World) (h1 : -9223372036854775808 ≤ n) (h2 : n ≤ 9223372036854775807) (h3 : -9223372036854775808 ≤ d) (h4 : d ≤ 9223372036854775807) :
    Calls Tryz.prog 150 #[.agg #[.int .i64 n, .int .i64 d]] w fun e w' => e = .returned (frI (floorF n d)) ∧ w.Grows w' := by
  have hv := Lib.hid (fun w => Valid1_any n d w h1 h2 h3 h4)
  generalize hx : vfrac n d = b at *
  cases b
  · have HR := Lib.hid (show floorF n d = (0, 1) by unfold floorF; rw [hx]; rfl)
    clear hx
    go_enter Tryz.func150, Tryz.ntmps150
    go_wp2_with fail
    refine (hv.out _).mono ?_
    rintro e w' ⟨rfl, bs, dr, rfl⟩
    clear hv
    go_wp2_with fail
    go_returns
    exact ⟨by rw [HR.out]; rfl, .of_below (by (exact belB))⟩
  · have HR := Lib.hid (show floorF n d = (n / d, 0) by unfold floorF; rw [hx]; rfl)
    obtain ⟨k1, k2, k3, k4⟩ := vfrac_bd hx
    have hf := floor_bd hx
    have HF := Lib.hid (floor_mul (n := n) k1)
    have hft := floor_tdiv (n := n) k1
    have hq1 : -1000000000000001 ≤ n.tdiv d := by omega
    have hq2 : n.tdiv d ≤ 1000000000000001 := by omega
    have d0 : (d == 0) = false := by simp; omega
    clear hx hf hft
    have e1 : IntKind.i64.wrap (n.tdiv d) = n.tdiv d := IntWalk.i64_in _ (by omega)
    generalize n / d = z at *
    have hp1 : n.tdiv d * d ≤ 2000000000000000 ∧ -2000000000000000 ≤ n.tdiv d * d := by
      have e5 := Int.mul_tdiv_add_tmod n d
      have hb := Int.tmod_lt_of_pos n (show 0 < d by omega)
      have hc := Int.tmod_lt_of_pos (-n) (show 0 < d by omega)
      rw [Int.neg_tmod] at hc
      rw [Int.mul_comm] at e5
      omega
    have hp2 := hp1.1
    have hp3 := hp1.2
    clear hp1
    by_cases c : n < n.tdiv d * d
    · have HZ := Lib.hid (show z = n.tdiv d - 1 by rw [← HF.out, if_pos c])
      clear HF
      go_enter Tryz.func150, Tryz.ntmps150
      go_wp2_with fail
      refine (hv.out _).mono ?_
      rintro e w' ⟨rfl, bs, dr, rfl⟩
      clear hv
      go_wp2_with fail
      go_returns
      exact ⟨by rw [HR.out, HZ.out]; rfl, .of_below (by (exact belB))⟩
    · have HZ := Lib.hid (show z = n.tdiv d by rw [← HF.out, if_neg c])
      clear HF
      go_enter Tryz.func150, Tryz.ntmps150
      go_wp2_with fail
      refine (hv.out _).mono ?_
      rintro e w' ⟨rfl, bs, dr, rfl⟩
      clear hv
      go_wp2_with fail
      go_returns
      exact ⟨by rw [HR.out, HZ.out]; rfl, .of_below (by (exact belB))⟩
end Go.Proofs.YtlheailebbngiaaGreatDoor
/- Inference with its checks as plain functions. No program in sight. -/
namespace Go.Proofs.YtlheailebbngiaaGreatDoor
def dimsOk (env : List (ByteArray × Int)) : Bool := env.all fun p => decide (1 ≤ p.2 ∧ p.2 ≤ 4)
def inferE (env : List (ByteArray × Int)) (e : Ex) : Int × Int := if validB e = true ∧ dimsOk env = true then inferF env e else (0, 1)
end Go.Proofs.YtlheailebbngiaaGreatDoor
/- What is not needed is not evaluated; the value of an expression behind all checks. No program in sight. -/
namespace Go.Proofs.YtlheailebbngiaaGreatDoor
/-- The value of an expression over a view, or its first error. -/
def exprF' (v : Vw) (env : List (ByteArray × Val)) (e : Ex) : Val × Int :=
  if v.ok = false ∨ (env.any fun p => !p.2.ok) = true ∨ validB e = false then (.zero, 1)
  else if (inferF (dimsOf env) e).2 ≠ 0 then (.zero, (inferF (dimsOf env) e).2)
  else if (valueF v env e).2 ≠ 0 then (.zero, (valueF v env e).2) else valueF v env e
/-- What a typed expression gives. -/
theorem expr_typed {v : Vw} {env : List (ByteArray × Val)} {e : Ex} (hv : v.ok = true) (hE : ∀ p ∈ env, p.2.ok = true) (he : validB e = true) (hi : (inferF (dimsOf env) e).2 = 0) :
    exprF' v env e = valueF v env e ∧ okR (inferF (dimsOf env) e).1 (valueF v env e) := by
  have hf : formedB e = true := by
    unfold validB at he; simp only [Bool.and_eq_true] at he; exact he.2
  have h := value_ok hv hE e hf hi
  refine ⟨?_, h⟩
  unfold exprF'
  rw [if_neg (by
    rintro (h1 | h1 | h1)
    · rw [hv] at h1; cases h1
    · obtain ⟨p, hp, h2⟩ := List.any_eq_true.1 h1
      rw [hE p hp] at h2; cases h2
    · rw [he] at h1; cases h1), if_neg (by omega)]
  split <;> rename_i hc
  · have := h.bad hc
    rw [← this.1]
  · rfl
def noN : ByteArray := ⟨#[]⟩
def oneE : Ex := .mk 1 1 1 2 noN []
def zeroE : Ex := .mk 1 0 1 2 noN []
def burstE : Ex := .mk 11 0 0 0 noN [.mk 10 0 0 0 noN [oneE, zeroE], oneE]
theorem burst_formed : formedB burstE = true := by decide +kernel
theorem burst_size : burstE.size = 5 ∧ burstE.depth = 3 := by decide +kernel
theorem burst_infer : inferF [] burstE = (1, 0) := by decide +kernel
theorem burst_value (v : Vw) : valueF v [] burstE = (.zero, 3) := by
  have a : vfrac 1 1 = true := by decide +kernel
  have b : vfrac 0 1 = true := by decide +kernel
  unfold burstE oneE zeroE
  simp [valueF, valuesF, valNode, op2, divF, numR, Val.num, a, b]
theorem infers_two {env : List (ByteArray × Int)} {a b : Ex} {m k : Int} (ha : inferF env a = (m, 0)) (hb : inferF env b = (k, 0)) : infersF env [a, b] = ([m, k], 0) := by
  simp [infersF, ha, hb]
theorem infers_three {env : List (ByteArray × Int)} {a b c : Ex} {m k j : Int} (ha : inferF env a = (m, 0)) (hb : inferF env b = (k, 0)) (hc : inferF env c = (j, 0)) : infersF env [a, b, c] = ([m, k, j], 0) := by
  simp [infersF, ha, hb, hc]
def andX (c : Ex) : Ex := .mk 17 0 0 0 noN [c, burstE]
def orX (c : Ex) : Ex := .mk 18 0 0 0 noN [c, burstE]
def ifX (c : Ex) : Ex := .mk 21 0 0 0 noN [c, burstE, c]
theorem lazy_valid {c : Ex} (hf : formedB c = true) (hd : c.depth < 8) (hs : c.size ≤ 25) : validB (andX c) = true ∧ validB (orX c) = true ∧ validB (ifX c) = true := by
  have h1 := burst_size
  have h2 := burst_formed
  have hd2 : (andX c).depth ≤ 10 ∧ (orX c).depth ≤ 10 ∧ (ifX c).depth ≤ 10 := by
    simp only [andX, orX, ifX, Ex.depth, Ex.depths]; omega
  have hs2 : (andX c).size ≤ 60 ∧ (orX c).size ≤ 60 ∧ (ifX c).size ≤ 60 := by
    simp only [andX, orX, ifX, Ex.size, Ex.sizes]; omega
  have hf2 : formedB (andX c) = true ∧ formedB (orX c) = true ∧ formedB (ifX c) = true := by
    have e : noN.toList.isEmpty = true := by decide +kernel
    simp [andX, orX, ifX, formedB, formedsB, hf, h2, e, argsN]
  unfold validB
  simp [hd2, hs2, hf2]
theorem lazy_infer {c : Ex} (hc : inferF [] c = (1, 0)) : inferF [] (andX c) = (1, 0) ∧ inferF [] (orX c) = (1, 0) ∧ inferF [] (ifX c) = (1, 0) := by
  unfold andX orX ifX
  rw [inferF, inferF, inferF, infers_two hc burst_infer, infers_three hc burst_infer hc]
  exact ⟨rfl, rfl, rfl⟩
theorem lazy_value {v : Vw} {c : Ex} : valueF v [] (andX c) = (if (valueF v [] c).2 ≠ 0 then (.zero, (valueF v [] c).2) else if (valueF v [] c).1.yes = true then (.zero, 3) else valueF v [] c) ∧
    valueF v [] (orX c) = (if (valueF v [] c).2 ≠ 0 then (.zero, (valueF v [] c).2) else if (valueF v [] c).1.yes = true then valueF v [] c else (.zero, 3)) ∧
    valueF v [] (ifX c) = (if (valueF v [] c).2 ≠ 0 then (.zero, (valueF v [] c).2) else if (valueF v [] c).1.yes = true then (.zero, 3) else valueF v [] c) := by
  have hb := burst_value v
  unfold andX orX ifX
  rw [valueF, valueF, valueF]
  simp only [valuesF, hb]
  exact ⟨rfl, rfl, rfl⟩
end Go.Proofs.YtlheailebbngiaaGreatDoor
/- The example of chapter 8, as a plain fact. -/
namespace Go.Proofs.YtlheailebbngiaaGreatDoor
instance : DecidableEq Val := fun a b => decidable_of_iff (a.dim = b.dim ∧ a.yes = b.yes ∧ a.n = b.n ∧ a.d = b.d) (by cases a; cases b; simp)
def baseN : ByteArray := ⟨#[98, 97, 115, 101]⟩
def insuredN : ByteArray := ⟨#[105, 110, 115, 117, 114, 101, 100]⟩
def awV : Vw := ⟨0, 2000, 0, 3650, 0, 0, 0, 0, 0, 0, 1000, 1, []⟩
def awE : Ex := .mk 9 0 0 0 noN [.mk 9 0 0 0 noN [.mk 2 0 0 0 baseN [], .mk 10 0 0 0 noN [.mk 2 0 0 0 insuredN [], .mk 1 365 1 3 noN []]], .mk 1 1 50 2 noN []]
theorem aw_view : awV.ok = true := by decide +kernel
theorem aw_valid : validB awE = true := by decide +kernel
theorem aw_infer : inferF [] awE = (4, 0) := by decide +kernel
theorem aw_value : valueF awV [] awE = (⟨4, false, 200, 1⟩, 0) := by decide +kernel
theorem aw_expr : exprF' awV [] awE = (⟨4, false, 200, 1⟩, 0) := by
  have h := (expr_typed (env := []) aw_view (fun _ h => by cases h) aw_valid (by rw [show dimsOf [] = [] from rfl, aw_infer])).1
  rw [h, aw_value]
end Go.Proofs.YtlheailebbngiaaGreatDoor
/- Putting a body in the place of the name a: dimension and value stay. No program in sight. -/
namespace Go.Proofs.YtlheailebbngiaaGreatDoor
def aN : ByteArray := ⟨#[97]⟩
mutual
def inlineF (b : Ex) : Ex → Ex
  | .mk op n d m s l => if op = 2 ∧ s = aN then b else .mk op n d m s (inlinesF b l)
def inlinesF (b : Ex) : List Ex → List Ex
  | [] => []
  | e :: r => inlineF b e :: inlinesF b r
end
theorem inpD_a : inpD aN.toList = 0 := by decide +kernel
theorem lastN_a {α : Type} (x : α) : lastN [(aN, x)] aN = some x := by simp [lastN]
theorem lastN_other {α : Type} (x : α) {s : ByteArray} (h : s ≠ aN) : lastN [(aN, x)] s = none := by
  simp [lastN, List.find?, Ne.symm h]
theorem name_inline (v : Vw) (x : Val) {s : ByteArray} (h : s ≠ aN) : nameF v [] s = nameF v [(aN, x)] s := by
  unfold nameF
  rw [lastN_other x h]; rfl
theorem nameF_a (v : Vw) (x : Val) : nameF v [(aN, x)] aN = (x, 0) := by
  unfold nameF inputV
  rw [if_pos (.inl inpD_a), lastN_a]
theorem inferN_inline (m : Int) {s : ByteArray} (h : s ≠ aN) : inferN [] s = inferN [(aN, m)] s := by
  unfold inferN
  rw [lastN_other m h]; rfl
theorem inferN_a (m : Int) : inferN [(aN, m)] aN = (m, 0) := by
  unfold inferN
  rw [if_neg (by simpa using inpD_a), lastN_a]
theorem valNode_name {v : Vw} {op n d m : Int} {a b : Val × Int} {rs : List (Val × Int)} (h : op ≠ 2) : valNode v op n d m a rs = valNode v op n d m b rs := by
  unfold valNode
  by_cases c : op = 1
  · rw [if_pos c, if_pos c]
  · rw [if_neg c, if_neg c, if_neg h, if_neg h]
theorem infNode_name {op m : Int} {a b : Int × Int} {r : List Int × Int} (h : op ≠ 2) : infNode op m a r = infNode op m b r := by
  unfold infNode
  by_cases c : op = 1
  · rw [if_pos c, if_pos c]
  · rw [if_neg c, if_neg c]
    by_cases c3 : op = 3
    · rw [if_pos c3, if_pos c3]
    · rw [if_neg c3, if_neg c3, if_neg h, if_neg h]
mutual
theorem value_inline {v : Vw} {b : Ex} {x : Val} (hb : valueF v [] b = (x, 0)) : ∀ e : Ex, valueF v [] (inlineF b e) = valueF v [(aN, x)] e
  | .mk op n d m s l => by
    rw [inlineF]
    by_cases h : op = 2 ∧ s = aN
    · obtain ⟨rfl, rfl⟩ := h
      rw [if_pos ⟨rfl, rfl⟩, hb, valueF, nameF_a]; rfl
    · rw [if_neg h, valueF, valueF, values_inline hb l]
      by_cases h2 : op = 2
      · rw [name_inline v x (fun c => h ⟨h2, c⟩)]
      · exact valNode_name h2
theorem values_inline {v : Vw} {b : Ex} {x : Val} (hb : valueF v [] b = (x, 0)) : ∀ l : List Ex, valuesF v [] (inlinesF b l) = valuesF v [(aN, x)] l
  | [] => by rw [inlinesF, valuesF, valuesF]
  | e :: r => by rw [inlinesF, valuesF, valuesF, value_inline hb e, values_inline hb r]
end
mutual
theorem infer_inline {b : Ex} {m0 : Int} (hb : inferF [] b = (m0, 0)) : ∀ e : Ex, inferF [] (inlineF b e) = inferF [(aN, m0)] e
  | .mk op n d m s l => by
    rw [inlineF]
    by_cases h : op = 2 ∧ s = aN
    · obtain ⟨rfl, rfl⟩ := h
      rw [if_pos ⟨rfl, rfl⟩, hb, inferF, inferN_a]; rfl
    · rw [if_neg h, inferF, inferF, infers_inline hb l]
      by_cases h2 : op = 2
      · rw [inferN_inline m0 (fun c => h ⟨h2, c⟩)]
      · exact infNode_name h2
theorem infers_inline {b : Ex} {m0 : Int} (hb : inferF [] b = (m0, 0)) : ∀ l : List Ex, infersF [] (inlinesF b l) = infersF [(aN, m0)] l
  | [] => by rw [inlinesF, infersF, infersF]
  | e :: r => by rw [inlinesF, infersF, infersF, infer_inline hb e, infers_inline hb r]
end
end Go.Proofs.YtlheailebbngiaaGreatDoor
