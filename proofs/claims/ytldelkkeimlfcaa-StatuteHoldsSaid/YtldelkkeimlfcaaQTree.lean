/- Expressions as data, and how they lie in memory. -/
import Derived.Test.YtldelkkeimlfcaaQSrc
set_option linter.all false
namespace Go.Proofs.Ytldelkkeimlfcaa
open Go.RowKit

inductive Ex where
  | mk (op num den dim : Int) (name : ByteArray) (args : List Ex)
namespace Ex
def op : Ex → Int | mk o _ _ _ _ _ => o
def num : Ex → Int | mk _ n _ _ _ _ => n
def den : Ex → Int | mk _ _ d _ _ _ => d
def dim : Ex → Int | mk _ _ _ d _ _ => d
def name : Ex → ByteArray | mk _ _ _ _ s _ => s
def args : Ex → List Ex | mk _ _ _ _ _ l => l
instance : Inhabited Ex := ⟨mk 0 0 0 0 ByteArray.empty []⟩
/-- The i-th operand. -/
def arg (e : Ex) (i : Nat) : Ex := e.args.getD i default
mutual
def size : Ex → Nat
  | mk _ _ _ _ _ l => sizes l + 1
def sizes : List Ex → Nat
  | [] => 0
  | e :: r => size e + sizes r
end
mutual
def depth : Ex → Nat
  | mk _ _ _ _ _ l => depths l + 1
def depths : List Ex → Nat
  | [] => 0
  | e :: r => max (depth e) (depths r)
end
theorem size_eq (e : Ex) : e.size = sizes e.args + 1 := by cases e; rw [size]; rfl
theorem depth_eq (e : Ex) : e.depth = depths e.args + 1 := by cases e; rw [depth]; rfl
theorem sizes_append (a b : List Ex) : sizes (a ++ b) = sizes a + sizes b := by
  induction a with
  | nil => simp [sizes]
  | cons e r ih => simp only [List.cons_append, sizes, ih]; omega
theorem depths_append (a b : List Ex) : depths (a ++ b) = max (depths a) (depths b) := by
  induction a with
  | nil => simp [depths]
  | cons e r ih => simp only [List.cons_append, depths, ih]; omega
theorem size_pos (e : Ex) : 1 ≤ e.size := by rw [size_eq]; omega
theorem size_getD (l : List Ex) (i : Nat) (h : i < l.length) : (l.getD i default).size ≤ sizes l := by
  induction l generalizing i with
  | nil => simp at h
  | cons e r ih =>
    cases i with
    | zero => simp [sizes]
    | succ i => have := ih i (by simpa using h); simp only [List.getD_cons_succ, sizes]; omega
theorem size_arg (e : Ex) (i : Nat) (h : i < e.args.length) : (e.arg i).size < e.size := by
  have := size_getD e.args i h
  rw [size_eq e]; unfold arg; omega
theorem length_sizes (l : List Ex) : l.length ≤ sizes l := by
  induction l with
  | nil => simp
  | cons e r ih => have := size_pos e; simp only [List.length_cons, sizes]; omega
mutual
theorem depth_size : ∀ e : Ex, e.depth ≤ e.size
  | mk _ _ _ _ _ l => by rw [depth, size]; have := depths_sizes l; omega
theorem depths_sizes : ∀ l : List Ex, depths l ≤ sizes l
  | [] => by simp [depths, sizes]
  | e :: r => by rw [depths, sizes]; have := depth_size e; have := depths_sizes r; omega
end
theorem take_succ (l : List Ex) (k : Nat) (h : k < l.length) : l.take (k + 1) = l.take k ++ [l.getD k default] := by
  rw [List.take_succ_eq_append_getElem h, List.getD_eq_getElem?_getD, List.getElem?_eq_getElem h]; rfl
theorem sizes_take (e : Ex) (k : Nat) (h : k < e.args.length) : sizes (e.args.take (k + 1)) = sizes (e.args.take k) + (e.arg k).size := by
  rw [take_succ _ _ h, sizes_append]; simp [sizes, arg]
theorem depths_take (e : Ex) (k : Nat) (h : k < e.args.length) : depths (e.args.take (k + 1)) = max (depths (e.args.take k)) (e.arg k).depth := by
  rw [take_succ _ _ h, depths_append]; simp [depths, arg]
theorem sizes_take_le (e : Ex) (k : Nat) : sizes (e.args.take k) ≤ sizes e.args := by
  conv => rhs; rw [← List.take_append_drop k e.args]
  rw [sizes_append]; omega
end Ex

/-- The six cells of an expression at an offset of a block; v: its slice of operands. -/
structure ExAt (w : World) (b o : Nat) (e : Ex) (v : Value) : Prop where
  c0 : w.cell? ⟨b, o, none⟩ = some (.int .i64 e.op)
  c1 : w.cell? ⟨b, o + 1, none⟩ = some (.int .i64 e.num)
  c2 : w.cell? ⟨b, o + 2, none⟩ = some (.int .i64 e.den)
  c3 : w.cell? ⟨b, o + 3, none⟩ = some (.int .i64 e.dim)
  c4 : w.cell? ⟨b, o + 4, none⟩ = some (.string e.name)
  c5 : w.cell? ⟨b, o + 5, none⟩ = some v

def I64 (z : Int) : Prop := -9223372036854775808 ≤ z ∧ z ≤ 9223372036854775807
structure ExRng (e : Ex) : Prop where
  op : I64 e.op
  num : I64 e.num
  den : I64 e.den
  dim : I64 e.dim
  len : e.args.length ≤ 140737488355328
  name : e.name.size ≤ 140737488355328

/-- v is the slice of e's operands in memory, all of it in blocks of S. -/
inductive RepE (S : Nat → Prop) (w : World) : Ex → Value → Prop
  | mk (e : Ex) (a : Option Addr) (cap : Nat) (vs : Nat → Value) (hr : ExRng e)
      (hc : e.args.length = 0 ∨ ∃ b off, a = some ⟨b, off, none⟩ ∧ S b ∧ b < w.heap.size ∧ ∀ i, i < e.args.length → ExAt w b (off + i * 6) (e.arg i) (vs i))
      (hs : ∀ i, i < e.args.length → RepE S w (e.arg i) (vs i)) : RepE S w e (.slice a e.args.length cap)

theorem ExAt.same {w w' : World} {b o : Nat} {e : Ex} {v : Value} (h : ExAt w b o e v) (hw : ∀ o, w'.cell? ⟨b, o, none⟩ = w.cell? ⟨b, o, none⟩) : ExAt w' b o e v :=
  ⟨by rw [hw]; exact h.c0, by rw [hw]; exact h.c1, by rw [hw]; exact h.c2, by rw [hw]; exact h.c3, by rw [hw]; exact h.c4, by rw [hw]; exact h.c5⟩

theorem RepE.keep {S : Nat → Prop} {w w' : World} {e : Ex} {v : Value} (h : RepE S w e v) (hsz : w.heap.size ≤ w'.heap.size) (hw : ∀ b o, S b → b < w.heap.size → w'.cell? ⟨b, o, none⟩ = w.cell? ⟨b, o, none⟩) : RepE S w' e v := by
  induction h with
  | mk e a cap vs hr hc hs ih =>
    refine .mk e a cap vs hr (hc.imp id ?_) ih
    rintro ⟨b, off, ha, hS, hb, hx⟩
    exact ⟨b, off, ha, hS, by omega, fun i hi => (hx i hi).same fun o => hw b o hS hb⟩
theorem RepE.grow {S : Nat → Prop} {w : World} {e : Ex} {v : Value} (h : RepE S w e v) (bs : Array Obj) (d : Nat) : RepE S (w.grow bs d) e v :=
  h.keep (by simp) fun b o _ hb => World.cell?_grow _ _ _ hb
theorem RepE.alloc {S : Nat → Prop} {w : World} {e : Ex} {v : Value} (h : RepE S w e v) (o : Obj) : RepE S (w.alloc o) e v :=
  h.keep (by simp) fun b i _ hb => World.cell?_alloc_lt w o ⟨b, i, none⟩ hb
theorem RepE.mono {S S' : Nat → Prop} {w : World} {e : Ex} {v : Value} (h : RepE S w e v) (hS : ∀ b, S b → S' b) : RepE S' w e v := by
  induction h with
  | mk e a cap vs hr hc hs ih =>
    refine .mk e a cap vs hr (hc.imp id ?_) ih
    rintro ⟨b, off, ha, hb, hx⟩
    exact ⟨b, off, ha, hS b hb, hx⟩
theorem RepE.rng {S : Nat → Prop} {w : World} {e : Ex} {v : Value} (h : RepE S w e v) : ExRng e := by cases h; assumption

/-- The value of an expression with its operands at v. -/
abbrev exV (e : Ex) (v : Value) : Value := .agg #[.int .i64 e.op, .int .i64 e.num, .int .i64 e.den, .int .i64 e.dim, .string e.name, v]

def szT (e : Ex) (k : Nat) : Int := (1 + Ex.sizes (e.args.take k) : Nat)
def dpT (e : Ex) (k : Nat) : Int := (Ex.depths (e.args.take k) : Nat)
theorem szT_zero (e : Ex) : szT e 0 = 1 := by simp [szT, Ex.sizes]
theorem szT_succ (e : Ex) (k : Nat) (h : k < e.args.length) : szT e (k + 1) = szT e k + ((e.arg k).size : Int) := by unfold szT; rw [Ex.sizes_take e k h]; omega
theorem szT_bd (e : Ex) (k : Nat) : 1 ≤ szT e k ∧ szT e k ≤ e.size := by unfold szT; have := Ex.sizes_take_le e k; rw [e.size_eq]; omega
theorem szT_all (e : Ex) (k : Nat) (h : e.args.length ≤ k) : szT e k = e.size := by unfold szT; rw [List.take_of_length_le h, e.size_eq]; omega
theorem dpT_zero (e : Ex) : dpT e 0 = 0 := by simp [dpT, Ex.depths]
theorem dpT_succ (e : Ex) (k : Nat) (h : k < e.args.length) : dpT e (k + 1) = max (dpT e k) ((e.arg k).depth : Int) := by unfold dpT; rw [Ex.depths_take e k h]; omega
theorem dpT_bd (e : Ex) (k : Nat) : 0 ≤ dpT e k ∧ dpT e k ≤ e.size := by
  unfold dpT
  have := Ex.depths_sizes (e.args.take k)
  have := Ex.sizes_take_le e k
  rw [e.size_eq]; omega
theorem dpT_all (e : Ex) (k : Nat) (h : e.args.length ≤ k) : dpT e k + 1 = e.depth := by unfold dpT; rw [List.take_of_length_le h, e.depth_eq]; omega

set_option maxHeartbeats 1000000 in
theorem Size_walk (S : Nat → Prop) (n : Nat) : ∀ (e : Ex), e.size ≤ n → ∀ (v : Value) (w : World), RepE S w e v → Hid (e.size ≤ 2305843009213693952) →
    Calls Try.prog 69 #[exV e v] w fun r w' => r = .returned (.int .i64 (e.size : Nat)) ∧ w.Grows w' := by
  induction n with
  | zero => intro e he; have := e.size_pos; omega
  | succ n ih =>
    intro e he v w h hbig
    have IH := Lib.hid ih
    clear ih
    cases h with
    | mk _ a cap vs hr hc hs =>
      have hlen := hr.len
      have Hs := Lib.hid hs
      have He := Lib.hid he
      have Hc := Lib.hid hc
      clear hr hs he hc
      go_enter Try.func69, Try.ntmps69
      go_wp2_with fail
      go_loopw [3, 4] (fun v3 v4 wr => ∃ k : Nat, k ≤ e.args.length ∧ v3 = .int .i64 (szT e k) ∧ v4 = .int .i64 k ∧
        World.Grows (w.alloc (.cells #[.int .i64 e.op, .int .i64 e.num, .int .i64 e.den, .int .i64 e.dim, .string e.name, .slice a e.args.length cap] 72)) wr) (fun _ v4 _ => e.args.length - (intOf v4).toNat)
      case atStart => exact ⟨0, by omega, by rw [szT_zero], rfl, .refl _⟩
      case round =>
        obtain ⟨k, hk, rfl, rfl, bs, d, rfl⟩ := hrel
        have hb := szT_bd e k
        have hb0 : 1 ≤ szT e k := hb.1
        have hb1 : szT e k ≤ 2305843009213693952 := by have := hbig.out; omega
        clear hb
        by_cases hlt : k < e.args.length
        · rcases Hc.out with h0 | ⟨b, off, rfl, hS, hbw, hx⟩
          · omega
          · obtain ⟨x0, x1, x2, x3, x4, x5⟩ := hx k hlt
            clear hx
            have hlt1 : (k : Int) < (e.args.length : Int) := by omega
            have HN := Lib.hid (szT_succ e k hlt)
            have HA := Lib.hid (e.size_arg k hlt)
            have hs1 : ((e.arg k).size : Int) ≤ 2305843009213693952 := by have := hbig.out; have := HA.out; omega
            go_wp2_with fail
            refine (IH.out (e.arg k) (by have := He.out; have := HA.out; omega) (vs k) _ (((Hs.out k hlt).alloc _).grow _ _) (by have := hbig.out; have := HA.out; show _ ≤ _; omega)).mono ?_
            rintro r w' ⟨rfl, bs2, d2, rfl⟩
            go_wp2_with fail
            go_roundw
            case rel => exact ⟨k + 1, by omega, by rw [HN.out], by go_num, .of_below (by (repeat' (first | (with_reducible exact Below.refl _ _) | (with_reducible assumption) | (with_reducible refine Below.grow ?_ ?_ _ _) | (with_reducible refine Below.alloc ?_ ?_ _) | (with_reducible refine Below.drewN ?_ _) | (with_reducible refine Below.drew ?_) | (with_reducible refine Below.setCell ?_ ?_ _) | go_size)))⟩
            case measure => simp [intOf]; omega
        · have HN := Lib.hid (szT_all e k (by omega))
          obtain rfl : k = e.args.length := by omega
          go_wp2_with fail
          go_returns
          exact ⟨ret_int HN.out, .of_below (by (repeat' (first | (with_reducible exact Below.refl _ _) | (with_reducible assumption) | (with_reducible refine Below.grow ?_ ?_ _ _) | (with_reducible refine Below.alloc ?_ ?_ _) | (with_reducible refine Below.drewN ?_ _) | (with_reducible refine Below.drew ?_) | (with_reducible refine Below.setCell ?_ ?_ _) | go_size)))⟩

set_option maxHeartbeats 1000000 in
theorem Depth_walk (S : Nat → Prop) (n : Nat) : ∀ (e : Ex), e.size ≤ n → ∀ (v : Value) (w : World), RepE S w e v → Hid (e.size ≤ 2305843009213693952) →
    Calls Try.prog 68 #[exV e v] w fun r w' => r = .returned (.int .i64 (e.depth : Nat)) ∧ w.Grows w' := by
  induction n with
  | zero => intro e he; have := e.size_pos; omega
  | succ n ih =>
    intro e he v w h hbig
    have IH := Lib.hid ih
    clear ih
    cases h with
    | mk _ a cap vs hr hc hs =>
      have hlen := hr.len
      have Hs := Lib.hid hs
      have He := Lib.hid he
      have Hc := Lib.hid hc
      clear hr hs he hc
      go_enter Try.func68, Try.ntmps68
      go_wp2_with fail
      go_loopw [3, 4] (fun v3 v4 wr => ∃ k : Nat, k ≤ e.args.length ∧ v3 = .int .i64 (dpT e k) ∧ v4 = .int .i64 k ∧
        World.Grows (w.alloc (.cells #[.int .i64 e.op, .int .i64 e.num, .int .i64 e.den, .int .i64 e.dim, .string e.name, .slice a e.args.length cap] 72)) wr) (fun _ v4 _ => e.args.length - (intOf v4).toNat)
      case atStart => exact ⟨0, by omega, by rw [dpT_zero], rfl, .refl _⟩
      case round =>
        obtain ⟨k, hk, rfl, rfl, bs, d, rfl⟩ := hrel
        have hb := dpT_bd e k
        have hb0 : 0 ≤ dpT e k := hb.1
        have hb1 : dpT e k ≤ 2305843009213693952 := by have := hbig.out; omega
        clear hb
        by_cases hlt : k < e.args.length
        · rcases Hc.out with h0 | ⟨b, off, rfl, hS, hbw, hx⟩
          · omega
          · obtain ⟨x0, x1, x2, x3, x4, x5⟩ := hx k hlt
            clear hx
            have hlt1 : (k : Int) < (e.args.length : Int) := by omega
            have HN := Lib.hid (dpT_succ e k hlt)
            have HA := Lib.hid (e.size_arg k hlt)
            have hs1 : ((e.arg k).depth : Int) ≤ 2305843009213693952 := by have := hbig.out; have := HA.out; have := (e.arg k).depth_size; omega
            go_wp2_with fail
            refine (IH.out (e.arg k) (by have := He.out; have := HA.out; omega) (vs k) _ (((Hs.out k hlt).alloc _).grow _ _) (by have := hbig.out; have := HA.out; show _ ≤ _; omega)).mono ?_
            rintro r w' ⟨rfl, bs2, d2, rfl⟩
            go_wp2_with fail
            go_roundw
            case rel => exact ⟨k + 1, by omega, by rw [HN.out], by go_num, .of_below (by (repeat' (first | (with_reducible exact Below.refl _ _) | (with_reducible assumption) | (with_reducible refine Below.grow ?_ ?_ _ _) | (with_reducible refine Below.alloc ?_ ?_ _) | (with_reducible refine Below.drewN ?_ _) | (with_reducible refine Below.drew ?_) | (with_reducible refine Below.setCell ?_ ?_ _) | go_size)))⟩
            case measure => simp [intOf]; omega
        · have HN := Lib.hid (dpT_all e k (by omega))
          obtain rfl : k = e.args.length := by omega
          go_wp2_with fail
          go_returns
          exact ⟨ret_int HN.out, .of_below (by (repeat' (first | (with_reducible exact Below.refl _ _) | (with_reducible assumption) | (with_reducible refine Below.grow ?_ ?_ _ _) | (with_reducible refine Below.alloc ?_ ?_ _) | (with_reducible refine Below.drewN ?_ _) | (with_reducible refine Below.drew ?_) | (with_reducible refine Below.setCell ?_ ?_ _) | go_size)))⟩
end Go.Proofs.Ytldelkkeimlfcaa
