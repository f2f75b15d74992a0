/- Versions as data, and how they lie in memory. -/
import Derived.Test.YtldelkkeimlfcaaTop
import Derived.Laws.BytesArg
set_option linter.all false
namespace Go.Proofs.Ytldelkkeimlfcaa
open Go.RowKit

/-- v owns a row of elements (their cells: l); rs: what their operands' slices read as, in memory apart from the row. -/
structure RowG (T : TypeId) (c : Nat) (base : Nat) (w : World) (v : Value) (l : List (List Value)) (rs : List (Ex × Value)) : Prop where
  own : w.ownsRow base T c v l.length l.flatten
  len : ∀ x ∈ l, x.length = c
  rep : ∀ x ∈ rs, RepE (fun b => base ≤ b ∧ v.ownBlock ≠ some b) w x.1 x.2
section
variable {T : TypeId} {c base : Nat} {w w' : World} {v : Value} {l : List (List Value)} {rs : List (Ex × Value)}
theorem RowG.nil (T : TypeId) (c base : Nat) (w : World) : RowG T c base w (.slice none 0 0) [] [] := ⟨World.ownsRow_nil _ _ _ _, fun _ h => by (cases h), fun _ h => by (cases h)⟩
theorem RowG.keep (h : RowG T c base w v l rs) (hsz : w.heap.size ≤ w'.heap.size) (hw : ∀ k, base ≤ k → k < w.heap.size → w'.heap[k]? = w.heap[k]?) : RowG T c base w' v l rs :=
  ⟨ownsRow_keep h.own hw, h.len, fun x hx => (h.rep x hx).keep hsz fun b o hb hlt => World.cell?_of_block (hw b hb.1 hlt)⟩
theorem RowG.alloc (h : RowG T c base w v l rs) (o : Obj) : RowG T c base (w.alloc o) v l rs := h.keep (by simp) fun k _ hlt => Below.heap_alloc w o k hlt
theorem RowG.grow (h : RowG T c base w v l rs) (bs : Array Obj) (d : Nat) : RowG T c base (w.grow bs d) v l rs := h.keep (by simp) fun k _ hlt => World.heap_grow _ _ _ hlt
theorem RowG.drewN (h : RowG T c base w v l rs) (n : Nat) : RowG T c base (w.drewN n) v l rs := h.keep (Nat.le_refl _) fun _ _ _ => rfl
theorem RowG.setCell (h : RowG T c base w v l rs) {a : Addr} (ha : a.block < base) (u : Value) : RowG T c base (w.setCell a u) v l rs :=
  h.keep (by simp) fun k hk _ => Below.heap_setCell _ _ _ _ (by omega)
theorem RowG.lt (h : RowG T c base w v l rs) : ∀ k, v.ownBlock = some k → base ≤ k ∧ k < w.heap.size := h.own.lt
theorem RowG.form (h : RowG T c base w v l rs) : ∃ a cap, v = .slice a l.length cap := by
  rcases h.own.2 with ⟨rfl, h0⟩ | ⟨g, cap, cur, rfl, _⟩
  · exact ⟨none, 0, by rw [h0]⟩
  · exact ⟨_, cap, rfl⟩
theorem flatten_length (l : List (List Value)) (c : Nat) (h : ∀ x ∈ l, x.length = c) : l.flatten.length = l.length * c := by
  induction l with
  | nil => simp
  | cons x r ih =>
    rw [List.flatten_cons, List.length_append, ih fun y hy => h y (List.mem_cons_of_mem _ hy), h x (List.mem_cons_self), List.length_cons]
    rw [Nat.add_mul]; omega
theorem flatten_get (l : List (List Value)) (c : Nat) (h : ∀ x ∈ l, x.length = c) (i j : Nat) (hj : j < c) (hi : i < l.length) : l.flatten[i * c + j]? = (l.getD i [])[j]? := by
  induction l generalizing i with
  | nil => simp at hi
  | cons x r ih =>
    have hx := h x (List.mem_cons_self)
    rw [List.flatten_cons]
    cases i with
    | zero => rw [List.getElem?_append_left (by omega)]; simp
    | succ i =>
      rw [List.getElem?_append_right (by rw [hx, Nat.add_mul]; omega), List.getD_cons_succ, ← ih (fun y hy => h y (List.mem_cons_of_mem _ hy)) i (by simpa using hi)]
      congr 1; rw [hx, Nat.add_mul]; omega
/-- The cells of a row. -/
theorem RowG.cells (h : RowG T c base w v l rs) : ∃ a cap, v = .slice a l.length cap ∧ (l.length = 0 ∨ ∃ g, a = some ⟨g, 0, none⟩ ∧ base ≤ g ∧ g < w.heap.size ∧ ∀ i j u, i < l.length → j < c → (l.getD i [])[j]? = some u → w.cell? ⟨g, i * c + j, none⟩ = some u) := by
  rcases h.own.2 with ⟨rfl, h0⟩ | ⟨g, cap, cur, rfl, hb, hg, _⟩
  · exact ⟨none, 0, by rw [h0], .inl h0⟩
  · refine ⟨_, cap, rfl, .inr ⟨g, rfl, hb, (Array.getElem?_eq_some_iff.1 hg).1, fun i j u hi hj hu => ?_⟩⟩
    have := World.ownsRow.cells (g := g) h.own rfl (i * c + j) u (by rw [flatten_get l c h.len i j hj hi]; exact hu)
    rw [addr_add] at this; exact this
/-- One element more. -/
theorem RowG.push {news : List Value} {rs2 : List (Ex × Value)} {m g cap H n : Nat} {xs : List Value} (h : RowG T c base w v l rs) (hr : ∀ x ∈ rs2, RepE (fun b => m ≤ b) w x.1 x.2) (hm : base ≤ m) (hv : ∀ k, v.ownBlock = some k → k < m)
    (hc : news.length = c) (hn : n = l.length + 1) (hxs : xs = l.flatten ++ news) (ho : w'.ownsRow base T c (.slice (some ⟨g, 0, none⟩) n cap) n xs) (hg : w.grownBy w' v.ownBlock) (hat : v.ownBlock = some g ∨ g = H) (hH : w.heap.size = H) :
    RowG T c base w' (.slice (some ⟨g, 0, none⟩) n cap) (l ++ [news]) (rs ++ rs2) := by
  subst hH hn hxs
  refine ⟨by rw [List.length_append, List.flatten_append]; simpa using ho, fun x hx => ?_, fun x hx => ?_⟩
  · rw [List.mem_append] at hx
    rcases hx with hx | hx
    · exact h.len x hx
    · obtain rfl : x = news := by simpa using hx
      exact hc
  · have key : ∀ (e' : Ex) (u : Value), RepE (fun b => base ≤ b ∧ v.ownBlock ≠ some b) w e' u → RepE (fun b => base ≤ b ∧ (Value.slice (some ⟨g, 0, none⟩) (l.length + 1) cap).ownBlock ≠ some b) w' e' u := by
      intro e' u hu
      refine (hu.mono' (S' := fun b => (base ≤ b ∧ v.ownBlock ≠ some b) ∧ g ≠ b) ?_ |>.keep hg.size ?_).mono ?_
      · rintro b ⟨h1, h2⟩ hlt
        refine ⟨⟨h1, h2⟩, ?_⟩
        rcases hat with hat | hat
        · intro e; exact h2 (by rw [hat, e])
        · omega
      · rintro b o ⟨⟨_, h2⟩, _⟩ hlt
        exact World.cell?_of_block (hg.block b hlt (Ne.symm h2))
      · rintro b ⟨⟨h1, _⟩, h3⟩
        exact ⟨h1, by simpa [Value.ownBlock] using h3⟩
    rw [List.mem_append] at hx
    rcases hx with hx | hx
    · exact key _ _ (h.rep x hx)
    · exact key _ _ ((hr x hx).mono fun b hb => ⟨by omega, fun e => by have := hv b e; omega⟩)
theorem RowG.base_le {base' : Nat} (h : RowG T c base w v l rs) (hb : base' ≤ base) : RowG T c base' w v l rs :=
  ⟨ownsRow_base h.own hb, h.len, fun x hx => (h.rep x hx).mono fun b hb2 => ⟨by omega, hb2.2⟩⟩
end

/-- Raw versions. -/
structure RawV where
  frm : Int
  mode : Int
  unit : Int
  credits : List Int
  series : List Int
  lets : List (List Int)
  ifs : List (List Int)
  pays : List (List Int)
  cuts : List (List Int)
  twist : Int
/-- A slice of slices of integers that came in. -/
def RowsAt (w : World) (v : Value) (zss : List (List Int)) : Prop :=
  zss.length ≤ 140737488355328 ∧ ∃ a cap, v = .slice a zss.length cap ∧ (zss.length = 0 ∨ ∃ b off, a = some ⟨b, off, none⟩ ∧ b < w.heap.size ∧ ∀ i, i < zss.length → ∃ u, w.cell? ⟨b, off + i, none⟩ = some u ∧ IntsAt w u (zss.getD i []))
/-- The raw version's ten cells. -/
def RawAt (w : World) (cs : List Value) (R : RawV) : Prop :=
  I64 R.frm ∧ I64 R.mode ∧ I64 R.unit ∧ I64 R.twist ∧ ∃ vc vs vl vi vp vu, cs = [.int .i64 R.frm, .int .i64 R.mode, .int .i64 R.unit, vc, vs, vl, vi, vp, vu, .int .i64 R.twist] ∧
    IntsAt w vc R.credits ∧ IntsAt w vs R.series ∧ RowsAt w vl R.lets ∧ RowsAt w vi R.ifs ∧ RowsAt w vp R.pays ∧ RowsAt w vu R.cuts
/-- The name of a definition. -/
def letN (i : Nat) : ByteArray := ⟨#[(112 + i % 8).toUInt8, 95, (48 + i / 8).toUInt8]⟩
/-- The units of rounding. -/
def unitOf (i : Int) : Int := if i < 2 then 1 else if i = 2 then 10 else if i = 3 then 100 else 7
def kindOf (i : Int) : Int := if i = 0 then 6 else if i = 1 then 9 else if i = 2 then 7 else if i = 3 then 8 else if i = 4 then 10 else 5
def credK (R : RawV) (i : Nat) : Int := kindOf ((i + pick (R.credits.getD 0 0) 6) % 6)
def credL (R : RawV) (i : Nat) : Int := if (R.credits.getD i 0).tmod 3 = 0 then pick (R.credits.getD i 0) 900 + 1 else 0
def serY (R : RawV) (i : Nat) : Int := 1930 + 25 * i + pick (R.series.getD i 0) 20
def serN (R : RawV) (i : Nat) : Int := mkN (pick (R.series.getD i 0) 4000 + 1) 1000
def serD (R : RawV) (i : Nat) : Int := mkD (pick (R.series.getD i 0) 4000 + 1) 1000
def letD (R : RawV) (i : Nat) : Int := 1 + ((R.lets.getD i []).length % 4 : Nat)
def envF (R : RawV) (k : Nat) : List (ByteArray × Int) := (List.range k).map fun i => (letN i, letD R i)
def nCred (R : RawV) : Nat := min R.credits.length 4
def nSer (R : RawV) : Nat := min R.series.length 6
def nLet (R : RawV) : Nat := min R.lets.length 5
def nPay (R : RawV) : Nat := min R.pays.length 3
def nCut (R : RawV) : Nat := min R.cuts.length 2
def letE (R : RawV) (i : Nat) : Ex := topF (R.lets.getD i []) (envF R i) (letD R i)
def payE (R : RawV) (i : Nat) : Ex := topF (R.pays.getD i []) (envF R (nLet R)) 4
def ifE (R : RawV) (i : Nat) : Ex := topF (R.ifs.getD i []) (envF R (nLet R)) 1
def cutE (R : RawV) (i : Nat) : Ex := topF (R.cuts.getD i []) (envF R (nLet R)) 2
theorem envF_succ (R : RawV) (k : Nat) : envF R (k + 1) = envF R k ++ [(letN k, letD R k)] := by simp [envF, List.range_succ]
theorem envF_length (R : RawV) (k : Nat) : (envF R k).length = k := by simp [envF]
theorem letN_size (i : Nat) : (letN i).size = 3 := rfl
theorem three_bytes (w : World) (a b c : Int) : (convert 105 9 (.slice (some ⟨w.heap.size, 0, none⟩) 3 3)).run Try.prog (w.alloc (.cells #[.int .u8 a, .int .u8 b, .int .u8 c] 5)) = .ok (.string (strOfNums [a, b, c])) (w.alloc (.cells #[.int .u8 a, .int .u8 b, .int .u8 c] 5)) := by
  refine run_convert_bytes_arg (P := Try.prog) _ 105 5 Try.underlying105 Try.underlying5 w.heap.size 0 3 3 [a, b, c] rfl (fun i hi => ?_) 9 Try.underlying9
  obtain rfl | rfl | rfl : i = 0 ∨ i = 1 ∨ i = 2 := by omega
  · rw [World.cell?_alloc_at _ _ _ _ rfl]; rfl
  · rw [World.cell?_alloc_at _ _ _ _ rfl]; rfl
  · rw [World.cell?_alloc_at _ _ _ _ rfl]; rfl
set_option maxHeartbeats 1000000 in
theorem letName_0 (w : World) : Calls Try.prog 26 #[.int .i64 0] w fun e w' => e = .returned (.string (letN 0)) ∧ w.Grows w' := by
  have kc := three_bytes w 112 95 48
  go_enter Try.func26, Try.ntmps26
  go_wp2_with fail
  go_returns
  exact ⟨rfl, .of_below (by (repeat' (first | (with_reducible exact Below.refl _ _) | (with_reducible assumption) | (with_reducible refine Below.grow ?_ ?_ _ _) | (with_reducible refine Below.alloc ?_ ?_ _) | (with_reducible refine Below.drewN ?_ _) | (with_reducible refine Below.drew ?_) | (with_reducible refine Below.setCell ?_ ?_ _) | go_size)))⟩
set_option maxHeartbeats 1000000 in
theorem letName_1 (w : World) : Calls Try.prog 26 #[.int .i64 1] w fun e w' => e = .returned (.string (letN 1)) ∧ w.Grows w' := by
  have kc := three_bytes w 113 95 48
  go_enter Try.func26, Try.ntmps26
  go_wp2_with fail
  go_returns
  exact ⟨rfl, .of_below (by (repeat' (first | (with_reducible exact Below.refl _ _) | (with_reducible assumption) | (with_reducible refine Below.grow ?_ ?_ _ _) | (with_reducible refine Below.alloc ?_ ?_ _) | (with_reducible refine Below.drewN ?_ _) | (with_reducible refine Below.drew ?_) | (with_reducible refine Below.setCell ?_ ?_ _) | go_size)))⟩
set_option maxHeartbeats 1000000 in
theorem letName_2 (w : World) : Calls Try.prog 26 #[.int .i64 2] w fun e w' => e = .returned (.string (letN 2)) ∧ w.Grows w' := by
  have kc := three_bytes w 114 95 48
  go_enter Try.func26, Try.ntmps26
  go_wp2_with fail
  go_returns
  exact ⟨rfl, .of_below (by (repeat' (first | (with_reducible exact Below.refl _ _) | (with_reducible assumption) | (with_reducible refine Below.grow ?_ ?_ _ _) | (with_reducible refine Below.alloc ?_ ?_ _) | (with_reducible refine Below.drewN ?_ _) | (with_reducible refine Below.drew ?_) | (with_reducible refine Below.setCell ?_ ?_ _) | go_size)))⟩
set_option maxHeartbeats 1000000 in
theorem letName_3 (w : World) : Calls Try.prog 26 #[.int .i64 3] w fun e w' => e = .returned (.string (letN 3)) ∧ w.Grows w' := by
  have kc := three_bytes w 115 95 48
  go_enter Try.func26, Try.ntmps26
  go_wp2_with fail
  go_returns
  exact ⟨rfl, .of_below (by (repeat' (first | (with_reducible exact Below.refl _ _) | (with_reducible assumption) | (with_reducible refine Below.grow ?_ ?_ _ _) | (with_reducible refine Below.alloc ?_ ?_ _) | (with_reducible refine Below.drewN ?_ _) | (with_reducible refine Below.drew ?_) | (with_reducible refine Below.setCell ?_ ?_ _) | go_size)))⟩
set_option maxHeartbeats 1000000 in
theorem letName_4 (w : World) : Calls Try.prog 26 #[.int .i64 4] w fun e w' => e = .returned (.string (letN 4)) ∧ w.Grows w' := by
  have kc := three_bytes w 116 95 48
  go_enter Try.func26, Try.ntmps26
  go_wp2_with fail
  go_returns
  exact ⟨rfl, .of_below (by (repeat' (first | (with_reducible exact Below.refl _ _) | (with_reducible assumption) | (with_reducible refine Below.grow ?_ ?_ _ _) | (with_reducible refine Below.alloc ?_ ?_ _) | (with_reducible refine Below.drewN ?_ _) | (with_reducible refine Below.drew ?_) | (with_reducible refine Below.setCell ?_ ?_ _) | go_size)))⟩
theorem letName_any (k : Nat) (w : World) (hk : k < 5) : Calls Try.prog 26 #[.int .i64 k] w fun e w' => e = .returned (.string (letN k)) ∧ w.Grows w' := by
  obtain rfl | rfl | rfl | rfl | rfl : k = 0 ∨ k = 1 ∨ k = 2 ∨ k = 3 ∨ k = 4 := by omega
  · exact letName_0 w
  · exact letName_1 w
  · exact letName_2 w
  · exact letName_3 w
  · exact letName_4 w
end Go.Proofs.Ytldelkkeimlfcaa
