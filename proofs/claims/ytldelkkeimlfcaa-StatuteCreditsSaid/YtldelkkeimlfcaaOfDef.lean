/- What the walk of Of needs. -/
import Derived.Test.YtldelkkeimlfcaaRowX
import Derived.Deep.CutBlock
import Derived.Deep.CutRange
import Derived.Deep.DeepCutAuto
set_option linter.all false
namespace Go.Proofs.Ytldelkkeimlfcaa
open Go.RowKit

def raw10 (R : RawV) (vc vs vl vi vp vu : Value) : Array Value := #[.int .i64 R.frm, .int .i64 R.mode, .int .i64 R.unit, vc, vs, vl, vi, vp, vu, .int .i64 R.twist]
theorem heap_alloc_if (w : World) (o : Obj) (k : Nat) : (w.alloc o).heap[k]? = if k = w.heap.size then some o else w.heap[k]? := by
  split
  · rename_i h; subst h; exact heap_alloc_new w o
  · rename_i h
    show (w.heap.push o)[k]? = _
    rw [Array.getElem?_push, if_neg h]
theorem heap_drew' (w : World) : w.drew.heap = w.heap := rfl
def credCells (R : RawV) (k : Nat) : List (List Value) := (List.range k).map fun i => [.int .i64 (credK R i), .int .i64 (credL R i)]
theorem credCells_succ (R : RawV) (k : Nat) : credCells R (k + 1) = credCells R k ++ [[.int .i64 (credK R k), .int .i64 (credL R k)]] := by simp [credCells, List.range_succ]
theorem credCells_length (R : RawV) (k : Nat) : (credCells R k).length = k := by simp [credCells]
theorem kinds_get (i : Int) (h0 : 0 ≤ i) (h6 : i < 6) : (#[Value.int .i64 6, .int .i64 9, .int .i64 7, .int .i64 8, .int .i64 10, .int .i64 5] : Array Value)[i.toNat]? = some (.int .i64 (kindOf i)) := by
  obtain rfl | rfl | rfl | rfl | rfl | rfl : i = 0 ∨ i = 1 ∨ i = 2 ∨ i = 3 ∨ i = 4 ∨ i = 5 := by omega
  all_goals rfl
def serCells (R : RawV) (k : Nat) : List (List Value) := (List.range k).map fun i => [.int .i64 (serY R i), .int .i64 (serN R i), .int .i64 (serD R i)]
theorem serCells_succ (R : RawV) (k : Nat) : serCells R (k + 1) = serCells R k ++ [[.int .i64 (serY R k), .int .i64 (serN R k), .int .i64 (serD R k)]] := by simp [serCells, List.range_succ]
theorem serCells_length (R : RawV) (k : Nat) : (serCells R k).length = k := by simp [serCells]
theorem infoIdx : (Try.prog.info? 67).map (fun i => (i.zero, i.size, i.bytes)) = some (some (.agg #[.int .i64 0, .int .i64 0, .int .i64 0]), 3, 24) := by kernel_rfl
theorem infoCred : (Try.prog.info? 63).map (fun i => (i.zero, i.size, i.bytes)) = some (some (.agg #[.int .i64 0, .int .i64 0]), 2, 16) := by kernel_rfl
def kindsO : Obj := .cells #[.int .i64 6, .int .i64 9, .int .i64 7, .int .i64 8, .int .i64 10, .int .i64 5] 3
theorem OfAt.start_a (w : World) (cs os : Array Value) (A : Obj) : OfAt w cs (w.heap.size + 1 + 1 + 1) os ((((w.alloc (.cells cs 25)).alloc ((.cells #[.int .i64 0, .int .i64 0, .int .i64 0, .slice none 0 0, .slice none 0 0, .slice none 0 0, .slice none 0 0, .slice none 0 0] 34))).alloc A).alloc (.cells os 34)).drew :=
  ⟨by (repeat' (first | (with_reducible exact Below.refl _ _) | (with_reducible assumption) | (with_reducible refine Below.grow ?_ ?_ _ _) | (with_reducible refine Below.alloc ?_ ?_ _) | (with_reducible refine Below.drewN ?_ _) | (with_reducible refine Below.drew ?_) | (with_reducible refine Below.setCell ?_ ?_ _) | go_size)), by rw [heap_drew']; (repeat (first | (rw [heap_alloc_if, if_pos (by simp; done)]; done) | (rw [heap_alloc_if, if_neg (by simp; omega)]) | (rw [heap_alloc_if, if_neg (by simp; done)]))), by rw [heap_drew']; (repeat (first | (rw [heap_alloc_if, if_pos (by simp; done)]; done) | (rw [heap_alloc_if, if_neg (by simp; omega)]) | (rw [heap_alloc_if, if_neg (by simp; done)]))), by rw [heap_drew']; (repeat (first | (rw [heap_alloc_if, if_pos (by simp; done)]; done) | (rw [heap_alloc_if, if_neg (by simp; omega)]) | (rw [heap_alloc_if, if_neg (by simp; done)]))), by omega⟩
theorem OfAt.start_b (w : World) (cs os : Array Value) (A : Obj) : OfAt w cs (w.heap.size + 1 + 1) os ((((w.alloc (.cells cs 25)).alloc ((.cells #[.int .i64 0, .int .i64 0, .int .i64 0, .slice none 0 0, .slice none 0 0, .slice none 0 0, .slice none 0 0, .slice none 0 0] 34))).alloc (.cells os 34)).alloc A).drew :=
  ⟨by (repeat' (first | (with_reducible exact Below.refl _ _) | (with_reducible assumption) | (with_reducible refine Below.grow ?_ ?_ _ _) | (with_reducible refine Below.alloc ?_ ?_ _) | (with_reducible refine Below.drewN ?_ _) | (with_reducible refine Below.drew ?_) | (with_reducible refine Below.setCell ?_ ?_ _) | go_size)), by rw [heap_drew']; (repeat (first | (rw [heap_alloc_if, if_pos (by simp; done)]; done) | (rw [heap_alloc_if, if_neg (by simp; omega)]) | (rw [heap_alloc_if, if_neg (by simp; done)]))), by rw [heap_drew']; (repeat (first | (rw [heap_alloc_if, if_pos (by simp; done)]; done) | (rw [heap_alloc_if, if_neg (by simp; omega)]) | (rw [heap_alloc_if, if_neg (by simp; done)]))), by rw [heap_drew']; (repeat (first | (rw [heap_alloc_if, if_pos (by simp; done)]; done) | (rw [heap_alloc_if, if_neg (by simp; omega)]) | (rw [heap_alloc_if, if_neg (by simp; done)]))), by omega⟩
theorem arr_at (W : World) (pu : Int) (H : Nat) (hH : W.heap.size = H) (h0 : 0 ≤ pu) (h5 : pu < 5) : (W.alloc (.cells #[.int .i64 1, .int .i64 1, .int .i64 10, .int .i64 100, .int .i64 7] 3)).cell? ⟨H, pu.toNat, none⟩ = some (.int .i64 (unitOf pu)) := by
  subst hH
  rw [World.cell?_alloc_at _ _ _ _ rfl]
  obtain rfl | rfl | rfl | rfl | rfl : pu = 0 ∨ pu = 1 ∨ pu = 2 ∨ pu = 3 ∨ pu = 4 := by omega
  all_goals rfl
theorem infoLet : (Try.prog.info? 75).map (fun i => (i.zero, i.size, i.bytes)) = some (some (.agg #[.string ⟨#[]⟩, .int .i64 0, .int .i64 0, .int .i64 0, .int .i64 0, .string ⟨#[]⟩, .slice none 0 0]), 7, 88) := by kernel_rfl
theorem infoBind : (Try.prog.info? 77).map (fun i => (i.zero, i.size, i.bytes)) = some (some (.agg #[.string ⟨#[]⟩, .int .i64 0]), 2, 24) := by kernel_rfl
theorem Expr_any2 (lv ev : Value) (zs : List Int) (env : List (ByteArray × Int)) (dim : Int) (E : Ex) (w : World) (hl0 : ListAt w w.heap.size lv zs) (he0 : EnvAt w w.heap.size ev env) (hd1 : 1 ≤ dim) (hd4 : dim ≤ 4) (hE : Hid (topF zs env dim = E)) :
    Calls Try.prog 27 #[lv, .int .i64 dim, ev] w (MadeEx w E) := by
  have := Expr_any lv ev zs env dim w hl0 he0 hd1 hd4
  rw [hE.out] at this
  exact this
theorem RowG.toX {T : TypeId} {c base : Nat} {X : Nat → Prop} {w : World} {v : Value} {l : List (List Value)} (h : RowG T c base w v l []) (hX : ∀ k, v.ownBlock = some k → X k) : RowX T c base X w v l [] :=
  ⟨h.own, h.len, hX, fun x hx => by cases hx⟩
theorem let_one (s : ByteArray) (e : Ex) (v : Value) (hv : v.oneCell' = true) : ∀ u ∈ (Value.string s :: cells1 e v), u.oneCell' = true := by
  intro u hu
  rcases List.mem_cons.1 hu with rfl | hu
  · rfl
  · exact cells1_one _ _ hv u hu
theorem rep_one {S : Nat → Prop} {w : World} {e : Ex} {v : Value} (h : RepE S w e v) : ∀ x ∈ [(e, v)], RepE S w x.1 x.2 := by
  intro x hx
  obtain rfl : x = (e, v) := by simpa using hx
  exact h
theorem apart_new {o : Option Nat} {g H : Nat} {w : World} (h : o = some g ∨ g = H) (hH : w.heap.size = H) : ∀ b, o ≠ some b → b < w.heap.size → (o ≠ some b ∧ b ≠ g) := by
  intro b hb hl
  refine ⟨hb, fun e => ?_⟩
  rcases h with h | h
  · exact hb (by rw [h, e])
  · omega
abbrev GrT := Int × (Ex × Value) × (Ex × Value)
def grL (q : List GrT) : List (List Value) := q.map fun t => .int .i64 t.1 :: (cells1 t.2.1.1 t.2.1.2 ++ cells1 t.2.2.1 t.2.2.2)
def grR (q : List GrT) : List (Ex × Value) := q.flatMap fun t => [t.2.1, t.2.2]
def GrQ (R : RawV) (k : Nat) (q : List GrT) : Prop := q.map (fun t => (t.1, t.2.1.1, t.2.2.1)) = (List.range k).map fun (i : Nat) => ((i : Int) + 1, ifE R i, payE R i)
theorem GrQ.length {R : RawV} {k : Nat} {q : List GrT} (h : GrQ R k q) : q.length = k := by
  have := congrArg List.length h
  simpa using this
theorem GrQ.push {R : RawV} {k : Nat} {q : List GrT} (h : GrQ R k q) (v u : Value) : GrQ R (k + 1) (q ++ [((k : Int) + 1, (ifE R k, v), (payE R k, u))]) := by
  unfold GrQ at *
  rw [List.map_append, h, List.range_succ, List.map_append]; rfl
theorem grL_push (q : List GrT) (t : GrT) : grL (q ++ [t]) = grL q ++ [.int .i64 t.1 :: (cells1 t.2.1.1 t.2.1.2 ++ cells1 t.2.2.1 t.2.2.2)] := by simp [grL]
theorem grR_push (q : List GrT) (t : GrT) : grR (q ++ [t]) = grR q ++ [t.2.1, t.2.2] := by simp [grR]
theorem infoGrant : (Try.prog.info? 79).map (fun i => (i.zero, i.size, i.bytes)) = some (some (.agg #[.int .i64 0, .int .i64 0, .int .i64 0, .int .i64 0, .int .i64 0, .string ⟨#[]⟩, .slice none 0 0, .int .i64 0, .int .i64 0, .int .i64 0, .int .i64 0, .string ⟨#[]⟩, .slice none 0 0]), 13, 152) := by kernel_rfl
theorem gr_one (b : Int) (e f : Ex) (v u : Value) (hv : v.oneCell' = true) (hu : u.oneCell' = true) : ∀ x ∈ (Value.int .i64 b :: (cells1 e v ++ cells1 f u)), x.oneCell' = true := by
  intro x hx
  rcases List.mem_cons.1 hx with rfl | hx
  · rfl
  · rcases List.mem_append.1 hx with hx | hx
    · exact cells1_one _ _ hv x hx
    · exact cells1_one _ _ hu x hx
theorem rep_two {S : Nat → Prop} {w : World} {e f : Ex} {v u : Value} (h : RepE S w e v) (h2 : RepE S w f u) : ∀ x ∈ [(e, v), (f, u)], RepE S w x.1 x.2 := by
  intro x hx
  simp only [List.mem_cons, List.not_mem_nil, or_false] at hx
  rcases hx with rfl | rfl
  · exact h
  · exact h2
theorem ListAt.nil (w : World) (s : Nat) : ListAt w s (.slice none 0 0) [] := ⟨by simp, none, 0, rfl, .inl rfl⟩
def reL (q : List (Int × (Ex × Value))) : List (List Value) := q.map fun t => .int .i64 t.1 :: cells1 t.2.1 t.2.2
def ReQ (R : RawV) (k : Nat) (q : List (Int × (Ex × Value))) : Prop := q.map (fun t => (t.1, t.2.1)) = (List.range k).map fun (i : Nat) => ((i : Int) + 1, cutE R i)
theorem ReQ.length {R : RawV} {k : Nat} {q : List (Int × (Ex × Value))} (h : ReQ R k q) : q.length = k := by
  have := congrArg List.length h
  simpa using this
theorem ReQ.push {R : RawV} {k : Nat} {q : List (Int × (Ex × Value))} (h : ReQ R k q) (v : Value) : ReQ R (k + 1) (q ++ [((k : Int) + 1, (cutE R k, v))]) := by
  unfold ReQ at *
  rw [List.map_append, h, List.range_succ, List.map_append]; rfl
theorem reL_push (q : List (Int × (Ex × Value))) (b : Int) (e : Ex) (v : Value) : reL (q ++ [(b, (e, v))]) = reL q ++ [.int .i64 b :: cells1 e v] := by simp [reL]
theorem re_one (b : Int) (e : Ex) (v : Value) (hv : v.oneCell' = true) : ∀ u ∈ (Value.int .i64 b :: cells1 e v), u.oneCell' = true := by
  intro u hu
  rcases List.mem_cons.1 hu with rfl | hu
  · rfl
  · exact cells1_one _ _ hv u hu
theorem infoReduce : (Try.prog.info? 81).map (fun i => (i.zero, i.size, i.bytes)) = some (some (.agg #[.int .i64 0, .int .i64 0, .int .i64 0, .int .i64 0, .int .i64 0, .string ⟨#[]⟩, .slice none 0 0]), 7, 80) := by kernel_rfl
def tlC : Code → Code
  | .seq _ b => b
  | c => c
end Go.Proofs.Ytldelkkeimlfcaa
