/- Rows apart from other blocks; Of's memory. -/
import Derived.Test.YtldelkkeimlfcaaVer
import Derived.Test.YtldelkkeimlfcaaTake
import Derived.Lib.SmallJoins
set_option linter.all false
namespace Go.Proofs.Ytldelkkeimlfcaa
open Go.RowKit

/-- As RowG, all of it in blocks of X. -/
structure RowX (T : TypeId) (c base : Nat) (X : Nat → Prop) (w : World) (v : Value) (l : List (List Value)) (rs : List (Ex × Value)) : Prop where
  own : w.ownsRow base T c v l.length l.flatten
  len : ∀ x ∈ l, x.length = c
  ownX : ∀ k, v.ownBlock = some k → X k
  rep : ∀ x ∈ rs, RepE (fun b => (base ≤ b ∧ X b) ∧ v.ownBlock ≠ some b) w x.1 x.2
section
variable {T : TypeId} {c base : Nat} {X X' : Nat → Prop} {w w' : World} {v : Value} {l : List (List Value)} {rs : List (Ex × Value)}
theorem RowX.nil (T : TypeId) (c base : Nat) (X : Nat → Prop) (w : World) : RowX T c base X w (.slice none 0 0) [] [] := ⟨World.ownsRow_nil _ _ _ _, fun _ h => by (cases h), fun _ h => by (cases h), fun _ h => by (cases h)⟩
theorem RowX.toG (h : RowX T c base X w v l rs) : RowG T c base w v l rs := ⟨h.own, h.len, fun x hx => (h.rep x hx).mono fun _ hb => ⟨hb.1.1, hb.2⟩⟩
theorem RowX.keep (h : RowX T c base X w v l rs) (hsz : w.heap.size ≤ w'.heap.size) (hw : ∀ k, base ≤ k → X k → k < w.heap.size → w'.heap[k]? = w.heap[k]?) : RowX T c base X w' v l rs := by
  refine ⟨?_, h.len, h.ownX, fun x hx => (h.rep x hx).keep hsz fun b o hb hlt => World.cell?_of_block (hw b hb.1.1 hb.1.2 hlt)⟩
  obtain ⟨h1, h2⟩ := h.own
  refine ⟨h1, ?_⟩
  rcases h2 with h2 | ⟨g, cap, cur, rfl, hb, hg, r⟩
  · exact .inl h2
  · have hlt : g < w.heap.size := (Array.getElem?_eq_some_iff.1 hg).1
    exact .inr ⟨g, cap, cur, rfl, hb, by rw [hw g hb (h.ownX g rfl) hlt]; exact hg, r⟩
theorem RowX.alloc (h : RowX T c base X w v l rs) (o : Obj) : RowX T c base X (w.alloc o) v l rs := h.keep (by simp) fun k _ _ hlt => Below.heap_alloc w o k hlt
theorem RowX.grow (h : RowX T c base X w v l rs) (bs : Array Obj) (d : Nat) : RowX T c base X (w.grow bs d) v l rs := h.keep (by simp) fun k _ _ hlt => World.heap_grow _ _ _ hlt
theorem RowX.drew (h : RowX T c base X w v l rs) : RowX T c base X w.drew v l rs := h.keep (Nat.le_refl _) fun _ _ _ _ => rfl
theorem RowX.setCell (h : RowX T c base X w v l rs) {a : Addr} (ha : a.block < base) (u : Value) : RowX T c base X (w.setCell a u) v l rs :=
  h.keep (by simp) fun k hk _ _ => Below.heap_setCell _ _ _ _ (by omega)
theorem RowX.grown {row : Option Nat} (h : RowX T c base X w v l rs) (hg : w.grownBy w' row) (hr : ∀ b, X b → some b ≠ row) : RowX T c base X w' v l rs :=
  h.keep hg.size fun k _ hX hlt => hg.block k hlt (hr k hX)
theorem RowX.mono (h : RowX T c base X w v l rs) (hX : ∀ b, X b → b < w.heap.size → X' b) : RowX T c base X' w v l rs :=
  ⟨h.own, h.len, fun k hk => hX k (h.ownX k hk) (h.own.lt k hk).2, fun x hx => (h.rep x hx).mono' fun b hb hlt => ⟨⟨hb.1.1, hX b hb.1.2 hlt⟩, hb.2⟩⟩
theorem RowX.form (h : RowX T c base X w v l rs) : ∃ a cap, v = .slice a l.length cap := h.toG.form
theorem RowX.lt (h : RowX T c base X w v l rs) : ∀ k, v.ownBlock = some k → base ≤ k ∧ k < w.heap.size := h.own.lt
theorem RowX.push {news : List Value} {rs2 : List (Ex × Value)} {m g cap H n : Nat} {xs : List Value} (h : RowX T c base X w v l rs) (hr : ∀ x ∈ rs2, RepE (fun b => m ≤ b) w x.1 x.2) (hm : base ≤ m) (hXm : ∀ b, m ≤ b → X b) (hv : ∀ k, v.ownBlock = some k → k < m)
    (hc : news.length = c) (hn : n = l.length + 1) (hxs : xs = l.flatten ++ news) (ho : w'.ownsRow base T c (.slice (some ⟨g, 0, none⟩) n cap) n xs) (hg : w.grownBy w' v.ownBlock) (hat : v.ownBlock = some g ∨ g = H) (hH : w.heap.size = H) (hmH : m ≤ H) :
    RowX T c base X w' (.slice (some ⟨g, 0, none⟩) n cap) (l ++ [news]) (rs ++ rs2) := by
  subst hH hn hxs
  refine ⟨by rw [List.length_append, List.flatten_append]; simpa using ho, fun x hx => ?_, fun k hk => ?_, fun x hx => ?_⟩
  · rw [List.mem_append] at hx
    rcases hx with hx | hx
    · exact h.len x hx
    · obtain rfl : x = news := by simpa using hx
      exact hc
  · obtain rfl : g = k := by simpa [Value.ownBlock] using hk
    rcases hat with hat | hat
    · exact h.ownX _ hat
    · exact hXm _ (by omega)
  · have key : ∀ (e' : Ex) (u : Value), RepE (fun b => (base ≤ b ∧ X b) ∧ v.ownBlock ≠ some b) w e' u → RepE (fun b => (base ≤ b ∧ X b) ∧ (Value.slice (some ⟨g, 0, none⟩) (l.length + 1) cap).ownBlock ≠ some b) w' e' u := by
      intro e' u hu
      refine (hu.mono' (S' := fun b => ((base ≤ b ∧ X b) ∧ v.ownBlock ≠ some b) ∧ g ≠ b) ?_ |>.keep hg.size ?_).mono ?_
      · rintro b ⟨h1, h2⟩ hlt
        refine ⟨⟨h1, h2⟩, ?_⟩
        rcases hat with hat | hat
        · intro e; exact h2 (by rw [hat, e])
        · omega
      · rintro b o ⟨⟨_, h2⟩, _⟩ hlt
        exact World.cell?_of_block (hg.block b hlt (Ne.symm h2))
      · rintro b ⟨⟨h1, _⟩, h3⟩
        exact ⟨h1, by simpa [Value.ownBlock] using h3⟩
    rw [List.mem_append] at hx
    rcases hx with hx | hx
    · exact key _ _ (h.rep x hx)
    · exact key _ _ ((hr x hx).mono fun b hb => ⟨⟨by omega, hXm b hb⟩, fun e => by have := hv b e; omega⟩)
end
/-- Definitions as they are laid: name, body, the body's operands. -/
def letL (q : List (ByteArray × (Ex × Value))) : List (List Value) := q.map fun t => .string t.1 :: cells1 t.2.1 t.2.2
def LetQ (R : RawV) (k : Nat) (q : List (ByteArray × (Ex × Value))) : Prop := q.map (fun t => (t.1, t.2.1)) = (List.range k).map fun i => (letN i, letE R i)
theorem LetQ.nil (R : RawV) : LetQ R 0 [] := rfl
theorem LetQ.length {R : RawV} {k : Nat} {q : List (ByteArray × (Ex × Value))} (h : LetQ R k q) : q.length = k := by
  have := congrArg List.length h
  simpa using this
theorem LetQ.push {R : RawV} {k : Nat} {q : List (ByteArray × (Ex × Value))} (h : LetQ R k q) (v : Value) : LetQ R (k + 1) (q ++ [(letN k, (letE R k, v))]) := by
  unfold LetQ at *
  rw [List.map_append, h, List.range_succ, List.map_append]; rfl
theorem letL_push (q : List (ByteArray × (Ex × Value))) (s : ByteArray) (e : Ex) (v : Value) : letL (q ++ [(s, (e, v))]) = letL q ++ [.string s :: cells1 e v] := by simp [letL]
def envL (env : List (ByteArray × Int)) : List (List Value) := env.map fun b => [.string b.1, .int .i64 b.2]
theorem envL_push (env : List (ByteArray × Int)) (s : ByteArray) (d : Int) : envL (env ++ [(s, d)]) = envL env ++ [[.string s, .int .i64 d]] := by simp [envL]
theorem envF_size (R : RawV) (k : Nat) : ∀ x ∈ envF R k, x.1.size ≤ 140737488355328 := by
  intro x hx
  unfold envF at hx
  rw [List.mem_map] at hx
  obtain ⟨i, _, rfl⟩ := hx
  show (letN i).size ≤ _
  rw [letN_size]; omega
theorem EnvAt.of_row {w : World} {base T : Nat} {v : Value} {env : List (ByteArray × Int)} (h : RowG T 2 base w v (envL env) []) (hl : env.length ≤ 1000) (hs : ∀ x ∈ env, x.1.size ≤ 140737488355328) : EnvAt w w.heap.size v env := by
  obtain ⟨a, cap, hv, hc⟩ := h.cells
  have hlen : (envL env).length = env.length := by simp [envL]
  rw [hlen] at hv hc
  refine ⟨hl, hs, a, cap, hv, hc.imp id ?_⟩
  rintro ⟨g, ha, hb, hlt, hx⟩
  refine ⟨g, 0, ha, hlt, by omega, fun i hi => ?_⟩
  have hget : (envL env).getD i [] = [.string (env.getD i noBind).1, .int .i64 (env.getD i noBind).2] := by
    simp only [envL, List.getD_eq_getElem?_getD, List.getElem?_map, List.getElem?_eq_getElem hi]; rfl
  refine ⟨?_, ?_⟩
  · have := hx i 0 (.string (env.getD i noBind).1) hi (by omega) (by rw [hget]; rfl)
    rw [show 0 + i * 2 = i * 2 + 0 by omega]; exact this
  · have := hx i 1 (.int .i64 (env.getD i noBind).2) hi (by omega) (by rw [hget]; rfl)
    rw [show 0 + i * 2 + 1 = i * 2 + 1 by omega]; exact this
theorem ListAt.of_ints {w W : World} {u : Value} {zs : List Int} (h : IntsAt w u zs) (hb : Below w.heap.size w W) : ListAt W W.heap.size u zs := by
  obtain ⟨h0, _, a, cap, hv, h1⟩ := h
  refine ⟨h0, a, cap, hv, h1.imp id ?_⟩
  rintro ⟨b, off, ha, hlt, hc⟩
  have := hb.size
  exact ⟨b, off, ha, by omega, by omega, fun i hi => by rw [hb.cell (by exact hlt)]; exact hc i hi⟩
theorem IntsAt.form {w : World} {u : Value} {zs : List Int} (h : IntsAt w u zs) : ∃ a cap, u = .slice a zs.length cap := by
  obtain ⟨_, _, a, cap, hv, _⟩ := h
  exact ⟨a, cap, hv⟩
/-- Of's memory: its argument's box, its result's cell, and the version that it makes (block g). -/
structure OfAt (w : World) (cs : Array Value) (g : Nat) (os : Array Value) (wr : World) : Prop where
  bel : Below w.heap.size w wr
  box : wr.heap[w.heap.size]? = some (.cells cs 25 (0, 0))
  res : wr.heap[w.heap.size + 1]? = some (.cells #[.int .i64 0, .int .i64 0, .int .i64 0, .slice none 0 0, .slice none 0 0, .slice none 0 0, .slice none 0 0, .slice none 0 0] 34 (0, 0))
  out : wr.heap[g]? = some (.cells os 34 (0, 0))
  gge : w.heap.size + 2 ≤ g
section
variable {w wr w1 : World} {cs os : Array Value} {g : Nat}
theorem OfAt.lt (h : OfAt w cs g os wr) : g < wr.heap.size := (Array.getElem?_eq_some_iff.1 h.out).1
theorem OfAt.lt0 (h : OfAt w cs g os wr) : w.heap.size + 1 < wr.heap.size := (Array.getElem?_eq_some_iff.1 h.res).1
theorem OfAt.of_blocks (h : OfAt w cs g os wr) (hb : Below w.heap.size w w1) (h1 : ∀ k, k = w.heap.size ∨ k = w.heap.size + 1 ∨ k = g → w1.heap[k]? = wr.heap[k]?) : OfAt w cs g os w1 :=
  ⟨hb, by rw [h1 _ (.inl rfl)]; exact h.box, by rw [h1 _ (.inr (.inl rfl))]; exact h.res, by rw [h1 _ (.inr (.inr rfl))]; exact h.out, h.gge⟩
theorem OfAt.kept (h : OfAt w cs g os wr) (hb : Below w.heap.size w w1) (h1 : ∀ k, k < wr.heap.size → k = w.heap.size ∨ k = w.heap.size + 1 ∨ k = g → w1.heap[k]? = wr.heap[k]?) : OfAt w cs g os w1 := by
  have a := h.lt
  have b := h.lt0
  refine h.of_blocks hb fun k hk => h1 k ?_ hk
  rcases hk with rfl | rfl | rfl <;> omega
theorem OfAt.alloc (h : OfAt w cs g os wr) (o : Obj) : OfAt w cs g os (wr.alloc o) :=
  h.kept (h.bel.alloc h.bel.size o) fun k hk _ => Below.heap_alloc wr o k hk
theorem OfAt.grow (h : OfAt w cs g os wr) (bs : Array Obj) (d : Nat) : OfAt w cs g os (wr.grow bs d) :=
  h.kept (h.bel.grow h.bel.size bs d) fun k hk _ => World.heap_grow _ _ _ hk
theorem OfAt.drewN (h : OfAt w cs g os wr) (n : Nat) : OfAt w cs g os (wr.drewN n) := h.kept (h.bel.drewN n) fun _ _ _ => rfl
theorem OfAt.grown {row : Option Nat} (h : OfAt w cs g os wr) (hg : wr.grownBy w1 row) (hr : ∀ k, row = some k → g < k ∧ w.heap.size + 2 ≤ k) : OfAt w cs g os w1 :=
  h.kept (h.bel.grown hg h.bel.size fun k hk => by have := hr k hk; omega) fun k hk hk2 => hg.block k hk fun e => by
    have := hr k e.symm
    have := h.gge
    rcases hk2 with rfl | rfl | rfl <;> omega
theorem OfAt.store (h : OfAt w cs g os wr) (i : Nat) (v : Value) : OfAt w cs g (os.setIfInBounds i v) (wr.setCell ⟨g, i, none⟩ v) :=
  ⟨h.bel.setCell (by have := h.gge; show w.heap.size ≤ g; omega) v, by rw [Below.heap_setCell _ _ _ _ (by have := h.gge; show w.heap.size ≠ g; omega)]; exact h.box, by rw [Below.heap_setCell _ _ _ _ (by have := h.gge; show w.heap.size + 1 ≠ g; omega)]; exact h.res, Joins.block_setCell h.out v, h.gge⟩
end
/-- Nothing below has changed but block g. -/
structure Next (g : Nat) (a b : World) : Prop where
  size : a.heap.size ≤ b.heap.size
  blk : ∀ k, k < a.heap.size → k ≠ g → b.heap[k]? = a.heap[k]?
section
variable {g : Nat} {a b c : World}
theorem Next.refl (g : Nat) (a : World) : Next g a a := ⟨Nat.le_refl _, fun _ _ _ => rfl⟩
theorem Next.alloc (h : Next g a b) (o : Obj) : Next g a (b.alloc o) := ⟨by have := h.size; simp; omega, fun k hk hg => (Below.heap_alloc b o k (Nat.lt_of_lt_of_le hk h.size)).trans (h.blk k hk hg)⟩
theorem Next.grow (h : Next g a b) (bs : Array Obj) (d : Nat) : Next g a (b.grow bs d) := ⟨by have := h.size; simp; omega, fun k hk hg => (World.heap_grow _ _ _ (Nat.lt_of_lt_of_le hk h.size)).trans (h.blk k hk hg)⟩
theorem Next.drewN (h : Next g a b) (n : Nat) : Next g a (b.drewN n) := ⟨h.size, h.blk⟩
theorem Next.drew (h : Next g a b) : Next g a b.drew := ⟨h.size, h.blk⟩
theorem Next.grown {row : Option Nat} (h : Next g a b) (hg : b.grownBy c row) (hr : ∀ k, row = some k → a.heap.size ≤ k) : Next g a c :=
  ⟨Nat.le_trans h.size hg.size, fun k hk hgk => (hg.block k (Nat.lt_of_lt_of_le hk h.size) fun e => by have := hr k e.symm; omega).trans (h.blk k hk hgk)⟩
theorem Next.store (h : Next g a b) (i : Nat) (v : Value) : Next g a (b.setCell ⟨g, i, none⟩ v) := ⟨by have := h.size; simp; omega, fun k hk hgk => (Below.heap_setCell _ _ _ _ hgk).trans (h.blk k hk hgk)⟩
theorem RowG.next {T : TypeId} {n base : Nat} {v : Value} {l : List (List Value)} {rs : List (Ex × Value)} (h : RowG T n base a v l rs) (hn : Next g a b) (hb : g < base) : RowG T n base b v l rs :=
  h.keep hn.size fun k hk hlt => hn.blk k hlt (by omega)
end
theorem OfAt.drew {w wr : World} {cs os : Array Value} {g : Nat} (h : OfAt w cs g os wr) : OfAt w cs g os wr.drew := h.kept h.bel.drew fun _ _ _ => rfl
theorem RowG.drew {T : TypeId} {c base : Nat} {w : World} {v : Value} {l : List (List Value)} {rs : List (Ex × Value)} (h : RowG T c base w v l rs) : RowG T c base w.drew v l rs := h.keep (Nat.le_refl _) fun _ _ _ => rfl
theorem RowG.upto {T : TypeId} {c base : Nat} {w : World} {v : Value} {l : List (List Value)} {rs : List (Ex × Value)} (h : RowG T c base w v l rs) : RowX T c base (· < w.heap.size) w v l rs :=
  ⟨h.own, h.len, fun k hk => (h.lt k hk).2, fun x hx => (h.rep x hx).mono' fun b hb hlt => ⟨⟨hb.1, hlt⟩, hb.2⟩⟩
theorem RowX.next {g T n base : Nat} {X : Nat → Prop} {a b : World} {v : Value} {l : List (List Value)} {rs : List (Ex × Value)} (h : RowX T n base X a v l rs) (hn : Next g a b) (hb : g < base) : RowX T n base X b v l rs :=
  h.keep hn.size fun k hk _ hlt => hn.blk k hlt (by omega)
end Go.Proofs.Ytldelkkeimlfcaa
