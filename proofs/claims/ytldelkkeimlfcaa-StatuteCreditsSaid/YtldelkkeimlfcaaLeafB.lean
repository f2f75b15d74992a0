/- Leaves of dimension Bool: a comparison of two leaves. -/
import Derived.Test.YtldelkkeimlfcaaLeaf
set_option linter.all false
namespace Go.Proofs.Ytldelkkeimlfcaa
open Go.RowKit

theorem RepE.eqw {S : Nat → Prop} {w w' : World} {e : Ex} {v : Value} (h : RepE S w e v) (hw : w = w') : RepE S w' e v := hw ▸ h
theorem RepE.src {S : Nat → Prop} {w : World} {e : Ex} {v : Value} {s : Nat} (h : RepE S w e v) (hS : ∀ b, S b → b ≠ s) (lv : Value) (p left : Int) : RepE S (w.src s lv p left) e v :=
  h.keep (by simp) fun _ _ hb _ => World.cell?_src_other (hS _ hb)
theorem RepE.drewN {S : Nat → Prop} {w : World} {e : Ex} {v : Value} (h : RepE S w e v) (n : Nat) : RepE S (w.drewN n) e v := h.keep (Nat.le_refl _) fun _ _ _ _ => rfl
theorem leafF_plain (zs : List Int) (env : List (ByteArray × Int)) (dim : Int) (p : Nat) (left : Int) (h : ¬ dim = 1) : leafF zs env dim p left = ((leafN zs env p dim).1, (leafN zs env p dim).2, left - 1) := by
  unfold leafF; rw [if_neg h]
theorem leaf_any2 (s : Nat) (lv : Value) (zs : List Int) (p : Nat) (P left dim : Int) (ev : Value) (env : List (ByteArray × Int)) (r : Ex × Nat) (X : World) (hP : P = p) (hd0 : 2 ≤ dim) (hd1 : dim ≤ 4) (hs : s < X.heap.size) (hX : X.src s lv P left = X)
    (hl : Hid (ListAt X s lv zs)) (he : Hid (EnvAt X s ev env)) (hp : p ≤ 1000000) (hleft : -1000000 ≤ left) (hleft2 : left ≤ 1000000) (hr : Hid (leafN zs env p dim = r)) :
    Calls Try.prog 48 #[.pointer (some ⟨s, 0, none⟩), .int .i64 dim, ev] X (ExPost s lv X (r.1, r.2, left - 1)) := by
  have := leaf_plain s lv zs p P left dim ev env X hP hd0 hd1 hs hX hl he hp hleft hleft2
  rw [leafF_plain _ _ _ _ _ (by omega), hr.out] at this
  exact this
theorem leafF_bool (zs : List Int) (env : List (ByteArray × Int)) (p : Nat) (left : Int) {r1 r2 : Ex × Nat} {a c : Int} (ha : nextV zs p 3 = a) (hc : nextV zs (p + 1) 6 = c) (h1 : leafN zs env (p + 2) (2 + a) = r1) (h2 : leafN zs env r1.2 (2 + a) = r2) :
    leafF zs env 1 p left = (.mk (11 + c) 0 0 0 ByteArray.empty [r1.1, r2.1], r2.2, left - 3) := by
  unfold leafF; rw [if_pos rfl, ha, hc, h1, h2]
/-- Two operands in a new array. -/
theorem RepE.pair {S : Nat → Prop} {w : World} {o1 o2 : Ex} {v1 v2 : Value} {b : Nat} (op : Int) (ho : 0 ≤ op ∧ op ≤ 100) (hS : S b) (hb : w.heap[b]? = some (.cells (cells1 o1 v1 ++ cells1 o2 v2).toArray 72 (0, 0))) (h1 : RepE S w o1 v1) (h2 : RepE S w o2 v2) :
    RepE S w (.mk op 0 0 0 ByteArray.empty [o1, o2]) (.slice (some ⟨b, 0, none⟩) 2 2) := by
  have hlt : b < w.heap.size := (Array.getElem?_eq_some_iff.1 hb).1
  have hc : ∀ j u, (cells1 o1 v1 ++ cells1 o2 v2)[j]? = some u → w.cell? ⟨b, j, none⟩ = some u := fun j u hu => by
    rw [cell_of_row w b j _ _ _ hb]; simpa using hu
  refine .mk (.mk op 0 0 0 ByteArray.empty [o1, o2]) (some ⟨b, 0, none⟩) 2 (fun i => if i = 0 then v1 else v2) (.lit _ _ _ (by omega) (by omega) (by omega) _ ho _ (Nat.zero_le _) _ (by simp)) (.inr ⟨b, 0, rfl, hS, hlt, ?_⟩) ?_
  · intro i hi
    obtain rfl | rfl : i = 0 ∨ i = 1 := by have : i < 2 := hi; omega
    · exact ⟨hc 0 _ rfl, hc 1 _ rfl, hc 2 _ rfl, hc 3 _ rfl, hc 4 _ rfl, hc 5 _ rfl⟩
    · exact ⟨hc 6 _ rfl, hc 7 _ rfl, hc 8 _ rfl, hc 9 _ rfl, hc 10 _ rfl, hc 11 _ rfl⟩
  · intro i hi
    obtain rfl | rfl : i = 0 ∨ i = 1 := by have : i < 2 := hi; omega
    · exact h1
    · exact h2

theorem heap_lift {A A' : World} (hsz : A'.heap.size = A.heap.size) (bs bs2 : Array Obj) (d d2 : Nat) {b : Nat} (h1 : A.heap.size ≤ b) (h2 : b < A.heap.size + bs.size) : (A'.grow (bs ++ bs2) d2).heap[b]? = (A.grow bs d).heap[b]? := by
  simp only [World.grow]
  rw [Array.getElem?_append_right (by omega), Array.getElem?_append_left (by omega), Array.getElem?_append_right (by omega), hsz]
theorem RepE.lift {m : Nat} {A A' : World} {bs : Array Obj} {d : Nat} {e : Ex} {v : Value} (h : RepE (fun b => m ≤ b) (A.grow bs d) e v) (hm : A.heap.size ≤ m) (hsz : A'.heap.size = A.heap.size) (bs2 : Array Obj) (d2 : Nat) : RepE (fun b => m ≤ b) (A'.grow (bs ++ bs2) d2) e v :=
  h.keep (by simp; omega) fun b o hb hlt => World.cell?_of_block (heap_lift hsz bs bs2 d d2 (Nat.le_trans hm hb) (by simpa using hlt))
theorem RepE.lift0 {m : Nat} {A A' : World} {bs : Array Obj} {d : Nat} {e : Ex} {v : Value} (h : RepE (fun b => m ≤ b) (A.grow bs d) e v) (hm : A.heap.size ≤ m) (hsz : A'.heap.size = A.heap.size) (d2 : Nat) : RepE (fun b => m ≤ b) (A'.grow bs d2) e v := by
  have := h.lift (A' := A') hm hsz #[] d2
  simpa using this
theorem heap_new (w : World) (o : Obj) (H : Nat) (hH : w.heap.size = H) : (w.alloc o).heap[H]? = some o := by subst hH; exact heap_alloc_new w o

set_option maxHeartbeats 2000000 in
set_option maxRecDepth 100000 in
theorem leaf_bool (s : Nat) (lv : Value) (zs : List Int) (p : Nat) (P left : Int) (ev : Value) (env : List (ByteArray × Int)) (X : World) (hP : P = p) (hs : s < X.heap.size) (hX : X.src s lv P left = X)
    (hl : Hid (ListAt X s lv zs)) (he : Hid (EnvAt X s ev env)) (hp : p ≤ 900000) (hleft : -900000 ≤ left) (hleft2 : left ≤ 900000) :
    Calls Try.prog 48 #[.pointer (some ⟨s, 0, none⟩), .int .i64 1, ev] X (ExPost s lv X (leafF zs env 1 p left)) := by
  subst hP
  suffices h : Calls Try.prog 48 #[.pointer (some ⟨s, 0, none⟩), .int .i64 1, ev] (X.src s lv p left) (ExPost s lv X (leafF zs env 1 p left)) by rw [hX] at h; exact h
  clear hX
  have hb1 := nextV_bd zs p 3 (by omega)
  have hb2 := nextV_bd zs (p + 1) 6 (by omega)
  generalize hA : nextV zs p 3 = a at hb1
  have HA := Lib.hid hA
  generalize hC : nextV zs (p + 1) 6 = c at hb2
  have HC := Lib.hid hC
  clear hA hC
  have hr1 := leafN_bd zs env (p + 2) (2 + a)
  generalize hR1 : leafN zs env (p + 2) (2 + a) = r1 at hr1
  have HR1 := Lib.hid hR1
  clear hR1
  have hr2 := leafN_bd zs env r1.2 (2 + a)
  generalize hR2 : leafN zs env r1.2 (2 + a) = r2 at hr2
  have HR2 := Lib.hid hR2
  clear hR2
  obtain ⟨o1, p1⟩ := r1
  obtain ⟨o2, p2⟩ := r2
  have HF := Lib.hid (leafF_bool zs env p left HA.out HC.out HR1.out HR2.out)
  simp only at hr1 hr2 HF HR2
  obtain ⟨hr1a, hr1b⟩ := hr1
  obtain ⟨hr2a, hr2b⟩ := hr2
  go_enter Try.func48, Try.ntmps48
  go_wp2_with fail
  refine (next_any s lv zs p p (left - 1) _ _ rfl (by simp; omega) (by simp [go_sem, hs]) (by (repeat' (first | (with_reducible exact hl.out) | (with_reducible refine ListAt.alloc ?_ _) | (with_reducible refine ListAt.grow ?_ _ _) | (with_reducible refine ListAt.drewN ?_ _) | (with_reducible refine ListAt.src ?_ _ _ _)))) (by omega) (by omega)).mono ?_
  rintro e w' ⟨rfl, n1, rfl⟩
  rw [HA.out]
  go_wp2_with fail
  refine (next_any s lv zs (p + 1) (p + 1) (left - 1) _ _ (by simp) (by simp; omega) (by simp [go_sem, hs]) (by (repeat' (first | (with_reducible exact hl.out) | (with_reducible refine ListAt.alloc ?_ _) | (with_reducible refine ListAt.grow ?_ _ _) | (with_reducible refine ListAt.drewN ?_ _) | (with_reducible refine ListAt.src ?_ _ _ _)))) (by omega) (by omega)).mono ?_
  rintro e w' ⟨rfl, n2, rfl⟩
  rw [HC.out]
  go_wp2_with fail
  refine (leaf_any2 s lv zs (p + 2) (p + 1 + 1) (left - 1) _ _ env _ _ (by omega) (by omega) (by omega) (by simp; omega) (by simp [go_sem, hs]) (Lib.hid (by (repeat' (first | (with_reducible exact hl.out) | (with_reducible refine ListAt.alloc ?_ _) | (with_reducible refine ListAt.grow ?_ _ _) | (with_reducible refine ListAt.drewN ?_ _) | (with_reducible refine ListAt.src ?_ _ _ _))))) (Lib.hid (by (repeat' (first | (with_reducible exact he.out) | (with_reducible refine EnvAt.alloc ?_ _) | (with_reducible refine EnvAt.grow ?_ _ _) | (with_reducible refine EnvAt.drewN ?_ _) | (with_reducible refine EnvAt.src ?_ _ _ _))))) (by omega) (by omega) (by omega) HR1).mono ?_
  rintro e w' ⟨va, bs1, d1, rfl, rfl, hrep1⟩
  have H1 := Lib.hid (hrep1.eqw (w' := ((X.src s lv (p1 : Int) (left - 1 - 1)).alloc (.cells #[.int .i64 0, .int .i64 0, .int .i64 0, .int .i64 0, .string ⟨#[]⟩, .slice none 0 0] 72)).grow bs1 d1) (by simp [go_sem, hs]))
  clear hrep1
  go_wp2_with fail
  refine (leaf_any2 s lv zs p1 p1 (left - 1 - 1) _ _ env _ _ (by omega) (by omega) (by omega) (by simp; omega) (by simp [go_sem, hs]) (Lib.hid (by (repeat' (first | (with_reducible exact hl.out) | (with_reducible refine ListAt.alloc ?_ _) | (with_reducible refine ListAt.grow ?_ _ _) | (with_reducible refine ListAt.drewN ?_ _) | (with_reducible refine ListAt.src ?_ _ _ _))))) (Lib.hid (by (repeat' (first | (with_reducible exact he.out) | (with_reducible refine EnvAt.alloc ?_ _) | (with_reducible refine EnvAt.grow ?_ _ _) | (with_reducible refine EnvAt.drewN ?_ _) | (with_reducible refine EnvAt.src ?_ _ _ _))))) (by omega) (by omega) (by omega) HR2).mono ?_
  rintro e w' ⟨vb, bs2, d2, rfl, rfl, hrep2⟩
  have H2 := Lib.hid (hrep2.eqw (w' := ((X.src s lv (p2 : Int) (left - 1 - 1 - 1)).alloc (.cells #[.int .i64 0, .int .i64 0, .int .i64 0, .int .i64 0, .string ⟨#[]⟩, .slice none 0 0] 72)).grow (bs1 ++ bs2) d2) (by simp [go_sem, hs]))
  clear hrep2
  go_wp2_with fail
  go_returns
  refine ExPost.of_eq (v := .slice (some ⟨X.heap.size + 1 + (bs1.size + bs2.size), 0, none⟩) 2 2) (P' := (p2 : Int)) (l' := left - 1 - 1 - 1) (HF.out.trans (by rw [show left - 1 - 1 - 1 = left - 3 by omega])) rfl rfl (.of_below (by (repeat' (first | (with_reducible exact Below.refl _ _) | (with_reducible assumption) | (with_reducible refine Below.grow ?_ ?_ _ _) | (with_reducible refine Below.alloc ?_ ?_ _) | (with_reducible refine Below.drewN ?_ _) | (with_reducible refine Below.drew ?_) | (with_reducible refine Below.setCell ?_ ?_ _) | go_size)))) (.pair (v1 := va) (v2 := vb) (11 + c) (by omega) (by omega) (heap_new _ _ _ (by simp)) (((H1.out.lift ?_ ?_ bs2 d2).mono ?_).alloc _) (((H2.out.lift0 ?_ ?_ d2).mono ?_).alloc _))
  all_goals first
    | (intro b hb; simp at hb; omega)
    | (simp; done)
    | (simp; omega)
/-- A leaf. -/
theorem leaf_any (s : Nat) (lv : Value) (zs : List Int) (p : Nat) (P left dim : Int) (ev : Value) (env : List (ByteArray × Int)) (X : World) (hP : P = p) (hd0 : 1 ≤ dim) (hd1 : dim ≤ 4) (hs : s < X.heap.size) (hX : X.src s lv P left = X)
    (hl : Hid (ListAt X s lv zs)) (he : Hid (EnvAt X s ev env)) (hp : p ≤ 900000) (hleft : -900000 ≤ left) (hleft2 : left ≤ 900000) :
    Calls Try.prog 48 #[.pointer (some ⟨s, 0, none⟩), .int .i64 dim, ev] X (ExPost s lv X (leafF zs env dim p left)) := by
  by_cases h : dim = 1
  · subst h; exact leaf_bool s lv zs p P left ev env X hP hs hX hl he hp hleft hleft2
  · exact leaf_plain s lv zs p P left dim ev env X hP (by omega) hd1 hs hX hl he (by omega) (by omega) (by omega)
end Go.Proofs.Ytldelkkeimlfcaa
