/- statute.At: the version in force on a day, in memory of its own. -/
import Derived.Test.YtldelkkeimlfcaaQAtRef
import Derived.Test.YtldelkkeimlfcaaQCloneE
set_option linter.all false
namespace Go.Proofs.Ytldelkkeimlfcaa
open Go.RowKit Go.Shelf
attribute [local go_sem] Oper.semAt_some
/-- Cells abide. -/
def CellsKept (A B : World) : Prop := A.heap.size ≤ B.heap.size ∧ ∀ a u, A.cell? a = some u → B.cell? a = some u
theorem SrcRow.kept {A B : World} {v : Value} {c : Nat} {l : List (List Value)} (h : SrcRow A v c l) (hk : CellsKept A B) : SrcRow B v c l := by
  obtain ⟨h1, h2, h3, a, cap, hv, h4⟩ := h
  refine ⟨h1, h2, h3, a, cap, hv, h4.imp id ?_⟩
  rintro ⟨b, off, ha, hb, hc⟩
  exact ⟨b, off, ha, Nat.lt_of_lt_of_le hb hk.1, fun j u hu => hk.2 _ _ (hc j u hu)⟩
theorem RepE.kept {S : Nat → Prop} {A B : World} {e : Ex} {v : Value} (h : RepE S A e v) (hk : CellsKept A B) : RepE S B e v := by
  induction h with
  | mk e a cap vs hr hc hs ih =>
    refine .mk e a cap vs hr (hc.imp id ?_) ih
    rintro ⟨b, off, ha, hS, hb, hx⟩
    refine ⟨b, off, ha, hS, Nat.lt_of_lt_of_le hb hk.1, fun i hi => ?_⟩
    obtain ⟨x0, x1, x2, x3, x4, x5⟩ := hx i hi
    exact ⟨hk.2 _ _ x0, hk.2 _ _ x1, hk.2 _ _ x2, hk.2 _ _ x3, hk.2 _ _ x4, hk.2 _ _ x5⟩
theorem VerR.kept {A B : World} {V : VerP} {v3 v4 v5 v6 v7 : Value} (h : VerR A V v3 v4 v5 v6 v7) (hk : CellsKept A B) : VerR B V v3 v4 v5 v6 v7 := by
  obtain ⟨ql, qg, qr, e1, e2, e3, r1, r2, r3, r4, r5, s3, s4, s5⟩ := h
  exact ⟨ql, qg, qr, e1, e2, e3, r1.kept hk, r2.kept hk, r3.kept hk, r4.kept hk, r5.kept hk, fun x hx => (s3 x hx).kept hk, fun x hx => (s4 x hx).kept hk, fun x hx => (s5 x hx).kept hk⟩
theorem cellsKept_own {A B : World} {row : Option Nat} (hg : A.grownBy B row) (hr : ∀ r, row = some r → ∃ o : Obj, A.heap[r]? = some o ∧ o.isCells = false) : CellsKept A B :=
  ⟨hg.size, fun _ _ h => cell_kept h hg hr⟩
theorem Next.kept {g : Nat} {A B : World} (h : Next g A B) (hA : ∀ a u, A.cell? a = some u → a.block ≠ g) : CellsKept A B :=
  ⟨h.size, fun a u hu => by
    have hne := hA a u hu
    have hlt : a.block < A.heap.size := by
      rcases Nat.lt_or_ge a.block A.heap.size with h1 | h1
      · exact h1
      · simp [World.cell?, Array.getElem?_eq_none h1] at hu
    rw [World.cell?_of_block (h.blk _ hlt hne)]; exact hu⟩
abbrev zero8 : Array Value := #[.int .i64 0, .int .i64 0, .int .i64 0, .slice none 0 0, .slice none 0 0, .slice none 0 0, .slice none 0 0, .slice none 0 0]
/-- At's memory within its loop: the day's box, the two results'. -/
structure AtMem (B : Nat) (d : Int) (os : Array Value) (b : Bool) (W : World) : Prop where
  day : W.heap[B + 1]? = some (.cells #[.int .i64 d] 3 (0, 0))
  res : W.heap[B + 2]? = some (.cells os 34 (0, 0))
  ok : W.heap[B + 3]? = some (.cells #[.bool b] 4 (0, 0))
  size : B + 5 ≤ W.heap.size
theorem AtMem.own {B : Nat} {d : Int} {os : Array Value} {b : Bool} {X Y : World} {row : Option Nat} (h : AtMem B d os b X) (hg : X.grownBy Y row) (hr : ∀ r, row = some r → ∃ o : Obj, X.heap[r]? = some o ∧ o.isCells = false) : AtMem B d os b Y :=
  ⟨(grownBy_keeps_cells hg hr h.day rfl).trans h.day, (grownBy_keeps_cells hg hr h.res rfl).trans h.res, (grownBy_keeps_cells hg hr h.ok rfl).trans h.ok, Nat.le_trans h.size hg.size⟩
theorem AtMem.alloc {B : Nat} {d : Int} {os : Array Value} {b : Bool} {X : World} (h : AtMem B d os b X) (o : Obj) : AtMem B d os b (X.alloc o) := h.own (World.grownBy_alloc X o none) (fun r e => by cases e)
/-- It has left by a return at the i-th: the version found lies in the result's cells. -/
def AtLeft (B : Nat) (d : Int) (L : List VerP) (i : Nat) (W : World) : Prop :=
  ∃ V a3 n3 c3 a4 n4 c4 a5 n5 c5 a6 n6 c6 a7 n7 c7, AtMem B d #[.int .i64 V.frm, .int .i64 V.mode, .int .i64 V.unit, .slice a3 n3 c3, .slice a4 n4 c4, .slice a5 n5 c5, .slice a6 n6 c6, .slice a7 n7 c7] true W ∧ L[i]? = some V ∧ V.frm ≤ d ∧
    VerR W V (.slice a3 n3 c3) (.slice a4 n4 c4) (.slice a5 n5 c5) (.slice a6 n6 c6) (.slice a7 n7 c7)
theorem AtLeft.own {B i : Nat} {d : Int} {L : List VerP} {X Y : World} {row : Option Nat} (h : AtLeft B d L i X) (hg : X.grownBy Y row) (hr : ∀ r, row = some r → ∃ o : Obj, X.heap[r]? = some o ∧ o.isCells = false) : AtLeft B d L i Y := by
  obtain ⟨V, a3, n3, c3, a4, n4, c4, a5, n5, c5, a6, n6, c6, a7, n7, c7, h1, h2, h3, h4⟩ := h
  exact ⟨V, a3, n3, c3, a4, n4, c4, a5, n5, c5, a6, n6, c6, a7, n7, c7, h1.own hg hr, h2, h3, h4.kept (cellsKept_own hg hr)⟩
theorem VerR.form {w : World} {V : VerP} {v3 v4 v5 v6 v7 : Value} (h : VerR w V v3 v4 v5 v6 v7) : (∃ a n c, v3 = .slice a n c) ∧ (∃ a n c, v4 = .slice a n c) ∧ (∃ a n c, v5 = .slice a n c) ∧ (∃ a n c, v6 = .slice a n c) ∧ ∃ a n c, v7 = .slice a n c := by
  obtain ⟨ql, qg, qr, e1, e2, e3, r1, r2, r3, r4, r5, -⟩ := h
  obtain ⟨-, -, -, a3, c3, f3, -⟩ := r1
  obtain ⟨-, -, -, a4, c4, f4, -⟩ := r2
  obtain ⟨-, -, -, a5, c5, f5, -⟩ := r3
  obtain ⟨-, -, -, a6, c6, f6, -⟩ := r4
  obtain ⟨-, -, -, a7, c7, f7, -⟩ := r5
  exact ⟨⟨_, _, _, f3⟩, ⟨_, _, _, f4⟩, ⟨_, _, _, f5⟩, ⟨_, _, _, f6⟩, ⟨_, _, _, f7⟩⟩
def AtBody (B : Nat) (d : Int) (L : List VerP) (x : VRow) (w : World) (c : Code) (pre : List (Fin L.length)) (W : World) : Prop :=
  (c = .ret ∧ ∃ ini i, pre = ini ++ [i] ∧ (∀ j ∈ ini, d < x.f j.1) ∧ AtLeft B d L i.1 W) ∧ Below w.heap.size w W
set_option maxRecDepth 1000000 in
set_option maxHeartbeats 8000000 in
theorem atP_yes (nm : ByteArray) (cur : Int) (v : Value) (L : List VerP) (x : VRow) (d : Int) (w : World) (h : VsAt w v L x) (hd : DayOk d) :
    Calls Try.prog 19 #[.agg #[.string nm, .int .i64 cur, v], .int .i64 d] w (AtPost L d w) := by
  have HV := Lib.hid h
  obtain ⟨hn, a, cap, rfl, -⟩ := h.lies
  clear h
  refine (callsIn_wide (n := 6)).1 ?_
  refine callsIn_of_wp_marks Try.func19 rfl trivial ?_ rfl
  simp only [Try.ntmps19, List.size_toArray, List.length_cons, List.length_nil, Nat.reduceAdd, Nat.reduceSub, Array.replicate_succ, Array.replicate_zero, List.push_toArray, List.append_toArray, List.nil_append, List.cons_append]
  gi_wp2_with (first
    | (refine ⟨trivial, ?_⟩; gi_at_call 36; refine (callsIn_wide.2 (valid_yes d _ hd)).mono ?_; rintro e w' ⟨rfl, rfl⟩)
    | (refine ⟨trivial, ?_⟩; gi_at_call 37; refine (back_in Fence.wide _ trivial rfl _ _ _ _).mono ?_; rintro e w' ⟨rfl, rfl⟩))
  obtain ⟨W0, hW0⟩ : ∃ W0, ((((w.alloc ((.cells #[.string nm, .int .i64 cur, .slice a L.length cap] 53))).alloc ((.cells #[.int .i64 d] 3))).alloc ((.cells #[.int .i64 0, .int .i64 0, .int .i64 0, .slice none 0 0, .slice none 0 0, .slice none 0 0, .slice none 0 0, .slice none 0 0] 34))).alloc ((.cells #[.bool false] 4))).alloc (.cells #[.slice a L.length cap] 51) = W0 := ⟨_, rfl⟩
  have hsz : W0.heap.size = w.heap.size + 5 := by rw [← hW0]; simp
  have hB0 : Below w.heap.size w W0 := by rw [← hW0]; (repeat' (first | (with_reducible exact Below.refl _ _) | (with_reducible assumption) | (with_reducible refine Below.grow ?_ ?_ _ _) | (with_reducible refine Below.alloc ?_ ?_ _) | (with_reducible refine Below.drewN ?_ _) | (with_reducible refine Below.drew ?_) | (with_reducible refine Below.setCell ?_ ?_ _) | go_size))
  have hm0 : AtMem w.heap.size d zero8 false W0 := by rw [← hW0]; exact ⟨by (repeat (first | (rw [heap_alloc_if, if_pos (by simp; done)]; done) | (rw [heap_alloc_if, if_neg (by simp; omega)]) | (rw [heap_alloc_if, if_neg (by simp; done)]))), by (repeat (first | (rw [heap_alloc_if, if_pos (by simp; done)]; done) | (rw [heap_alloc_if, if_neg (by simp; omega)]) | (rw [heap_alloc_if, if_neg (by simp; done)]))), by (repeat (first | (rw [heap_alloc_if, if_pos (by simp; done)]; done) | (rw [heap_alloc_if, if_neg (by simp; omega)]) | (rw [heap_alloc_if, if_neg (by simp; done)]))), by simp⟩
  have hbk : W0.cell? ⟨w.heap.size + 4, 0, none⟩ = some (.slice a L.length cap) := by rw [← hW0, World.cell?_alloc_at _ _ _ _ (by simp)]; rfl
  rw [hW0]
  clear hW0
  have HB0 := Lib.hid hB0
  have HM0 := Lib.hid hm0
  have HVW := Lib.hid (HV.out.same hB0)
  refine wpIn_rangeFunc_ownH (F := Fence.wide) rfl (by omega) (gf := 55) (lb := #[.pointer (some ⟨w.heap.size + 4, 0, none⟩)]) rfl trivial (enters_of Try.func55 (by kernel_rfl) rfl)
    (back_stops Fence.wide 5 trivial rfl (by omega) (w.heap.size + 4) W0.heap.size (.slice a L.length cap) x L.length W0 (by omega) (Nat.le_refl _) hbk HVW.out.lies) belowK_t (belowK_b (Nat.le_refl _)) (Below.refl _ _) (fun _ => rfl)
    (fun pre W => (AtMem w.heap.size d zero8 false W ∧ ∀ j ∈ pre, d < x.f j.1) ∧ Below w.heap.size w W)
    (AtBody w.heap.size d L x w)
    (OwnFrom.and (Own.from (fun s A B row hs hg hr => ⟨hs.1.own hg hr, hs.2⟩) _) (ownFrom_below (Nat.le_refl _) (by omega)))
    (fun c => OwnFrom.and (Own.from (fun s A B row hs hg hr => by obtain ⟨h1, ini, i, h2, h3, h4⟩ := hs; exact ⟨h1, ini, i, h2, h3, h4.own hg hr⟩) _) (ownFrom_below (Nat.le_refl _) (by omega)))
    ⟨⟨hm0, fun j hj => by cases hj⟩, hB0⟩
    (fun i a' W => ∃ Bx, w.heap.size + 4 < Bx ∧ W.heap[Bx]? = some (.cells #[.int .i64 (x.f i.1), .int .i64 (x.m i.1), .int .i64 (x.u i.1), .slice (x.a3 i.1) (x.n3 i.1) (x.c3 i.1), .slice (x.a4 i.1) (x.n4 i.1) (x.c4 i.1), .slice (x.a5 i.1) (x.n5 i.1) (x.c5 i.1), .slice (x.a6 i.1) (x.n6 i.1) (x.c6 i.1), .slice (x.a7 i.1) (x.n7 i.1) (x.c7 i.1)] 34 (0, 0)) ∧
      a' = { tmps := #[.agg #[.string nm, .int .i64 cur, .slice a L.length cap], .int .i64 d, .pointer (some ⟨w.heap.size, 0, none⟩), .pointer (some ⟨w.heap.size + 1, 0, none⟩), .pointer (some ⟨w.heap.size + 1 + 1, 0, none⟩), .pointer (some ⟨w.heap.size + 1 + 1 + 1, 0, none⟩), undef, .pointer (some ⟨Bx, 0, none⟩), .int .i64 d, .bool true, .bool false, undef, .pointer (some ⟨w.heap.size, 2, none⟩), .slice a L.length cap, .func (.func 55) #[] #[.pointer (some ⟨w.heap.size + 1 + 1 + 1 + 1, 0, none⟩)], .int .i64 ((i.1 : Nat) : Int), x.el i.1, undef, undef, undef, undef, undef, undef, undef], defers := [] })
    (fun i a' _ X Y row hs hg hr => by obtain ⟨Bx, h1, h2, h3⟩ := hs; exact ⟨Bx, h1, (grownBy_keeps_cells hg (fun r e => (hr r e).2) h2 rfl).trans h2, h3⟩)
    ?assign ?body ?done ?stop
  case assign =>
    rintro l pre i W K ⟨⟨hm, hpre⟩, hB1⟩ hK
    unfold VRow.el
    gi_wp2
    have hs1 := hm.size
    refine hK _ _ ((KeepsOthers.alloc _ _).from _) ((Below.refl _ W).alloc (by omega) _) ⟨⟨hm.alloc _, hpre⟩, hB1.alloc hB1.size _⟩ ⟨W.heap.size, by omega, heap_alloc_new _ _, rfl⟩
  case body =>
    rintro l pre i a' W hl ⟨r, hr⟩ ⟨⟨hm, hpre⟩, hB1⟩ ⟨Bx, hBx, hbx, rfl⟩ hlt
    obtain ⟨V, hV⟩ : ∃ V, L[i.1]? = some V := ⟨_, List.getElem?_eq_getElem i.2⟩
    obtain ⟨ef, em, eu, -, hsm, hln, hver⟩ := HV.out.each i.1 V hV
    have HVR := Lib.hid (hver.toT.same hB1.size fun b o hS hl => hB1.cell (p := ⟨b, o, none⟩) hl)
    have HSM := Lib.hid hsm
    have HLN := Lib.hid hln
    have HVV := Lib.hid hV
    have HM := Lib.hid hm
    have HB1 := Lib.hid hB1
    have HP := Lib.hid hpre
    have HE := Lib.hid (And.intro ef (And.intro em eu))
    have q0 : W.cell? ⟨Bx, 0, none⟩ = some (.int .i64 (x.f i.1)) := cell_of_row _ _ _ _ _ _ hbx
    have q1 : W.cell? ⟨Bx, 1, none⟩ = some (.int .i64 (x.m i.1)) := cell_of_row _ _ _ _ _ _ hbx
    have q2 : W.cell? ⟨Bx, 2, none⟩ = some (.int .i64 (x.u i.1)) := cell_of_row _ _ _ _ _ _ hbx
    have q3 : W.cell? ⟨Bx, 3, none⟩ = some (.slice (x.a3 i.1) (x.n3 i.1) (x.c3 i.1)) := cell_of_row _ _ _ _ _ _ hbx
    have q4 : W.cell? ⟨Bx, 4, none⟩ = some (.slice (x.a4 i.1) (x.n4 i.1) (x.c4 i.1)) := cell_of_row _ _ _ _ _ _ hbx
    have q5 : W.cell? ⟨Bx, 5, none⟩ = some (.slice (x.a5 i.1) (x.n5 i.1) (x.c5 i.1)) := cell_of_row _ _ _ _ _ _ hbx
    have q6 : W.cell? ⟨Bx, 6, none⟩ = some (.slice (x.a6 i.1) (x.n6 i.1) (x.c6 i.1)) := cell_of_row _ _ _ _ _ _ hbx
    have q7 : W.cell? ⟨Bx, 7, none⟩ = some (.slice (x.a7 i.1) (x.n7 i.1) (x.c7 i.1)) := cell_of_row _ _ _ _ _ _ hbx
    have qd : W.cell? ⟨w.heap.size + 1, 0, none⟩ = some (.int .i64 d) := cell_of_row _ _ _ _ _ _ hm.day
    rw [ef] at q0
    rw [em] at q1
    rw [eu] at q2
    generalize hfv : V.frm = fv at *
    generalize hmv : V.mode = mv at *
    generalize huv : V.unit = uv at *
    have HF := Lib.hid (And.intro hfv (And.intro hmv huv))
    clear ef em eu hsm hln hver hV hm hpre hB1 hbx hfv hmv huv
    by_cases hle : fv ≤ d
    · gi_wp2_with (fail)
      refine ⟨trivial, ?_⟩
      gi_at_call 38
      refine (CallsIn.inRound l (callsIn_wide.2 (cloneV_any (· < w.heap.size) fv mv uv V _ _ _ _ _ W HVR.out HSM HLN))).mono ?_
      rintro e w1 ⟨v3, v4, v5, v6, v7, rfl, hg, hver2⟩
      obtain ⟨⟨a3, n3, c3, rfl⟩, ⟨a4, n4, c4, rfl⟩, ⟨a5, n5, c5, rfl⟩, ⟨a6, n6, c6, rfl⟩, ⟨a7, n7, c7, rfl⟩⟩ := hver2.toR.form
      have hs1 := HM.out.size
      have hg2 := hg.below
      have hres : w1.heap[w.heap.size + 2]? = some (.cells zero8 34 (0, 0)) := (hg2.block _ (by omega)).trans HM.out.res
      have hok : w1.heap[w.heap.size + 3]? = some (.cells #[.bool false] 4 (0, 0)) := (hg2.block _ (by omega)).trans HM.out.ok
      have hday : w1.heap[w.heap.size + 1]? = some (.cells #[.int .i64 d] 3 (0, 0)) := (hg2.block _ (by omega)).trans HM.out.day
      have hszw := hg2.size
      have r0 : w1.cell? ⟨w.heap.size + 1 + 1, 0, none⟩ = some (.int .i64 0) := cell_of_row _ _ _ _ _ _ hres
      have r1 : w1.cell? ⟨w.heap.size + 1 + 1, 1, none⟩ = some (.int .i64 0) := cell_of_row _ _ _ _ _ _ hres
      have r2 : w1.cell? ⟨w.heap.size + 1 + 1, 2, none⟩ = some (.int .i64 0) := cell_of_row _ _ _ _ _ _ hres
      have r3 : w1.cell? ⟨w.heap.size + 1 + 1, 3, none⟩ = some (.slice none 0 0) := cell_of_row _ _ _ _ _ _ hres
      have r4 : w1.cell? ⟨w.heap.size + 1 + 1, 4, none⟩ = some (.slice none 0 0) := cell_of_row _ _ _ _ _ _ hres
      have r5 : w1.cell? ⟨w.heap.size + 1 + 1, 5, none⟩ = some (.slice none 0 0) := cell_of_row _ _ _ _ _ _ hres
      have r6 : w1.cell? ⟨w.heap.size + 1 + 1, 6, none⟩ = some (.slice none 0 0) := cell_of_row _ _ _ _ _ _ hres
      have r7 : w1.cell? ⟨w.heap.size + 1 + 1, 7, none⟩ = some (.slice none 0 0) := cell_of_row _ _ _ _ _ _ hres
      have rk : w1.cell? ⟨w.heap.size + 1 + 1 + 1, 0, none⟩ = some (.bool false) := cell_of_row _ _ _ _ _ _ hok
      have rf : ∀ j, w1.frozen? ⟨w.heap.size + 1 + 1, j, none⟩ = false := fun j => Joins.unfrozen_of_block hres j
      have rg : ∀ j, w1.frozen? ⟨w.heap.size + 1 + 1 + 1, j, none⟩ = false := fun j => Joins.unfrozen_of_block hok j
      have HN := Lib.hid (And.intro hres (And.intro hok hday))
      have HG := Lib.hid hg
      have HV2 := Lib.hid hver2
      have HLE := Lib.hid hle
      clear hres hok hday hg hg2 hver2 hle
      gi_wp2
      have hn := next_setCells [.int .i64 fv, .int .i64 mv, .int .i64 uv, .slice a3 n3 c3, .slice a4 n4 c4, .slice a5 n5 c5, .slice a6 n6 c6, .slice a7 n7 c7] 0 w1 (Next.refl (w.heap.size + 2) w1)
      have hb8 := block_setCells [.int .i64 fv, .int .i64 mv, .int .i64 uv, .slice a3 n3 c3, .slice a4 n4 c4, .slice a5 n5 c5, .slice a6 n6 c6, .slice a7 n7 c7] 0 w1 zero8 HN.out.1
      generalize hW2 : w1.setCells (w.heap.size + 2) 0 [.int .i64 fv, .int .i64 mv, .int .i64 uv, .slice a3 n3 c3, .slice a4 n4 c4, .slice a5 n5 c5, .slice a6 n6 c6, .slice a7 n7 c7] = W2 at hn hb8
      have hs2 := hn.size
      have hh : ∀ k, k ≠ w.heap.size + 3 → (W2.setCell ⟨w.heap.size + 3, 0, none⟩ (.bool true)).heap[k]? = W2.heap[k]? := fun k hk => Below.heap_setCell _ _ _ _ hk
      have hg2 := HG.out.below
      have key : AtLeft w.heap.size d L i.1 (W2.setCell ⟨w.heap.size + 3, 0, none⟩ (.bool true)) := by
        refine ⟨V, a3, n3, c3, a4, n4, c4, a5, n5, c5, a6, n6, c6, a7, n7, c7, ⟨?_, ?_, ?_, ?_⟩, HVV.out, by rw [HF.out.1]; exact HLE.out, ?_⟩
        · rw [hh _ (by omega), hn.blk _ (by omega) (by omega)]; exact HN.out.2.2
        · rw [hh _ (by omega), hb8, HF.out.1, HF.out.2.1, HF.out.2.2]; rfl
        · exact Joins.block_setCell ((hn.blk _ (by omega) (by omega)).trans HN.out.2.1) _
        · simp; omega
        · refine (HV2.out.same (by simp; omega) fun b o hS hl => World.cell?_of_block ?_).toR
          have hS' : b < w.heap.size ∨ W.heap.size ≤ b := hS
          rw [hh b (by omega)]
          exact hn.blk b hl (by omega)
      have kf : KeepsFrom W0.heap.size W (W2.setCell ⟨w.heap.size + 3, 0, none⟩ (.bool true)) := ⟨by simp; omega, fun k o hBk hk _ => by
        have hkl := (Array.getElem?_eq_some_iff.1 hk).1
        rw [hh _ (by omega), hn.blk _ (by omega) (by omega), hg2.block _ hkl]; exact hk⟩
      have bl : Below w.heap.size w (W2.setCell ⟨w.heap.size + 3, 0, none⟩ (.bool true)) := by
        rw [← hW2]
        exact (below_setCells (by omega) _ _ _ (HB1.out.trans (hg2.mono HB1.out.size))).setCell (by show w.heap.size ≤ w.heap.size + 3; omega) _
      rw [← hW2] at key kf bl
      exact ⟨kf, ⟨rfl, pre, i, rfl, HP.out, key⟩, bl⟩
    · have HLE := Lib.hid hle
      gi_wp2
      refine ⟨KeepsFrom.refl _ _, Below.refl _ _, ⟨⟨HM.out, fun j hj => ?_⟩, HB1.out⟩⟩
      rcases List.mem_append.1 hj with h1 | h1
      · exact HP.out j h1
      · obtain rfl : j = i := by simpa using h1
        have := HLE.out
        rw [HE.out.1]; omega
  case done =>
    rintro D xs W hD rfl ⟨⟨hm, hpre⟩, hB1⟩ hK
    have HM := Lib.hid hm
    have HB1 := Lib.hid hB1
    have HP := Lib.hid hpre
    have r0 : W.cell? ⟨w.heap.size + 1 + 1, 0, none⟩ = some (.int .i64 0) := cell_of_row _ _ _ _ _ _ hm.res
    have r1 : W.cell? ⟨w.heap.size + 1 + 1, 1, none⟩ = some (.int .i64 0) := cell_of_row _ _ _ _ _ _ hm.res
    have r2 : W.cell? ⟨w.heap.size + 1 + 1, 2, none⟩ = some (.int .i64 0) := cell_of_row _ _ _ _ _ _ hm.res
    have r3 : W.cell? ⟨w.heap.size + 1 + 1, 3, none⟩ = some (.slice none 0 0) := cell_of_row _ _ _ _ _ _ hm.res
    have r4 : W.cell? ⟨w.heap.size + 1 + 1, 4, none⟩ = some (.slice none 0 0) := cell_of_row _ _ _ _ _ _ hm.res
    have r5 : W.cell? ⟨w.heap.size + 1 + 1, 5, none⟩ = some (.slice none 0 0) := cell_of_row _ _ _ _ _ _ hm.res
    have r6 : W.cell? ⟨w.heap.size + 1 + 1, 6, none⟩ = some (.slice none 0 0) := cell_of_row _ _ _ _ _ _ hm.res
    have r7 : W.cell? ⟨w.heap.size + 1 + 1, 7, none⟩ = some (.slice none 0 0) := cell_of_row _ _ _ _ _ _ hm.res
    have rk : W.cell? ⟨w.heap.size + 1 + 1 + 1, 0, none⟩ = some (.bool false) := cell_of_row _ _ _ _ _ _ hm.ok
    have rf : ∀ j, W.frozen? ⟨w.heap.size + 1 + 1, j, none⟩ = false := fun j => Joins.unfrozen_of_block hm.res j
    have rg : ∀ j, W.frozen? ⟨w.heap.size + 1 + 1 + 1, j, none⟩ = false := fun j => Joins.unfrozen_of_block hm.ok j
    clear hm hB1 hpre
    gi_wp2
    have hn := next_setCells [.int .i64 0, .int .i64 0, .int .i64 0, .slice none 0 0, .slice none 0 0, .slice none 0 0, .slice none 0 0, .slice none 0 0] 0 W (Next.refl (w.heap.size + 2) W)
    have hb8 := block_setCells [.int .i64 0, .int .i64 0, .int .i64 0, .slice none 0 0, .slice none 0 0, .slice none 0 0, .slice none 0 0, .slice none 0 0] 0 W zero8 HM.out.res
    have bl := below_setCells (w0 := w) (show w.heap.size ≤ w.heap.size + 2 by omega) [.int .i64 0, .int .i64 0, .int .i64 0, .slice none 0 0, .slice none 0 0, .slice none 0 0, .slice none 0 0, .slice none 0 0] 0 W HB1.out
    generalize hW2 : W.setCells (w.heap.size + 2) 0 [.int .i64 0, .int .i64 0, .int .i64 0, .slice none 0 0, .slice none 0 0, .slice none 0 0, .slice none 0 0, .slice none 0 0] = W2 at hn hb8 bl
    have hDW := (Array.getElem?_eq_some_iff.1 hK).1
    have hs1 := HM.out.size
    have hh : ∀ k, k ≠ w.heap.size + 3 → (W2.setCell ⟨w.heap.size + 3, 0, none⟩ (.bool false)).heap[k]? = W2.heap[k]? := fun k hk => Below.heap_setCell _ _ _ _ hk
    have hk3 := Joins.block_setCell ((hn.blk (w.heap.size + 3) (by omega) (by omega)).trans HM.out.ok) (i := 0) (.bool false)
    have hK' : (W2.setCell ⟨w.heap.size + 3, 0, none⟩ (.bool false)).heap[D]? = some (.deferred (some [])) := by rw [hh _ (by omega), hn.blk _ hDW (by omega)]; exact hK
    have hr2 : (W2.setCell ⟨w.heap.size + 3, 0, none⟩ (.bool false)).heap[w.heap.size + 2]? = some (.cells zero8 34 (0, 0)) := by rw [hh _ (by omega)]; exact hb8
    have bl2 := bl.setCell (p := ⟨w.heap.size + 3, 0, none⟩) (by show w.heap.size ≤ w.heap.size + 3; omega) (.bool false)
    rw [← hW2] at hK' hr2 hk3 bl2
    refine ⟨by simp, .inl ⟨_, _, rfl, run_takeDeferred hK', ?_⟩⟩
    have hg := grownBy_putObj' ((W.setCells (w.heap.size + 2) 0 [.int .i64 0, .int .i64 0, .int .i64 0, .slice none 0 0, .slice none 0 0, .slice none 0 0, .slice none 0 0, .slice none 0 0]).setCell ⟨w.heap.size + 3, 0, none⟩ (.bool false)) D (.deferred none)
    have hr : ∀ r, some D = some r → ∃ o : Obj, ((W.setCells (w.heap.size + 2) 0 [.int .i64 0, .int .i64 0, .int .i64 0, .slice none 0 0, .slice none 0 0, .slice none 0 0, .slice none 0 0, .slice none 0 0]).setCell ⟨w.heap.size + 3, 0, none⟩ (.bool false)).heap[r]? = some o ∧ o.isCells = false := fun r e => by cases e; exact ⟨_, hK', rfl⟩
    have m2 := (grownBy_keeps_cells hg hr hr2 rfl).trans hr2
    have m3 := (grownBy_keeps_cells hg hr hk3 rfl).trans hk3
    have bl3 := bl2.trans (belowK_b (w := w) (Nat.le_refl _) _ D _ (.deferred none) (by omega) hK' rfl rfl)
    show LeavesInM Fence.wide 6 Try.prog Try.f19 _ _ _ _ (((W.setCells (w.heap.size + 2) 0 [.int .i64 0, .int .i64 0, .int .i64 0, .slice none 0 0, .slice none 0 0, .slice none 0 0, .slice none 0 0, .slice none 0 0]).setCell ⟨w.heap.size + 3, 0, none⟩ (.bool false)).putObj D (.deferred none))
    generalize (((W.setCells (w.heap.size + 2) 0 [.int .i64 0, .int .i64 0, .int .i64 0, .slice none 0 0, .slice none 0 0, .slice none 0 0, .slice none 0 0, .slice none 0 0]).setCell ⟨w.heap.size + 3, 0, none⟩ (.bool false)).putObj D (.deferred none)) = W9 at m2 m3 bl3 ⊢
    have e0 : W9.cell? ⟨w.heap.size + 1 + 1, 0, none⟩ = some (.int .i64 0) := cell_of_row _ _ _ _ _ _ m2
    have e1 : W9.cell? ⟨w.heap.size + 1 + 1, 1, none⟩ = some (.int .i64 0) := cell_of_row _ _ _ _ _ _ m2
    have e2 : W9.cell? ⟨w.heap.size + 1 + 1, 2, none⟩ = some (.int .i64 0) := cell_of_row _ _ _ _ _ _ m2
    have e3 : W9.cell? ⟨w.heap.size + 1 + 1, 3, none⟩ = some (.slice none 0 0) := cell_of_row _ _ _ _ _ _ m2
    have e4 : W9.cell? ⟨w.heap.size + 1 + 1, 4, none⟩ = some (.slice none 0 0) := cell_of_row _ _ _ _ _ _ m2
    have e5 : W9.cell? ⟨w.heap.size + 1 + 1, 5, none⟩ = some (.slice none 0 0) := cell_of_row _ _ _ _ _ _ m2
    have e6 : W9.cell? ⟨w.heap.size + 1 + 1, 6, none⟩ = some (.slice none 0 0) := cell_of_row _ _ _ _ _ _ m2
    have e7 : W9.cell? ⟨w.heap.size + 1 + 1, 7, none⟩ = some (.slice none 0 0) := cell_of_row _ _ _ _ _ _ m2
    have ek : W9.cell? ⟨w.heap.size + 1 + 1 + 1, 0, none⟩ = some (.bool false) := cell_of_row _ _ _ _ _ _ m3
    refine ⟨.tuple #[.agg zero8, .bool false], ?_, zeroP, false, _, _, _, _, _, rfl, .of_below bl3, verR_zero _, .inr ⟨rfl, rfl, .inr fun i U hU => ?_⟩⟩
    · simp [results, Try.f19, go_sem, e0, e1, e2, e3, e4, e5, e6, e7, ek]
    · have hi := (List.getElem?_eq_some_iff.1 hU).1
      have := HP.out ⟨i, hi⟩ (backs_mem _ (by simp))
      obtain ⟨ef, -⟩ := HV.out.each i U hU
      rw [← ef]; exact this
  case stop =>
    rintro D c pre W hD ⟨k, hk, rfl⟩ ⟨⟨rfl, ini, i, hin, hini, hleft⟩, hB1⟩ hK
    obtain ⟨V, a3, n3, c3, a4, n4, c4, a5, n5, c5, a6, n6, c6, a7, n7, c7, hm, hLi, hle, hver⟩ := hleft.own (grownBy_putObj' W D (.deferred none)) (fun r e => by cases e; exact ⟨_, hK, rfl⟩)
    have bl3 := hB1.trans (belowK_b (w := w) (Nat.le_refl _) W D _ (.deferred none) (by omega) hK rfl rfl)
    gi_wp2
    refine ⟨by simp, .inl ⟨_, _, rfl, run_takeDeferred hK, ?_⟩⟩
    generalize W.putObj D (.deferred none) = W9 at hm hver bl3 ⊢
    have e0 : W9.cell? ⟨w.heap.size + 1 + 1, 0, none⟩ = some (.int .i64 V.frm) := cell_of_row _ _ _ _ _ _ hm.res
    have e1 : W9.cell? ⟨w.heap.size + 1 + 1, 1, none⟩ = some (.int .i64 V.mode) := cell_of_row _ _ _ _ _ _ hm.res
    have e2 : W9.cell? ⟨w.heap.size + 1 + 1, 2, none⟩ = some (.int .i64 V.unit) := cell_of_row _ _ _ _ _ _ hm.res
    have e3 : W9.cell? ⟨w.heap.size + 1 + 1, 3, none⟩ = some (.slice a3 n3 c3) := cell_of_row _ _ _ _ _ _ hm.res
    have e4 : W9.cell? ⟨w.heap.size + 1 + 1, 4, none⟩ = some (.slice a4 n4 c4) := cell_of_row _ _ _ _ _ _ hm.res
    have e5 : W9.cell? ⟨w.heap.size + 1 + 1, 5, none⟩ = some (.slice a5 n5 c5) := cell_of_row _ _ _ _ _ _ hm.res
    have e6 : W9.cell? ⟨w.heap.size + 1 + 1, 6, none⟩ = some (.slice a6 n6 c6) := cell_of_row _ _ _ _ _ _ hm.res
    have e7 : W9.cell? ⟨w.heap.size + 1 + 1, 7, none⟩ = some (.slice a7 n7 c7) := cell_of_row _ _ _ _ _ _ hm.res
    have ek : W9.cell? ⟨w.heap.size + 1 + 1 + 1, 0, none⟩ = some (.bool true) := cell_of_row _ _ _ _ _ _ hm.ok
    have hii : L.length - 1 - k < L.length := by omega
    rw [backs_succ _ _ ⟨L.length - 1 - k, hii⟩ hk rfl] at hin
    obtain ⟨h1, h2⟩ := List.append_inj' hin rfl
    subst h1
    obtain rfl : (⟨L.length - 1 - k, hii⟩ : Fin L.length) = i := by simpa using h2
    refine ⟨.tuple #[.agg #[.int .i64 V.frm, .int .i64 V.mode, .int .i64 V.unit, .slice a3 n3 c3, .slice a4 n4 c4, .slice a5 n5 c5, .slice a6 n6 c6, .slice a7 n7 c7], .bool true], ?_, V, true, _, _, _, _, _, rfl, .of_below bl3, hver, .inl ⟨rfl, hd, _, hLi, hle, fun j U hj hU => ?_⟩⟩
    · simp [results, Try.f19, go_sem, e0, e1, e2, e3, e4, e5, e6, e7, ek]
    · have hi := (List.getElem?_eq_some_iff.1 hU).1
      have := hini ⟨j, hi⟩ (backs_mem _ (by simp at hj ⊢; omega))
      obtain ⟨ef, -⟩ := HV.out.each j U hU
      rw [← ef]; exact this
set_option maxRecDepth 1000000 in
set_option maxHeartbeats 8000000 in
theorem atP_no (nm : ByteArray) (cur : Int) (v : Value) (d : Int) (L : List VerP) (w : World) (hv : ∃ a n c, v = .slice a n c) (hd : ¬ DayOk d) :
    Calls Try.prog 19 #[.agg #[.string nm, .int .i64 cur, v], .int .i64 d] w (AtPost L d w) := by
  obtain ⟨a, n, c, rfl⟩ := hv
  go_enter Try.func19, Try.ntmps19
  go_wp2_with (go_at_call 36; refine (valid_no d _ hd).mono ?_; rintro e w' ⟨rfl, rfl⟩)
  go_returns
  exact ⟨zeroP, false, _, _, _, _, _, rfl, .of_below (by (repeat' (first | (with_reducible exact Below.refl _ _) | (with_reducible assumption) | (with_reducible refine Below.grow ?_ ?_ _ _) | (with_reducible refine Below.alloc ?_ ?_ _) | (with_reducible refine Below.drewN ?_ _) | (with_reducible refine Below.drew ?_) | (with_reducible refine Below.setCell ?_ ?_ _) | go_size))), verR_zero _, .inr ⟨rfl, rfl, .inl hd⟩⟩
theorem atP_any (nm : ByteArray) (cur : Int) (v : Value) (L : List VerP) (x : VRow) (d : Int) (w : World) (h : VsAt w v L x) :
    Calls Try.prog 19 #[.agg #[.string nm, .int .i64 cur, v], .int .i64 d] w (AtPost L d w) := by
  by_cases hd : DayOk d
  · exact atP_yes nm cur v L x d w h hd
  · obtain ⟨_, a, c, hv, _⟩ := h.lies
    exact atP_no nm cur v d L w ⟨_, _, _, hv⟩ hd
end Go.Proofs.Ytldelkkeimlfcaa
