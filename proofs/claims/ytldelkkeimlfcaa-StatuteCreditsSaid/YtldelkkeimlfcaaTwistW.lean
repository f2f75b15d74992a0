/- twist: what it does to a version in memory. -/
import Derived.Test.YtldelkkeimlfcaaTwist
import Derived.Test.YtldelkkeimlfcaaTwistR
set_option linter.all false
namespace Go.Proofs.Ytldelkkeimlfcaa
open Go.RowKit

def TwPost (B : Nat) (V : VerP) (w : World) (v3 v4 v5 v6 v7 : Value) (n : Int) (e : Ending) (w' : World) : Prop := e = .returned (.tuple #[]) ∧ Below B w w' ∧ VerAt B w' (twistP n V) v3 v4 v5 v6 v7
theorem VerAt.same {B : Nat} {w w' : World} {V : VerP} {v3 v4 v5 v6 v7 : Value} (h : VerAt B w V v3 v4 v5 v6 v7) (hb : w.heap.size ≤ w'.heap.size) (hw : ∀ k, B ≤ k → k < w.heap.size → w'.heap[k]? = w.heap[k]?) : VerAt B w' V v3 v4 v5 v6 v7 := by
  obtain ⟨ql, qg, qr, H1, H2, H3, H4, H5, e1, e2, e3, ord, r1, r2, r3, r4, r5⟩ := h
  exact ⟨ql, qg, qr, H1, H2, H3, H4, H5, e1, e2, e3, ord, r1.keep hb fun k h1 _ h2 => hw k (by omega) h2, r2.keep hb fun k h1 _ h2 => hw k (by omega) h2, r3.keep hb fun k h1 _ h2 => hw k (by omega) h2, r4.keep hb fun k h1 _ h2 => hw k (by omega) h2, r5.keep hb fun k h1 h2 => hw k (by omega) h2⟩
theorem VerAt.grow {B : Nat} {w : World} {V : VerP} {v3 v4 v5 v6 v7 : Value} (h : VerAt B w V v3 v4 v5 v6 v7) (bs : Array Obj) (d : Nat) : VerAt B (w.grow bs d) V v3 v4 v5 v6 v7 := h.same (by simp) fun k _ hk => World.heap_grow _ _ _ hk
theorem VerAt.alloc {B : Nat} {w : World} {V : VerP} {v3 v4 v5 v6 v7 : Value} (h : VerAt B w V v3 v4 v5 v6 v7) (o : Obj) : VerAt B (w.alloc o) V v3 v4 v5 v6 v7 := h.same (by simp) fun k _ hk => Below.heap_alloc w o k hk
theorem VerAt.drew {B : Nat} {w : World} {V : VerP} {v3 v4 v5 v6 v7 : Value} (h : VerAt B w V v3 v4 v5 v6 v7) : VerAt B w.drew V v3 v4 v5 v6 v7 := h.same (Nat.le_refl _) fun k _ _ => rfl
theorem VerAt.setCell {B : Nat} {w : World} {V : VerP} {v3 v4 v5 v6 v7 : Value} (h : VerAt B w V v3 v4 v5 v6 v7) {a : Addr} (ha : a.block < B) (u : Value) : VerAt B (w.setCell a u) V v3 v4 v5 v6 v7 := h.same (by simp) fun k hk _ => Below.heap_setCell _ _ _ _ (by omega)
theorem VerAt.le {B B' : Nat} {w : World} {V : VerP} {v3 v4 v5 v6 v7 : Value} (h : VerAt B w V v3 v4 v5 v6 v7) (hb : B' ≤ B) : VerAt B' w V v3 v4 v5 v6 v7 := by
  obtain ⟨ql, qg, qr, H1, H2, H3, H4, H5, e1, e2, e3, ord, r1, r2, r3, r4, r5⟩ := h
  exact ⟨ql, qg, qr, H1, H2, H3, H4, H5, e1, e2, e3, ⟨by omega, ord.2⟩, r1, r2, r3, r4, r5⟩
theorem RowX.drew' {T : TypeId} {c base : Nat} {X : Nat → Prop} {w : World} {v : Value} {l : List (List Value)} {rs : List (Ex × Value)} (h : RowX T c base X w v l rs) : RowX T c base X w.drew v l rs := h.drew
theorem RowX.apart' {T : TypeId} {c base g : Nat} {X : Nat → Prop} {w w' : World} {v : Value} {l : List (List Value)} {rs : List (Ex × Value)} (h : RowX T c base X w v l rs) (hn : Next g w w') (hg : ¬ (base ≤ g ∧ X g)) : RowX T c base X w' v l rs :=
  h.keep hn.size fun k h1 h2 h3 => hn.blk k h3 fun e => hg (by subst e; exact ⟨h1, h2⟩)
section
variable {B g : Nat} {w w' : World} {cr cr' : List (Int × Int)} {se se' : List (Int × Int × Int)} {ql ql' : List (ByteArray × (Ex × Value))} {qg qg' : List GrT} {qr : List (Int × (Ex × Value))} {v3 v4 v5 v6 v7 : Value} {H1 H2 H3 H4 H5 : Nat}
theorem VerQ.put1 (h : VerQ B w cr se ql qg qr v3 v4 v5 v6 v7 H1 H2 H3 H4 H5) (hg : H1 ≤ g ∧ g < H2) (hn : Next g w w') (r : RowX 63 2 H1 (· < H2) w' v3 (crL cr') []) : VerQ B w' cr' se ql qg qr v3 v4 v5 v6 v7 H1 H2 H3 H4 H5 := by
  have o := h.ord
  exact ⟨o, r, h.r2.apart' hn (fun e => by have := e.1; omega), h.r3.apart' hn (fun e => by have := e.1; omega), h.r4.apart' hn (fun e => by have := e.1; omega), h.r5.keep hn.size fun k h1 h2 => hn.blk k h2 (by omega)⟩
theorem VerQ.put2 (h : VerQ B w cr se ql qg qr v3 v4 v5 v6 v7 H1 H2 H3 H4 H5) (hg : H2 ≤ g ∧ g < H3) (hn : Next g w w') (r : RowX 67 3 H2 (· < H3) w' v4 (seL se') []) : VerQ B w' cr se' ql qg qr v3 v4 v5 v6 v7 H1 H2 H3 H4 H5 := by
  have o := h.ord
  exact ⟨o, h.r1.apart' hn (fun e => by have : g < H2 := e.2; omega), r, h.r3.apart' hn (fun e => by have := e.1; omega), h.r4.apart' hn (fun e => by have := e.1; omega), h.r5.keep hn.size fun k h1 h2 => hn.blk k h2 (by omega)⟩
theorem VerQ.put3 (h : VerQ B w cr se ql qg qr v3 v4 v5 v6 v7 H1 H2 H3 H4 H5) (hg : H3 ≤ g ∧ g < H4) (hn : Next g w w') (r : RowX 75 7 H3 (· < H4) w' v5 (letL ql') (ql'.map (·.2))) : VerQ B w' cr se ql' qg qr v3 v4 v5 v6 v7 H1 H2 H3 H4 H5 := by
  have o := h.ord
  exact ⟨o, h.r1.apart' hn (fun e => by have : g < H2 := e.2; omega), h.r2.apart' hn (fun e => by have : g < H3 := e.2; omega), r, h.r4.apart' hn (fun e => by have := e.1; omega), h.r5.keep hn.size fun k h1 h2 => hn.blk k h2 (by omega)⟩
theorem VerQ.put4 (h : VerQ B w cr se ql qg qr v3 v4 v5 v6 v7 H1 H2 H3 H4 H5) (hg : H4 ≤ g ∧ g < H5) (hn : Next g w w') (r : RowX 79 13 H4 (· < H5) w' v6 (grL qg') (grR qg')) : VerQ B w' cr se ql qg' qr v3 v4 v5 v6 v7 H1 H2 H3 H4 H5 := by
  have o := h.ord
  exact ⟨o, h.r1.apart' hn (fun e => by have : g < H2 := e.2; omega), h.r2.apart' hn (fun e => by have : g < H3 := e.2; omega), h.r3.apart' hn (fun e => by have : g < H4 := e.2; omega), r, h.r5.keep hn.size fun k h1 h2 => hn.blk k h2 (by omega)⟩
end
/-- Twists 1 and 2: the second element's first cell becomes the first's. -/
theorem twist_1
    (B g : Nat) (frm mode unit : Int) (V : VerP) (v3 v4 v5 v6 v7 : Value) (w : World) (hg : w.heap[g]? = some (.cells #[.int .i64 frm, .int .i64 mode, .int .i64 unit, v3, v4, v5, v6, v7] 34 (0, 0)))
    (hlen : V.cr.length ≤ 1000 ∧ V.se.length ≤ 1000 ∧ V.le.length ≤ 1000 ∧ V.gr.length ≤ 1000) (h : VerAt B w V v3 v4 v5 v6 v7)
    : Calls Try.prog 28 #[.pointer (some ⟨g, 0, none⟩), .int .i64 1] w (TwPost B V w v3 v4 v5 v6 v7 1) := by
  obtain ⟨ql, qg, qr, H1, H2, H3, H4, H5, e1, e2, e3, hQ⟩ := h
  have ho := hQ.ord
  have hc : w.cell? ⟨g, 6, none⟩ = some v6 := cell_of_row w g 6 _ _ _ hg
  match qg, e2, hQ with
  | [], e2, hQ =>
    obtain ⟨a, cap, hv⟩ := hQ.r4.form
    refine (tw1_no g _ cap a w (hc.trans (congrArg some hv)) (by simp [grL])).mono ?_
    rintro e w' ⟨rfl, rfl⟩
    exact ⟨rfl, .refl _ _, ql, [], qr, H1, H2, H3, H4, H5, e1, by simp [twistP, ← e2], e3, hQ⟩
  | [t], e2, hQ =>
    obtain ⟨a, cap, hv⟩ := hQ.r4.form
    refine (tw1_no g _ cap a w (hc.trans (congrArg some hv)) (by simp [grL])).mono ?_
    rintro e w' ⟨rfl, rfl⟩
    exact ⟨rfl, .refl _ _, ql, [t], qr, H1, H2, H3, H4, H5, e1, by simp [twistP, ← e2], e3, hQ⟩
  | t :: u :: r, e2, hQ =>
    have hl : (grL (t :: u :: r)).length = V.gr.length := by rw [← e2]; simp [grL]
    obtain ⟨gg, cap, rfl⟩ := hQ.r4.block (by simp [grL])
    obtain ⟨b1, b2, b3⟩ := hQ.r4.apart
    have c0 : w.cell? ⟨gg, 0, none⟩ = some (.int .i64 t.1) := hQ.r4.cellAt rfl 0 0 (by omega) (by simp [grL])
    have c1 : w.cell? ⟨gg, 13, none⟩ = some (.int .i64 u.1) := hQ.r4.cellAt rfl 1 0 (by omega) (by simp [grL])
    refine (tw1_yes g gg _ cap t.1 w hc (by simp [grL]) (by omega) c0 _ c1 (hQ.r4.own.frozenAt _)).mono ?_
    rintro e w' ⟨rfl, rfl⟩
    refine ⟨rfl, ((Below.refl _ _).setCell (by show B ≤ gg; omega) _).drew, ql, t :: (t.1, u.2) :: r, qr, H1, H2, H3, H4, H5, e1, by simp [twistP, ← e2], e3, ?_⟩
    exact hQ.put4 ⟨b1, b2⟩ (((Next.refl _ _).store _ _).drew) (hQ.r4.stored (rs' := grR (t :: (t.1, u.2) :: r)) rfl 1 0 13 rfl (by omega) (by simp [grL]) (.int .i64 t.1) (fun x hx => .inl hx)).drew
theorem twist_2
    (B g : Nat) (frm mode unit : Int) (V : VerP) (v3 v4 v5 v6 v7 : Value) (w : World) (hg : w.heap[g]? = some (.cells #[.int .i64 frm, .int .i64 mode, .int .i64 unit, v3, v4, v5, v6, v7] 34 (0, 0)))
    (hlen : V.cr.length ≤ 1000 ∧ V.se.length ≤ 1000 ∧ V.le.length ≤ 1000 ∧ V.gr.length ≤ 1000) (h : VerAt B w V v3 v4 v5 v6 v7)
    : Calls Try.prog 28 #[.pointer (some ⟨g, 0, none⟩), .int .i64 2] w (TwPost B V w v3 v4 v5 v6 v7 2) := by
  obtain ⟨ql, qg, qr, H1, H2, H3, H4, H5, e1, e2, e3, hQ⟩ := h
  have ho := hQ.ord
  have hc : w.cell? ⟨g, 5, none⟩ = some v5 := cell_of_row w g 5 _ _ _ hg
  match ql, e1, hQ with
  | [], e1, hQ =>
    obtain ⟨a, cap, hv⟩ := hQ.r3.form
    refine (tw2_no g _ cap a w (hc.trans (congrArg some hv)) (by simp [letL])).mono ?_
    rintro e w' ⟨rfl, rfl⟩
    exact ⟨rfl, .refl _ _, [], qg, qr, H1, H2, H3, H4, H5, by simp [twistP, ← e1], e2, e3, hQ⟩
  | [t], e1, hQ =>
    obtain ⟨a, cap, hv⟩ := hQ.r3.form
    refine (tw2_no g _ cap a w (hc.trans (congrArg some hv)) (by simp [letL])).mono ?_
    rintro e w' ⟨rfl, rfl⟩
    exact ⟨rfl, .refl _ _, [t], qg, qr, H1, H2, H3, H4, H5, by simp [twistP, ← e1], e2, e3, hQ⟩
  | t :: u :: r, e1, hQ =>
    have hl : (letL (t :: u :: r)).length = V.le.length := by rw [← e1]; simp [letL]
    obtain ⟨gg, cap, rfl⟩ := hQ.r3.block (by simp [letL])
    obtain ⟨b1, b2, b3⟩ := hQ.r3.apart
    have c0 : w.cell? ⟨gg, 0, none⟩ = some (.string t.1) := hQ.r3.cellAt rfl 0 0 (by omega) (by simp [letL])
    have c1 : w.cell? ⟨gg, 7, none⟩ = some (.string u.1) := hQ.r3.cellAt rfl 1 0 (by omega) (by simp [letL])
    refine (tw2_yes g gg _ cap t.1 w hc (by simp [letL]) (by omega) c0 _ c1 (hQ.r3.own.frozenAt _)).mono ?_
    rintro e w' ⟨rfl, rfl⟩
    refine ⟨rfl, ((Below.refl _ _).setCell (by show B ≤ gg; omega) _).drew, t :: (t.1, u.2) :: r, qg, qr, H1, H2, H3, H4, H5, by simp [twistP, ← e1], e2, e3, ?_⟩
    exact hQ.put3 ⟨b1, b2⟩ (((Next.refl _ _).store _ _).drew) (hQ.r3.stored (rs' := List.map (fun x : ByteArray × (Ex × Value) => x.2) (t :: (t.1, u.2) :: r)) rfl 1 0 7 rfl (by omega) (by simp [letL]) (.string t.1) (fun x hx => .inl hx)).drew
theorem twist_4
    (B g : Nat) (frm mode unit : Int) (V : VerP) (v3 v4 v5 v6 v7 : Value) (w : World) (hg : w.heap[g]? = some (.cells #[.int .i64 frm, .int .i64 mode, .int .i64 unit, v3, v4, v5, v6, v7] 34 (0, 0)))
    (hlen : V.cr.length ≤ 1000 ∧ V.se.length ≤ 1000 ∧ V.le.length ≤ 1000 ∧ V.gr.length ≤ 1000) (h : VerAt B w V v3 v4 v5 v6 v7)
    : Calls Try.prog 28 #[.pointer (some ⟨g, 0, none⟩), .int .i64 4] w (TwPost B V w v3 v4 v5 v6 v7 4) := by
  obtain ⟨ql, qg, qr, H1, H2, H3, H4, H5, e1, e2, e3, hQ⟩ := h
  have ho := hQ.ord
  have hc : w.cell? ⟨g, 4, none⟩ = some v4 := cell_of_row w g 4 _ _ _ hg
  generalize hse : V.se = se at hQ
  match se, hse, hQ with
  | [], hse, hQ =>
    obtain ⟨a, cap, hv⟩ := hQ.r2.form
    refine (tw4_no g _ cap a w (hc.trans (congrArg some hv)) (by simp [seL])).mono ?_
    rintro e w' ⟨rfl, rfl⟩
    exact ⟨rfl, .refl _ _, ql, qg, qr, H1, H2, H3, H4, H5, e1, e2, e3, by have hs : (twistP 4 V).se = [] := (by simp [twistP, hse]); rw [hs]; exact hQ⟩
  | [t], hse, hQ =>
    obtain ⟨a, cap, hv⟩ := hQ.r2.form
    refine (tw4_no g _ cap a w (hc.trans (congrArg some hv)) (by simp [seL])).mono ?_
    rintro e w' ⟨rfl, rfl⟩
    exact ⟨rfl, .refl _ _, ql, qg, qr, H1, H2, H3, H4, H5, e1, e2, e3, by have hs : (twistP 4 V).se = [t] := (by simp [twistP, hse]); rw [hs]; exact hQ⟩
  | t :: u :: r, hse, hQ =>
    have hl : (seL (t :: u :: r)).length = V.se.length := by rw [hse]; simp [seL]
    obtain ⟨gg, cap, rfl⟩ := hQ.r2.block (by simp [seL])
    obtain ⟨b1, b2, b3⟩ := hQ.r2.apart
    have c0 : w.cell? ⟨gg, 0, none⟩ = some (.int .i64 t.1) := hQ.r2.cellAt rfl 0 0 (by omega) (by simp [seL])
    have c1 : w.cell? ⟨gg, 3, none⟩ = some (.int .i64 u.1) := hQ.r2.cellAt rfl 1 0 (by omega) (by simp [seL])
    refine (tw4_yes g gg _ cap t.1 w hc (by simp [seL]) (by omega) c0 _ c1 (hQ.r2.own.frozenAt _)).mono ?_
    rintro e w' ⟨rfl, rfl⟩
    refine ⟨rfl, ((Below.refl _ _).setCell (by show B ≤ gg; omega) _).drew, ql, qg, qr, H1, H2, H3, H4, H5, e1, e2, e3, ?_⟩
    have hs : (twistP 4 V).se = t :: (t.1, u.2) :: r := by simp [twistP, hse]
    rw [hs]
    exact hQ.put2 ⟨b1, b2⟩ (((Next.refl _ _).store _ _).drew) (hQ.r2.stored (rs' := []) rfl 1 0 3 rfl (by omega) (by simp [seL]) (.int .i64 t.1) (fun x hx => .inl hx)).drew
theorem twist_5
    (B g : Nat) (frm mode unit : Int) (V : VerP) (v3 v4 v5 v6 v7 : Value) (w : World) (hg : w.heap[g]? = some (.cells #[.int .i64 frm, .int .i64 mode, .int .i64 unit, v3, v4, v5, v6, v7] 34 (0, 0)))
    (hlen : V.cr.length ≤ 1000 ∧ V.se.length ≤ 1000 ∧ V.le.length ≤ 1000 ∧ V.gr.length ≤ 1000) (h : VerAt B w V v3 v4 v5 v6 v7)
    : Calls Try.prog 28 #[.pointer (some ⟨g, 0, none⟩), .int .i64 5] w (TwPost B V w v3 v4 v5 v6 v7 5) := by
  obtain ⟨ql, qg, qr, H1, H2, H3, H4, H5, e1, e2, e3, hQ⟩ := h
  have ho := hQ.ord
  have hc : w.cell? ⟨g, 3, none⟩ = some v3 := cell_of_row w g 3 _ _ _ hg
  generalize hcr : V.cr = cr at hQ
  match cr, hcr, hQ with
  | [], hcr, hQ =>
    obtain ⟨a, cap, hv⟩ := hQ.r1.form
    refine (tw5_no g _ cap a w (hc.trans (congrArg some hv)) (by simp [crL])).mono ?_
    rintro e w' ⟨rfl, rfl⟩
    exact ⟨rfl, .refl _ _, ql, qg, qr, H1, H2, H3, H4, H5, e1, e2, e3, by have hs : (twistP 5 V).cr = [] := (by simp [twistP, hcr]); rw [hs]; exact hQ⟩
  | [t], hcr, hQ =>
    obtain ⟨a, cap, hv⟩ := hQ.r1.form
    refine (tw5_no g _ cap a w (hc.trans (congrArg some hv)) (by simp [crL])).mono ?_
    rintro e w' ⟨rfl, rfl⟩
    exact ⟨rfl, .refl _ _, ql, qg, qr, H1, H2, H3, H4, H5, e1, e2, e3, by have hs : (twistP 5 V).cr = [t] := (by simp [twistP, hcr]); rw [hs]; exact hQ⟩
  | t :: u :: r, hcr, hQ =>
    have hl : (crL (t :: u :: r)).length = V.cr.length := by rw [hcr]; simp [crL]
    obtain ⟨gg, cap, rfl⟩ := hQ.r1.block (by simp [crL])
    obtain ⟨b1, b2, b3⟩ := hQ.r1.apart
    have c0 : w.cell? ⟨gg, 0, none⟩ = some (.int .i64 t.1) := hQ.r1.cellAt rfl 0 0 (by omega) (by simp [crL])
    have c1 : w.cell? ⟨gg, 2, none⟩ = some (.int .i64 u.1) := hQ.r1.cellAt rfl 1 0 (by omega) (by simp [crL])
    refine (tw5_yes g gg _ cap t.1 w hc (by simp [crL]) (by omega) c0 _ c1 (hQ.r1.own.frozenAt _)).mono ?_
    rintro e w' ⟨rfl, rfl⟩
    refine ⟨rfl, ((Below.refl _ _).setCell (by show B ≤ gg; omega) _).drew, ql, qg, qr, H1, H2, H3, H4, H5, e1, e2, e3, ?_⟩
    have hs : (twistP 5 V).cr = t :: (t.1, u.2) :: r := by simp [twistP, hcr]
    rw [hs]
    exact hQ.put1 ⟨b1, b2⟩ (((Next.refl _ _).store _ _).drew) (hQ.r1.stored (rs' := []) rfl 1 0 2 rfl (by omega) (by simp [crL]) (.int .i64 t.1) (fun x hx => .inl hx)).drew
theorem twist_6
    (B g : Nat) (frm mode unit : Int) (V : VerP) (v3 v4 v5 v6 v7 : Value) (w : World) (hg : w.heap[g]? = some (.cells #[.int .i64 frm, .int .i64 mode, .int .i64 unit, v3, v4, v5, v6, v7] 34 (0, 0)))
    (hlen : V.cr.length ≤ 1000 ∧ V.se.length ≤ 1000 ∧ V.le.length ≤ 1000 ∧ V.gr.length ≤ 1000) (h : VerAt B w V v3 v4 v5 v6 v7)
    : Calls Try.prog 28 #[.pointer (some ⟨g, 0, none⟩), .int .i64 6] w (TwPost B V w v3 v4 v5 v6 v7 6) := by
  obtain ⟨ql, qg, qr, H1, H2, H3, H4, H5, e1, e2, e3, hQ⟩ := h
  have ho := hQ.ord
  have hc : w.cell? ⟨g, 5, none⟩ = some v5 := cell_of_row w g 5 _ _ _ hg
  match ql, e1, hQ with
  | [], e1, hQ =>
    obtain ⟨a, cap, hv⟩ := hQ.r3.form
    refine (tw6_no g _ cap a w (hc.trans (congrArg some hv)) (by simp [letL])).mono ?_
    rintro e w' ⟨rfl, rfl⟩
    exact ⟨rfl, .refl _ _, [], qg, qr, H1, H2, H3, H4, H5, by simp [twistP, ← e1], e2, e3, hQ⟩
  | t :: r, e1, hQ =>
    have hl : (letL (t :: r)).length = V.le.length := by rw [← e1]; simp [letL]
    obtain ⟨gg, cap, rfl⟩ := hQ.r3.block (by simp [letL])
    obtain ⟨b1, b2, b3⟩ := hQ.r3.apart
    have c0 : w.cell? ⟨gg, 0, none⟩ = some (.string t.1) := hQ.r3.cellAt rfl 0 0 (by omega) (by simp [letL])
    refine (tw6_yes g gg _ cap w hc (by simp [letL]) (by omega) _ c0 (hQ.r3.own.frozenAt _)).mono ?_
    rintro e w' ⟨rfl, rfl⟩
    refine ⟨rfl, (Below.refl _ _).setCell (by show B ≤ gg; omega) _, (ageN, t.2) :: r, qg, qr, H1, H2, H3, H4, H5, by simp [twistP, ← e1], e2, e3, ?_⟩
    exact hQ.put3 ⟨b1, b2⟩ ((Next.refl _ _).store _ _) (hQ.r3.stored (rs' := List.map (fun x : ByteArray × (Ex × Value) => x.2) ((ageN, t.2) :: r)) rfl 0 0 0 rfl (by omega) (by simp [letL]) (.string ageN) (fun x hx => .inl hx))
theorem laterRng : ExRng laterE := ⟨⟨by decide, by decide⟩, ⟨by decide, by decide⟩, ⟨by decide, by decide⟩, ⟨by decide, by decide⟩, by decide, by decide⟩
theorem twist_3
    (B g : Nat) (frm mode unit : Int) (V : VerP) (v3 v4 v5 v6 v7 : Value) (w : World) (hg : w.heap[g]? = some (.cells #[.int .i64 frm, .int .i64 mode, .int .i64 unit, v3, v4, v5, v6, v7] 34 (0, 0)))
    (hlen : V.cr.length ≤ 1000 ∧ V.se.length ≤ 1000 ∧ V.le.length ≤ 1000 ∧ V.gr.length ≤ 1000) (h : VerAt B w V v3 v4 v5 v6 v7)
    : Calls Try.prog 28 #[.pointer (some ⟨g, 0, none⟩), .int .i64 3] w (TwPost B V w v3 v4 v5 v6 v7 3) := by
  obtain ⟨ql, qg, qr, H1, H2, H3, H4, H5, e1, e2, e3, hQ⟩ := h
  have ho := hQ.ord
  have hc : w.cell? ⟨g, 5, none⟩ = some v5 := cell_of_row w g 5 _ _ _ hg
  match ql, e1, hQ with
  | [], e1, hQ =>
    obtain ⟨a, cap, hv⟩ := hQ.r3.form
    refine (tw3_no g _ cap a w (hc.trans (congrArg some hv)) (by simp [letL])).mono ?_
    rintro e w' ⟨rfl, rfl⟩
    exact ⟨rfl, .refl _ _, [], qg, qr, H1, H2, H3, H4, H5, by simp [twistP, ← e1], e2, e3, hQ⟩
  | t :: r, e1, hQ =>
    have hl : (letL (t :: r)).length = V.le.length := by rw [← e1]; simp [letL]
    obtain ⟨gg, cap, rfl⟩ := hQ.r3.block (by simp [letL])
    obtain ⟨b1, b2, b3⟩ := hQ.r3.apart
    have cc := fun j hj => hQ.r3.cellAt rfl 0 j hj (by simp [letL])
    refine (tw3_yes g gg _ cap w hc (by simp [letL]) (by omega) _ _ _ _ _ _ (cc 1 (by omega)) (cc 2 (by omega)) (cc 3 (by omega)) (cc 4 (by omega)) (cc 5 (by omega)) (cc 6 (by omega)) (fun i => hQ.r3.own.frozenAt i)).mono ?_
    rintro e w' ⟨rfl, rfl⟩
    have hb : B ≤ gg := by omega
    refine ⟨rfl, ((((((Below.refl _ _).setCell hb _).setCell hb _).setCell hb _).setCell hb _).setCell hb _).setCell hb _, (t.1, (laterE, .slice none 0 0)) :: r, qg, qr, H1, H2, H3, H4, H5, by simp [twistP, ← e1], e2, e3, ?_⟩
    have s1 := hQ.r3.stored rfl 0 1 1 rfl (by omega) (by simp [letL]) (.int .i64 2) (fun x hx => .inl hx)
    have s2 := s1.stored rfl 0 2 2 rfl (by omega) (by simp [letL]) (.int .i64 0) (fun x hx => .inl hx)
    have s3 := s2.stored rfl 0 3 3 rfl (by omega) (by simp [letL]) (.int .i64 0) (fun x hx => .inl hx)
    have s4 := s3.stored rfl 0 4 4 rfl (by omega) (by simp [letL]) (.int .i64 0) (fun x hx => .inl hx)
    have s5 := s4.stored rfl 0 5 5 rfl (by omega) (by simp [letL]) (.string ⟨#[108, 97, 116, 101, 114]⟩) (fun x hx => .inl hx)
    have s6 := s5.stored (rs' := List.map (fun x : ByteArray × (Ex × Value) => x.2) ((t.1, (laterE, .slice none 0 0)) :: r)) rfl 0 6 6 rfl (by omega) (by simp [letL]) (.slice none 0 0) (fun x hx => by
      rw [List.map_cons, List.mem_cons] at hx
      rcases hx with rfl | hx
      · exact .inr (.nil laterRng rfl)
      · exact .inl (by rw [List.map_cons]; exact List.mem_cons_of_mem _ hx))
    exact hQ.put3 ⟨b1, b2⟩ ((((((((Next.refl _ _).store _ _).store _ _).store _ _).store _ _).store _ _).store _ _)) s6
theorem twist_0
    (B g : Nat) (frm mode unit : Int) (V : VerP) (v3 v4 v5 v6 v7 : Value) (w : World) (hg : w.heap[g]? = some (.cells #[.int .i64 frm, .int .i64 mode, .int .i64 unit, v3, v4, v5, v6, v7] 34 (0, 0)))
    (hlen : V.cr.length ≤ 1000 ∧ V.se.length ≤ 1000 ∧ V.le.length ≤ 1000 ∧ V.gr.length ≤ 1000) (h : VerAt B w V v3 v4 v5 v6 v7)
    : Calls Try.prog 28 #[.pointer (some ⟨g, 0, none⟩), .int .i64 0] w (TwPost B V w v3 v4 v5 v6 v7 0) := by
  obtain ⟨ql, qg, qr, H1, H2, H3, H4, H5, e1, e2, e3, hQ⟩ := h
  have ho := hQ.ord
  have hc : w.cell? ⟨g, 6, none⟩ = some v6 := cell_of_row w g 6 _ _ _ hg
  match qg, e2, hQ with
  | [], e2, hQ =>
    obtain ⟨a, cap, hv⟩ := hQ.r4.form
    refine (tw0_no g _ cap a w (hc.trans (congrArg some hv)) (by simp [grL])).mono ?_
    rintro e w' ⟨rfl, rfl⟩
    exact ⟨rfl, .refl _ _, ql, [], qr, H1, H2, H3, H4, H5, e1, by simp [twistP, ← e2], e3, hQ⟩
  | (b, (f, vf), u) :: r, e2, hQ =>
    obtain ⟨va, vc, hvv⟩ := (hQ.r4.rep (f, vf) (by simp [grR])).form0
    simp only at hvv
    subst hvv
    have hl : (grL ((b, (f, .slice va f.args.length vc), u) :: r)).length = V.gr.length := by rw [← e2]; simp [grL]
    obtain ⟨gg, cap, rfl⟩ := hQ.r4.block (by simp [grL])
    obtain ⟨b1, b2, b3⟩ := hQ.r4.apart
    have cc := fun j hj => hQ.r4.cellAt rfl 0 j hj (by simp [grL])
    refine (tw0_yes g gg _ cap f.op f.num f.den f.dim f.name va f.args.length vc w hc (by simp [grL]) (by omega) (cc 1 (by omega)) (cc 2 (by omega)) (cc 3 (by omega)) (cc 4 (by omega)) (cc 5 (by omega)) (cc 6 (by omega)) _ _ _ _ _ _ (cc 7 (by omega)) (cc 8 (by omega)) (cc 9 (by omega)) (cc 10 (by omega)) (cc 11 (by omega)) (cc 12 (by omega)) (fun i => hQ.r4.own.frozenAt i)).mono ?_
    rintro e w' ⟨rfl, rfl⟩
    have hb : B ≤ gg := by omega
    refine ⟨rfl, (((((((Below.refl _ _).setCell hb _).setCell hb _).setCell hb _).setCell hb _).setCell hb _).setCell hb _).drew, ql, (b, (f, .slice va f.args.length vc), (f, .slice va f.args.length vc)) :: r, qr, H1, H2, H3, H4, H5, e1, by simp [twistP, ← e2], e3, ?_⟩
    have s1 := hQ.r4.stored rfl 0 7 7 rfl (by omega) (by simp [grL]) (.int .i64 f.op) (fun x hx => .inl hx)
    have s2 := s1.stored rfl 0 8 8 rfl (by omega) (by simp [grL]) (.int .i64 f.num) (fun x hx => .inl hx)
    have s3 := s2.stored rfl 0 9 9 rfl (by omega) (by simp [grL]) (.int .i64 f.den) (fun x hx => .inl hx)
    have s4 := s3.stored rfl 0 10 10 rfl (by omega) (by simp [grL]) (.int .i64 f.dim) (fun x hx => .inl hx)
    have s5 := s4.stored rfl 0 11 11 rfl (by omega) (by simp [grL]) (.string f.name) (fun x hx => .inl hx)
    have s6 := s5.stored (rs' := grR ((b, (f, .slice va f.args.length vc), (f, .slice va f.args.length vc)) :: r)) rfl 0 12 12 rfl (by omega) (by simp [grL]) (.slice va f.args.length vc) (fun x hx => by
      left
      simp only [grR, List.flatMap_cons, List.cons_append, List.nil_append, List.mem_cons] at hx ⊢
      rcases hx with rfl | rfl | hx
      · exact .inl rfl
      · exact .inl rfl
      · exact .inr (.inr hx))
    exact hQ.put4 ⟨b1, b2⟩ (((((((((Next.refl _ _).store _ _).store _ _).store _ _).store _ _).store _ _).store _ _)).drew) s6.drew
theorem twist_any (n : Int) (h0 : 0 ≤ n) (h7 : n < 7)
    (B g : Nat) (frm mode unit : Int) (V : VerP) (v3 v4 v5 v6 v7 : Value) (w : World) (hg : w.heap[g]? = some (.cells #[.int .i64 frm, .int .i64 mode, .int .i64 unit, v3, v4, v5, v6, v7] 34 (0, 0)))
    (hlen : V.cr.length ≤ 1000 ∧ V.se.length ≤ 1000 ∧ V.le.length ≤ 1000 ∧ V.gr.length ≤ 1000) (h : VerAt B w V v3 v4 v5 v6 v7)
    : Calls Try.prog 28 #[.pointer (some ⟨g, 0, none⟩), .int .i64 n] w (TwPost B V w v3 v4 v5 v6 v7 n) := by
  obtain rfl | rfl | rfl | rfl | rfl | rfl | rfl : n = 0 ∨ n = 1 ∨ n = 2 ∨ n = 3 ∨ n = 4 ∨ n = 5 ∨ n = 6 := by omega
  · exact twist_0 B g frm mode unit V v3 v4 v5 v6 v7 w hg hlen h
  · exact twist_1 B g frm mode unit V v3 v4 v5 v6 v7 w hg hlen h
  · exact twist_2 B g frm mode unit V v3 v4 v5 v6 v7 w hg hlen h
  · exact twist_3 B g frm mode unit V v3 v4 v5 v6 v7 w hg hlen h
  · exact twist_4 B g frm mode unit V v3 v4 v5 v6 v7 w hg hlen h
  · exact twist_5 B g frm mode unit V v3 v4 v5 v6 v7 w hg hlen h
  · exact twist_6 B g frm mode unit V v3 v4 v5 v6 v7 w hg hlen h
theorem OfPost.mk {R : RawV} {V : VerP} {w w1 wz : World} {B : Nat} {v3 v4 v5 v6 v7 : Value} (hT : ofP R = V) (hV : V.frm = pick R.frm 73049 ∧ V.mode = pick R.mode 4 + 1 ∧ V.unit = unitOf (pick R.unit 5)) (hb : Below w.heap.size w wz)
    (hn : Next (w.heap.size + 1) w1 wz) (hv : VerAt B w1 V v3 v4 v5 v6 v7) (hB : w.heap.size + 2 ≤ B) :
    OfPost R w (.returned (.agg #[.int .i64 (pick R.frm 73049), .int .i64 (pick R.mode 4 + 1), .int .i64 (unitOf (pick R.unit 5)), v3, v4, v5, v6, v7])) wz := by
  subst hT
  obtain ⟨a, b, c⟩ := hV
  exact ⟨v3, v4, v5, v6, v7, by rw [a, b, c], .of_below hb, (hv.same hn.size fun k hk hlt => hn.blk k hlt (by omega)).le (by omega)⟩
end Go.Proofs.Ytldelkkeimlfcaa
