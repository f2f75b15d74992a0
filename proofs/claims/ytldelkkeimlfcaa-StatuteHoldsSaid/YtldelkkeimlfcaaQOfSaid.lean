/- What is said of Of; a made version's series. -/
import Derived.Test.YtldelkkeimlfcaaQTwist
import Derived.Test.YtldelkkeimlfcaaQFactor
set_option linter.all false
namespace Go.Proofs.Ytldelkkeimlfcaa
open Go.RowKit

def OfSaid : Prop := ∀ (R : RawV) (cs : Array Value) (w : World), RawAt w cs.toList R → Calls Try.prog 9 #[.agg cs] w (OfPost R w)
theorem SeriesAt.same {w w' : World} {v : Value} {n : Nat} {y nu de : Nat → Int} (h : SeriesAt w v n y nu de) (hsz : w.heap.size ≤ w'.heap.size) (hw : ∀ k, k < w.heap.size → w'.heap[k]? = w.heap[k]?) : SeriesAt w' v n y nu de := by
  obtain ⟨h0, a, cap, hv, h1⟩ := h
  refine ⟨h0, a, cap, hv, h1.imp id ?_⟩
  rintro ⟨b, off, ha, hb, hc⟩
  refine ⟨b, off, ha, by omega, fun i hi => ?_⟩
  have e : ∀ o, w'.cell? ⟨b, o, none⟩ = w.cell? ⟨b, o, none⟩ := fun o => World.cell?_of_block (hw b hb)
  rw [e, e, e]
  exact hc i hi
theorem SeriesAt.alloc {w : World} {v : Value} {n : Nat} {y nu de : Nat → Int} (h : SeriesAt w v n y nu de) (o : Obj) : SeriesAt (w.alloc o) v n y nu de := h.same (by simp) fun k hk => Below.heap_alloc w o k hk
theorem SeriesAt.drewN {w : World} {v : Value} {n : Nat} {y nu de : Nat → Int} (h : SeriesAt w v n y nu de) (d : Nat) : SeriesAt (w.drewN d) v n y nu de := h
theorem SeriesAt.below {w w' : World} {v : Value} {n : Nat} {y nu de : Nat → Int} (h : SeriesAt w v n y nu de) (hb : Below w.heap.size w w') : SeriesAt w' v n y nu de := h.same hb.size fun k hk => hb.block k hk
/-- A made version's series. -/
def seY (V : VerP) (i : Nat) : Int := (V.se.getD i (0, 0, 0)).1
def seN (V : VerP) (i : Nat) : Int := (V.se.getD i (0, 0, 0)).2.1
def seD (V : VerP) (i : Nat) : Int := (V.se.getD i (0, 0, 0)).2.2
theorem VerAt.series {B : Nat} {w : World} {V : VerP} {v3 v4 v5 v6 v7 : Value} (h : VerAt B w V v3 v4 v5 v6 v7) (hl : V.se.length ≤ 1000) : SeriesAt w v4 V.se.length (seY V) (seN V) (seD V) := by
  obtain ⟨ql, qg, qr, H1, H2, H3, H4, H5, e1, e2, e3, ord, r1, r2, r3, r4, r5⟩ := h
  obtain ⟨a, cap, hv, hc⟩ := r2.toG.cells
  have hlen : (seL V.se).length = V.se.length := by simp [seL]
  rw [hlen] at hv hc
  refine ⟨by omega, a, cap, hv, hc.imp id ?_⟩
  rintro ⟨g, ha, hb, hlt, hx⟩
  refine ⟨g, 0, ha, hlt, fun i hi => ?_⟩
  have hget : (seL V.se).getD i [] = [.int .i64 (seY V i), .int .i64 (seN V i), .int .i64 (seD V i)] := by
    simp only [seL, seY, seN, seD, List.getD_eq_getElem?_getD, List.getElem?_map, List.getElem?_eq_getElem hi]; rfl
  have h3 := fun j u hj hu => hx i j u hi hj (by rw [hget]; exact hu)
  exact ⟨by rw [show 0 + i * 3 = i * 3 + 0 by omega]; exact h3 0 _ (by omega) rfl, by rw [show 0 + i * 3 + 1 = i * 3 + 1 by omega]; exact h3 1 _ (by omega) rfl, by rw [show 0 + i * 3 + 2 = i * 3 + 2 by omega]; exact h3 2 _ (by omega) rfl⟩
theorem VerAt.forms {B : Nat} {w : World} {V : VerP} {v3 v4 v5 v6 v7 : Value} (h : VerAt B w V v3 v4 v5 v6 v7) : (∃ a n c, v3 = .slice a n c) ∧ (∃ a n c, v4 = .slice a n c) ∧ (∃ a n c, v5 = .slice a n c) ∧ (∃ a n c, v6 = .slice a n c) ∧ ∃ a n c, v7 = .slice a n c := by
  obtain ⟨ql, qg, qr, H1, H2, H3, H4, H5, e1, e2, e3, ord, r1, r2, r3, r4, r5⟩ := h
  obtain ⟨a1, c1, f1⟩ := r1.form
  obtain ⟨a2, c2, f2⟩ := r2.form
  obtain ⟨a3, c3, f3⟩ := r3.form
  obtain ⟨a4, c4, f4⟩ := r4.form
  obtain ⟨a5, c5, f5⟩ := r5.form
  exact ⟨⟨_, _, _, f1⟩, ⟨_, _, _, f2⟩, ⟨_, _, _, f3⟩, ⟨_, _, _, f4⟩, ⟨_, _, _, f5⟩⟩
theorem twistP_se (n : Int) (V : VerP) : (twistP n V).se.length = V.se.length := by
  unfold twistP
  repeat' split
  all_goals first | rfl | skip
  all_goals simp_all
theorem ofP_se (R : RawV) : (ofP R).se.length ≤ 1000 := by
  have := (made_lens R).2.1
  unfold ofP
  split
  · exact this
  · split
    · rw [twistP_se]; exact this
    · exact this
theorem IntsAt.below {w w' : World} {v : Value} {zs : List Int} (h : IntsAt w v zs) (hb : Below w.heap.size w w') : IntsAt w' v zs := by
  obtain ⟨h0, hr, a, cap, hv, h1⟩ := h
  refine ⟨h0, hr, a, cap, hv, h1.imp id ?_⟩
  rintro ⟨b, off, ha, hlt, hc⟩
  have := hb.size
  exact ⟨b, off, ha, by omega, fun i hi => by rw [hb.cell (by exact hlt)]; exact hc i hi⟩
theorem RowsAt.below {w w' : World} {v : Value} {zss : List (List Int)} (h : RowsAt w v zss) (hb : Below w.heap.size w w') : RowsAt w' v zss := by
  obtain ⟨h0, a, cap, hv, h1⟩ := h
  refine ⟨h0, a, cap, hv, h1.imp id ?_⟩
  rintro ⟨b, off, ha, hlt, hc⟩
  have := hb.size
  refine ⟨b, off, ha, by omega, fun i hi => ?_⟩
  obtain ⟨u, hu, hi⟩ := hc i hi
  exact ⟨u, by rw [hb.cell (by exact hlt)]; exact hu, IntsAt.below hi hb⟩
theorem RawAt.below {w w' : World} {cs : List Value} {R : RawV} (h : RawAt w cs R) (hb : Below w.heap.size w w') : RawAt w' cs R := by
  obtain ⟨a, b, c, d, vc, vs, vl, vi, vp, vu, he, h1, h2, h3, h4, h5, h6⟩ := h
  exact ⟨a, b, c, d, vc, vs, vl, vi, vp, vu, he, IntsAt.below h1 hb, IntsAt.below h2 hb, RowsAt.below h3 hb, RowsAt.below h4 hb, RowsAt.below h5 hb, RowsAt.below h6 hb⟩
end Go.Proofs.Ytldelkkeimlfcaa
