/- A raw version that came in, as data. -/
import Derived.Test.YtldelkkeimlfcaaVer
import Derived.ProofKit
import Derived.SizedLaws
import Derived.Deep.Matrix
import Derived.Deep.Fields
import Derived.OpenShut
set_option linter.all false
namespace Go.Proofs.Ytldelkkeimlfcaa
open Go.RowKit Go.ChangeShapes Go.WideShapes Go.Deep
section
variable {H : Type} {enc : TypeId × Value → H} {P : Program} {w : World}
def fits (P : Program) (t : TypeId) (d : DataW H) : Prop := ∀ n ∈ d.weights P t, n ≤ 140737488351232

theorem add_at' (b off i : Nat) : (⟨b, off, none⟩ : Addr).add i = ⟨b, off + i, none⟩ := by unfold Addr.add; split <;> simp_all
theorem cell_lt {w : World} {b o : Nat} {v : Value} (h : w.cell? ⟨b, o, none⟩ = some v) : b < w.heap.size := by
  rcases Nat.lt_or_ge b w.heap.size with h1 | h1
  · exact h1
  · simp [World.cell?, Array.getElem?_eq_none h1] at h
theorem i64_of_wf {n : Int} (h : (Lit.int .i64 n).wf = true) : I64 n := bounds_i64 h
/-- A slice of integers that came in. -/
theorem IntsAt.of_cells {a : Option Addr} {len cap : Nat} {zs : List Int} (hl : len ≤ cap) (hz : zs.length = cap) (hw : ∀ n ∈ zs, (Lit.int .i64 n).wf = true) (hb : len ≤ 140737488355328) (ha : a = none → len = 0)
    (hc : ∀ x, a = some x → ∀ i, i < cap → w.cell? (x.add i) = some (.int .i64 (zs.getD i 0))) : IntsAt w (.slice a len cap) (zs.take len) := by
  have hlen : (zs.take len).length = len := by rw [List.length_take]; omega
  refine ⟨by omega, fun z hz2 => i64_of_wf (hw z (List.mem_of_mem_take hz2)), a, cap, by rw [hlen], ?_⟩
  rw [hlen]
  by_cases h0 : len = 0
  · exact .inl h0
  · cases a with
    | none => exact .inl (ha rfl)
    | some x =>
      obtain ⟨b, off, spot⟩ := x
      have h1 := hc _ rfl 0 (by omega)
      have hspot : spot = none := by simpa [Addr.add] using World.cell?_spot h1
      subst hspot
      have h2 : ∀ i, i < cap → w.cell? ⟨b, off + i, none⟩ = some (.int .i64 (zs.getD i 0)) := fun i hi => by
        rw [← add_at']; exact hc _ rfl i hi
      refine .inr ⟨b, off, rfl, cell_lt (h2 0 (by omega)), fun i hi => ?_⟩
      rw [h2 i (by omega)]
      simp [List.getD_eq_getElem?_getD, hi]
theorem IntsAt.of_trod {t e : TypeId} {fuel : Nat} {v : Value} {x : DataW H × List MemPlace} (ht : P.underlying t = some (.slice e)) (he : P.underlying e = some (.int .i64)) (hc : P.cellsOf e = 1) (hb : P.bytesOf e = 8)
    (h : DataW.trod enc P w 0 (fun _ => true) true fuel t [v] = some x) (hf : fits P t x.1) : ∃ zs, IntsAt w v zs := by
  rcases open_ints ht he hc h with ⟨hcs, _⟩ | ⟨a, l, c, zs, hcs, _, hl, hm, hz, hx, hcell, hwz⟩
  · simp at hcs
    subst hcs
    exact ⟨[], by simp, by simp, none, 0, rfl, .inl rfl⟩
  · simp at hcs
    subst hcs
    simp only [if_true] at hz
    have h8 : l ≤ 140737488355328 := by
      have h9 := hf ((l + (c - l)) * 8) (by rw [hx]; simp [DataW.weights, ht, lits, hb, hz, Nat.min_eq_left hl])
      omega
    exact ⟨zs.take l, IntsAt.of_cells hl hz hwz h8 (fun e => by cases e) fun x' hx' i hi => by cases hx'; exact hcell i (by omega)⟩
theorem RowsAt.of_trod {t e q : TypeId} {fuel : Nat} {v : Value} {x : DataW H × List MemPlace} (ht : P.underlying t = some (.slice e)) (he : P.underlying e = some (.slice q)) (hq : P.underlying q = some (.int .i64)) (ce : P.cellsOf e = 1) (cq : P.cellsOf q = 1) (be : P.bytesOf e = 24) (bq : P.bytesOf q = 8)
    (h : DataW.trod enc P w 0 (fun _ => true) true fuel t [v] = some x) (hf : fits P t x.1) : ∃ zss, RowsAt w v zss := by
  rcases open_int_rows ht he hq ce cq h with ⟨hcs, _⟩ | ⟨a, len, cap, A, L, C, Z, hcs, _, hl, hm, hx, hr⟩
  · simp at hcs
    subst hcs
    exact ⟨[], by simp, none, 0, rfl, .inl rfl⟩
  · simp at hcs
    subst hcs
    have h8 : len ≤ 140737488355328 := by
      have h9 := hf ((len + (cap - len)) * 24) (by rw [hx]; simp [DataW.weights, ht, be])
      omega
    have hrow : ∀ r, r < len → IntsAt w (.slice (A r) (L r) (C r)) ((Z r).take (L r)) := by
      intro r hrl
      obtain ⟨h1, h2, h3, h4, h5, h6, h7⟩ := hr r (by omega)
      refine IntsAt.of_cells h2 h4 h5 ?_ (fun e => by have := h6 e; omega) (fun x' hx' i hi => (h7 x' hx').2 i hi)
      cases hA : A r with
      | none => have := h6 hA; omega
      | some y =>
        have h9 := hf ((L r + (C r - L r)) * 8) (by
          rw [hx]
          simp only [DataW.weights, ht, List.mem_cons, List.mem_append]
          right; left
          have key : ∀ (l : List Nat), r ∈ l → (L r + (C r - L r)) * 8 ∈ DataW.weightsAll P e (l.map fun r => (intRow (H := H) .i64 (A r) (L r) (Z r))) := by
            intro l
            induction l with
            | nil => intro h; cases h
            | cons y' l ih =>
              intro h
              simp only [List.map_cons, DataW.weightsAll, List.mem_append]
              rcases List.mem_cons.1 h with rfl | h
              · left; simp [intRow, hA, DataW.weights, he, lits, bq, h4, Nat.min_eq_left h2]
              · exact .inr (ih h)
          exact key _ (List.mem_range.2 hrl))
        omega
    refine ⟨(List.range len).map fun r => (Z r).take (L r), by simpa using h8, some a, cap, by simp, ?_⟩
    by_cases h0 : len = 0
    · left; simp [h0]
    · right
      obtain ⟨b, off, spot⟩ := a
      have h1 := (hr 0 (by omega)).1
      have hspot : spot = none := by simpa [Addr.add] using World.cell?_spot h1
      subst hspot
      have h2 : ∀ i, i < cap → w.cell? ⟨b, off + i, none⟩ = some (.slice (A i) (L i) (C i)) := fun i hi => by
        rw [← add_at']; exact (hr i hi).1
      refine ⟨b, off, rfl, cell_lt (h2 0 (by omega)), fun i hi => ?_⟩
      have hi' : i < len := by simpa using hi
      refine ⟨_, h2 i (by omega), ?_⟩
      have : ((List.range len).map fun r => (Z r).take (L r)).getD i [] = (Z i).take (L i) := by simp [List.getD_eq_getElem?_getD, hi']
      rw [this]
      exact hrow i hi'
end
theorem array10 {α : Type} {cs : Array α} (h : cs.size = 10) : ∃ c0 c1 c2 c3 c4 c5 c6 c7 c8 c9, cs = #[c0, c1, c2, c3, c4, c5, c6, c7, c8, c9] := by
  obtain ⟨l⟩ := cs
  match l, h with
  | [c0, c1, c2, c3, c4, c5, c6, c7, c8, c9], _ => exact ⟨c0, c1, c2, c3, c4, c5, c6, c7, c8, c9, rfl⟩
theorem c25 : (Try.prog).cellsOf 25 = 10 := by kernel_rfl
theorem c3 : (Try.prog).cellsOf 3 = 1 := by kernel_rfl
theorem c22 : (Try.prog).cellsOf 22 = 1 := by kernel_rfl
theorem c23 : (Try.prog).cellsOf 23 = 1 := by kernel_rfl
theorem b3 : (Try.prog).bytesOf 3 = 8 := by kernel_rfl
theorem b22 : (Try.prog).bytesOf 22 = 24 := by kernel_rfl
theorem fits_part {H : Type} {P : Program} {t : TypeId} {fs : Array Field} {l : List (DataW H)} {i : Nat} {f : Field} {d : DataW H} (ht : P.underlying t = some (.struct fs)) (h : fits P t (.agg l)) (hf : fs[i]? = some f) (hd : l[i]? = some d) : fits P f.type d := by
  intro n hn
  refine h n ?_
  simp only [DataW.weights, ht]
  exact DataW.weights_mem_each (j := i) (by simp [hf]) hd n hn
theorem int_of_trod {H : Type} {enc : TypeId × Value → H} {w : World} {fuel : Nat} {v : Value} {x : DataW H × List MemPlace} (h : DataW.trod enc Try.prog w 0 (fun _ => true) true fuel 3 [v] = some x) : ∃ n, v = .int .i64 n ∧ I64 n := by
  obtain ⟨n, hcs, _, hw⟩ := DataW.trod_int Try.underlying3 h
  exact ⟨n, by simpa using hcs, i64_of_wf hw⟩
set_option maxRecDepth 1000000 in
/-- The raw version that came in: its ten cells. -/
theorem RawAt.of_trod {H : Type} {enc : TypeId × Value → H} {w : World} {r : Reach} {b0 : Nat} {v : Value} {d : DataW H} {p : List MemPlace} (hv : Value.okWide Try.prog w r b0 25 v)
    (h : DataW.Trod enc Try.prog w 0 (fun _ => true) true 25 v d p) (hf : fits Try.prog 25 d) :
    ∃ R cs, v = .agg cs ∧ RawAt w cs.toList R := by
  have ht := Try.underlying25
  obtain ⟨cs, rfl, hsz⟩ := okWide_struct ht hv
  obtain ⟨c0, c1, c2, c3', c4, c5, c6, c7, c8, c9, rfl⟩ := array10 (hsz.trans c25)
  obtain ⟨fuel, h⟩ := h
  obtain ⟨xs, n, _, hx, _, hlen, hF⟩ := DataW.trod_struct ht h
  simp only [Prod.mk.injEq] at hx
  obtain ⟨rfl, -⟩ := hx
  have k0 := hF 0 _ rfl
  have k1 := hF 1 _ rfl
  have k2 := hF 2 _ rfl
  have k3 := hF 3 _ rfl
  have k4 := hF 4 _ rfl
  have k5 := hF 5 _ rfl
  have k6 := hF 6 _ rfl
  have k7 := hF 7 _ rfl
  have k8 := hF 8 _ rfl
  have k9 := hF 9 _ rfl
  simp only [Value.cells, List.drop_zero, List.drop_succ_cons, List.take_succ_cons, List.take_zero] at k0 k1 k2 k3 k4 k5 k6 k7 k8 k9
  match xs, hlen with
  | [y0, y1, y2, y3, y4, y5, y6, y7, y8, y9], _ =>
    obtain ⟨n0, rfl, w0⟩ := int_of_trod k0
    obtain ⟨n1, rfl, w1⟩ := int_of_trod k1
    obtain ⟨n2, rfl, w2⟩ := int_of_trod k2
    obtain ⟨n9, rfl, w9⟩ := int_of_trod k9
    obtain ⟨z3, w3⟩ := IntsAt.of_trod Try.underlying22 Try.underlying3 c3 b3 k3 (fits_part ht hf (i := 3) rfl rfl)
    obtain ⟨z4, w4⟩ := IntsAt.of_trod Try.underlying22 Try.underlying3 c3 b3 k4 (fits_part ht hf (i := 4) rfl rfl)
    obtain ⟨z5, w5⟩ := RowsAt.of_trod Try.underlying23 Try.underlying22 Try.underlying3 c22 c3 b22 b3 k5 (fits_part ht hf (i := 5) rfl rfl)
    obtain ⟨z6, w6⟩ := RowsAt.of_trod Try.underlying23 Try.underlying22 Try.underlying3 c22 c3 b22 b3 k6 (fits_part ht hf (i := 6) rfl rfl)
    obtain ⟨z7, w7⟩ := RowsAt.of_trod Try.underlying23 Try.underlying22 Try.underlying3 c22 c3 b22 b3 k7 (fits_part ht hf (i := 7) rfl rfl)
    obtain ⟨z8, w8⟩ := RowsAt.of_trod Try.underlying23 Try.underlying22 Try.underlying3 c22 c3 b22 b3 k8 (fits_part ht hf (i := 8) rfl rfl)
    exact ⟨⟨n0, n1, n2, z3, z4, z5, z6, z7, z8, n9⟩, _, rfl, w0, w1, w2, w9, c3', c4, c5, c6, c7, c8, rfl, w3, w4, w5, w6, w7, w8⟩
end Go.Proofs.Ytldelkkeimlfcaa
