/- An indexation series that came in, as data. -/
import Derived.Test.YtldelkkeimlfcaaArg
import Derived.Test.YtldelkkeimlfcaaFactor
import Derived.Deep.Slices
set_option linter.all false
namespace Go.Proofs.Ytldelkkeimlfcaa
open Go.RowKit Go.ChangeShapes Go.WideShapes Go.Deep
section
variable {H : Type} {enc : TypeId × Value → H} {w : World}
theorem c67 : (Try.prog).cellsOf 67 = 3 := by kernel_rfl
theorem c39 : (Try.prog).cellsOf 39 = 2 := by kernel_rfl
theorem b67 : (Try.prog).bytesOf 67 = 24 := by kernel_rfl
set_option maxRecDepth 1000000 in
theorem idx_of_trod {fuel : Nat} {cs : List Value} {x : DataW H × List MemPlace} (h : DataW.trod enc Try.prog w 0 (fun _ => true) true fuel 67 cs = some x) :
    ∃ y : Int × Int × Int, cs = [.int .i64 y.1, .int .i64 y.2.1, .int .i64 y.2.2] ∧ I64 y.1 ∧ I64 y.2.1 ∧ I64 y.2.2 := by
  obtain ⟨xs, n, _, hx, hl, hlen, hF⟩ := DataW.trod_struct Try.underlying67 h
  rw [c67] at hl
  match cs, hl with
  | [u0, u1, u2], _ =>
    have k0 := hF 0 _ rfl
    have k1 := hF 1 _ rfl
    match xs, hlen with
    | [y0, y1], _ =>
      obtain ⟨n0, rfl, w0⟩ := int_of_trod k0
      obtain ⟨xs2, n2, _, hx2, hl2, hlen2, hF2⟩ := DataW.trod_struct Try.underlying39 k1
      have j0 := hF2 0 _ rfl
      have j1 := hF2 1 _ rfl
      match xs2, hlen2 with
      | [z0, z1], _ =>
        obtain ⟨n1, rfl, w1⟩ := int_of_trod j0
        obtain ⟨n2, rfl, w2⟩ := int_of_trod j1
        exact ⟨(n0, n1, n2), rfl, w0, w1, w2⟩
set_option maxRecDepth 1000000 in
theorem SeriesAt.of_trod {fuel : Nat} {v : Value} {x : DataW H × List MemPlace} (h : DataW.trod enc Try.prog w 0 (fun _ => true) true fuel 26 [v] = some x) (hf : fits Try.prog 26 x.1) :
    ∃ n y nu de, SeriesAt w v n y nu de ∧ ∀ i, i < n → I64 (y i) ∧ I64 (nu i) ∧ I64 (de i) := by
  rcases open_slice Try.underlying26 h with ⟨hcs, _⟩ | ⟨a, len, cap, m, n, D, Pl, hcs, _, hl, hm, hmm, hx, hi⟩
  · simp at hcs
    subst hcs
    exact ⟨0, fun _ => 0, fun _ => 0, fun _ => 0, ⟨by simp, none, 0, rfl, .inl rfl⟩, fun i hi => by omega⟩
  · simp at hcs
    subst hcs
    simp only [if_true] at hmm
    subst hmm
    have h8 : len ≤ 140737488355328 := by
      have h9 := hf ((len + (m - len)) * 24) (by rw [hx]; simp [DataW.weights, Try.underlying26, b67])
      omega
    have each : ∀ i, i < m → ∃ y : Int × Int × Int, (w.cell? ((a.add (i * 3)).add 0) = some (.int .i64 y.1) ∧ w.cell? ((a.add (i * 3)).add 1) = some (.int .i64 y.2.1) ∧ w.cell? ((a.add (i * 3)).add 2) = some (.int .i64 y.2.2)) ∧ I64 y.1 ∧ I64 y.2.1 ∧ I64 y.2.2 := by
      intro i him
      obtain ⟨cs', hc, ht⟩ := hi i him
      obtain ⟨y, rfl, w0, w1, w2⟩ := idx_of_trod ht
      rw [c67] at hc
      obtain ⟨_, _, hat⟩ := World.cells?_some hc
      exact ⟨y, ⟨hat 0 (by omega), hat 1 (by omega), hat 2 (by omega)⟩, w0, w1, w2⟩
    obtain ⟨y, hy⟩ := choose_lt each
    refine ⟨len, fun i => (y i).1, fun i => (y i).2.1, fun i => (y i).2.2, ⟨h8, some a, m, rfl, ?_⟩, fun i hi => (hy i (by omega)).2⟩
    by_cases h0 : len = 0
    · exact .inl h0
    · right
      obtain ⟨b, off, spot⟩ := a
      have h1 := (hy 0 (by omega)).1.1
      have hspot : spot = none := by
        have := World.cell?_spot h1
        unfold Addr.add at this
        split at this <;> simp_all
      subst hspot
      have h2 : ∀ i, i < m → w.cell? ⟨b, off + i * 3, none⟩ = some (.int .i64 (y i).1) ∧ w.cell? ⟨b, off + i * 3 + 1, none⟩ = some (.int .i64 (y i).2.1) ∧ w.cell? ⟨b, off + i * 3 + 2, none⟩ = some (.int .i64 (y i).2.2) := fun i hi => by
        have := (hy i hi).1
        simpa only [add_at', Nat.add_zero] using this
      exact ⟨b, off, rfl, cell_lt (h2 0 (by omega)).1, fun i hi => h2 i (by omega)⟩
end
end Go.Proofs.Ytldelkkeimlfcaa
