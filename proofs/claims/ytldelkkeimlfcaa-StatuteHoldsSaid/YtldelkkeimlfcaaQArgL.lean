/- A slice of raw versions that came in, as data. -/
import Derived.Test.YtldelkkeimlfcaaQArg
import Derived.Test.YtldelkkeimlfcaaQStatD
import Derived.Deep.Slices
set_option linter.all false
namespace Go.Proofs.Ytldelkkeimlfcaa
open Go.RowKit Go.ChangeShapes Go.WideShapes Go.Deep
section
variable {H : Type} {enc : TypeId × Value → H} {w : World}
instance : Inhabited RawV := ⟨zeroR⟩
theorem bVer : (Try.prog).bytesOf 25 = 176 := by kernel_rfl
set_option maxRecDepth 1000000 in
theorem RawAt.of_cells {fuel : Nat} {cs : List Value} {x : DataW H × List MemPlace} (h : DataW.trod enc Try.prog w 0 (fun _ => true) true fuel 25 cs = some x) (hf : fits Try.prog 25 x.1) :
    ∃ R, RawAt w cs R := by
  have ht := Try.underlying25
  obtain ⟨xs, n, _, hx, hl, hlen, hF⟩ := DataW.trod_struct ht h
  rw [c25] at hl
  match cs, hl with
  | [c0, c1, c2, c3', c4, c5, c6, c7, c8, c9], _ =>
    rw [hx] at hf
    have k0 := hF 0 _ rfl
    have k1 := hF 1 _ rfl
    have k2 := hF 2 _ rfl
    have k3 := hF 3 _ rfl
    have k4 := hF 4 _ rfl
    have k5 := hF 5 _ rfl
    have k6 := hF 6 _ rfl
    have k7 := hF 7 _ rfl
    have k8 := hF 8 _ rfl
    have k9 := hF 9 _ rfl
    try simp only [List.drop_zero, List.drop_succ_cons, List.take_succ_cons, List.take_zero] at k0 k1 k2 k3 k4 k5 k6 k7 k8 k9
    match xs, hlen with
    | [y0, y1, y2, y3, y4, y5, y6, y7, y8, y9], _ =>
      obtain ⟨n0, rfl, w0⟩ := int_of_trod k0
      obtain ⟨n1, rfl, w1⟩ := int_of_trod k1
      obtain ⟨n2, rfl, w2⟩ := int_of_trod k2
      obtain ⟨n9, rfl, w9⟩ := int_of_trod k9
      obtain ⟨z3, w3⟩ := IntsAt.of_trod Try.underlying22 Try.underlying3 c3 b3 k3 (fits_part ht hf (i := 3) rfl rfl)
      obtain ⟨z4, w4⟩ := IntsAt.of_trod Try.underlying22 Try.underlying3 c3 b3 k4 (fits_part ht hf (i := 4) rfl rfl)
      obtain ⟨z5, w5⟩ := RowsAt.of_trod Try.underlying23 Try.underlying22 Try.underlying3 c22 c3 b22 b3 k5 (fits_part ht hf (i := 5) rfl rfl)
      obtain ⟨z6, w6⟩ := RowsAt.of_trod Try.underlying23 Try.underlying22 Try.underlying3 c22 c3 b22 b3 k6 (fits_part ht hf (i := 6) rfl rfl)
      obtain ⟨z7, w7⟩ := RowsAt.of_trod Try.underlying23 Try.underlying22 Try.underlying3 c22 c3 b22 b3 k7 (fits_part ht hf (i := 7) rfl rfl)
      obtain ⟨z8, w8⟩ := RowsAt.of_trod Try.underlying23 Try.underlying22 Try.underlying3 c22 c3 b22 b3 k8 (fits_part ht hf (i := 8) rfl rfl)
      exact ⟨⟨n0, n1, n2, z3, z4, z5, z6, z7, z8, n9⟩, w0, w1, w2, w9, c3', c4, c5, c6, c7, c8, rfl, w3, w4, w5, w6, w7, w8⟩
theorem weightsAll_mem {P : Program} {e : TypeId} {n : Nat} {d : DataW H} : ∀ {l : List (DataW H)}, d ∈ l → n ∈ DataW.weights P e d → n ∈ DataW.weightsAll P e l
  | _ :: _, h, hn => by
    rw [DataW.weightsAll, List.mem_append]
    rcases List.mem_cons.1 h with rfl | h
    · exact .inl hn
    · exact .inr (weightsAll_mem h hn)
set_option maxRecDepth 1000000 in
theorem RawsAt.of_trod {fuel : Nat} {v : Value} {x : DataW H × List MemPlace} (h : DataW.trod enc Try.prog w 0 (fun _ => true) true fuel 50 [v] = some x) (hf : fits Try.prog 50 x.1) :
    ∃ Rs, RawsAt w v Rs := by
  rcases open_slice Try.underlying50 h with ⟨hcs, _⟩ | ⟨a, len, cap, m, n, D, Pl, hcs, _, hl, hm, hmm, hx, hi⟩
  · simp at hcs
    subst hcs
    exact ⟨[], by simp, none, 0, rfl, .inl rfl⟩
  · simp at hcs
    subst hcs
    simp only [if_true] at hmm
    subst hmm
    have h8 : len ≤ 140737488355328 := by
      have h9 := hf ((len + (m - len)) * 176) (by rw [hx]; simp [DataW.weights, Try.underlying50, bVer])
      omega
    have each : ∀ i, i < len → ∃ y : RawV × List Value, RawAt w y.2 y.1 ∧ ∀ (j : Nat) (u : Value), y.2[j]? = some u → w.cell? ((a.add (i * 10)).add j) = some u := by
      intro i hil
      obtain ⟨cs', hc, ht⟩ := hi i (by omega)
      have hfi : fits Try.prog 25 (D i) := fun n' hn' => hf n' (by
        rw [hx]
        simp only [DataW.weights, Try.underlying50, List.mem_cons, List.mem_append]
        exact .inr (.inl (weightsAll_mem (List.mem_map.2 ⟨i, List.mem_range.2 hil, rfl⟩) hn')))
      obtain ⟨R, hR⟩ := RawAt.of_cells ht hfi
      rw [c25] at hc
      obtain ⟨_, hlen', hat⟩ := World.cells?_some hc
      refine ⟨(R, cs'), hR, fun j u hu => ?_⟩
      have hj := (List.getElem?_eq_some_iff.1 hu).1
      simp only at hj
      rw [hat j (by omega)]; exact hu
    obtain ⟨y, hy⟩ := choose_lt each
    refine ⟨(List.range len).map fun i => (y i).1, by simpa using h8, some a, m, by simp, ?_⟩
    by_cases h0 : len = 0
    · left; simp [h0]
    · right
      obtain ⟨b, off, spot⟩ := a
      obtain ⟨⟨r1, r2, r3, r4, vc, vs, vl, vi, vp, vu, he, -⟩, hc0⟩ := hy 0 (by omega)
      have h1 := hc0 0 _ (by rw [he]; rfl)
      have hspot : spot = none := by
        have := World.cell?_spot h1
        unfold Addr.add at this
        split at this <;> simp_all
      subst hspot
      have hcell : ∀ i, i < len → ∀ (j : Nat) (u : Value), (y i).2[j]? = some u → w.cell? ⟨b, off + i * 10 + j, none⟩ = some u := fun i hi j u hu => by
        have := (hy i hi).2 j u hu
        simpa only [add_at'] using this
      refine ⟨b, off, rfl, cell_lt (hcell 0 (by omega) 0 _ (by rw [he]; rfl)), fun i hi => ?_⟩
      have hi' : i < len := by simpa using hi
      refine ⟨(y i).2, ?_, hcell i hi'⟩
      have : ((List.range len).map fun i => (y i).1).getD i zeroR = (y i).1 := by simp [List.getD_eq_getElem?_getD, hi']
      rw [this]
      exact (hy i hi').1
end
end Go.Proofs.Ytldelkkeimlfcaa
