/- Lists without repetition in ascending order: two roads to one list. -/
import Derived.Lib.SlicesCompact
import Derived.Test.YtldelkkeimlfcaaQAtRef
import Derived.Test.YtldelkkeimlfcaaQShelf2
import Derived.Sort.OwnSortedInts
import Derived.Test.YtldelkkeimlfcaaQTake
import Derived.Deep.CutBlock
import Derived.Deep.CutRange
import Derived.Deep.DeepCutAuto
set_option linter.all false
namespace Go.Proofs.Ytldelkkeimlfcaa
open Go.Lib
def Asc (l : List Int) : Prop := l.Pairwise (· < ·)
theorem Asc.ext {l m : List Int} (hl : Asc l) (hm : Asc m) (h : ∀ y, y ∈ l ↔ y ∈ m) : l = m := by
  unfold Asc at hl hm
  induction l generalizing m with
  | nil =>
    cases m with
    | nil => rfl
    | cons b m => exact absurd ((h b).2 (List.mem_cons_self)) (by simp)
  | cons a l ih =>
    cases m with
    | nil => exact absurd ((h a).1 (List.mem_cons_self)) (by simp)
    | cons b m =>
      rw [List.pairwise_cons] at hl hm
      have hab : a = b := by
        have h1 := (h a).1 (List.mem_cons_self)
        have h2 := (h b).2 (List.mem_cons_self)
        rcases List.mem_cons.1 h1 with h1 | h1
        · exact h1
        · rcases List.mem_cons.1 h2 with h2 | h2
          · exact h2.symm
          · have := hm.1 a h1; have := hl.1 b h2; omega
      subst hab
      congr 1
      refine ih hl.2 hm.2 fun y => ⟨fun hy => ?_, fun hy => ?_⟩
      · rcases List.mem_cons.1 ((h y).1 (List.mem_cons_of_mem _ hy)) with h1 | h1
        · subst h1; exact absurd (hl.1 y hy) (by omega)
        · exact h1
      · rcases List.mem_cons.1 ((h y).2 (List.mem_cons_of_mem _ hy)) with h1 | h1
        · subst h1; exact absurd (hm.1 y hy) (by omega)
        · exact h1
/-- Where Ins stands behind k steps from the end. -/
def insAt (zs : List Int) (n : Int) : Nat → Nat
  | 0 => 0
  | k + 1 => if n ≤ zs.getD k 0 then insAt zs n k else k + 1
theorem insAt_le (zs : List Int) (n : Int) : ∀ k, insAt zs n k ≤ k
  | 0 => Nat.le_refl _
  | k + 1 => by
    unfold insAt
    split
    · have := insAt_le zs n k; omega
    · exact Nat.le_refl _
theorem insAt_ge (zs : List Int) (n : Int) : ∀ k i, insAt zs n k ≤ i → i < k → n ≤ zs.getD i 0
  | 0, i, _, h => by omega
  | k + 1, i, h1, h2 => by
    unfold insAt at h1
    split at h1
    · rename_i h
      rcases Nat.lt_or_ge i k with h3 | h3
      · exact insAt_ge zs n k i h1 h3
      · obtain rfl : i = k := by omega
        exact h
    · omega
theorem insAt_lt (zs : List Int) (n : Int) : ∀ k, 0 < insAt zs n k → zs.getD (insAt zs n k - 1) 0 < n
  | 0, h => by simp [insAt] at h
  | k + 1, h => by
    unfold insAt at h ⊢
    split
    · rename_i h1
      rw [if_pos h1] at h
      exact insAt_lt zs n k h
    · rename_i h1
      simp only [Nat.add_sub_cancel]; omega
def insS (zs : List Int) (n : Int) : List Int :=
  if insAt zs n zs.length < zs.length ∧ zs.getD (insAt zs n zs.length) 0 = n then zs else zs.take (insAt zs n zs.length) ++ n :: zs.drop (insAt zs n zs.length)
theorem asc_get {zs : List Int} (h : Asc zs) {i j : Nat} (hij : i < j) (hj : j < zs.length) : zs.getD i 0 < zs.getD j 0 := by
  have := List.pairwise_iff_getElem.1 h i j (by omega) hj hij
  rw [List.getD_eq_getElem?_getD, List.getD_eq_getElem?_getD, List.getElem?_eq_getElem hj, List.getElem?_eq_getElem (by omega : i < zs.length)]
  exact this
theorem mem_take_get {zs : List Int} {a : Nat} {x : Int} (h : x ∈ zs.take a) : ∃ i, i < a ∧ i < zs.length ∧ zs.getD i 0 = x := by
  obtain ⟨i, hi, he⟩ := List.mem_take_iff_getElem.1 h
  exact ⟨i, by omega, by omega, by rw [List.getD_eq_getElem?_getD, List.getElem?_eq_getElem (by omega : i < zs.length)]; exact he⟩
theorem mem_drop_get {zs : List Int} {a : Nat} {x : Int} (h : x ∈ zs.drop a) : ∃ i, a ≤ i ∧ i < zs.length ∧ zs.getD i 0 = x := by
  obtain ⟨i, hi, he⟩ := List.mem_drop_iff_getElem.1 h
  exact ⟨a + i, by omega, by omega, by rw [List.getD_eq_getElem?_getD, List.getElem?_eq_getElem (by omega : a + i < zs.length)]; exact he⟩
theorem insS_asc {zs : List Int} (n : Int) (h : Asc zs) : Asc (insS zs n) ∧ ∀ y, y ∈ insS zs n ↔ y ∈ zs ∨ y = n := by
  unfold insS
  split
  · rename_i h1
    refine ⟨h, fun y => ⟨.inl, fun hy => ?_⟩⟩
    rcases hy with hy | rfl
    · exact hy
    · rw [← h1.2, List.getD_eq_getElem?_getD, List.getElem?_eq_getElem h1.1]; exact List.getElem_mem h1.1
  · rename_i h1
    have lo : ∀ x ∈ zs.take (insAt zs n zs.length), x < n := by
      intro x hx
      obtain ⟨i, hi, hl, rfl⟩ := mem_take_get hx
      have h2 := insAt_lt zs n zs.length (by omega)
      rcases Nat.lt_or_ge i (insAt zs n zs.length - 1) with h3 | h3
      · have := asc_get h h3 (by have := insAt_le zs n zs.length; omega); omega
      · obtain rfl : i = insAt zs n zs.length - 1 := by omega
        exact h2
    have hi : ∀ x ∈ zs.drop (insAt zs n zs.length), n < x := by
      intro x hx
      obtain ⟨i, hi, hl, rfl⟩ := mem_drop_get hx
      have h2 := insAt_ge zs n zs.length (insAt zs n zs.length) (Nat.le_refl _) (by omega)
      rcases Nat.lt_or_ge (insAt zs n zs.length) i with h3 | h3
      · have := asc_get h h3 hl; omega
      · obtain rfl : i = insAt zs n zs.length := by omega
        have : ¬ zs.getD (insAt zs n zs.length) 0 = n := fun e => h1 ⟨hl, e⟩
        omega
    refine ⟨?_, fun y => ?_⟩
    · unfold Asc
      rw [List.pairwise_append]
      refine ⟨List.Pairwise.sublist (List.take_sublist _ _) h, ?_, ?_⟩
      · rw [List.pairwise_cons]
        exact ⟨hi, List.Pairwise.sublist (List.drop_sublist _ _) h⟩
      · intro a ha b hb
        rcases List.mem_cons.1 hb with rfl | hb
        · exact lo a ha
        · have := lo a ha; have := hi b hb; omega
    · conv => rhs; rw [← List.take_append_drop (insAt zs n zs.length) zs]
      simp only [List.mem_append, List.mem_cons]
      constructor
      · rintro (h | h | h)
        · exact .inl (.inl h)
        · exact .inr h
        · exact .inl (.inr h)
      · rintro ((h | h) | h)
        · exact .inl h
        · exact .inr (.inr h)
        · exact .inr (.inl h)
theorem insS_length (zs : List Int) (n : Int) : (insS zs n).length ≤ zs.length + 1 := by
  unfold insS
  split
  · omega
  · have := insAt_le zs n zs.length
    simp; omega
theorem compactUpTo_asc (d : Array Int) (hs : ∀ i j, i < j → j < d.size → d[i]! ≤ d[j]!) : ∀ m, m ≤ d.size →
    Asc (compactUpTo d m) ∧ (∀ y, y ∈ compactUpTo d m ↔ ∃ j, j < m ∧ d[j]! = y) := by
  intro m
  induction m with
  | zero => intro _; exact ⟨by simp [compactUpTo, Asc], fun y => by simp [compactUpTo]⟩
  | succ m ih =>
    intro hm
    obtain ⟨h1, h2⟩ := ih (by omega)
    rw [compactUpTo_succ]
    by_cases hk : keeps d m = true
    · rw [if_pos hk]
      constructor
      · unfold Asc
        rw [List.pairwise_append]
        refine ⟨h1, by simp, fun a ha b hb => ?_⟩
        obtain rfl : b = d[m]! := by simpa using hb
        obtain ⟨j, hj, rfl⟩ := (h2 a).1 ha
        have hle : d[j]! ≤ d[m - 1]! := by
          rcases Nat.lt_or_ge j (m - 1) with h3 | h3
          · exact hs j (m - 1) h3 (by omega)
          · obtain rfl : j = m - 1 := by omega
            exact Int.le_refl _
        have hle2 := hs (m - 1) m (by omega) (by omega)
        have hne : d[m]! ≠ d[m - 1]! := fun e => by
          rw [keeps_neg (by omega) e] at hk; cases hk
        omega
      · intro y
        rw [List.mem_append, h2]
        constructor
        · rintro (⟨j, hj, rfl⟩ | hy)
          · exact ⟨j, by omega, rfl⟩
          · exact ⟨m, by omega, by simpa [eq_comm] using hy⟩
        · rintro ⟨j, hj, rfl⟩
          rcases Nat.lt_or_ge j m with h3 | h3
          · exact .inl ⟨j, h3, rfl⟩
          · obtain rfl : j = m := by omega
            exact .inr (by simp)
    · rw [if_neg hk]
      refine ⟨by simpa using h1, fun y => ?_⟩
      rw [List.append_nil, h2]
      constructor
      · rintro ⟨j, hj, rfl⟩; exact ⟨j, by omega, rfl⟩
      · rintro ⟨j, hj, rfl⟩
        rcases Nat.lt_or_ge j m with h3 | h3
        · exact ⟨j, h3, rfl⟩
        · obtain rfl : j = m := by omega
          have h0 : 0 < j := by
            rcases Nat.eq_zero_or_pos j with h4 | h4
            · subst h4; exact absurd (keeps_lt_one d 0 (by omega)) hk
            · exact h4
          have he : d[j]! = d[j - 1]! := by
            rcases Classical.em (d[j]! = d[j - 1]!) with h5 | h5
            · exact h5
            · exact absurd (keeps_pos h5) hk
          exact ⟨j - 1, by omega, he.symm⟩
theorem compact_sorted (zs : List Int) : Asc (compact (zs.mergeSort fun x y => decide (x ≤ y))) ∧ ∀ y, y ∈ compact (zs.mergeSort fun x y => decide (x ≤ y)) ↔ y ∈ zs := by
  have hp : (zs.mergeSort fun x y => decide (x ≤ y)).Pairwise fun a b => decide (a ≤ b) = true := List.pairwise_mergeSort (fun a b c h1 h2 => by simp at *; omega) (fun a b => by simp; omega) zs
  have hm : ∀ y, y ∈ (zs.mergeSort fun x y => decide (x ≤ y)) ↔ y ∈ zs := fun y => List.mem_mergeSort
  generalize (zs.mergeSort fun x y => decide (x ≤ y)) = ts at hp hm
  have key := compactUpTo_asc ts.toArray (fun i j hij hj => by
    have hj' : j < ts.length := by simpa using hj
    have := List.pairwise_iff_getElem.1 hp i j (by omega) hj' hij
    simp only [decide_eq_true_eq] at this
    rw [getElem!_pos ts.toArray i (by simp; omega), getElem!_pos ts.toArray j (by simpa using hj')]
    simpa using this) ts.length (by simp)
  refine ⟨key.1, fun y => ?_⟩
  rw [← hm]
  refine (key.2 y).trans ?_
  rw [List.mem_iff_getElem]
  constructor
  · rintro ⟨j, hj, rfl⟩
    exact ⟨j, hj, by rw [getElem!_pos ts.toArray j (by simpa using hj)]; simp⟩
  · rintro ⟨j, hj, rfl⟩
    exact ⟨j, hj, by rw [getElem!_pos ts.toArray j (by simpa using hj)]; simp⟩
end Go.Proofs.Ytldelkkeimlfcaa
/- The days of change: by the program (sorted, compacted). -/
namespace Go.Proofs.Ytldelkkeimlfcaa
open Go.RowKit Go.Sort Go.Lib
/-- A slice's capacity is at least its length. -/
def CapOk (v : Value) : Prop := ∀ a n c, v = .slice a n c → n ≤ c
def IntsPost (zs : List Int) (w : World) (e : Ending) (w' : World) : Prop := ∃ v, e = .returned v ∧ w.Grows w' ∧ IntsAt w' v zs ∧ CapOk v
theorem compact_length (zs : List Int) : (compact zs).length ≤ zs.length := by
  unfold compact compactUpTo
  rw [List.length_map]
  exact Nat.le_trans (List.length_filter_le _ _) (by simp)
theorem ownsRow_unpack {w : World} {base g n cap : Nat} {e : TypeId} {zs : List Int} (h : w.ownsRow base e 1 (.slice (some ⟨g, 0, none⟩) n cap) n (zs.map (Value.int .i64))) :
    ∃ cur, zs.length = n ∧ base ≤ g ∧ w.heap[g]? = some (.cells cur e (0, 0)) ∧ n ≤ cap ∧ cap ≤ maxLen ∧ cur.size = cap * 1 ∧ cur.toList.take n = zs.map (Value.int .i64) := by
  obtain ⟨h0, h1 | ⟨g', cap', cur, hv, hb, hg, h2, h3, h4, h5⟩⟩ := h
  · cases h1.1
  · simp only [Value.slice.injEq, Option.some.injEq, Addr.mk.injEq, and_true, true_and] at hv
    obtain ⟨rfl, rfl⟩ := hv
    exact ⟨cur, by simpa using h0, hb, hg, h2, h3, h4, by simpa using h5⟩
theorem sort_row {base g cap : Nat} {zs : List Int} {w : World} (h : w.ownsRow base 3 1 (.slice (some ⟨g, 0, none⟩) zs.length cap) zs.length (zs.map (Value.int .i64))) (hl : zs.length ≤ 1000) :
    Calls Try.prog 41 #[.slice (some ⟨g, 0, none⟩) zs.length cap] w fun e w' => e = .returned (.tuple #[]) ∧ w.grownBy w' (some g) ∧
      w'.ownsRow base 3 1 (.slice (some ⟨g, 0, none⟩) zs.length cap) zs.length ((zs.mergeSort fun x y => decide (x ≤ y)).map (Value.int .i64)) := by
  obtain ⟨cur, -, hb, hg, h2, h3, h4, h5⟩ := ownsRow_unpack h
  refine (Try.slices_Sort_int g 0 cap zs w (holds_of_blockI hg h5) (Array.getElem?_eq_some_iff.1 hg).1 (by omega)).mono ?_
  rintro e w' ⟨rfl, n, os, rfl⟩
  exact ⟨rfl, grownBy_sortedI _, ownsRow_sortedI (by simp) hb hg h2 h3 h4⟩
theorem grow_nil (w : World) : Go.Sort.grow w #[] = w := by simp [Go.Sort.grow]
theorem compact_row {base g cap : Nat} {zs : List Int} {w : World} (h : w.ownsRow base 3 1 (.slice (some ⟨g, 0, none⟩) zs.length cap) zs.length (zs.map (Value.int .i64))) (hl : zs.length ≤ 1000) (hr : ∀ z ∈ compact zs, I64 z) :
    Calls Try.prog 42 #[.slice (some ⟨g, 0, none⟩) zs.length cap] w fun e w' => e = .returned (.slice (some ⟨g, 0, none⟩) (compact zs).length cap) ∧ w.grownBy w' (some g) ∧
      IntsAt w' (.slice (some ⟨g, 0, none⟩) (compact zs).length cap) (compact zs) ∧ (compact zs).length ≤ cap := by
  obtain ⟨cur, -, hb, hg, h2, h3, h4, h5⟩ := ownsRow_unpack h
  have hlt := (Array.getElem?_eq_some_iff.1 hg).1
  refine (Try.slices_Compact_int g 0 cap zs w (holds_of_blockI hg h5) (by omega) h2).mono ?_
  rintro e w' ⟨rfl, q, rfl⟩
  have hc := compact_length zs
  generalize hts : compact zs ++ List.replicate (zs.length - (compact zs).length) 0 = ts
  have htl : ts.length = zs.length := by rw [← hts]; simp; omega
  have g1 := grownBy_sortedI (w := w) (g := g) (n := q) (os := #[]) ts.toArray
  have o1 := ownsRow_sortedI (base := base) (n := q) (os := #[]) htl hb hg h2 h3 h4
  rw [grow_nil] at g1 o1
  refine ⟨rfl, g1, ⟨by omega, hr, _, _, rfl, .inr ⟨g, 0, rfl, by simpa using hlt, fun i hi => ?_⟩⟩, by omega⟩
  rw [Nat.zero_add]
  have := o1.cellAt i (by omega)
  rw [this, List.getElem?_map, ← hts, List.getElem?_append_left hi, List.getElem?_eq_getElem hi, List.getD_eq_getElem?_getD, List.getElem?_eq_getElem hi]
  rfl
def frms (L : List VerP) : List Int := L.map (·.frm)
theorem frms_take (L : List VerP) (k : Nat) (V : VerP) (h : L[k]? = some V) : (frms (L.take (k + 1))).map (Value.int .i64) = (frms (L.take k)).map (Value.int .i64) ++ [.int .i64 V.frm] := by
  have hk := (List.getElem?_eq_some_iff.1 h)
  obtain ⟨hk, he⟩ := hk
  rw [List.take_succ_eq_append_getElem hk, he]; simp [frms]
theorem infoInt : (Try.prog.info? 3).map (fun i => (i.zero, i.size, i.bytes)) = some (some (.int .i64 0), 1, 8) := by kernel_rfl
set_option maxHeartbeats 4000000 in
set_option maxRecDepth 100000 in
theorem chgP_any (nm : ByteArray) (cur : Int) (v : Value) (L : List VerP) (x : VRow) (w : World) (h : VsAt w v L x) (hL : 0 < L.length) :
    Calls Try.prog 23 #[.agg #[.string nm, .int .i64 cur, v]] w (IntsPost (compact ((frms L).mergeSort fun x y => decide (x ≤ y))) w) := by
  have HV := Lib.hid h
  obtain ⟨hn, a, cap, rfl, -⟩ := h.lies
  clear h
  have HL := Lib.hid hL
  clear hL
  obtain ⟨i0, hi, hz0, hz1, hz2⟩ := info_parts infoInt
  go_enter Try.func23, Try.ntmps23
  go_wp2_with fail
  go_loopw [3, 9] (fun v3 v9 wr => ∃ k : Nat, k ≤ L.length ∧ v9 = .int .i64 k ∧ Below w.heap.size w wr ∧ wr.ownsRow w.heap.size 3 1 v3 k ((frms (L.take k)).map (Value.int .i64))) (fun _ v9 _ => L.length - (intOf v9).toNat)
  case atStart => exact ⟨0, by omega, rfl, by (repeat' (first | (with_reducible exact Below.refl _ _) | (with_reducible assumption) | (with_reducible refine Below.grow ?_ ?_ _ _) | (with_reducible refine Below.alloc ?_ ?_ _) | (with_reducible refine Below.drewN ?_ _) | (with_reducible refine Below.drew ?_) | (with_reducible refine Below.setCell ?_ ?_ _) | go_size)), World.ownsRow_nil _ _ _ _⟩
  case round =>
    obtain ⟨k, hk, rfl, hB, hown⟩ := hrel
    by_cases hlt : k < L.length
    · obtain ⟨-, a', cap', hv, hx⟩ := HV.out.lies
      simp only [Value.slice.injEq, true_and] at hv
      obtain ⟨rfl, rfl⟩ := hv
      rcases hx with hx | ⟨b, off, rfl, hb, hx⟩
      · omega
      obtain ⟨q0, q1, q2, q3, q4, q5, q6, q7⟩ := (hx k hlt).same fun o => hB.cell (p := ⟨b, o, none⟩) hb
      obtain ⟨V, hV⟩ : ∃ V, L[k]? = some V := ⟨_, List.getElem?_eq_getElem hlt⟩
      obtain ⟨ef, -, -, hfr, -⟩ := HV.out.each k V hV
      rw [ef] at q0
      have HFT := Lib.hid (frms_take L k V hV)
      generalize hfv : V.frm = fv at *
      have d1 : (k : Int) < (L.length : Int) := by omega
      have hsW := hB.size
      have HB := Lib.hid hB
      have HO := Lib.hid hown
      clear hx hV ef hfr hfv hB hown
      go_wp2_with (at_builtin; refine wpList_append_own _ rfl _ _ 22 rfl w.heap.size 3 i0 (.int .i64 0) 1 8 Try.underlying22 hi hz0 hz1 hz2 rfl (by decide) _ _ _ rfl ((HO.out.alloc _).alloc _) ⟨wr.heap.size + 1, 0, none⟩ 1 1 [.int .i64 fv] rfl rfl ?c1 ?c2 ?c3 ?c4 ?c5 ?_)
      case c1 => exact news_cells _ [.int .i64 fv] _ _ (by simp)
      case c2 => intro u hu; simp at hu; subst hu; rfl
      case c3 => unfold maxLen; omega
      case c4 => omega
      case c5 => simp; omega
      intro v' w1 hown' hgrow _
      have HB1 := Lib.hid ((((HB.out.alloc (by omega) (.cells #[.int .i64 fv, .int .i64 (x.m k), .int .i64 (x.u k), .slice (x.a3 k) (x.n3 k) (x.c3 k), .slice (x.a4 k) (x.n4 k) (x.c4 k), .slice (x.a5 k) (x.n5 k) (x.c5 k), .slice (x.a6 k) (x.n6 k) (x.c6 k), .slice (x.a7 k) (x.n7 k) (x.c7 k)] 34)).alloc (by simp; omega) (.cells #[.int .i64 fv] 3)).grown hgrow (by simp; omega) (fun j hj => (HO.out.lt j hj).1)))
      have HO1 := Lib.hid hown'
      clear hown' hgrow
      go_wp2_with fail
      go_roundw
      case rel => exact ⟨k + 1, by omega, by go_num, HB1.out, by rw [HFT.out]; exact HO1.out⟩
      case measure => simp [intOf]; omega
    · obtain rfl : k = L.length := by omega
      rw [List.take_length] at hown
      have hfl : (frms L).length = L.length := by simp [frms]
      have hown2 := hown
      obtain ⟨-, ⟨_, h0⟩ | ⟨g, gc, cu, rfl, hbg, -⟩⟩ := hown2
      · have := HL.out; omega
      have HB := Lib.hid hB
      have HR : Hid (∀ z ∈ compact ((frms L).mergeSort fun x y => decide (x ≤ y)), I64 z) := Lib.hid (fun z hz => by
        have := ((compact_sorted (frms L)).2 z).1 hz
        obtain ⟨V, hV, rfl⟩ := List.mem_map.1 this
        obtain ⟨i, hi, he⟩ := List.mem_iff_getElem.1 hV
        exact (HV.out.each i V (by rw [List.getElem?_eq_getElem hi, he])).2.2.2.1)
      rw [← hfl] at hown ⊢
      have HO := Lib.hid hown
      have HN := Lib.hid (show (frms L).length ≤ 1000 by omega)
      have hsl : ((frms L).mergeSort fun x y => decide (x ≤ y)).length = (frms L).length := by simp
      have HSL := Lib.hid hsl
      clear hown hfl hB hsl
      obtain ⟨zs, hzs⟩ : ∃ zs, frms L = zs := ⟨_, rfl⟩
      rw [hzs] at HR HO HN HSL ⊢
      have HZS := Lib.hid hzs
      clear hzs
      have hzl := HN.out
      go_wp2_with fail
      go_at_call 41
      refine (sort_row HO.out HN.out).mono ?_
      rintro e w1 ⟨rfl, hg1, ho1⟩
      have HB1 := Lib.hid (HB.out.grown hg1 (by have := HB.out.size; omega) (fun j hj => by cases hj; exact hbg))
      obtain ⟨ts, hts⟩ : ∃ ts, (zs.mergeSort fun x y => decide (x ≤ y)) = ts := ⟨_, rfl⟩
      rw [hts] at HR HSL ho1
      have HTS := Lib.hid hts
      rw [← HSL.out] at ho1 ⊢
      have HO1 := Lib.hid ho1
      have HN1 := Lib.hid (show ts.length ≤ 1000 by have := HSL.out; omega)
      have hzl1 := HN1.out
      clear hg1 ho1 hts
      go_wp2_with fail
      go_at_call 42
      refine (compact_row HO1.out HN1.out HR.out).mono ?_
      rintro e w2 ⟨rfl, hg2, hi2, hcp⟩
      have HB2 := Lib.hid (HB1.out.grown hg2 (by have := HB1.out.size; omega) (fun j hj => by cases hj; exact hbg))
      have HI2 := Lib.hid hi2
      clear hg2 hi2
      go_wp2_with fail
      go_returns
      exact ⟨.slice (some ⟨g, 0, none⟩) (compact ts).length gc, rfl, .of_below HB2.out, by rw [HZS.out, HTS.out]; exact HI2.out, fun a n c he => by simp only [Value.slice.injEq] at he; obtain ⟨-, rfl, rfl⟩ := he; exact hcp⟩
end Go.Proofs.Ytldelkkeimlfcaa
/- Ins: a number is put into an ascending list. -/
namespace Go
/-- append to a row of one's own, at a step of a region that draws its order. -/
theorem step_append_own {P : Program} {ops : Array Oper} {o : Oper} {a : Act} {w : World} {K : Act → World → Prop} {Q : Exit → Act → World → Prop} {E : Prop} (hgd : o.guard = none) (s x : Operand) (t : TypeId)
    (ho : o.op = .call { callee := .builtin .append, args := #[s, x], argTypes := #[t, t] })
    (base : Nat) (e : TypeId) (i : TypeInfo) (z : Value) (size bytes : Nat) (ht : P.underlying t = some (.slice e)) (hi : P.info? e = some i) (hz : i.zero = some z)
    (hsize : i.size = size) (hby : i.bytes = bytes) (hzs : z.cells.size = size) (hsz : 0 < size)
    (v : Value) (n : Nat) (xs : List Value) (hs : a.eval s = v) (hown : w.ownsRow base e size v n xs)
    (ad : Addr) (m c : Nat) (news : List Value) (hx : a.eval x = .slice (some ad) m c) (hl : news.length = m * size) (hnews : ∀ j u, news[j]? = some u → w.cell? (ad.add j) = some u) (h1 : ∀ u ∈ news, u.oneCell' = true)
    (h63 : n + m ≤ maxLen) (hbytes : (n + m) * bytes ≤ 140737488355328) (hbase : base ≤ w.heap.size)
    (h : ∀ v' w', w'.ownsRow base e size v' (n + m) (xs ++ news) → w.grownBy w' v.ownBlock → K (a.put o.dst v') w') :
    if Region.wanted o (yielded ops a.tmps) = true then Oper.wp P o a w K Q else E := by
  have hw : Region.wanted o (yielded ops a.tmps) = true := by simp [Region.wanted, hgd]
  rw [if_pos hw]
  exact wp_append_own w s x t ho base e i z size bytes ht hi hz hsize hby hzs hsz v n xs hs hown ad m c news hx hl hnews h1 h63 hbytes hbase fun v' w' h2 h3 _ => h v' w' h2 h3
theorem step_append_none {P : Program} {ops : Array Oper} {o : Oper} {a : Act} {w : World} {K : Act → World → Prop} {Q : Exit → Act → World → Prop} {E : Prop} (hgd : o.guard = none) (s x : Operand) (t : TypeId)
    (ho : o.op = .call { callee := .builtin .append, args := #[s, x], argTypes := #[t, t] })
    (base : Nat) (e : TypeId) (i : TypeInfo) (size : Nat) (ht : P.underlying t = some (.slice e)) (hi : P.info? e = some i)
    (v : Value) (n : Nat) (xs : List Value) (hs : a.eval s = v) (hown : w.ownsRow base e size v n xs) (hx : a.eval x = .slice none 0 0)
    (h : K (a.put o.dst v) w) : if Region.wanted o (yielded ops a.tmps) = true then Oper.wp P o a w K Q else E := by
  have hw : Region.wanted o (yielded ops a.tmps) = true := by simp [Region.wanted, hgd]
  rw [if_pos hw]
  have hrun := run_append_owned_none (P := P) (w := w) base t o.type e i size ht hi v n xs hown
  unfold Oper.wp
  simp [execOp, ho, resolve, invoke, builtin, hs, hx, hrun, Result.andThen]
  exact h
end Go
namespace Go.Proofs.Ytldelkkeimlfcaa
open Go.RowKit Go.Sort Go.Lib
theorem IntsAt.of_own {w : World} {base : Nat} {v : Value} {zs : List Int} (h : w.ownsRow base 3 1 v zs.length (zs.map (Value.int .i64))) (hl : zs.length ≤ 1000) (hr : ∀ z ∈ zs, I64 z) : IntsAt w v zs := by
  obtain ⟨-, ⟨rfl, h0⟩ | ⟨g, cap, cur, rfl, hb, hg, h2, h3, h4, h5⟩⟩ := id h
  · exact ⟨by omega, hr, none, 0, by rw [h0], .inl h0⟩
  · refine ⟨by omega, hr, _, cap, rfl, .inr ⟨g, 0, rfl, (Array.getElem?_eq_some_iff.1 hg).1, fun i hi => ?_⟩⟩
    rw [Nat.zero_add, h.cellAt i (by omega), List.getElem?_map, List.getElem?_eq_getElem hi, List.getD_eq_getElem?_getD, List.getElem?_eq_getElem hi]
    rfl
theorem sub_cells {w : World} {b off : Nat} {zs : List Int} (hc : ∀ i, i < zs.length → w.cell? ⟨b, off + i, none⟩ = some (.int .i64 (zs.getD i 0))) (s : Nat) (l : List Int) (hl : ∀ (j : Nat) (x : Int), l[j]? = some x → zs[s + j]? = some x) :
    ∀ (j : Nat) (u : Value), (l.map (Value.int .i64))[j]? = some u → w.cell? ((⟨b, off + s, none⟩ : Addr).add j) = some u := by
  intro j u hu
  rw [List.getElem?_map] at hu
  cases hx : l[j]? with
  | none => rw [hx] at hu; cases hu
  | some x =>
    rw [hx] at hu
    obtain rfl : Value.int .i64 x = u := by simpa using hu
    have h1 := hl j x hx
    have h2 := (List.getElem?_eq_some_iff.1 h1).1
    rw [add_at, Nat.add_assoc, hc _ h2, List.getD_eq_getElem?_getD, h1]; rfl
theorem take_some {l : List Int} {a j : Nat} {x : Int} (h : (l.take a)[j]? = some x) : l[j]? = some x := by
  rw [List.getElem?_take] at h
  split at h
  · exact h
  · cases h
theorem own_one (zs : List Int) : ∀ u ∈ zs.map (Value.int .i64), u.oneCell' = true := by
  intro u hu
  obtain ⟨z, _, rfl⟩ := List.mem_map.1 hu
  rfl
theorem CapOk.of_own {w : World} {base n size : Nat} {e : TypeId} {v : Value} {xs : List Value} (h : w.ownsRow base e size v n xs) : CapOk v := by
  obtain ⟨-, ⟨rfl, h0⟩ | ⟨g, cap, cur, rfl, hb, hg, h2, h3, h4, h5⟩⟩ := h
  · intro a n c he
    simp only [Value.slice.injEq] at he
    omega
  · intro a n c he
    simp only [Value.slice.injEq] at he
    omega
set_option maxHeartbeats 4000000 in
set_option maxRecDepth 100000 in
theorem ins_nil (n : Int) (w : World) (hn : I64 n) : Calls Try.prog 43 #[.slice none 0 0, .int .i64 n] w (IntsPost [n] w) := by
  obtain ⟨i0, hi, hz0, hz1, hz2⟩ := info_parts infoInt
  have HN := Lib.hid hn
  clear hn
  go_enter Try.func43, Try.ntmps43
  go_wp2_with fail
  go_loop [5] (fun v5 => v5 = .int .i64 0) (fun _ => 0)
  case atStart => rfl
  case round =>
    obtain rfl := hrel
    go_wp2_with fail
    refine TG.begin 11 (fun _ => True) (by kernel_rfl) (by kernel_rfl) trivial (fun hS => ?_)
    refine TG.takeV (i := 0) (v := ?_) rfl (by kernel_rfl) (by kernel_rfl) (by kernel_rfl) (by decide) (fun _ _ _ h => h) rfl hS ?_ ?_
    rotate_left
    focus
      intro wS hSw
      (try dsimp only at hSw)
      go_simp
      rfl
    (try simp only [Act.put, List.getElem_toArray, List.getElem_cons_zero, List.getElem_cons_succ, List.setIfInBounds_toArray, List.set_cons_zero, List.set_cons_succ])
    refine TG.takeV (i := 1) (v := ?_) rfl (by kernel_rfl) (by kernel_rfl) (by kernel_rfl) (by decide) (fun _ _ _ h => h) rfl hS ?_ ?_
    rotate_left
    focus
      intro wS hSw
      (try dsimp only at hSw)
      go_simp
      rfl
    (try simp only [Act.put, List.getElem_toArray, List.getElem_cons_zero, List.getElem_cons_succ, List.setIfInBounds_toArray, List.set_cons_zero, List.set_cons_succ])
    refine TG.takeV (i := 2) (v := ?_) rfl (by kernel_rfl) (by kernel_rfl) (by kernel_rfl) (by decide) (fun _ _ _ h => h) rfl hS ?_ ?_
    rotate_left
    focus
      intro wS hSw
      (try dsimp only at hSw)
      go_simp
      rfl
    (try simp only [Act.put, List.getElem_toArray, List.getElem_cons_zero, List.getElem_cons_succ, List.setIfInBounds_toArray, List.set_cons_zero, List.set_cons_succ])
    refine TG.takeV (i := 4) (v := ?_) rfl (by kernel_rfl) (by kernel_rfl) (by kernel_rfl) (by decide) (fun _ _ _ h => h) rfl hS ?_ ?_
    rotate_left
    focus
      intro wS hSw
      (try dsimp only at hSw)
      go_simp
      rfl
    (try simp only [Act.put, List.getElem_toArray, List.getElem_cons_zero, List.getElem_cons_succ, List.setIfInBounds_toArray, List.set_cons_zero, List.set_cons_succ])
    refine TG.takeV (i := 7) (v := ?_) rfl (by kernel_rfl) (by kernel_rfl) (by kernel_rfl) (by decide) (fun _ _ _ h => h) rfl hS ?_ ?_
    rotate_left
    focus
      intro wS hSw
      (try dsimp only at hSw)
      go_simp
      rfl
    (try simp only [Act.put, List.getElem_toArray, List.getElem_cons_zero, List.getElem_cons_succ, List.setIfInBounds_toArray, List.set_cons_zero, List.set_cons_succ])
    refine TG.takeV (i := 8) (v := ?_) rfl (by kernel_rfl) (by kernel_rfl) (by kernel_rfl) (by decide) (fun _ _ _ h => h) rfl hS ?_ ?_
    rotate_left
    focus
      intro wS hSw
      (try dsimp only at hSw)
      go_simp
      rfl
    (try simp only [Act.put, List.getElem_toArray, List.getElem_cons_zero, List.getElem_cons_succ, List.setIfInBounds_toArray, List.set_cons_zero, List.set_cons_succ])
    refine TG.takeV (i := 9) (v := ?_) rfl (by kernel_rfl) (by kernel_rfl) (by kernel_rfl) (by decide) (fun _ _ _ h => h) rfl hS ?_ ?_
    rotate_left
    focus
      intro wS hSw
      (try dsimp only at hSw)
      go_simp
      rfl
    (try simp only [Act.put, List.getElem_toArray, List.getElem_cons_zero, List.getElem_cons_succ, List.setIfInBounds_toArray, List.set_cons_zero, List.set_cons_succ])
    refine TG.two (i := 3) (k := 5) (by kernel_rfl) rfl rfl (fun K1 hK1 => ?_) (fun K1 hK1 => ?_)
    · refine step_append_none rfl _ _ 22 rfl w.heap.size 3 i0 1 Try.underlying22 hi (.slice none 0 0) 0 [] rfl (World.ownsRow_nil _ _ _ _) rfl ?_
      refine TG.go hK1 trivial (fun hS => ?_)
      clear hK1 K1
      (try simp only [Act.put, List.getElem_toArray, List.getElem_cons_zero, List.getElem_cons_succ, List.setIfInBounds_toArray, List.set_cons_zero, List.set_cons_succ])
      refine TG.one (i := 5) (by kernel_rfl) rfl (fun K1 hK1 => ?_)
      go_simp
      refine TG.go hK1 trivial (fun hS => ?_)
      clear hK1 K1
      (try simp only [Act.put, List.getElem_toArray, List.getElem_cons_zero, List.getElem_cons_succ, List.setIfInBounds_toArray, List.set_cons_zero, List.set_cons_succ])
      refine TG.one (i := 6) (by kernel_rfl) rfl (fun K1 hK1 => ?_)
      refine step_append_own rfl _ _ 22 rfl w.heap.size 3 i0 (.int .i64 0) 1 8 Try.underlying22 hi hz0 hz1 hz2 rfl (by decide) (.slice none 0 0) 0 [] rfl (World.ownsRow_nil _ _ _ _) ⟨w.heap.size, 0, none⟩ 1 1 ([n].map (Value.int .i64)) rfl rfl ?_ (own_one _) (by decide) (by decide) (by simp) ?_
      focus exact news_cells _ [.int .i64 n] _ _ (by simp)
      intro v2 w2 hown2 hgrow2
      have HB2 := Lib.hid (Below.grown ((Below.refl w.heap.size w).alloc (Nat.le_refl _) (.cells #[.int .i64 n] 3)).drew hgrow2 (by simp) (fun k hk => by cases hk))
      have HO2 := Lib.hid hown2
      clear hown2 hgrow2
      refine TG.go hK1 trivial (fun hS => ?_)
      clear hK1 K1
      (try simp only [Act.put, List.getElem_toArray, List.getElem_cons_zero, List.getElem_cons_succ, List.setIfInBounds_toArray, List.set_cons_zero, List.set_cons_succ])
      refine TG.one (i := 10) (by kernel_rfl) rfl (fun K1 hK1 => ?_)
      refine step_append_none rfl _ _ 22 rfl w.heap.size 3 i0 1 Try.underlying22 hi v2 _ _ rfl HO2.out rfl ?_
      refine TG.go hK1 trivial (fun hS => ?_)
      clear hK1 K1
      (try simp only [Act.put, List.getElem_toArray, List.getElem_cons_zero, List.getElem_cons_succ, List.setIfInBounds_toArray, List.set_cons_zero, List.set_cons_succ])
      refine TG.one (i := 11) (by kernel_rfl) rfl (fun K1 hK1 => ?_)
      go_simp
      refine hK1 _ _ (fun h => absurd rfl h) (TG.done (by kernel_rfl) ?_)
      clear hK1 K1 hS
      (try simp only [Act.put, List.getElem_toArray, List.getElem_cons_zero, List.getElem_cons_succ, List.setIfInBounds_toArray, List.set_cons_zero, List.set_cons_succ])
      go_wp2_with fail
      go_returns
      exact ⟨v2, rfl, .of_below HB2.out, IntsAt.of_own (zs := [n]) HO2.out (by simp) (fun z hz => by obtain rfl : z = n := (by simpa using hz); exact HN.out), CapOk.of_own HO2.out⟩
    · go_simp
      refine TG.go hK1 trivial (fun hS => ?_)
      clear hK1 K1
      (try simp only [Act.put, List.getElem_toArray, List.getElem_cons_zero, List.getElem_cons_succ, List.setIfInBounds_toArray, List.set_cons_zero, List.set_cons_succ])
      refine TG.one (i := 3) (by kernel_rfl) rfl (fun K1 hK1 => ?_)
      refine step_append_none rfl _ _ 22 rfl w.heap.size 3 i0 1 Try.underlying22 hi (.slice none 0 0) 0 [] rfl (World.ownsRow_nil _ _ _ _) rfl ?_
      refine TG.go hK1 trivial (fun hS => ?_)
      clear hK1 K1
      (try simp only [Act.put, List.getElem_toArray, List.getElem_cons_zero, List.getElem_cons_succ, List.setIfInBounds_toArray, List.set_cons_zero, List.set_cons_succ])
      refine TG.one (i := 6) (by kernel_rfl) rfl (fun K1 hK1 => ?_)
      refine step_append_own rfl _ _ 22 rfl w.heap.size 3 i0 (.int .i64 0) 1 8 Try.underlying22 hi hz0 hz1 hz2 rfl (by decide) (.slice none 0 0) 0 [] rfl (World.ownsRow_nil _ _ _ _) ⟨w.heap.size, 0, none⟩ 1 1 ([n].map (Value.int .i64)) rfl rfl ?_ (own_one _) (by decide) (by decide) (by simp) ?_
      focus exact news_cells _ [.int .i64 n] _ _ (by simp)
      intro v2 w2 hown2 hgrow2
      have HB2 := Lib.hid (Below.grown ((Below.refl w.heap.size w).alloc (Nat.le_refl _) (.cells #[.int .i64 n] 3)).drew hgrow2 (by simp) (fun k hk => by cases hk))
      have HO2 := Lib.hid hown2
      clear hown2 hgrow2
      refine TG.go hK1 trivial (fun hS => ?_)
      clear hK1 K1
      (try simp only [Act.put, List.getElem_toArray, List.getElem_cons_zero, List.getElem_cons_succ, List.setIfInBounds_toArray, List.set_cons_zero, List.set_cons_succ])
      refine TG.one (i := 10) (by kernel_rfl) rfl (fun K1 hK1 => ?_)
      refine step_append_none rfl _ _ 22 rfl w.heap.size 3 i0 1 Try.underlying22 hi v2 _ _ rfl HO2.out rfl ?_
      refine TG.go hK1 trivial (fun hS => ?_)
      clear hK1 K1
      (try simp only [Act.put, List.getElem_toArray, List.getElem_cons_zero, List.getElem_cons_succ, List.setIfInBounds_toArray, List.set_cons_zero, List.set_cons_succ])
      refine TG.one (i := 11) (by kernel_rfl) rfl (fun K1 hK1 => ?_)
      go_simp
      refine hK1 _ _ (fun h => absurd rfl h) (TG.done (by kernel_rfl) ?_)
      clear hK1 K1 hS
      (try simp only [Act.put, List.getElem_toArray, List.getElem_cons_zero, List.getElem_cons_succ, List.setIfInBounds_toArray, List.set_cons_zero, List.set_cons_succ])
      go_wp2_with fail
      go_returns
      exact ⟨v2, rfl, .of_below HB2.out, IntsAt.of_own (zs := [n]) HO2.out (by simp) (fun z hz => by obtain rfl : z = n := (by simpa using hz); exact HN.out), CapOk.of_own HO2.out⟩
set_option maxHeartbeats 4000000 in
set_option maxRecDepth 100000 in
theorem ins_some (zs : List Int) (v : Value) (n : Int) (w : World) (h : IntsAt w v zs) (hcap : CapOk v) (h0 : 0 < zs.length) (hl : zs.length ≤ 900) (hn : I64 n) : Calls Try.prog 43 #[v, .int .i64 n] w (IntsPost (insS zs n) w) := by
  have HI := Lib.hid h
  obtain ⟨-, hrng, a, cap, rfl, h1⟩ := h
  rcases h1 with h1 | ⟨b, off, rfl, hb, hc⟩
  · omega
  have hcp : zs.length ≤ cap := hcap _ _ _ rfl
  have HCP := Lib.hid hcap
  clear hcap
  obtain ⟨i0, hi, hz0, hz1, hz2⟩ := info_parts infoInt
  have HN := Lib.hid hn
  have HC := Lib.hid hc
  have HR := Lib.hid hrng
  clear hn hc hrng
  have ha0 := insAt_le zs n zs.length
  obtain ⟨a0, hA⟩ : ∃ a0, insAt zs n zs.length = a0 := ⟨_, rfl⟩
  rw [hA] at ha0
  have HA := Lib.hid hA
  clear hA
  go_enter Try.func43, Try.ntmps43
  go_upto_block 0 with fail
  go_cut [5] from 6 (fun v5 wx => v5 = .int .i64 a0 ∧ w = wx)
  case first =>
    go_wp2_with fail
    go_loop [5] (fun v5 => ∃ k : Nat, k ≤ zs.length ∧ v5 = .int .i64 k ∧ Hid (insAt zs n k = a0)) (fun v5 => (intOf v5).toNat)
    case atStart => exact ⟨zs.length, by omega, rfl, HA⟩
    case round =>
      obtain ⟨k, hk, rfl, HK⟩ := hrel
      rcases k with _ | j
      · have hz : (0 : Nat) = a0 := HK.out
        subst hz
        go_wp2_with fail
        go_meet
        exact ⟨rfl, rfl⟩
      · have hx := HC.out j (by omega)
        have d0 : (0 : Int) ≤ (j : Int) := by omega
        have d1 : (j : Int) < (zs.length : Int) := by omega
        have d2 : (zs.length : Int) ≤ 900 := by omega
        have HK2 := Lib.hid (show insAt zs n (j + 1) = if n ≤ zs.getD j 0 then insAt zs n j else j + 1 from rfl)
        generalize zs.getD j 0 = z at *
        by_cases hle : n ≤ z
        · have HL := Lib.hid hle
          go_wp2_with fail
          go_round
          case rel => exact ⟨j, by omega, by go_num, Lib.hid (by rw [← HK.out, HK2.out, if_pos HL.out])⟩
          case measure => first | (simp [intOf]; done) | (simp [intOf]; omega)
        · have hj : j + 1 = a0 := by rw [← HK.out, HK2.out, if_neg hle]
          subst hj
          go_wp2_with fail
          go_meet
          exact ⟨by go_num, rfl⟩
  obtain ⟨rfl, rfl⟩ := hcut
  by_cases heq : a0 < zs.length ∧ zs.getD a0 0 = n
  · have hx := HC.out a0 heq.1
    rw [heq.2] at hx
    have d1 : (a0 : Int) < (zs.length : Int) := by omega
    have HE := Lib.hid heq
    clear heq
    go_wp2_with fail
    go_returns
    exact ⟨_, rfl, .refl _, by unfold insS; rw [HA.out, if_pos HE.out]; exact HI.out, HCP.out⟩
  · have HE := Lib.hid heq
    have HI2 : Hid (insS zs n = zs.take a0 ++ n :: zs.drop a0) := Lib.hid (by unfold insS; rw [HA.out, if_neg HE.out])
    clear HE
    by_cases hlt : a0 < zs.length
    · have hx := HC.out a0 hlt
      have hac : a0 ≤ cap := by omega
      have had : (a0 : Int) ≤ (cap : Int) := by omega
      have hnc : ¬ cap = a0 := by omega
      have hne : ¬ zs.getD a0 0 = n := fun e => heq ⟨hlt, e⟩
      have hbb : (zs.getD a0 0 == n) = false := by simp only [beq_eq_false_iff_ne, ne_eq]; exact hne
      have d1 : (a0 : Int) < (zs.length : Int) := by omega
      clear heq
      generalize hzz : zs.getD a0 0 = zz at *
      clear hzz
      go_wp2_with fail
      refine TG.begin 11 (fun _ => True) (by kernel_rfl) (by kernel_rfl) trivial (fun hS => ?_)
      refine TG.takeV (i := 0) (v := ?_) rfl (by kernel_rfl) (by kernel_rfl) (by kernel_rfl) (by decide) (fun _ _ _ h => h) rfl hS ?_ ?_
      rotate_left
      focus
        intro wS hSw
        (try dsimp only at hSw)
        go_simp
        rfl
      (try simp only [Act.put, List.getElem_toArray, List.getElem_cons_zero, List.getElem_cons_succ, List.setIfInBounds_toArray, List.set_cons_zero, List.set_cons_succ])
      refine TG.takeV (i := 1) (v := ?_) rfl (by kernel_rfl) (by kernel_rfl) (by kernel_rfl) (by decide) (fun _ _ _ h => h) rfl hS ?_ ?_
      rotate_left
      focus
        intro wS hSw
        (try dsimp only at hSw)
        go_simp
        rfl
      (try simp only [Act.put, List.getElem_toArray, List.getElem_cons_zero, List.getElem_cons_succ, List.setIfInBounds_toArray, List.set_cons_zero, List.set_cons_succ])
      refine TG.takeV (i := 2) (v := ?_) rfl (by kernel_rfl) (by kernel_rfl) (by kernel_rfl) (by decide) (fun _ _ _ h => h) rfl hS ?_ ?_
      rotate_left
      focus
        intro wS hSw
        (try dsimp only at hSw)
        go_simp
        rfl
      (try simp only [Act.put, List.getElem_toArray, List.getElem_cons_zero, List.getElem_cons_succ, List.setIfInBounds_toArray, List.set_cons_zero, List.set_cons_succ])
      refine TG.takeV (i := 4) (v := ?_) rfl (by kernel_rfl) (by kernel_rfl) (by kernel_rfl) (by decide) (fun _ _ _ h => h) rfl hS ?_ ?_
      rotate_left
      focus
        intro wS hSw
        (try dsimp only at hSw)
        go_simp
        rfl
      (try simp only [Act.put, List.getElem_toArray, List.getElem_cons_zero, List.getElem_cons_succ, List.setIfInBounds_toArray, List.set_cons_zero, List.set_cons_succ])
      refine TG.takeV (i := 7) (v := ?_) rfl (by kernel_rfl) (by kernel_rfl) (by kernel_rfl) (by decide) (fun _ _ _ h => h) rfl hS ?_ ?_
      rotate_left
      focus
        intro wS hSw
        (try dsimp only at hSw)
        go_simp
        rfl
      (try simp only [Act.put, List.getElem_toArray, List.getElem_cons_zero, List.getElem_cons_succ, List.setIfInBounds_toArray, List.set_cons_zero, List.set_cons_succ])
      refine TG.takeV (i := 8) (v := ?_) rfl (by kernel_rfl) (by kernel_rfl) (by kernel_rfl) (by decide) (fun _ _ _ h => h) rfl hS ?_ ?_
      rotate_left
      focus
        intro wS hSw
        (try dsimp only at hSw)
        go_simp
        rfl
      (try simp only [Act.put, List.getElem_toArray, List.getElem_cons_zero, List.getElem_cons_succ, List.setIfInBounds_toArray, List.set_cons_zero, List.set_cons_succ])
      refine TG.takeV (i := 9) (v := ?_) rfl (by kernel_rfl) (by kernel_rfl) (by kernel_rfl) (by decide) (fun _ _ _ h => h) rfl hS ?_ ?_
      rotate_left
      focus
        intro wS hSw
        (try dsimp only at hSw)
        go_simp
        rfl
      (try simp only [Act.put, List.getElem_toArray, List.getElem_cons_zero, List.getElem_cons_succ, List.setIfInBounds_toArray, List.set_cons_zero, List.set_cons_succ])
      refine TG.two (i := 3) (k := 5) (by kernel_rfl) rfl rfl (fun K1 hK1 => ?_) (fun K1 hK1 => ?_)
      · refine step_append_own rfl _ _ 22 rfl w.heap.size 3 i0 (.int .i64 0) 1 8 Try.underlying22 hi hz0 hz1 hz2 rfl (by decide) (.slice none 0 0) 0 [] rfl (World.ownsRow_nil _ _ _ _) ⟨b, off + 0, none⟩ a0 cap ((zs.take a0).map (Value.int .i64)) rfl (by simp; omega) (sub_cells (zs := zs) (w := w.drew) HC.out 0 _ (fun j x hx => by rw [Nat.zero_add]; exact take_some hx)) (own_one _) (by unfold maxLen; omega) (by omega) (by simp) ?_
        intro v1 w1 hown1 hgrow1
        simp only [Nat.zero_add, List.nil_append] at hown1
        have hb1 := Below.grown (Below.refl w.heap.size w).drew hgrow1 (by simp) (fun k hk => by cases hk)
        have hs1 := hb1.size
        have HB1 := Lib.hid (hb1.alloc hs1 (.cells #[.int .i64 n] 3))
        have HO1 := Lib.hid (hown1.alloc (.cells #[.int .i64 n] 3))
        refine TG.go hK1 trivial (fun hS => ?_)
        clear hK1 K1
        (try simp only [Act.put, List.getElem_toArray, List.getElem_cons_zero, List.getElem_cons_succ, List.setIfInBounds_toArray, List.set_cons_zero, List.set_cons_succ])
        refine TG.one (i := 5) (by kernel_rfl) rfl (fun K1 hK1 => ?_)
        go_simp
        refine TG.go hK1 trivial (fun hS => ?_)
        clear hK1 K1
        (try simp only [Act.put, List.getElem_toArray, List.getElem_cons_zero, List.getElem_cons_succ, List.setIfInBounds_toArray, List.set_cons_zero, List.set_cons_succ])
        have HC5 : Hid ((w1.alloc (.cells #[.int .i64 n] 3)).cell? ⟨w1.heap.size, 0, none⟩ = some (.int .i64 n)) := Lib.hid (by rw [World.cell?_alloc_at _ _ _ _ rfl]; rfl)
        generalize w1.alloc (.cells #[.int .i64 n] 3) = w9 at *
        generalize w1.heap.size = g5 at *
        clear hown1 hgrow1 hb1
        refine TG.one (i := 6) (by kernel_rfl) rfl (fun K1 hK1 => ?_)
        refine step_append_own rfl _ _ 22 rfl w.heap.size 3 i0 (.int .i64 0) 1 8 Try.underlying22 hi hz0 hz1 hz2 rfl (by decide) v1 a0 _ rfl HO1.out ⟨g5, 0, none⟩ 1 1 ([n].map (Value.int .i64)) rfl rfl ?_ (own_one _) (by unfold maxLen; omega) (by omega) HB1.out.size ?_
        focus
          intro j u hu
          rw [add_at]
          rcases j with _ | j
          · simp at hu; subst hu; exact HC5.out
          · simp at hu
        intro v2 w2 hown2 hgrow2
        have HB2 := Lib.hid (HB1.out.grown hgrow2 HB1.out.size (fun k hk => (HO1.out.lt k hk).1))
        have HO2 := Lib.hid hown2
        clear hown2 hgrow2
        refine TG.go hK1 trivial (fun hS => ?_)
        clear hK1 K1
        (try simp only [Act.put, List.getElem_toArray, List.getElem_cons_zero, List.getElem_cons_succ, List.setIfInBounds_toArray, List.set_cons_zero, List.set_cons_succ])
        refine TG.one (i := 10) (by kernel_rfl) rfl (fun K1 hK1 => ?_)
        refine step_append_own rfl _ _ 22 rfl w.heap.size 3 i0 (.int .i64 0) 1 8 Try.underlying22 hi hz0 hz1 hz2 rfl (by decide) v2 (a0 + 1) _ rfl HO2.out ⟨b, off + a0, none⟩ (zs.length - a0) (cap - a0) ((zs.drop a0).map (Value.int .i64)) rfl (by simp; try omega) (sub_cells (w := w2) (zs := zs) (fun i hi => by rw [HB2.out.cell (p := ⟨b, off + i, none⟩) hb]; exact HC.out i hi) a0 _ (fun j x hx => by rw [List.getElem?_drop] at hx; exact hx)) (own_one _) (by unfold maxLen; omega) (by omega) HB2.out.size ?_
        intro v3 w3 hown3 hgrow3
        have HB3 := Lib.hid (HB2.out.grown hgrow3 HB2.out.size (fun k hk => (HO2.out.lt k hk).1))
        have HO3 := Lib.hid hown3
        clear hown3 hgrow3
        refine TG.go hK1 trivial (fun hS => ?_)
        clear hK1 K1
        (try simp only [Act.put, List.getElem_toArray, List.getElem_cons_zero, List.getElem_cons_succ, List.setIfInBounds_toArray, List.set_cons_zero, List.set_cons_succ])
        refine TG.one (i := 11) (by kernel_rfl) rfl (fun K1 hK1 => ?_)
        go_simp
        refine hK1 _ _ (fun h => absurd rfl h) (TG.done (by kernel_rfl) ?_)
        clear hK1 K1 hS
        (try simp only [Act.put, List.getElem_toArray, List.getElem_cons_zero, List.getElem_cons_succ, List.setIfInBounds_toArray, List.set_cons_zero, List.set_cons_succ])
        go_wp2_with fail
        go_returns
        refine ⟨v3, rfl, .of_below HB3.out, ?_, CapOk.of_own HO3.out⟩
        rw [HI2.out]
        have ho := HO3.out
        have hl2 : (zs.take a0 ++ n :: zs.drop a0).length = a0 + 1 + (zs.length - a0) := by simp; omega
        have hm2 : (zs.take a0 ++ n :: zs.drop a0).map (Value.int .i64) = (zs.take a0).map (Value.int .i64) ++ [n].map (Value.int .i64) ++ (zs.drop a0).map (Value.int .i64) := by simp
        rw [← hl2, ← hm2] at ho
        refine IntsAt.of_own ho (by rw [hl2]; omega) (fun z hz => ?_)
        rcases List.mem_append.1 hz with hz | hz
        · exact HR.out z (List.mem_of_mem_take hz)
        · rcases List.mem_cons.1 hz with rfl | hz
          · exact HN.out
          · exact HR.out z (List.mem_of_mem_drop hz)
      · go_simp
        refine TG.go hK1 trivial (fun hS => ?_)
        clear hK1 K1
        (try simp only [Act.put, List.getElem_toArray, List.getElem_cons_zero, List.getElem_cons_succ, List.setIfInBounds_toArray, List.set_cons_zero, List.set_cons_succ])
        refine TG.one (i := 3) (by kernel_rfl) rfl (fun K1 hK1 => ?_)
        refine step_append_own rfl _ _ 22 rfl w.heap.size 3 i0 (.int .i64 0) 1 8 Try.underlying22 hi hz0 hz1 hz2 rfl (by decide) (.slice none 0 0) 0 [] rfl (World.ownsRow_nil _ _ _ _) ⟨b, off + 0, none⟩ a0 cap ((zs.take a0).map (Value.int .i64)) rfl (by simp; omega) (sub_cells (zs := zs) (w := (w.alloc (.cells #[.int .i64 n] 3)).drew) (fun i hi => by rw [show ((w.alloc (.cells #[.int .i64 n] 3)).drew).cell? ⟨b, off + i, none⟩ = w.cell? ⟨b, off + i, none⟩ from World.cell?_alloc_lt w _ ⟨b, off + i, none⟩ hb]; exact HC.out i hi) 0 _ (fun j x hx => by rw [Nat.zero_add]; exact take_some hx)) (own_one _) (by unfold maxLen; omega) (by omega) (by simp) ?_
        intro v1 w1 hown1 hgrow1
        simp only [Nat.zero_add, List.nil_append] at hown1
        have hb1 := Below.grown ((Below.refl w.heap.size w).alloc (Nat.le_refl _) (.cells #[.int .i64 n] 3)).drew hgrow1 (by simp) (fun k hk => by cases hk)
        have HB1 := Lib.hid hb1
        have HO1 := Lib.hid hown1
        have HC5 : Hid (w1.cell? ⟨w.heap.size, 0, none⟩ = some (.int .i64 n)) := Lib.hid ((hgrow1.cell_far ⟨w.heap.size, 0, none⟩ (by simp) (by simp [Value.ownBlock])).trans (by show (w.alloc _).cell? _ = _; rw [World.cell?_alloc_at _ _ _ _ rfl]; rfl))
        refine TG.go hK1 trivial (fun hS => ?_)
        clear hK1 K1
        (try simp only [Act.put, List.getElem_toArray, List.getElem_cons_zero, List.getElem_cons_succ, List.setIfInBounds_toArray, List.set_cons_zero, List.set_cons_succ])
        clear hown1 hgrow1 hb1
        refine TG.one (i := 6) (by kernel_rfl) rfl (fun K1 hK1 => ?_)
        refine step_append_own rfl _ _ 22 rfl w.heap.size 3 i0 (.int .i64 0) 1 8 Try.underlying22 hi hz0 hz1 hz2 rfl (by decide) v1 a0 _ rfl HO1.out ⟨w.heap.size, 0, none⟩ 1 1 ([n].map (Value.int .i64)) rfl rfl ?_ (own_one _) (by unfold maxLen; omega) (by omega) HB1.out.size ?_
        focus
          intro j u hu
          rw [add_at]
          rcases j with _ | j
          · simp at hu; subst hu; exact HC5.out
          · simp at hu
        intro v2 w2 hown2 hgrow2
        have HB2 := Lib.hid (HB1.out.grown hgrow2 HB1.out.size (fun k hk => (HO1.out.lt k hk).1))
        have HO2 := Lib.hid hown2
        clear hown2 hgrow2
        refine TG.go hK1 trivial (fun hS => ?_)
        clear hK1 K1
        (try simp only [Act.put, List.getElem_toArray, List.getElem_cons_zero, List.getElem_cons_succ, List.setIfInBounds_toArray, List.set_cons_zero, List.set_cons_succ])
        refine TG.one (i := 10) (by kernel_rfl) rfl (fun K1 hK1 => ?_)
        refine step_append_own rfl _ _ 22 rfl w.heap.size 3 i0 (.int .i64 0) 1 8 Try.underlying22 hi hz0 hz1 hz2 rfl (by decide) v2 (a0 + 1) _ rfl HO2.out ⟨b, off + a0, none⟩ (zs.length - a0) (cap - a0) ((zs.drop a0).map (Value.int .i64)) rfl (by simp; try omega) (sub_cells (w := w2) (zs := zs) (fun i hi => by rw [HB2.out.cell (p := ⟨b, off + i, none⟩) hb]; exact HC.out i hi) a0 _ (fun j x hx => by rw [List.getElem?_drop] at hx; exact hx)) (own_one _) (by unfold maxLen; omega) (by omega) HB2.out.size ?_
        intro v3 w3 hown3 hgrow3
        have HB3 := Lib.hid (HB2.out.grown hgrow3 HB2.out.size (fun k hk => (HO2.out.lt k hk).1))
        have HO3 := Lib.hid hown3
        clear hown3 hgrow3
        refine TG.go hK1 trivial (fun hS => ?_)
        clear hK1 K1
        (try simp only [Act.put, List.getElem_toArray, List.getElem_cons_zero, List.getElem_cons_succ, List.setIfInBounds_toArray, List.set_cons_zero, List.set_cons_succ])
        refine TG.one (i := 11) (by kernel_rfl) rfl (fun K1 hK1 => ?_)
        go_simp
        refine hK1 _ _ (fun h => absurd rfl h) (TG.done (by kernel_rfl) ?_)
        clear hK1 K1 hS
        (try simp only [Act.put, List.getElem_toArray, List.getElem_cons_zero, List.getElem_cons_succ, List.setIfInBounds_toArray, List.set_cons_zero, List.set_cons_succ])
        go_wp2_with fail
        go_returns
        refine ⟨v3, rfl, .of_below HB3.out, ?_, CapOk.of_own HO3.out⟩
        rw [HI2.out]
        have ho := HO3.out
        have hl2 : (zs.take a0 ++ n :: zs.drop a0).length = a0 + 1 + (zs.length - a0) := by simp; omega
        have hm2 : (zs.take a0 ++ n :: zs.drop a0).map (Value.int .i64) = (zs.take a0).map (Value.int .i64) ++ [n].map (Value.int .i64) ++ (zs.drop a0).map (Value.int .i64) := by simp
        rw [← hl2, ← hm2] at ho
        refine IntsAt.of_own ho (by rw [hl2]; omega) (fun z hz => ?_)
        rcases List.mem_append.1 hz with hz | hz
        · exact HR.out z (List.mem_of_mem_take hz)
        · rcases List.mem_cons.1 hz with rfl | hz
          · exact HN.out
          · exact HR.out z (List.mem_of_mem_drop hz)
    · have had : (a0 : Int) ≤ (cap : Int) := by omega
      have hac : a0 ≤ cap := by omega
      have hnl : ¬ (a0 : Int) < (zs.length : Int) := by omega
      have HZL := Lib.hid (show zs.drop a0 = [] from List.drop_eq_nil_of_le (by omega))
      clear heq
      by_cases hcc : cap = a0
      · obtain rfl : a0 = cap := hcc.symm
        go_wp2_with fail
        refine TG.begin 11 (fun _ => True) (by kernel_rfl) (by kernel_rfl) trivial (fun hS => ?_)
        refine TG.takeV (i := 0) (v := ?_) rfl (by kernel_rfl) (by kernel_rfl) (by kernel_rfl) (by decide) (fun _ _ _ h => h) rfl hS ?_ ?_
        rotate_left
        focus
          intro wS hSw
          (try dsimp only at hSw)
          go_simp
          rfl
        (try simp only [Act.put, List.getElem_toArray, List.getElem_cons_zero, List.getElem_cons_succ, List.setIfInBounds_toArray, List.set_cons_zero, List.set_cons_succ])
        refine TG.takeV (i := 1) (v := ?_) rfl (by kernel_rfl) (by kernel_rfl) (by kernel_rfl) (by decide) (fun _ _ _ h => h) rfl hS ?_ ?_
        rotate_left
        focus
          intro wS hSw
          (try dsimp only at hSw)
          go_simp
          rfl
        (try simp only [Act.put, List.getElem_toArray, List.getElem_cons_zero, List.getElem_cons_succ, List.setIfInBounds_toArray, List.set_cons_zero, List.set_cons_succ])
        refine TG.takeV (i := 2) (v := ?_) rfl (by kernel_rfl) (by kernel_rfl) (by kernel_rfl) (by decide) (fun _ _ _ h => h) rfl hS ?_ ?_
        rotate_left
        focus
          intro wS hSw
          (try dsimp only at hSw)
          go_simp
          rfl
        (try simp only [Act.put, List.getElem_toArray, List.getElem_cons_zero, List.getElem_cons_succ, List.setIfInBounds_toArray, List.set_cons_zero, List.set_cons_succ])
        refine TG.takeV (i := 4) (v := ?_) rfl (by kernel_rfl) (by kernel_rfl) (by kernel_rfl) (by decide) (fun _ _ _ h => h) rfl hS ?_ ?_
        rotate_left
        focus
          intro wS hSw
          (try dsimp only at hSw)
          go_simp
          rfl
        (try simp only [Act.put, List.getElem_toArray, List.getElem_cons_zero, List.getElem_cons_succ, List.setIfInBounds_toArray, List.set_cons_zero, List.set_cons_succ])
        refine TG.takeV (i := 7) (v := ?_) rfl (by kernel_rfl) (by kernel_rfl) (by kernel_rfl) (by decide) (fun _ _ _ h => h) rfl hS ?_ ?_
        rotate_left
        focus
          intro wS hSw
          (try dsimp only at hSw)
          go_simp
          rfl
        (try simp only [Act.put, List.getElem_toArray, List.getElem_cons_zero, List.getElem_cons_succ, List.setIfInBounds_toArray, List.set_cons_zero, List.set_cons_succ])
        refine TG.takeV (i := 8) (v := ?_) rfl (by kernel_rfl) (by kernel_rfl) (by kernel_rfl) (by decide) (fun _ _ _ h => h) rfl hS ?_ ?_
        rotate_left
        focus
          intro wS hSw
          (try dsimp only at hSw)
          go_simp
          rfl
        (try simp only [Act.put, List.getElem_toArray, List.getElem_cons_zero, List.getElem_cons_succ, List.setIfInBounds_toArray, List.set_cons_zero, List.set_cons_succ])
        refine TG.takeV (i := 9) (v := ?_) rfl (by kernel_rfl) (by kernel_rfl) (by kernel_rfl) (by decide) (fun _ _ _ h => h) rfl hS ?_ ?_
        rotate_left
        focus
          intro wS hSw
          (try dsimp only at hSw)
          go_simp
          rfl
        (try simp only [Act.put, List.getElem_toArray, List.getElem_cons_zero, List.getElem_cons_succ, List.setIfInBounds_toArray, List.set_cons_zero, List.set_cons_succ])
        refine TG.two (i := 3) (k := 5) (by kernel_rfl) rfl rfl (fun K1 hK1 => ?_) (fun K1 hK1 => ?_)
        · refine step_append_own rfl _ _ 22 rfl w.heap.size 3 i0 (.int .i64 0) 1 8 Try.underlying22 hi hz0 hz1 hz2 rfl (by decide) (.slice none 0 0) 0 [] rfl (World.ownsRow_nil _ _ _ _) ⟨b, off + 0, none⟩ a0 a0 ((zs.take a0).map (Value.int .i64)) rfl (by simp; omega) (sub_cells (zs := zs) (w := w.drew) HC.out 0 _ (fun j x hx => by rw [Nat.zero_add]; exact take_some hx)) (own_one _) (by unfold maxLen; omega) (by omega) (by simp) ?_
          intro v1 w1 hown1 hgrow1
          simp only [Nat.zero_add, List.nil_append] at hown1
          have hb1 := Below.grown (Below.refl w.heap.size w).drew hgrow1 (by simp) (fun k hk => by cases hk)
          have hs1 := hb1.size
          have HB1 := Lib.hid (hb1.alloc hs1 (.cells #[.int .i64 n] 3))
          have HO1 := Lib.hid (hown1.alloc (.cells #[.int .i64 n] 3))
          refine TG.go hK1 trivial (fun hS => ?_)
          clear hK1 K1
          (try simp only [Act.put, List.getElem_toArray, List.getElem_cons_zero, List.getElem_cons_succ, List.setIfInBounds_toArray, List.set_cons_zero, List.set_cons_succ])
          refine TG.one (i := 5) (by kernel_rfl) rfl (fun K1 hK1 => ?_)
          go_simp
          refine TG.go hK1 trivial (fun hS => ?_)
          clear hK1 K1
          (try simp only [Act.put, List.getElem_toArray, List.getElem_cons_zero, List.getElem_cons_succ, List.setIfInBounds_toArray, List.set_cons_zero, List.set_cons_succ])
          have HC5 : Hid ((w1.alloc (.cells #[.int .i64 n] 3)).cell? ⟨w1.heap.size, 0, none⟩ = some (.int .i64 n)) := Lib.hid (by rw [World.cell?_alloc_at _ _ _ _ rfl]; rfl)
          generalize w1.alloc (.cells #[.int .i64 n] 3) = w9 at *
          generalize w1.heap.size = g5 at *
          clear hown1 hgrow1 hb1
          refine TG.one (i := 6) (by kernel_rfl) rfl (fun K1 hK1 => ?_)
          refine step_append_own rfl _ _ 22 rfl w.heap.size 3 i0 (.int .i64 0) 1 8 Try.underlying22 hi hz0 hz1 hz2 rfl (by decide) v1 a0 _ rfl HO1.out ⟨g5, 0, none⟩ 1 1 ([n].map (Value.int .i64)) rfl rfl ?_ (own_one _) (by unfold maxLen; omega) (by omega) HB1.out.size ?_
          focus
            intro j u hu
            rw [add_at]
            rcases j with _ | j
            · simp at hu; subst hu; exact HC5.out
            · simp at hu
          intro v2 w2 hown2 hgrow2
          have HB2 := Lib.hid (HB1.out.grown hgrow2 HB1.out.size (fun k hk => (HO1.out.lt k hk).1))
          have HO2 := Lib.hid hown2
          clear hown2 hgrow2
          refine TG.go hK1 trivial (fun hS => ?_)
          clear hK1 K1
          (try simp only [Act.put, List.getElem_toArray, List.getElem_cons_zero, List.getElem_cons_succ, List.setIfInBounds_toArray, List.set_cons_zero, List.set_cons_succ])
          refine TG.one (i := 10) (by kernel_rfl) rfl (fun K1 hK1 => ?_)
          refine step_append_own rfl _ _ 22 rfl w.heap.size 3 i0 (.int .i64 0) 1 8 Try.underlying22 hi hz0 hz1 hz2 rfl (by decide) v2 (a0 + 1) _ rfl HO2.out ⟨b, off, none⟩ (0) (0) ((zs.drop a0).map (Value.int .i64)) rfl (by simp; try omega) (by intro j u hu; rw [HZL.out] at hu; simp at hu) (own_one _) (by unfold maxLen; omega) (by omega) HB2.out.size ?_
          intro v3 w3 hown3 hgrow3
          have HB3 := Lib.hid (HB2.out.grown hgrow3 HB2.out.size (fun k hk => (HO2.out.lt k hk).1))
          have HO3 := Lib.hid hown3
          clear hown3 hgrow3
          refine TG.go hK1 trivial (fun hS => ?_)
          clear hK1 K1
          (try simp only [Act.put, List.getElem_toArray, List.getElem_cons_zero, List.getElem_cons_succ, List.setIfInBounds_toArray, List.set_cons_zero, List.set_cons_succ])
          refine TG.one (i := 11) (by kernel_rfl) rfl (fun K1 hK1 => ?_)
          go_simp
          refine hK1 _ _ (fun h => absurd rfl h) (TG.done (by kernel_rfl) ?_)
          clear hK1 K1 hS
          (try simp only [Act.put, List.getElem_toArray, List.getElem_cons_zero, List.getElem_cons_succ, List.setIfInBounds_toArray, List.set_cons_zero, List.set_cons_succ])
          go_wp2_with fail
          go_returns
          refine ⟨v3, rfl, .of_below HB3.out, ?_, CapOk.of_own HO3.out⟩
          rw [HI2.out]
          have ho := HO3.out
          have hl2 : (zs.take a0 ++ n :: zs.drop a0).length = a0 + 1 + (0) := by simp; omega
          have hm2 : (zs.take a0 ++ n :: zs.drop a0).map (Value.int .i64) = (zs.take a0).map (Value.int .i64) ++ [n].map (Value.int .i64) ++ (zs.drop a0).map (Value.int .i64) := by simp
          rw [← hl2, ← hm2] at ho
          refine IntsAt.of_own ho (by rw [hl2]; omega) (fun z hz => ?_)
          rcases List.mem_append.1 hz with hz | hz
          · exact HR.out z (List.mem_of_mem_take hz)
          · rcases List.mem_cons.1 hz with rfl | hz
            · exact HN.out
            · exact HR.out z (List.mem_of_mem_drop hz)
        · go_simp
          refine TG.go hK1 trivial (fun hS => ?_)
          clear hK1 K1
          (try simp only [Act.put, List.getElem_toArray, List.getElem_cons_zero, List.getElem_cons_succ, List.setIfInBounds_toArray, List.set_cons_zero, List.set_cons_succ])
          refine TG.one (i := 3) (by kernel_rfl) rfl (fun K1 hK1 => ?_)
          refine step_append_own rfl _ _ 22 rfl w.heap.size 3 i0 (.int .i64 0) 1 8 Try.underlying22 hi hz0 hz1 hz2 rfl (by decide) (.slice none 0 0) 0 [] rfl (World.ownsRow_nil _ _ _ _) ⟨b, off + 0, none⟩ a0 a0 ((zs.take a0).map (Value.int .i64)) rfl (by simp; omega) (sub_cells (zs := zs) (w := (w.alloc (.cells #[.int .i64 n] 3)).drew) (fun i hi => by rw [show ((w.alloc (.cells #[.int .i64 n] 3)).drew).cell? ⟨b, off + i, none⟩ = w.cell? ⟨b, off + i, none⟩ from World.cell?_alloc_lt w _ ⟨b, off + i, none⟩ hb]; exact HC.out i hi) 0 _ (fun j x hx => by rw [Nat.zero_add]; exact take_some hx)) (own_one _) (by unfold maxLen; omega) (by omega) (by simp) ?_
          intro v1 w1 hown1 hgrow1
          simp only [Nat.zero_add, List.nil_append] at hown1
          have hb1 := Below.grown ((Below.refl w.heap.size w).alloc (Nat.le_refl _) (.cells #[.int .i64 n] 3)).drew hgrow1 (by simp) (fun k hk => by cases hk)
          have HB1 := Lib.hid hb1
          have HO1 := Lib.hid hown1
          have HC5 : Hid (w1.cell? ⟨w.heap.size, 0, none⟩ = some (.int .i64 n)) := Lib.hid ((hgrow1.cell_far ⟨w.heap.size, 0, none⟩ (by simp) (by simp [Value.ownBlock])).trans (by show (w.alloc _).cell? _ = _; rw [World.cell?_alloc_at _ _ _ _ rfl]; rfl))
          refine TG.go hK1 trivial (fun hS => ?_)
          clear hK1 K1
          (try simp only [Act.put, List.getElem_toArray, List.getElem_cons_zero, List.getElem_cons_succ, List.setIfInBounds_toArray, List.set_cons_zero, List.set_cons_succ])
          clear hown1 hgrow1 hb1
          refine TG.one (i := 6) (by kernel_rfl) rfl (fun K1 hK1 => ?_)
          refine step_append_own rfl _ _ 22 rfl w.heap.size 3 i0 (.int .i64 0) 1 8 Try.underlying22 hi hz0 hz1 hz2 rfl (by decide) v1 a0 _ rfl HO1.out ⟨w.heap.size, 0, none⟩ 1 1 ([n].map (Value.int .i64)) rfl rfl ?_ (own_one _) (by unfold maxLen; omega) (by omega) HB1.out.size ?_
          focus
            intro j u hu
            rw [add_at]
            rcases j with _ | j
            · simp at hu; subst hu; exact HC5.out
            · simp at hu
          intro v2 w2 hown2 hgrow2
          have HB2 := Lib.hid (HB1.out.grown hgrow2 HB1.out.size (fun k hk => (HO1.out.lt k hk).1))
          have HO2 := Lib.hid hown2
          clear hown2 hgrow2
          refine TG.go hK1 trivial (fun hS => ?_)
          clear hK1 K1
          (try simp only [Act.put, List.getElem_toArray, List.getElem_cons_zero, List.getElem_cons_succ, List.setIfInBounds_toArray, List.set_cons_zero, List.set_cons_succ])
          refine TG.one (i := 10) (by kernel_rfl) rfl (fun K1 hK1 => ?_)
          refine step_append_own rfl _ _ 22 rfl w.heap.size 3 i0 (.int .i64 0) 1 8 Try.underlying22 hi hz0 hz1 hz2 rfl (by decide) v2 (a0 + 1) _ rfl HO2.out ⟨b, off, none⟩ (0) (0) ((zs.drop a0).map (Value.int .i64)) rfl (by simp; try omega) (by intro j u hu; rw [HZL.out] at hu; simp at hu) (own_one _) (by unfold maxLen; omega) (by omega) HB2.out.size ?_
          intro v3 w3 hown3 hgrow3
          have HB3 := Lib.hid (HB2.out.grown hgrow3 HB2.out.size (fun k hk => (HO2.out.lt k hk).1))
          have HO3 := Lib.hid hown3
          clear hown3 hgrow3
          refine TG.go hK1 trivial (fun hS => ?_)
          clear hK1 K1
          (try simp only [Act.put, List.getElem_toArray, List.getElem_cons_zero, List.getElem_cons_succ, List.setIfInBounds_toArray, List.set_cons_zero, List.set_cons_succ])
          refine TG.one (i := 11) (by kernel_rfl) rfl (fun K1 hK1 => ?_)
          go_simp
          refine hK1 _ _ (fun h => absurd rfl h) (TG.done (by kernel_rfl) ?_)
          clear hK1 K1 hS
          (try simp only [Act.put, List.getElem_toArray, List.getElem_cons_zero, List.getElem_cons_succ, List.setIfInBounds_toArray, List.set_cons_zero, List.set_cons_succ])
          go_wp2_with fail
          go_returns
          refine ⟨v3, rfl, .of_below HB3.out, ?_, CapOk.of_own HO3.out⟩
          rw [HI2.out]
          have ho := HO3.out
          have hl2 : (zs.take a0 ++ n :: zs.drop a0).length = a0 + 1 + (0) := by simp; omega
          have hm2 : (zs.take a0 ++ n :: zs.drop a0).map (Value.int .i64) = (zs.take a0).map (Value.int .i64) ++ [n].map (Value.int .i64) ++ (zs.drop a0).map (Value.int .i64) := by simp
          rw [← hl2, ← hm2] at ho
          refine IntsAt.of_own ho (by rw [hl2]; omega) (fun z hz => ?_)
          rcases List.mem_append.1 hz with hz | hz
          · exact HR.out z (List.mem_of_mem_take hz)
          · rcases List.mem_cons.1 hz with rfl | hz
            · exact HN.out
            · exact HR.out z (List.mem_of_mem_drop hz)
      · go_wp2_with fail
        refine TG.begin 11 (fun _ => True) (by kernel_rfl) (by kernel_rfl) trivial (fun hS => ?_)
        refine TG.takeV (i := 0) (v := ?_) rfl (by kernel_rfl) (by kernel_rfl) (by kernel_rfl) (by decide) (fun _ _ _ h => h) rfl hS ?_ ?_
        rotate_left
        focus
          intro wS hSw
          (try dsimp only at hSw)
          go_simp
          rfl
        (try simp only [Act.put, List.getElem_toArray, List.getElem_cons_zero, List.getElem_cons_succ, List.setIfInBounds_toArray, List.set_cons_zero, List.set_cons_succ])
        refine TG.takeV (i := 1) (v := ?_) rfl (by kernel_rfl) (by kernel_rfl) (by kernel_rfl) (by decide) (fun _ _ _ h => h) rfl hS ?_ ?_
        rotate_left
        focus
          intro wS hSw
          (try dsimp only at hSw)
          go_simp
          rfl
        (try simp only [Act.put, List.getElem_toArray, List.getElem_cons_zero, List.getElem_cons_succ, List.setIfInBounds_toArray, List.set_cons_zero, List.set_cons_succ])
        refine TG.takeV (i := 2) (v := ?_) rfl (by kernel_rfl) (by kernel_rfl) (by kernel_rfl) (by decide) (fun _ _ _ h => h) rfl hS ?_ ?_
        rotate_left
        focus
          intro wS hSw
          (try dsimp only at hSw)
          go_simp
          rfl
        (try simp only [Act.put, List.getElem_toArray, List.getElem_cons_zero, List.getElem_cons_succ, List.setIfInBounds_toArray, List.set_cons_zero, List.set_cons_succ])
        refine TG.takeV (i := 4) (v := ?_) rfl (by kernel_rfl) (by kernel_rfl) (by kernel_rfl) (by decide) (fun _ _ _ h => h) rfl hS ?_ ?_
        rotate_left
        focus
          intro wS hSw
          (try dsimp only at hSw)
          go_simp
          rfl
        (try simp only [Act.put, List.getElem_toArray, List.getElem_cons_zero, List.getElem_cons_succ, List.setIfInBounds_toArray, List.set_cons_zero, List.set_cons_succ])
        refine TG.takeV (i := 7) (v := ?_) rfl (by kernel_rfl) (by kernel_rfl) (by kernel_rfl) (by decide) (fun _ _ _ h => h) rfl hS ?_ ?_
        rotate_left
        focus
          intro wS hSw
          (try dsimp only at hSw)
          go_simp
          rfl
        (try simp only [Act.put, List.getElem_toArray, List.getElem_cons_zero, List.getElem_cons_succ, List.setIfInBounds_toArray, List.set_cons_zero, List.set_cons_succ])
        refine TG.takeV (i := 8) (v := ?_) rfl (by kernel_rfl) (by kernel_rfl) (by kernel_rfl) (by decide) (fun _ _ _ h => h) rfl hS ?_ ?_
        rotate_left
        focus
          intro wS hSw
          (try dsimp only at hSw)
          go_simp
          rfl
        (try simp only [Act.put, List.getElem_toArray, List.getElem_cons_zero, List.getElem_cons_succ, List.setIfInBounds_toArray, List.set_cons_zero, List.set_cons_succ])
        refine TG.takeV (i := 9) (v := ?_) rfl (by kernel_rfl) (by kernel_rfl) (by kernel_rfl) (by decide) (fun _ _ _ h => h) rfl hS ?_ ?_
        rotate_left
        focus
          intro wS hSw
          (try dsimp only at hSw)
          go_simp
          rfl
        (try simp only [Act.put, List.getElem_toArray, List.getElem_cons_zero, List.getElem_cons_succ, List.setIfInBounds_toArray, List.set_cons_zero, List.set_cons_succ])
        refine TG.two (i := 3) (k := 5) (by kernel_rfl) rfl rfl (fun K1 hK1 => ?_) (fun K1 hK1 => ?_)
        · refine step_append_own rfl _ _ 22 rfl w.heap.size 3 i0 (.int .i64 0) 1 8 Try.underlying22 hi hz0 hz1 hz2 rfl (by decide) (.slice none 0 0) 0 [] rfl (World.ownsRow_nil _ _ _ _) ⟨b, off + 0, none⟩ a0 cap ((zs.take a0).map (Value.int .i64)) rfl (by simp; omega) (sub_cells (zs := zs) (w := w.drew) HC.out 0 _ (fun j x hx => by rw [Nat.zero_add]; exact take_some hx)) (own_one _) (by unfold maxLen; omega) (by omega) (by simp) ?_
          intro v1 w1 hown1 hgrow1
          simp only [Nat.zero_add, List.nil_append] at hown1
          have hb1 := Below.grown (Below.refl w.heap.size w).drew hgrow1 (by simp) (fun k hk => by cases hk)
          have hs1 := hb1.size
          have HB1 := Lib.hid (hb1.alloc hs1 (.cells #[.int .i64 n] 3))
          have HO1 := Lib.hid (hown1.alloc (.cells #[.int .i64 n] 3))
          refine TG.go hK1 trivial (fun hS => ?_)
          clear hK1 K1
          (try simp only [Act.put, List.getElem_toArray, List.getElem_cons_zero, List.getElem_cons_succ, List.setIfInBounds_toArray, List.set_cons_zero, List.set_cons_succ])
          refine TG.one (i := 5) (by kernel_rfl) rfl (fun K1 hK1 => ?_)
          go_simp
          refine TG.go hK1 trivial (fun hS => ?_)
          clear hK1 K1
          (try simp only [Act.put, List.getElem_toArray, List.getElem_cons_zero, List.getElem_cons_succ, List.setIfInBounds_toArray, List.set_cons_zero, List.set_cons_succ])
          have HC5 : Hid ((w1.alloc (.cells #[.int .i64 n] 3)).cell? ⟨w1.heap.size, 0, none⟩ = some (.int .i64 n)) := Lib.hid (by rw [World.cell?_alloc_at _ _ _ _ rfl]; rfl)
          generalize w1.alloc (.cells #[.int .i64 n] 3) = w9 at *
          generalize w1.heap.size = g5 at *
          clear hown1 hgrow1 hb1
          refine TG.one (i := 6) (by kernel_rfl) rfl (fun K1 hK1 => ?_)
          refine step_append_own rfl _ _ 22 rfl w.heap.size 3 i0 (.int .i64 0) 1 8 Try.underlying22 hi hz0 hz1 hz2 rfl (by decide) v1 a0 _ rfl HO1.out ⟨g5, 0, none⟩ 1 1 ([n].map (Value.int .i64)) rfl rfl ?_ (own_one _) (by unfold maxLen; omega) (by omega) HB1.out.size ?_
          focus
            intro j u hu
            rw [add_at]
            rcases j with _ | j
            · simp at hu; subst hu; exact HC5.out
            · simp at hu
          intro v2 w2 hown2 hgrow2
          have HB2 := Lib.hid (HB1.out.grown hgrow2 HB1.out.size (fun k hk => (HO1.out.lt k hk).1))
          have HO2 := Lib.hid hown2
          clear hown2 hgrow2
          refine TG.go hK1 trivial (fun hS => ?_)
          clear hK1 K1
          (try simp only [Act.put, List.getElem_toArray, List.getElem_cons_zero, List.getElem_cons_succ, List.setIfInBounds_toArray, List.set_cons_zero, List.set_cons_succ])
          refine TG.one (i := 10) (by kernel_rfl) rfl (fun K1 hK1 => ?_)
          refine step_append_own rfl _ _ 22 rfl w.heap.size 3 i0 (.int .i64 0) 1 8 Try.underlying22 hi hz0 hz1 hz2 rfl (by decide) v2 (a0 + 1) _ rfl HO2.out ⟨b, off + a0, none⟩ (zs.length - a0) (cap - a0) ((zs.drop a0).map (Value.int .i64)) rfl (by simp; try omega) (by intro j u hu; rw [HZL.out] at hu; simp at hu) (own_one _) (by unfold maxLen; omega) (by omega) HB2.out.size ?_
          intro v3 w3 hown3 hgrow3
          have HB3 := Lib.hid (HB2.out.grown hgrow3 HB2.out.size (fun k hk => (HO2.out.lt k hk).1))
          have HO3 := Lib.hid hown3
          clear hown3 hgrow3
          refine TG.go hK1 trivial (fun hS => ?_)
          clear hK1 K1
          (try simp only [Act.put, List.getElem_toArray, List.getElem_cons_zero, List.getElem_cons_succ, List.setIfInBounds_toArray, List.set_cons_zero, List.set_cons_succ])
          refine TG.one (i := 11) (by kernel_rfl) rfl (fun K1 hK1 => ?_)
          go_simp
          refine hK1 _ _ (fun h => absurd rfl h) (TG.done (by kernel_rfl) ?_)
          clear hK1 K1 hS
          (try simp only [Act.put, List.getElem_toArray, List.getElem_cons_zero, List.getElem_cons_succ, List.setIfInBounds_toArray, List.set_cons_zero, List.set_cons_succ])
          go_wp2_with fail
          go_returns
          refine ⟨v3, rfl, .of_below HB3.out, ?_, CapOk.of_own HO3.out⟩
          rw [HI2.out]
          have ho := HO3.out
          have hl2 : (zs.take a0 ++ n :: zs.drop a0).length = a0 + 1 + (zs.length - a0) := by simp; omega
          have hm2 : (zs.take a0 ++ n :: zs.drop a0).map (Value.int .i64) = (zs.take a0).map (Value.int .i64) ++ [n].map (Value.int .i64) ++ (zs.drop a0).map (Value.int .i64) := by simp
          rw [← hl2, ← hm2] at ho
          refine IntsAt.of_own ho (by rw [hl2]; omega) (fun z hz => ?_)
          rcases List.mem_append.1 hz with hz | hz
          · exact HR.out z (List.mem_of_mem_take hz)
          · rcases List.mem_cons.1 hz with rfl | hz
            · exact HN.out
            · exact HR.out z (List.mem_of_mem_drop hz)
        · go_simp
          refine TG.go hK1 trivial (fun hS => ?_)
          clear hK1 K1
          (try simp only [Act.put, List.getElem_toArray, List.getElem_cons_zero, List.getElem_cons_succ, List.setIfInBounds_toArray, List.set_cons_zero, List.set_cons_succ])
          refine TG.one (i := 3) (by kernel_rfl) rfl (fun K1 hK1 => ?_)
          refine step_append_own rfl _ _ 22 rfl w.heap.size 3 i0 (.int .i64 0) 1 8 Try.underlying22 hi hz0 hz1 hz2 rfl (by decide) (.slice none 0 0) 0 [] rfl (World.ownsRow_nil _ _ _ _) ⟨b, off + 0, none⟩ a0 cap ((zs.take a0).map (Value.int .i64)) rfl (by simp; omega) (sub_cells (zs := zs) (w := (w.alloc (.cells #[.int .i64 n] 3)).drew) (fun i hi => by rw [show ((w.alloc (.cells #[.int .i64 n] 3)).drew).cell? ⟨b, off + i, none⟩ = w.cell? ⟨b, off + i, none⟩ from World.cell?_alloc_lt w _ ⟨b, off + i, none⟩ hb]; exact HC.out i hi) 0 _ (fun j x hx => by rw [Nat.zero_add]; exact take_some hx)) (own_one _) (by unfold maxLen; omega) (by omega) (by simp) ?_
          intro v1 w1 hown1 hgrow1
          simp only [Nat.zero_add, List.nil_append] at hown1
          have hb1 := Below.grown ((Below.refl w.heap.size w).alloc (Nat.le_refl _) (.cells #[.int .i64 n] 3)).drew hgrow1 (by simp) (fun k hk => by cases hk)
          have HB1 := Lib.hid hb1
          have HO1 := Lib.hid hown1
          have HC5 : Hid (w1.cell? ⟨w.heap.size, 0, none⟩ = some (.int .i64 n)) := Lib.hid ((hgrow1.cell_far ⟨w.heap.size, 0, none⟩ (by simp) (by simp [Value.ownBlock])).trans (by show (w.alloc _).cell? _ = _; rw [World.cell?_alloc_at _ _ _ _ rfl]; rfl))
          refine TG.go hK1 trivial (fun hS => ?_)
          clear hK1 K1
          (try simp only [Act.put, List.getElem_toArray, List.getElem_cons_zero, List.getElem_cons_succ, List.setIfInBounds_toArray, List.set_cons_zero, List.set_cons_succ])
          clear hown1 hgrow1 hb1
          refine TG.one (i := 6) (by kernel_rfl) rfl (fun K1 hK1 => ?_)
          refine step_append_own rfl _ _ 22 rfl w.heap.size 3 i0 (.int .i64 0) 1 8 Try.underlying22 hi hz0 hz1 hz2 rfl (by decide) v1 a0 _ rfl HO1.out ⟨w.heap.size, 0, none⟩ 1 1 ([n].map (Value.int .i64)) rfl rfl ?_ (own_one _) (by unfold maxLen; omega) (by omega) HB1.out.size ?_
          focus
            intro j u hu
            rw [add_at]
            rcases j with _ | j
            · simp at hu; subst hu; exact HC5.out
            · simp at hu
          intro v2 w2 hown2 hgrow2
          have HB2 := Lib.hid (HB1.out.grown hgrow2 HB1.out.size (fun k hk => (HO1.out.lt k hk).1))
          have HO2 := Lib.hid hown2
          clear hown2 hgrow2
          refine TG.go hK1 trivial (fun hS => ?_)
          clear hK1 K1
          (try simp only [Act.put, List.getElem_toArray, List.getElem_cons_zero, List.getElem_cons_succ, List.setIfInBounds_toArray, List.set_cons_zero, List.set_cons_succ])
          refine TG.one (i := 10) (by kernel_rfl) rfl (fun K1 hK1 => ?_)
          refine step_append_own rfl _ _ 22 rfl w.heap.size 3 i0 (.int .i64 0) 1 8 Try.underlying22 hi hz0 hz1 hz2 rfl (by decide) v2 (a0 + 1) _ rfl HO2.out ⟨b, off + a0, none⟩ (zs.length - a0) (cap - a0) ((zs.drop a0).map (Value.int .i64)) rfl (by simp; try omega) (by intro j u hu; rw [HZL.out] at hu; simp at hu) (own_one _) (by unfold maxLen; omega) (by omega) HB2.out.size ?_
          intro v3 w3 hown3 hgrow3
          have HB3 := Lib.hid (HB2.out.grown hgrow3 HB2.out.size (fun k hk => (HO2.out.lt k hk).1))
          have HO3 := Lib.hid hown3
          clear hown3 hgrow3
          refine TG.go hK1 trivial (fun hS => ?_)
          clear hK1 K1
          (try simp only [Act.put, List.getElem_toArray, List.getElem_cons_zero, List.getElem_cons_succ, List.setIfInBounds_toArray, List.set_cons_zero, List.set_cons_succ])
          refine TG.one (i := 11) (by kernel_rfl) rfl (fun K1 hK1 => ?_)
          go_simp
          refine hK1 _ _ (fun h => absurd rfl h) (TG.done (by kernel_rfl) ?_)
          clear hK1 K1 hS
          (try simp only [Act.put, List.getElem_toArray, List.getElem_cons_zero, List.getElem_cons_succ, List.setIfInBounds_toArray, List.set_cons_zero, List.set_cons_succ])
          go_wp2_with fail
          go_returns
          refine ⟨v3, rfl, .of_below HB3.out, ?_, CapOk.of_own HO3.out⟩
          rw [HI2.out]
          have ho := HO3.out
          have hl2 : (zs.take a0 ++ n :: zs.drop a0).length = a0 + 1 + (zs.length - a0) := by simp; omega
          have hm2 : (zs.take a0 ++ n :: zs.drop a0).map (Value.int .i64) = (zs.take a0).map (Value.int .i64) ++ [n].map (Value.int .i64) ++ (zs.drop a0).map (Value.int .i64) := by simp
          rw [← hl2, ← hm2] at ho
          refine IntsAt.of_own ho (by rw [hl2]; omega) (fun z hz => ?_)
          rcases List.mem_append.1 hz with hz | hz
          · exact HR.out z (List.mem_of_mem_take hz)
          · rcases List.mem_cons.1 hz with rfl | hz
            · exact HN.out
            · exact HR.out z (List.mem_of_mem_drop hz)
end Go.Proofs.Ytldelkkeimlfcaa
/- The days of change, as the document says; lists of numbers compared. -/
namespace Go.Proofs.Ytldelkkeimlfcaa
open Go.RowKit Go.Sort Go.Lib
theorem IntsAt.same {w w' : World} {v : Value} {zs : List Int} (h : IntsAt w v zs) (hb : Below w.heap.size w w') : IntsAt w' v zs := by
  obtain ⟨h0, hr, a, cap, hv, h1⟩ := h
  refine ⟨h0, hr, a, cap, hv, h1.imp id ?_⟩
  rintro ⟨b, off, ha, hlt, hc⟩
  have := hb.size
  exact ⟨b, off, ha, by omega, fun i hi => by rw [hb.cell (by exact hlt)]; exact hc i hi⟩
set_option maxHeartbeats 2000000 in
theorem sameInts_any {zs : List Int} {v u : Value} {w : World} (h : IntsAt w v zs) (h' : IntsAt w u zs) (hl : zs.length ≤ 1000) : Calls Try.prog 22 #[v, u] w fun e w' => e = .returned (.bool true) ∧ w.Grows w' := by
  obtain ⟨-, -, a, cap, rfl, h1⟩ := h
  obtain ⟨-, -, a', cap', rfl, h2⟩ := h'
  have H1 := Lib.hid h1
  have H2 := Lib.hid h2
  clear h1 h2
  go_enter Try.func22, Try.ntmps22
  go_wp2_with fail
  go_loopw [5] (fun v5 wr => ∃ k : Nat, k ≤ zs.length ∧ v5 = .int .i64 k ∧ w.Grows wr) (fun v5 _ => zs.length - (intOf v5).toNat)
  case atStart => exact ⟨0, by omega, rfl, .refl _⟩
  case round =>
    obtain ⟨k, hk, rfl, bs, d, rfl⟩ := hrel
    by_cases hlt : k < zs.length
    · rcases H1.out with h0 | ⟨b, off, rfl, hb, hc⟩
      · omega
      rcases H2.out with h0 | ⟨b2, off2, rfl, hb2, hc2⟩
      · omega
      have x0 := hc k hlt
      have y0 := hc2 k hlt
      have d1 : (k : Int) < (zs.length : Int) := by omega
      have d0 : (0 : Int) ≤ (k : Int) := by omega
      clear hc hc2
      generalize zs.getD k 0 = z at *
      go_wp2_with fail
      go_quiet (fail)
      go_wp2_with fail
      go_roundw
      case rel => exact ⟨k + 1, by omega, by go_num, .of_below (by (repeat' (first | (with_reducible exact Below.refl _ _) | (with_reducible assumption) | (with_reducible refine Below.grow ?_ ?_ _ _) | (with_reducible refine Below.alloc ?_ ?_ _) | (with_reducible refine Below.drewN ?_ _) | (with_reducible refine Below.drew ?_) | (with_reducible refine Below.setCell ?_ ?_ _) | go_size)))⟩
      case measure => simp [intOf]; omega
    · obtain rfl : k = zs.length := by omega
      go_wp2_with fail
      go_returns
      exact ⟨rfl, .of_below (by (repeat' (first | (with_reducible exact Below.refl _ _) | (with_reducible assumption) | (with_reducible refine Below.grow ?_ ?_ _ _) | (with_reducible refine Below.alloc ?_ ?_ _) | (with_reducible refine Below.drewN ?_ _) | (with_reducible refine Below.drew ?_) | (with_reducible refine Below.setCell ?_ ?_ _) | go_size)))⟩
/-- Ins puts a number into an ascending list. -/
theorem ins_any (zs : List Int) (v : Value) (n : Int) (w : World) (h : IntsAt w v zs) (hcap : CapOk v) (hnil : zs = [] → v = .slice none 0 0) (hl : zs.length ≤ 900) (hn : I64 n) : Calls Try.prog 43 #[v, .int .i64 n] w (IntsPost (insS zs n) w) := by
  rcases Nat.eq_zero_or_pos zs.length with h0 | h0
  · have hz : zs = [] := List.eq_nil_of_length_eq_zero h0
    rw [hnil hz]
    subst hz
    have : insS [] n = [n] := rfl
    rw [this]
    exact ins_nil n w hn
  · exact ins_some zs v n w h hcap h0 hl hn
def insAll (zs : List Int) : List Int := zs.foldl insS []
theorem insAll_take (L : List VerP) (k : Nat) (V : VerP) (h : L[k]? = some V) : insAll (frms (L.take (k + 1))) = insS (insAll (frms (L.take k))) V.frm := by
  obtain ⟨hk, he⟩ := List.getElem?_eq_some_iff.1 h
  rw [List.take_succ_eq_append_getElem hk, he]
  simp [frms, insAll]
theorem insAll_length (zs : List Int) : (insAll zs).length ≤ zs.length := by
  have key : ∀ (zs acc : List Int), (zs.foldl insS acc).length ≤ acc.length + zs.length := by
    intro zs
    induction zs with
    | nil => intro acc; simp
    | cons z zs ih => intro acc; have h1 := ih (insS acc z); have h2 := insS_length acc z; simp only [List.foldl_cons, List.length_cons]; omega
  have := key zs []
  simpa [insAll] using this
theorem insAll_asc (zs : List Int) : Asc (insAll zs) ∧ ∀ y, y ∈ insAll zs ↔ y ∈ zs := by
  have key : ∀ (zs acc : List Int), Asc acc → Asc (zs.foldl insS acc) ∧ ∀ y, y ∈ zs.foldl insS acc ↔ y ∈ acc ∨ y ∈ zs := by
    intro zs
    induction zs with
    | nil => intro acc h; exact ⟨h, fun y => by simp⟩
    | cons z zs ih =>
      intro acc h
      obtain ⟨h1, h2⟩ := insS_asc z h
      obtain ⟨h3, h4⟩ := ih _ h1
      refine ⟨h3, fun y => (h4 y).trans ?_⟩
      rw [h2, List.mem_cons]
      constructor
      · rintro ((h | h) | h)
        · exact .inl h
        · exact .inr (.inl h)
        · exact .inr (.inr h)
      · rintro (h | h | h)
        · exact .inl (.inl h)
        · exact .inl (.inr h)
        · exact .inr h
  obtain ⟨h1, h2⟩ := key zs [] (by simp [Asc])
  exact ⟨h1, fun y => (h2 y).trans (by simp)⟩
theorem insAll_nil {zs : List Int} (h : insAll zs = []) : zs = [] := by
  cases zs with
  | nil => rfl
  | cons z zs =>
    have := ((insAll_asc (z :: zs)).2 z).2 (List.mem_cons_self)
    rw [h] at this; cases this
/-- Both roads lead to the same list. -/
theorem chg_same (zs : List Int) : compact (zs.mergeSort fun x y => decide (x ≤ y)) = insAll zs :=
  Asc.ext (compact_sorted zs).1 (insAll_asc zs).1 fun y => ((compact_sorted zs).2 y).trans ((insAll_asc zs).2 y).symm
set_option maxHeartbeats 2000000 in
set_option maxRecDepth 100000 in
theorem chgR_any (nm : ByteArray) (cur : Int) (v : Value) (L : List VerP) (x : VRow) (w : World) (h : VsAt w v L x) (hl9 : L.length ≤ 900) :
    Calls Try.prog 24 #[.agg #[.string nm, .int .i64 cur, v]] w (IntsPost (insAll (frms L)) w) := by
  have HV := Lib.hid h
  obtain ⟨hn, a, cap, rfl, -⟩ := h.lies
  clear h
  go_enter Try.func24, Try.ntmps24
  go_wp2_with fail
  go_loopw [3, 4] (fun vo vi wr => ∃ k : Nat, ∃ v3, k ≤ L.length ∧ v3 = vo ∧ vi = .int .i64 k ∧ World.Grows (w.alloc ((.cells #[.string nm, .int .i64 cur, .slice a L.length cap] 53))) wr ∧ IntsAt wr v3 (insAll (frms (L.take k))) ∧ CapOk v3 ∧ (k = 0 → v3 = .slice none 0 0)) (fun _ vi _ => L.length - (intOf vi).toNat)
  case atStart => exact ⟨0, _, by omega, rfl, rfl, .refl _, ⟨by simp [frms, insAll], by simp [frms, insAll], none, 0, rfl, .inl rfl⟩, fun a n c he => by simp only [Value.slice.injEq] at he; omega, fun _ => rfl⟩
  case round =>
    obtain ⟨k, v3, hk, rfl, rfl, ⟨bs, d, rfl⟩, hints, hcap, hnil⟩ := hrel
    by_cases hlt : k < L.length
    · obtain ⟨-, a', cap', hv, hx⟩ := HV.out.lies
      simp only [Value.slice.injEq, true_and] at hv
      obtain ⟨rfl, rfl⟩ := hv
      rcases hx with hx | ⟨b, off, rfl, hb, hx⟩
      · omega
      obtain ⟨q0, -⟩ := hx k hlt
      obtain ⟨V, hV⟩ : ∃ V, L[k]? = some V := ⟨_, List.getElem?_eq_getElem hlt⟩
      obtain ⟨ef, -, -, hfr, -⟩ := HV.out.each k V hV
      rw [ef] at q0
      have HFT := Lib.hid (insAll_take L k V hV)
      have HFR := Lib.hid hfr
      have hlen : (insAll (frms (L.take k))).length ≤ k := by
        have := insAll_length (frms (L.take k)); have h2 : (frms (L.take k)).length = k := by simp [frms]; omega
        omega
      have HNL := Lib.hid (show insAll (frms (L.take k)) = [] → v3 = .slice none 0 0 from fun h0 => by
        have h1 := insAll_nil h0
        have h2 : (frms (L.take k)).length = k := by simp [frms]; omega
        rw [h1] at h2
        exact hnil (by simpa using h2.symm))
      generalize hfv : V.frm = fv at *
      have d1 : (k : Int) < (L.length : Int) := by omega
      have HI := Lib.hid hints
      have HC := Lib.hid hcap
      have HLN := Lib.hid (show (insAll (frms (L.take k))).length ≤ 900 by omega)
      obtain ⟨va, vc, hv3⟩ := IntsAt.form hints
      subst hv3
      obtain ⟨ys, hys⟩ : ∃ ys, insAll (frms (L.take k)) = ys := ⟨_, rfl⟩
      rw [hys] at HFT HI HNL HLN HC ⊢
      clear hys
      clear hx hV ef hfr hfv hints hcap hnil hlen
      go_wp2_with fail
      refine (ins_any _ _ fv _ HI.out HC.out HNL.out HLN.out HFR.out).mono ?_
      rintro e w' ⟨v', rfl, ⟨bs2, d2, rfl⟩, hi2, hc2⟩
      rw [World.grow_grow] at hi2
      have HI2 := Lib.hid hi2
      have HC2 := Lib.hid hc2
      clear hi2 hc2
      go_wp2_with fail
      go_roundw
      case rel => exact ⟨k + 1, _, by omega, rfl, by go_num, .of_below (by (repeat' (first | (with_reducible exact Below.refl _ _) | (with_reducible assumption) | (with_reducible refine Below.grow ?_ ?_ _ _) | (with_reducible refine Below.alloc ?_ ?_ _) | (with_reducible refine Below.drewN ?_ _) | (with_reducible refine Below.drew ?_) | (with_reducible refine Below.setCell ?_ ?_ _) | go_size))), by rw [HFT.out]; exact HI2.out, HC2.out, fun h => by omega⟩
      case measure => simp [intOf]; omega
    · obtain rfl : k = L.length := by omega
      rw [List.take_length] at hints
      have HI := Lib.hid hints
      have HC := Lib.hid hcap
      clear hints hcap hnil
      go_wp2_with fail
      go_returns
      exact ⟨_, rfl, .of_below (by (repeat' (first | (with_reducible exact Below.refl _ _) | (with_reducible assumption) | (with_reducible refine Below.grow ?_ ?_ _ _) | (with_reducible refine Below.alloc ?_ ?_ _) | (with_reducible refine Below.drewN ?_ _) | (with_reducible refine Below.drew ?_) | (with_reducible refine Below.setCell ?_ ?_ _) | go_size))), HI.out, HC.out⟩
end Go.Proofs.Ytldelkkeimlfcaa
