/- The best years, as plain functions: the order does not matter, and another year never makes it less. No program in sight. -/
import Derived.Test.YtlheailebbngiaaGreatDoorQNames
import Derived.Test.YtlheailebbngiaaGreatDoorQSyE
import Derived.Test.YtlheailebbngiaaGreatDoorQBase
import Derived.Shelf.Small.Bits
import Derived.Shelf.Small.Wraps
import Derived.Shelf.Strconv.Itoa0
import Derived.Shelf.Strconv.Itoa1
import Derived.Shelf.LaysM
import Derived.Shelf.Strconv.Itoa2
import Derived.Shelf.Strconv.Itoa3
import Derived.Shelf.Strings.Search1
import Derived.Shelf.Strings.Search2
import Derived.Shelf.Strings.Cut
import Derived.Shelf.Strings.Shaped
import Derived.Shelf.Sort.Plain
import Derived.Shelf.Bits.Mul64
import Derived.Shelf.Slices.Reverse
import Derived.Shelf.Slices.Cells
import Derived.Shelf.Slices.In.SortNone
import Derived.Test.YtlheailebbngiaaGreatDoorProg
import Derived.Sort.OwnSortedInts
import Derived.RangeFuncNested
import Derived.RangeFuncBound
import Derived.RangeFuncCalls
import Derived.RangeFuncLeaves
import Derived.RangeFuncBox
import Derived.Shelf.Abstract
import Derived.Shelf.RegionOpen
import Derived.WalkKit
import Derived.OwnWalkIn
import Derived.TacticsInMore
import Derived.LoopNIn
import Derived.LoopIn
import Derived.Maps.AppendAt
set_option linter.all false
namespace Go.Proofs.YtlheailebbngiaaGreatDoor
def Desc (l : List Int) : Prop := l.Pairwise fun a b => b ≤ a
theorem insD_perm (x : Int) (l : List Int) : (insD x l).Perm (x :: l) := by
  induction l with
  | nil => exact List.Perm.refl _
  | cons y r ih =>
    unfold insD
    split
    · exact (ih.cons y).trans (List.Perm.swap x y r)
    · exact List.Perm.refl _
theorem insD_desc {x : Int} {l : List Int} (h : Desc l) : Desc (insD x l) := by
  induction l with
  | nil => simp [insD, Desc]
  | cons y r ih =>
    obtain ⟨h1, h2⟩ := List.pairwise_cons.1 h
    unfold insD
    split <;> rename_i hc
    · refine List.pairwise_cons.2 ⟨fun z hz => ?_, ih h2⟩
      rcases List.mem_cons.1 ((insD_perm x r).mem_iff.1 hz) with rfl | hz
      · exact hc
      · exact h1 z hz
    · refine List.pairwise_cons.2 ⟨fun z hz => ?_, h⟩
      rcases List.mem_cons.1 hz with rfl | hz
      · omega
      · have := h1 z hz; omega
theorem foldD (l : List Int) : ∀ a : List Int, Desc a → Desc (l.foldl (fun a x => insD x a) a) ∧ (l.foldl (fun a x => insD x a) a).Perm (a ++ l) := by
  induction l with
  | nil => intro a h; exact ⟨h, by simp⟩
  | cons x r ih =>
    intro a h
    obtain ⟨h1, h2⟩ := ih _ (insD_desc (x := x) h)
    refine ⟨h1, h2.trans ?_⟩
    exact ((insD_perm x a).append_right r).trans List.perm_middle.symm
theorem sortD_desc (l : List Int) : Desc (sortD l) := (foldD l [] List.Pairwise.nil).1
theorem sortD_perm (l : List Int) : (sortD l).Perm l := (foldD l [] List.Pairwise.nil).2
theorem desc_uniq {a b : List Int} (ha : Desc a) (hb : Desc b) (h : a.Perm b) : a = b :=
  List.Perm.eq_of_pairwise (le := fun x y : Int => y ≤ x) (fun x y _ _ h1 h2 => by omega) ha hb h
theorem sortD_same {a b : List Int} (h : a.Perm b) : sortD a = sortD b := desc_uniq (sortD_desc a) (sortD_desc b) ((sortD_perm a).trans (h.trans (sortD_perm b).symm))
theorem bestF_perm {a b : List Int} (h : a.Perm b) (n : Int) : bestF a n = bestF b n := by
  have h1 : yearsOk a = yearsOk b := by
    unfold yearsOk
    rw [h.length_eq]
    congr 1
    rw [Bool.eq_iff_iff, List.all_eq_true, List.all_eq_true]
    exact ⟨fun k x hx => k x (h.mem_iff.2 hx), fun k x hx => k x (h.mem_iff.1 hx)⟩
  unfold bestF bestS
  rw [sortD_same h, h1]
theorem sum_app (a b : List Int) : (a ++ b).sum = a.sum + b.sum := by
  induction a with
  | nil => simp
  | cons x r ih => simp only [List.cons_append, List.sum_cons, ih]; omega
theorem sum_rev (a : List Int) : a.reverse.sum = a.sum := by
  induction a with
  | nil => rfl
  | cons x r ih => simp only [List.reverse_cons, sum_app, ih, List.sum_cons, List.sum_nil]; omega
/-- The last n of the ascending row are the first n of the descending one. -/
theorem best_last {ss l : List Int} (hp : ss.Perm l) (hs : ss.Pairwise (· ≤ ·)) (n : Nat) : (ss.drop (ss.length - n)).sum = ((sortD l).take n).sum := by
  have e : ss.reverse = sortD l := desc_uniq (List.pairwise_reverse.2 hs) (sortD_desc l) ((List.reverse_perm ss).trans (hp.trans (sortD_perm l).symm))
  rw [← e, List.take_reverse, sum_rev]
theorem take_more {x : Int} : ∀ (l : List Int) (n : Nat), (∀ y ∈ l, y ≤ x) → 0 ≤ x → (l.take (n + 1)).sum ≤ x + (l.take n).sum
  | [], _, _, h0 => by simp; omega
  | y :: r, 0, h, _ => by have := h y (by simp); simp; omega
  | y :: r, n + 1, h, h0 => by
    have := take_more r n (fun z hz => h z (by simp [hz])) h0
    rw [List.take_succ_cons, List.take_succ_cons, List.sum_cons, List.sum_cons]; omega
theorem insD_more {x : Int} (h0 : 0 ≤ x) : ∀ (l : List Int) (n : Nat), Desc l → (l.take n).sum ≤ ((insD x l).take n).sum
  | [], n, _ => by cases n <;> simp [insD]; omega
  | y :: r, 0, _ => by simp
  | y :: r, n + 1, h => by
    obtain ⟨h1, h2⟩ := List.pairwise_cons.1 h
    unfold insD
    split <;> rename_i hc
    · have := insD_more h0 r n h2
      rw [List.take_succ_cons, List.take_succ_cons, List.sum_cons, List.sum_cons]; omega
    · rw [List.take_succ_cons (a := x), List.sum_cons]
      exact take_more (y :: r) n (fun z hz => by
        rcases List.mem_cons.1 hz with rfl | hz
        · omega
        · have := h1 z hz; omega) h0
theorem bestS_more {l : List Int} {x : Int} (h0 : 0 ≤ x) (n : Int) : bestS l n ≤ bestS (l ++ [x]) n := by
  unfold bestS
  have e : sortD (l ++ [x]) = insD x (sortD l) := by unfold sortD; rw [List.foldl_append]; rfl
  rw [e]
  exact insD_more h0 _ _ (sortD_desc l)
/-- A made fraction is the quotient. -/
theorem mk_value {n d : Int} (h1 : 0 ≤ n) (h2 : 1 ≤ d) (he : mkE n d = 0) : mkN n d * d = n * mkD n d := by
  have hg : 0 < Nat.gcd n.natAbs d.natAbs := Nat.gcd_pos_of_pos_right _ (by omega)
  unfold mkE at he
  unfold mkN mkD
  rw [if_neg (by omega)] at he ⊢
  rw [if_neg (by omega)]
  unfold lowE at he
  unfold lowN lowD
  split at he <;> rename_i hc
  · simp at he
  rw [if_neg hc, if_neg hc, decide_eq_false (by omega), decide_eq_false (by omega)]
  simp only [bne_self_eq_false, Bool.false_eq_true, if_false]
  obtain ⟨a, rfl⟩ := Int.eq_ofNat_of_zero_le h1
  obtain ⟨b, rfl⟩ := Int.eq_ofNat_of_zero_le (show 0 ≤ d by omega)
  simp only [Int.natAbs_natCast] at hg ⊢
  rw [← Int.natCast_mul, ← Int.natCast_mul]
  congr 1
  obtain ⟨p, hp⟩ := Nat.gcd_dvd_left a b
  obtain ⟨q, hq⟩ := Nat.gcd_dvd_right a b
  generalize Nat.gcd a b = g at *
  subst hp hq
  rw [Nat.mul_div_cancel_left _ hg, Nat.mul_div_cancel_left _ hg, Nat.mul_left_comm, Nat.mul_comm g p, Nat.mul_assoc, Nat.mul_comm p]
  rw [Nat.mul_comm q p, Nat.mul_left_comm]
theorem mk_vfrac {n d : Int} (h : d ≠ 0) (he : mkE n d = 0) : vfrac (mkN n d) (mkD n d) = true := by
  rcases mk_ok h (n := n) with ⟨_, h2⟩ | ⟨_, _, h3⟩
  · exact h2
  · simp only [he] at h3; omega
theorem cross_le {p q r s n a b : Int} (hq : 1 ≤ q) (hs : 1 ≤ s) (hn : 1 ≤ n) (h1 : p * n = a * q) (h2 : r * n = b * s) (h : a ≤ b) : p * s ≤ r * q := by
  have e1 : p * s * n = a * (q * s) := by rw [Int.mul_right_comm, h1, Int.mul_assoc]
  have e2 : r * q * n = b * (q * s) := by rw [Int.mul_right_comm, h2, Int.mul_assoc, Int.mul_comm s q]
  have h3 : a * (q * s) ≤ b * (q * s) := Int.mul_le_mul_of_nonneg_right h (Int.mul_nonneg (by omega) (by omega))
  rw [← e1, ← e2] at h3
  exact Int.le_of_mul_le_mul_right h3 (by omega)
theorem mk_order {a b n : Int} (h1 : 0 ≤ a) (h2 : a ≤ b) (h3 : 1 ≤ n) (ha : mkE a n = 0) (hb : mkE b n = 0) : cmpI (mkN a n) (mkD a n) (mkN b n) (mkD b n) ≤ 0 := by
  have va := vfrac_bd (mk_vfrac (by omega) ha)
  have vb := vfrac_bd (mk_vfrac (by omega) hb)
  have := cross_le (n := n) va.1 vb.1 h3 (mk_value h1 h3 ha) (mk_value (by omega) h3 hb) h2
  unfold cmpI
  split
  · omega
  · split
    · omega
    · omega
end Go.Proofs.YtlheailebbngiaaGreatDoor
/- Where an insertion in descending order goes. No program in sight. -/
namespace Go.Proofs.YtlheailebbngiaaGreatDoor
theorem ins_split {x : Int} : ∀ (l : List Int) (at_ : Nat), Desc l → at_ ≤ l.length → (at_ = 0 ∨ x ≤ l.getD (at_ - 1) 0) → (∀ j, at_ ≤ j → j < l.length → l.getD j 0 < x) → insD x l = l.take at_ ++ x :: l.drop at_
  | [], at_, _, h, _, _ => by simp [insD]
  | y :: r, 0, _, _, _, h => by
    have := h 0 (by omega) (by simp)
    unfold insD
    simp at this
    rw [if_neg (by omega)]
    simp
  | y :: r, a + 1, hd, hl, h1, h2 => by
    obtain ⟨g1, g2⟩ := List.pairwise_cons.1 hd
    have hle : x ≤ y := by
      rcases h1 with h1 | h1
      · omega
      · rcases Nat.eq_zero_or_pos a with rfl | ha
        · simpa using h1
        · have hm : (y :: r).getD a 0 ∈ r := by
            obtain ⟨b, rfl⟩ : ∃ b, a = b + 1 := ⟨a - 1, by omega⟩
            rw [List.length_cons] at hl
            rw [List.getD_cons_succ, List.getD_eq_getElem?_getD, List.getElem?_eq_getElem (show b < r.length by omega)]
            exact List.getElem_mem _
          have := g1 _ hm
          simp only [Nat.add_sub_cancel] at h1
          omega
    unfold insD
    rw [if_pos hle, List.take_succ_cons, List.drop_succ_cons, List.cons_append]
    congr 1
    refine ins_split r a g2 (by simpa using hl) ?_ (fun j hj hjl => ?_)
    · rcases Nat.eq_zero_or_pos a with rfl | ha
      · exact .inl rfl
      · right
        rcases h1 with h1 | h1
        · omega
        · obtain ⟨b, rfl⟩ : ∃ b, a = b + 1 := ⟨a - 1, by omega⟩
          simpa using h1
    · have := h2 (j + 1) (by omega) (by simpa using hjl)
      simpa using this
theorem insD_len (x : Int) (l : List Int) : (insD x l).length = l.length + 1 := by
  have := (insD_perm x l).length_eq
  simpa using this
/-- The first k, sorted. -/
abbrev sortK (l : List Int) (k : Nat) : List Int := sortD (l.take k)
theorem sortK_succ (l : List Int) (k : Nat) (hk : k < l.length) : sortK l (k + 1) = insD (l.getD k 0) (sortK l k) := by
  unfold sortK sortD
  rw [List.take_succ_eq_append_getElem hk, List.foldl_append, List.getD_eq_getElem?_getD, List.getElem?_eq_getElem hk]
  rfl
theorem sortK_len (l : List Int) (k : Nat) (hk : k ≤ l.length) : (sortK l k).length = k := by
  have := (sortD_perm (l.take k)).length_eq
  rw [this, List.length_take]; omega
theorem sortK_desc (l : List Int) (k : Nat) : Desc (sortK l k) := sortD_desc _
theorem sortK_all (l : List Int) : sortK l l.length = sortD l := by unfold sortK; rw [List.take_length]
theorem sortK_split (l : List Int) (k at_ : Nat) (hk : k < l.length) (ha : at_ ≤ k) (h1 : at_ = 0 ∨ l.getD k 0 ≤ (sortK l k).getD (at_ - 1) 0) (h2 : ∀ j, at_ ≤ j → j < k → (sortK l k).getD j 0 < l.getD k 0) :
    sortK l (k + 1) = (sortK l k).take at_ ++ l.getD k 0 :: (sortK l k).drop at_ := by
  have hn := sortK_len l k (by omega)
  rw [sortK_succ l k hk]
  exact ins_split _ _ (sortK_desc l k) (by omega) h1 (fun j hj hjl => h2 j hj (by omega))
/-- Sums of the first j. -/
abbrev sumK (l : List Int) (j : Nat) : Int := (l.take j).sum
theorem sumK_succ (l : List Int) (j : Nat) (hj : j < l.length) : sumK l (j + 1) = sumK l j + l.getD j 0 := by
  unfold sumK
  rw [List.take_succ_eq_append_getElem hj, sum_app, List.getD_eq_getElem?_getD, List.getElem?_eq_getElem hj]
  simp
theorem years_mem {l : List Int} (h : yearsOk l = true) : l.length ≤ 200 ∧ ∀ x ∈ l, 0 ≤ x ∧ x ≤ 1000000000000 := by
  unfold yearsOk at h
  simp only [Bool.and_eq_true, decide_eq_true_eq, List.all_eq_true] at h
  exact h
theorem sum_bd {l : List Int} (h : ∀ x ∈ l, 0 ≤ x ∧ x ≤ 1000000000000) : 0 ≤ l.sum ∧ l.sum ≤ 1000000000000 * l.length := by
  induction l with
  | nil => simp
  | cons x r ih =>
    have h1 := h x (by simp)
    have h2 := ih (fun y hy => h y (by simp [hy]))
    rw [List.sum_cons, List.length_cons]
    push_cast
    omega
theorem sumK_bd {l s : List Int} (h : yearsOk l = true) (hp : s.Perm l) (j : Nat) : 0 ≤ sumK s j ∧ sumK s j ≤ 200000000000000 := by
  have hm := years_mem h
  have := sum_bd (l := s.take j) (fun x hx => hm.2 x (hp.mem_iff.1 (List.mem_of_mem_take hx)))
  have hl : (s.take j).length ≤ 200 := by
    have := hp.length_eq
    rw [List.length_take]; omega
  unfold sumK
  omega
theorem getD_bd {l s : List Int} (h : yearsOk l = true) (hp : s.Perm l) (j : Nat) : 0 ≤ s.getD j 0 ∧ s.getD j 0 ≤ 1000000000000 := by
  rw [List.getD_eq_getElem?_getD]
  cases hx : s[j]? with
  | none => simp
  | some y => exact (years_mem h).2 y (hp.mem_iff.1 (List.mem_of_getElem? hx))
end Go.Proofs.YtlheailebbngiaaGreatDoor
/- The plain law of EvalBestOrder. No program in sight. -/
namespace Go.Proofs.YtlheailebbngiaaGreatDoor
theorem mkE_small {n d : Int} (h1 : 0 ≤ n) (h2 : n ≤ 1000000000000000) (h3 : 1 ≤ d) (h4 : d ≤ 1000000000) : mkE n d = 0 := by
  unfold mkE lowE
  rw [if_neg (by omega), if_neg]
  have a := Nat.div_le_self n.natAbs (Nat.gcd n.natAbs d.natAbs)
  have b := Nat.div_le_self d.natAbs (Nat.gcd n.natAbs d.natAbs)
  omega
/-- The picked amounts. -/
abbrev pkL (zs : List Int) : List Int := zs.map fun z => pick z 1000000
theorem pkL_mem {zs : List Int} {x : Int} (h : x ∈ pkL zs) : 0 ≤ x ∧ x < 1000000 := by
  obtain ⟨z, -, rfl⟩ := List.mem_map.1 h
  exact pick_bd z 1000000 (by omega)
theorem years_of {l : List Int} (hl : l.length ≤ 200) (h : ∀ x ∈ l, 0 ≤ x ∧ x < 1000000) : yearsOk l = true := by
  unfold yearsOk
  rw [decide_eq_true hl, Bool.true_and, List.all_eq_true]
  intro x hx
  have := h x hx
  exact decide_eq_true (by omega)
theorem sum_small {l : List Int} (h : ∀ x ∈ l, 0 ≤ x ∧ x < 1000000) : 0 ≤ l.sum ∧ l.sum ≤ 1000000 * l.length := by
  induction l with
  | nil => simp
  | cons x r ih =>
    have h1 := h x (by simp)
    have h2 := ih (fun y hy => h y (by simp [hy]))
    rw [List.sum_cons, List.length_cons]
    omega
theorem bestS_small {l : List Int} (hl : l.length ≤ 300) (h : ∀ x ∈ l, 0 ≤ x ∧ x < 1000000) (n : Int) : 0 ≤ bestS l n ∧ bestS l n ≤ 1000000000 := by
  unfold bestS
  have hp := sortD_perm l
  have h1 := sum_small (l := (sortD l).take n.toNat) (fun x hx => h x (hp.mem_iff.1 (List.mem_of_mem_take hx)))
  have h2 : ((sortD l).take n.toNat).length ≤ 300 := by rw [List.length_take, hp.length_eq]; omega
  omega
/-- The three answers of EvalBestOrder: the first twice, and one that is not less. -/
theorem bo_vals (zs : List Int) (n m : Int) (hl : zs.length ≤ 100) : ∃ a1 a2 c1 c2 cc : Int,
    bestF (pkL zs) (pick n 45 + 1) = (a1, a2, 0) ∧ bestF (pkL zs).reverse (pick n 45 + 1) = (a1, a2, 0) ∧ bestF (pkL zs ++ [pick m 1000000]) (pick n 45 + 1) = (c1, c2, 0) ∧ cmpF a1 a2 c1 c2 = (cc, 0) ∧ cc ≤ 0 ∧ vfrac a1 a2 = true ∧ vfrac c1 c2 = true := by
  have hp := pick_bd n 45 (by omega)
  have hm := pick_bd m 1000000 (by omega)
  have hL : ∀ x ∈ pkL zs, 0 ≤ x ∧ x < 1000000 := fun x hx => pkL_mem hx
  have hM : ∀ x ∈ pkL zs ++ [pick m 1000000], 0 ≤ x ∧ x < 1000000 := fun x hx => by
    rcases List.mem_append.1 hx with h | h
    · exact hL x h
    · obtain rfl : x = pick m 1000000 := by simpa using h
      exact hm
  have hlen : (pkL zs).length = zs.length := by simp
  generalize pkL zs = L at *
  generalize pick n 45 = k at *
  generalize pick m 1000000 = p at *
  have y1 := years_of (l := L) (by omega) hL
  have y2 := years_of (l := L ++ [p]) (by simp; omega) hM
  have b1 := bestS_small (l := L) (by omega) hL (k + 1)
  have b2 := bestS_small (l := L ++ [p]) (by simp; omega) hM (k + 1)
  have e1 := mkE_small b1.1 (by omega) (show 1 ≤ k + 1 by omega) (by omega)
  have e2 := mkE_small b2.1 (by omega) (show 1 ≤ k + 1 by omega) (by omega)
  have f1 : bestF L (k + 1) = (mkN (bestS L (k + 1)) (k + 1), mkD (bestS L (k + 1)) (k + 1), 0) := by unfold bestF; rw [if_neg (by rw [y1]; simp; omega), e1]
  have f2 : bestF (L ++ [p]) (k + 1) = (mkN (bestS (L ++ [p]) (k + 1)) (k + 1), mkD (bestS (L ++ [p]) (k + 1)) (k + 1), 0) := by unfold bestF; rw [if_neg (by rw [y2]; simp; omega), e2]
  have v1 := mk_vfrac (show k + 1 ≠ 0 by omega) e1
  have v2 := mk_vfrac (show k + 1 ≠ 0 by omega) e2
  refine ⟨_, _, _, _, _, f1, ?_, f2, ?_, mk_order b1.1 (bestS_more hm.1 (k + 1)) (by omega) e1 e2, v1, v2⟩
  · rw [← f1]; exact bestF_perm (List.reverse_perm L) _
  · unfold cmpF; rw [v1, v2]; rfl
end Go.Proofs.YtlheailebbngiaaGreatDoor
/- A slice of amounts, read: amounts in the reference, validYears in the program. -/
namespace Go.Proofs.YtlheailebbngiaaGreatDoor
open Go.RowKit
/-- v is a slice of these numbers. -/
def YrAt (w : World) (v : Value) (l : List Int) : Prop :=
  l.length ≤ 1000 ∧ ∃ a cap, v = .slice a l.length cap ∧ (l.length = 0 ∨ ∃ b off, a = some ⟨b, off, none⟩ ∧ b < w.heap.size ∧ ∀ i, i < l.length → w.cell? ⟨b, off + i, none⟩ = some (.int .i64 (l.getD i 0)))
theorem YrAt.below {w w' : World} {v : Value} {l : List Int} {n : Nat} (h : YrAt w v l) (hn : w.heap.size ≤ n) (hb : Below n w w') : YrAt w' v l := by
  obtain ⟨h0, a, cap, hv, h1⟩ := h
  refine ⟨h0, a, cap, hv, h1.imp id ?_⟩
  rintro ⟨b, off, ha, hlt, hc⟩
  refine ⟨b, off, ha, Nat.lt_of_lt_of_le hlt hb.size, fun i hi => ?_⟩
  rw [hb.cell (p := ⟨b, off + i, none⟩) (Nat.lt_of_lt_of_le hlt hn)]
  exact hc i hi
theorem YrAt.grows {w w' : World} {v : Value} {l : List Int} (h : YrAt w v l) (hg : w.Grows w') : YrAt w' v l := h.below (Nat.le_refl _) hg.below
theorem YrAt.grow {w : World} {v : Value} {l : List Int} (h : YrAt w v l) (bs : Array Obj) (d : Nat) : YrAt (w.grow bs d) v l := h.grows ⟨bs, d, rfl⟩
theorem YrAt.alloc {w : World} {v : Value} {l : List Int} (h : YrAt w v l) (o : Obj) : YrAt (w.alloc o) v l := h.below (Nat.le_refl _) ((Below.refl _ _).alloc (Nat.le_refl _) _)
theorem years_any (l : List Int) : (List.range l.length).any (fun k => !decide (0 ≤ l.getD k 0 ∧ l.getD k 0 ≤ 1000000000000)) = !l.all fun x => decide (0 ≤ x ∧ x ≤ 1000000000000) := by
  induction l with
  | nil => rfl
  | cons p r ih =>
    rw [List.length_cons, List.range_succ_eq_map, List.any_cons, List.any_map, List.all_cons, Bool.not_and, ← ih]
    rfl
theorem years_bad {l : List Int} {k : Nat} (hk : k < l.length) (hb : ¬ (0 ≤ l.getD k 0 ∧ l.getD k 0 ≤ 1000000000000)) : yearsOk l = false := by
  unfold yearsOk
  have : (l.all fun x => decide (0 ≤ x ∧ x ≤ 1000000000000)) = false := by
    have h := years_any l
    rw [show (List.range l.length).any (fun k => !decide (0 ≤ l.getD k 0 ∧ l.getD k 0 ≤ 1000000000000)) = true from List.any_eq_true.2 ⟨k, List.mem_range.2 hk, by rw [decide_eq_false hb]; rfl⟩] at h
    simpa using h.symm
  rw [this, Bool.and_false]
theorem years_good {l : List Int} (hn : l.length ≤ 200) (hg : ∀ k, k < l.length → 0 ≤ l.getD k 0 ∧ l.getD k 0 ≤ 1000000000000) : yearsOk l = true := by
  unfold yearsOk
  have h := years_any l
  rw [show (List.range l.length).any (fun k => !decide (0 ≤ l.getD k 0 ∧ l.getD k 0 ≤ 1000000000000)) = false from List.any_eq_false.2 fun k hk => by rw [decide_eq_true (hg k (List.mem_range.1 hk))]; simp] at h
  rw [decide_eq_true hn, Bool.true_and]
  simpa using h.symm
def PredI (g : FuncId) (lb : Array Value) (l : List Int) (p : Nat → Bool) (w : World) : Prop :=
  ∀ k, k < l.length → ∀ w', w.Grows w' → Calls Tryz.prog g (#[.int .i64 (l.getD k 0)] ++ lb) w' fun r w'' => r = .returned (.bool (p k)) ∧ w'.Grows w''
set_option maxHeartbeats 2000000 in
theorem idxI_any (g : FuncId) (lb : Array Value) (eg : ∀ args w, (callFunc g args).run Tryz.prog w = .ok (.enter g args) w) (l : List Int) (v : Value) (p : Nat → Bool) (w : World) (h : YrAt w v l) (hp : Hid (PredI g lb l p w)) :
    Calls Tryz.prog 129 #[v, .func (.func g) #[] lb] w fun r w' => (∃ z, r = .returned (.int .i64 z) ∧ IdxE l.length p z) ∧ w.Grows w' := by
  obtain ⟨hlen, a, cap, rfl, hc⟩ := h
  have Hc := Lib.hid hc
  clear hc
  go_enter Tryz.func129, Tryz.ntmps129
  go_wp2_with fail
  go_loopw [5, 8] (fun _ v8 wr => ∃ k : Nat, k ≤ l.length ∧ v8 = .int .i64 k ∧ Hid (∀ j, j < k → p j = false) ∧ w.Grows wr) (fun _ v8 _ => l.length - (intOf v8).toNat)
  case atStart => exact ⟨0, by omega, rfl, Lib.hid (fun j hj => by omega), .refl _⟩
  case round =>
    obtain ⟨k, hk, rfl, hno, hgr⟩ := hrel
    have HG := Lib.hid hgr
    by_cases hlt2 : k < l.length
    · rcases Hc.out with h0 | ⟨b, off, rfl, hbw, hx⟩
      · omega
      · have y0 : wr.cell? ⟨b, off + k, none⟩ = some (.int .i64 (l.getD k 0)) := by rw [hgr.below.cell (p := ⟨b, off + k, none⟩) hbw]; exact hx k hlt2
        clear hx
        have d1 : (k : Int) < (l.length : Int) := by omega
        have hcall := hp.out k hlt2 _ hgr
        generalize l.getD k 0 = dk at *
        have HLT := Lib.hid hlt2
        clear hgr
        cases hq : p k with
        | true =>
          rw [hq] at hcall
          have HQ := Lib.hid hq
          clear hq
          have HCL := Lib.hid hcall
          clear hcall
          go_wp2_with (go_at_fn g; refine HCL.out.mono ?_; rintro e' w' ⟨rfl, hg2⟩; have HG2 := Lib.hid hg2; clear hg2)
          go_returns
          exact ⟨⟨_, rfl, .inr ⟨k, HLT.out, rfl, HQ.out⟩⟩, World.Grows.trans HG.out HG2.out⟩
        | false =>
          rw [hq] at hcall
          have HQ := Lib.hid hq
          clear hq
          have HCL := Lib.hid hcall
          clear hcall
          go_wp2_with (go_at_fn g; refine HCL.out.mono ?_; rintro e' w' ⟨rfl, hg2⟩; have HG2 := Lib.hid hg2; clear hg2)
          go_roundw
          case rel => exact ⟨k + 1, by omega, by go_num, Lib.hid (fun j hj => by
            by_cases ej : j = k
            · subst ej; exact HQ.out
            · exact hno.out j (by omega)), World.Grows.trans HG.out HG2.out⟩
          case measure => simp [intOf]; omega
    · obtain rfl : k = l.length := by omega
      clear hgr
      go_wp2_with fail
      go_returns
      exact ⟨⟨_, rfl, .inl ⟨rfl, hno.out⟩⟩, HG.out⟩
set_option maxHeartbeats 2000000 in
theorem containsI_any (g : FuncId) (lb : Array Value) (eg : ∀ args w, (callFunc g args).run Tryz.prog w = .ok (.enter g args) w) (l : List Int) (v : Value) (p : Nat → Bool) (w : World) (h : YrAt w v l) (hp : Hid (PredI g lb l p w)) :
    Calls Tryz.prog 92 #[v, .func (.func g) #[] lb] w fun r w' => r = .returned (.bool ((List.range l.length).any p)) ∧ w.Grows w' := by
  have HI := Lib.hid (idxI_any g lb eg l v p w h hp)
  obtain ⟨-, a, cap, rfl, -⟩ := h
  clear hp
  generalize hX : (List.range l.length).any p = X
  have HX := Lib.hid hX
  clear hX
  go_enter Tryz.func92, Tryz.ntmps92
  go_wp2_with (go_at_call 129; refine HI.out.mono ?_; rintro e' w' ⟨⟨z, rfl, hz⟩, bs2, d2, rfl⟩; have HZ := Lib.hid hz.any; clear hz)
  go_returns
  exact ⟨ret_bool (by rw [← HX.out, ← HZ.out]), .of_below (by (exact belB))⟩
theorem badY_clos : ∀ args w, (callFunc 93 args).run Tryz.prog w = .ok (.enter 93 args) w := enters_of Tryz.func93 (by kernel_rfl) rfl
set_option maxHeartbeats 1000000 in
theorem badY_one (d : Int) (w : World) : Calls Tryz.prog 93 #[.int .i64 d] w fun r w' => r = .returned (.bool (!decide (0 ≤ d ∧ d ≤ 1000000000000))) ∧ w.Grows w' := by
  by_cases h1 : d < 0
  · go_enter Tryz.func93, Tryz.ntmps93
    go_wp2
    go_returns
    exact ⟨ret_bool (by first | rfl | (simp; done) | (simp; omega)), .of_below (by (exact belB))⟩
  · by_cases h2 : d > 1000000000000
    · go_enter Tryz.func93, Tryz.ntmps93
      go_wp2
      go_returns
      exact ⟨ret_bool (by first | rfl | (simp; done) | (simp; omega)), .of_below (by (exact belB))⟩
    · go_enter Tryz.func93, Tryz.ntmps93
      go_wp2
      go_returns
      exact ⟨ret_bool (by first | rfl | (simp; done) | (simp; omega)), .of_below (by (exact belB))⟩
set_option maxHeartbeats 2000000 in
theorem validYears_any (l : List Int) (v : Value) (w : World) (h : YrAt w v l) : Calls Tryz.prog 54 #[v] w fun r w' => r = .returned (.bool (yearsOk l)) ∧ w.Grows w' := by
  have HV := Lib.hid h
  have HCB : Hid (∀ w', w.Grows w' → Calls Tryz.prog 92 #[v, .func (.func 93) #[] #[]] w' fun r w'' => r = .returned (.bool (!l.all fun x => decide (0 ≤ x ∧ x ≤ 1000000000000))) ∧ w'.Grows w'') :=
    Lib.hid (fun w' hg => by
      have := containsI_any 93 #[] badY_clos l v (fun k => !decide (0 ≤ l.getD k 0 ∧ l.getD k 0 ≤ 1000000000000)) w' (HV.out.grows hg) (Lib.hid (fun k hk w2 h2 => badY_one _ w2))
      rw [years_any] at this
      exact this)
  obtain ⟨h1000, a, cap, rfl, -⟩ := h
  have HF : Hid (yearsOk l = (decide (l.length ≤ 200) && l.all fun x => decide (0 ≤ x ∧ x ≤ 1000000000000))) := Lib.hid rfl
  generalize (l.all fun x => decide (0 ≤ x ∧ x ≤ 1000000000000)) = Q at HCB HF
  by_cases hn : (l.length : Int) ≤ 200
  · cases Q
    all_goals
      go_enter Tryz.func54, Tryz.ntmps54
      go_wp2_with (go_at_call 92; refine (HCB.out _ (.of_below (by (exact belB)))).mono ?_; rintro e' w' ⟨rfl, bs2, d2, rfl⟩)
      go_returns
      exact ⟨ret_bool (by rw [HF.out]; simp; try omega), .of_below (by (exact belB))⟩
  · go_enter Tryz.func54, Tryz.ntmps54
    go_wp2_with fail
    go_returns
    exact ⟨ret_bool (by rw [HF.out, decide_eq_false (by omega)]; rfl), .of_below (by (exact belB))⟩
set_option maxHeartbeats 2000000 in
theorem amounts_any (l : List Int) (v : Value) (w : World) (h : YrAt w v l) : Calls Tryz.prog 56 #[v] w fun r w' => r = .returned (.bool (yearsOk l)) ∧ w = w' := by
  obtain ⟨h1000, a, cap, rfl, hc⟩ := h
  have Hc := Lib.hid hc
  clear hc
  have HBAD := Lib.hid (fun k hk hb => years_bad (l := l) (k := k) hk hb)
  have HGOOD := Lib.hid (fun hn hg => years_good (l := l) hn hg)
  by_cases hn : (l.length : Int) ≤ 200
  · go_enter Tryz.func56, Tryz.ntmps56
    go_wp2_with fail
    go_loopw [3] (fun v3 wr => ∃ k : Nat, k ≤ l.length ∧ v3 = .int .i64 k ∧ Hid (∀ j, j < k → 0 ≤ l.getD j 0 ∧ l.getD j 0 ≤ 1000000000000) ∧ w = wr) (fun v3 _ => l.length - (intOf v3).toNat)
    case atStart => exact ⟨0, by omega, rfl, Lib.hid (fun j hj => by omega), rfl⟩
    case round =>
      obtain ⟨k, hk, rfl, hno, rfl⟩ := hrel
      by_cases hlt : k < l.length
      · rcases Hc.out with h0 | ⟨b, off, rfl, hbw, hx⟩
        · omega
        have x0 := hx k hlt
        have d1 : (k : Int) < (l.length : Int) := by omega
        have HKL := Lib.hid hlt
        clear hx hlt
        obtain ⟨dk, hdk⟩ : ∃ dk, l.getD k 0 = dk := ⟨_, rfl⟩
        rw [hdk] at x0
        have HDK := Lib.hid hdk
        clear hdk
        by_cases h1 : dk < 0
        · go_wp2_with fail
          go_returns
          exact ⟨ret_bool (HBAD.out k HKL.out (by rw [HDK.out]; omega)).symm, (by first | rfl | trivial)⟩
        · by_cases h2 : dk > 1000000000000
          · go_wp2_with fail
            go_returns
            exact ⟨ret_bool (HBAD.out k HKL.out (by rw [HDK.out]; omega)).symm, (by first | rfl | trivial)⟩
          · go_wp2_with fail
            go_roundw
            case rel => exact ⟨k + 1, HKL.out, by go_num, Lib.hid (fun j hj => by
              by_cases ej : j = k
              · subst ej; rw [HDK.out]; omega
              · exact hno.out j (by omega)), (by first | rfl | trivial)⟩
            case measure => simp [intOf]; have := HKL.out; omega
      · obtain rfl : k = l.length := by omega
        go_wp2_with fail
        go_returns
        exact ⟨ret_bool (HGOOD.out (by omega) hno.out).symm, (by first | rfl | trivial)⟩
  · go_enter Tryz.func56, Tryz.ntmps56
    go_wp2_with fail
    go_returns
    exact ⟨ret_bool (by unfold yearsOk; rw [decide_eq_false (by omega)]; rfl), (by first | rfl | trivial)⟩
end Go.Proofs.YtlheailebbngiaaGreatDoor
/- Contracts of the library at this dump, out of its shelf. -/
namespace Go.Proofs
open Go.Shelf
def Tryz.lays189_ren : Go.Shelf.Ren := ⟨fun | 189 => 97 | 125 => 132 | 257 => 131 | 128 => 177 | 129 => 178 | 294 => 168 | 295 => 169 | 296 => 170 | 297 => 171 | 298 => 172 | 299 => 173 | 216 => 174 | 300 => 175 | 301 => 176 | 328 => 198 | 329 => 199 | 330 => 200 | 331 => 201 | 332 => 202 | 215 => 203 | 343 => 210 | n => n, fun | 28 => 24 | 3 => 3 | 46 => 193 | 0 => 0 | 51 => 222 | 53 => 155 | 4 => 4 | 183 => 216 | 182 => 215 | 131 => 103 | 5 => 5 | 9 => 9 | 218 => 239 | 222 => 243 | 228 => 246 | 229 => 247 | n => n, fun | n => n⟩
theorem Tryz.lays189 : Go.Proofs.Lays.n189 Tryz.prog Tryz.lays189_ren := {
  mixed := by kernel_rfl
  f125 := Tryz.func132.trans (congrArg some (by kernel_rfl))
  f128 := Tryz.func177.trans (congrArg some (by kernel_rfl))
  f129 := Tryz.func178.trans (congrArg some (by kernel_rfl))
  f189 := Tryz.func97.trans (congrArg some (by kernel_rfl))
  f215 := Tryz.func203.trans (congrArg some (by kernel_rfl))
  f216 := Tryz.func174.trans (congrArg some (by kernel_rfl))
  f257 := Tryz.func131.trans (congrArg some (by kernel_rfl))
  f294 := Tryz.func168.trans (congrArg some (by kernel_rfl))
  f295 := Tryz.func169.trans (congrArg some (by kernel_rfl))
  f296 := Tryz.func170.trans (congrArg some (by kernel_rfl))
  f297 := Tryz.func171.trans (congrArg some (by kernel_rfl))
  f298 := Tryz.func172.trans (congrArg some (by kernel_rfl))
  f299 := Tryz.func173.trans (congrArg some (by kernel_rfl))
  f300 := Tryz.func175.trans (congrArg some (by kernel_rfl))
  f301 := Tryz.func176.trans (congrArg some (by kernel_rfl))
  f328 := Tryz.func198.trans (congrArg some (by kernel_rfl))
  f329 := Tryz.func199.trans (congrArg some (by kernel_rfl))
  f330 := Tryz.func200.trans (congrArg some (by kernel_rfl))
  f331 := Tryz.func201.trans (congrArg some (by kernel_rfl))
  f332 := Tryz.func202.trans (congrArg some (by kernel_rfl))
  f343 := Tryz.func210.trans (congrArg some (by kernel_rfl))
  t0 := Tryz.underlying0
  a0 := Tryz.isAgg0
  z0 := Tryz.sizeOf0
  v0 := Tryz.zeroValue0
  t3 := Tryz.underlying3
  a3 := Tryz.isAgg3
  z3 := Tryz.sizeOf3
  v3 := Tryz.zeroValue3
  t4 := Tryz.underlying4
  a4 := Tryz.isAgg4
  z4 := Tryz.sizeOf4
  v4 := Tryz.zeroValue4
  t5 := Tryz.underlying5
  a5 := Tryz.isAgg5
  z5 := Tryz.sizeOf5
  v5 := Tryz.zeroValue5
  t9 := Tryz.underlying9
  a9 := Tryz.isAgg9
  z9 := Tryz.sizeOf9
  v9 := Tryz.zeroValue9
  t28 := Tryz.underlying24
  a28 := Tryz.isAgg24
  z28 := Tryz.sizeOf24
  v28 := Tryz.zeroValue24
  t46 := Tryz.underlying193
  a46 := Tryz.isAgg193
  z46 := Tryz.sizeOf193
  v46 := Tryz.zeroValue193
  t51 := Tryz.underlying222
  a51 := Tryz.isAgg222
  z51 := Tryz.sizeOf222
  v51 := Tryz.zeroValue222
  t53 := Tryz.underlying155
  a53 := Tryz.isAgg155
  z53 := Tryz.sizeOf155
  v53 := Tryz.zeroValue155
  t131 := Tryz.underlying103
  a131 := Tryz.isAgg103
  z131 := Tryz.sizeOf103
  v131 := Tryz.zeroValue103
  t182 := Tryz.underlying215
  a182 := Tryz.isAgg215
  z182 := Tryz.sizeOf215
  v182 := Tryz.zeroValue215
  t183 := Tryz.underlying216
  a183 := Tryz.isAgg216
  z183 := Tryz.sizeOf216
  v183 := Tryz.zeroValue216
  t218 := Tryz.underlying239
  a218 := Tryz.isAgg239
  z218 := Tryz.sizeOf239
  v218 := Tryz.zeroValue239
  t222 := Tryz.underlying243
  a222 := Tryz.isAgg243
  z222 := Tryz.sizeOf243
  v222 := Tryz.zeroValue243
  t228 := Tryz.underlying246
  a228 := Tryz.isAgg246
  z228 := Tryz.sizeOf246
  v228 := Tryz.zeroValue246
  t229 := Tryz.underlying247
  a229 := Tryz.isAgg247
  z229 := Tryz.sizeOf247
  v229 := Tryz.zeroValue247 }
open Go.Sort Go.RowKit in
theorem Tryz.slices_Sort_int (blk off cap : Nat) (zs : List Int) (w : World) (hH : Holds (Value.int .i64) w blk off zs.toArray) (hblk : blk < w.heap.size) (hsz : zs.length < 4611686018427387904) :
    Calls Tryz.prog 97 #[.slice (some ⟨blk, off, none⟩) zs.length cap] w fun e w' =>
      e = .returned (.tuple #[]) ∧ ∃ n os, w' = grow (putRow (Value.int .i64) (Sort.ahead w n) blk off (zs.mergeSort fun x y => decide (x ≤ y)).toArray) os := Any.slices_Sort_int Tryz.lays189 blk off cap zs w hH hblk hsz
def Tryz.lays112_ren : Go.Shelf.Ren := ⟨fun | 112 => 75 | n => n, fun | 28 => 24 | 3 => 3 | 4 => 4 | 0 => 0 | n => n, fun | n => n⟩
theorem Tryz.lays112 : Go.Proofs.Lays.n112 Tryz.prog Tryz.lays112_ren := {
  mixed := by kernel_rfl
  f112 := Tryz.func75.trans (congrArg some (by kernel_rfl))
  t0 := Tryz.underlying0
  a0 := Tryz.isAgg0
  z0 := Tryz.sizeOf0
  v0 := Tryz.zeroValue0
  t3 := Tryz.underlying3
  a3 := Tryz.isAgg3
  z3 := Tryz.sizeOf3
  v3 := Tryz.zeroValue3
  t4 := Tryz.underlying4
  a4 := Tryz.isAgg4
  z4 := Tryz.sizeOf4
  v4 := Tryz.zeroValue4
  t28 := Tryz.underlying24
  a28 := Tryz.isAgg24
  z28 := Tryz.sizeOf24
  v28 := Tryz.zeroValue24 }
open Go.RowKit Go.Lib Go.Sort in
theorem Tryz.slices_Reverse_int_arr (blk off cap : Nat) (d : Array Int) (w : World) (hH : Holds encI w blk off d) (hsz : d.size ≤ 9223372036854775807) :
    Calls Tryz.prog 75 #[.slice (some ⟨blk, off, none⟩) d.size cap] w fun e w' => e = .returned (.tuple #[]) ∧ ∃ n, w' = putRow encI (Sort.ahead w n) blk off d.reverse := Any.slices_Reverse_int_arr Tryz.lays112 blk off cap d w hH hsz
open Go.RowKit Go.Lib Go.Sort in
theorem Tryz.slices_Reverse_int (blk off cap : Nat) (zs : List Int) (w : World) (hH : Holds (Value.int .i64) w blk off zs.toArray) (hsz : zs.length ≤ 9223372036854775807) :
    Calls Tryz.prog 75 #[.slice (some ⟨blk, off, none⟩) zs.length cap] w fun e w' => e = .returned (.tuple #[]) ∧ ∃ n, w' = putRow (Value.int .i64) (Sort.ahead w n) blk off zs.reverse.toArray := Any.slices_Reverse_int Tryz.lays112 blk off cap zs w hH hsz
open Go.RowKit Go.Lib Go.Sort in
theorem Tryz.slices_Reverse_int_empty (a : Option Addr) (cap : Nat) (w : World) :
    Calls Tryz.prog 75 #[.slice a 0 cap] w fun e w' => e = .returned (.tuple #[]) ∧ w' = w := Any.slices_Reverse_int_empty Tryz.lays112 a cap w
open Go.RowKit Go.Lib Go.Sort in
theorem Tryz.slices_Reverse_int_cells (b off n c : Nat) (zs : List Int) (w : World) (hz : n ≤ zs.length) (hbig : n ≤ 9223372036854775807) (hc : ∀ j, j < zs.length → w.cell? ⟨b, off + j, none⟩ = some (.int .i64 (zs.getD j 0))) (hf : ∀ j, j < n → w.frozen? ⟨b, off + j, none⟩ = false) :
    Calls Tryz.prog 75 #[.slice (some ⟨b, off, none⟩) n c] w fun e w' => e = .returned (.tuple #[]) ∧ ∃ q, w' = (w.drewN q).setCells b off ((zs.take n).reverse.map (Value.int .i64)) := Any.slices_Reverse_int_cells Tryz.lays112 b off n c zs w hz hbig hc hf
open Go.RowKit Go.Sort in
theorem Tryz.slices_Sort_int_none (p : Option Addr) (cap : Nat) (w : World) :
    Calls Tryz.prog 97 #[.slice p 0 cap] w fun e w' => e = .returned (.tuple #[]) ∧ w' = w := Any.slices_Sort_int_none Tryz.lays189 p cap w
end Go.Proofs
/- slices.Values over a slice of ints: what comes, and in what order; slices.Collect and slices.Sorted of it. -/
namespace Go.Proofs.YtlheailebbngiaaGreatDoor
open Go.RowKit Go.Shelf Go.Sort Go.Lib
attribute [local go_sem] Oper.semAt_some
/-- v is a slice of these ints in a block below n₀. -/
def YrLies (n₀ : Nat) (W : World) (v : Value) (l : List Int) : Prop :=
  l.length ≤ 1000 ∧ ∃ a cap, v = .slice a l.length cap ∧ (l.length = 0 ∨ ∃ b off, a = some ⟨b, off, none⟩ ∧ b < n₀ ∧ ∀ i, i < l.length → W.cell? ⟨b, off + i, none⟩ = some (.int .i64 (l.getD i 0)))
theorem YrLies.below {n₀ : Nat} {W W' : World} {v : Value} {l : List Int} (h : YrLies n₀ W v l) (hb : Below n₀ W W') : YrLies n₀ W' v l := by
  obtain ⟨h0, a, cap, hv, h1⟩ := h
  refine ⟨h0, a, cap, hv, h1.imp id ?_⟩
  rintro ⟨b, off, ha, hlt, hc⟩
  exact ⟨b, off, ha, hlt, fun i hi => (hb.cell (p := ⟨b, off + i, none⟩) hlt).trans (hc i hi)⟩
theorem YrAt.lies {w : World} {v : Value} {l : List Int} (h : YrAt w v l) : YrLies w.heap.size w v l := h
theorem take_snocI (l : List Int) (k : Nat) (hk : k < l.length) : l.take (k + 1) = l.take k ++ [l.getD k 0] := by
  rw [List.take_succ_eq_append_getElem hk, List.getD_eq_getElem?_getD, List.getElem?_eq_getElem hk]; rfl
set_option maxRecDepth 100000 in
set_option maxHeartbeats 4000000 in
theorem valI1_in (F : Fence) (n : Nat) (hf : F.fn 98) (hro : F.round = none) (hn : 1 ≤ n) (l Bs n₀ : Nat) (x : List Int) (v : Value) (J Jx : List Int → World → Prop)
    (hY : ∀ pre (i : Int) W, J pre W → pre.length < x.length → YieldAt F (n - 1) Tryz.prog l #[.int .i64 i] W fun e W' =>
      (e = .returned (.bool true) ∧ J (pre ++ [i]) W' ∧ Below n₀ W W') ∨ (e = .returned (.bool false) ∧ Jx (pre ++ [i]) W'))
    (W : World) (hBs : W.cell? ⟨Bs, 0, none⟩ = some v) (hBl : Bs < n₀) (hL : YrLies n₀ W v x) (h0 : J [] W) :
    CallsIn F n Tryz.prog 98 #[.func (.yield l) #[] #[], .pointer (some ⟨Bs, 0, none⟩)] W fun e W' => (∃ v, e = .returned v) ∧
      ((∃ ys, ys = x ∧ J ys W') ∨ (∃ pre, (∃ k, k < x.length ∧ pre = x.take (k + 1)) ∧ Jx pre W')) := by
  have HL := Lib.hid hL
  obtain ⟨h1000, a, cap, rfl, -⟩ := hL
  refine callsIn_of_wp Tryz.func98 rfl hf ?_ hro
  simp only [Tryz.ntmps98, List.size_toArray, List.length_cons, List.length_nil, Nat.reduceAdd, Nat.reduceSub, Array.replicate_succ, Array.replicate_zero, List.push_toArray, List.append_toArray, List.nil_append, List.cons_append]
  gi_wp2
  gi_loopw [7] (fun vi wr => ∃ k : Nat, k ≤ x.length ∧ vi = .int .i64 k ∧ J (x.take k) wr ∧ Below n₀ W wr) (fun vi _ => x.length - (intOf vi).toNat)
  case atStart => exact ⟨0, Nat.zero_le _, rfl, h0, Below.refl _ _⟩
  case round =>
    obtain ⟨k, hk, rfl, hJs, hnx⟩ := hrel
    by_cases hlt : k < x.length
    · have hLr := HL.out.below hnx
      obtain ⟨-, a', cap', hv, hx⟩ := hLr
      simp only [Value.slice.injEq, true_and] at hv
      obtain ⟨rfl, rfl⟩ := hv
      rcases hx with hx | ⟨b, off, rfl, hb, hx⟩
      · omega
      have q0 := hx k hlt
      obtain ⟨fn, tmps, assign, body, hy, hR⟩ := hY _ (x.getD k 0) wr hJs (by rw [List.length_take]; omega)
      have HS := Lib.hid (take_snocI x k hlt)
      generalize x.getD k 0 = z0 at *
      have d1 : (k : Int) < (x.length : Int) := by omega
      have hlen1 : (x.length : Int) ≤ 1000 := by omega
      clear hx hBs h0
      gi_wp2
      refine hR.mono ?_
      rintro e W3 (⟨rfl, hJ3, hk3⟩ | ⟨rfl, hJx3⟩)
      · gi_wp2
        go_roundw
        case rel => exact ⟨k + 1, by omega, by go_num, by rw [HS.out]; exact hJ3, hnx.trans hk3⟩
        case measure => simp [intOf]; omega
      · gi_wp2
        refine bodyPost_ret (results_none rfl _ _ _) rfl ?_
        exact ⟨⟨_, rfl⟩, .inr ⟨_, ⟨k, hlt, HS.out.symm⟩, hJx3⟩⟩
    · obtain rfl : k = x.length := by omega
      gi_wp2
      go_end0
      exact ⟨⟨_, rfl⟩, .inl ⟨_, List.take_length, hJs⟩⟩
set_option maxHeartbeats 1000000 in
theorem valI_in (F : Fence) (n : Nat) (hf : F.fn 58) (hro : F.round = none) (a : Option Addr) (len cap : Nat) (w : World) :
    CallsIn F n Tryz.prog 58 #[.slice a len cap] w fun e w' => e = .returned (.func (.func 98) #[] #[.pointer (some ⟨w.heap.size, 0, none⟩)]) ∧ w' = w.alloc (.cells #[.slice a len cap] 24) := by
  refine callsIn_of_wp Tryz.func58 rfl hf ?_ hro
  simp only [Tryz.ntmps58, List.size_toArray, List.length_cons, List.length_nil, Nat.reduceAdd, Nat.reduceSub, Array.replicate_succ, Array.replicate_zero, List.push_toArray, List.append_toArray, List.nil_append, List.cons_append]
  gi_wp2
  go_ret
  exact ⟨rfl, rfl⟩
theorem valI_stops (F : Fence) (n : Nat) (hf : F.fn 98) (hro : F.round = none) (hn : 1 ≤ n) (Bs n₀ : Nat) (v : Value) (x : List Int) (w : World) (hBs : Bs < n₀) (hn₀ : n₀ ≤ w.heap.size)
    (hc : w.cell? ⟨Bs, 0, none⟩ = some v) (hL : YrLies n₀ w v x) :
    SeqStopsK F n Tryz.prog 98 #[.pointer (some ⟨Bs, 0, none⟩)] (fun i : Int => #[Value.int .i64 i]) (Below n₀) (fun ys => ys = x) (fun pre => ∃ k, k < x.length ∧ pre = x.take (k + 1)) x.length w := fun l J Jx W hW _ _ hY h0 =>
  valI1_in F n hf hro hn l Bs n₀ x v J Jx hY W ((hW.cell (p := ⟨Bs, 0, none⟩) (by show Bs < w.heap.size; omega)).trans hc) hBs (hL.below (hW.mono hn₀)) h0
theorem infoY : (Tryz.prog.info? 3).map (fun i => (i.zero, i.size, i.bytes)) = some (some (.int .i64 0), 1, 8) := by kernel_rfl
set_option maxRecDepth 100000 in
set_option maxHeartbeats 4000000 in
theorem appI_in (x : List Int) (v : Value) (Bs : Nat) (w : World) (hb : Bs < w.heap.size) (hc0 : w.cell? ⟨Bs, 0, none⟩ = some v) (hL : YrAt w v x) :
    CallsIn Fence.wide 5 Tryz.prog 130 #[.slice none 0 0, .func (.func 98) #[] #[.pointer (some ⟨Bs, 0, none⟩)]] w fun e W' =>
      ∃ v', e = .returned v' ∧ W'.ownsRow w.heap.size 3 1 v' x.length (x.map (Value.int .i64)) ∧ Below w.heap.size w W' := by
  obtain ⟨i0, hi, hz0, hz1, hz2⟩ := info_parts infoY
  have h1000 := hL.1
  refine callsIn_of_wp_marks Tryz.func130 rfl trivial ?_ rfl
  simp only [Tryz.ntmps130, List.size_toArray, List.length_cons, List.length_nil, Nat.reduceAdd, Nat.reduceSub, Array.replicate_succ, Array.replicate_zero, List.push_toArray, List.append_toArray, List.nil_append, List.cons_append]
  gi_wp2
  have bO := Boxed.new w 24 (.slice none 0 0)
  have hB0 : Below w.heap.size w (w.alloc (.cells #[.slice none 0 0] 24)) := (Below.refl _ w).alloc (Nat.le_refl _) _
  refine wpIn_rangeFunc_ownG (F := Fence.wide) rfl (by omega) (gf := 98) (lb := #[.pointer (some ⟨Bs, 0, none⟩)]) rfl trivial (enters_of Tryz.func98 (by kernel_rfl) rfl)
    (valI_stops Fence.wide 4 trivial rfl (by omega) Bs w.heap.size v x _ hb (by simp) ((hB0.cell (p := ⟨Bs, 0, none⟩) hb).trans hc0) (hL.lies.below hB0)) belowK_t (belowK_b (by simp)) (Below.refl _ _) (fun _ => rfl)
    (fun pre W => (∃ v, Boxed W w.heap.size 24 v ∧ W.ownsRow w.heap.size 3 1 v pre.length (pre.map (Value.int .i64)) ∧ True) ∧ Below w.heap.size w W)
    (fun _ _ _ => False)
    (OwnFrom.and (Own.from (holdsRow_own w.heap.size w.heap.size 24 3 1 (fun pre : List Int => pre.length) (fun pre => pre.map (Value.int .i64)) (fun _ _ => True)) _) (ownFrom_below (Nat.le_refl _) (by simp)))
    (fun _ _ _ _ _ hs _ _ => hs)
    ⟨⟨_, bO, World.ownsRow_nil _ _ _ _, trivial⟩, hB0⟩
    (fun z => { tmps := #[.slice none 0 0, .func (.func 98) #[] #[.pointer (some ⟨Bs, 0, none⟩)], .pointer (some ⟨w.heap.size, 0, none⟩), undef, .slice none 0 0, .int .i64 z, .func (.func 98) #[] #[.pointer (some ⟨Bs, 0, none⟩)], .int .i64 z, undef, undef, undef, undef, undef], defers := [] }) ?assign ?body ?done ?stop
  case assign =>
    intro l z W K hK
    gi_wp2
    exact hK
  case body =>
    rintro l pre z W ⟨⟨v2, hv, hrow, -⟩, hB⟩ hlt
    have hc := hv.cell
    gi_wp2_with (gi_at_builtin; refine wpListIn_append_own _ rfl _ _ 24 rfl w.heap.size 3 i0 (.int .i64 0) 1 8 Tryz.underlying24 hi hz0 hz1 hz2 rfl (by decide) _ _ _ rfl (hrow.alloc _) ⟨W.heap.size, 0, none⟩ 1 1 [.int .i64 z] rfl rfl (cell_one_new _ _ _) (by simp [Value.oneCell']) (by unfold maxLen; omega) (by omega) (by have := hB.size; simp; omega) ?_; intro v' w1 hown' hgrow _; obtain ⟨g', cap', rfl⟩ := ownsRow_succ hown'; obtain ⟨hv1, hv2, hr2, hk2, hb2⟩ := hv.appended (by decide) hrow hB.size (Nat.le_refl _) hown' hgrow; have hc1 := hv1.cell; have hf1 := hv1.frozen)
    exact ⟨hk2.from _, hb2, ⟨_, hv2, by simpa using hr2, trivial⟩, hB.trans hb2⟩
  case done =>
    rintro D ys W hD rfl ⟨⟨v2, hv, hrow, -⟩, hB⟩ hK
    have hc := hv.cell
    gi_wp2
    refine ⟨by simp, .inl ⟨_, _, rfl, run_takeDeferred hK, ?_⟩⟩
    exact ⟨_, results_tmp rfl _ _ _, v2, rfl, ownsRow_putObj hrow _ hK rfl, hB.trans (belowK_b (w := w) (Nat.le_refl _) W D _ _ (by simp at hD; omega) hK rfl rfl)⟩
  case stop =>
    rintro D c pre W _ _ h _
    exact h.elim
theorem ownsRow_unpackY {w : World} {base g n cap : Nat} {e : TypeId} {zs : List Int} (h : w.ownsRow base e 1 (.slice (some ⟨g, 0, none⟩) n cap) n (zs.map (Value.int .i64))) :
    ∃ cur, zs.length = n ∧ base ≤ g ∧ w.heap[g]? = some (.cells cur e (0, 0)) ∧ n ≤ cap ∧ cap ≤ maxLen ∧ cur.size = cap * 1 ∧ cur.toList.take n = zs.map (Value.int .i64) := by
  obtain ⟨h0, h1 | ⟨g', cap', cur, hv, hb, hg, h2, h3, h4, h5⟩⟩ := h
  · cases h1.1
  · simp only [Value.slice.injEq, Option.some.injEq, Addr.mk.injEq, and_true, true_and] at hv
    obtain ⟨rfl, rfl⟩ := hv
    exact ⟨cur, by simpa using h0, hb, hg, h2, h3, h4, by simpa using h5⟩
theorem sort_rowY {base g cap : Nat} {zs : List Int} {w : World} (h : w.ownsRow base 3 1 (.slice (some ⟨g, 0, none⟩) zs.length cap) zs.length (zs.map (Value.int .i64))) (hl : zs.length ≤ 1000) :
    Calls Tryz.prog 97 #[.slice (some ⟨g, 0, none⟩) zs.length cap] w fun e w' => e = .returned (.tuple #[]) ∧ w.grownBy w' (some g) ∧
      w'.ownsRow base 3 1 (.slice (some ⟨g, 0, none⟩) zs.length cap) zs.length ((zs.mergeSort fun x y => decide (x ≤ y)).map (Value.int .i64)) := by
  obtain ⟨cur, -, hb, hg, h2, h3, h4, h5⟩ := ownsRow_unpackY h
  refine (Tryz.slices_Sort_int g 0 cap zs w (holds_of_blockI hg h5) (Array.getElem?_eq_some_iff.1 hg).1 (by omega)).mono ?_
  rintro e w' ⟨rfl, n, os, rfl⟩
  exact ⟨rfl, grownBy_sortedI _, ownsRow_sortedI (by simp) hb hg h2 h3 h4⟩
end Go.Proofs.YtlheailebbngiaaGreatDoor
/- slices.Sorted over slices.Values of a slice of ints. -/
namespace Go.Proofs.YtlheailebbngiaaGreatDoor
open Go.RowKit Go.Sort Go.Lib
theorem YrAt.of_row {w : World} {base : Nat} {v : Value} {l : List Int} (h : w.ownsRow base 3 1 v l.length (l.map (Value.int .i64))) (hl : l.length ≤ 1000) : YrAt w v l := by
  obtain ⟨-, ⟨rfl, h0⟩ | ⟨g, cap, cur, rfl, hb, hg, h2, h3, h4, h5⟩⟩ := id h
  · exact ⟨by omega, none, 0, by rw [h0], .inl h0⟩
  · refine ⟨by omega, _, cap, rfl, .inr ⟨g, 0, rfl, (Array.getElem?_eq_some_iff.1 hg).1, fun i hi => ?_⟩⟩
    rw [Nat.zero_add, h.cellAt i (by omega), List.getElem?_map, List.getElem?_eq_getElem hi, List.getD_eq_getElem?_getD, List.getElem?_eq_getElem hi]
    rfl
/-- What slices.Sorted gives: a sorted slice of a permutation, the capacity at least the length. -/
def SrtPost (x : List Int) (w : World) (e : Ending) (w' : World) : Prop := ∃ (a : Option Addr) (cap : Nat) (ss : List Int), e = .returned (.slice a ss.length cap) ∧ ss.length ≤ cap ∧ ss.Perm x ∧ ss.Pairwise (· ≤ ·) ∧ YrAt w' (.slice a ss.length cap) ss ∧ w.Grows w'
def ColPost (x : List Int) (w : World) (e : Ending) (w' : World) : Prop := ∃ v', e = .returned v' ∧ w'.ownsRow w.heap.size 3 1 v' x.length (x.map (Value.int .i64)) ∧ Below w.heap.size w w'
set_option maxHeartbeats 1000000 in
theorem collect_any (x : List Int) (v : Value) (Bs : Nat) (w : World) (hb : Bs < w.heap.size) (hc0 : w.cell? ⟨Bs, 0, none⟩ = some v) (hL : YrAt w v x) :
    Calls Tryz.prog 96 #[.func (.func 98) #[] #[.pointer (some ⟨Bs, 0, none⟩)]] w (ColPost x w) := by
  have HA := Lib.hid (callsIn_wide.1 (appI_in x v Bs w hb hc0 hL))
  clear hc0 hL
  go_enter Tryz.func96, Tryz.ntmps96
  go_wp2_with (go_at_call 130; refine HA.out.mono ?_; rintro e' w' ⟨v', rfl, hown, hbel⟩)
  go_returns
  exact ⟨_, rfl, hown, hbel⟩
theorem sort_pair (l : List Int) : (l.mergeSort fun x y => decide (x ≤ y)).Pairwise (· ≤ ·) := by
  have := List.pairwise_mergeSort (le := fun x y : Int => decide (x ≤ y)) (by intro a b c h1 h2; simp at *; omega) (by intro a b; simp; omega) l
  exact this.imp fun h => by simpa using h
theorem below_row {w w1 w2 : World} {g : Nat} (h : Below w.heap.size w w1) (hg : w1.grownBy w2 (some g)) (hle : w.heap.size ≤ g) : Below w.heap.size w w2 := h.grown hg h.size (fun k hk => by cases hk; exact hle)
set_option maxHeartbeats 2000000 in
theorem sorted_any (x : List Int) (v : Value) (Bs : Nat) (w : World) (hb : Bs < w.heap.size) (hc0 : w.cell? ⟨Bs, 0, none⟩ = some v) (hL : YrAt w v x) :
    Calls Tryz.prog 57 #[.func (.func 98) #[] #[.pointer (some ⟨Bs, 0, none⟩)]] w (SrtPost x w) := by
  have HC := Lib.hid (collect_any x v Bs w hb hc0 hL)
  have h1000 := hL.1
  clear hc0 hL
  go_enter Tryz.func57, Tryz.ntmps57
  go_wp2_with (go_at_call 96; refine HC.out.mono ?_; rintro e' w' ⟨v', rfl, hown, hbel⟩; have HO := Lib.hid hown; have HB := Lib.hid hbel; obtain ⟨hl0, ⟨rfl, hz⟩ | ⟨g, cap, cur, rfl, hbg, hg, h2, h3, h4, h5⟩⟩ := hown; clear hbel)
  · obtain rfl : x = [] := List.eq_nil_of_length_eq_zero hz
    go_wp2_with (go_at_call 97; refine (Tryz.slices_Sort_int_none none 0 _).mono ?_; rintro e2 w2 ⟨rfl, rfl⟩)
    go_returns
    exact ⟨none, 0, [], rfl, Nat.le_refl _, .refl _, .nil, ⟨by simp, none, 0, rfl, .inl rfl⟩, .of_below HB.out⟩
  · have HS := Lib.hid (sort_rowY (zs := x) HO.out h1000)
    have HH := Lib.hid (And.intro hbg h2)
    clear hg h2 h3 h4 h5 hl0
    go_wp2_with (go_at_call 97; refine (HS.out).mono ?_; rintro e2 w2 ⟨rfl, hg2, hown2⟩)
    go_returns
    have hlen : (x.mergeSort fun x y => decide (x ≤ y)).length = x.length := by simp
    refine ⟨some ⟨g, 0, none⟩, cap, x.mergeSort fun x y => decide (x ≤ y), by rw [hlen]; rfl, by rw [hlen]; exact HH.out.2, List.mergeSort_perm _ _, sort_pair x, ?_, .of_below (below_row HB.out hg2 HH.out.1)⟩
    have ho := hown2
    rw [← hlen] at ho
    exact YrAt.of_row ho (by rw [hlen]; exact h1000)
theorem dropK {ss : List Int} {m j : Nat} : (ss.drop m).getD j 0 = ss.getD (m + j) 0 := by
  rw [List.getD_eq_getElem?_getD, List.getElem?_drop, ← List.getD_eq_getElem?_getD]
end Go.Proofs.YtlheailebbngiaaGreatDoor
