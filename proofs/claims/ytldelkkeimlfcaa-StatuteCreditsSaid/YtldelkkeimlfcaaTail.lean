/- A region that draws its order: a quiet part in any order, then a tail in one forced order. -/
import Derived.Test.YtldelkkeimlfcaaBase
import Derived.StillTail
set_option linter.all false
namespace Go

/-- What is asked of the region's shape: the first n operations in any order that their edges allow, all others behind them, one after the other. -/
def Region.tailB (l : List Oper) (n : Nat) : Bool :=
  decide (n < l.length) && Region.noSelect (l.take n).toArray && Region.lexFrom .any (l.take n).toArray n 0 (Array.replicate n false) && Region.sinkB .any l.toArray n && Region.chainB .any l.toArray n &&
  ((List.range n).all fun i => match l[i]? with
    | some o => o.after.all (fun e => decide (e.on < i)) && (match o.guard with | none => true | some (j, _) => decide (j < n))
    | none => false) &&
  Region.seqB .any l.toArray (l.length - n) n (Array.replicate n true ++ Array.replicate (l.length - n) false)

section
variable {P : Program} {l : List Oper} {n : Nat} {C : World → Prop}

structure HeadRel (l : List Oper) (n : Nat) (listed listedH : Array Bool) : Prop where
  size : listed.size = l.length
  sizeH : listedH.size = n
  same : ∀ i, i < n → listed[i]? = listedH[i]?
  tail : ∀ t, n ≤ t → t < l.length → listed[t]? = some false

theorem HeadRel.getD {listed listedH : Array Bool} (h : HeadRel l n listed listedH) {i : Nat} (hi : i < n) (d : Bool) : listed.getD i d = listedH.getD i d := by
  rw [Array.getD_eq_getD_getElem?, Array.getD_eq_getD_getElem?, h.same i hi]

theorem HeadRel.inv {listed listedH : Array Bool} (h : HeadRel l n listed listedH)
    (hc : ∀ j oj, l.toArray[j]? = some oj → listed.getD j false = true → ∀ e ∈ oj.after, Region.binds .any e = true → listed.getD e.on false = true) : HeadInv .any l.toArray n listed :=
  ⟨by simp [h.size], hc, fun t h1 h2 => by rw [Array.getD_eq_getD_getElem?, h.tail t h1 (by simpa using h2)]; rfl⟩

theorem head_ready (hn : n ≤ l.length) (hon : ∀ i, i < n → ∀ o, l[i]? = some o → ∀ e ∈ o.after, e.on < i) {listed listedH : Array Bool} (h : HeadRel l n listed listedH) (i : Nat) :
    i ∈ Region.ready .any (l.take n).toArray listedH ↔ i < n ∧ i ∈ Region.ready .any l.toArray listed := by
  rw [mem_ready, mem_ready]
  simp only [List.getElem?_toArray, List.getElem?_take]
  by_cases hi : i < n
  · simp only [hi, if_true, true_and]
    rw [h.getD hi]
    constructor
    · rintro ⟨h1, o, ho, h2⟩
      exact ⟨h1, o, ho, fun e he hb => by rw [h.getD (Nat.lt_trans (hon i hi o ho e he) hi)]; exact h2 e he hb⟩
    · rintro ⟨h1, o, ho, h2⟩
      exact ⟨h1, o, ho, fun e he hb => by rw [← h.getD (Nat.lt_trans (hon i hi o ho e he) hi)]; exact h2 e he hb⟩
  · simp [hi]

theorem head_done (hn : n ≤ l.length) (hon : ∀ i, i < n → ∀ o, l[i]? = some o → ∀ e ∈ o.after, e.on < i) {listed listedH : Array Bool} (h : HeadRel l n listed listedH)
    (h0 : Region.ready .any (l.take n).toArray listedH = []) : ∀ i, i < n → listed[i]? = some true := by
  intro i
  induction i using Nat.strongRecOn with
  | _ i ih =>
    intro hi
    have hl : i < l.length := by omega
    have hs : i < listed.size := by rw [h.size]; exact hl
    cases hb : listed[i] with
    | true => rw [Array.getElem?_eq_getElem hs, hb]
    | false =>
      exfalso
      have : i ∈ Region.ready .any (l.take n).toArray listedH := by
        rw [head_ready hn hon h]
        refine ⟨hi, mem_ready.2 ⟨by rw [Array.getD_eq_getD_getElem?, Array.getElem?_eq_getElem hs, hb]; rfl, l[i], by simp [hl], fun e he _ => ?_⟩⟩
        have := hon i hi l[i] (by simp [hl]) e he
        rw [Array.getD_eq_getD_getElem?, ih e.on this (by omega)]; rfl
      rw [h0] at this
      cases this

theorem wpAny_more {ops : Array Oper} {md : Region.Mode} {Q : Exit → Act → World → Prop} : ∀ (f : Nat) (listed : Array Bool) (a : Act) (w : World), wpAny P md ops Q f listed a w → wpAny P md ops Q (f + 1) listed a w
  | 0, _, _, _, h => ⟨fun _ => h.2, fun i hi => by rw [h.1] at hi; cases hi⟩
  | f + 1, _, _, _, h => ⟨h.1, fun i hi => wpOp_mono (fun a' w' h' => wpAny_more f _ a' w' h') (h.2 i hi)⟩

theorem wpAny_moreN {ops : Array Oper} {md : Region.Mode} {Q : Exit → Act → World → Prop} (g : Nat) : ∀ (k : Nat) (listed : Array Bool) (a : Act) (w : World), wpAny P md ops Q g listed a w → wpAny P md ops Q (k + g) listed a w
  | 0, _, _, _, h => by rw [Nat.zero_add]; exact h
  | k + 1, _, _, _, h => by rw [show k + 1 + g = (k + g) + 1 by omega]; exact wpAny_more _ _ _ _ (wpAny_moreN g k _ _ _ h)

theorem yielded_take {i : Nat} {o : Oper} (hn : n ≤ l.length) (ho : l[i]? = some o) (hg : ∀ j b, o.guard = some (j, b) → j < n) (tmps : Array Value) :
    Region.wanted o (yielded (l.take n).toArray tmps) = Region.wanted o (yielded l.toArray tmps) := by
  unfold Region.wanted
  split
  · rfl
  · rename_i j b hgu
    have hj := hg j b hgu
    have : yielded (l.take n).toArray tmps j = yielded l.toArray tmps j := by
      unfold yielded
      simp only [List.getElem?_toArray, List.getElem?_take, hj, if_true]
    rw [this]

theorem qOp_take {i : Nat} {K : Act → Prop} {a : Act} (hn : n ≤ l.length) (hi : i < n) (hg : ∀ o, l[i]? = some o → ∀ j b, o.guard = some (j, b) → j < n) (h : qOp P (l.take n).toArray C i K a) : qOp P l.toArray C i K a := by
  unfold qOp at *
  simp only [List.getElem?_toArray, List.getElem?_take, hi, if_true] at h ⊢
  cases ho : l[i]? with
  | none => simpa [ho] using h
  | some o =>
    simp only [ho] at h ⊢
    rw [yielded_take hn ho (hg o ho)] at h
    exact h

theorem wpAny_head {g : Nat} {Q : Exit → Act → World → Prop} {K : Act → Prop} (hn : n < l.length) (hwait : ∀ listed, HeadInv .any l.toArray n listed → ∀ i, i < n → listed.getD i true = false → ∀ t, n ≤ t → t ∉ Region.ready .any l.toArray listed)
    (hon : ∀ i, i < n → ∀ o, l[i]? = some o → ∀ e ∈ o.after, e.on < i) (hg : ∀ i, i < n → ∀ o, l[i]? = some o → ∀ j b, o.guard = some (j, b) → j < n)
    (hK : ∀ listed a w, (∀ i, i < n → listed[i]? = some true) → (∀ t, n ≤ t → t < l.length → listed[t]? = some false) → listed.size = l.length → C w → K a → wpAny P .any l.toArray Q g listed a w) :
    ∀ (f : Nat) (listed listedH : Array Bool) (a : Act) (w : World), HeadRel l n listed listedH →
      (∀ j oj, l.toArray[j]? = some oj → listed.getD j false = true → ∀ e ∈ oj.after, Region.binds .any e = true → listed.getD e.on false = true) → C w →
      wpAnyQ P .any (l.take n).toArray C K f listedH a → wpAny P .any l.toArray Q (f + g) listed a w := by
  intro f
  induction f with
  | zero =>
    intro listed listedH a w hr hcl hw h
    rw [Nat.zero_add]
    exact hK _ _ _ (head_done (Nat.le_of_lt hn) hon hr h.1) hr.tail hr.size hw h.2
  | succ f ih =>
    intro listed listedH a w hr hcl hw h
    by_cases h0 : Region.ready .any (l.take n).toArray listedH = []
    · exact wpAny_moreN g (f + 1) _ _ _ (hK _ _ _ (head_done (Nat.le_of_lt hn) hon hr h0) hr.tail hr.size hw (h.1 h0))
    · obtain ⟨i0, hi0⟩ := List.exists_mem_of_ne_nil _ h0
      obtain ⟨hi0n, hi0r⟩ := (head_ready (Nat.le_of_lt hn) hon hr i0).1 hi0
      have inv := hr.inv hcl
      rw [show f + 1 + g = (f + g) + 1 by omega]
      refine ⟨fun h1 => (by rw [h1] at hi0r; cases hi0r), fun i hi => ?_⟩
      have hin : i < n := by
        rcases Nat.lt_or_ge i n with h' | h'
        · exact h'
        · exact absurd hi (hwait _ inv i0 hi0n (mem_ready.1 hi0r).1 i h')
      have hiH := (head_ready (Nat.le_of_lt hn) hon hr i).2 ⟨hin, hi⟩
      refine wpOp_of_qOp hw (fun a' w' hw' hh => ih _ _ a' w' ?_ ?_ hw' hh) (qOp_take (Nat.le_of_lt hn) hin (hg i hin) (h.2 i hiH))
      · refine ⟨by simp [hr.size], by simp [hr.sizeH], fun k hk => ?_, fun t h1 h2 => ?_⟩
        · simp only [Array.getElem?_setIfInBounds, hr.size, hr.sizeH]
          by_cases hik : i = k
          · subst hik; simp [hin, Nat.lt_trans hin hn]
          · simp [hik, hr.same k hk]
        · rw [Array.getElem?_setIfInBounds_ne (by omega)]; exact hr.tail t h1 h2
      · exact (inv.set hi hin).closed

/-- **A quiet part, then a tail.** -/
theorem wp_region_quiet_tail {id : Nat} {Q : Exit → Act → World → Prop} {a : Act} {w : World} (n : Nat) (hm : P.follows .mixedOrders = true) (hB : Region.tailB l n = true) (hC : C { w with drawn := w.drawn + 1 })
    (h : wpQuiet P (l.take n).toArray C (fun a' => ∀ w', C w' → wpList P l.toArray Q (l.drop n) a' w') (l.take n) a) : (Code.region id l.toArray true).wp P Q a w := by
  simp only [Region.tailB, Bool.and_eq_true, decide_eq_true_eq] at hB
  obtain ⟨⟨⟨⟨⟨⟨hn, hsel⟩, hlex⟩, hs⟩, hc⟩, hall⟩, hseq⟩ := hB
  have hall' : ∀ i, i < n → ∀ o, l[i]? = some o → (∀ e ∈ o.after, e.on < i) ∧ (∀ j b, o.guard = some (j, b) → j < n) := by
    intro i hi o ho
    have := List.all_eq_true.1 hall i (List.mem_range.2 hi)
    simp only [ho, Bool.and_eq_true] at this
    refine ⟨fun e he => ?_, fun j b hg => ?_⟩
    · exact of_decide_eq_true (Array.all_eq_true'.1 this.1 e he)
    · rw [hg] at this
      simpa using this.2
  have htl : (l.take n).length = n := by simp; omega
  refine wp_region_any hm ?_
  have hq := wpAnyQ_lex (C := C) (md := .any) (P := P) (ops := (l.take n).toArray) hsel (l.take n) 0 (Array.replicate n false) a (by simp) (by rw [htl]; exact hlex) h
  rw [htl] at hq
  have := wpAny_head (P := P) (C := C) (Q := Q) (g := l.length - n) hn (fun _ inv i hi hun t ht => tail_waits hs hc (by simpa using hn) inv _ i rfl hi hun t ht) (fun i hi o ho => (hall' i hi o ho).1) (fun i hi o ho => (hall' i hi o ho).2)
    (K := fun a' => ∀ w', C w' → wpList P l.toArray Q (l.drop n) a' w') (fun listed a' w' h1 h2 h3 hw' hK => ?_) n (Array.replicate l.length false) (Array.replicate n false) a _ ⟨by simp, by simp, fun i hi => by simp [hi, Nat.lt_trans hi hn], fun t _ ht => by simp [ht]⟩
    (fun j oj _ hl => by rw [getD_replicate_false] at hl; cases hl) hC hq
  · rw [show n + (l.length - n) = l.toArray.size by simp; omega] at this
    exact this
  · have he : listed = Array.replicate n true ++ Array.replicate (l.length - n) false := by
      apply Array.ext_getElem?
      intro i
      rw [Array.getElem?_append]
      simp only [Array.size_replicate]
      by_cases hi : i < n
      · simp [hi, h1 i hi]
      · by_cases hl : i < l.length
        · rw [if_neg hi, h2 i (by omega) hl, Array.getElem?_replicate, if_pos (by omega)]
        · rw [if_neg hi, Array.getElem?_eq_none (by omega), Array.getElem?_replicate, if_neg (by omega)]
    rw [he]
    have hd : (l.drop n).length = l.length - n := by simp
    have := wpAny_of_seq (P := P) (md := .any) (ops := l.toArray) (Q' := Q) (l.drop n) n (Array.replicate n true ++ Array.replicate (l.length - n) false) a' w' (fun j => by simp [List.getElem?_drop]) (by rw [hd]; exact hseq) (hK w' hw')
    rwa [hd] at this

/-- The same shape where the tail begins with two operations whose order is open (two variables made): both orders. -/
def Region.tail2B (l : List Oper) (n : Nat) : Bool :=
  decide (n + 1 < l.length) && Region.noSelect (l.take n).toArray && Region.lexFrom .any (l.take n).toArray n 0 (Array.replicate n false) &&
  ((List.range l.length).all fun t => decide (t < n) || (List.range n).all fun i => Region.waitsFor .any l.toArray t i) &&
  ((List.range n).all fun i => match l[i]? with
    | some o => o.after.all (fun e => decide (e.on < i)) && (match o.guard with | none => true | some (j, _) => decide (j < n))
    | none => false) &&
  decide (Region.ready .any l.toArray (Array.replicate n true ++ Array.replicate (l.length - n) false) = [n, n + 1]) &&
  decide (Region.ready .any l.toArray ((Array.replicate n true ++ Array.replicate (l.length - n) false).setIfInBounds n true) = [n + 1]) &&
  decide (Region.ready .any l.toArray ((Array.replicate n true ++ Array.replicate (l.length - n) false).setIfInBounds (n + 1) true) = [n]) &&
  Region.seqB .any l.toArray (l.length - (n + 2)) (n + 2) (((Array.replicate n true ++ Array.replicate (l.length - n) false).setIfInBounds n true).setIfInBounds (n + 1) true)

theorem wp_region_quiet_tail2 {id : Nat} {Q : Exit → Act → World → Prop} {a : Act} {w : World} (n : Nat) {o1 o2 : Oper} {rest : List Oper} (hrest : l.drop n = o1 :: o2 :: rest) (hm : P.follows .mixedOrders = true) (hB : Region.tail2B l n = true) (hC : C { w with drawn := w.drawn + 1 })
    (h : wpQuiet P (l.take n).toArray C (fun a' => ∀ w', C w' → wpList P l.toArray Q (o1 :: o2 :: rest) a' w' ∧ wpList P l.toArray Q (o2 :: o1 :: rest) a' w') (l.take n) a) : (Code.region id l.toArray true).wp P Q a w := by
  simp only [Region.tail2B, Bool.and_eq_true, decide_eq_true_eq] at hB
  obtain ⟨⟨⟨⟨⟨⟨⟨⟨hn1, hsel⟩, hlex⟩, hdir⟩, hall⟩, hr0⟩, hr1⟩, hr2⟩, hseq⟩ := hB
  have hn : n < l.length := by omega
  have hall' : ∀ i, i < n → ∀ o, l[i]? = some o → (∀ e ∈ o.after, e.on < i) ∧ (∀ j b, o.guard = some (j, b) → j < n) := by
    intro i hi o ho
    have := List.all_eq_true.1 hall i (List.mem_range.2 hi)
    simp only [ho, Bool.and_eq_true] at this
    refine ⟨fun e he => ?_, fun j b hg => ?_⟩
    · exact of_decide_eq_true (Array.all_eq_true'.1 this.1 e he)
    · rw [hg] at this
      simpa using this.2
  have htl : (l.take n).length = n := by simp; omega
  refine wp_region_any hm ?_
  have hq := wpAnyQ_lex (C := C) (md := .any) (P := P) (ops := (l.take n).toArray) hsel (l.take n) 0 (Array.replicate n false) a (by simp) (by rw [htl]; exact hlex) h
  rw [htl] at hq
  have hwait : ∀ listed, HeadInv .any l.toArray n listed → ∀ i, i < n → listed.getD i true = false → ∀ t, n ≤ t → t ∉ Region.ready .any l.toArray listed := by
    intro listed _ i hi hun t ht hr
    obtain ⟨_, ot, hot, hal⟩ := mem_ready.1 hr
    have htl : t < l.length := by
      have := (Array.getElem?_eq_some_iff.1 hot).1
      simpa using this
    have h1 := List.all_eq_true.1 hdir t (List.mem_range.2 htl)
    simp only [Bool.or_eq_true, decide_eq_true_eq] at h1
    rcases h1 with h1 | h1
    · omega
    · obtain ⟨oj, hoj, e, he, hb, hon⟩ := Region.waitsFor_spec (List.all_eq_true.1 h1 i (List.mem_range.2 hi))
      have : oj = ot := Option.some.inj (hoj.symm.trans hot)
      subst this
      have h2 := hal e he hb
      rw [hon, getD_both hun] at h2
      cases h2
  have := wpAny_head (P := P) (C := C) (Q := Q) (g := l.length - n) hn hwait (fun i hi o ho => (hall' i hi o ho).1) (fun i hi o ho => (hall' i hi o ho).2)
    (K := fun a' => ∀ w', C w' → wpList P l.toArray Q (o1 :: o2 :: rest) a' w' ∧ wpList P l.toArray Q (o2 :: o1 :: rest) a' w') (fun listed a' w' h1 h2 h3 hw' hK => ?_) n (Array.replicate l.length false) (Array.replicate n false) a _ ⟨by simp, by simp, fun i hi => by simp [hi, Nat.lt_trans hi hn], fun t _ ht => by simp [ht]⟩
    (fun j oj _ hl => by rw [getD_replicate_false] at hl; cases hl) hC hq
  · rw [show n + (l.length - n) = l.toArray.size by simp; omega] at this
    exact this
  · have he : listed = Array.replicate n true ++ Array.replicate (l.length - n) false := by
      apply Array.ext_getElem?
      intro i
      rw [Array.getElem?_append]
      simp only [Array.size_replicate]
      by_cases hi : i < n
      · simp [hi, h1 i hi]
      · by_cases hl : i < l.length
        · rw [if_neg hi, h2 i (by omega) hl, Array.getElem?_replicate, if_pos (by omega)]
        · rw [if_neg hi, Array.getElem?_eq_none (by omega), Array.getElem?_replicate, if_neg (by omega)]
    rw [he]
    obtain ⟨k1, k2⟩ := hK w' hw'
    have hlen : l.length - n = rest.length + 2 := by
      have := congrArg List.length hrest
      simpa using this
    have g1 : l.toArray[n]? = some o1 := by
      have := congrArg (fun x => x[0]?) hrest
      simpa [List.getElem?_drop] using this
    have g2 : l.toArray[n + 1]? = some o2 := by
      have := congrArg (fun x => x[1]?) hrest
      simpa [List.getElem?_drop] using this
    have g3 : ∀ j, rest[j]? = l.toArray[n + 2 + j]? := by
      intro j
      have := congrArg (fun x => x[j + 2]?) hrest
      simp only [List.getElem?_drop, List.getElem?_cons_succ] at this
      rw [List.getElem?_toArray, ← this]
      congr 1; omega
    have hrl : l.length - (n + 2) = rest.length := by omega
    rw [hrl] at hseq
    have fin : ∀ a2 w2, wpList P l.toArray Q rest a2 w2 → wpAny P .any l.toArray Q rest.length (((Array.replicate n true ++ Array.replicate (l.length - n) false).setIfInBounds n true).setIfInBounds (n + 1) true) a2 w2 :=
      fun a2 w2 hw2 => wpAny_of_seq rest (n + 2) _ a2 w2 g3 hseq hw2
    have step : ∀ {i : Nat} {o : Oper} {r : List Oper} {a2 : Act} {w2 : World} {K : Act → World → Prop}, l.toArray[i]? = some o → (∀ a w, wpList P l.toArray Q r a w → K a w) → wpList P l.toArray Q (o :: r) a2 w2 → wpOp P l.toArray Q i K a2 w2 := by
      intro i o r a2 w2 K hi hk hw2
      refine wpOp_mono (K := wpList P l.toArray Q r) hk ?_
      unfold wpOp
      rw [hi]
      exact hw2
    rw [hlen]
    rw [hlen] at hr0 hr1 hr2 fin
    refine wpAny_all hr0 (by simp) (fun i hi => ?_)
    simp only [List.mem_cons, List.not_mem_nil, or_false] at hi
    rcases hi with rfl | rfl
    · refine step g1 (fun a2 w2 h2 => ?_) k1
      refine wpAny_all hr1 (by simp) (fun j hj => ?_)
      obtain rfl : j = i + 1 := by simpa using hj
      exact step g2 (fun a3 w3 h3 => fin a3 w3 h3) h2
    · refine step g2 (fun a2 w2 k3 => ?_) k2
      refine wpAny_all hr2 (by simp) (fun j hj => ?_)
      have hj' : j = n := by simpa using hj
      rw [hj']
      refine step g1 (fun a3 w3 h3 => ?_) k3
      rw [Array.setIfInBounds_comm _ _ (by omega)]
      exact fin a3 w3 h3

theorem wp_region_quietG_tail2 {id : Nat} {Q : Exit → Act → World → Prop} {a : Act} {w : World} (n : Nat) {o1 o2 : Oper} {rest : List Oper} (hrest : l.drop n = o1 :: o2 :: rest) (hm : P.follows .mixedOrders = true) (hB : Region.tail2B l n = true)
    (h : wpQuiet P (l.take n).toArray (fun w' => ∃ g : Growth, w' = w.grow g.bs g.d) (fun a' => ∀ w', (∃ g : Growth, w' = w.grow g.bs g.d) → wpList P l.toArray Q (o1 :: o2 :: rest) a' w' ∧ wpList P l.toArray Q (o2 :: o1 :: rest) a' w') (l.take n) a) : (Code.region id l.toArray true).wp P Q a w :=
  wp_region_quiet_tail2 (C := fun w' => ∃ g : Growth, w' = w.grow g.bs g.d) n hrest hm hB ⟨⟨#[], w.drawn + 1⟩, by simp [World.grow]⟩ h

theorem wp_region_quietG_tail {id : Nat} {Q : Exit → Act → World → Prop} {a : Act} {w : World} (n : Nat) (hm : P.follows .mixedOrders = true) (hB : Region.tailB l n = true)
    (h : wpQuiet P (l.take n).toArray (fun w' => ∃ g : Growth, w' = w.grow g.bs g.d) (fun a' => ∀ w', (∃ g : Growth, w' = w.grow g.bs g.d) → wpList P l.toArray Q (l.drop n) a' w') (l.take n) a) : (Code.region id l.toArray true).wp P Q a w :=
  wp_region_quiet_tail (C := fun w' => ∃ g : Growth, w' = w.grow g.bs g.d) n hm hB ⟨⟨#[], w.drawn + 1⟩, by simp [World.grow]⟩ h
end
end Go
