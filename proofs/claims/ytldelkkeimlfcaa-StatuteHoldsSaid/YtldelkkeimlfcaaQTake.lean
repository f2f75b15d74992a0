/- A region that draws its order, walked once: what leaves the world alone (a load whose cell is known, a call that only reckons) is taken first; its last operation may write what the region has read. -/
import Derived.Test.YtldelkkeimlfcaaQTail
import Derived.OrdersHeld
import Derived.RegionTactic
set_option linter.all false
namespace Go
section
variable {P : Program} {ops : Array Oper} {Q : Exit → Act → World → Prop} {S : World → Prop}

/-- In this state the operation leaves v in its slot, in every world of S, and the world as it is: by itself, or by a call. -/
def Gives (P : Program) (ops : Array Oper) (S : World → Prop) (o : Oper) (v : Value) (a : Act) : Prop :=
  (Region.wanted o (yielded ops a.tmps) = false ∧ v = undef) ∨
  (Region.wanted o (yielded ops a.tmps) = true ∧ ∀ w, S w → (execOp a.eval o).run P w = .ok (.value v) w ∨
    ∃ f args, (execOp a.eval o).run P w = .ok (.enter f args) w ∧ Calls P f args w fun e w' => e = .returned v ∧ w = w')
theorem Gives.same {o : Oper} {v : Value} {a a' : Act} (h : Gives P ops S o v a) (he : execOp a'.eval o = execOp a.eval o)
    (hw : Region.wanted o (yielded ops a'.tmps) = Region.wanted o (yielded ops a.tmps)) : Gives P ops S o v a' := by
  simp only [Gives] at h ⊢
  rw [hw, he]
  exact h
theorem Gives.step {i : Nat} {o : Oper} {v : Value} {a : Act} {w : World} {K : Act → World → Prop} (hi : ops[i]? = some o) (h : Gives P ops S o v a) (hS : S w) (hK : K (a.put o.dst v) w) : wpOp P ops Q i K a w := by
  simp only [Go.wpOp, hi]
  rcases h with ⟨hw, rfl⟩ | ⟨hw, hv⟩
  · rw [if_neg (by simp [hw])]
    exact hK
  · rw [if_pos hw]
    left
    unfold Oper.wp
    rcases hv w hS with hr | ⟨f, args, hr, hc⟩
    · rw [hr]; exact hK
    · rw [hr]
      refine hc.mono ?_
      rintro e w' ⟨rfl, rfl⟩
      exact hK
/-- What every write of an operation's slot leaves standing stands behind the operation. -/
theorem wpOp_frame {j : Nat} {oj : Oper} (hj : ops[j]? = some oj) {Y : Act → Prop} (hput : ∀ a u, Y a → Y (a.put oj.dst u)) (hdef : ∀ (a : Act) d, Y a → Y { a with defers := d :: a.defers })
    {K : Act → World → Prop} {a : Act} {w : World} (hY : Y a) (h : wpOp P ops Q j K a w) : wpOp P ops Q j (fun a' w' => Y a' ∧ K a' w') a w := by
  simp only [Go.wpOp, hj] at h ⊢
  by_cases hw : Region.wanted oj (yielded ops a.tmps) = true
  · rw [if_pos hw] at h ⊢
    refine h.imp (fun h => ?_) id
    unfold Oper.wp at h ⊢
    cases hr : (execOp a.eval oj).run P w with
    | halt x w' =>
      rw [hr] at h
      cases x <;> exact h
    | ok n w' =>
      rw [hr] at h
      cases n with
      | value u => exact ⟨hput _ _ hY, h⟩
      | skip => exact ⟨hput _ _ hY, h⟩
      | defer d => exact ⟨hput _ _ (hdef _ _ hY), h⟩
      | enter f args =>
        refine Calls.mono h fun e w'' he => ?_
        cases e with
        | returned u => exact ⟨hput _ _ hY, he⟩
        | panicked c => exact he
        | outgrown => exact he
      | row r args => exact Rows.mono h fun u w'' he => ⟨hput _ _ hY, he⟩
      | _ => exact h
  · rw [if_neg hw] at h ⊢
    exact ⟨hput _ _ hY, h⟩
theorem wpOp_swap {j : Nat} {oi oj : Oper} {v : Value} (hj : ops[j]? = some oj) (hap : oi.apart ops oj = true) (hsi : ∀ cs b, oi.op ≠ .select cs b) (hsj : ∀ cs b, oj.op ≠ .select cs b)
    (hQ : ∀ c a w, Q (.panic c) (a.put oi.dst v) w → Q (.panic c) a w) {K : Act → World → Prop} {a : Act} {w : World} (hy : Gives P ops S oi v a) (h : wpOp P ops Q j K (a.put oi.dst v) w) :
    wpOp P ops Q j (fun a' w' => Gives P ops S oi v a' ∧ K (a'.put oi.dst v) w') a w := by
  have dummy : YieldsIf P ops (fun _ => False) oi v a := by
    rcases hy with ⟨h1, h2⟩ | ⟨h1, _⟩
    · exact .inr ⟨h1, h2⟩
    · exact .inl ⟨h1, fun _ h => h.elim⟩
  obtain ⟨_, _, h3⟩ := Oper.apart_spec hap
  exact wpOp_mono (fun _ _ h => ⟨h.1, h.2.2⟩) (wpOp_frame hj (Y := Gives P ops S oi v)
    (fun a u hg => hg.same (execOp_put oi hsi a oj.dst u h3) (wanted_put oi a oj.dst u h3)) (fun a d hg => hg.same rfl rfl) hy (wpOp_putIf hj hap hsi hsj hQ dummy h))

/-- Operations are listed behind those that they wait for. -/
def Region.Closed (ops : Array Oper) (listed : Array Bool) : Prop := ∀ j oj, ops[j]? = some oj → listed.getD j false = true → ∀ e ∈ oj.after, Region.binds .any e = true → listed.getD e.on false = true
theorem Region.Closed.set {listed : Array Bool} {i : Nat} (h : Region.Closed ops listed) (hi : i ∈ Region.ready .any ops listed) : Region.Closed ops (listed.setIfInBounds i true) := by
  intro j oj hj hl e he hb
  obtain ⟨_, o, ho, hall⟩ := mem_ready.1 hi
  by_cases hij : i = j
  · subst hij
    obtain rfl : o = oj := Option.some.inj (ho.symm.trans hj)
    exact getD_set_true (hall e he hb)
  · rw [getD_set_ne false hij] at hl
    exact getD_set_true (h j oj hj hl e he hb)
theorem Region.Closed.start (ops : Array Oper) (n : Nat) : Region.Closed ops (Array.replicate n false) := by
  intro j oj hj hl
  simp [Array.getD_eq_getD_getElem?, Array.getElem?_replicate] at hl
  split at hl <;> simp at hl
/-- Operation t comes last: all others lead to it. -/
def Region.lastB (ops : Array Oper) (t : Nat) : Bool := (List.range ops.size).all fun k => k == t || (Region.close ops ops.size (Region.preds ops t)).contains k
theorem Region.last_listed {t : Nat} {listed : Array Bool} (hB : Region.lastB ops t = true) (hc : Region.Closed ops listed) (ht : t ∈ Region.ready .any ops listed) {k : Nat} (hk : k < ops.size) (hkt : k ≠ t) : listed.getD k false = true := by
  have h1 := List.all_eq_true.1 hB k (List.mem_range.2 hk)
  simp only [Bool.or_eq_true, beq_iff_eq, hkt, false_or, List.contains_iff_mem] at h1
  obtain ⟨_, o, ho, hall⟩ := mem_ready.1 ht
  refine Region.close_listed hc ops.size (Region.preds ops t) (fun j hj => ?_) k h1
  obtain ⟨e, he, hb, hon⟩ := Region.mem_preds ho hj
  have := hall e he hb
  rwa [hon] at this

/-- Whatever order is drawn from here on; S holds behind every operation but the last. -/
def wpLast (P : Program) (ops : Array Oper) (Q : Exit → Act → World → Prop) (S : World → Prop) (t : Nat) : Nat → Array Bool → Act → World → Prop
  | 0, listed, a, w => Region.ready .any ops listed = [] ∧ Q .normal a w
  | f + 1, listed, a, w => (Region.ready .any ops listed = [] → Q .normal a w) ∧
      ∀ i ∈ Region.ready .any ops listed, wpOp P ops Q i (fun a' w' => (i ≠ t → S w') ∧ wpLast P ops Q S t f (listed.setIfInBounds i true) a' w') a w
theorem wpAny_of_last {t : Nat} : ∀ (f : Nat) (listed : Array Bool) (a : Act) (w : World), wpLast P ops Q S t f listed a w → wpAny P .any ops Q f listed a w
  | 0, _, _, _, h => h
  | f + 1, _, _, _, h => ⟨h.1, fun i hi => wpOp_mono (fun a' w' h' => wpAny_of_last f _ a' w' h'.2) (h.2 i hi)⟩
theorem wpLast_first {t i : Nat} {oi : Oper} {v : Value} (hB : Region.lastB ops t = true) (hi : ops[i]? = some oi) (hit : i ≠ t) (hsel : ∀ (j : Nat) (o : Oper) cs b, ops[j]? = some o → o.op ≠ .select cs b)
    (hQ : ∀ c a w, Q (.panic c) (a.put oi.dst v) w → Q (.panic c) a w) :
    ∀ (f : Nat) (listed : Array Bool) (a : Act) (w : World), Region.Closed ops listed →
      (∀ j oj, ops[j]? = some oj → j ≠ i → listed.getD j true = false → (∀ e ∈ oj.after, Region.binds .any e = true → e.on ≠ i) → oi.apart ops oj = true) →
      i ∈ Region.ready .any ops listed → Gives P ops S oi v a → S w → wpLast P ops Q S t f (listed.setIfInBounds i true) (a.put oi.dst v) w → wpLast P ops Q S t (f + 1) listed a w := by
  intro f
  induction f with
  | zero =>
    intro listed a w hcl _ hr hy hS H
    refine ⟨fun h => by (rw [h] at hr; cases hr), fun j hj => ?_⟩
    by_cases hji : j = i
    · subst hji
      exact hy.step hi hS ⟨fun _ => hS, H⟩
    · have := ready_mono hj hji
      rw [H.1] at this
      cases this
  | succ f ih =>
    intro listed a w hcl hfree hr hy hS H
    refine ⟨fun h => by (rw [h] at hr; cases hr), fun j hj => ?_⟩
    by_cases hji : j = i
    · subst hji
      exact hy.step hi hS ⟨fun _ => hS, H⟩
    · obtain ⟨hun, oj, hoj, hall⟩ := mem_ready.1 hj
      have hir := (mem_ready.1 hr).1
      have hilt : i < ops.size := (Array.getElem?_eq_some_iff.1 hi).1
      have hnl : listed.getD i false = true → False := fun hl => by
        simp only [Array.getD_eq_getD_getElem?] at hir hl
        cases hli : listed[i]? with
        | none => rw [hli] at hl; cases hl
        | some b => rw [hli] at hl hir; simp at hl hir; rw [hl] at hir; cases hir
      have hjt : j ≠ t := fun e => by
        subst e
        exact hnl (Region.last_listed hB hcl hj hilt (Ne.symm hji))
      have hno : ∀ e ∈ oj.after, Region.binds .any e = true → e.on ≠ i := fun e he hb heq => hnl (heq ▸ hall e he hb)
      have h2 := wpOp_swap hoj (hfree j oj hoj hji hun hno) (fun cs b => hsel i oi cs b hi) (fun cs b => hsel j oj cs b hoj) hQ hy (H.2 j (ready_mono hj hji))
      refine wpOp_mono (fun a' w' h3 => ⟨fun _ => h3.2.1 hjt, ih (listed.setIfInBounds j true) a' w' (hcl.set hj) ?_ (ready_mono hr (Ne.symm hji)) h3.1 (h3.2.1 hjt) ?_⟩) h2
      · intro k ok hk hki hunk hnok
        refine hfree k ok hk hki ?_ hnok
        by_cases hjk : j = k
        · subst hjk; exact hun
        · rwa [getD_set_ne true hjk] at hunk
      · rw [Array.setIfInBounds_comm _ _ hji]
        exact h3.2.2

/-- The walk's word: wpLast, where operations are listed in their order. -/
def TG (P : Program) (ops : Array Oper) (Q : Exit → Act → World → Prop) (S : World → Prop) (t : Nat) (f : Nat) (listed : Array Bool) (a : Act) (w : World) : Prop :=
  Region.lastB ops t = true → Region.Closed ops listed → wpLast P ops Q S t f listed a w
theorem TG.begin {id : Nat} {a : Act} {w : World} (t : Nat) (S : World → Prop) (hm : P.follows .mixedOrders = true) (hB : Region.lastB ops t = true) (hS : S w.drew)
    (h : S w.drew → TG P ops Q S t ops.size (Array.replicate ops.size false) a w.drew) : (Code.region id ops true).wp P Q a w :=
  wp_region_any hm (wpAny_of_last _ _ _ _ (h hS hB (Region.Closed.start _ _)))
theorem TG.take {t i f : Nat} {oi : Oper} {v : Value} {listed : Array Bool} {a : Act} {w : World} (hi : ops[i]? = some oi) (hs : Region.noSelect ops = true) (hf : Region.free .any ops listed i = true)
    (hr : (Region.ready .any ops listed).contains i = true) (hit : i ≠ t) (hQ : ∀ c a w, Q (.panic c) (a.put oi.dst v) w → Q (.panic c) a w) (hy : Gives P ops S oi v a) (hS : S w)
    (h : TG P ops Q S t f (listed.setIfInBounds i true) (a.put oi.dst v) w) : TG P ops Q S t (f + 1) listed a w := fun hB hcl =>
  wpLast_first hB hi hit (Region.noSelect_spec hs) hQ f listed a w hcl (Region.free_spec hi hf) (by simpa using hr) hy hS (h hB (hcl.set (by simpa using hr)))
theorem TG.takeV {t i f : Nat} {oi : Oper} {v : Value} {listed : Array Bool} {a : Act} {w : World} (hi : ops[i]? = some oi) (hs : Region.noSelect ops = true) (hf : Region.free .any ops listed i = true)
    (hr : (Region.ready .any ops listed).contains i = true) (hit : i ≠ t) (hQ : ∀ c a w, Q (.panic c) (a.put oi.dst v) w → Q (.panic c) a w) (hw : Region.wanted oi (yielded ops a.tmps) = true) (hS : S w)
    (hy : ∀ w, S w → (execOp a.eval oi).run P w = .ok (.value v) w) (h : TG P ops Q S t f (listed.setIfInBounds i true) (a.put oi.dst v) w) : TG P ops Q S t (f + 1) listed a w :=
  TG.take hi hs hf hr hit hQ (.inr ⟨hw, fun w hS => .inl (hy w hS)⟩) hS h
theorem TG.takeC {t i f : Nat} {oi : Oper} {v : Value} {fn : FuncId} {args : Array Value} {listed : Array Bool} {a : Act} {w : World} (hi : ops[i]? = some oi) (hs : Region.noSelect ops = true) (hf : Region.free .any ops listed i = true)
    (hr : (Region.ready .any ops listed).contains i = true) (hit : i ≠ t) (hQ : ∀ c a w, Q (.panic c) (a.put oi.dst v) w → Q (.panic c) a w) (hw : Region.wanted oi (yielded ops a.tmps) = true) (hS : S w)
    (hy : ∀ w, S w → (execOp a.eval oi).run P w = .ok (.enter fn args) w) (hc : ∀ w, S w → Calls P fn args w fun e w' => e = .returned v ∧ w = w')
    (h : TG P ops Q S t f (listed.setIfInBounds i true) (a.put oi.dst v) w) : TG P ops Q S t (f + 1) listed a w :=
  TG.take hi hs hf hr hit hQ (.inr ⟨hw, fun w hS => .inr ⟨_, _, hy w hS, hc w hS⟩⟩) hS h
theorem TG.one {t i f : Nat} {o : Oper} {listed : Array Bool} {a : Act} {w : World} (hr : Region.ready .any ops listed = [i]) (ho : ops[i]? = some o)
    (h : ∀ K' : Act → World → Prop, (∀ a' w', (i ≠ t → S w') → TG P ops Q S t f (listed.setIfInBounds i true) a' w' → K' a' w') → if Region.wanted o (yielded ops a.tmps) = true then Oper.wp P o a w K' Q else K' (a.put o.dst undef) w) : TG P ops Q S t (f + 1) listed a w := fun hB hcl =>
  ⟨fun h0 => by (rw [hr] at h0; cases h0), fun j hj => by
    have hj' := hj
    rw [hr] at hj
    obtain rfl : j = i := by simpa using hj
    exact wpOp_step ho fun K' hK => h K' fun a' w' h1 h2 => hK a' w' ⟨h1, h2 hB (hcl.set hj')⟩⟩
theorem TG.two {t i k f : Nat} {listed : Array Bool} {a : Act} {w : World} {o1 o2 : Oper} (hr : Region.ready .any ops listed = [i, k]) (ho1 : ops[i]? = some o1) (ho2 : ops[k]? = some o2)
    (h1 : ∀ K' : Act → World → Prop, (∀ a' w', (i ≠ t → S w') → TG P ops Q S t f (listed.setIfInBounds i true) a' w' → K' a' w') → if Region.wanted o1 (yielded ops a.tmps) = true then Oper.wp P o1 a w K' Q else K' (a.put o1.dst undef) w)
    (h2 : ∀ K' : Act → World → Prop, (∀ a' w', (k ≠ t → S w') → TG P ops Q S t f (listed.setIfInBounds k true) a' w' → K' a' w') → if Region.wanted o2 (yielded ops a.tmps) = true then Oper.wp P o2 a w K' Q else K' (a.put o2.dst undef) w) : TG P ops Q S t (f + 1) listed a w := fun hB hcl =>
  ⟨fun h0 => by (rw [hr] at h0; cases h0), fun j hj => by
    have hj' := hj
    rw [hr] at hj
    simp only [List.mem_cons, List.not_mem_nil, or_false] at hj
    rcases hj with rfl | rfl
    · exact wpOp_step ho1 fun K' hK => h1 K' fun a' w' g1 g2 => hK a' w' ⟨g1, g2 hB (hcl.set hj')⟩
    · exact wpOp_step ho2 fun K' hK => h2 K' fun a' w' g1 g2 => hK a' w' ⟨g1, g2 hB (hcl.set hj')⟩⟩
theorem TG.go {t i f : Nat} {listed : Array Bool} {a : Act} {w : World} {K : Act → World → Prop} (hK : ∀ a' w', (i ≠ t → S w') → TG P ops Q S t f listed a' w' → K a' w') (hS : S w) (h : S w → TG P ops Q S t f listed a w) : K a w :=
  hK a w (fun _ => hS) (h hS)
theorem TG.done {t f : Nat} {listed : Array Bool} {a : Act} {w : World} (hr : Region.ready .any ops listed = []) (h : Q .normal a w) : TG P ops Q S t f listed a w := fun _ _ => by
  cases f with
  | zero => exact ⟨hr, h⟩
  | succ f => exact ⟨fun _ => h, by rw [hr]; intro i hi; cases hi⟩
end
end Go
/- As XTake, with several operations at the region's end that may write what the region has read. -/
namespace Go
section
variable {P : Program} {ops : Array Oper} {Q : Exit → Act → World → Prop} {S : World → Prop}
/-- The operations of T come last: all others lead to each of them. -/
def Region.tailsB (ops : Array Oper) (T : List Nat) : Bool := T.all fun t => (List.range ops.size).all fun k => T.contains k || (Region.close ops ops.size (Region.preds ops t)).contains k
theorem Region.tails_listed {T : List Nat} {t : Nat} {listed : Array Bool} (hB : Region.tailsB ops T = true) (hT : t ∈ T) (hc : Region.Closed ops listed) (ht : t ∈ Region.ready .any ops listed) {k : Nat} (hk : k < ops.size) (hkt : k ∉ T) : listed.getD k false = true := by
  have h1 := List.all_eq_true.1 (List.all_eq_true.1 hB t hT) k (List.mem_range.2 hk)
  simp only [Bool.or_eq_true, List.contains_iff_mem, hkt, false_or] at h1
  obtain ⟨_, o, ho, hall⟩ := mem_ready.1 ht
  refine Region.close_listed hc ops.size (Region.preds ops t) (fun j hj => ?_) k h1
  obtain ⟨e, he, hb, hon⟩ := Region.mem_preds ho hj
  have := hall e he hb
  rwa [hon] at this

/-- Whatever order is drawn from here on; S holds behind every operation but those of T. -/
def wpTails (P : Program) (ops : Array Oper) (Q : Exit → Act → World → Prop) (S : World → Prop) (T : List Nat) : Nat → Array Bool → Act → World → Prop
  | 0, listed, a, w => Region.ready .any ops listed = [] ∧ Q .normal a w
  | f + 1, listed, a, w => (Region.ready .any ops listed = [] → Q .normal a w) ∧
      ∀ i ∈ Region.ready .any ops listed, wpOp P ops Q i (fun a' w' => (i ∉ T → S w') ∧ wpTails P ops Q S T f (listed.setIfInBounds i true) a' w') a w
theorem wpAny_of_tails {T : List Nat} : ∀ (f : Nat) (listed : Array Bool) (a : Act) (w : World), wpTails P ops Q S T f listed a w → wpAny P .any ops Q f listed a w
  | 0, _, _, _, h => h
  | f + 1, _, _, _, h => ⟨h.1, fun i hi => wpOp_mono (fun a' w' h' => wpAny_of_tails f _ a' w' h'.2) (h.2 i hi)⟩
theorem wpTails_first {T : List Nat} {i : Nat} {oi : Oper} {v : Value} (hB : Region.tailsB ops T = true) (hi : ops[i]? = some oi) (hit : i ∉ T) (hsel : ∀ (j : Nat) (o : Oper) cs b, ops[j]? = some o → o.op ≠ .select cs b)
    (hQ : ∀ c a w, Q (.panic c) (a.put oi.dst v) w → Q (.panic c) a w) :
    ∀ (f : Nat) (listed : Array Bool) (a : Act) (w : World), Region.Closed ops listed →
      (∀ j oj, ops[j]? = some oj → j ≠ i → listed.getD j true = false → (∀ e ∈ oj.after, Region.binds .any e = true → e.on ≠ i) → oi.apart ops oj = true) →
      i ∈ Region.ready .any ops listed → Gives P ops S oi v a → S w → wpTails P ops Q S T f (listed.setIfInBounds i true) (a.put oi.dst v) w → wpTails P ops Q S T (f + 1) listed a w := by
  intro f
  induction f with
  | zero =>
    intro listed a w hcl _ hr hy hS H
    refine ⟨fun h => by (rw [h] at hr; cases hr), fun j hj => ?_⟩
    by_cases hji : j = i
    · subst hji
      exact hy.step hi hS ⟨fun _ => hS, H⟩
    · have := ready_mono hj hji
      rw [H.1] at this
      cases this
  | succ f ih =>
    intro listed a w hcl hfree hr hy hS H
    refine ⟨fun h => by (rw [h] at hr; cases hr), fun j hj => ?_⟩
    by_cases hji : j = i
    · subst hji
      exact hy.step hi hS ⟨fun _ => hS, H⟩
    · obtain ⟨hun, oj, hoj, hall⟩ := mem_ready.1 hj
      have hir := (mem_ready.1 hr).1
      have hilt : i < ops.size := (Array.getElem?_eq_some_iff.1 hi).1
      have hnl : listed.getD i false = true → False := fun hl => by
        simp only [Array.getD_eq_getD_getElem?] at hir hl
        cases hli : listed[i]? with
        | none => rw [hli] at hl; cases hl
        | some b => rw [hli] at hl hir; simp at hl hir; rw [hl] at hir; cases hir
      have hjt : j ∉ T := fun e => hnl (Region.tails_listed hB e hcl hj hilt hit)
      have hno : ∀ e ∈ oj.after, Region.binds .any e = true → e.on ≠ i := fun e he hb heq => hnl (heq ▸ hall e he hb)
      have h2 := wpOp_swap hoj (hfree j oj hoj hji hun hno) (fun cs b => hsel i oi cs b hi) (fun cs b => hsel j oj cs b hoj) hQ hy (H.2 j (ready_mono hj hji))
      refine wpOp_mono (fun a' w' h3 => ⟨fun _ => h3.2.1 hjt, ih (listed.setIfInBounds j true) a' w' (hcl.set hj) ?_ (ready_mono hr (Ne.symm hji)) h3.1 (h3.2.1 hjt) ?_⟩) h2
      · intro k ok hk hki hunk hnok
        refine hfree k ok hk hki ?_ hnok
        by_cases hjk : j = k
        · subst hjk; exact hun
        · rwa [getD_set_ne true hjk] at hunk
      · rw [Array.setIfInBounds_comm _ _ hji]
        exact h3.2.2

/-- The walk's word: wpTails, where operations are listed in their order. -/
def TS (P : Program) (ops : Array Oper) (Q : Exit → Act → World → Prop) (S : World → Prop) (T : List Nat) (f : Nat) (listed : Array Bool) (a : Act) (w : World) : Prop :=
  Region.tailsB ops T = true → Region.Closed ops listed → wpTails P ops Q S T f listed a w
theorem TS.begin {id : Nat} {a : Act} {w : World} (T : List Nat) (S : World → Prop) (hm : P.follows .mixedOrders = true) (hB : Region.tailsB ops T = true) (hS : S w.drew)
    (h : S w.drew → TS P ops Q S T ops.size (Array.replicate ops.size false) a w.drew) : (Code.region id ops true).wp P Q a w :=
  wp_region_any hm (wpAny_of_tails _ _ _ _ (h hS hB (Region.Closed.start _ _)))
theorem TS.take {T : List Nat} {i f : Nat} {oi : Oper} {v : Value} {listed : Array Bool} {a : Act} {w : World} (hi : ops[i]? = some oi) (hs : Region.noSelect ops = true) (hf : Region.free .any ops listed i = true)
    (hr : (Region.ready .any ops listed).contains i = true) (hit : i ∉ T) (hQ : ∀ c a w, Q (.panic c) (a.put oi.dst v) w → Q (.panic c) a w) (hy : Gives P ops S oi v a) (hS : S w)
    (h : TS P ops Q S T f (listed.setIfInBounds i true) (a.put oi.dst v) w) : TS P ops Q S T (f + 1) listed a w := fun hB hcl =>
  wpTails_first hB hi hit (Region.noSelect_spec hs) hQ f listed a w hcl (Region.free_spec hi hf) (by simpa using hr) hy hS (h hB (hcl.set (by simpa using hr)))
theorem TS.takeV {T : List Nat} {i f : Nat} {oi : Oper} {v : Value} {listed : Array Bool} {a : Act} {w : World} (hi : ops[i]? = some oi) (hs : Region.noSelect ops = true) (hf : Region.free .any ops listed i = true)
    (hr : (Region.ready .any ops listed).contains i = true) (hit : i ∉ T) (hQ : ∀ c a w, Q (.panic c) (a.put oi.dst v) w → Q (.panic c) a w) (hw : Region.wanted oi (yielded ops a.tmps) = true) (hS : S w)
    (hy : ∀ w, S w → (execOp a.eval oi).run P w = .ok (.value v) w) (h : TS P ops Q S T f (listed.setIfInBounds i true) (a.put oi.dst v) w) : TS P ops Q S T (f + 1) listed a w :=
  TS.take hi hs hf hr hit hQ (.inr ⟨hw, fun w hS => .inl (hy w hS)⟩) hS h
theorem TS.takeC {T : List Nat} {i f : Nat} {oi : Oper} {v : Value} {fn : FuncId} {args : Array Value} {listed : Array Bool} {a : Act} {w : World} (hi : ops[i]? = some oi) (hs : Region.noSelect ops = true) (hf : Region.free .any ops listed i = true)
    (hr : (Region.ready .any ops listed).contains i = true) (hit : i ∉ T) (hQ : ∀ c a w, Q (.panic c) (a.put oi.dst v) w → Q (.panic c) a w) (hw : Region.wanted oi (yielded ops a.tmps) = true) (hS : S w)
    (hy : ∀ w, S w → (execOp a.eval oi).run P w = .ok (.enter fn args) w) (hc : ∀ w, S w → Calls P fn args w fun e w' => e = .returned v ∧ w = w')
    (h : TS P ops Q S T f (listed.setIfInBounds i true) (a.put oi.dst v) w) : TS P ops Q S T (f + 1) listed a w :=
  TS.take hi hs hf hr hit hQ (.inr ⟨hw, fun w hS => .inr ⟨_, _, hy w hS, hc w hS⟩⟩) hS h
theorem TS.one {T : List Nat} {i f : Nat} {o : Oper} {listed : Array Bool} {a : Act} {w : World} (hr : Region.ready .any ops listed = [i]) (ho : ops[i]? = some o)
    (h : ∀ K' : Act → World → Prop, (∀ a' w', (i ∉ T → S w') → TS P ops Q S T f (listed.setIfInBounds i true) a' w' → K' a' w') → if Region.wanted o (yielded ops a.tmps) = true then Oper.wp P o a w K' Q else K' (a.put o.dst undef) w) : TS P ops Q S T (f + 1) listed a w := fun hB hcl =>
  ⟨fun h0 => by (rw [hr] at h0; cases h0), fun j hj => by
    have hj' := hj
    rw [hr] at hj
    obtain rfl : j = i := by simpa using hj
    exact wpOp_step ho fun K' hK => h K' fun a' w' h1 h2 => hK a' w' ⟨h1, h2 hB (hcl.set hj')⟩⟩
theorem TS.two {T : List Nat} {i k f : Nat} {listed : Array Bool} {a : Act} {w : World} {o1 o2 : Oper} (hr : Region.ready .any ops listed = [i, k]) (ho1 : ops[i]? = some o1) (ho2 : ops[k]? = some o2)
    (h1 : ∀ K' : Act → World → Prop, (∀ a' w', (i ∉ T → S w') → TS P ops Q S T f (listed.setIfInBounds i true) a' w' → K' a' w') → if Region.wanted o1 (yielded ops a.tmps) = true then Oper.wp P o1 a w K' Q else K' (a.put o1.dst undef) w)
    (h2 : ∀ K' : Act → World → Prop, (∀ a' w', (k ∉ T → S w') → TS P ops Q S T f (listed.setIfInBounds k true) a' w' → K' a' w') → if Region.wanted o2 (yielded ops a.tmps) = true then Oper.wp P o2 a w K' Q else K' (a.put o2.dst undef) w) : TS P ops Q S T (f + 1) listed a w := fun hB hcl =>
  ⟨fun h0 => by (rw [hr] at h0; cases h0), fun j hj => by
    have hj' := hj
    rw [hr] at hj
    simp only [List.mem_cons, List.not_mem_nil, or_false] at hj
    rcases hj with rfl | rfl
    · exact wpOp_step ho1 fun K' hK => h1 K' fun a' w' g1 g2 => hK a' w' ⟨g1, g2 hB (hcl.set hj')⟩
    · exact wpOp_step ho2 fun K' hK => h2 K' fun a' w' g1 g2 => hK a' w' ⟨g1, g2 hB (hcl.set hj')⟩⟩
theorem TS.go {T : List Nat} {i f : Nat} {listed : Array Bool} {a : Act} {w : World} {K : Act → World → Prop} (hK : ∀ a' w', (i ∉ T → S w') → TS P ops Q S T f listed a' w' → K a' w') (hS : S w) (h : S w → TS P ops Q S T f listed a w) : K a w :=
  hK a w (fun _ => hS) (h hS)
theorem TS.done {T : List Nat} {f : Nat} {listed : Array Bool} {a : Act} {w : World} (hr : Region.ready .any ops listed = []) (h : Q .normal a w) : TS P ops Q S T f listed a w := fun _ _ => by
  cases f with
  | zero => exact ⟨hr, h⟩
  | succ f => exact ⟨fun _ => h, by rw [hr]; intro i hi; cases hi⟩
end
end Go
