/- What the machine's library lacks of XMchP: the two verifiers' laws are one. Printed by cut.py. -/
import Derived.Test.YtaghhncnicbedaaGreatDoorMMchP
set_option linter.all false
namespace Go.Proofs.YtaghhncnicbedaaGreatDoor
section
variable (S : List (Option (List Int × List Bool))) (T : List (Option (List Int × List Int)))
end

section
variable {m : Nat} {D D' : Nat → Bool} {dims : List Int} {S S' : List (Option (List Int × List Bool))} {T : List (Option (List Int × List Int))} {x : Ins} {s s' : List Int × List Bool} {t : List Int × List Int}
theorem Agr.mono0 (h : Agr m D dims s t) (hD : ∀ k, D k = true → D' k = true) : Agr m D' dims s t := ⟨h.stk, h.l1, h.l2, h.slot, h.pos, h.dpos, fun k hb => hD k (h.done k hb)⟩
theorem inDs_pos {k : Nat} (h : k < 11) : 1 ≤ inDs.getD k 0 := by
  have key : ∀ k, k < 11 → (1 : Int) ≤ inDs.getD k 0 := by decide
  exact key k h
/-- The operation's effect in both accounts. -/
theorem app_agr {n i : Nat} (hm : m ≤ 12) (hx : wfF m n i x = true) (h : Agr m D dims s t) (hd : dims.length = 12) (hset : x.op = 4 → D x.a.toNat = false) (hD : ∀ k, D' k = (D k || (decide (x.op = 4) && decide (k = x.a.toNat)))) :
    (appA x s dims = none ∧ appB x t = none) ∨ ∃ s' dims' t', appA x s dims = some (s', dims') ∧ appB x t = some t' ∧ Agr m D' dims' s' t' ∧ dims'.length = 12 ∧ (∀ u v, Agr m D dims u v → Agr m D' dims' u v) ∧ (x.op = 21 → s' = s) := by
  have hmo : ∀ k, D k = true → D' k = true := fun k hk => by rw [hD, hk]; rfl
  have hk : ∀ u v, Agr m D dims u v → Agr m D' dims u v := fun u v hu => hu.mono0 hmo
  unfold wfF at hx
  unfold appA appB
  by_cases h1 : x.op = 1
  · rw [if_pos h1] at hx
    simp only [if_pos h1]
    refine .inr ⟨_, _, _, rfl, rfl, hk _ _ (h.push ?_), hd, hk, by omega⟩
    simp at hx; omega
  rw [if_neg h1] at hx
  simp only [if_neg h1]
  by_cases hz : ¬ (x.n = 0 ∧ x.d = 0)
  · rw [if_pos hz] at hx; cases hx
  rw [if_neg hz] at hx
  by_cases h2 : x.op = 2
  · rw [if_pos h2] at hx
    simp only [if_pos h2]
    refine .inr ⟨_, _, _, rfl, rfl, hk _ _ (h.push (inDs_pos ?_)), hd, hk, by omega⟩
    simp at hx; omega
  rw [if_neg h2] at hx
  simp only [if_neg h2]
  by_cases h5 : x.op = 5
  · simp only [if_pos h5]
    exact .inr ⟨_, _, _, rfl, rfl, hk _ _ (h.push (by omega)), hd, hk, by omega⟩
  simp only [if_neg h5]
  by_cases h23 : x.op = 23 ∨ x.op = 24
  · simp only [if_pos h23]
    exact .inr ⟨_, _, _, rfl, rfl, hk _ _ (h.push (by omega)), hd, hk, by omega⟩
  simp only [if_neg h23]
  by_cases h3 : x.op = 3
  · rw [if_pos (.inl h3)] at hx
    have ha : x.a.toNat < m := by simp at hx; omega
    simp only [if_pos h3]
    rw [h.slot _ ha]
    by_cases hb : s.2.getD x.a.toNat false = true
    · have := h.dpos _ ha hb
      rw [if_pos hb, if_pos hb, if_neg (by omega)]
      exact .inr ⟨_, _, _, rfl, rfl, hk _ _ (h.push this), hd, hk, by omega⟩
    · rw [if_neg hb, if_neg hb, if_pos rfl]
      exact .inl ⟨rfl, rfl⟩
  simp only [if_neg h3]
  by_cases h4 : x.op = 4
  · rw [if_pos (.inr h4)] at hx
    have ha : x.a.toNat < m := by simp at hx; omega
    have hDa := hset h4
    simp only [if_pos h4]
    rw [h.stk]
    by_cases he : s.1 = []
    · rw [if_pos he, if_pos he]; exact .inl ⟨rfl, rfl⟩
    rw [if_neg he, if_neg he]
    have hl := h.pos _ (last_mem he)
    refine .inr ⟨_, _, _, rfl, rfl, ⟨rfl, by rw [List.length_set]; exact h.l1, by rw [List.length_set]; exact h.l2, fun k hk => ?_, fun z hz => h.pos z (List.dropLast_subset _ hz), fun k hk hb => ?_, fun k hb => ?_⟩, by rw [List.length_set]; exact hd, fun u v hu => hu.mono hmo hDa, by omega⟩
    · simp only [getD_setI, h.l1, h.l2, hd]
      by_cases e : x.a.toNat = k
      · have e1 : (if x.a.toNat = k ∧ k < 12 then true else s.2.getD k false) = true := if_pos ⟨e, by omega⟩
        rw [if_pos ⟨e, hk⟩, if_pos e1, if_pos ⟨e, by omega⟩]
      · have e1 : (if x.a.toNat = k ∧ k < 12 then true else s.2.getD k false) = s.2.getD k false := if_neg (fun c => e c.1)
        have e3 : (if x.a.toNat = k ∧ k < 12 then s.1.getLastD 0 else dims.getD k 0) = dims.getD k 0 := if_neg (fun c => e c.1)
        rw [if_neg (fun c => e c.1), e1, e3]
        exact h.slot k hk
    · simp only [getD_setI, h.l1, hd] at hb ⊢
      by_cases e : x.a.toNat = k
      · rw [if_pos ⟨e, by omega⟩]; exact hl
      · rw [if_neg (fun c => e c.1)] at hb ⊢
        exact h.dpos k hk hb
    · rw [hD]
      simp only [getD_setI] at hb
      by_cases e : x.a.toNat = k
      · rw [decide_eq_true h4, decide_eq_true e.symm]; simp
      · rw [if_neg (fun c => e c.1)] at hb
        rw [h.done k hb]; rfl
  simp only [if_neg h4]
  by_cases h22 : x.op = 22
  · simp only [if_pos h22]
    rw [h.stk]
    by_cases he : s.1 = [] ∨ s.1.getLastD 0 ≠ 1
    · rw [if_pos he, if_pos he]; exact .inl ⟨rfl, rfl⟩
    · rw [if_neg he, if_neg he]
      exact .inr ⟨_, _, _, rfl, rfl, hk _ _ (h.stack fun z hz => h.pos z (List.dropLast_subset _ hz)), hd, hk, by omega⟩
  simp only [if_neg h22]
  by_cases h21 : x.op = 21
  · simp only [if_pos h21]
    exact .inr ⟨_, _, _, rfl, rfl, hk _ _ h, hd, hk, fun _ => rfl⟩
  simp only [if_neg h21]
  rw [h.stk]
  by_cases hn : s.1.length < ariF (opF x.op)
  · rw [if_pos hn, if_pos hn]; exact .inl ⟨rfl, rfl⟩
  rw [if_neg hn, if_neg hn]
  by_cases hr : resD (opF x.op) (s.1.drop (s.1.length - ariF (opF x.op))) = 0
  · rw [if_pos hr, if_pos hr]; exact .inl ⟨rfl, rfl⟩
  rw [if_neg hr, if_neg hr]
  have hp := resD_pos (fun z hz => h.pos z (List.mem_of_mem_drop hz)) hr
  have h' := (h.stack (l := s.1.take (s.1.length - ariF (opF x.op))) fun z hz => h.pos z (List.mem_of_mem_take hz)).push hp
  exact .inr ⟨_, _, _, rfl, rfl, hk _ _ h', hd, hk, fun e => absurd e h21⟩
/-- Another way to a place, in both accounts. -/
theorem put_agr (hm : m ≤ 12) (hL : AgrL m D dims S T) (h : Agr m D dims s t) (hf : s.1.length ≤ 24) (k : Nat) :
    (putA S k s = none ∧ putB T k t = none) ∨ ∃ S' T', putA S k s = some S' ∧ putB T k t = some T' ∧ AgrL m D dims S' T' := by
  unfold putA putB
  rcases hL.both k with ⟨e1, e2⟩ | ⟨u, v, e1, e2, hu, hf'⟩
  · rw [e1, e2]
    refine .inr ⟨_, _, rfl, rfl, by rw [List.length_set, List.length_set]; exact hL.1, fun j => ?_⟩
    rw [getD_setI, getD_setI, hL.1]
    split
    · exact ⟨h, hf⟩
    · exact hL.2 j
  · rw [e1, e2]
    simp only [h.stk, hu.stk]
    by_cases he : u.1 = s.1
    · rw [if_pos he, if_pos he]
      refine .inr ⟨_, _, rfl, rfl, by rw [List.length_set, List.length_set]; exact hL.1, fun j => ?_⟩
      rw [getD_setI, getD_setI, hL.1]
      split
      · refine ⟨⟨rfl, by rw [List.length_zipWith, hu.l1, h.l1]; rfl, by rw [List.length_zipWith, hu.l2, h.l2]; omega, fun k hk => ?_, hu.pos, fun k hk hb => hu.dpos k hk (zip_true hb).1, fun k hb => hu.done k (zip_true hb).1⟩, hf'⟩
        have z1 := h.l1; have z2 := h.l2; have z3 := hu.l1; have z4 := hu.l2
        rw [getD_zip _ _ _ k 0 0 0 (by omega) (by omega), getD_zip _ _ _ k false false false (by omega) (by omega), h.slot k hk, hu.slot k hk]
        have q1 := h.dpos k hk
        cases b1 : s.2.getD k false <;> cases b2 : u.2.getD k false <;> simp
        rw [b1] at q1
        intro e; have := q1 rfl; omega
      · exact hL.2 j
    · rw [if_neg he, if_neg he]; exact .inl ⟨rfl, rfl⟩
def twoB (T : List (Option (List Int × List Int))) (a b : Nat) (t : List Int × List Int) : Option (List (Option (List Int × List Int))) := match putB T a t with | none => none | some T1 => putB T1 b t
theorem putB_comm (a b : Nat) (t : List Int × List Int) : (match putB T a t with | none => none | some T1 => putB T1 b t) = (match putB T b t with | none => none | some T1 => putB T1 a t) := by
  by_cases hab : a = b
  · subst hab; rfl
  have g : ∀ (c d : Nat) (w : Option (List Int × List Int)), c ≠ d → (T.set c w).getD d none = T.getD d none := fun c d w hcd => by
    rw [getD_setI, if_neg (fun e => hcd e.1)]
  unfold putB
  cases ha : T.getD a none with
  | none =>
    cases hb : T.getD b none with
    | none => simp only [g _ _ _ hab, g _ _ _ (Ne.symm hab), ha, hb]; rw [List.set_comm _ _ hab]
    | some v =>
      simp only [g _ _ _ hab, ha, hb]
      by_cases e : v.1 = t.1
      · simp only [if_pos e, g _ _ _ (Ne.symm hab), ha]; rw [List.set_comm _ _ hab]
      · simp only [if_neg e]
  | some u =>
    cases hb : T.getD b none with
    | none =>
      simp only [g _ _ _ (Ne.symm hab), ha, hb]
      by_cases e : u.1 = t.1
      · simp only [if_pos e, g _ _ _ hab, hb]; rw [List.set_comm _ _ hab]
      · simp only [if_neg e]
    | some v =>
      by_cases e : u.1 = t.1
      · by_cases e' : v.1 = t.1
        · simp only [if_pos e, if_pos e', g _ _ _ hab, g _ _ _ (Ne.symm hab), ha, hb]; rw [List.set_comm _ _ hab]
        · simp only [if_pos e, if_neg e', g _ _ _ hab, hb]
      · by_cases e' : v.1 = t.1
        · simp only [if_neg e, if_pos e', g _ _ _ (Ne.symm hab), ha]
        · simp only [if_neg e, if_neg e']
end
section
variable {m : Nat} {D D' : Nat → Bool} {dims : List Int} {S : List (Option (List Int × List Bool))} {T : List (Option (List Int × List Int))} {x : Ins}
/-- One instruction in both accounts. -/
theorem rnd_agr {n i dep : Nat} (hm : m ≤ 12) (hx : wfF m n i x = true) (hL : AgrL m D dims S T) (hd : dims.length = 12) (hset : x.op = 4 → D x.a.toNat = false) (hD : ∀ k, D' k = (D k || (decide (x.op = 4) && decide (k = x.a.toNat)))) (hn : S.length = n + 1) (hi : i < n) :
    (rndA S x i dims dep = none ∧ (T.getD i none = none ∨ rndB T x i = none)) ∨
    ∃ S' dims' p T' s t, rndA S x i dims dep = some (S', dims', max dep p) ∧ S.getD i none = some s ∧ T.getD i none = some t ∧ t.1 = s.1 ∧ rndB T x i = some T' ∧ AgrL m D' dims' S' T' ∧ dims'.length = 12 ∧ S'.length = S.length ∧
      (∀ j u, S.getD j none = some u → ∃ v, S'.getD j none = some v ∧ v.1 = u.1) ∧ (∃ j v, i < j ∧ S'.getD j none = some v ∧ v.1.length = p) ∧
      ∀ j v, S'.getD j none = some v → v.1.length = p ∨ ∃ u, S.getD j none = some u ∧ u.1 = v.1 := by
  have ha : x.op = 21 ∨ x.op = 22 → i < x.a.toNat ∧ x.a.toNat < S.length := fun h => by
    unfold wfF at hx
    rw [if_neg (by omega)] at hx
    by_cases hz : ¬ (x.n = 0 ∧ x.d = 0)
    · rw [if_pos hz] at hx; cases hx
    rw [if_neg hz, if_neg (by omega), if_neg (by omega), if_neg (by omega), if_pos h] at hx
    simp at hx; omega
  unfold rndA rndB
  rcases hL.both i with ⟨e1, e2⟩ | ⟨s, t, e1, e2, hst, hf⟩
  · rw [e1, e2]; exact .inl ⟨rfl, .inl rfl⟩
  rw [e1, e2]
  rcases app_agr hm hx hst hd hset hD with ⟨a1, a2⟩ | ⟨s', dims', t', a1, a2, hst', hd', hmo, h21⟩
  · exact .inl ⟨by simp only [a1], .inr (by simp only [a2])⟩
  simp only [a1, a2]
  have hL' : AgrL m D' dims' S T := ⟨hL.1, fun k => (hL.2 k).imp hmo⟩
  rw [hst'.stk]
  by_cases hf' : 24 < s'.1.length
  · rw [if_pos hf']
    refine .inl ⟨rfl, .inr ?_⟩
    by_cases c : x.op = 21
    · rw [h21 c] at hf'; omega
    · rw [if_neg c]
      split
      · rfl
      · rw [if_pos hf']
  rw [if_neg hf']
  by_cases c : x.op = 21
  · have ⟨k1, k2⟩ := ha (.inl c)
    simp only [if_pos c, if_pos (show x.op = 21 ∨ x.op = 22 from .inl c)]
    rcases put_agr hm hL' hst' (by omega) x.a.toNat with ⟨b1, b2⟩ | ⟨S', T', b1, b2, hL2⟩
    · rw [b1, b2]; exact .inl ⟨rfl, .inr rfl⟩
    · rw [b1, b2]
      obtain ⟨q1, q2, q3, q4⟩ := putA_keep b1
      obtain ⟨v, hv, hv1⟩ := q3 k2
      exact .inr ⟨S', dims', s'.1.length, T', s, t, rfl, rfl, rfl, hst.stk, rfl, hL2, hd', q1, q2, ⟨_, v, k1, hv, by rw [hv1]⟩, fun j v hv => (q4 j v hv).imp (fun e => by rw [e]) id⟩
  simp only [if_neg c]
  by_cases c2 : x.op = 22
  · have ⟨k1, k2⟩ := ha (.inr c2)
    simp only [if_pos c2, if_pos (show x.op = 21 ∨ x.op = 22 from .inr c2), if_neg hf']
    have hco : twoB T x.a.toNat (i + 1) t' = twoB T (i + 1) x.a.toNat t' := putB_comm _ _ _
    show (_ ∧ (_ ∨ twoB T x.a.toNat (i + 1) t' = none)) ∨ ∃ S' dims'' p T' s1 t1, _ ∧ _ ∧ _ ∧ _ ∧ twoB T x.a.toNat (i + 1) t' = some T' ∧ _
    rw [hco]
    unfold twoB
    rcases put_agr hm hL' hst' (by omega) (i + 1) with ⟨b1, b2⟩ | ⟨S1, T1, b1, b2, hL2⟩
    · rw [b1, b2]; exact .inl ⟨rfl, .inr rfl⟩
    rw [b1, b2]
    simp only
    rcases put_agr hm hL2 hst' (by omega) x.a.toNat with ⟨d1, d2⟩ | ⟨S', T', d1, d2, hL3⟩
    · rw [d1, d2]; exact .inl ⟨rfl, .inr rfl⟩
    rw [d1, d2]
    obtain ⟨q1, q2, q3, q4⟩ := putA_keep b1
    obtain ⟨r1, r2, r3, r4⟩ := putA_keep d1
    obtain ⟨v, hv, hv1⟩ := r3 (by omega)
    refine .inr ⟨S', dims', s'.1.length, T', s, t, rfl, rfl, rfl, hst.stk, rfl, hL3, hd', by omega, fun j u hu => ?_, ⟨_, v, k1, hv, by rw [hv1]⟩, fun j v hv => ?_⟩
    · obtain ⟨v, hv, e⟩ := q2 j u hu
      obtain ⟨v', hv', e'⟩ := r2 j v hv
      exact ⟨v', hv', e'.trans e⟩
    · rcases r4 j v hv with e | ⟨u, hu, e⟩
      · exact .inl (by rw [e])
      rcases q4 j u hu with e' | ⟨u', hu', e'⟩
      · exact .inl (by rw [← e, e'])
      · exact .inr ⟨u', hu', e'.trans e⟩
  · simp only [if_neg c2, if_neg (show ¬ (x.op = 21 ∨ x.op = 22) by omega), if_neg hf']
    rcases put_agr hm hL' hst' (by omega) (i + 1) with ⟨b1, b2⟩ | ⟨S', T', b1, b2, hL2⟩
    · rw [b1, b2]; exact .inl ⟨rfl, .inr rfl⟩
    · rw [b1, b2]
      obtain ⟨q1, q2, q3, q4⟩ := putA_keep b1
      obtain ⟨v, hv, hv1⟩ := q3 (by omega)
      exact .inr ⟨S', dims', s'.1.length, T', s, t, rfl, rfl, rfl, hst.stk, rfl, hL2, hd', q1, q2, ⟨_, v, by omega, hv, by rw [hv1]⟩, fun j v hv => (q4 j v hv).imp (fun e => by rw [e]) id⟩
end
theorem getD_some_lt {α : Type} {l : List (Option α)} {j : Nat} {u : α} (h : l.getD j none = some u) : j < l.length := by
  apply Nat.lt_of_not_le; intro hc
  rw [List.getD_eq_getElem?_getD, List.getElem?_eq_none hc] at h; cases h
theorem go_agr {m n : Nat} (hm : m ≤ 12) : ∀ (r : List Ins) (i : Nat) (D : Nat → Bool) (S : List (Option (List Int × List Bool))) (T : List (Option (List Int × List Int))) (dims : List Int) (da db : Nat),
    (∀ k, k < r.length → wfF m n (i + k) (r.getD k default) = true) → (setsF r).Nodup → (∀ a ∈ setsF r, D a = false) → AgrL m D dims S T → dims.length = 12 → S.length = n + 1 → i + r.length = n →
    (∀ j u, S.getD j none = some u → u.1.length ≤ da) → db ≤ da → (da ≤ db ∨ ∃ j u, i ≤ j ∧ S.getD j none = some u ∧ da ≤ u.1.length) → (r = [] → ∃ u, S.getD i none = some u) → goA r i S dims da = goB r i T db := by
  intro r
  induction r with
  | nil =>
    intro i D S T dims da db _ _ _ hL _ hn hin h1 h2 h3 h4
    obtain ⟨u, hu⟩ := h4 rfl
    rw [goA, goB]
    rcases hL.both i with ⟨e1, -⟩ | ⟨s, t, e1, e2, hst, -⟩
    · rw [hu] at e1; cases e1
    rw [e1, e2]
    simp only [hst.stk]
    by_cases he : s.1 = []
    · rw [if_pos he, if_pos he]
      have : da = db := by
        rcases h3 with h3 | ⟨j, u2, hj, hu2, hl⟩
        · omega
        · have := getD_some_lt hu2
          obtain rfl : j = i := by simp at hin; omega
          rw [e1] at hu2
          rw [← Option.some.inj hu2, he] at hl; simp at hl; omega
      rw [this]
    · rw [if_neg he, if_neg he]
  | cons x r ih =>
    intro i D S T dims da db hwf hnd hsD hL hd hn hin h1 h2 h3 _
    simp only [List.length_cons] at hin
    have hx := hwf 0 (by simp)
    rw [Nat.add_zero] at hx
    replace hx : wfF m n i x = true := hx
    have hset : x.op = 4 → D x.a.toNat = false := fun h => hsD _ (by rw [setsF_cons, if_pos h]; exact List.mem_cons_self ..)
    rw [goA, goB]
    rcases rnd_agr (D' := fun k => D k || (decide (x.op = 4) && decide (k = x.a.toNat))) (dep := da) hm hx hL hd hset (fun _ => rfl) hn (by omega) with ⟨a1, a2⟩ | ⟨S', dims', p, T', s, t, a1, e1, e2, e3, a2, hL', hd', hl', k1, ⟨j, v, hij, hv, hp⟩, k4⟩
    · rw [a1]
      rcases a2 with a2 | a2
      · rw [a2]
      · rw [a2]; cases T.getD i none <;> rfl
    rw [a1, e2, a2]
    simp only [e3]
    have hjl := getD_some_lt hv
    refine ih (i + 1) _ S' T' dims' (max da p) (max db s.1.length) (fun k hk => ?_) ?_ (fun a ha => ?_) hL' hd' (by omega) (by omega) (fun j u hu => ?_) ?_ ?_ (fun hr => ?_)
    · have := hwf (k + 1) (by simp; omega)
      rw [show i + 1 + k = i + (k + 1) by omega]
      exact this
    · rw [setsF_cons] at hnd
      split at hnd
      · exact (List.nodup_cons.1 hnd).2
      · exact hnd
    · rw [setsF_cons] at hnd hsD
      by_cases h : x.op = 4
      · rw [if_pos h] at hnd hsD
        have h5 : a ≠ x.a.toNat := fun e => by subst e; exact (List.nodup_cons.1 hnd).1 ha
        rw [hsD a (List.mem_cons_of_mem _ ha), decide_eq_false h5]; simp
      · rw [if_neg h] at hsD
        rw [hsD a ha, decide_eq_false h]; rfl
    · rcases k4 j u hu with e | ⟨u', hu', e⟩
      · omega
      · have := h1 j u' hu'; rw [e] at this; omega
    · have := h1 i s e1; omega
    · by_cases hpd : da ≤ p
      · exact .inr ⟨j, v, by omega, hv, by omega⟩
      rcases h3 with h3 | ⟨j2, u, hj2, hu, hl⟩
      · exact .inl (by omega)
      by_cases hje : j2 = i
      · subst hje
        rw [e1] at hu
        obtain rfl := Option.some.inj hu
        exact .inl (by omega)
      · obtain ⟨v2, hv2, ev⟩ := k1 j2 u hu
        exact .inr ⟨j2, v2, by omega, hv2, by rw [ev]; omega⟩
    · subst hr
      simp only [List.length_nil] at hin
      obtain rfl : j = i + 1 := by omega
      exact ⟨v, hv⟩
/-- Both verifiers give the same answer. -/
theorem ver_same (l : List Ins) (sl : List ByteArray) : verA l sl = verB l sl := by
  unfold verA verB
  by_cases h : formF l sl = true
  · rw [if_pos h, if_pos h]
    unfold formF wordsF at h
    simp only [Bool.and_eq_true, decide_eq_true_eq, List.all_eq_true, List.mem_range] at h
    obtain ⟨⟨-, hwf⟩, ⟨⟨hm, -⟩, -⟩, hnd⟩ := h
    have g1 : ∀ k, k ≠ 0 → (some ([], List.replicate 12 false) :: List.replicate l.length (none : Option (List Int × List Bool))).getD k none = none := fun k hk => by
      cases k with
      | zero => exact absurd rfl hk
      | succ k => rw [List.getD_cons_succ, List.getD_eq_getElem?_getD, List.getElem?_replicate]; split <;> rfl
    have g2 : ∀ k, k ≠ 0 → (some ([], List.replicate sl.length 0) :: List.replicate l.length (none : Option (List Int × List Int))).getD k none = none := fun k hk => by
      cases k with
      | zero => exact absurd rfl hk
      | succ k => rw [List.getD_cons_succ, List.getD_eq_getElem?_getD, List.getElem?_replicate]; split <;> rfl
    have gf : ∀ k, (List.replicate 12 false).getD k false = false := fun k => by
      rw [List.getD_eq_getElem?_getD, List.getElem?_replicate]; split <;> rfl
    refine go_agr hm l 0 (fun _ => false) _ _ _ 0 0 (fun k hk => by rw [Nat.zero_add]; exact hwf k hk) hnd (fun _ _ => rfl) ⟨by simp, fun k => ?_⟩ (by simp) (by simp) (by simp) (fun j u hu => ?_) (Nat.le_refl _) (.inl (Nat.le_refl _)) (fun hr => ⟨_, rfl⟩)
    · by_cases hk : k = 0
      · subst hk
        refine ⟨⟨rfl, by simp, by simp, fun k hk => ?_, fun z hz => (by cases hz), fun k _ hb => ?_, fun k hb => ?_⟩, by simp⟩
        · rw [gf, List.getD_eq_getElem?_getD, List.getElem?_replicate, if_neg (by decide : ¬ false = true)]; split <;> rfl
        · rw [gf] at hb; cases hb
        · rw [gf] at hb; cases hb
      · rw [g1 k hk, g2 k hk]; trivial
    · by_cases hk : j = 0
      · subst hk
        obtain rfl := Option.some.inj hu
        exact Nat.le_refl _
      · rw [g1 j hk] at hu; cases hu
  · rw [if_neg h, if_neg h]
end Go.Proofs.YtaghhncnicbedaaGreatDoor

