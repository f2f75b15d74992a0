/- What a source makes is formed and has the dimension that was asked for. No program in sight. -/
import Derived.Test.YtlheailebbngiaaGreatDoorQBestP
import Derived.Test.YtlheailebbngiaaGreatDoorQNames
import Derived.Test.YtlheailebbngiaaGreatDoorQTop
import Derived.Test.YtlheailebbngiaaGreatDoorVwP
set_option linter.all false
namespace Go.Proofs.YtlheailebbngiaaGreatDoor
/-- An environment: names that are no inputs, each with its one dimension. -/
def EnvG (env : List (ByteArray × Int)) : Prop := ∀ p ∈ env, inpD p.1.toList = 0 ∧ nameB p.1 = true ∧ 1 ≤ p.2 ∧ p.2 ≤ 4 ∧ lastN env p.1 = some p.2
theorem EnvG.nil : EnvG [] := fun p hp => by cases hp
theorem mkD_dvd {n d : Int} (h2 : 1 ≤ d) (he : mkE n d = 0) : mkD n d ∣ d := by
  unfold mkE lowE at he
  unfold mkD lowD
  rw [if_neg (by omega)] at he ⊢
  split at he <;> rename_i hc
  · simp at he
  rw [if_neg hc]
  obtain ⟨b, rfl⟩ := Int.eq_ofNat_of_zero_le (show 0 ≤ d by omega)
  rw [Int.natAbs_natCast]
  exact Int.natCast_dvd_natCast.2 (Nat.div_dvd_of_dvd (Nat.gcd_dvd_right _ _))
theorem mkN_le {n d : Int} (h1 : 0 ≤ n) (h2 : 1 ≤ d) : mkN n d ≤ n := by
  unfold mkN lowN
  rw [if_neg (by omega), decide_eq_false (by omega), decide_eq_false (by omega)]
  split
  · omega
  · have := Nat.div_le_self n.natAbs (Nat.gcd n.natAbs d.natAbs)
    simp only [bne_self_eq_false, Bool.false_eq_true, if_false]
    omega
theorem lit_ok {n d m : Int} (h1 : 0 ≤ n) (h2 : n ≤ 1000000) (h3 : 1 ≤ d) (h4 : d ∣ 10000) (h5 : 2 ≤ m ∧ m ≤ 4) : decOk (mkN n d) (mkD n d) m = true := by
  have hd : d ≤ 10000 := Int.le_of_dvd (by omega) h4
  have he := mkE_small h1 (by omega) h3 (by omega)
  have hv := mk_vfrac (show d ≠ 0 by omega) he
  have hb := vfrac_bd hv
  have hn := mkN_nonneg h1 h3
  have hl := mkN_le h1 h3
  have hdv : mkD n d ∣ 10000 := Int.dvd_trans (mkD_dvd h3 he) h4
  have hq : mkN n d / mkD n d ≤ mkN n d := Int.ediv_le_self _ hn
  unfold decOk
  rw [hv, decide_eq_true hn, decide_eq_true (Int.emod_eq_zero_of_dvd hdv), decide_eq_true h5.1, decide_eq_true h5.2, decide_eq_true (by omega)]
  rfl
theorem num_ok (zs : List Int) (p : Nat) {m : Int} (h5 : 2 ≤ m ∧ m ≤ 4) : decOk (numN zs p) (numD zs p) m = true := by
  have h1 := nextV_bd zs p 4000 (by omega)
  have h2 := nextV_bd zs (p + 1) 7 (by omega)
  unfold numN numD
  refine lit_ok h1.1 (by omega) ?_ ?_ h5
  all_goals
    generalize nextV zs (p + 1) 7 = i at *
    rcases (show i = 0 ∨ i = 1 ∨ i = 2 ∨ i = 3 ∨ i = 4 ∨ i = 5 ∨ i = 6 by omega) with rfl | rfl | rfl | rfl | rfl | rfl | rfl <;> decide
theorem inp_names : ∀ p ∈ inpN, nameB p.1 = true ∧ inpD p.1.toList = p.2 := by decide +kernel
theorem name_in {env : List (ByteArray × Int)} (hE : EnvG env) {dim : Int} (hd : 2 ≤ dim) {s : ByteArray} (h : s ∈ allNames env dim) : nameB s = true ∧ inferN env s = (dim, 0) := by
  unfold allNames namesOf at h
  rcases List.mem_append.1 h with h | h
  · obtain ⟨p, hp, rfl⟩ := List.mem_map.1 h
    obtain ⟨hp, hq⟩ := List.mem_filter.1 hp
    have hq := of_decide_eq_true hq
    obtain ⟨h1, h2⟩ := inp_names p hp
    refine ⟨h1, ?_⟩
    unfold inferN
    rw [if_pos (by omega), h2, hq]
  · obtain ⟨p, hp, rfl⟩ := List.mem_map.1 h
    obtain ⟨hp, hq⟩ := List.mem_filter.1 hp
    have hq := of_decide_eq_true hq
    obtain ⟨h1, h2, h3, h4, h5⟩ := hE p hp
    refine ⟨h2, ?_⟩
    unfold inferN
    rw [if_neg (by omega), h5, hq]
/-- A tree with a dimension. -/
def TypedE (env : List (ByteArray × Int)) (dim : Int) (e : Ex) : Prop := formedB e = true ∧ inferF env e = (dim, 0)
theorem leafN_typed (zs : List Int) {env : List (ByteArray × Int)} (hE : EnvG env) (p : Nat) {dim : Int} (h1 : 2 ≤ dim) (h2 : dim ≤ 4) : TypedE env dim (leafN zs env p dim).1 := by
  have hb := nextV_bd zs p ((allNames env dim).length + 3) (by omega)
  unfold leafN
  split <;> rename_i hc
  · have hm : ((allNames env dim).getD (nextV zs p ((allNames env dim).length + 3)).toNat ByteArray.empty) ∈ allNames env dim := by
      have hlt : (nextV zs p ((allNames env dim).length + 3)).toNat < (allNames env dim).length := by omega
      rw [List.getD_eq_getElem?_getD, List.getElem?_eq_getElem hlt]
      exact List.getElem_mem _
    obtain ⟨g1, g2⟩ := name_in hE h1 hm
    generalize (allNames env dim).getD (nextV zs p ((allNames env dim).length + 3)).toNat ByteArray.empty = nm at g1 g2 ⊢
    refine ⟨?_, ?_⟩
    · rw [formedB_eq]
      simp [Ex.op, Ex.args, Ex.name, Ex.num, Ex.den, Ex.dim, argsN, g1]
    · rw [inferF_eq]
      unfold infNode
      exact g2
  · split <;> rename_i hc2
    · have h5 := nextV_bd zs (p + 1) 5 (by omega)
      obtain ⟨rfl, -⟩ := hc2
      refine ⟨?_, by rw [inferF_eq]; rfl⟩
      rw [formedB_eq]
      have e : ByteArray.empty.toList.isEmpty = true := by decide +kernel
      simp [Ex.op, Ex.args, Ex.name, Ex.num, Ex.den, Ex.dim, argsN, e]
      exact ⟨decide_eq_true (by omega), decide_eq_true (by omega)⟩
    · refine ⟨?_, by rw [inferF_eq]; rfl⟩
      have := num_ok zs (p + 1) ⟨h1, h2⟩
      rw [formedB_eq]
      simp [Ex.op, Ex.args, Ex.name, Ex.num, Ex.den, Ex.dim, argsN, this]
/-- Operands with their dimensions. -/
def TypedL (env : List (ByteArray × Int)) (ds : List Int) (l : List Ex) : Prop := formedsB l = true ∧ infersF env l = (ds, 0) ∧ l.length = ds.length
theorem TypedL.nil (env : List (ByteArray × Int)) : TypedL env [] [] := ⟨rfl, rfl, rfl⟩
theorem TypedL.cons {env : List (ByteArray × Int)} {d : Int} {ds : List Int} {e : Ex} {l : List Ex} (h : TypedE env d e) (g : TypedL env ds l) : TypedL env (d :: ds) (e :: l) := by
  refine ⟨by rw [formedsB, h.1, g.1]; rfl, ?_, by simp [g.2.2]⟩
  rw [infersF, h.2, g.2.1]; simp
theorem node_typed {env : List (ByteArray × Int)} {op dim : Int} {ds : List Int} {l : List Ex} (g : TypedL env ds l) (h4 : 4 ≤ op) (ha : (ds.length : Int) = argsN op) (hr : resD op ds = dim) (hd : dim ≠ 0) : TypedE env dim (.mk op 0 0 0 ByteArray.empty l) := by
  refine ⟨?_, ?_⟩
  · rw [formedB_eq]
    show (decide ((l.length : Int) = argsN op) && _) = true
    rw [decide_eq_true (by rw [g.2.2]; exact ha), Bool.true_and]
    show (if op = 1 then _ else _) = true
    rw [if_neg (by omega), if_neg (by show ¬ op = 2; omega), if_neg (by show ¬ op = 3; omega)]
    show (formedsB l && _) = true
    have e : ByteArray.empty.toList.isEmpty = true := by decide +kernel
    rw [g.1]; simp [Ex.num, Ex.den, Ex.dim, Ex.name, e]
  · rw [inferF_eq]
    show infNode op 0 _ (infersF env l) = _
    rw [g.2.1]
    unfold infNode
    rw [if_neg (by omega), if_neg (by omega), if_neg (by omega), if_neg (by simp)]
    show (if resD op ds = 0 then _ else _) = _
    rw [hr, if_neg hd]
theorem leafF_typed (zs : List Int) {env : List (ByteArray × Int)} (hE : EnvG env) (p : Nat) (left : Int) {dim : Int} (h1 : 1 ≤ dim) (h2 : dim ≤ 4) : TypedE env dim (leafF zs env dim p left).1 := by
  unfold leafF
  split <;> rename_i hc
  · subst hc
    have a := nextV_bd zs p 3 (by omega)
    have b := nextV_bd zs (p + 1) 6 (by omega)
    generalize nextV zs p 3 = x at *
    generalize nextV zs (p + 1) 6 = o at *
    refine node_typed (ds := [2 + x, 2 + x]) (.cons (leafN_typed zs hE _ (by omega) (by omega)) (.cons (leafN_typed zs hE _ (by omega) (by omega)) (.nil _))) (by omega) ?_ ?_ (by omega)
    · unfold argsN; rw [if_neg (by omega), if_neg (by omega), if_pos (by omega)]; rfl
    · rw [res_cmp _ _ ⟨by omega, by omega⟩, if_pos ⟨rfl, by omega⟩]
  · exact leafN_typed zs hE p (by omega) h2
def prodT (dim : Int) : Option (Int × List Int × Nat) → Prop
  | none => True
  | some t => 4 ≤ t.1 ∧ (t.2.1.length : Int) = argsN t.1 ∧ resD t.1 t.2.1 = dim ∧ ∀ d ∈ t.2.1, 1 ≤ d ∧ d ≤ 4
theorem prodT_ite {dim : Int} {c : Prop} [Decidable c] {a b : Option (Int × List Int × Nat)} (ha : c → prodT dim a) (hb : ¬ c → prodT dim b) : prodT dim (if c then a else b) := by
  split <;> rename_i h
  · exact ha h
  · exact hb h
theorem prodF_typed (zs : List Int) (p : Nat) {dim : Int} (h1 : 1 ≤ dim) (h2 : dim ≤ 4) : prodT dim (prodF zs p dim) := by
  have a := nextV_bd zs p 14 (by omega)
  have b := nextV_bd zs (p + 1) 3 (by omega)
  have c := nextV_bd zs (p + 2) 6 (by omega)
  unfold prodF
  generalize nextV zs p 14 = x at *
  generalize nextV zs (p + 1) 3 = y at *
  generalize nextV zs (p + 2) 6 = z at *
  rcases (show dim = 1 ∨ dim = 2 ∨ dim = 3 ∨ dim = 4 by omega) with rfl | rfl | rfl | rfl
  all_goals
    repeat' (first | refine prodT_ite (fun _ => ?_) (fun _ => ?_))
    all_goals first
      | trivial
      | (exfalso; omega)
      | (refine ⟨by show (4 : Int) ≤ _; omega, ?_, ?_, ?_⟩
         · show ((_ : List Int).length : Int) = argsN _
           unfold argsN
           (repeat' split) <;> first | rfl | (exfalso; omega) | (simp; done)
         · unfold resD
           simp
           try omega
         · intro d hd
           simp at hd
           omega)
theorem nodeF_typed {env : List (ByteArray × Int)} {E : Int → Nat → Int → Ex × Nat × Int} (hE : ∀ d p left, 1 ≤ d → d ≤ 4 → TypedE env d (E d p left).1) (ds : List Int) : (∀ d ∈ ds, 1 ≤ d ∧ d ≤ 4) → ∀ p left, TypedL env ds (nodeF E ds p left).1 := by
  induction ds with
  | nil => intro _ p left; exact .nil _
  | cons d ds ih =>
    intro h p left
    have hd := h d (by simp)
    exact .cons (hE d p left hd.1 hd.2) (ih (fun x hx => h x (by simp [hx])) _ _)
theorem exprF_typed (zs : List Int) {env : List (ByteArray × Int)} (hE : EnvG env) (n : Nat) : ∀ (dim : Int) (p : Nat) (left : Int), 1 ≤ dim → dim ≤ 4 → TypedE env dim (exprF zs env n dim p left).1 := by
  induction n with
  | zero => intro dim p left h1 h2; exact leafF_typed zs hE p left h1 h2
  | succ n ih =>
    intro dim p left h1 h2
    by_cases hl : left ≤ 0
    · rw [exprF_leaf zs env _ dim p left (.inr hl)]
      exact leafF_typed zs hE p left h1 h2
    · have hp := prodF_typed zs p h1 h2
      cases hq : prodF zs p dim with
      | none =>
        rw [exprF_none zs env n dim p left (by omega) hq]
        exact leafF_typed zs hE _ _ h1 h2
      | some t =>
        obtain ⟨op, ds, q⟩ := t
        rw [hq] at hp
        obtain ⟨g1, g2, g3, g4⟩ := hp
        rw [exprF_some zs env n dim p left (by omega) hq]
        exact node_typed (nodeF_typed (fun d p left a b => ih d p left a b) ds g4 q (left - 2)) g1 g2 g3 (by omega)
theorem leafN_depth (zs : List Int) (env : List (ByteArray × Int)) (p : Nat) (dim : Int) : (leafN zs env p dim).1.depth = 1 := by
  unfold leafN
  split
  · simp [Ex.depth, Ex.depths]
  · split <;> simp [Ex.depth, Ex.depths]
theorem leafF_depth (zs : List Int) (env : List (ByteArray × Int)) (dim : Int) (p : Nat) (left : Int) : (leafF zs env dim p left).1.depth ≤ 2 := by
  unfold leafF
  split
  · simp [Ex.depth, Ex.depths, leafN_depth]
  · simp [leafN_depth]
/-- What 'Expr' makes is valid and typed. -/
theorem topF_typed (zs : List Int) {env : List (ByteArray × Int)} (hE : EnvG env) {dim : Int} (h1 : 1 ≤ dim) (h2 : dim ≤ 4) : TypedE env dim (topF zs env dim) ∧ validB (topF zs env dim) = true := by
  unfold topF
  split <;> rename_i hv
  · exact ⟨exprF_typed zs hE 5 dim 0 24 h1 h2, hv⟩
  · have ht := leafF_typed zs hE (exprF zs env 5 dim 0 24).2.1 0 h1 h2
    refine ⟨ht, ?_⟩
    have a := leafF_depth zs env dim (exprF zs env 5 dim 0 24).2.1 0
    have b := leafF_size zs env dim (exprF zs env 5 dim 0 24).2.1 0
    unfold validB
    rw [ht.1, decide_eq_true (by omega), decide_eq_true (by omega)]
    rfl
end Go.Proofs.YtlheailebbngiaaGreatDoor
