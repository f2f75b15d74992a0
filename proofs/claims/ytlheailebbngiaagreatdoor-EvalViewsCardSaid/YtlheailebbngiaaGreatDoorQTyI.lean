/- Inference, position by position; the result's dimension for every operation. -/
import Derived.Test.YtlheailebbngiaaGreatDoorQTyS
import Derived.Test.YtlheailebbngiaaGreatDoorQNames
import Derived.Test.YtlheailebbngiaaGreatDoorQSyE
import Derived.Test.YtlheailebbngiaaGreatDoorQSyT
import Derived.Test.YtlheailebbngiaaGreatDoorQSrc
import Derived.Test.YtlheailebbngiaaGreatDoorQEvC
set_option linter.all false
namespace Go.Proofs.YtlheailebbngiaaGreatDoor
open Go.RowKit
theorem resD_bd {op : Int} {d : List Int} (h : ∀ x ∈ d, 1 ≤ x ∧ x ≤ 4) (hr : resD op d ≠ 0) : 1 ≤ resD op d ∧ resD op d ≤ 4 := by
  have g : ∀ k, d.getD k 0 = 0 ∨ (1 ≤ d.getD k 0 ∧ d.getD k 0 ≤ 4) := fun k => by
    by_cases hk : k < d.length
    · rw [List.getD_eq_getElem?_getD, List.getElem?_eq_getElem hk]; exact .inr (h _ (List.getElem_mem hk))
    · rw [List.getD_eq_getElem?_getD, List.getElem?_eq_none (by omega)]; exact .inl rfl
  have g0 := g 0
  have g1 := g 1
  unfold resD at hr ⊢
  dsimp only at hr ⊢
  generalize d.getD 0 0 = a at *
  generalize d.getD 1 0 = b at *
  generalize d.getD 2 0 = c at *
  clear h g
  (repeat' split) <;> (repeat' split at hr) <;> omega
theorem dimsOk_mem {env : List (ByteArray × Int)} (h : dimsOk env = true) {p : ByteArray × Int} (hp : p ∈ env) : 1 ≤ p.2 ∧ p.2 ≤ 4 := by
  have := List.all_eq_true.1 h p hp
  simpa using this
theorem lastN_in {α : Type} {env : List (ByteArray × α)} {s : ByteArray} {x : α} (h : lastN env s = some x) : ∃ p ∈ env, p.2 = x := by
  unfold lastN at h
  obtain ⟨p, hp, rfl⟩ := Option.map_eq_some_iff.1 h
  exact ⟨p, List.mem_reverse.1 (List.mem_of_find?_eq_some hp), rfl⟩
mutual
theorem infer_dim {env : List (ByteArray × Int)} (hE : dimsOk env = true) : ∀ e : Ex, formedB e = true → (inferF env e).2 = 0 → 1 ≤ (inferF env e).1 ∧ (inferF env e).1 ≤ 4
  | .mk op n d m s l => by
    intro hf hi
    rw [formedB, Bool.and_eq_true, decide_eq_true_eq] at hf
    rw [inferF] at hi ⊢
    obtain ⟨ha, hf⟩ := hf
    unfold infNode at hi ⊢
    by_cases c1 : op = 1
    · subst c1
      rw [if_pos rfl] at hf
      simp only [Bool.and_eq_true] at hf
      have := decOk_bd hf.1
      exact ⟨by show 1 ≤ m; omega, by show m ≤ 4; omega⟩
    rw [if_neg c1] at hi hf ⊢
    by_cases c3 : op = 3
    · rw [if_pos c3]; exact ⟨by show (1 : Int) ≤ 4; omega, by show (4 : Int) ≤ 4; omega⟩
    rw [if_neg c3] at hi ⊢
    by_cases c2 : op = 2
    · rw [if_pos c2] at hi ⊢
      unfold inferN at hi ⊢
      by_cases cd : inpD s.toList ≠ 0
      · rw [if_pos cd]
        have := inpD_bd s.toList
        exact ⟨by show 1 ≤ inpD s.toList; omega, by show inpD s.toList ≤ 4; omega⟩
      · rw [if_neg cd] at hi ⊢
        cases hl : lastN env s with
        | none => rw [hl] at hi; simp at hi
        | some x =>
          obtain ⟨p, hp, rfl⟩ := lastN_in hl
          exact dimsOk_mem hE hp
    rw [if_neg c2, if_neg c3] at hf
    rw [if_neg c2] at hi ⊢
    simp only [Bool.and_eq_true] at hf
    split at hi <;> rename_i c4
    · exact absurd hi c4
    rw [if_neg c4]
    split at hi <;> rename_i c5
    · simp at hi
    rw [if_neg c5]
    exact resD_bd (infers_dim hE l hf.1 (by omega)) c5
theorem infers_dim {env : List (ByteArray × Int)} (hE : dimsOk env = true) : ∀ l : List Ex, formedsB l = true → (infersF env l).2 = 0 → ∀ x ∈ (infersF env l).1, 1 ≤ x ∧ x ≤ 4
  | [] => by intro _ _ x hx; simp [infersF] at hx
  | e :: r => by
    intro hf h x hx
    rw [formedsB, Bool.and_eq_true] at hf
    rw [infersF] at h hx
    split at h <;> rename_i c1
    · exact absurd h c1
    split at h <;> rename_i c2
    · exact absurd h c2
    rw [if_neg c1, if_neg c2] at hx
    rcases List.mem_cons.1 hx with rfl | hx
    · exact infer_dim hE e hf.1 (by omega)
    · exact infers_dim hE r hf.2 (by omega) x hx
end
theorem infers_bad (env : List (ByteArray × Int)) : ∀ (l : List Ex) (k : Nat), k < l.length → (∀ j, j < k → (inferF env (l.getD j default)).2 = 0) → (inferF env (l.getD k default)).2 ≠ 0 →
    (infersF env l).2 = (inferF env (l.getD k default)).2
  | [], k, hk, _, _ => by simp at hk
  | e :: r, 0, _, _, h => by
    rw [infersF, if_pos (by simpa using h)]; rfl
  | e :: r, k + 1, hk, hj, h => by
    have h0 : (inferF env e).2 = 0 := hj 0 (by omega)
    have hr := infers_bad env r k (by simpa using hk) (fun j hjk => hj (j + 1) (by omega)) h
    have hne : (infersF env r).2 ≠ 0 := by rw [hr]; exact h
    rw [infersF, if_neg (by omega), if_pos hne]
    exact hr
theorem infers_ok (env : List (ByteArray × Int)) : ∀ l : List Ex, (∀ j, j < l.length → (inferF env (l.getD j default)).2 = 0) → infersF env l = (l.map fun e => (inferF env e).1, 0)
  | [], _ => by rw [infersF]; rfl
  | e :: r, h => by
    have h0 : (inferF env e).2 = 0 := h 0 (by simp)
    have hr := infers_ok env r (fun j hj => h (j + 1) (by simpa using hj))
    rw [infersF, if_neg (by omega), hr, if_neg (by simp)]
    rfl
theorem len1 {d : List Int} (h : (d.length : Int) = 1) : ∃ x, d = [x] := List.length_eq_one_iff.1 (by omega)
theorem len2 {d : List Int} (h : (d.length : Int) = 2) : ∃ x y, d = [x, y] := by
  match d, (show d.length = 2 by omega) with
  | [a, b], _ => exact ⟨a, b, rfl⟩
theorem len3 {d : List Int} (h : (d.length : Int) = 3) : ∃ x y z, d = [x, y, z] := by
  match d, (show d.length = 3 by omega) with
  | [a, b, c], _ => exact ⟨a, b, c, rfl⟩
theorem own_cell {w : World} {base g cap : Nat} {d : List Int} (h : w.ownsRow base 3 1 (.slice (some ⟨g, 0, none⟩) d.length cap) d.length (d.map (Value.int .i64))) (k : Nat) (hk : k < d.length) : w.cell? ⟨g, 0 + k, none⟩ = some (.int .i64 (d.getD k 0)) := by
  have := World.ownsRow.cells (g := g) h rfl k (.int .i64 (d.getD k 0)) (by rw [List.getElem?_map, List.getD_eq_getElem?_getD, List.getElem?_eq_getElem hk]; rfl)
  rw [addr_add] at this
  rw [Nat.zero_add]; exact this
theorem res2_all (op : Int) (d : List Int) (base g cap : Nat) (w : World) (h4 : 4 ≤ op) (h21 : op ≤ 21) (hl : (d.length : Int) = argsN op) (hx : ∀ x ∈ d, 1 ≤ x) (h : w.ownsRow base 3 1 (.slice (some ⟨g, 0, none⟩) d.length cap) d.length (d.map (Value.int .i64))) :
    Calls Tryz.prog 139 #[.int .i64 op, .slice (some ⟨g, 0, none⟩) d.length cap] w (Res2P (resD op d) w) := by
  have hc := own_cell h
  clear h
  rcases (show op = 4 ∨ op = 5 ∨ op = 6 ∨ op = 7 ∨ op = 8 ∨ op = 9 ∨ op = 10 ∨ op = 11 ∨ op = 12 ∨ op = 13 ∨ op = 14 ∨ op = 15 ∨ op = 16 ∨ op = 17 ∨ op = 18 ∨ op = 19 ∨ op = 20 ∨ op = 21 by omega) with rfl | rfl | rfl | rfl | rfl | rfl | rfl | rfl | rfl | rfl | rfl | rfl | rfl | rfl | rfl | rfl | rfl | rfl
  · obtain ⟨x, rfl⟩ := len1 (d := d) (by rw [hl]; rfl)
    exact res2_4 x g 0 cap w (hc 0 (by simp)) (hx _ (by simp))
  · obtain ⟨x, rfl⟩ := len1 (d := d) (by rw [hl]; rfl)
    exact res2_5 x g 0 cap w (hc 0 (by simp)) (hx _ (by simp))
  · obtain ⟨x, rfl⟩ := len1 (d := d) (by rw [hl]; rfl)
    exact res2_6 x g 0 cap w (hc 0 (by simp)) (hx _ (by simp))
  · obtain ⟨x, y, rfl⟩ := len2 (d := d) (by rw [hl]; rfl)
    exact res2_7 x y g 0 cap w (hc 0 (by simp)) (hc 1 (by simp)) ⟨hx _ (by simp), hx _ (by simp)⟩
  · obtain ⟨x, y, rfl⟩ := len2 (d := d) (by rw [hl]; rfl)
    exact res2_8 x y g 0 cap w (hc 0 (by simp)) (hc 1 (by simp)) ⟨hx _ (by simp), hx _ (by simp)⟩
  · obtain ⟨x, y, rfl⟩ := len2 (d := d) (by rw [hl]; rfl)
    exact res2_9 x y g 0 cap w (hc 0 (by simp)) (hc 1 (by simp)) ⟨hx _ (by simp), hx _ (by simp)⟩
  · obtain ⟨x, y, rfl⟩ := len2 (d := d) (by rw [hl]; rfl)
    exact res2_10 x y g 0 cap w (hc 0 (by simp)) (hc 1 (by simp)) ⟨hx _ (by simp), hx _ (by simp)⟩
  · obtain ⟨x, y, rfl⟩ := len2 (d := d) (by rw [hl]; rfl)
    exact res2_11 x y g 0 cap w (hc 0 (by simp)) (hc 1 (by simp)) ⟨hx _ (by simp), hx _ (by simp)⟩
  · obtain ⟨x, y, rfl⟩ := len2 (d := d) (by rw [hl]; rfl)
    exact res2_12 x y g 0 cap w (hc 0 (by simp)) (hc 1 (by simp)) ⟨hx _ (by simp), hx _ (by simp)⟩
  · obtain ⟨x, y, rfl⟩ := len2 (d := d) (by rw [hl]; rfl)
    exact res2_13 x y g 0 cap w (hc 0 (by simp)) (hc 1 (by simp)) ⟨hx _ (by simp), hx _ (by simp)⟩
  · obtain ⟨x, y, rfl⟩ := len2 (d := d) (by rw [hl]; rfl)
    exact res2_14 x y g 0 cap w (hc 0 (by simp)) (hc 1 (by simp)) ⟨hx _ (by simp), hx _ (by simp)⟩
  · obtain ⟨x, y, rfl⟩ := len2 (d := d) (by rw [hl]; rfl)
    exact res2_15 x y g 0 cap w (hc 0 (by simp)) (hc 1 (by simp)) ⟨hx _ (by simp), hx _ (by simp)⟩
  · obtain ⟨x, y, rfl⟩ := len2 (d := d) (by rw [hl]; rfl)
    exact res2_16 x y g 0 cap w (hc 0 (by simp)) (hc 1 (by simp)) ⟨hx _ (by simp), hx _ (by simp)⟩
  · obtain ⟨x, y, rfl⟩ := len2 (d := d) (by rw [hl]; rfl)
    exact res2_17 x y g 0 cap w (hc 0 (by simp)) (hc 1 (by simp)) ⟨hx _ (by simp), hx _ (by simp)⟩
  · obtain ⟨x, y, rfl⟩ := len2 (d := d) (by rw [hl]; rfl)
    exact res2_18 x y g 0 cap w (hc 0 (by simp)) (hc 1 (by simp)) ⟨hx _ (by simp), hx _ (by simp)⟩
  · obtain ⟨x, y, rfl⟩ := len2 (d := d) (by rw [hl]; rfl)
    exact res2_19 x y g 0 cap w (hc 0 (by simp)) (hc 1 (by simp)) ⟨hx _ (by simp), hx _ (by simp)⟩
  · obtain ⟨x, y, rfl⟩ := len2 (d := d) (by rw [hl]; rfl)
    exact res2_20 x y g 0 cap w (hc 0 (by simp)) (hc 1 (by simp)) ⟨hx _ (by simp), hx _ (by simp)⟩
  · obtain ⟨x, y, z, rfl⟩ := len3 (d := d) (by rw [hl]; rfl)
    exact res2_21 x y z g 0 cap w (hc 0 (by simp)) (hc 1 (by simp)) (hc 2 (by simp)) ⟨hx _ (by simp), hx _ (by simp), hx _ (by simp)⟩
theorem res5_all (op : Int) (d : List Int) (base g cap : Nat) (w : World) (h4 : 4 ≤ op) (h21 : op ≤ 21) (hl : (d.length : Int) = argsN op) (hx : ∀ x ∈ d, 1 ≤ x) (h : w.ownsRow base 3 1 (.slice (some ⟨g, 0, none⟩) d.length cap) d.length (d.map (Value.int .i64))) :
    Calls Tryz.prog 148 #[.int .i64 op, .slice (some ⟨g, 0, none⟩) d.length cap] w (Res5P (resD op d) w) := by
  have hc := own_cell h
  clear h
  rcases (show op = 4 ∨ op = 5 ∨ op = 6 ∨ op = 7 ∨ op = 8 ∨ op = 9 ∨ op = 10 ∨ op = 11 ∨ op = 12 ∨ op = 13 ∨ op = 14 ∨ op = 15 ∨ op = 16 ∨ op = 17 ∨ op = 18 ∨ op = 19 ∨ op = 20 ∨ op = 21 by omega) with rfl | rfl | rfl | rfl | rfl | rfl | rfl | rfl | rfl | rfl | rfl | rfl | rfl | rfl | rfl | rfl | rfl | rfl
  · obtain ⟨x, rfl⟩ := len1 (d := d) (by rw [hl]; rfl)
    exact res5_4 x g 0 cap w (hc 0 (by simp)) (hx _ (by simp))
  · obtain ⟨x, rfl⟩ := len1 (d := d) (by rw [hl]; rfl)
    exact res5_5 x g 0 cap w (hc 0 (by simp)) (hx _ (by simp))
  · obtain ⟨x, rfl⟩ := len1 (d := d) (by rw [hl]; rfl)
    exact res5_6 x g 0 cap w (hc 0 (by simp)) (hx _ (by simp))
  · obtain ⟨x, y, rfl⟩ := len2 (d := d) (by rw [hl]; rfl)
    exact res5_7 x y g 0 cap w (hc 0 (by simp)) (hc 1 (by simp)) ⟨hx _ (by simp), hx _ (by simp)⟩
  · obtain ⟨x, y, rfl⟩ := len2 (d := d) (by rw [hl]; rfl)
    exact res5_8 x y g 0 cap w (hc 0 (by simp)) (hc 1 (by simp)) ⟨hx _ (by simp), hx _ (by simp)⟩
  · obtain ⟨x, y, rfl⟩ := len2 (d := d) (by rw [hl]; rfl)
    exact res5_9 x y g 0 cap w (hc 0 (by simp)) (hc 1 (by simp)) ⟨hx _ (by simp), hx _ (by simp)⟩
  · obtain ⟨x, y, rfl⟩ := len2 (d := d) (by rw [hl]; rfl)
    exact res5_10 x y g 0 cap w (hc 0 (by simp)) (hc 1 (by simp)) ⟨hx _ (by simp), hx _ (by simp)⟩
  · obtain ⟨x, y, rfl⟩ := len2 (d := d) (by rw [hl]; rfl)
    exact res5_11 x y g 0 cap w (hc 0 (by simp)) (hc 1 (by simp)) ⟨hx _ (by simp), hx _ (by simp)⟩
  · obtain ⟨x, y, rfl⟩ := len2 (d := d) (by rw [hl]; rfl)
    exact res5_12 x y g 0 cap w (hc 0 (by simp)) (hc 1 (by simp)) ⟨hx _ (by simp), hx _ (by simp)⟩
  · obtain ⟨x, y, rfl⟩ := len2 (d := d) (by rw [hl]; rfl)
    exact res5_13 x y g 0 cap w (hc 0 (by simp)) (hc 1 (by simp)) ⟨hx _ (by simp), hx _ (by simp)⟩
  · obtain ⟨x, y, rfl⟩ := len2 (d := d) (by rw [hl]; rfl)
    exact res5_14 x y g 0 cap w (hc 0 (by simp)) (hc 1 (by simp)) ⟨hx _ (by simp), hx _ (by simp)⟩
  · obtain ⟨x, y, rfl⟩ := len2 (d := d) (by rw [hl]; rfl)
    exact res5_15 x y g 0 cap w (hc 0 (by simp)) (hc 1 (by simp)) ⟨hx _ (by simp), hx _ (by simp)⟩
  · obtain ⟨x, y, rfl⟩ := len2 (d := d) (by rw [hl]; rfl)
    exact res5_16 x y g 0 cap w (hc 0 (by simp)) (hc 1 (by simp)) ⟨hx _ (by simp), hx _ (by simp)⟩
  · obtain ⟨x, y, rfl⟩ := len2 (d := d) (by rw [hl]; rfl)
    exact res5_17 x y g 0 cap w (hc 0 (by simp)) (hc 1 (by simp)) ⟨hx _ (by simp), hx _ (by simp)⟩
  · obtain ⟨x, y, rfl⟩ := len2 (d := d) (by rw [hl]; rfl)
    exact res5_18 x y g 0 cap w (hc 0 (by simp)) (hc 1 (by simp)) ⟨hx _ (by simp), hx _ (by simp)⟩
  · obtain ⟨x, y, rfl⟩ := len2 (d := d) (by rw [hl]; rfl)
    exact res5_19 x y g 0 cap w (hc 0 (by simp)) (hc 1 (by simp)) ⟨hx _ (by simp), hx _ (by simp)⟩
  · obtain ⟨x, y, rfl⟩ := len2 (d := d) (by rw [hl]; rfl)
    exact res5_20 x y g 0 cap w (hc 0 (by simp)) (hc 1 (by simp)) ⟨hx _ (by simp), hx _ (by simp)⟩
  · obtain ⟨x, y, z, rfl⟩ := len3 (d := d) (by rw [hl]; rfl)
    exact res5_21 x y z g 0 cap w (hc 0 (by simp)) (hc 1 (by simp)) (hc 2 (by simp)) ⟨hx _ (by simp), hx _ (by simp), hx _ (by simp)⟩
end Go.Proofs.YtlheailebbngiaaGreatDoor
/- typing.infer, typing.Infer: the dimension of an expression, in the program. -/
namespace Go.Proofs.YtlheailebbngiaaGreatDoor
open Go.RowKit
def InfP (r : Int × Int) (w : World) (e : Ending) (w' : World) : Prop := e = .returned (.tuple #[.int .i64 r.1, .int .i64 r.2]) ∧ w.Grows w'
theorem infP {r : Int × Int} {a b : Int} {w w' : World} (h : r = (a, b)) (hg : w.Grows w') : InfP r w (.returned (.tuple #[.int .i64 a, .int .i64 b])) w' := by subst h; exact ⟨rfl, hg⟩
theorem formeds_get {l : List Ex} (h : formedsB l = true) (k : Nat) (hk : k < l.length) : formedB (l.getD k default) = true := by
  by_cases hf : formedB (l.getD k default) = true
  · exact hf
  · rw [formedsB_no l k hk (by simpa using hf)] at h; cases h
/-- An operation's tree. -/
theorem formed_op {e : Ex} (h : formedB e = true) (h1 : ¬ e.op = 1) (h2 : ¬ e.op = 2) (h3 : ¬ e.op = 3) : (e.args.length : Int) = argsN e.op ∧ 4 ≤ e.op ∧ e.op ≤ 21 ∧ formedsB e.args = true := by
  rw [formedB_eq, Bool.and_eq_true, decide_eq_true_eq, if_neg h1, if_neg h2, if_neg h3, Bool.and_eq_true] at h
  have hop : 4 ≤ e.op ∧ e.op ≤ 21 := by have ha := h.1; unfold argsN at ha; (repeat' split at ha) <;> omega
  exact ⟨h.1, hop.1, hop.2, h.2.1⟩
abbrev infD (env : List (ByteArray × Int)) (e : Ex) : Int := (inferF env e).1
abbrev infC (env : List (ByteArray × Int)) (e : Ex) : Int := (inferF env e).2
abbrev dimsK (env : List (ByteArray × Int)) (e : Ex) (k : Nat) : List Int := (e.args.take k).map (infD env)
theorem dimsK_succ (env : List (ByteArray × Int)) (e : Ex) (k : Nat) (hk : k < e.args.length) : dimsK env e (k + 1) = dimsK env e k ++ [infD env (e.arg k)] := by
  unfold dimsK
  rw [List.take_succ_eq_append_getElem hk, List.map_append]
  congr 1
  show [infD env e.args[k]] = [infD env (e.args.getD k default)]
  rw [List.getD_eq_getElem?_getD, List.getElem?_eq_getElem hk]; rfl
/-- What the operation comes to once the operands are done. -/
theorem inf_op (env : List (ByteArray × Int)) (e : Ex) (h1 : ¬ e.op = 1) (h2 : ¬ e.op = 2) (h3 : ¬ e.op = 3) (hok : ∀ j, j < e.args.length → infC env (e.arg j) = 0) :
    inferF env e = if resD e.op (dimsK env e e.args.length) = 0 then (0, 6) else (resD e.op (dimsK env e e.args.length), 0) := by
  rw [inferF_eq, infers_ok env e.args hok]
  unfold infNode dimsK
  rw [if_neg h1, if_neg h3, if_neg h2, if_neg (by simp), List.take_length]
theorem inf_bad (env : List (ByteArray × Int)) (e : Ex) (h1 : ¬ e.op = 1) (h2 : ¬ e.op = 2) (h3 : ¬ e.op = 3) (k : Nat) (hk : k < e.args.length) (hj : ∀ j, j < k → infC env (e.arg j) = 0) (hb : infC env (e.arg k) ≠ 0) : inferF env e = (0, infC env (e.arg k)) := by
  have := infers_bad env e.args k hk hj hb
  rw [inferF_eq]
  unfold infNode
  have hb2 : (infersF env e.args).2 ≠ 0 := by rw [this]; exact hb
  rw [if_neg h1, if_neg h3, if_neg h2, if_pos hb2, this]; rfl
theorem own_grow {w : World} {base : Nat} {e : TypeId} {size : Nat} {v : Value} {n : Nat} {xs : List Value} (h : w.ownsRow base e size v n xs) {w' : World} (hg : w.Grows w') : w'.ownsRow base e size v n xs :=
  ownsRow_keep h fun k _ hk => hg.below.block k hk
theorem infoI : (Tryz.prog.info? 3).map (fun i => (i.zero, i.size, i.bytes)) = some (some (.int .i64 0), 1, 8) := by kernel_rfl
set_option maxHeartbeats 2000000 in
theorem infer2_leaf (env : List (ByteArray × Int)) (e : Ex) (a : Option Addr) (cap : Nat) (ve : Value) (w : World) (hv : BindAt w ve env) (ho : e.op = 1 ∨ e.op = 2 ∨ e.op = 3) : (Calls Tryz.prog 111 #[exV e (.slice a e.args.length cap), ve] w (InfP (inferF env e) w)) := by
  have HV := Lib.hid hv
  obtain ⟨-, ae, ce, rfl, -⟩ := hv
  have HF := Lib.hid (inferF_eq env e)
  unfold infNode at HF
  have HL := Lib.hid (lookV_infer env e.name)
  have HC : Hid (∀ w', w.Grows w' → Calls Tryz.prog 138 #[.string e.name, .slice ae env.length ce] w' (LkP env e.name w')) := Lib.hid (fun w' hg => lookup_any e.name env _ w' (HV.out.grows hg))
  unfold LkP at HC
  rcases ho with ho | ho | ho
  · go_enter Tryz.func111, Tryz.ntmps111
    go_wp2_with fail
    go_returns
    exact infP (by rw [HF.out, if_pos ho]) (.of_below (by (exact belB)))
  · cases hb : (lookV env e.name).2
    all_goals
      rw [hb] at HC
      have HB := Lib.hid hb
      clear hb
      generalize hm : (lookV env e.name).1 = m at HC
      have HM := Lib.hid hm
      clear hm
      go_enter Tryz.func111, Tryz.ntmps111
      go_wp2_with (go_at_call 138; refine (HC.out _ (.of_below (by (exact belB)))).mono ?_; rintro e' w' ⟨rfl, bs, d, rfl⟩)
      go_returns
      exact infP (by rw [HF.out, if_neg (by omega), if_neg (by omega), if_pos ho, HL.out, HB.out]; first | (rw [if_pos rfl, HM.out]; done) | (rw [if_neg (by simp)]; done)) (.of_below (by (exact belB)))
  · go_enter Tryz.func111, Tryz.ntmps111
    go_wp2_with fail
    go_returns
    exact infP (by rw [HF.out, if_neg (by omega), if_pos ho]) (.of_below (by (exact belB)))
set_option maxRecDepth 100000 in
set_option maxHeartbeats 4000000 in
theorem infer2_walk (S : Nat → Prop) (env : List (ByteArray × Int)) (hE : dimsOk env = true) (n : Nat) : ∀ (e : Ex), e.size ≤ n → formedB e = true → ∀ (v ve : Value) (w : World), RepE S w e v → BindAt w ve env →
    Calls Tryz.prog 111 #[exV e v, ve] w (InfP (inferF env e) w) := by
  induction n with
  | zero => intro e he; have := e.size_pos; omega
  | succ n ih =>
    intro e he hf v ve w h hv
    have HR := Lib.hid h
    have HV := Lib.hid hv
    have hrng := h.rng
    obtain ⟨a, cap, rfl⟩ := h.form0
    by_cases h1 : e.op = 1
    · exact infer2_leaf env e a cap ve w hv (.inl h1)
    by_cases h2 : e.op = 2
    · exact infer2_leaf env e a cap ve w hv (.inr (.inl h2))
    by_cases h3 : e.op = 3
    · exact infer2_leaf env e a cap ve w hv (.inr (.inr h3))
    obtain ⟨hal, ho4, ho21, hfs⟩ := formed_op hf h1 h2 h3
    have hn3 : e.args.length ≤ 3 ∧ 1 ≤ e.args.length := by unfold argsN at hal; (repeat' split at hal) <;> omega
    have HOK := Lib.hid (inf_op env e h1 h2 h3)
    have HBAD := Lib.hid (inf_bad env e h1 h2 h3)
    have HOP := Lib.hid (And.intro hal (And.intro ho4 ho21))
    have IH : Hid (∀ k, k < e.args.length → ∀ ak ck w', w.Grows w' → RepE S w' (e.arg k) (.slice ak (e.arg k).args.length ck) → Calls Tryz.prog 111 #[exV (e.arg k) (.slice ak (e.arg k).args.length ck), ve] w' (InfP (inferF env (e.arg k)) w')) :=
      Lib.hid (fun k hk ak ck w' hg hr => by
        have hsm := e.size_arg k hk
        exact ih (e.arg k) (by omega) (formeds_get hfs k hk) _ ve w' hr (HV.out.grows hg))
    have HDM : Hid (∀ k, k < e.args.length → infC env (e.arg k) = 0 → 1 ≤ infD env (e.arg k)) := Lib.hid (fun k hk hc => (infer_dim hE (e.arg k) (formeds_get hfs k hk) hc).1)
    unfold InfP at IH
    obtain ⟨-, ae, ce, rfl, -⟩ := hv
    have p1 : (e.op == 1) = false := by simpa using h1
    have p2 : (e.op == 2) = false := by simpa using h2
    have p3 : (e.op == 3) = false := by simpa using h3
    clear h ih hE hf hfs hal ho4 ho21 he h1 h2 h3
    obtain ⟨i0, hi, hz0, hz1, hz2⟩ := info_parts infoI
    go_enter Tryz.func111, Tryz.ntmps111
    go_wp2_with fail
    go_loopw [8, 38] (fun v8 v38 wr => ∃ k : Nat, k ≤ e.args.length ∧ v38 = .int .i64 k ∧ Hid (∀ j, j < k → infC env (e.arg j) = 0) ∧ Below (w.heap.size + 1) (w.alloc (.cells #[.int .i64 e.op, .int .i64 e.num, .int .i64 e.den, .int .i64 e.dim, .string e.name, .slice a e.args.length cap] 51)) wr ∧ wr.ownsRow (w.heap.size + 1) 3 1 v8 k ((dimsK env e k).map (Value.int .i64))) (fun _ v38 _ => e.args.length - (intOf v38).toNat)
    case atStart => exact ⟨0, by omega, rfl, Lib.hid (fun j hj => by omega), .refl _ _, World.ownsRow_nil _ _ _ _⟩
    case round =>
      obtain ⟨k, hk, rfl, hno, hB, hown⟩ := hrel
      have hsW : w.heap.size + 1 ≤ wr.heap.size := by have := hB.size; simpa using this
      have hbox : wr.cell? ⟨w.heap.size, 0, none⟩ = some (.int .i64 e.op) := by
        rw [hB.cell (p := ⟨w.heap.size, 0, none⟩) (by simp), World.cell?_alloc_at _ _ _ _ rfl]; rfl
      have hG : w.Grows wr := .of_below ((((Below.refl _ _).alloc (Nat.le_refl _) _)).trans (hB.mono (by omega)))
      have HB := Lib.hid hB
      have HO := Lib.hid hown
      have HG := Lib.hid hG
      by_cases hlt : k < e.args.length
      · have hRk := HR.out.grows hG
        cases hRk with
        | mk _ _ _ vs hr hc hs =>
          rcases hc with h0 | ⟨b, off, rfl, -, hbw, hx⟩
          · omega
          · have hR := hs k hlt
            obtain ⟨x0, x1, x2, x3, x4, x5⟩ := hx k hlt
            obtain ⟨ak, ck, hvk⟩ := hR.form0
            rw [hvk] at x5 hR
            have HRK := Lib.hid hR
            have hcall := fun w' hg hg2 => IH.out k hlt ak ck w' hg (HRK.out.grows hg2)
            have HNX := Lib.hid (dimsK_succ env e k hlt)
            have HKL := Lib.hid hlt
            have HBK := Lib.hid (fun hj hb => HBAD.out k hlt hj hb)
            have d1 : (k : Int) < (e.args.length : Int) := by omega
            clear hx hs hr hvk hG hB hown hR
            unfold exV at hcall
            obtain ⟨x, hxe⟩ : ∃ x, e.arg k = x := ⟨_, rfl⟩
            rw [hxe] at hcall x0 x1 x2 x3 x4 x5 HNX HBK
            have HXE := Lib.hid hxe
            clear hxe
            have HCL := Lib.hid hcall
            clear hcall
            obtain ⟨q, hq⟩ : ∃ q, inferF env x = q := ⟨_, rfl⟩
            unfold infC at HBK
            unfold infD at HNX
            rw [hq] at HCL HBK HNX
            have HQ := Lib.hid hq
            clear hq
            obtain ⟨qd, qc⟩ := q
            dsimp only at HCL HBK HNX
            by_cases hqc : qc = 0
            · subst hqc
              go_wp2_with (first
                | (go_at_call 111; refine (HCL.out _ (World.Grows.trans HG.out (.of_below (by (exact belB)))) (.of_below (by (exact belB)))).mono ?_; rintro e' w' ⟨rfl, bs, d, rfl⟩)
                | (at_builtin; refine wpList_append_own _ rfl _ _ 24 rfl (w.heap.size + 1) 3 i0 (.int .i64 0) 1 8 Tryz.underlying24 hi hz0 hz1 hz2 rfl (by decide) _ _ _ rfl ((own_grow (HO.out.alloc _) ⟨bs, d, rfl⟩).alloc _) ⟨wr.heap.size + 1 + bs.size, 0, none⟩ 1 1 [.int .i64 qd] rfl rfl ?c1 ?c2 ?c3 ?c4 ?c5 ?_))
              case c1 => exact news_cells _ [.int .i64 qd] _ _ (by simp)
              case c2 => intro u hu; simp at hu; subst hu; rfl
              case c3 => unfold maxLen; omega
              case c4 => omega
              case c5 => simp; omega
              intro v' w1 hown' hgrow _
              have HB1 := Lib.hid ((show Below (w.heap.size + 1) (w.alloc (.cells #[.int .i64 e.op, .int .i64 e.num, .int .i64 e.den, .int .i64 e.dim, .string e.name, .slice (some ⟨b, off, none⟩) e.args.length cap] 51)) _ from by have := HB.out; (exact belB)).grown hgrow (by simp; omega) (fun k hk => (HO.out.lt k hk).1))
              have HO1 := Lib.hid hown'
              clear hown' hgrow
              go_wp2_with fail
              go_roundw
              case rel => exact ⟨k + 1, HKL.out, by go_num, Lib.hid (fun j hj => by
                by_cases ej : j = k
                · subst ej; unfold infC; rw [HXE.out, HQ.out]
                · exact hno.out j (by omega)), HB1.out, by rw [HNX.out, List.map_append]; simpa [dimsK] using HO1.out⟩
              case measure => simp [intOf]; have := HKL.out; omega
            · have hq1 : (qc != 0) = true := by simpa using hqc
              have HQC := Lib.hid hqc
              clear hqc
              go_wp2_with (go_at_call 111; refine (HCL.out _ (World.Grows.trans HG.out (.of_below (by (exact belB)))) (.of_below (by (exact belB)))).mono ?_; rintro e' w' ⟨rfl, bs, d, rfl⟩)
              go_returns
              exact infP (HBK.out hno.out HQC.out) (World.Grows.trans HG.out (.of_below (by (exact belB))))
      · obtain rfl : k = e.args.length := by omega
        have hd := HOK.out hno.out
        have hdl : (dimsK env e e.args.length).length = e.args.length := by simp [dimsK]
        obtain ⟨-, ⟨_, h0⟩ | ⟨g, gc, cu, rfl, hbg, -⟩⟩ := hown
        · omega
        have hres := res2_all e.op (dimsK env e e.args.length) (w.heap.size + 1) g gc wr HOP.out.2.1 HOP.out.2.2 (by rw [hdl]; exact HOP.out.1) (fun y hy => by
          obtain ⟨t, ht, rfl⟩ := List.mem_map.1 hy
          rw [List.take_length] at ht
          obtain ⟨j, hj, rfl⟩ := List.mem_iff_getElem.1 ht
          have := HDM.out j hj (hno.out j hj)
          unfold Ex.arg at this
          rw [List.getD_eq_getElem?_getD, List.getElem?_eq_getElem hj] at this
          exact this) (by rw [hdl]; exact HO.out)
        rw [hdl] at hres
        obtain ⟨R, hR⟩ : ∃ R, resD e.op (dimsK env e e.args.length) = R := ⟨_, rfl⟩
        rw [hR] at hres hd
        have HD := Lib.hid hd
        unfold Res2P at hres
        clear hB hG hR hd hdl
        by_cases hR0 : R = 0
        · subst hR0
          have HRS := Lib.hid hres
          clear hres
          go_wp2_with (go_at_call 139; refine (HRS.out).mono ?_; rintro e' w' ⟨⟨m, rfl, -⟩, bs, d, rfl⟩)
          go_returns
          exact infP (by rw [HD.out]; simp) (World.Grows.trans HG.out (.of_below (by (exact belB))))
        · rw [decide_eq_true hR0] at hres
          have HRS := Lib.hid hres
          have HR0 := Lib.hid hR0
          clear hres hR0
          go_wp2_with (go_at_call 139; refine (HRS.out).mono ?_; rintro e' w' ⟨⟨m, rfl, hm⟩, bs, d, rfl⟩; obtain rfl := hm HR0.out; clear hm)
          go_returns
          exact infP (by rw [HD.out, if_neg HR0.out]) (World.Grows.trans HG.out (.of_below (by (exact belB))))
end Go.Proofs.YtlheailebbngiaaGreatDoor
/- What the walks of evaluator.expr and pensionref8.value need of a typed operation. No program in sight. -/
namespace Go.Proofs.YtlheailebbngiaaGreatDoor
theorem values_get (v : Vw) (env : List (ByteArray × Val)) (l : List Ex) (k : Nat) (hk : k < l.length) : (valuesF v env l).getD k (.zero, 0) = valueF v env (l.getD k default) := by
  induction l generalizing k with
  | nil => simp at hk
  | cons e r ih =>
    rw [valuesF]
    cases k with
    | zero => rfl
    | succ k => simpa using ih k (by simpa using hk)
theorem typed_all {env : List (ByteArray × Int)} {e : Ex} (hi : (inferF env e).2 = 0) (h1 : ¬ e.op = 1) (h2 : ¬ e.op = 2) (h3 : ¬ e.op = 3) : ∀ k, k < e.args.length → infC env (e.arg k) = 0 := by
  intro k
  induction k using Nat.strongRecOn with
  | ind k ih =>
    intro hk
    by_cases hb : infC env (e.arg k) = 0
    · exact hb
    · have := inf_bad env e h1 h2 h3 k hk (fun j hj => ih j hj (by omega)) hb
      rw [this] at hi
      exact absurd hi hb
/-- A typed operation's operands. -/
theorem typed_op {v : Vw} (hv : v.ok = true) {env : List (ByteArray × Val)} (hE : ∀ p ∈ env, p.2.ok = true) {e : Ex} (hf : formedB e = true) (hi : (inferF (dimsOf env) e).2 = 0) (h1 : ¬ e.op = 1) (h2 : ¬ e.op = 2) (h3 : ¬ e.op = 3) :
    ∃ ds : List Int, e.args.length = ds.length ∧ (ds.length : Int) = argsN e.op ∧ 4 ≤ e.op ∧ e.op ≤ 21 ∧ resD e.op ds ≠ 0 ∧
      ∀ k, k < e.args.length → formedB (e.arg k) = true ∧ (inferF (dimsOf env) (e.arg k)).2 = 0 ∧ okR (ds.getD k 0) (valueF v env (e.arg k)) := by
  obtain ⟨hal, ho4, ho21, hfs⟩ := formed_op hf h1 h2 h3
  have hall := typed_all hi h1 h2 h3
  have hop := inf_op (dimsOf env) e h1 h2 h3 hall
  refine ⟨dimsK (dimsOf env) e e.args.length, by simp [dimsK], by simpa [dimsK] using hal, ho4, ho21, ?_, fun k hk => ⟨formeds_get hfs k hk, hall k hk, ?_⟩⟩
  · intro h0
    rw [hop, if_pos h0] at hi
    simp at hi
  · have := value_ok hv hE (e.arg k) (formeds_get hfs k hk) (hall k hk)
    have hd : (dimsK (dimsOf env) e e.args.length).getD k 0 = (inferF (dimsOf env) (e.arg k)).1 := by
      unfold dimsK Ex.arg
      rw [List.take_length, List.getD_eq_getElem?_getD, List.getElem?_map, List.getElem?_eq_getElem hk, List.getD_eq_getElem?_getD, List.getElem?_eq_getElem hk]; rfl
    rw [hd]
    exact this
theorem cmp_eq {a b c d : Int} (ha : vfrac a b = true) (hb : vfrac c d = true) (h : cmpI a b c d = 0) : a = c ∧ b = d := by
  refine frac_eq ha hb ?_
  unfold cmpI at h
  (repeat' split at h) <;> omega
theorem cmpF_ok {a b c d : Int} (ha : vfrac a b = true) (hb : vfrac c d = true) : cmpF a b c d = (cmpI a b c d, 0) := by
  unfold cmpF; rw [ha, hb]; rfl
theorem dims_ne {op : Int} {x y : Val} (ho : op = 7 ∨ op = 8 ∨ op = 9 ∨ op = 10 ∨ op = 19 ∨ op = 20 ∨ (11 ≤ op ∧ op ≤ 16)) (hr : resD op [x.dim, y.dim] ≠ 0) : x.dim ≠ 1 ∧ y.dim ≠ 1 := by
  have h9 : op = 9 ∨ op = 10 ∨ ((op = 7 ∨ op = 8 ∨ op = 19 ∨ op = 20) ∨ (11 ≤ op ∧ op ≤ 16)) := by omega
  rcases h9 with rfl | rfl | h | h
  · rw [res_mul] at hr
    (repeat' split at hr) <;> omega
  · rw [res_div] at hr
    (repeat' split at hr) <;> omega
  · rw [res_add _ _ h] at hr
    (repeat' split at hr) <;> omega
  · rw [res_cmp _ _ h] at hr
    (repeat' split at hr) <;> omega
theorem op2_cmp {op : Int} {x y : Val} (ho : 11 ≤ op ∧ op ≤ 16) (hx : x.ok = true) (hy : y.ok = true) (hr : resD op [x.dim, y.dim] ≠ 0) :
    op2 op x y = (.truth (cmpB op (cmpF x.n x.d y.n y.d).1), 0) ∧ (cmpF x.n x.d y.n y.d).2 = 0 := by
  have hd := dims_ne (.inr (.inr (.inr (.inr (.inr (.inr ho)))))) hr
  rw [cmpF_ok (Val.ok_num hx hd.1).2.2.2 (Val.ok_num hy hd.2).2.2.2]
  refine ⟨?_, rfl⟩
  unfold op2
  rw [if_neg (by omega), if_neg (by omega), if_neg (by omega), if_neg (by omega), if_neg (by omega), if_neg (by omega)]
theorem op2_ar {op : Int} {x y : Val} (ho : op = 7 ∨ op = 8 ∨ op = 9 ∨ op = 10 ∨ op = 19 ∨ op = 20) (hx : x.ok = true) (hy : y.ok = true) (hr : resD op [x.dim, y.dim] ≠ 0) :
    op2 op x y = numR (dimA op x.dim y.dim) (arF op x.n x.d y.n y.d) := by
  have hd := dims_ne (by omega) hr
  have hx := (Val.ok_num hx hd.1).2.2.2
  have hy := (Val.ok_num hy hd.2).2.2.2
  rcases ho with rfl | rfl | rfl | rfl | rfl | rfl
  · rfl
  · rfl
  · have : resD 9 [x.dim, y.dim] = dimA 9 x.dim y.dim := by
      rw [res_mul] at hr ⊢
      unfold dimA
      (repeat' split at hr) <;> simp_all
    show numR (resD 9 [x.dim, y.dim]) _ = _
    rw [this]; rfl
  · have : resD 10 [x.dim, y.dim] = dimA 10 x.dim y.dim := by
      rw [res_div] at hr ⊢
      unfold dimA
      (repeat' split at hr) <;> simp_all
    show numR (resD 10 [x.dim, y.dim]) _ = _
    rw [this]; rfl
  · show (if cmpI x.n x.d y.n y.d ≤ 0 then Val.num x.dim x.n x.d else .num x.dim y.n y.d, 0) = numR x.dim (if (cmpF x.n x.d y.n y.d).1 < 0 then (x.n, x.d, (cmpF x.n x.d y.n y.d).2) else (y.n, y.d, (cmpF x.n x.d y.n y.d).2))
    rw [cmpF_ok hx hy]
    have he := cmp_eq hx hy
    generalize cmpI x.n x.d y.n y.d = c at *
    dsimp only
    by_cases h1 : c < 0
    · rw [if_pos h1, if_pos (by omega)]; rfl
    · rw [if_neg h1]
      by_cases h2 : c ≤ 0
      · obtain ⟨h3, h4⟩ := he (by omega)
        rw [if_pos h2, h3, h4]; rfl
      · rw [if_neg h2]; rfl
  · show (if 0 ≤ cmpI x.n x.d y.n y.d then Val.num x.dim x.n x.d else .num x.dim y.n y.d, 0) = numR x.dim (if (cmpF x.n x.d y.n y.d).1 < 0 then (y.n, y.d, (cmpF x.n x.d y.n y.d).2) else (x.n, x.d, (cmpF x.n x.d y.n y.d).2))
    rw [cmpF_ok hx hy]
    generalize cmpI x.n x.d y.n y.d = c at *
    dsimp only
    by_cases h1 : c < 0
    · rw [if_pos h1, if_neg (by omega)]; rfl
    · rw [if_neg h1, if_pos (by omega)]; rfl
/-- A valid value's parts are small. -/
theorem Val.ok_rng {x : Val} (h : x.ok = true) : VRng x := by
  unfold VRng I64
  by_cases hd : x.dim = 1
  · unfold Val.ok at h
    rw [if_pos hd, decide_eq_true_eq] at h
    omega
  · have := vfrac_bd (Val.ok_num h hd).2.2.2
    omega
end Go.Proofs.YtlheailebbngiaaGreatDoor
/- typing.Infer: the dimension of an expression with its checks, in the program. -/
namespace Go.Proofs.YtlheailebbngiaaGreatDoor
open Go.RowKit
theorem dims_any (l : List (ByteArray × Int)) : (List.range l.length).any (fun k => !decide (1 ≤ bdD l k ∧ bdD l k ≤ 4)) = !dimsOk l := by
  induction l with
  | nil => rfl
  | cons p r ih =>
    rw [List.length_cons, List.range_succ_eq_map, List.any_cons, List.any_map]
    unfold dimsOk at ih ⊢
    rw [List.all_cons, Bool.not_and, ← ih]
    rfl
theorem valid_formed {e : Ex} (h : validB e = true) : formedB e = true := by
  unfold validB at h
  simp only [Bool.and_eq_true] at h
  first | exact h.2 | exact h.1.2 | exact h.1
theorem inferE_no {env : List (ByteArray × Int)} {e : Ex} (h : validB e = false ∨ dimsOk env = false) : inferE env e = (0, 1) := by
  unfold inferE
  rw [if_neg]
  rintro ⟨h1, h2⟩
  rcases h with h | h
  · rw [h] at h1; cases h1
  · rw [h] at h2; cases h2
theorem inferE_yes {env : List (ByteArray × Int)} {e : Ex} (h1 : validB e = true) (h2 : dimsOk env = true) : inferE env e = inferF env e := by
  unfold inferE; rw [if_pos ⟨h1, h2⟩]
set_option maxHeartbeats 2000000 in
theorem Infer2_any (S : Nat → Prop) (env : List (ByteArray × Int)) (e : Ex) (v ve : Value) (w : World) (h : RepE S w e v) (hbig : e.size ≤ 2305843009213693952) (ht : Tab w) (hv : BindAt w ve env) :
    Calls Tryz.prog 67 #[exV e v, ve] w (InfP (inferE env e) w) := by
  have HR := Lib.hid h
  have HV := Lib.hid hv
  have HT := Lib.hid ht
  have hrng := h.rng
  obtain ⟨a, cap, rfl⟩ := h.form0
  have HVE : Hid (∀ w', w.Grows w' → Calls Tryz.prog 108 #[exV e (.slice a e.args.length cap)] w' fun r w'' => r = .returned (.bool (validB e)) ∧ w'.Grows w'') :=
    Lib.hid (fun w' hg => ValidExpr2_any S e _ w' (Lib.hid (HR.out.grows hg)) (Lib.hid hbig) (Lib.hid (HT.out.grows hg)))
  have HCB : Hid (∀ w', w.Grows w' → Calls Tryz.prog 109 #[ve, .func (.func 110) #[] #[]] w' fun r w'' => r = .returned (.bool (!dimsOk env)) ∧ w'.Grows w'') :=
    Lib.hid (fun w' hg => by
      have := containsB_any 110 #[] badB_clos env ve (fun k => !decide (1 ≤ bdD env k ∧ bdD env k ≤ 4)) w' (HV.out.grows hg) (Lib.hid (fun k hk w2 h2 => badB_one _ _ w2))
      rw [dims_any] at this
      exact this)
  obtain ⟨-, ae, ce, rfl, -⟩ := hv
  unfold exV at HVE
  cases hve : validB e with
  | false =>
    have HF := Lib.hid (inferE_no (env := env) (.inl hve))
    rw [hve] at HVE
    clear h ht hve
    go_enter Tryz.func67, Tryz.ntmps67
    go_wp2_with (go_at_call 108; refine (HVE.out _ (.of_below (by (exact belB)))).mono ?_; rintro e' w' ⟨rfl, bs, d, rfl⟩)
    go_returns
    exact infP HF.out (.of_below (by (exact belB)))
  | true =>
    rw [hve] at HVE
    cases hde : dimsOk env with
    | false =>
      have HF := Lib.hid (inferE_no (e := e) (.inr hde))
      rw [hde] at HCB
      clear h ht hve hde
      go_enter Tryz.func67, Tryz.ntmps67
      go_wp2_with (first
        | (go_at_call 108; refine (HVE.out _ (.of_below (by (exact belB)))).mono ?_; rintro e' w' ⟨rfl, bs, d, rfl⟩)
        | (go_at_call 109; refine (HCB.out _ (.of_below (by (exact belB)))).mono ?_; rintro e' w' ⟨rfl, bs2, d2, rfl⟩))
      go_returns
      exact infP HF.out (.of_below (by (exact belB)))
    | true =>
      have HF := Lib.hid (inferE_yes hve hde)
      rw [hde] at HCB
      have HI : Hid (∀ w', w.Grows w' → Calls Tryz.prog 111 #[exV e (.slice a e.args.length cap), .slice ae env.length ce] w' (InfP (inferF env e) w')) :=
        Lib.hid (fun w' hg => infer2_walk S env hde e.size e (Nat.le_refl _) (valid_formed hve) _ _ w' (HR.out.grows hg) (HV.out.grows hg))
      unfold InfP exV at HI
      clear h ht hve hde
      rw [HF.out]
      generalize inferF env e = q at *
      go_enter Tryz.func67, Tryz.ntmps67
      go_wp2_with (first
        | (go_at_call 108; refine (HVE.out _ (.of_below (by (exact belB)))).mono ?_; rintro e' w' ⟨rfl, bs, d, rfl⟩)
        | (go_at_call 109; refine (HCB.out _ (.of_below (by (exact belB)))).mono ?_; rintro e' w' ⟨rfl, bs2, d2, rfl⟩)
        | (go_at_call 111; refine (HI.out _ (.of_below (by (exact belB)))).mono ?_; rintro e' w' ⟨rfl, bs3, d3, rfl⟩))
      go_returns
      exact infP rfl (.of_below (by (exact belB)))
end Go.Proofs.YtlheailebbngiaaGreatDoor
/- pensionref5.infer, pensionref5.Infer: the dimension of an expression, in the reference. -/
namespace Go.Proofs.YtlheailebbngiaaGreatDoor
open Go.RowKit
set_option maxHeartbeats 2000000 in
theorem infer5_leaf (env : List (ByteArray × Int)) (e : Ex) (a : Option Addr) (cap : Nat) (ve : Value) (w : World) (hv : BindAt w ve env) (ho : e.op = 1 ∨ e.op = 3) : (Calls Tryz.prog 119 #[exV e (.slice a e.args.length cap), ve] w (InfP (inferF env e) w)) := by
  obtain ⟨-, ae, ce, rfl, -⟩ := hv
  have HF := Lib.hid (inferF_eq env e)
  unfold infNode at HF
  rcases ho with ho | ho
  · go_enter Tryz.func119, Tryz.ntmps119
    go_wp2_with fail
    go_returns
    exact infP (by rw [HF.out, if_pos ho]) (.of_below (by (exact belB)))
  · go_enter Tryz.func119, Tryz.ntmps119
    go_wp2_with fail
    go_returns
    exact infP (by rw [HF.out, if_neg (by omega), if_pos ho]) (.of_below (by (exact belB)))
set_option maxRecDepth 100000 in
set_option maxHeartbeats 4000000 in
theorem infer5_name (env : List (ByteArray × Int)) (e : Ex) (a : Option Addr) (cap : Nat) (ve : Value) (w : World) (hv : BindAt w ve env) (ho : e.op = 2) : (Calls Tryz.prog 119 #[exV e (.slice a e.args.length cap), ve] w (InfP (inferF env e) w)) := by
  have HV := Lib.hid hv
  obtain ⟨hl1000, ae, ce, rfl, -⟩ := hv
  have HF : Hid (inferF env e = inferN env e.name) := Lib.hid (by rw [inferF_eq]; unfold infNode; rw [if_neg (by omega), if_neg (by omega), if_pos ho])
  have HI := Lib.hid (Input5_any e.name)
  unfold inferN at HF
  have p1 : (e.op == 1) = false := by rw [ho]; rfl
  have p2 : (e.op == 2) = true := by rw [ho]; rfl
  have p3 : (e.op == 3) = false := by rw [ho]; rfl
  clear ho
  by_cases hd : inpD e.name.toList = 0
  · rw [if_neg (by omega)] at HF
    rw [hd] at HI
    clear hd
    go_enter Tryz.func119, Tryz.ntmps119
    go_wp2_with (go_at_call 49; refine (HI.out _).mono ?_; rintro e' w' ⟨rfl, rfl⟩)
    go_loopw [8] (fun v8 wr => ∃ k : Nat, k ≤ env.length ∧ v8 = .int .i64 ((env.length : Int) - 1 - k) ∧ Hid (∀ j, j < env.length → env.length ≤ j + k → bdN env j ≠ e.name) ∧ Below (w.heap.size + 1) ((w.alloc (.cells #[.int .i64 e.op, .int .i64 e.num, .int .i64 e.den, .int .i64 e.dim, .string e.name, .slice a e.args.length cap] 51))) wr) (fun v8 _ => (intOf v8 + 1).toNat)
    case atStart => exact ⟨0, by omega, by simp, Lib.hid (fun j hj _ => by omega), .refl _ _⟩
    case round =>
      obtain ⟨k, hk, rfl, hno, hB⟩ := hrel
      have HB := Lib.hid hB
      have hG : w.Grows wr := .of_below ((((Below.refl _ _).alloc (Nat.le_refl _) _)).trans (hB.mono (by omega)))
      have HG := Lib.hid hG
      have hbox : wr.cell? ⟨w.heap.size, 4, none⟩ = some (.string e.name) := by
        rw [hB.cell (p := ⟨w.heap.size, 4, none⟩) (by simp), World.cell?_alloc_at _ _ _ _ rfl]; rfl
      by_cases hlt : k < env.length
      · obtain ⟨-, a', c', hvv, hx⟩ := HV.out.grows hG
        simp only [Value.slice.injEq, true_and] at hvv
        obtain ⟨rfl, rfl⟩ := hvv
        rcases hx with h0 | ⟨b, off, rfl, hbw, hx⟩
        · omega
        obtain ⟨i, hi⟩ : ∃ i : Nat, (env.length : Int) - 1 - k = i := ⟨env.length - 1 - k, by omega⟩
        have hii : i < env.length := by omega
        obtain ⟨x0, x1⟩ := hx i hii
        have d1 : (i : Int) < (env.length : Int) := by omega
        have d0 : (0 : Int) ≤ (i : Int) := by omega
        rw [hi]
        have HIX := Lib.hid (And.intro hi (And.intro hii hlt))
        have HSM := Lib.hid (fun he hl => lastN_some env e.name i (ByteArray.empty, 0) hii he hl)
        clear hx hi hii hlt hB hG
        obtain ⟨nk, hnk⟩ : ∃ nk, bdN env i = nk := ⟨_, rfl⟩
        obtain ⟨dk, hdk⟩ : ∃ dk, bdD env i = dk := ⟨_, rfl⟩
        rw [hnk] at x0
        rw [hdk] at x1
        have HNK := Lib.hid hnk
        have HDK := Lib.hid hdk
        clear hnk hdk
        by_cases he : nk = e.name
        · have he2 : (nk.toList == e.name.toList) = true := by rw [he]; simp
          have HE := Lib.hid he
          clear he
          go_wp2_with fail
          go_region
          go_wp2_with fail
          go_returns
          exact infP (by
            have := HSM.out (by show bdN env i = e.name; rw [HNK.out]; exact HE.out) (fun j h1 h2 => hno.out j h2 (by have := HIX.out.1; omega))
            rw [HF.out, this]
            show (bdD env i, (0 : Int)) = _
            rw [HDK.out]) (World.Grows.trans HG.out (.of_below (by (exact belB))))
        · have he2 : (nk.toList == e.name.toList) = false := by
            rw [beq_eq_false_iff_ne]; exact fun h => he (toList_inj h)
          have HE := Lib.hid he
          clear he
          go_wp2_with fail
          go_region
          go_wp2_with fail
          go_roundw
          case rel => exact ⟨k + 1, HIX.out.2.2, by have := HIX.out.1; first | (congr 1; omega) | (simp; omega), Lib.hid (fun j hj hjk => by
            by_cases ej : j = i
            · subst ej; rw [HNK.out]; exact HE.out
            · exact hno.out j hj (by have := HIX.out.1; omega)), by have := HB.out; (exact belB)⟩
          case measure => first | (simp [intOf]; done) | (simp [intOf]; have := HIX.out.2.2; omega) | (simp [intOf]; have := HIX.out.1; omega)
      · obtain rfl : k = env.length := by omega
        have hz : (env.length : Int) - 1 - env.length = -1 := by omega
        rw [hz]
        clear hz hB hG
        go_wp2_with fail
        go_returns
        exact infP (by
          have := lastN_none env e.name (ByteArray.empty, 0) (fun j hj => hno.out j hj (by omega))
          rw [HF.out, this]) (World.Grows.trans HG.out (.of_below (by (exact belB))))
  · rw [if_pos hd] at HF
    rw [decide_eq_true hd] at HI
    clear hd
    generalize inpD e.name.toList = D at *
    go_enter Tryz.func119, Tryz.ntmps119
    go_wp2_with (go_at_call 49; refine (HI.out _).mono ?_; rintro e' w' ⟨rfl, rfl⟩)
    go_returns
    exact infP HF.out (.of_below (by (exact belB)))
set_option maxRecDepth 100000 in
set_option maxHeartbeats 4000000 in
theorem infer5_walk (S : Nat → Prop) (env : List (ByteArray × Int)) (hE : dimsOk env = true) (n : Nat) : ∀ (e : Ex), e.size ≤ n → formedB e = true → ∀ (v ve : Value) (w : World), RepE S w e v → BindAt w ve env →
    Calls Tryz.prog 119 #[exV e v, ve] w (InfP (inferF env e) w) := by
  induction n with
  | zero => intro e he; have := e.size_pos; omega
  | succ n ih =>
    intro e he hf v ve w h hv
    have HR := Lib.hid h
    have HV := Lib.hid hv
    have hrng := h.rng
    obtain ⟨a, cap, rfl⟩ := h.form0
    by_cases h1 : e.op = 1
    · exact infer5_leaf env e a cap ve w hv (.inl h1)
    by_cases h2 : e.op = 2
    · exact infer5_name env e a cap ve w hv h2
    by_cases h3 : e.op = 3
    · exact infer5_leaf env e a cap ve w hv (.inr h3)
    obtain ⟨hal, ho4, ho21, hfs⟩ := formed_op hf h1 h2 h3
    have hn3 : e.args.length ≤ 3 ∧ 1 ≤ e.args.length := by unfold argsN at hal; (repeat' split at hal) <;> omega
    have HOK := Lib.hid (inf_op env e h1 h2 h3)
    have HBAD := Lib.hid (inf_bad env e h1 h2 h3)
    have HOP := Lib.hid (And.intro hal (And.intro ho4 ho21))
    have IH : Hid (∀ k, k < e.args.length → ∀ ak ck w', w.Grows w' → RepE S w' (e.arg k) (.slice ak (e.arg k).args.length ck) → Calls Tryz.prog 119 #[exV (e.arg k) (.slice ak (e.arg k).args.length ck), ve] w' (InfP (inferF env (e.arg k)) w')) :=
      Lib.hid (fun k hk ak ck w' hg hr => by
        have hsm := e.size_arg k hk
        exact ih (e.arg k) (by omega) (formeds_get hfs k hk) _ ve w' hr (HV.out.grows hg))
    have HDM : Hid (∀ k, k < e.args.length → infC env (e.arg k) = 0 → 1 ≤ infD env (e.arg k)) := Lib.hid (fun k hk hc => (infer_dim hE (e.arg k) (formeds_get hfs k hk) hc).1)
    unfold InfP at IH
    obtain ⟨-, ae, ce, rfl, -⟩ := hv
    have p1 : (e.op == 1) = false := by simpa using h1
    have p2 : (e.op == 2) = false := by simpa using h2
    have p3 : (e.op == 3) = false := by simpa using h3
    clear h ih hE hf hfs hal ho4 ho21 he h1 h2 h3
    obtain ⟨i0, hi, hz0, hz1, hz2⟩ := info_parts infoI
    go_enter Tryz.func119, Tryz.ntmps119
    go_wp2_with fail
    go_loopw [9, 10] (fun v8 v38 wr => ∃ k : Nat, k ≤ e.args.length ∧ v38 = .int .i64 k ∧ Hid (∀ j, j < k → infC env (e.arg j) = 0) ∧ Below (w.heap.size + 1) (w.alloc (.cells #[.int .i64 e.op, .int .i64 e.num, .int .i64 e.den, .int .i64 e.dim, .string e.name, .slice a e.args.length cap] 51)) wr ∧ wr.ownsRow (w.heap.size + 1) 3 1 v8 k ((dimsK env e k).map (Value.int .i64))) (fun _ v38 _ => e.args.length - (intOf v38).toNat)
    case atStart => exact ⟨0, by omega, rfl, Lib.hid (fun j hj => by omega), .refl _ _, World.ownsRow_nil _ _ _ _⟩
    case round =>
      obtain ⟨k, hk, rfl, hno, hB, hown⟩ := hrel
      have hsW : w.heap.size + 1 ≤ wr.heap.size := by have := hB.size; simpa using this
      have hbox : wr.cell? ⟨w.heap.size, 0, none⟩ = some (.int .i64 e.op) := by
        rw [hB.cell (p := ⟨w.heap.size, 0, none⟩) (by simp), World.cell?_alloc_at _ _ _ _ rfl]; rfl
      have hbox5 : wr.cell? ⟨w.heap.size, 5, none⟩ = some (.slice a e.args.length cap) := by
        rw [hB.cell (p := ⟨w.heap.size, 5, none⟩) (by simp), World.cell?_alloc_at _ _ _ _ rfl]; rfl
      have hG : w.Grows wr := .of_below ((((Below.refl _ _).alloc (Nat.le_refl _) _)).trans (hB.mono (by omega)))
      have HB := Lib.hid hB
      have HO := Lib.hid hown
      have HG := Lib.hid hG
      by_cases hlt : k < e.args.length
      · have hRk := HR.out.grows hG
        cases hRk with
        | mk _ _ _ vs hr hc hs =>
          rcases hc with h0 | ⟨b, off, rfl, -, hbw, hx⟩
          · omega
          · have hR := hs k hlt
            obtain ⟨x0, x1, x2, x3, x4, x5⟩ := hx k hlt
            obtain ⟨ak, ck, hvk⟩ := hR.form0
            rw [hvk] at x5 hR
            have HRK := Lib.hid hR
            have hcall := fun w' hg hg2 => IH.out k hlt ak ck w' hg (HRK.out.grows hg2)
            have HNX := Lib.hid (dimsK_succ env e k hlt)
            have HKL := Lib.hid hlt
            have HBK := Lib.hid (fun hj hb => HBAD.out k hlt hj hb)
            have d1 : (k : Int) < (e.args.length : Int) := by omega
            clear hx hs hr hvk hG hB hown hR
            unfold exV at hcall
            obtain ⟨x, hxe⟩ : ∃ x, e.arg k = x := ⟨_, rfl⟩
            rw [hxe] at hcall x0 x1 x2 x3 x4 x5 HNX HBK
            have HXE := Lib.hid hxe
            clear hxe
            have HCL := Lib.hid hcall
            clear hcall
            obtain ⟨q, hq⟩ : ∃ q, inferF env x = q := ⟨_, rfl⟩
            unfold infC at HBK
            unfold infD at HNX
            rw [hq] at HCL HBK HNX
            have HQ := Lib.hid hq
            clear hq
            obtain ⟨qd, qc⟩ := q
            dsimp only at HCL HBK HNX
            by_cases hqc : qc = 0
            · subst hqc
              go_wp2_with (first
                | (go_at_call 119; refine (HCL.out _ (World.Grows.trans HG.out (.of_below (by (exact belB)))) (.of_below (by (exact belB)))).mono ?_; rintro e' w' ⟨rfl, bs, d, rfl⟩)
                | (at_builtin; refine wpList_append_own _ rfl _ _ 24 rfl (w.heap.size + 1) 3 i0 (.int .i64 0) 1 8 Tryz.underlying24 hi hz0 hz1 hz2 rfl (by decide) _ _ _ rfl ((own_grow HO.out ⟨bs, d, rfl⟩).alloc _) ⟨wr.heap.size + bs.size, 0, none⟩ 1 1 [.int .i64 qd] rfl rfl ?c1 ?c2 ?c3 ?c4 ?c5 ?_))
              case c1 => exact news_cells _ [.int .i64 qd] _ _ (by simp)
              case c2 => intro u hu; simp at hu; subst hu; rfl
              case c3 => unfold maxLen; omega
              case c4 => omega
              case c5 => simp; omega
              intro v' w1 hown' hgrow _
              have HB1 := Lib.hid ((show Below (w.heap.size + 1) (w.alloc (.cells #[.int .i64 e.op, .int .i64 e.num, .int .i64 e.den, .int .i64 e.dim, .string e.name, .slice (some ⟨b, off, none⟩) e.args.length cap] 51)) _ from by have := HB.out; (exact belB)).grown hgrow (by simp; omega) (fun k hk => (HO.out.lt k hk).1))
              have HO1 := Lib.hid hown'
              clear hown' hgrow
              go_wp2_with fail
              go_roundw
              case rel => exact ⟨k + 1, HKL.out, by go_num, Lib.hid (fun j hj => by
                by_cases ej : j = k
                · subst ej; unfold infC; rw [HXE.out, HQ.out]
                · exact hno.out j (by omega)), HB1.out, by rw [HNX.out, List.map_append]; simpa [dimsK] using HO1.out⟩
              case measure => simp [intOf]; have := HKL.out; omega
            · have hq1 : (qc != 0) = true := by simpa using hqc
              have HQC := Lib.hid hqc
              clear hqc
              go_wp2_with (go_at_call 119; refine (HCL.out _ (World.Grows.trans HG.out (.of_below (by (exact belB)))) (.of_below (by (exact belB)))).mono ?_; rintro e' w' ⟨rfl, bs, d, rfl⟩)
              go_returns
              exact infP (HBK.out hno.out HQC.out) (World.Grows.trans HG.out (.of_below (by (exact belB))))
      · obtain rfl : k = e.args.length := by omega
        have hd := HOK.out hno.out
        have hdl : (dimsK env e e.args.length).length = e.args.length := by simp [dimsK]
        obtain ⟨-, ⟨_, h0⟩ | ⟨g, gc, cu, rfl, hbg, -⟩⟩ := hown
        · omega
        have hres := res5_all e.op (dimsK env e e.args.length) (w.heap.size + 1) g gc wr HOP.out.2.1 HOP.out.2.2 (by rw [hdl]; exact HOP.out.1) (fun y hy => by
          obtain ⟨t, ht, rfl⟩ := List.mem_map.1 hy
          rw [List.take_length] at ht
          obtain ⟨j, hj, rfl⟩ := List.mem_iff_getElem.1 ht
          have := HDM.out j hj (hno.out j hj)
          unfold Ex.arg at this
          rw [List.getD_eq_getElem?_getD, List.getElem?_eq_getElem hj] at this
          exact this) (by rw [hdl]; exact HO.out)
        rw [hdl] at hres
        obtain ⟨R, hR⟩ : ∃ R, resD e.op (dimsK env e e.args.length) = R := ⟨_, rfl⟩
        rw [hR] at hres hd
        have HD := Lib.hid hd
        unfold Res5P at hres
        clear hB hG hR hd hdl
        by_cases hR0 : R = 0
        · subst hR0
          have HRS := Lib.hid hres
          clear hres
          go_wp2_with (go_at_call 148; refine (HRS.out).mono ?_; rintro e' w' ⟨rfl, bs, d, rfl⟩)
          go_returns
          exact infP (by rw [HD.out]; simp) (World.Grows.trans HG.out (.of_below (by (exact belB))))
        · have hR1 : (R == 0) = false := by simpa using hR0
          have HRS := Lib.hid hres
          have HR0 := Lib.hid hR0
          clear hres hR0
          go_wp2_with (go_at_call 148; refine (HRS.out).mono ?_; rintro e' w' ⟨rfl, bs, d, rfl⟩)
          go_returns
          exact infP (by rw [HD.out, if_neg HR0.out]) (World.Grows.trans HG.out (.of_below (by (exact belB))))
set_option maxRecDepth 100000 in
set_option maxHeartbeats 2000000 in
theorem Infer5_any (S : Nat → Prop) (env : List (ByteArray × Int)) (e : Ex) (v ve : Value) (w : World) (h : RepE S w e v) (hbig : e.size ≤ 2305843009213693952) (hv : BindAt w ve env) :
    Calls Tryz.prog 69 #[exV e v, ve] w (InfP (inferE env e) w) := by
  have HR := Lib.hid h
  have HV := Lib.hid hv
  have hrng := h.rng
  obtain ⟨a, cap, rfl⟩ := h.form0
  have HVE : Hid (∀ w', w.Grows w' → Calls Tryz.prog 35 #[exV e (.slice a e.args.length cap)] w' fun r w'' => r = .returned (.bool (validB e)) ∧ w'.Grows w'') :=
    Lib.hid (fun w' hg => ValidExpr_any S e _ w' (Lib.hid (HR.out.grows hg)) (Lib.hid hbig))
  have HDA := Lib.hid (dims_any env)
  obtain ⟨hl1000, ae, ce, rfl, -⟩ := hv
  unfold exV at HVE
  cases hve : validB e with
  | false =>
    have HF := Lib.hid (inferE_no (env := env) (.inl hve))
    rw [hve] at HVE
    clear h hve
    go_enter Tryz.func69, Tryz.ntmps69
    go_wp2_with (go_at_call 35; refine (HVE.out _ (.of_below (by (exact belB)))).mono ?_; rintro e' w' ⟨rfl, bs, d, rfl⟩)
    go_returns
    exact infP HF.out (.of_below (by (exact belB)))
  | true =>
    rw [hve] at HVE
    have HNO := Lib.hid (fun h => inferE_no (env := env) (e := e) (.inr h))
    have HYES := Lib.hid (fun h => inferE_yes (env := env) hve h)
    have HI : Hid (dimsOk env = true → ∀ w', w.Grows w' → Calls Tryz.prog 119 #[exV e (.slice a e.args.length cap), .slice ae env.length ce] w' (InfP (inferF env e) w')) :=
      Lib.hid (fun hde w' hg => infer5_walk S env hde e.size e (Nat.le_refl _) (valid_formed hve) _ _ w' (HR.out.grows hg) (HV.out.grows hg))
    unfold InfP exV at HI
    clear h hve
    go_enter Tryz.func69, Tryz.ntmps69
    go_wp2_with (go_at_call 35; refine (HVE.out _ (.of_below (by (exact belB)))).mono ?_; rintro e' w' ⟨rfl, bs, d, rfl⟩)
    go_loopw [6] (fun v6 wr => ∃ k : Nat, k ≤ env.length ∧ v6 = .int .i64 k ∧ Hid (∀ j, j < k → 1 ≤ bdD env j ∧ bdD env j ≤ 4) ∧ Below (w.heap.size + 1) ((w.alloc (.cells #[.int .i64 e.op, .int .i64 e.num, .int .i64 e.den, .int .i64 e.dim, .string e.name, .slice a e.args.length cap] 51))) wr) (fun v6 _ => env.length - (intOf v6).toNat)
    case atStart => exact ⟨0, by omega, rfl, Lib.hid (fun j hj => by omega), by (exact belB)⟩
    case round =>
      obtain ⟨k, hk, rfl, hno, hB⟩ := hrel
      have HB := Lib.hid hB
      have hG : w.Grows wr := .of_below ((((Below.refl _ _).alloc (Nat.le_refl _) _)).trans (hB.mono (by omega)))
      have HG := Lib.hid hG
      by_cases hlt : k < env.length
      · obtain ⟨-, a', c', hvv, hx⟩ := HV.out.grows hG
        simp only [Value.slice.injEq, true_and] at hvv
        obtain ⟨rfl, rfl⟩ := hvv
        rcases hx with h0 | ⟨b, off, rfl, hbw, hx⟩
        · omega
        obtain ⟨x0, x1⟩ := hx k hlt
        have d1 : (k : Int) < (env.length : Int) := by omega
        have HKL := Lib.hid hlt
        clear hx hB hG hlt
        obtain ⟨dk, hdk⟩ : ∃ dk, bdD env k = dk := ⟨_, rfl⟩
        rw [hdk] at x1
        have HDK := Lib.hid hdk
        clear hdk
        by_cases hc : 1 ≤ dk ∧ dk ≤ 4
        · obtain ⟨hc1, hc2⟩ := hc
          go_wp2_with fail
          go_roundw
          case rel => exact ⟨k + 1, HKL.out, by go_num, Lib.hid (fun j hj => by
            by_cases ej : j = k
            · subst ej; rw [HDK.out]; exact ⟨hc1, hc2⟩
            · exact hno.out j (by omega)), by have := HB.out; (exact belB)⟩
          case measure => simp [intOf]; have := HKL.out; omega
        · have HC := Lib.hid hc
          have HBAD : Hid (inferE env e = (0, 1)) := Lib.hid (HNO.out (by
            have := HDA.out
            rw [Bool.eq_false_iff]
            intro h
            rw [h] at this
            have h2 := (List.any_eq_false.1 this) k (List.mem_range.2 HKL.out)
            rw [HDK.out, decide_eq_false HC.out] at h2
            simp at h2))
          by_cases h1 : dk < 1
          · clear hc
            go_wp2_with fail
            go_returns
            exact infP HBAD.out (World.Grows.trans HG.out (.of_below (by (exact belB))))
          · have h2 : dk > 4 := by omega
            clear hc
            go_wp2_with fail
            go_returns
            exact infP HBAD.out (World.Grows.trans HG.out (.of_below (by (exact belB))))
      · obtain rfl : k = env.length := by omega
        have hde : dimsOk env = true := by
          have := HDA.out
          rw [show (List.range env.length).any (fun k => !decide (1 ≤ bdD env k ∧ bdD env k ≤ 4)) = false from List.any_eq_false.2 fun j hj => by simp [hno.out j (List.mem_range.1 hj)]] at this
          simpa using this.symm
        have hbx : ∀ j u, (#[Value.int .i64 e.op, .int .i64 e.num, .int .i64 e.den, .int .i64 e.dim, .string e.name, .slice a e.args.length cap] : Array Value)[j]? = some u → wr.cell? ⟨w.heap.size, j, none⟩ = some u := fun j u hu => by
          rw [hB.cell (p := ⟨w.heap.size, j, none⟩) (by simp), World.cell?_alloc_at _ _ _ _ rfl]; exact hu
        have y0 := hbx 0 _ rfl
        have y1 := hbx 1 _ rfl
        have y2 := hbx 2 _ rfl
        have y3 := hbx 3 _ rfl
        have y4 := hbx 4 _ rfl
        have y5 := hbx 5 _ rfl
        have HI2 := Lib.hid (HI.out hde wr hG)
        have HY := Lib.hid (HYES.out hde)
        clear hde hbx hB hG
        obtain ⟨q, hq⟩ : ∃ q, inferF env e = q := ⟨_, rfl⟩
        rw [hq] at HI2
        have HQ := Lib.hid hq
        clear hq
        go_wp2_with (go_at_call 119; refine (HI2.out).mono ?_; rintro e' w' ⟨rfl, bs3, d3, rfl⟩)
        go_returns
        exact infP (by rw [HY.out, HQ.out]) (World.Grows.trans HG.out (.of_below (by (exact belB))))
end Go.Proofs.YtlheailebbngiaaGreatDoor
