/- Steps as a law makes them out of raw numbers: a plain function; they are valid, their names are no inputs. No program in sight. -/
import Derived.Test.YtlheailebbngiaaGreatDoorGenT
set_option linter.all false
namespace Go.Proofs.YtlheailebbngiaaGreatDoor
def valP (n dim : Int) : Val := if dim = 1 then ⟨1, decide (n.tmod 2 = 0), 0, 0⟩ else ⟨dim, false, mkN (n.tmod 100000) (1 + pick (n.tdiv 7) 12), mkD (n.tmod 100000) (1 + pick (n.tdiv 7) 12)⟩
def stepD (z : Int) : Int := 1 + pick (z.tdiv 2) 4
def nmS (i : Nat) : ByteArray := if i = 0 then ⟨#[97]⟩ else if i = 1 then ⟨#[98]⟩ else if i = 2 then ⟨#[99]⟩ else ⟨#[100]⟩
def stepP (zs : List Int) (i : Nat) : ByteArray × Val := (nmS i, valP (zs.getD i 0) (stepD (zs.getD i 0)))
def stepsP (zs : List Int) : List (ByteArray × Val) := (List.range (min zs.length 4)).map (stepP zs)
theorem mkE_any {n d : Int} (h1 : -1000000000000000 ≤ n) (h2 : n ≤ 1000000000000000) (h3 : 1 ≤ d) (h4 : d ≤ 1000000000) : mkE n d = 0 := by
  unfold mkE lowE
  rw [if_neg (by omega), if_neg]
  have a := Nat.div_le_self n.natAbs (Nat.gcd n.natAbs d.natAbs)
  have b := Nat.div_le_self d.natAbs (Nat.gcd n.natAbs d.natAbs)
  omega
theorem stepD_bd (z : Int) : 1 ≤ stepD z ∧ stepD z ≤ 4 := by
  have := pick_bd (z.tdiv 2) 4 (by omega)
  unfold stepD; omega
theorem tmodH_bd (n : Int) : -100000 < n.tmod 100000 ∧ n.tmod 100000 < 100000 := by
  have h := Int.tmod_lt_of_pos n (show (0 : Int) < 100000 by omega)
  have h2 := Int.tmod_lt_of_pos (-n) (show (0 : Int) < 100000 by omega)
  rw [Int.neg_tmod] at h2
  omega
theorem valP_ok (n : Int) {dim : Int} (h : 1 ≤ dim ∧ dim ≤ 4) : (valP n dim).ok = true := by
  unfold valP
  split <;> rename_i hd
  · rfl
  · have b := tmodH_bd n
    have p := pick_bd (n.tdiv 7) 12 (by omega)
    exact Val.num_ok (by omega) (mk_vfrac (by omega) (mkE_any (by omega) (by omega) (by omega) (by omega)))
theorem stepsP_ok (zs : List Int) : ∀ p ∈ stepsP zs, p.2.ok = true := by
  intro p hp
  obtain ⟨i, -, rfl⟩ := List.mem_map.1 hp
  exact valP_ok _ (stepD_bd _)
theorem stepsP_len (zs : List Int) : (stepsP zs).length = min zs.length 4 := by
  unfold stepsP; rw [List.length_map, List.length_range]
theorem valP_dim (n : Int) {dim : Int} : (valP n dim).dim = dim := by
  unfold valP
  split
  · rename_i h; exact h.symm
  · rfl
theorem nmS_ok : ∀ i, i < 4 → inpD (nmS i).toList = 0 ∧ nameB (nmS i) = true := by decide +kernel
theorem nmS_ne : ∀ i, i < 4 → ∀ j, j < 4 → nmS i = nmS j → i = j := by decide +kernel
theorem lastN_of {α : Type} (f : Nat → ByteArray × α) (n : Nat) (hne : ∀ i, i < n → ∀ j, j < n → (f i).1 = (f j).1 → i = j) {i : Nat} (hi : i < n) : lastN ((List.range n).map f) (f i).1 = some (f i).2 := by
  induction n with
  | zero => omega
  | succ n ih =>
    unfold lastN
    rw [List.range_succ, List.map_append, List.reverse_append, List.map_cons, List.map_nil, List.reverse_singleton, List.singleton_append, List.find?_cons]
    by_cases hin : i = n
    · subst hin; simp
    · have hf : decide ((f n).1 = (f i).1) = false := decide_eq_false (fun h => hin (hne n (by omega) i (by omega) h).symm)
      rw [hf]
      exact ih (fun a ha b hb => hne a (by omega) b (by omega)) (by omega)
theorem stepsP_dims (zs : List Int) : dimsOf (stepsP zs) = (List.range (min zs.length 4)).map fun i => (nmS i, stepD (zs.getD i 0)) := by
  unfold dimsOf stepsP
  rw [List.map_map]
  refine List.map_congr_left fun i _ => ?_
  show ((stepP zs i).1, (stepP zs i).2.dim) = _
  unfold stepP
  rw [valP_dim]
theorem stepsP_env (zs : List Int) : EnvG (dimsOf (stepsP zs)) := by
  rw [stepsP_dims]
  intro p hp
  obtain ⟨i, hi, rfl⟩ := List.mem_map.1 hp
  have hi4 : i < min zs.length 4 := List.mem_range.1 hi
  have a := nmS_ok i (by omega)
  have b := stepD_bd (zs.getD i 0)
  exact ⟨a.1, a.2, b.1, b.2, lastN_of (fun i => (nmS i, stepD (zs.getD i 0))) _ (fun a ha b hb h => nmS_ne a (by omega) b (by omega) h) hi4⟩
end Go.Proofs.YtlheailebbngiaaGreatDoor
