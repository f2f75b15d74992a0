/- EvalInline: the plain law. No program in sight. -/
import Derived.Test.YtlheailebbngiaaGreatDoorQNames
import Derived.Test.YtlheailebbngiaaGreatDoorGenT
set_option linter.all false
namespace Go.Proofs.YtlheailebbngiaaGreatDoor
theorem nameB_a : nameB aN = true := by decide +kernel
theorem env_a {d : Int} (h1 : 1 ≤ d) (h4 : d ≤ 4) : EnvG [(aN, d)] := by
  intro p hp
  obtain rfl : p = (aN, d) := by simpa using hp
  exact ⟨inpD_a, nameB_a, h1, h4, lastN_a _⟩
theorem inl_plain {v : Vw} (hv : v.ok = true) {b E : Ex} {d : Int} {x : Val} (hb : TypedE [] d b) (hvb : validB b = true) (hx : exprF' v [] b = (x, 0)) (hE : TypedE [(aN, d)] d E) (hvE : validB E = true) (hw : validB (inlineF b E) = true) :
    exprF' v [(aN, x)] E = exprF' v [] (inlineF b E) ∧ x.ok = true ∧ x.dim = d := by
  have hd0 : dimsOf [] = [] := rfl
  obtain ⟨e0, k0⟩ := expr_typed (env := []) hv (fun p hp => by cases hp) hvb (by rw [hd0, hb.2])
  have hval : valueF v [] b = (x, 0) := by rw [← e0, hx]
  rw [hval, hd0, hb.2] at k0
  have hk := k0.good rfl
  have hd : dimsOf [(aN, x)] = [(aN, d)] := by show [(aN, x.dim)] = _; rw [hk.2]
  refine ⟨?_, hk⟩
  unfold exprF'
  rw [hd, hd0, value_inline hval E, infer_inline hb.2 E, hvE, hw, hE.2]
  simp [hv, hk.1]
end Go.Proofs.YtlheailebbngiaaGreatDoor
