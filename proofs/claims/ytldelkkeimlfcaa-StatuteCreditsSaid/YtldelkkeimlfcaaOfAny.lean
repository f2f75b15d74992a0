/- Of makes the version that ofP tells. -/
import Derived.Test.YtldelkkeimlfcaaOf
import Derived.Test.YtldelkkeimlfcaaOfSaid
set_option linter.all false
namespace Go.Proofs.Ytldelkkeimlfcaa
open Go.RowKit
theorem of_said : Hid OfSaid := Lib.hid (by
  intro R cs w hR
  obtain ⟨h1, h2, h3, h4, vc, vs, vl, vi, vp, vu, he, hC, hS, hL, hI, hP, hU⟩ := hR
  obtain ⟨l⟩ := cs
  simp only at he
  subst he
  exact Of_walk R vc vs vl vi vp vu w h1 h2 h3 h4 hC hS hL hI hP hU)
end Go.Proofs.Ytldelkkeimlfcaa
