/- StatuteFactors: for every input the law returns true, and its arguments read as they did. No condition. -/
import Derived.Test.YtldelkkeimlfcaaOfAny
import Derived.Test.YtldelkkeimlfcaaLawFacH
set_option linter.all false
namespace Go.Proofs.Ytldelkkeimlfcaa
theorem fac_proved : Rows.StatuteFactorsSaid := fac_holds of_said
#print axioms fac_proved
end Go.Proofs.Ytldelkkeimlfcaa
