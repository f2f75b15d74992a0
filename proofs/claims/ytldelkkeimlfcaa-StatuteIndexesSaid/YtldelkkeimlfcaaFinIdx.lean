/- StatuteIndexes: for every input the law returns true, and its arguments read as they did. No condition. -/
import Derived.Test.YtldelkkeimlfcaaOfAny
import Derived.Test.YtldelkkeimlfcaaLawIdxH
set_option linter.all false
namespace Go.Proofs.Ytldelkkeimlfcaa
theorem idx_proved : Rows.StatuteIndexesSaid := idx_holds of_said
#print axioms idx_proved
end Go.Proofs.Ytldelkkeimlfcaa
