/- StatuteDays: for every input the law returns true, and its arguments read as they did. No condition. -/
import Derived.Test.YtldelkkeimlfcaaQOf2
import Derived.Test.YtldelkkeimlfcaaQLawDays
set_option linter.all false
namespace Go.Proofs.Ytldelkkeimlfcaa
theorem days_proved : Rows.StatuteDaysSaid := days_holds of_said
#print axioms days_proved
end Go.Proofs.Ytldelkkeimlfcaa
