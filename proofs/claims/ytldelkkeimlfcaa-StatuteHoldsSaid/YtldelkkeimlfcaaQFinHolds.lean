/- StatuteHolds: for every input the law returns true, and its arguments read as they did. No condition. -/
import Derived.Test.YtldelkkeimlfcaaQOf2
import Derived.Test.YtldelkkeimlfcaaQLawHolds
set_option linter.all false
namespace Go.Proofs.Ytldelkkeimlfcaa
theorem holds_proved : Rows.StatuteHoldsSaid := holds_holds of_said
#print axioms holds_proved
end Go.Proofs.Ytldelkkeimlfcaa
