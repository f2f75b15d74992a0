/- StatuteIndexOrder: for every input the law returns true, and its arguments read as they did. No condition. -/
import Derived.Test.YtldelkkeimlfcaaOfAny
import Derived.Test.YtldelkkeimlfcaaLawOrdH
set_option linter.all false
namespace Go.Proofs.Ytldelkkeimlfcaa
theorem ord_proved : Rows.StatuteIndexOrderSaid := ord_holds of_said
#print axioms ord_proved
end Go.Proofs.Ytldelkkeimlfcaa
