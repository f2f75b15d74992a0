/- StatuteCredits: for every input the law returns true, and its arguments read as they did. No condition. -/
import Derived.Test.YtldelkkeimlfcaaOfAny
import Derived.Test.YtldelkkeimlfcaaLawCred
set_option linter.all false
namespace Go.Proofs.Ytldelkkeimlfcaa
theorem cred_proved : Rows.StatuteCreditsSaid := cred_holds of_said
#print axioms cred_proved
end Go.Proofs.Ytldelkkeimlfcaa
