import Derived.Test.YthionhbjmheimaaDoorLDc3
import Derived.Deep.CutBlock
import Derived.Deep.CutRange
import Derived.Deep.DeepCutAuto
import Derived.Lib.IndexMore
import Derived.Lib.IndexLaws
import Derived.Deep.QuietTactic
import Derived.Test.YthionhbjmheimaaDoorProg
set_option linter.all false
set_option maxHeartbeats 16000000
set_option maxRecDepth 1000000
namespace Go.Proofs.YthionhbjmheimaaDoor
open Go.RowKit



end Go.Proofs.YthionhbjmheimaaDoor
namespace Go.Proofs
end Go.Proofs
