import Derived.Test.YtfoefpoaomepbaaGreatDoorFAw8
import Derived.Test.YtfoefpoaomepbaaGreatDoorFK
import Derived.Laws.AppendOwnNone
set_option linter.all false
set_option maxHeartbeats 16000000
set_option maxRecDepth 1000000
namespace Go.Proofs.YtfoefpoaomepbaaGreatDoor
open Go.RowKit
theorem YrAt.of_rowB{w:World}{base:Nat}{v:Value}{l:List Int}{k:Nat}{xs:List Value}(h:w.ownsRow base 3 1 v k xs)(hk:k=l.length)(hx:xs=l.map (Value.int .i64))(hl:l.length≤1000):YrAt w v l:=by
 subst hk hx;exact YrAt.of_row h hl
theorem row_form{w:World}{base:Nat}{v:Value}{k:Nat}{xs:List Value}(h:w.ownsRow base 3 1 v k xs):(v= .slice none 0 0∧k=0)∨∃g cap,v= .slice (some ⟨g,0,none⟩) k cap∧base≤g∧g<w.heap.size:=by
 exact fz52
end Go.Proofs.YtfoefpoaomepbaaGreatDoor
