import Derived.Test.YtfoefpoaomepbaaGreatDoorFExp2
set_option linter.all false
set_option maxHeartbeats 16000000
set_option maxRecDepth 1000000
namespace Go.Proofs.YtfoefpoaomepbaaGreatDoor
open Go.RowKit
theorem steps_no(w:World):StpAt w (.slice none 0 0) []:=⟨by decide,none,0,rfl,.inl rfl⟩
end Go.Proofs.YtfoefpoaomepbaaGreatDoor
