import Derived.Test.YtfoefpoaomepbaaGreatDoorTTyF
import Derived.Test.YtfoefpoaomepbaaGreatDoorTVal
set_option linter.all false
set_option maxHeartbeats 16000000
set_option maxRecDepth 1000000
namespace Go.Proofs.YtfoefpoaomepbaaGreatDoor
theorem cmpF_ok{a b c d:Int}(ha:vfrac a b=true)(hb:vfrac c d=true):cmpF a b c d=(cmpI a b c d,0):=by
 unfold cmpF;rw [ha,hb];rfl
end Go.Proofs.YtfoefpoaomepbaaGreatDoor
namespace Go.Proofs.YtfoefpoaomepbaaGreatDoor
open Go.RowKit
def Vw.ds(v:Vw):List Int:=[v.insured,v.worked,v.voluntary,v.service,v.equated,v.raising,v.resident]
end Go.Proofs.YtfoefpoaomepbaaGreatDoor
