/- Derivations and results compared. -/
import Derived.Test.YthionhbjmheimaaDoorGrML
set_option linter.all false
set_option maxHeartbeats 16000000
set_option maxRecDepth 1000000
namespace Go.Proofs.YthionhbjmheimaaDoor
open Go.RowKit
theorem stp_cells{w:World}{a:Option Addr}{n cap:Nat}{st:List (ByteArray × Val)}(h:StpAt w (.slice a n cap) st){j:Nat}(hj:j<st.length):∃b off,a=some ⟨b,off,none⟩∧b<w.heap.size∧w.cell? ⟨b,off+j*5,none⟩=some (.string (stN st j))∧w.cell? ⟨b,off+j*5+1,none⟩=some (.int .i64 (stV st j).dim)∧w.cell? ⟨b,off+j*5+2,none⟩=some (.bool (stV st j).yes)∧w.cell? ⟨b,off+j*5+3,none⟩=some (.int .i64 (stV st j).n)∧w.cell? ⟨b,off+j*5+4,none⟩=some (.int .i64 (stV st j).d):=by
 obtain⟨-,a',c',hv,h0|⟨b,off,ha,hb,hc⟩⟩:=h
 ·omega
 ·simp only [Value.slice.injEq]at hv
  obtain⟨rfl,-,-⟩:=hv
  obtain⟨s0,s1,s2,s3,s4⟩:=hc j hj
  exact⟨b,off,ha,hb,s0,s1,s2,s3,s4⟩
end Go.Proofs.YthionhbjmheimaaDoor
