/- What the laws of chapter 8 share: lists and environments handed to pensionmade.Expr, and eval.Expr's contract with the view and the steps written out. -/
import Derived.Test.YthionhbjmheimaaDoorLAw8
set_option linter.all false
set_option maxHeartbeats 16000000
set_option maxRecDepth 1000000
namespace Go.Proofs.YthionhbjmheimaaDoor
open Go.RowKit
theorem IntsAt.growsG{w w':World}{v:Value}{zs:List Int}(h:IntsAt w v zs)(hg:w.Grows w'):IntsAt w' v zs:=by
 obtain⟨bs,d,rfl⟩:=hg
 exact h.grow bs d
theorem IntsAt.list{w:World}{v:Value}{zs:List Int}{s:Nat}(h:IntsAt w v zs)(hs:w.heap.size≤s):ListAt w s v zs:=by
 obtain⟨h0,-,a,cap,hv,h1⟩:=h
 refine⟨h0,a,cap,hv,h1.imp id ?_⟩
 rintro⟨b,off,ha,hb,hc⟩
 exact⟨b,off,ha,hb,by omega,hc⟩
theorem topF_size(zs:List Int)(env:List (ByteArray × Int))(dim:Int):(topF zs env dim).size≤1000000:=by
 have h1:=exprF_size zs env 5 dim 0 24
 have h2:=leafF_size zs env dim (exprF zs env 5 dim 0 24).2.1 0
 have hc5:costN 5=2307:=rfl
 unfold topF
 split<;>omega
end Go.Proofs.YthionhbjmheimaaDoor
