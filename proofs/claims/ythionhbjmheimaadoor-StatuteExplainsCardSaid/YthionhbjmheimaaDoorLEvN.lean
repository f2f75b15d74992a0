import Derived.Test.YthionhbjmheimaaDoorLYrV
import Derived.Test.YthionhbjmheimaaDoorLEvU
import Derived.Test.YthionhbjmheimaaDoorLK
import Derived.Laws.Strings
import Derived.Deep.CutBlock
import Derived.Deep.CutRange
import Derived.Deep.DeepCutAuto
set_option linter.all false
set_option maxHeartbeats 16000000
set_option maxRecDepth 1000000
namespace Go.Proofs.YthionhbjmheimaaDoor
open Go.RowKit Go.Shelf
attribute [local go_sem] Oper.semAt_some
structure NmMem(B:Nat)(s:ByteArray)(N:Nat)(x:Val)(W:World):Prop where
 nm:W.heap[B]? =some (.cells #[.string s] 9 (0,0))
 res:W.heap[B+1]? =some (.cells #[.int .i64 x.dim,.bool x.yes,.int .i64 x.n,.int .i64 x.d] 51 (0,0))
 size:N≤W.heap.size
theorem NmMem.own{B N:Nat}{s:ByteArray}{x:Val}{X Y:World}{row:Option Nat}(h:NmMem B s N x X)(hg:X.grownBy Y row)(hr:∀r,row=some r→∃o:Obj,X.heap[r]? =some o∧o.isCells=false):NmMem B s N x Y:=
 ⟨(grownBy_keeps_cells hg hr h.nm rfl).trans h.nm,(grownBy_keeps_cells hg hr h.res rfl).trans h.res,Nat.le_trans h.size hg.size⟩
theorem NmMem.alloc{B N:Nat}{s:ByteArray}{x:Val}{X:World}(h:NmMem B s N x X)(o:Obj):NmMem B s N x (X.alloc o):=h.own (World.grownBy_alloc X o none) (fun r e=>by cases e)
theorem NmMem.below{B N:Nat}{s:ByteArray}{x:Val}{X Y:World}(h:NmMem B s N x X)(hN:B+2≤X.heap.size)(hb:Below X.heap.size X Y):NmMem B s Y.heap.size x Y:=
 ⟨(hb.block _ (by omega)).trans h.nm,(hb.block _ (by omega)).trans h.res,Nat.le_refl _⟩
end Go.Proofs.YthionhbjmheimaaDoor
namespace Go.Proofs.YthionhbjmheimaaDoor
open Go.RowKit Go.Sort Go.Lib
theorem best8_bad(l:List Int)(n:Int)(v:Value)(w:World)(hy:YrAt w v l)(h:n<1∨45<n∨yearsOk l=false):Calls Tryd.prog 69 #[v,.int .i64 n] w fun e w'=>e= .returned (frV (bestF l n))∧w.Grows w':=by
 have HF:Hid (bestF l n=(0,0,1)):=Lib.hid (by unfold bestF;rw [if_pos h])
 rw [HF.out]
 show Calls _ _ _ _ fun e w'=>e= .returned (.tuple #[.agg #[.int .i64 0,.int .i64 0],.int .i64 1])∧_
 have HY:=Lib.hid hy
 have HA:=Lib.hid (fun w' (hg:w.Grows w')=>amounts_any l v w' (HY.out.grows hg))
 obtain⟨-,a,c,rfl,-⟩:=hy
 clear HF
 by_cases h1:n<1
 ·clear h
  go_enter Tryd.func69,Tryd.ntmps69
  exact lz13
 ·by_cases h2:n > 45
  ·clear h
   go_enter Tryd.func69,Tryd.ntmps69
   exact lz13
  ·have h3:yearsOk l=false:=by
    rcases h with h|h|h
    ·omega
    ·omega
    ·exact h
   rw [h3]at HA
   clear h h3
   go_enter Tryd.func69,Tryd.ntmps69
   go_wp2_with (go_at_call 24;refine(HA.out _ (.of_below belB)).mono ?_;rintro e' w' ⟨rfl,rfl⟩)
   exact lz6
theorem bestF_good{l:List Int}{n:Int}(h1:1≤n)(h2:n≤45)(h3:yearsOk l=true):bestF l n=(mkN (bestS l n) n,mkD (bestS l n) n,mkE (bestS l n) n):=by
 unfold bestF;rw [if_neg (by rw [h3];simp;omega)]
end Go.Proofs.YthionhbjmheimaaDoor
namespace Go.Proofs.YthionhbjmheimaaDoor
open Go.RowKit
theorem wp_abs{P:Program}{c:Code}{Q:Exit→Act→World→Prop}{a:Act}{w:World}(h:∀W,w=W→c.wp P Q a W):c.wp P Q a w:=h w rfl
end Go.Proofs.YthionhbjmheimaaDoor
