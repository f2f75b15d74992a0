/- Rounding fractions down, in both packages. -/
import Derived.Test.YtaghhncnicbedaaGreatDoorFrMuB
import Derived.Test.YtaghhncnicbedaaGreatDoorBEvP
set_option linter.all false
set_option maxHeartbeats 16000000
set_option maxRecDepth 1000000
namespace Go.Proofs.YtaghhncnicbedaaGreatDoor
open Go.RowKit
def frI(r:Int × Int):Value:=.tuple #[.int .i64 r.1,.int .i64 r.2]
theorem floor_tdiv{n d:Int}(h:1≤d):n / d=n.tdiv d∨n / d=n.tdiv d-1:=by
 rw [←floor_mod h];split<;>simp
theorem Floor2_any(n d:Int)(w:World)(h1:-9223372036854775808≤n)(h2:n≤9223372036854775807)(h3:-9223372036854775808≤d)(h4:d≤9223372036854775807) :
 Calls Tryz.prog 105 #[.agg #[.int .i64 n,.int .i64 d]] w fun e w'=>e= .returned (frI (floorF n d))∧w.Grows w':=by
 have hv:=Lib.hid (fun w=>Valid2_any n d w h1 h2 h3 h4)
 generalize hx:vfrac n d=b at *
 cases b
 ·have HR:=Lib.hid (show floorF n d=(0,1)by unfold floorF;rw [hx];rfl)
  clear hx
  go_enter Tryz.func105,Tryz.ntmps105
  go_wp2_with fail
  refine(hv.out _).mono ?_
  rintro e w' ⟨rfl,bs,dr,rfl⟩
  clear hv
  go_wp2_with fail
  go_returns
  exact⟨by rw [HR.out];rfl,.of_below belB⟩
 ·have HR:=Lib.hid (show floorF n d=(n / d,0)by unfold floorF;rw [hx];rfl)
  obtain⟨k1,k2,k3,k4⟩:=vfrac_bd hx
  have hf:=floor_bd hx
  have HF:=Lib.hid (floor_mod (n:=n) k1)
  have hft:=floor_tdiv (n:=n) k1
  have hq1:-1000000000000001≤n.tdiv d:=by omega
  have hq2:n.tdiv d≤1000000000000001:=by omega
  have d0:(d==0)=false:=by simp;omega
  clear hx hf hft
  have e1:IntKind.i64.wrap (n.tdiv d)=n.tdiv d:=IntWalk.i64_in _ (by omega)
  generalize n / d=z at *
  by_cases c:n.tmod d<0
  focus
   have HZ:=Lib.hid (show z=n.tdiv d-1 by rw [←HF.out,if_pos c])
  rotate_left
  focus
   have HZ:=Lib.hid (show z=n.tdiv d by rw [←HF.out,if_neg c])
  rotate_left
  all_goals
   clear HF
   go_enter Tryz.func105,Tryz.ntmps105
   go_wp2_with fail
   refine(hv.out _).mono ?_
   rintro e w' ⟨rfl,bs,dr,rfl⟩
   clear hv
   go_wp2_with fail
   go_returns
   exact⟨by rw [HR.out,HZ.out];rfl,.of_below belB⟩
theorem Floor1_any(n d:Int)(w:World)(h1:-9223372036854775808≤n)(h2:n≤9223372036854775807)(h3:-9223372036854775808≤d)(h4:d≤9223372036854775807) :
 Calls Tryz.prog 113 #[.agg #[.int .i64 n,.int .i64 d]] w fun e w'=>e= .returned (frI (floorF n d))∧w.Grows w':=by
 have hv:=Lib.hid (fun w=>Valid1_any n d w h1 h2 h3 h4)
 generalize hx:vfrac n d=b at *
 cases b
 ·have HR:=Lib.hid (show floorF n d=(0,1)by unfold floorF;rw [hx];rfl)
  clear hx
  go_enter Tryz.func113,Tryz.ntmps113
  go_wp2_with fail
  refine(hv.out _).mono ?_
  rintro e w' ⟨rfl,bs,dr,rfl⟩
  clear hv
  go_wp2_with fail
  go_returns
  exact⟨by rw [HR.out];rfl,.of_below belB⟩
 ·have HR:=Lib.hid (show floorF n d=(n / d,0)by unfold floorF;rw [hx];rfl)
  obtain⟨k1,k2,k3,k4⟩:=vfrac_bd hx
  have hf:=floor_bd hx
  have HF:=Lib.hid (floor_mul (n:=n) k1)
  have hft:=floor_tdiv (n:=n) k1
  have hq1:-1000000000000001≤n.tdiv d:=by omega
  have hq2:n.tdiv d≤1000000000000001:=by omega
  have d0:(d==0)=false:=by simp;omega
  clear hx hf hft
  have e1:IntKind.i64.wrap (n.tdiv d)=n.tdiv d:=IntWalk.i64_in _ (by omega)
  generalize n / d=z at *
  have hp1:n.tdiv d*d≤2000000000000000∧-2000000000000000≤n.tdiv d*d:=by
   have e5:=Int.mul_tdiv_add_tmod n d
   have hb:=Int.tmod_lt_of_pos n (show 0<d by omega)
   have hc:=Int.tmod_lt_of_pos (-n) (show 0<d by omega)
   rw [Int.neg_tmod]at hc
   rw [Int.mul_comm]at e5
   omega
  have hp2:=hp1.1
  have hp3:=hp1.2
  clear hp1
  by_cases c:n<n.tdiv d*d
  focus
   have HZ:=Lib.hid (show z=n.tdiv d-1 by rw [←HF.out,if_pos c])
  rotate_left
  focus
   have HZ:=Lib.hid (show z=n.tdiv d by rw [←HF.out,if_neg c])
  rotate_left
  all_goals
   clear HF
   go_enter Tryz.func113,Tryz.ntmps113
   go_wp2_with fail
   refine(hv.out _).mono ?_
   rintro e w' ⟨rfl,bs,dr,rfl⟩
   clear hv
   go_wp2_with fail
   go_returns
   exact⟨by rw [HR.out,HZ.out];rfl,.of_below belB⟩
end Go.Proofs.YtaghhncnicbedaaGreatDoor
