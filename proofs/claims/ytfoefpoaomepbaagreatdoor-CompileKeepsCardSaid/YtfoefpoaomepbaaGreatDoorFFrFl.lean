import Derived.Test.YtfoefpoaomepbaaGreatDoorFTk4
import Derived.Test.YtfoefpoaomepbaaGreatDoorFEvP
set_option linter.all false
set_option maxHeartbeats 16000000
set_option maxRecDepth 1000000
namespace Go.Proofs.YtfoefpoaomepbaaGreatDoor
open Go.RowKit
def frI(r:Int × Int):Value:=.tuple #[.int .i64 r.1,.int .i64 r.2]
theorem floor_tdiv{n d:Int}(h:1≤d):n / d=n.tdiv d∨n / d=n.tdiv d-1:=by
 rw [←floor_mod h];split<;>simp
theorem Floor2_any(n d:Int)(w:World)(h1:-9223372036854775808≤n)(h2:n≤9223372036854775807)(h3:-9223372036854775808≤d)(h4:d≤9223372036854775807) :
 Calls Tryz.prog 138 #[.agg #[.int .i64 n,.int .i64 d]] w fun e w'=>e= .returned (frI (floorF n d))∧w.Grows w':=by
 have hv:=Lib.hid (fun w=>Valid2_any n d w h1 h2 h3 h4)
 generalize hx:vfrac n d=b at *
 cases b
 ·have HR:=Lib.hid (show floorF n d=(0,1)by unfold floorF;rw [hx];rfl)
  clear hx
  go_enter Tryz.func138,Tryz.ntmps138
  go_wp2_with fail
  refine(hv.out _).mono ?_
  rintro e w' ⟨rfl,bs,dr,rfl⟩
  clear hv
  go_wp2_with fail
  go_returns
  exact⟨by rw [HR.out];rfl,.of_below belB⟩
 ·have HR:=Lib.hid (show floorF n d=(n / d,0)by unfold floorF;rw [hx];rfl)
  obtain⟨k1,k2,k3,k4⟩:=vfrac_bd hx
  have hf:=floor_bd hx
  have HF:=Lib.hid (floor_mod (n:=n) k1)
  have hft:=floor_tdiv (n:=n) k1
  have hq1:-1000000000000001≤n.tdiv d:=by omega
  have hq2:n.tdiv d≤1000000000000001:=by omega
  have d0:(d==0)=false:=by simp;omega
  clear hx hf hft
  have e1:IntKind.i64.wrap (n.tdiv d)=n.tdiv d:=IntWalk.i64_in _ (by omega)
  generalize n / d=z at *
  by_cases c:n.tmod d<0
  focus
   have HZ:=Lib.hid (show z=n.tdiv d-1 by rw [←HF.out,if_pos c])
  rotate_left
  focus
   have HZ:=Lib.hid (show z=n.tdiv d by rw [←HF.out,if_neg c])
  rotate_left
  all_goals
   clear HF
   go_enter Tryz.func138,Tryz.ntmps138
   go_wp2_with fail
   refine(hv.out _).mono ?_
   rintro e w' ⟨rfl,bs,dr,rfl⟩
   clear hv
   go_wp2_with fail
   go_returns
   exact⟨by rw [HR.out,HZ.out];rfl,.of_below belB⟩
theorem Floor1_any(n d:Int)(w:World)(h1:-9223372036854775808≤n)(h2:n≤9223372036854775807)(h3:-9223372036854775808≤d)(h4:d≤9223372036854775807) :
 Calls Tryz.prog 113 #[.agg #[.int .i64 n,.int .i64 d]] w fun e w'=>e= .returned (frI (floorF n d))∧w.Grows w':=by
 have hv:=Lib.hid (fun w=>Valid1_any n d w h1 h2 h3 h4)
 generalize hx:vfrac n d=b at *
 cases b
 ·have HR:=Lib.hid (show floorF n d=(0,1)by unfold floorF;rw [hx];rfl)
  clear hx
  go_enter Tryz.func113,Tryz.ntmps113
  go_wp2_with fail
  refine(hv.out _).mono ?_
  rintro e w' ⟨rfl,bs,dr,rfl⟩
  clear hv
  go_wp2_with fail
  go_returns
  exact⟨by rw [HR.out];rfl,.of_below belB⟩
 ·have HR:=Lib.hid (show floorF n d=(n / d,0)by unfold floorF;rw [hx];rfl)
  obtain⟨k1,k2,k3,k4⟩:=vfrac_bd hx
  have hf:=floor_bd hx
  have HF:=Lib.hid (floor_mul (n:=n) k1)
  have hft:=floor_tdiv (n:=n) k1
  have hq1:-1000000000000001≤n.tdiv d:=by omega
  have hq2:n.tdiv d≤1000000000000001:=by omega
  have d0:(d==0)=false:=by simp;omega
  clear hx hf hft
  have e1:IntKind.i64.wrap (n.tdiv d)=n.tdiv d:=IntWalk.i64_in _ (by omega)
  generalize n / d=z at *
  have hp1:n.tdiv d*d≤2000000000000000∧-2000000000000000≤n.tdiv d*d:=by
   have e5:=Int.mul_tdiv_add_tmod n d
   have hb:=Int.tmod_lt_of_pos n (show 0<d by omega)
   have hc:=Int.tmod_lt_of_pos (-n) (show 0<d by omega)
   rw [Int.neg_tmod]at hc
   rw [Int.mul_comm]at e5
   omega
  have hp2:=hp1.1
  have hp3:=hp1.2
  clear hp1
  by_cases c:n<n.tdiv d*d
  focus
   have HZ:=Lib.hid (show z=n.tdiv d-1 by rw [←HF.out,if_pos c])
  rotate_left
  focus
   have HZ:=Lib.hid (show z=n.tdiv d by rw [←HF.out,if_neg c])
  rotate_left
  all_goals
   clear HF
   go_enter Tryz.func113,Tryz.ntmps113
   go_wp2_with fail
   refine(hv.out _).mono ?_
   rintro e w' ⟨rfl,bs,dr,rfl⟩
   clear hv
   go_wp2_with fail
   go_returns
   exact⟨by rw [HR.out,HZ.out];rfl,.of_below belB⟩
def cmpR(s p q:Bool):Int:=if s then(if q then -1 else if p then 1 else 0)else(if p then -1 else if q then 1 else 0)
theorem cmp2_core(an ad bn bd xh xl yh yl:Int)(s p q:Bool)(w:World)(hs1:decide (an<0)=s)(hs2:decide (bn<0)=s)
 (V1:Hid (∀w,Calls Tryz.prog 175 #[.agg #[.int .i64 an,.int .i64 ad]] w fun e w'=>e= .returned (.bool true)∧w.Grows w')) (V2:Hid (∀w,Calls Tryz.prog 175 #[.agg #[.int .i64 bn,.int .i64 bd]] w fun e w'=>e= .returned (.bool true)∧w.Grows w'))
 (Z:Hid (∀n,I64 n→∀w,Calls Tryz.prog 177 #[.int .i64 n] w fun e w'=>e= .returned (.int .u64 (absI n))∧w=w')) (I1:I64 an) (I2:I64 ad) (I3:I64 bn) (I4:I64 bd)
 (T1:Hid (∀w,Calls Tryz.prog 176 #[.int .u64 (absI an),.int .u64 (absI bd)] w fun e w'=>e= .returned (.agg #[.int .u64 xh,.int .u64 xl])∧w.Grows w')) (T2:Hid (∀w,Calls Tryz.prog 176 #[.int .u64 (absI bn),.int .u64 (absI ad)] w fun e w'=>e= .returned (.agg #[.int .u64 yh,.int .u64 yl])∧w.Grows w'))
 (L1:Hid (∀w,Calls Tryz.prog 179 #[.agg #[.int .u64 xh,.int .u64 xl],.agg #[.int .u64 yh,.int .u64 yl]] w fun e w'=>e= .returned (.bool p)∧w.Grows w')) (L2:Hid (∀w,Calls Tryz.prog 179 #[.agg #[.int .u64 yh,.int .u64 yl],.agg #[.int .u64 xh,.int .u64 xl]] w fun e w'=>e= .returned (.bool q)∧w.Grows w'))
 :Calls Tryz.prog 143 #[.agg #[.int .i64 an,.int .i64 ad],.agg #[.int .i64 bn,.int .i64 bd]] w fun e w'=>e= .returned (frI (cmpR s p q,0))∧w.Grows w':=by
 cases s<;>
 ·go_enter Tryz.func143,Tryz.ntmps143
  go_wp2_with (first|(go_at_call 175;(with_reducible refine(V1.out _).mono ?_);rintro e w' ⟨rfl,bs,dr,rfl⟩)|(go_at_call 175;(with_reducible refine(V2.out _).mono ?_);rintro e w' ⟨rfl,bs2,dr2,rfl⟩))
  clear V1 V2
  obtain⟨W,hW⟩:∃W,(((w.alloc (.cells #[.int .i64 an,.int .i64 ad] 24)).alloc (.cells #[.int .i64 bn,.int .i64 bd] 24)).grow (bs++bs2) dr2)=W:=⟨_,rfl⟩
  have x0:W.cell? ⟨w.heap.size,0,none⟩=some (.int .i64 an):=by rw [←hW];simp [go_sem]
  have x1:W.cell? ⟨w.heap.size,1,none⟩=some (.int .i64 ad):=by rw [←hW];simp [go_sem]
  have x2:W.cell? ⟨w.heap.size+1,0,none⟩=some (.int .i64 bn):=by rw [←hW];simp [go_sem]
  have x3:W.cell? ⟨w.heap.size+1,1,none⟩=some (.int .i64 bd):=by rw [←hW];simp [go_sem]
  have hbw:Below w.heap.size w W:=by rw [←hW];(exact belB)
  have hz0:w.heap.size<W.heap.size:=by rw [←hW];simp;omega
  have hz1:w.heap.size+1<W.heap.size:=by rw [←hW];simp;omega
  rw [hW]
  clear hW
  apply wp_region_made2 16 (14,6,.cells #[.int .u64 0,.int .u64 0] 221) (15,7,.cells #[.int .u64 0,.int .u64 0] 221) (by kernel_rfl) (by kernel_rfl)
  case hrx=>
   intro o ho ρ w
   obtain rfl:=Option.some.inj ho
   simp [go_sem]
  case hry=>
   intro o ho ρ w
   obtain rfl:=Option.some.inj ho
   simp [go_sem]
  case h1=>
   intro bs d
   simp only [List.take_succ_cons,List.take_zero,List.map_cons,List.map_nil,Oper.mask]
   repeat(go_big_quiet_step ((first|(go_at_call 177;(with_reducible exact Calls.quietMS (Z.out _ (by assumption) _)))|(go_at_call 176;first|(with_reducible exact Calls.quietM (T1.out _))|(with_reducible exact Calls.quietM (T2.out _))))))
   exact wpQuiet_nil rfl
  all_goals
   intro gb1 gd1 gb2 gd2 gb gd
   simp only [List.drop_succ_cons,List.drop_zero,Act.put,List.setIfInBounds_toArray,List.set_cons_zero,List.set_cons_succ]
  all_goals
   clear T1 T2 Z
   cases p<;>cases q
  all_goals
   go_wp2_with (first|(go_at_call 179;(with_reducible refine(L1.out _).mono ?_);rintro e w' ⟨rfl,bs3,dr3,rfl⟩)|(go_at_call 179;(with_reducible refine(L2.out _).mono ?_);rintro e w' ⟨rfl,bs4,dr4,rfl⟩))
   go_returns
   exact⟨rfl,.of_below belB⟩
theorem cmp2_no(an ad bn bd:Int)(p q:Bool)(w:World)(hpq:(p&&q)=false)
 (V1:Hid (∀w,Calls Tryz.prog 175 #[.agg #[.int .i64 an,.int .i64 ad]] w fun e w'=>e= .returned (.bool p)∧w.Grows w')) (V2:Hid (∀w,Calls Tryz.prog 175 #[.agg #[.int .i64 bn,.int .i64 bd]] w fun e w'=>e= .returned (.bool q)∧w.Grows w'))
 :Calls Tryz.prog 143 #[.agg #[.int .i64 an,.int .i64 ad],.agg #[.int .i64 bn,.int .i64 bd]] w fun e w'=>e= .returned (frI (0,1))∧w.Grows w':=by
 cases p<;>cases q
 all_goals first
  |(exfalso;simp at hpq;done)
  |(clear hpq
    go_enter Tryz.func143,Tryz.ntmps143
    go_wp2_with (first|(go_at_call 175;(with_reducible refine(V1.out _).mono ?_);rintro e w' ⟨rfl,bs,dr,rfl⟩)|(go_at_call 175;(with_reducible refine(V2.out _).mono ?_);rintro e w' ⟨rfl,bs2,dr2,rfl⟩))
    go_returns
    exact⟨rfl,.of_below belB⟩)
theorem cmp2_diff(an ad bn bd r:Int)(w:World)(hd:decide (an<0)≠decide (bn<0))(hr:Hid (r=if an<0 then -1 else 1))
 (V1:Hid (∀w,Calls Tryz.prog 175 #[.agg #[.int .i64 an,.int .i64 ad]] w fun e w'=>e= .returned (.bool true)∧w.Grows w')) (V2:Hid (∀w,Calls Tryz.prog 175 #[.agg #[.int .i64 bn,.int .i64 bd]] w fun e w'=>e= .returned (.bool true)∧w.Grows w'))
 :Calls Tryz.prog 143 #[.agg #[.int .i64 an,.int .i64 ad],.agg #[.int .i64 bn,.int .i64 bd]] w fun e w'=>e= .returned (frI (r,0))∧w.Grows w':=by
 by_cases c:an<0
 focus
  have d1:decide (an<0)=true:=by simpa using c
  have d2:decide (bn<0)=false:=by simp [c]at hd;simpa using hd
  have HR:=Lib.hid (show r= -1 by rw [hr.out,if_pos c])
 rotate_left
 focus
  have d1:decide (an<0)=false:=by simpa using c
  have d2:decide (bn<0)=true:=by simp [c]at hd;simpa using hd
  have HR:=Lib.hid (show r=1 by rw [hr.out,if_neg c])
 rotate_left
 all_goals
  clear hd c hr
  go_enter Tryz.func143,Tryz.ntmps143
  go_wp2_with (first|(go_at_call 175;(with_reducible refine(V1.out _).mono ?_);rintro e w' ⟨rfl,bs,dr,rfl⟩)|(go_at_call 175;(with_reducible refine(V2.out _).mono ?_);rintro e w' ⟨rfl,bs2,dr2,rfl⟩))
  go_returns
  exact⟨by rw [HR.out];rfl,.of_below belB⟩
theorem cmpR_same{an ad bn bd:Int}(h1:1≤ad)(h2:1≤bd)(h:decide (an<0)=decide (bn<0)) :
 cmpI an ad bn bd=cmpR (decide (an<0)) (decide (an.natAbs*bd.natAbs<bn.natAbs*ad.natAbs)) (decide (bn.natAbs*ad.natAbs<an.natAbs*bd.natAbs)):=by
 rw [cmp_same h1 h2 h]
 unfold cmpR
 by_cases c:an<0<;>simp [c]
theorem times_abs{F:FuncId}(T:∀(a b:Nat) (w:World),a<18446744073709551616→b<18446744073709551616→Calls Tryz.prog F #[.int .u64 a,.int .u64 b] w fun e w'=>e= .returned (.agg #[.int .u64 (hiW (a*b)),.int .u64 (loW (a*b))])∧w.Grows w')
 {a b:Int} (ha:I64 a) (hb:I64 b) (w:World):Calls Tryz.prog F #[.int .u64 (absI a),.int .u64 (absI b)] w fun e w'=>e= .returned (.agg #[.int .u64 (hiW (a.natAbs*b.natAbs)),.int .u64 (loW (a.natAbs*b.natAbs))])∧w.Grows w':=by
 unfold I64 at ha hb
 exact T a.natAbs b.natAbs w (by omega) (by omega)
def I64x4(a b c d:Int):Prop:=I64 a∧I64 b∧I64 c∧I64 d
theorem Compare2_any(an ad bn bd:Int)(w:World)(hi:I64x4 an ad bn bd) :
 Calls Tryz.prog 143 #[.agg #[.int .i64 an,.int .i64 ad],.agg #[.int .i64 bn,.int .i64 bd]] w fun e w'=>e= .returned (frI (cmpF an ad bn bd))∧w.Grows w':=by
 obtain⟨i1,i2,i3,i4⟩:=hi
 have V1:=Lib.hid (fun w=>Valid2_any an ad w i1.1 i1.2 i2.1 i2.2)
 have V2:=Lib.hid (fun w=>Valid2_any bn bd w i3.1 i3.2 i4.1 i4.2)
 by_cases hv:(vfrac an ad&&vfrac bn bd)=true
 ·have hva:=(Bool.and_eq_true_iff.1 hv).1
  have hvb:=(Bool.and_eq_true_iff.1 hv).2
  rw [show cmpF an ad bn bd=(cmpI an ad bn bd,0)by unfold cmpF;rw [if_pos hv]]
  rw [hva]at V1
  rw [hvb]at V2
  have b1:=vfrac_bd hva
  have b2:=vfrac_bd hvb
  by_cases hs:decide (an<0)=decide (bn<0)
  ·rw [cmpR_same b1.1 b2.1 hs]
   refine cmp2_core an ad bn bd _ _ _ _ _ _ _ w rfl hs.symm V1 V2 (fun n h w=>size2_any n w h.1 h.2) i1 i2 i3 i4 (times_abs times2_any i1 i4) (times_abs times2_any i3 i2) ?_ ?_
   ·intro w;have:=less2_any (hiW (an.natAbs*bd.natAbs)) (loW (an.natAbs*bd.natAbs)) (hiW (bn.natAbs*ad.natAbs)) (loW (bn.natAbs*ad.natAbs)) w;rwa [wless_nat]at this
   ·intro w;have:=less2_any (hiW (bn.natAbs*ad.natAbs)) (loW (bn.natAbs*ad.natAbs)) (hiW (an.natAbs*bd.natAbs)) (loW (an.natAbs*bd.natAbs)) w;rwa [wless_nat]at this
  ·rw [cmp_diff b1.1 b2.1 hs]
   exact cmp2_diff an ad bn bd _ w hs (Lib.hid rfl) V1 V2
 ·rw [show cmpF an ad bn bd=(0,1)by unfold cmpF;rw [if_neg hv]]
  exact cmp2_no an ad bn bd _ _ w (Bool.eq_false_iff.2 hv) V1 V2
end Go.Proofs.YtfoefpoaomepbaaGreatDoor
