import Derived.Test.YthionhbjmheimaaDoorLFrMd
import Derived.Test.YthionhbjmheimaaDoorLK
set_option linter.all false
set_option maxHeartbeats 16000000
set_option maxRecDepth 1000000
namespace Go.Proofs.YthionhbjmheimaaDoor
open Go.RowKit

theorem mul1_core(an ad bn bd n1 n2 n3:Int)(s t:Bool)(w:World)(h1:decide (an<0)=s)(h2:decide (bn<0)=t)(u1:IntKind.u64.wrap ad=ad)(u2:IntKind.u64.wrap bd=bd)
 (V1:Hid (∀w,Calls Tryd.prog 37 #[.agg #[.int .i64 an,.int .i64 ad]] w fun e w'=>e= .returned (.bool true)∧w.Grows w')) (V2:Hid (∀w,Calls Tryd.prog 37 #[.agg #[.int .i64 bn,.int .i64 bd]] w fun e w'=>e= .returned (.bool true)∧w.Grows w'))
 (Z:Hid (∀n,I64 n→∀w,Calls Tryd.prog 31 #[.int .i64 n] w fun e w'=>e= .returned (.int .u64 (absI n))∧w=w')) (I1:I64 an) (I2:I64 ad) (I3:I64 bn) (I4:I64 bd)
 (Q:Hid (∀w,Calls Tryd.prog 92 #[.bool (s !=t),.int .u64 (absI an),.int .u64 ad,.int .u64 (absI bn),.int .u64 bd] w fun e w'=>(e= .returned (.tuple #[.agg #[.int .i64 n1,.int .i64 n2],.int .i64 n3])∧w.Grows w')))
 :Calls Tryd.prog 84 (#[.agg #[.int .i64 an,.int .i64 ad],.agg #[.int .i64 bn,.int .i64 bd]]) w fun e w'=>(e= .returned (.tuple #[.agg #[.int .i64 n1,.int .i64 n2],.int .i64 n3])∧w.Grows w'):=by
 go_enter Tryd.func84,Tryd.ntmps84
 go_wp2_with (first|(go_at_call 37;(with_reducible refine(V1.out _).mono ?_);rintro e w' ⟨rfl,bs,dr,rfl⟩)|(go_at_call 37;(with_reducible refine(V2.out _).mono ?_);rintro e w' ⟨rfl,bs2,dr2,rfl⟩))
 refine TS.begin [22,23] (World.Grows _) (by kernel_rfl) (by kernel_rfl) grows_drew (fun hS=>?_)
 refine TS.wkB 0 hS ?_
 refine TS.wkB 1 hS ?_
 refine TS.wkB 2 hS ?_
 refine TS.wkB 3 hS ?_
 refine TS.wkB 4 hS ?_
 refine TS.wkB 5 hS ?_
 refine TS.wkB 6 hS ?_
 refine TS.wkB 7 hS ?_
 refine TS.wkB 8 hS ?_
 refine TS.takeC (i:=9) (v:=(.int .u64 (absI an))) (fn:=31) (args:=#[.int .i64 an]) rfl (by kernel_rfl) (by kernel_rfl) (by kernel_rfl) (by decide) (fun _ _ _ h=>h) rfl hS ?_ ?_ ?_
 focus
  rintro wS ⟨gbS,gdS,rfl⟩
  go_simp
 focus exact fun wS _=>(Z.out _ (by assumption) wS)
 (try simp only [nS])
 refine TS.wkB 10 hS ?_
 refine TS.wkB 11 hS ?_
 refine TS.wkB 12 hS ?_
 refine TS.wkB 13 hS ?_
 refine TS.wkB 14 hS ?_
 refine TS.takeC (i:=15) (v:=(.int .u64 (absI bn))) (fn:=31) (args:=#[.int .i64 bn]) rfl (by kernel_rfl) (by kernel_rfl) (by kernel_rfl) (by decide) (fun _ _ _ h=>h) rfl hS ?_ ?_ ?_
 focus
  rintro wS ⟨gbS,gdS,rfl⟩
  go_simp
 focus exact fun wS _=>(Z.out _ (by assumption) wS)
 (try simp only [nS])
 refine TS.wkB 16 hS ?_
 refine TS.wkB 17 hS ?_
 refine TS.wkB 18 hS ?_
 refine TS.one (i:=19) (by kernel_rfl) rfl (fun K1 hK1=>?_)
 go_simp
 go_at_call 92
 refine(Q.out _).mono ?_
 rintro e' wA ⟨rfl,bA,dA,rfl⟩
 refine TS.go hK1 (by first|exact⟨_,_,World.grow_grow _ _ _ _ _⟩|exact⟨_,_,rfl⟩) (fun hS=>?_)
 clear hK1 K1
 (try simp only [nS])
 refine TS.wkB 20 hS ?_
 refine TS.wkB 21 hS ?_
 refine TS.wtB 22 ?_
 refine TS.weB 23 ?_
 clear hS
 go_wp2_with fail
 go_returns
 exact⟨rfl,.of_below belB⟩
theorem div1_core(an ad bn bd n1 n2 n3:Int)(s t:Bool)(w:World)(h1:decide (an<0)=s)(h2:decide (bn<0)=t)(u1:IntKind.u64.wrap ad=ad)(u2:IntKind.u64.wrap bd=bd)(h5:(bn==0)=false)
 (V1:Hid (∀w,Calls Tryd.prog 37 #[.agg #[.int .i64 an,.int .i64 ad]] w fun e w'=>e= .returned (.bool true)∧w.Grows w')) (V2:Hid (∀w,Calls Tryd.prog 37 #[.agg #[.int .i64 bn,.int .i64 bd]] w fun e w'=>e= .returned (.bool true)∧w.Grows w'))
 (Z:Hid (∀n,I64 n→∀w,Calls Tryd.prog 31 #[.int .i64 n] w fun e w'=>e= .returned (.int .u64 (absI n))∧w=w')) (I1:I64 an) (I2:I64 ad) (I3:I64 bn) (I4:I64 bd)
 (Q:Hid (∀w,Calls Tryd.prog 92 #[.bool (s !=t),.int .u64 (absI an),.int .u64 ad,.int .u64 bd,.int .u64 (absI bn)] w fun e w'=>(e= .returned (.tuple #[.agg #[.int .i64 n1,.int .i64 n2],.int .i64 n3])∧w.Grows w')))
 :Calls Tryd.prog 85 (#[.agg #[.int .i64 an,.int .i64 ad],.agg #[.int .i64 bn,.int .i64 bd]]) w fun e w'=>(e= .returned (.tuple #[.agg #[.int .i64 n1,.int .i64 n2],.int .i64 n3])∧w.Grows w'):=by
 go_enter Tryd.func85,Tryd.ntmps85
 go_wp2_with (first|(go_at_call 37;(with_reducible refine(V1.out _).mono ?_);rintro e w' ⟨rfl,bs,dr,rfl⟩)|(go_at_call 37;(with_reducible refine(V2.out _).mono ?_);rintro e w' ⟨rfl,bs2,dr2,rfl⟩))
 refine TS.begin [22,23] (World.Grows _) (by kernel_rfl) (by kernel_rfl) grows_drew (fun hS=>?_)
 refine TS.wkB 0 hS ?_
 refine TS.wkB 1 hS ?_
 refine TS.wkB 2 hS ?_
 refine TS.wkB 3 hS ?_
 refine TS.wkB 4 hS ?_
 refine TS.wkB 5 hS ?_
 refine TS.wkB 6 hS ?_
 refine TS.wkB 7 hS ?_
 refine TS.wkB 8 hS ?_
 refine TS.takeC (i:=9) (v:=(.int .u64 (absI an))) (fn:=31) (args:=#[.int .i64 an]) rfl (by kernel_rfl) (by kernel_rfl) (by kernel_rfl) (by decide) (fun _ _ _ h=>h) rfl hS ?_ ?_ ?_
 focus
  rintro wS ⟨gbS,gdS,rfl⟩
  go_simp
 focus exact fun wS _=>(Z.out _ (by assumption) wS)
 (try simp only [nS])
 refine TS.wkB 10 hS ?_
 refine TS.wkB 11 hS ?_
 refine TS.wkB 12 hS ?_
 refine TS.wkB 13 hS ?_
 refine TS.wkB 14 hS ?_
 refine TS.wkB 15 hS ?_
 refine TS.wkB 16 hS ?_
 refine TS.wkB 17 hS ?_
 refine TS.takeC (i:=18) (v:=(.int .u64 (absI bn))) (fn:=31) (args:=#[.int .i64 bn]) rfl (by kernel_rfl) (by kernel_rfl) (by kernel_rfl) (by decide) (fun _ _ _ h=>h) rfl hS ?_ ?_ ?_
 focus
  rintro wS ⟨gbS,gdS,rfl⟩
  go_simp
 focus exact fun wS _=>(Z.out _ (by assumption) wS)
 (try simp only [nS])
 refine TS.one (i:=19) (by kernel_rfl) rfl (fun K1 hK1=>?_)
 go_simp
 go_at_call 92
 refine(Q.out _).mono ?_
 rintro e' wA ⟨rfl,bA,dA,rfl⟩
 refine TS.go hK1 (by first|exact⟨_,_,World.grow_grow _ _ _ _ _⟩|exact⟨_,_,rfl⟩) (fun hS=>?_)
 clear hK1 K1
 (try simp only [nS])
 refine TS.wkB 20 hS ?_
 refine TS.wkB 21 hS ?_
 refine TS.wtB 22 ?_
 refine TS.weB 23 ?_
 clear hS
 go_wp2_with fail
 go_returns
 exact⟨rfl,.of_below belB⟩
theorem mul1_no(an ad bn bd:Int)(p q:Bool)(w:World)(hpq:(p&&q)=false)
 (V1:Hid (∀w,Calls Tryd.prog 37 #[.agg #[.int .i64 an,.int .i64 ad]] w fun e w'=>e= .returned (.bool p)∧w.Grows w')) (V2:Hid (∀w,Calls Tryd.prog 37 #[.agg #[.int .i64 bn,.int .i64 bd]] w fun e w'=>e= .returned (.bool q)∧w.Grows w'))
 :Calls Tryd.prog 84 (#[.agg #[.int .i64 an,.int .i64 ad],.agg #[.int .i64 bn,.int .i64 bd]]) w fun e w'=>e= .returned (frV (0,0,1))∧w.Grows w':=by
 cases p<;>cases q
 all_goals first
  |(exfalso;simp at hpq;done)
  |clear hpq
 all_goals
  go_enter Tryd.func84,Tryd.ntmps84
  go_wp2_with (first|(go_at_call 37;(with_reducible refine(V1.out _).mono ?_);rintro e w' ⟨rfl,bs,dr,rfl⟩)|(go_at_call 37;(with_reducible refine(V2.out _).mono ?_);rintro e w' ⟨rfl,bs2,dr2,rfl⟩))
  go_returns
  exact⟨rfl,.of_below belB⟩
theorem div1_no(an ad bn bd:Int)(p q:Bool)(w:World)(hpq:(p&&q)=false)
 (V1:Hid (∀w,Calls Tryd.prog 37 #[.agg #[.int .i64 an,.int .i64 ad]] w fun e w'=>e= .returned (.bool p)∧w.Grows w')) (V2:Hid (∀w,Calls Tryd.prog 37 #[.agg #[.int .i64 bn,.int .i64 bd]] w fun e w'=>e= .returned (.bool q)∧w.Grows w'))
 :Calls Tryd.prog 85 (#[.agg #[.int .i64 an,.int .i64 ad],.agg #[.int .i64 bn,.int .i64 bd]]) w fun e w'=>e= .returned (frV (0,0,1))∧w.Grows w':=by
 cases p<;>cases q
 all_goals first
  |(exfalso;simp at hpq;done)
  |clear hpq
 all_goals
  go_enter Tryd.func85,Tryd.ntmps85
  go_wp2_with (first|(go_at_call 37;(with_reducible refine(V1.out _).mono ?_);rintro e w' ⟨rfl,bs,dr,rfl⟩)|(go_at_call 37;(with_reducible refine(V2.out _).mono ?_);rintro e w' ⟨rfl,bs2,dr2,rfl⟩))
  go_returns
  exact⟨rfl,.of_below belB⟩
theorem add1_no(an ad bn bd:Int)(p q:Bool)(w:World)(hpq:(p&&q)=false)
 (V1:Hid (∀w,Calls Tryd.prog 37 #[.agg #[.int .i64 an,.int .i64 ad]] w fun e w'=>e= .returned (.bool p)∧w.Grows w')) (V2:Hid (∀w,Calls Tryd.prog 37 #[.agg #[.int .i64 bn,.int .i64 bd]] w fun e w'=>e= .returned (.bool q)∧w.Grows w'))
 :Calls Tryd.prog 82 (#[.agg #[.int .i64 an,.int .i64 ad],.agg #[.int .i64 bn,.int .i64 bd]]) w fun e w'=>e= .returned (frV (0,0,1))∧w.Grows w':=by
 cases p<;>cases q
 all_goals first
  |(exfalso;simp at hpq;done)
  |clear hpq
 all_goals
  go_enter Tryd.func82,Tryd.ntmps82
  go_wp2_with (first|(go_at_call 37;(with_reducible refine(V1.out _).mono ?_);rintro e w' ⟨rfl,bs,dr,rfl⟩)|(go_at_call 37;(with_reducible refine(V2.out _).mono ?_);rintro e w' ⟨rfl,bs2,dr2,rfl⟩))
  go_returns
  exact⟨rfl,.of_below belB⟩
theorem div1_zero(an ad bd:Int)(w:World)
 (V1:Hid (∀w,Calls Tryd.prog 37 #[.agg #[.int .i64 an,.int .i64 ad]] w fun e w'=>e= .returned (.bool true)∧w.Grows w')) (V2:Hid (∀w,Calls Tryd.prog 37 #[.agg #[.int .i64 0,.int .i64 bd]] w fun e w'=>e= .returned (.bool true)∧w.Grows w'))
 :Calls Tryd.prog 85 #[.agg #[.int .i64 an,.int .i64 ad],.agg #[.int .i64 0,.int .i64 bd]] w fun e w'=>e= .returned (frV (0,0,3))∧w.Grows w':=by
 go_enter Tryd.func85,Tryd.ntmps85
 go_wp2_with (first|(go_at_call 37;(with_reducible refine(V1.out _).mono ?_);rintro e w' ⟨rfl,bs,dr,rfl⟩)|(go_at_call 37;(with_reducible refine(V2.out _).mono ?_);rintro e w' ⟨rfl,bs2,dr2,rfl⟩))
 go_returns
 exact⟨rfl,.of_below belB⟩

theorem add1_same(an ad bn bd xh xl yh yl zh zl D n1 n2 n3:Int)(s:Bool)(w:World)(h1:decide (an<0)=s)(h2:decide (bn<0)=s)
 (V1:Hid (∀w,Calls Tryd.prog 37 #[.agg #[.int .i64 an,.int .i64 ad]] w fun e w'=>e= .returned (.bool true)∧w.Grows w')) (V2:Hid (∀w,Calls Tryd.prog 37 #[.agg #[.int .i64 bn,.int .i64 bd]] w fun e w'=>e= .returned (.bool true)∧w.Grows w'))
 (Z:Hid (∀n,I64 n→∀w,Calls Tryd.prog 31 #[.int .i64 n] w fun e w'=>e= .returned (.int .u64 (absI n))∧w=w')) (I1:I64 an) (I2:I64 ad) (I3:I64 bn) (I4:I64 bd)
 (T1:Hid (∀w,Calls Tryd.prog 63 #[.int .u64 (absI an),.int .u64 bd] w fun e w'=>e= .returned (.agg #[.int .u64 xh,.int .u64 xl])∧w.Grows w')) (T2:Hid (∀w,Calls Tryd.prog 63 #[.int .u64 (absI bn),.int .u64 ad] w fun e w'=>e= .returned (.agg #[.int .u64 yh,.int .u64 yl])∧w.Grows w')) (u1:IntKind.u64.wrap ad=ad) (u2:IntKind.u64.wrap bd=bd) (u3:IntKind.u64.wrap (ad*bd)=D)
 (O:Hid (∀w,Calls Tryd.prog 90 #[.agg #[.int .u64 xh,.int .u64 xl],.agg #[.int .u64 yh,.int .u64 yl]] w fun e w'=>e= .returned (.agg #[.int .u64 zh,.int .u64 zl])∧w.Grows w'))
 (Q:Hid (∀w,Calls Tryd.prog 30 #[.bool s,.agg #[.int .u64 zh,.int .u64 zl],.int .u64 D] w fun e w'=>(e= .returned (.tuple #[.agg #[.int .i64 n1,.int .i64 n2],.int .i64 n3])∧w.Grows w')))
 :Calls Tryd.prog 82 (#[.agg #[.int .i64 an,.int .i64 ad],.agg #[.int .i64 bn,.int .i64 bd]]) w fun e w'=>(e= .returned (.tuple #[.agg #[.int .i64 n1,.int .i64 n2],.int .i64 n3])∧w.Grows w'):=by
 have L:Hid True:=Lib.hid trivial
 go_enter Tryd.func82,Tryd.ntmps82
 go_wp2_with (first|(go_at_call 37;(with_reducible refine(V1.out _).mono ?_);rintro e w' ⟨rfl,bs,dr,rfl⟩)|(go_at_call 37;(with_reducible refine(V2.out _).mono ?_);rintro e w' ⟨rfl,bs2,dr2,rfl⟩))
 generalize bs++bs2=B
 apply wp_region_made2b 16 (14,6,.cells #[.int .u64 0,.int .u64 0] 103) (15,7,.cells #[.int .u64 0,.int .u64 0] 103) (by kernel_rfl) (by kernel_rfl)
 case hrx=>
  intro o ho ρ w
  obtain rfl:=Option.some.inj ho
  simp [go_sem]
 case hry=>
  intro o ho ρ w
  obtain rfl:=Option.some.inj ho
  simp [go_sem]
 case h1=>
  intro bs d
  simp only [List.take_succ_cons,List.take_zero,List.map_cons,List.map_nil,Oper.mask]
  repeat(go_big_quiet_step ((first|(go_at_call 31;(with_reducible exact Calls.quietMS3 (Z.out _ (by assumption) _)))|(go_at_call 63;first|(with_reducible exact Calls.quietM3 (T1.out _))|(with_reducible exact Calls.quietM3 (T2.out _))))))
  exact wpQuiet_nil rfl
 all_goals
  intro gb1 gd1 gb2 gd2 gb gd
  simp only [List.drop_succ_cons,List.drop_zero,Act.put,List.setIfInBounds_toArray,List.set_cons_zero,List.set_cons_succ,World.grow_grow,World.size_grow,World.size_alloc,Array.size_append]
 all_goals
  go_wp2_with (first|(go_at_call 64;(with_reducible refine(L.out _).mono ?_);rintro e w' ⟨rfl,bs3,dr3,rfl⟩))
  refine TS.begin [10,11] (World.Grows _) (by kernel_rfl) (by kernel_rfl) grows_drew (fun hS=>?_)
  refine TS.wkB 0 hS ?_
  refine TS.wkB 1 hS ?_
  refine TS.wkB 2 hS ?_
  refine TS.wkB 3 hS ?_
  refine TS.wkB 4 hS ?_
  refine TS.wkB 6 hS ?_
  refine TS.one (i:=5) (by kernel_rfl) rfl (fun K1 hK1=>?_)
  go_simp
  go_at_call 90
  refine(O.out _).mono ?_
  rintro e' wA ⟨rfl,bA,dA,rfl⟩
  refine TS.go hK1 (by first|exact⟨_,_,World.grow_grow _ _ _ _ _⟩|exact⟨_,_,rfl⟩) (fun hS=>?_)
  clear hK1 K1
  (try simp only [nS])
  refine TS.one (i:=7) (by kernel_rfl) rfl (fun K1 hK1=>?_)
  go_simp
  go_at_call 30
  refine(Q.out _).mono ?_
  rintro e' wA ⟨rfl,bA,dA,rfl⟩
  refine TS.go hK1 (by first|exact⟨_,_,World.grow_grow _ _ _ _ _⟩|exact⟨_,_,rfl⟩) (fun hS=>?_)
  clear hK1 K1
  (try simp only [nS])
  refine TS.wkB 8 hS ?_
  refine TS.wkB 9 hS ?_
  refine TS.wtB 10 ?_
  refine TS.weB 11 ?_
  clear hS
  go_wp2_with fail
  go_returns
  exact⟨rfl,.of_below belB⟩
theorem add1_less(an ad bn bd xh xl yh yl zh zl D n1 n2 n3:Int)(s t:Bool)(w:World)(h1:decide (an<0)=s)(h2:decide (bn<0)=t)(h3:(s==t)=false)
 (V1:Hid (∀w,Calls Tryd.prog 37 #[.agg #[.int .i64 an,.int .i64 ad]] w fun e w'=>e= .returned (.bool true)∧w.Grows w')) (V2:Hid (∀w,Calls Tryd.prog 37 #[.agg #[.int .i64 bn,.int .i64 bd]] w fun e w'=>e= .returned (.bool true)∧w.Grows w'))
 (Z:Hid (∀n,I64 n→∀w,Calls Tryd.prog 31 #[.int .i64 n] w fun e w'=>e= .returned (.int .u64 (absI n))∧w=w')) (I1:I64 an) (I2:I64 ad) (I3:I64 bn) (I4:I64 bd)
 (T1:Hid (∀w,Calls Tryd.prog 63 #[.int .u64 (absI an),.int .u64 bd] w fun e w'=>e= .returned (.agg #[.int .u64 xh,.int .u64 xl])∧w.Grows w')) (T2:Hid (∀w,Calls Tryd.prog 63 #[.int .u64 (absI bn),.int .u64 ad] w fun e w'=>e= .returned (.agg #[.int .u64 yh,.int .u64 yl])∧w.Grows w')) (u1:IntKind.u64.wrap ad=ad) (u2:IntKind.u64.wrap bd=bd) (u3:IntKind.u64.wrap (ad*bd)=D)
 (L:Hid (∀w,Calls Tryd.prog 64 #[.agg #[.int .u64 xh,.int .u64 xl],.agg #[.int .u64 yh,.int .u64 yl]] w fun e w'=>e= .returned (.bool true)∧w.Grows w'))
 (O:Hid (∀w,Calls Tryd.prog 91 #[.agg #[.int .u64 yh,.int .u64 yl],.agg #[.int .u64 xh,.int .u64 xl]] w fun e w'=>e= .returned (.agg #[.int .u64 zh,.int .u64 zl])∧w.Grows w'))
 (Q:Hid (∀w,Calls Tryd.prog 30 #[.bool t,.agg #[.int .u64 zh,.int .u64 zl],.int .u64 D] w fun e w'=>(e= .returned (.tuple #[.agg #[.int .i64 n1,.int .i64 n2],.int .i64 n3])∧w.Grows w')))
 :Calls Tryd.prog 82 (#[.agg #[.int .i64 an,.int .i64 ad],.agg #[.int .i64 bn,.int .i64 bd]]) w fun e w'=>(e= .returned (.tuple #[.agg #[.int .i64 n1,.int .i64 n2],.int .i64 n3])∧w.Grows w'):=by
 go_enter Tryd.func82,Tryd.ntmps82
 go_wp2_with (first|(go_at_call 37;(with_reducible refine(V1.out _).mono ?_);rintro e w' ⟨rfl,bs,dr,rfl⟩)|(go_at_call 37;(with_reducible refine(V2.out _).mono ?_);rintro e w' ⟨rfl,bs2,dr2,rfl⟩))
 generalize bs++bs2=B
 apply wp_region_made2b 16 (14,6,.cells #[.int .u64 0,.int .u64 0] 103) (15,7,.cells #[.int .u64 0,.int .u64 0] 103) (by kernel_rfl) (by kernel_rfl)
 case hrx=>
  intro o ho ρ w
  obtain rfl:=Option.some.inj ho
  simp [go_sem]
 case hry=>
  intro o ho ρ w
  obtain rfl:=Option.some.inj ho
  simp [go_sem]
 case h1=>
  intro bs d
  simp only [List.take_succ_cons,List.take_zero,List.map_cons,List.map_nil,Oper.mask]
  repeat(go_big_quiet_step ((first|(go_at_call 31;(with_reducible exact Calls.quietMS3 (Z.out _ (by assumption) _)))|(go_at_call 63;first|(with_reducible exact Calls.quietM3 (T1.out _))|(with_reducible exact Calls.quietM3 (T2.out _))))))
  exact wpQuiet_nil rfl
 all_goals
  intro gb1 gd1 gb2 gd2 gb gd
  simp only [List.drop_succ_cons,List.drop_zero,Act.put,List.setIfInBounds_toArray,List.set_cons_zero,List.set_cons_succ,World.grow_grow,World.size_grow,World.size_alloc,Array.size_append]
 all_goals
  go_wp2_with (first|(go_at_call 64;(with_reducible refine(L.out _).mono ?_);rintro e w' ⟨rfl,bs3,dr3,rfl⟩))
  refine TS.begin [10,11] (World.Grows _) (by kernel_rfl) (by kernel_rfl) grows_drew (fun hS=>?_)
  refine TS.wkB 0 hS ?_
  refine TS.wkB 1 hS ?_
  refine TS.wkB 2 hS ?_
  refine TS.wkB 3 hS ?_
  refine TS.wkB 4 hS ?_
  refine TS.wkB 6 hS ?_
  refine TS.one (i:=5) (by kernel_rfl) rfl (fun K1 hK1=>?_)
  go_simp
  go_at_call 91
  refine(O.out _).mono ?_
  rintro e' wA ⟨rfl,bA,dA,rfl⟩
  refine TS.go hK1 (by first|exact⟨_,_,World.grow_grow _ _ _ _ _⟩|exact⟨_,_,rfl⟩) (fun hS=>?_)
  clear hK1 K1
  (try simp only [nS])
  refine TS.one (i:=7) (by kernel_rfl) rfl (fun K1 hK1=>?_)
  go_simp
  go_at_call 30
  refine(Q.out _).mono ?_
  rintro e' wA ⟨rfl,bA,dA,rfl⟩
  refine TS.go hK1 (by first|exact⟨_,_,World.grow_grow _ _ _ _ _⟩|exact⟨_,_,rfl⟩) (fun hS=>?_)
  clear hK1 K1
  (try simp only [nS])
  refine TS.wkB 8 hS ?_
  refine TS.wkB 9 hS ?_
  refine TS.wtB 10 ?_
  refine TS.weB 11 ?_
  clear hS
  go_wp2_with fail
  go_returns
  exact⟨rfl,.of_below belB⟩
theorem add1_more(an ad bn bd xh xl yh yl zh zl D n1 n2 n3:Int)(s t:Bool)(w:World)(h1:decide (an<0)=s)(h2:decide (bn<0)=t)(h3:(s==t)=false)
 (V1:Hid (∀w,Calls Tryd.prog 37 #[.agg #[.int .i64 an,.int .i64 ad]] w fun e w'=>e= .returned (.bool true)∧w.Grows w')) (V2:Hid (∀w,Calls Tryd.prog 37 #[.agg #[.int .i64 bn,.int .i64 bd]] w fun e w'=>e= .returned (.bool true)∧w.Grows w'))
 (Z:Hid (∀n,I64 n→∀w,Calls Tryd.prog 31 #[.int .i64 n] w fun e w'=>e= .returned (.int .u64 (absI n))∧w=w')) (I1:I64 an) (I2:I64 ad) (I3:I64 bn) (I4:I64 bd)
 (T1:Hid (∀w,Calls Tryd.prog 63 #[.int .u64 (absI an),.int .u64 bd] w fun e w'=>e= .returned (.agg #[.int .u64 xh,.int .u64 xl])∧w.Grows w')) (T2:Hid (∀w,Calls Tryd.prog 63 #[.int .u64 (absI bn),.int .u64 ad] w fun e w'=>e= .returned (.agg #[.int .u64 yh,.int .u64 yl])∧w.Grows w')) (u1:IntKind.u64.wrap ad=ad) (u2:IntKind.u64.wrap bd=bd) (u3:IntKind.u64.wrap (ad*bd)=D)
 (L:Hid (∀w,Calls Tryd.prog 64 #[.agg #[.int .u64 xh,.int .u64 xl],.agg #[.int .u64 yh,.int .u64 yl]] w fun e w'=>e= .returned (.bool false)∧w.Grows w'))
 (O:Hid (∀w,Calls Tryd.prog 91 #[.agg #[.int .u64 xh,.int .u64 xl],.agg #[.int .u64 yh,.int .u64 yl]] w fun e w'=>e= .returned (.agg #[.int .u64 zh,.int .u64 zl])∧w.Grows w'))
 (Q:Hid (∀w,Calls Tryd.prog 30 #[.bool s,.agg #[.int .u64 zh,.int .u64 zl],.int .u64 D] w fun e w'=>(e= .returned (.tuple #[.agg #[.int .i64 n1,.int .i64 n2],.int .i64 n3])∧w.Grows w')))
 :Calls Tryd.prog 82 (#[.agg #[.int .i64 an,.int .i64 ad],.agg #[.int .i64 bn,.int .i64 bd]]) w fun e w'=>(e= .returned (.tuple #[.agg #[.int .i64 n1,.int .i64 n2],.int .i64 n3])∧w.Grows w'):=by
 go_enter Tryd.func82,Tryd.ntmps82
 go_wp2_with (first|(go_at_call 37;(with_reducible refine(V1.out _).mono ?_);rintro e w' ⟨rfl,bs,dr,rfl⟩)|(go_at_call 37;(with_reducible refine(V2.out _).mono ?_);rintro e w' ⟨rfl,bs2,dr2,rfl⟩))
 generalize bs++bs2=B
 apply wp_region_made2b 16 (14,6,.cells #[.int .u64 0,.int .u64 0] 103) (15,7,.cells #[.int .u64 0,.int .u64 0] 103) (by kernel_rfl) (by kernel_rfl)
 case hrx=>
  intro o ho ρ w
  obtain rfl:=Option.some.inj ho
  simp [go_sem]
 case hry=>
  intro o ho ρ w
  obtain rfl:=Option.some.inj ho
  simp [go_sem]
 case h1=>
  intro bs d
  simp only [List.take_succ_cons,List.take_zero,List.map_cons,List.map_nil,Oper.mask]
  repeat(go_big_quiet_step ((first|(go_at_call 31;(with_reducible exact Calls.quietMS3 (Z.out _ (by assumption) _)))|(go_at_call 63;first|(with_reducible exact Calls.quietM3 (T1.out _))|(with_reducible exact Calls.quietM3 (T2.out _))))))
  exact wpQuiet_nil rfl
 all_goals
  intro gb1 gd1 gb2 gd2 gb gd
  simp only [List.drop_succ_cons,List.drop_zero,Act.put,List.setIfInBounds_toArray,List.set_cons_zero,List.set_cons_succ,World.grow_grow,World.size_grow,World.size_alloc,Array.size_append]
 all_goals
  go_wp2_with (first|(go_at_call 64;(with_reducible refine(L.out _).mono ?_);rintro e w' ⟨rfl,bs3,dr3,rfl⟩))
  refine TS.begin [10,11] (World.Grows _) (by kernel_rfl) (by kernel_rfl) grows_drew (fun hS=>?_)
  refine TS.wkB 0 hS ?_
  refine TS.wkB 1 hS ?_
  refine TS.wkB 2 hS ?_
  refine TS.wkB 3 hS ?_
  refine TS.wkB 4 hS ?_
  refine TS.wkB 6 hS ?_
  refine TS.one (i:=5) (by kernel_rfl) rfl (fun K1 hK1=>?_)
  go_simp
  go_at_call 91
  refine(O.out _).mono ?_
  rintro e' wA ⟨rfl,bA,dA,rfl⟩
  refine TS.go hK1 (by first|exact⟨_,_,World.grow_grow _ _ _ _ _⟩|exact⟨_,_,rfl⟩) (fun hS=>?_)
  clear hK1 K1
  (try simp only [nS])
  refine TS.one (i:=7) (by kernel_rfl) rfl (fun K1 hK1=>?_)
  go_simp
  go_at_call 30
  refine(Q.out _).mono ?_
  rintro e' wA ⟨rfl,bA,dA,rfl⟩
  refine TS.go hK1 (by first|exact⟨_,_,World.grow_grow _ _ _ _ _⟩|exact⟨_,_,rfl⟩) (fun hS=>?_)
  clear hK1 K1
  (try simp only [nS])
  refine TS.wkB 8 hS ?_
  refine TS.wkB 9 hS ?_
  refine TS.wtB 10 ?_
  refine TS.weB 11 ?_
  clear hS
  go_wp2_with fail
  go_returns
  exact⟨rfl,.of_below belB⟩
theorem den_nat{d:Int}(h:1≤d):d=((d.natAbs:Nat):Int):=by omega
theorem Mul1_any(an ad bn bd:Int)(w:World)(hi:I64x4 an ad bn bd):Calls Tryd.prog 84 #[.agg #[.int .i64 an,.int .i64 ad],.agg #[.int .i64 bn,.int .i64 bd]] w fun e w'=>e= .returned (frV (mulF an ad bn bd))∧w.Grows w':=by
 obtain⟨i1,i2,i3,i4⟩:=hi
 have V1:=Lib.hid (fun w=>Valid1_any an ad w i1.1 i1.2 i2.1 i2.2)
 have V2:=Lib.hid (fun w=>Valid1_any bn bd w i3.1 i3.2 i4.1 i4.2)
 by_cases hv:(vfrac an ad&&vfrac bn bd)=true
 case neg=>
  have e:mulF an ad bn bd=(0,0,1):=by unfold mulF;rw [if_neg hv]
  rw [e]
  exact mul1_no an ad bn bd _ _ w (Bool.eq_false_iff.2 hv) V1 V2
 have hva:=(Bool.and_eq_true_iff.1 hv).1
 have hvb:=(Bool.and_eq_true_iff.1 hv).2
 have e:mulF an ad bn bd=prdF (decide (an<0)!=decide (bn<0)) an.natAbs ad.natAbs bn.natAbs bd.natAbs:=by unfold mulF;rw [if_pos hv];try rfl
 rw [e]
 rw [hva]at V1
 rw [hvb]at V2
 have b1:=vfrac_bd hva
 have b2:=vfrac_bd hvb
 refine mul1_core an ad bn bd _ _ _ _ _ w rfl rfl (IntWalk.u64_in _ (by omega)) (IntWalk.u64_in _ (by omega)) V1 V2 (fun n h w=>size1_any n w h.1 h.2) i1 i2 i3 i4 (fun w=>?_)
 have:=product1_any (decide (an<0)!=decide (bn<0)) an.natAbs ad.natAbs bn.natAbs bd.natAbs w (by omega) (by omega) (by omega) (by omega) (by omega) (by omega)
 rw [←den_nat b1.1,←den_nat b2.1]at this
 exact this
theorem Div1_any(an ad bn bd:Int)(w:World)(hi:I64x4 an ad bn bd):Calls Tryd.prog 85 #[.agg #[.int .i64 an,.int .i64 ad],.agg #[.int .i64 bn,.int .i64 bd]] w fun e w'=>e= .returned (frV (divF an ad bn bd))∧w.Grows w':=by
 obtain⟨i1,i2,i3,i4⟩:=hi
 have V1:=Lib.hid (fun w=>Valid1_any an ad w i1.1 i1.2 i2.1 i2.2)
 have V2:=Lib.hid (fun w=>Valid1_any bn bd w i3.1 i3.2 i4.1 i4.2)
 by_cases hv:(vfrac an ad&&vfrac bn bd)=true
 case neg=>
  have e:divF an ad bn bd=(0,0,1):=by unfold divF;rw [if_neg hv]
  rw [e]
  exact div1_no an ad bn bd _ _ w (Bool.eq_false_iff.2 hv) V1 V2
 have hva:=(Bool.and_eq_true_iff.1 hv).1
 have hvb:=(Bool.and_eq_true_iff.1 hv).2
 have e:divF an ad bn bd=(if bn=0 then(0,0,3)else prdF (decide (an<0)!=decide (bn<0)) an.natAbs ad.natAbs bd.natAbs bn.natAbs):=by unfold divF;rw [if_pos hv];try rfl
 rw [e]
 rw [hva]at V1
 rw [hvb]at V2
 have b1:=vfrac_bd hva
 have b2:=vfrac_bd hvb
 by_cases h0:bn=0
 ·subst h0
  rw [if_pos rfl]
  exact div1_zero an ad bd w V1 V2
 rw [if_neg h0]
 refine div1_core an ad bn bd _ _ _ _ _ w rfl rfl (IntWalk.u64_in _ (by omega)) (IntWalk.u64_in _ (by omega)) (by simpa using h0) V1 V2 (fun n h w=>size1_any n w h.1 h.2) i1 i2 i3 i4 (fun w=>?_)
 have:=product1_any (decide (an<0)!=decide (bn<0)) an.natAbs ad.natAbs bd.natAbs bn.natAbs w (by omega) (by omega) (by omega) (by omega) (by omega) (by omega)
 rw [←den_nat b1.1,←den_nat b2.1]at this
 exact this
theorem cross_bd{an bd:Int}(h1:-1000000000000000≤an)(h2:an≤1000000000000000)(h3:1≤bd)(h4:bd≤1000000000):an.natAbs*bd.natAbs≤1000000000000000000000000:=
 Nat.le_trans (Nat.mul_le_mul (show an.natAbs≤1000000000000000 by omega) (show bd.natAbs≤1000000000 by omega)) (by decide)
theorem dens_bd{ad bd:Int}(h1:1≤ad)(h2:ad≤1000000000)(h3:1≤bd)(h4:bd≤1000000000):0<ad.natAbs*bd.natAbs∧ad.natAbs*bd.natAbs≤1000000000000000000:=
 ⟨Nat.mul_pos (by omega) (by omega),Nat.le_trans (Nat.mul_le_mul (show ad.natAbs≤1000000000 by omega) (show bd.natAbs≤1000000000 by omega)) (by decide)⟩
def addV(neg:Bool)(N D:Nat):Int × Int × Int:=(lowN neg N D,lowD N D,lowE N D)
theorem addV_neg{b c:Bool}{N D:Nat}(h:N=0∨b=c):addV b N D=addV c N D:=by unfold addV;rw [lowN_neg h]
theorem Add1_any(an ad bn bd:Int)(w:World)(hi:I64x4 an ad bn bd):Calls Tryd.prog 82 #[.agg #[.int .i64 an,.int .i64 ad],.agg #[.int .i64 bn,.int .i64 bd]] w fun e w'=>e= .returned (frV (addF an ad bn bd))∧w.Grows w':=by
 obtain⟨i1,i2,i3,i4⟩:=hi
 have V1:=Lib.hid (fun w=>Valid1_any an ad w i1.1 i1.2 i2.1 i2.2)
 have V2:=Lib.hid (fun w=>Valid1_any bn bd w i3.1 i3.2 i4.1 i4.2)
 by_cases hv:(vfrac an ad&&vfrac bn bd)=true
 case neg=>
  have e:addF an ad bn bd=(0,0,1):=by unfold addF;rw [if_neg hv]
  rw [e]
  exact add1_no an ad bn bd _ _ w (Bool.eq_false_iff.2 hv) V1 V2
 have hva:=(Bool.and_eq_true_iff.1 hv).1
 have hvb:=(Bool.and_eq_true_iff.1 hv).2
 have e:addF an ad bn bd=addV (decide (addS an ad bn bd<0)) (addS an ad bn bd).natAbs (ad.natAbs*bd.natAbs):=by unfold addF;rw [if_pos hv];try rfl
 rw [e]
 rw [hva]at V1
 rw [hvb]at V2
 have b1:=vfrac_bd hva
 have b2:=vfrac_bd hvb
 have hD:=dens_bd b1.1 b1.2.1 b2.1 b2.2.1
 have c1:=cross_bd (an:=an) (bd:=bd) b1.2.2.1 b1.2.2.2 b2.1 b2.2.1
 have c2:=cross_bd (an:=bn) (bd:=ad) b2.2.2.1 b2.2.2.2 b1.1 b1.2.1
 have Z:Hid _:=Lib.hid (fun n (h:I64 n) w=>size1_any n w h.1 h.2)
 have T1:Hid _:=Lib.hid (fun w=>times_nn times1_any i1 (b:=bd) (by omega) (by omega) w)
 have T2:Hid _:=Lib.hid (fun w=>times_nn times1_any i3 (b:=ad) (by omega) (by omega) w)
 have u1:IntKind.u64.wrap ad=ad:=IntWalk.u64_in _ (by omega)
 have u2:IntKind.u64.wrap bd=bd:=IntWalk.u64_in _ (by omega)
 have u3:IntKind.u64.wrap (ad*bd)=((ad.natAbs*bd.natAbs:Nat):Int):=by
  have e:ad*bd=((ad.natAbs*bd.natAbs:Nat):Int):=by rw [Int.natCast_mul,←den_nat b1.1,←den_nat b2.1]
  rw [e];exact IntWalk.u64_in _ (by omega)
 by_cases hs:decide (an<0)=decide (bn<0)
 ·obtain⟨e1,e2⟩:=add_same b1.1 b2.1 hs
  rw [addV_neg e2,e1]
  exact add1_same an ad bn bd _ _ _ _ _ _ _ _ _ _ _ w rfl hs.symm V1 V2 Z i1 i2 i3 i4 T1 T2 u1 u2 u3 (fun w=>plus1_any _ _ w (by omega)) (fun w=>lowest1_any _ _ _ w (by omega) (by omega) hD.1)
 ·obtain⟨f1,f2⟩:=add_diff b1.1 b2.1 hs
  have L:=fun w=>less1_any (hiW (an.natAbs*bd.natAbs)) (loW (an.natAbs*bd.natAbs)) (hiW (bn.natAbs*ad.natAbs)) (loW (bn.natAbs*ad.natAbs)) w
  rw [wless_nat]at L
  by_cases hl:an.natAbs*bd.natAbs<bn.natAbs*ad.natAbs
  ·obtain⟨e1,e2⟩:=f1 hl
   rw [addV_neg e2,e1]
   rw [decide_eq_true hl]at L
   exact add1_less an ad bn bd _ _ _ _ _ _ _ _ _ _ _ _ w rfl rfl (by simpa using hs) V1 V2 Z i1 i2 i3 i4 T1 T2 u1 u2 u3 L (fun w=>minus1_any _ _ w (by omega) (by omega)) (fun w=>lowest1_any _ _ _ w (by omega) (by omega) hD.1)
  ·obtain⟨e1,e2⟩:=f2 (by omega)
   rw [addV_neg e2,e1]
   rw [decide_eq_false hl]at L
   exact add1_more an ad bn bd _ _ _ _ _ _ _ _ _ _ _ _ w rfl rfl (by simpa using hs) V1 V2 Z i1 i2 i3 i4 T1 T2 u1 u2 u3 L (fun w=>minus1_any _ _ w (by omega) (by omega)) (fun w=>lowest1_any _ _ _ w (by omega) (by omega) hD.1)
theorem Sub1_any(an ad bn bd:Int)(w:World)(hi:I64x4 an ad bn bd):Calls Tryd.prog 83 #[.agg #[.int .i64 an,.int .i64 ad],.agg #[.int .i64 bn,.int .i64 bd]] w fun e w'=>e= .returned (frV (subF an ad bn bd))∧w.Grows w':=by
 obtain⟨i1,i2,i3,i4⟩:=hi
 have N:=Lib.hid (fun w=>Neg1_any bn bd w i3.1 i3.2 i4.1 i4.2)
 by_cases hv:vfrac bn bd=true
 ·have b2:=vfrac_bd hv
  have e0:subF an ad bn bd=addF an ad (-bn) bd:=by unfold subF;rw [if_pos hv]
  have e1:negF bn bd=(-bn,bd,0):=by unfold negF;rw [if_pos hv]
  have A:=Lib.hid (fun w=>Add1_any an ad (-bn) bd w ⟨i1,i2,by unfold I64;omega,i4⟩)
  rw [e1]at N
  rw [e0]
  generalize addF an ad (-bn) bd=r at *
  obtain⟨r1,r2,r3⟩:=r
  clear e0 e1 hv
  unfold frV at N A
  generalize -bn=c at *
  go_enter Tryd.func83,Tryd.ntmps83
  go_wp2_with (first|(go_at_call 80;(with_reducible refine(N.out _).mono ?_);rintro e w' ⟨rfl,bs,dr,rfl⟩)|(go_at_call 82;(with_reducible refine(A.out _).mono ?_);rintro e w' ⟨rfl,bs2,dr2,rfl⟩))
  exact lz6
 ·have e0:subF an ad bn bd=(0,0,1):=by unfold subF;rw [if_neg hv]
  have e1:negF bn bd=(0,0,1):=by unfold negF;rw [if_neg hv]
  rw [e1]at N
  rw [e0]
  clear e0 e1 hv
  unfold frV at N
  go_enter Tryd.func83,Tryd.ntmps83
  go_wp2_with (go_at_call 80;(with_reducible refine(N.out _).mono ?_);rintro e w' ⟨rfl,bs,dr,rfl⟩)
  exact lz6
def vwV(v:Vw)(y:Value):Value:=.agg #[.int .i64 v.age,.int .i64 v.year,.int .i64 v.children,.int .i64 v.insured,.int .i64 v.worked,.int .i64 v.voluntary,.int .i64 v.service,.int .i64 v.equated,.int .i64 v.raising,.int .i64 v.resident,.int .i64 v.bn,.int .i64 v.bd,y]
structure VwRng(v:Vw):Prop where
 base:I64 v.bn∧I64 v.bd
def Vw.ds(v:Vw):List Int:=[v.insured,v.worked,v.voluntary,v.service,v.equated,v.raising,v.resident]
theorem days_any(v:Vw)(y:Value)(w:World)(hy:∃a n c,y= .slice a n c):Calls Tryd.prog 22 #[vwV v y] w fun r w'=>r= .returned (.agg #[.int .i64 v.insured,.int .i64 v.worked,.int .i64 v.voluntary,.int .i64 v.service,.int .i64 v.equated,.int .i64 v.raising,.int .i64 v.resident])∧w.Grows w':=by
 obtain⟨a,n,c,rfl⟩:=hy
 obtain⟨age,year,children,insured,worked,voluntary,service,equated,raising,resident,bn,bd,years⟩:=v
 show Calls Tryd.prog 22 #[.agg #[.int .i64 age,.int .i64 year,.int .i64 children,.int .i64 insured,.int .i64 worked,.int .i64 voluntary,.int .i64 service,.int .i64 equated,.int .i64 raising,.int .i64 resident,.int .i64 bn,.int .i64 bd,.slice a n c]] w _
 dsimp only
 go_enter Tryd.func22,Tryd.ntmps22
 exact lz13
def Vw.rngB(v:Vw):Bool:=decide (0≤v.age∧v.age≤199∧1900≤v.year∧v.year≤2099∧0≤v.children∧v.children≤99)
def Vw.baseB(v:Vw):Bool:=vfrac v.bn v.bd&&decide (0≤v.bn∧v.bn≤1000000000000*v.bd)
theorem Vw.ok_split(v:Vw):v.ok=(v.rngB&&(v.ds.all daysOk)&&v.baseB&&yearsOk v.years):=by
 unfold Vw.ok Vw.rngB Vw.baseB Vw.ds
 simp [Bool.and_assoc]
theorem ds_bad{v:Vw}{k:Nat}(hk:k<7)(hb:daysOk (v.ds.getD k 0)=false):v.ok=false:=by
 rw [Vw.ok_split]
 have:v.ds.all daysOk=false:=by
  rw [List.all_eq_false]
  refine⟨v.ds.getD k 0, ?_,by rw [hb];simp⟩
  rw [List.getD_eq_getElem?_getD,List.getElem?_eq_getElem (show k<v.ds.length from hk)]
  exact List.getElem_mem _
 rw [this];simp
theorem ds_good{v:Vw}(hg:∀k,k<7→daysOk (v.ds.getD k 0)=true):v.ds.all daysOk=true:=by
 rw [List.all_eq_true]
 intro x hx
 obtain⟨k,hk,rfl⟩:=List.mem_iff_getElem.1 hx
 have:=hg k hk
 rwa [List.getD_eq_getElem?_getD,List.getElem?_eq_getElem hk]at this
theorem rng_bad{v:Vw}(h:¬(0≤v.age∧v.age≤199∧1900≤v.year∧v.year≤2099∧0≤v.children∧v.children≤99)):v.ok=false:=by
 rw [Vw.ok_split]
 unfold Vw.rngB
 rw [decide_eq_false h];simp
theorem vv8_rng(v:Vw)(y:Value)(w:World)(hy:∃a n c,y= .slice a n c)(h:¬(0≤v.age∧v.age≤199∧1900≤v.year∧v.year≤2099∧0≤v.children∧v.children≤99)):(Calls Tryd.prog 12 #[vwV v y] w fun r w'=>r= .returned (.bool v.ok)∧w.Grows w'):=by
 have HF:=Lib.hid (rng_bad h)
 by_cases c1:v.age<0
 ·exact lz5
 by_cases c2:v.age > 199
 ·exact lz5
 by_cases c3:v.year<1900
 ·exact lz5
 by_cases c4:v.year > 2099
 ·exact lz5
 by_cases c5:v.children<0
 ·exact lz5
 have c6:v.children > 99:=by omega
 exact lz5
theorem vv8_in(v:Vw)(y:Value)(w:World)(hr:VwRng v)(hy:YrAt w y v.years)(h:0≤v.age∧v.age≤199∧1900≤v.year∧v.year≤2099∧0≤v.children∧v.children≤99):(Calls Tryd.prog 12 #[vwV v y] w fun r w'=>r= .returned (.bool v.ok)∧w.Grows w'):=by
 have HY:=Lib.hid hy
 have HD:=Lib.hid (fun w a n c=>days_any v (.slice a n c) w ⟨a,n,c,rfl⟩)
 have HB:Hid (∀k,k<7→daysOk (v.ds.getD k 0)=false→v.ok=false):=Lib.hid (fun k hk hb=>ds_bad hk hb)
 have HG:Hid ((∀k,k<7→daysOk (v.ds.getD k 0)=true)→v.ok=(v.baseB&&yearsOk v.years)):=Lib.hid (fun hg=>by
  rw [Vw.ok_split,ds_good hg];unfold Vw.rngB;rw [decide_eq_true h];simp)
 have HI:=Lib.hid hr.base
 have HC:=Lib.hid (fun w=>Compare1_any v.bn v.bd 1000000000000 1 w ⟨hr.base.1,hr.base.2,by unfold I64;omega,by unfold I64;omega⟩)
 have HM:Hid (∀w,Calls Tryd.prog 15 #[.int .i64 1000000000000,.int .i64 1] w fun e w'=>e= .returned (.tuple #[.agg #[.int .i64 1000000000000,.int .i64 1],.int .i64 0])∧w.Grows w'):=Lib.hid (fun w=>by
  have:=MakeFraction_any 1000000000000 1 w (by decide) (by decide) (by decide) (by decide)
  rw [show mkN 1000000000000 1=1000000000000 by decide+kernel,show mkD 1000000000000 1=1 by decide+kernel,show mkE 1000000000000 1=0 by decide+kernel]at this
  exact this)
 have HYR:=Lib.hid (fun w' (hg:w.Grows w')=>amounts_any v.years y w' (HY.out.grows hg))
 obtain⟨-,a,c,rfl,-⟩:=hy
 obtain⟨h1,h2,h3,h4,h5,h6⟩:=h
 clear hr
 unfold vwV at HD ⊢
 go_enter Tryd.func12,Tryd.ntmps12
 go_wp2_with (go_at_call 22;refine(HD.out _ _ _ _).mono ?_;rintro e' w' ⟨rfl,bs,d,rfl⟩)
 obtain⟨W,hW⟩:∃W,((w.alloc (.cells #[.int .i64 v.age,.int .i64 v.year,.int .i64 v.children,.int .i64 v.insured,.int .i64 v.worked,.int .i64 v.voluntary,.int .i64 v.service,.int .i64 v.equated,.int .i64 v.raising,.int .i64 v.resident,.int .i64 v.bn,.int .i64 v.bd,.slice a v.years.length c] 48)).grow bs d).alloc (.cells #[.int .i64 v.insured,.int .i64 v.worked,.int .i64 v.voluntary,.int .i64 v.service,.int .i64 v.equated,.int .i64 v.raising,.int .i64 v.resident] 84)=W:=⟨_,rfl⟩
 have hg:w.Grows W:=by rw [←hW];exact .of_below belB
 have b0:W.cell? ⟨w.heap.size,10,none⟩=some (.int .i64 v.bn):=by rw [←hW];simp [go_sem]
 have b1:W.cell? ⟨w.heap.size,11,none⟩=some (.int .i64 v.bd):=by rw [←hW];simp [go_sem]
 have b2:W.cell? ⟨w.heap.size,12,none⟩=some (.slice a v.years.length c):=by rw [←hW];simp [go_sem]
 have HA:Hid (∀k,k<7→W.cell? ⟨w.heap.size+1+bs.size,k,none⟩=some (.int .i64 (v.ds.getD k 0))):=Lib.hid (fun k hk=>by
  rw [←hW,World.cell?_alloc_at _ _ _ _ (by simp)]
  rcases(show k=0∨k=1∨k=2∨k=3∨k=4∨k=5∨k=6 by omega)with rfl|rfl|rfl|rfl|rfl|rfl|rfl<;>rfl)
 have hsz:w.heap.size<W.heap.size:=by rw [←hW];simp;omega
 rw [hW]
 clear hW
 have HG2:=Lib.hid hg
 clear hg
 go_loopw [4] (fun v4 wr=>∃k:Nat,k≤7∧v4= .int .i64 k∧Hid (∀j,j<k→daysOk (v.ds.getD j 0)=true)∧W=wr) (fun v4 _=>7-(intOf v4).toNat)
 case atStart=>exact⟨0,by omega,rfl,Lib.hid (fun j hj=>by omega),rfl⟩
 case round=>
  obtain⟨k,hk,rfl,hno,rfl⟩:=hrel
  by_cases hlt:k<7
  ·have x0:=HA.out k hlt
   have d1:(k:Int)<7:=by omega
   have HKL:=Lib.hid hlt
   clear hlt
   obtain⟨dk,hdk⟩:∃dk,v.ds.getD k 0=dk:=⟨_,rfl⟩
   rw [hdk]at x0
   have HDK:=Lib.hid hdk
   clear hdk
   have HBD:Hid (¬(0≤dk∧dk≤73049)→v.ok=false):=Lib.hid (fun h=>HB.out k HKL.out (by rw [HDK.out];unfold daysOk;exact decide_eq_false h))
   by_cases q1:dk<0
   ·exact lz32
   ·by_cases q2:dk > 73049
    ·exact lz32
    ·go_wp2_with fail
     go_roundw
     case rel=>exact⟨k+1,HKL.out,by go_num,Lib.hid (fun j hj=>by
      by_cases ej:j=k
      ·subst ej;rw [HDK.out];unfold daysOk;exact decide_eq_true (by omega)
      ·exact hno.out j (by omega)),(by first|rfl|trivial)⟩
     case measure=>simp [intOf];have:=HKL.out;omega
  ·obtain rfl:k=7:=by omega
   have HF:=Lib.hid (HG.out hno.out)
   unfold Vw.baseB at HF
   obtain⟨q,hq⟩:∃q,vfrac v.bn v.bd=q:=⟨_,rfl⟩
   have HC2:=HC.out
   unfold cmpF frI at HC2
   rw [show vfrac 1000000000000 1=true by decide+kernel,hq,Bool.and_true]at HC2
   rw [hq]at HF
   clear hq
   obtain⟨yb,hyb⟩:∃yb,yearsOk v.years=yb:=⟨_,rfl⟩
   have HYR2:=HYR.out
   rw [hyb]at HYR2 HF
   clear hyb
   have HYR3:=Lib.hid HYR2
   clear HYR2
   cases q with
   |false=>
    simp only [Bool.false_eq_true,if_false]at HC2
    have HC3:=Lib.hid HC2
    clear HC2
    go_wp2_with (first
     |(go_at_call 15;refine(HM.out _).mono ?_;rintro e' w' ⟨rfl,bs2,d2,rfl⟩)
     |(go_at_call 23;refine(HC3.out _).mono ?_;rintro e' w' ⟨rfl,bs3,d3,rfl⟩))
    go_returns
    exact⟨ret_bool (by rw [HF.out];rfl),World.Grows.trans HG2.out (.of_below belB)⟩
   |true=>
    have hcm:cmpI v.bn v.bd 1000000000000 1≤0↔v.bn≤1000000000000*v.bd:=by
     unfold cmpI
     rw [Int.mul_one]
     (repeat' split)<;>omega
    simp only [if_true]at HC2
    generalize cmpI v.bn v.bd 1000000000000 1=cc at HC2 hcm
    have HC3:=Lib.hid HC2
    clear HC2
    have HCM:=Lib.hid hcm
    clear hcm
    by_cases g1:cc≤0
    ·by_cases g2:v.bn≥0
     ·have HF2:Hid (v.ok=yb):=Lib.hid (by rw [HF.out,decide_eq_true ⟨g2,HCM.out.1 g1⟩];rfl)
      go_wp2_with (first
       |(go_at_call 15;refine(HM.out _).mono ?_;rintro e' w' ⟨rfl,bs2,d2,rfl⟩)
       |(go_at_call 23;refine(HC3.out _).mono ?_;rintro e' w' ⟨rfl,bs3,d3,rfl⟩)
       |(go_at_call 24;refine(HYR3.out _ (World.Grows.trans HG2.out (.of_below belB))).mono ?_;rintro e' w' ⟨rfl,rfl⟩))
      go_returns
      exact⟨ret_bool (by rw [HF2.out]),World.Grows.trans HG2.out (.of_below belB)⟩
     ·have HF2:Hid (v.ok=false):=Lib.hid (by rw [HF.out,decide_eq_false (fun h=>g2 h.1)];rfl)
      go_wp2_with (first
       |(go_at_call 15;refine(HM.out _).mono ?_;rintro e' w' ⟨rfl,bs2,d2,rfl⟩)
       |(go_at_call 23;refine(HC3.out _).mono ?_;rintro e' w' ⟨rfl,bs3,d3,rfl⟩))
      go_returns
      exact⟨ret_bool (by rw [HF2.out]),World.Grows.trans HG2.out (.of_below belB)⟩
    ·have HF2:Hid (v.ok=false):=Lib.hid (by rw [HF.out,decide_eq_false (fun h=>g1 (HCM.out.2 h.2))];rfl)
     go_wp2_with (first
      |(go_at_call 15;refine(HM.out _).mono ?_;rintro e' w' ⟨rfl,bs2,d2,rfl⟩)
      |(go_at_call 23;refine(HC3.out _).mono ?_;rintro e' w' ⟨rfl,bs3,d3,rfl⟩))
     go_returns
     exact⟨ret_bool (by rw [HF2.out]),World.Grows.trans HG2.out (.of_below belB)⟩
theorem ValidView8_any(v:Vw)(y:Value)(w:World)(hr:VwRng v)(hy:YrAt w y v.years):(Calls Tryd.prog 12 #[vwV v y] w fun r w'=>r= .returned (.bool v.ok)∧w.Grows w'):=by
 by_cases h:0≤v.age∧v.age≤199∧1900≤v.year∧v.year≤2099∧0≤v.children∧v.children≤99
 ·exact vv8_in v y w hr hy h
 ·obtain⟨-,a,c,rfl,-⟩:=hy
  exact vv8_rng v _ w ⟨_,_,_,rfl⟩ h
def valV(x:Val):Value:=.agg #[.int .i64 x.dim,.bool x.yes,.int .i64 x.n,.int .i64 x.d]
def VRng(x:Val):Prop:=I64 x.n∧I64 x.d
theorem ValidValue8_any(x:Val)(w:World)(hr:VRng x):Calls Tryd.prog 48 #[valV x] w fun r w'=>r= .returned (.bool x.ok)∧w.Grows w':=by
 have HV:=Lib.hid (fun w=>Valid1_any x.n x.d w hr.1.1 hr.1.2 hr.2.1 hr.2.2)
 have HF:Hid (x.ok=if x.dim=1 then decide (x.n=0∧x.d=0)else decide (2≤x.dim∧x.dim≤4)&&!x.yes&&vfrac x.n x.d):=Lib.hid rfl
 clear hr
 generalize vfrac x.n x.d=q at *
 obtain⟨m,yes,n,d⟩:=x
 dsimp only at HV HF ⊢
 generalize hok:Val.ok ⟨m,yes,n,d⟩=okv at *
 clear hok
 show Calls Tryd.prog 48 #[.agg #[.int .i64 m,.bool yes,.int .i64 n,.int .i64 d]] w _
 by_cases h1:m=1
 ·subst h1
  rw [if_pos rfl]at HF
  by_cases c1:n=0
  ·subst c1
   by_cases c2:d=0
   ·subst c2
    go_enter Tryd.func48,Tryd.ntmps48
    go_wp2_with fail
    exact lz27
   ·have e2:(d==0)=false:=by simpa using c2
    have HN:=Lib.hid c2
    clear c2
    exact lz25
  ·have e2:(n==0)=false:=by simpa using c1
   have HN:=Lib.hid c1
   clear c1
   exact lz25
 ·rw [if_neg h1]at HF
  have e1:(m==1)=false:=by simpa using h1
  by_cases hm:2≤m∧m≤4
  ·rw [decide_eq_true hm,Bool.true_and]at HF
   rcases(show m=2∨m=3∨m=4 by omega)with rfl|rfl|rfl
   all_goals
    cases yes
    all_goals
     cases q
     all_goals
      go_enter Tryd.func48,Tryd.ntmps48
      go_wp2_with (first|(go_at_call 37;refine(HV.out _).mono ?_;rintro e' w' ⟨rfl,bs2,d2,rfl⟩)|(go_at_call 35;refine(HV.out _).mono ?_;rintro e' w' ⟨rfl,bs2,d2,rfl⟩))
      exact lz27
  ·rw [decide_eq_false hm]at HF
   by_cases h2:m<2
   focus
    have e2:(m==2)=false:=by rw [beq_eq_false_iff_ne];omega
   rotate_left
   focus
    have h4:m > 4:=by omega
    have e2:(m==2)=false:=by rw [beq_eq_false_iff_ne];omega
   rotate_left
   all_goals
    have e3:(m==3)=false:=by rw [beq_eq_false_iff_ne];omega
    have e4:(m==4)=false:=by rw [beq_eq_false_iff_ne];omega
    clear hm
    go_enter Tryd.func48,Tryd.ntmps48
    go_wp2_with fail
    exact lz27
end Go.Proofs.YthionhbjmheimaaDoor
