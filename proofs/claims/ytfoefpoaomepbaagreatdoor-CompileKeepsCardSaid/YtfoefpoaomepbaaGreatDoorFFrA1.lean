import Derived.Test.YtfoefpoaomepbaaGreatDoorFFrMd
set_option linter.all false
set_option maxHeartbeats 16000000
set_option maxRecDepth 1000000
namespace Go.Proofs.YtfoefpoaomepbaaGreatDoor
open Go.RowKit

theorem add1_same(an ad bn bd xh xl yh yl zh zl D n1 n2 n3:Int)(s:Bool)(w:World)(h1:decide (an<0)=s)(h2:decide (bn<0)=s)
 (V1:Hid (∀w,Calls Tryz.prog 97 #[.agg #[.int .i64 an,.int .i64 ad]] w fun e w'=>e= .returned (.bool true)∧w.Grows w')) (V2:Hid (∀w,Calls Tryz.prog 97 #[.agg #[.int .i64 bn,.int .i64 bd]] w fun e w'=>e= .returned (.bool true)∧w.Grows w'))
 (Z:Hid (∀n,I64 n→∀w,Calls Tryz.prog 93 #[.int .i64 n] w fun e w'=>e= .returned (.int .u64 (absI n))∧w=w')) (I1:I64 an) (I2:I64 ad) (I3:I64 bn) (I4:I64 bd)
 (T1:Hid (∀w,Calls Tryz.prog 156 #[.int .u64 (absI an),.int .u64 bd] w fun e w'=>e= .returned (.agg #[.int .u64 xh,.int .u64 xl])∧w.Grows w')) (T2:Hid (∀w,Calls Tryz.prog 156 #[.int .u64 (absI bn),.int .u64 ad] w fun e w'=>e= .returned (.agg #[.int .u64 yh,.int .u64 yl])∧w.Grows w')) (u1:IntKind.u64.wrap ad=ad) (u2:IntKind.u64.wrap bd=bd) (u3:IntKind.u64.wrap (ad*bd)=D)
 (O:Hid (∀w,Calls Tryz.prog 157 #[.agg #[.int .u64 xh,.int .u64 xl],.agg #[.int .u64 yh,.int .u64 yl]] w fun e w'=>e= .returned (.agg #[.int .u64 zh,.int .u64 zl])∧w.Grows w'))
 (Q:Hid (∀w,Calls Tryz.prog 92 #[.bool s,.agg #[.int .u64 zh,.int .u64 zl],.int .u64 D] w fun e w'=>(e= .returned (.tuple #[.agg #[.int .i64 n1,.int .i64 n2],.int .i64 n3])∧w.Grows w')))
 :Calls Tryz.prog 114 (#[.agg #[.int .i64 an,.int .i64 ad],.agg #[.int .i64 bn,.int .i64 bd]]) w fun e w'=>(e= .returned (.tuple #[.agg #[.int .i64 n1,.int .i64 n2],.int .i64 n3])∧w.Grows w'):=by
 have L:Hid True:=Lib.hid trivial
 go_enter Tryz.func114,Tryz.ntmps114
 go_wp2_with (first|(go_at_call 97;(with_reducible refine(V1.out _).mono ?_);rintro e w' ⟨rfl,bs,dr,rfl⟩)|(go_at_call 97;(with_reducible refine(V2.out _).mono ?_);rintro e w' ⟨rfl,bs2,dr2,rfl⟩))
 generalize bs++bs2=B
 apply wp_region_made2b 16 (14,6,.cells #[.int .u64 0,.int .u64 0] 168) (15,7,.cells #[.int .u64 0,.int .u64 0] 168) (by kernel_rfl) (by kernel_rfl)
 case hrx=>
  intro o ho ρ w
  obtain rfl:=Option.some.inj ho
  simp [go_sem]
 case hry=>
  intro o ho ρ w
  obtain rfl:=Option.some.inj ho
  simp [go_sem]
 case h1=>
  intro bs d
  simp only [List.take_succ_cons,List.take_zero,List.map_cons,List.map_nil,Oper.mask]
  repeat(go_big_quiet_step ((first|(go_at_call 93;(with_reducible exact Calls.quietMS3 (Z.out _ (by assumption) _)))|(go_at_call 156;first|(with_reducible exact Calls.quietM3 (T1.out _))|(with_reducible exact Calls.quietM3 (T2.out _))))))
  exact wpQuiet_nil rfl
 all_goals
  intro gb1 gd1 gb2 gd2 gb gd
  simp only [List.drop_succ_cons,List.drop_zero,Act.put,List.setIfInBounds_toArray,List.set_cons_zero,List.set_cons_succ,World.grow_grow,World.size_grow,World.size_alloc,Array.size_append]
 all_goals
  go_wp2_with (first|(go_at_call 158;(with_reducible refine(L.out _).mono ?_);rintro e w' ⟨rfl,bs3,dr3,rfl⟩))
  refine TS.begin [10,11] (World.Grows _) (by kernel_rfl) (by kernel_rfl) grows_drew (fun hS=>?_)
  refine TS.wkB 0 hS ?_
  refine TS.wkB 1 hS ?_
  refine TS.wkB 2 hS ?_
  refine TS.wkB 3 hS ?_
  refine TS.wkB 4 hS ?_
  refine TS.wkB 6 hS ?_
  refine TS.one (i:=5) (by kernel_rfl) rfl (fun K1 hK1=>?_)
  go_simp
  go_at_call 157
  refine(O.out _).mono ?_
  rintro e' wA ⟨rfl,bA,dA,rfl⟩
  refine TS.go hK1 (by first|exact⟨_,_,World.grow_grow _ _ _ _ _⟩|exact⟨_,_,rfl⟩) (fun hS=>?_)
  clear hK1 K1
  (try simp only [nS])
  refine TS.one (i:=7) (by kernel_rfl) rfl (fun K1 hK1=>?_)
  go_simp
  go_at_call 92
  refine(Q.out _).mono ?_
  rintro e' wA ⟨rfl,bA,dA,rfl⟩
  refine TS.go hK1 (by first|exact⟨_,_,World.grow_grow _ _ _ _ _⟩|exact⟨_,_,rfl⟩) (fun hS=>?_)
  clear hK1 K1
  (try simp only [nS])
  refine TS.wkB 8 hS ?_
  refine TS.wkB 9 hS ?_
  refine TS.wtB 10 ?_
  refine TS.weB 11 ?_
  clear hS
  go_wp2_with fail
  go_returns
  exact⟨rfl,.of_below belB⟩
theorem add1_less(an ad bn bd xh xl yh yl zh zl D n1 n2 n3:Int)(s t:Bool)(w:World)(h1:decide (an<0)=s)(h2:decide (bn<0)=t)(h3:(s==t)=false)
 (V1:Hid (∀w,Calls Tryz.prog 97 #[.agg #[.int .i64 an,.int .i64 ad]] w fun e w'=>e= .returned (.bool true)∧w.Grows w')) (V2:Hid (∀w,Calls Tryz.prog 97 #[.agg #[.int .i64 bn,.int .i64 bd]] w fun e w'=>e= .returned (.bool true)∧w.Grows w'))
 (Z:Hid (∀n,I64 n→∀w,Calls Tryz.prog 93 #[.int .i64 n] w fun e w'=>e= .returned (.int .u64 (absI n))∧w=w')) (I1:I64 an) (I2:I64 ad) (I3:I64 bn) (I4:I64 bd)
 (T1:Hid (∀w,Calls Tryz.prog 156 #[.int .u64 (absI an),.int .u64 bd] w fun e w'=>e= .returned (.agg #[.int .u64 xh,.int .u64 xl])∧w.Grows w')) (T2:Hid (∀w,Calls Tryz.prog 156 #[.int .u64 (absI bn),.int .u64 ad] w fun e w'=>e= .returned (.agg #[.int .u64 yh,.int .u64 yl])∧w.Grows w')) (u1:IntKind.u64.wrap ad=ad) (u2:IntKind.u64.wrap bd=bd) (u3:IntKind.u64.wrap (ad*bd)=D)
 (L:Hid (∀w,Calls Tryz.prog 158 #[.agg #[.int .u64 xh,.int .u64 xl],.agg #[.int .u64 yh,.int .u64 yl]] w fun e w'=>e= .returned (.bool true)∧w.Grows w'))
 (O:Hid (∀w,Calls Tryz.prog 159 #[.agg #[.int .u64 yh,.int .u64 yl],.agg #[.int .u64 xh,.int .u64 xl]] w fun e w'=>e= .returned (.agg #[.int .u64 zh,.int .u64 zl])∧w.Grows w'))
 (Q:Hid (∀w,Calls Tryz.prog 92 #[.bool t,.agg #[.int .u64 zh,.int .u64 zl],.int .u64 D] w fun e w'=>(e= .returned (.tuple #[.agg #[.int .i64 n1,.int .i64 n2],.int .i64 n3])∧w.Grows w')))
 :Calls Tryz.prog 114 (#[.agg #[.int .i64 an,.int .i64 ad],.agg #[.int .i64 bn,.int .i64 bd]]) w fun e w'=>(e= .returned (.tuple #[.agg #[.int .i64 n1,.int .i64 n2],.int .i64 n3])∧w.Grows w'):=by
 go_enter Tryz.func114,Tryz.ntmps114
 go_wp2_with (first|(go_at_call 97;(with_reducible refine(V1.out _).mono ?_);rintro e w' ⟨rfl,bs,dr,rfl⟩)|(go_at_call 97;(with_reducible refine(V2.out _).mono ?_);rintro e w' ⟨rfl,bs2,dr2,rfl⟩))
 generalize bs++bs2=B
 apply wp_region_made2b 16 (14,6,.cells #[.int .u64 0,.int .u64 0] 168) (15,7,.cells #[.int .u64 0,.int .u64 0] 168) (by kernel_rfl) (by kernel_rfl)
 case hrx=>
  intro o ho ρ w
  obtain rfl:=Option.some.inj ho
  simp [go_sem]
 case hry=>
  intro o ho ρ w
  obtain rfl:=Option.some.inj ho
  simp [go_sem]
 case h1=>
  intro bs d
  simp only [List.take_succ_cons,List.take_zero,List.map_cons,List.map_nil,Oper.mask]
  repeat(go_big_quiet_step ((first|(go_at_call 93;(with_reducible exact Calls.quietMS3 (Z.out _ (by assumption) _)))|(go_at_call 156;first|(with_reducible exact Calls.quietM3 (T1.out _))|(with_reducible exact Calls.quietM3 (T2.out _))))))
  exact wpQuiet_nil rfl
 all_goals
  intro gb1 gd1 gb2 gd2 gb gd
  simp only [List.drop_succ_cons,List.drop_zero,Act.put,List.setIfInBounds_toArray,List.set_cons_zero,List.set_cons_succ,World.grow_grow,World.size_grow,World.size_alloc,Array.size_append]
 all_goals
  go_wp2_with (first|(go_at_call 158;(with_reducible refine(L.out _).mono ?_);rintro e w' ⟨rfl,bs3,dr3,rfl⟩))
  refine TS.begin [10,11] (World.Grows _) (by kernel_rfl) (by kernel_rfl) grows_drew (fun hS=>?_)
  refine TS.wkB 0 hS ?_
  refine TS.wkB 1 hS ?_
  refine TS.wkB 2 hS ?_
  refine TS.wkB 3 hS ?_
  refine TS.wkB 4 hS ?_
  refine TS.wkB 6 hS ?_
  refine TS.one (i:=5) (by kernel_rfl) rfl (fun K1 hK1=>?_)
  go_simp
  go_at_call 159
  refine(O.out _).mono ?_
  rintro e' wA ⟨rfl,bA,dA,rfl⟩
  refine TS.go hK1 (by first|exact⟨_,_,World.grow_grow _ _ _ _ _⟩|exact⟨_,_,rfl⟩) (fun hS=>?_)
  clear hK1 K1
  (try simp only [nS])
  refine TS.one (i:=7) (by kernel_rfl) rfl (fun K1 hK1=>?_)
  go_simp
  go_at_call 92
  refine(Q.out _).mono ?_
  rintro e' wA ⟨rfl,bA,dA,rfl⟩
  refine TS.go hK1 (by first|exact⟨_,_,World.grow_grow _ _ _ _ _⟩|exact⟨_,_,rfl⟩) (fun hS=>?_)
  clear hK1 K1
  (try simp only [nS])
  refine TS.wkB 8 hS ?_
  refine TS.wkB 9 hS ?_
  refine TS.wtB 10 ?_
  refine TS.weB 11 ?_
  clear hS
  go_wp2_with fail
  go_returns
  exact⟨rfl,.of_below belB⟩
theorem add1_more(an ad bn bd xh xl yh yl zh zl D n1 n2 n3:Int)(s t:Bool)(w:World)(h1:decide (an<0)=s)(h2:decide (bn<0)=t)(h3:(s==t)=false)
 (V1:Hid (∀w,Calls Tryz.prog 97 #[.agg #[.int .i64 an,.int .i64 ad]] w fun e w'=>e= .returned (.bool true)∧w.Grows w')) (V2:Hid (∀w,Calls Tryz.prog 97 #[.agg #[.int .i64 bn,.int .i64 bd]] w fun e w'=>e= .returned (.bool true)∧w.Grows w'))
 (Z:Hid (∀n,I64 n→∀w,Calls Tryz.prog 93 #[.int .i64 n] w fun e w'=>e= .returned (.int .u64 (absI n))∧w=w')) (I1:I64 an) (I2:I64 ad) (I3:I64 bn) (I4:I64 bd)
 (T1:Hid (∀w,Calls Tryz.prog 156 #[.int .u64 (absI an),.int .u64 bd] w fun e w'=>e= .returned (.agg #[.int .u64 xh,.int .u64 xl])∧w.Grows w')) (T2:Hid (∀w,Calls Tryz.prog 156 #[.int .u64 (absI bn),.int .u64 ad] w fun e w'=>e= .returned (.agg #[.int .u64 yh,.int .u64 yl])∧w.Grows w')) (u1:IntKind.u64.wrap ad=ad) (u2:IntKind.u64.wrap bd=bd) (u3:IntKind.u64.wrap (ad*bd)=D)
 (L:Hid (∀w,Calls Tryz.prog 158 #[.agg #[.int .u64 xh,.int .u64 xl],.agg #[.int .u64 yh,.int .u64 yl]] w fun e w'=>e= .returned (.bool false)∧w.Grows w'))
 (O:Hid (∀w,Calls Tryz.prog 159 #[.agg #[.int .u64 xh,.int .u64 xl],.agg #[.int .u64 yh,.int .u64 yl]] w fun e w'=>e= .returned (.agg #[.int .u64 zh,.int .u64 zl])∧w.Grows w'))
 (Q:Hid (∀w,Calls Tryz.prog 92 #[.bool s,.agg #[.int .u64 zh,.int .u64 zl],.int .u64 D] w fun e w'=>(e= .returned (.tuple #[.agg #[.int .i64 n1,.int .i64 n2],.int .i64 n3])∧w.Grows w')))
 :Calls Tryz.prog 114 (#[.agg #[.int .i64 an,.int .i64 ad],.agg #[.int .i64 bn,.int .i64 bd]]) w fun e w'=>(e= .returned (.tuple #[.agg #[.int .i64 n1,.int .i64 n2],.int .i64 n3])∧w.Grows w'):=by
 go_enter Tryz.func114,Tryz.ntmps114
 go_wp2_with (first|(go_at_call 97;(with_reducible refine(V1.out _).mono ?_);rintro e w' ⟨rfl,bs,dr,rfl⟩)|(go_at_call 97;(with_reducible refine(V2.out _).mono ?_);rintro e w' ⟨rfl,bs2,dr2,rfl⟩))
 generalize bs++bs2=B
 apply wp_region_made2b 16 (14,6,.cells #[.int .u64 0,.int .u64 0] 168) (15,7,.cells #[.int .u64 0,.int .u64 0] 168) (by kernel_rfl) (by kernel_rfl)
 case hrx=>
  intro o ho ρ w
  obtain rfl:=Option.some.inj ho
  simp [go_sem]
 case hry=>
  intro o ho ρ w
  obtain rfl:=Option.some.inj ho
  simp [go_sem]
 case h1=>
  intro bs d
  simp only [List.take_succ_cons,List.take_zero,List.map_cons,List.map_nil,Oper.mask]
  repeat(go_big_quiet_step ((first|(go_at_call 93;(with_reducible exact Calls.quietMS3 (Z.out _ (by assumption) _)))|(go_at_call 156;first|(with_reducible exact Calls.quietM3 (T1.out _))|(with_reducible exact Calls.quietM3 (T2.out _))))))
  exact wpQuiet_nil rfl
 all_goals
  intro gb1 gd1 gb2 gd2 gb gd
  simp only [List.drop_succ_cons,List.drop_zero,Act.put,List.setIfInBounds_toArray,List.set_cons_zero,List.set_cons_succ,World.grow_grow,World.size_grow,World.size_alloc,Array.size_append]
 all_goals
  go_wp2_with (first|(go_at_call 158;(with_reducible refine(L.out _).mono ?_);rintro e w' ⟨rfl,bs3,dr3,rfl⟩))
  refine TS.begin [10,11] (World.Grows _) (by kernel_rfl) (by kernel_rfl) grows_drew (fun hS=>?_)
  refine TS.wkB 0 hS ?_
  refine TS.wkB 1 hS ?_
  refine TS.wkB 2 hS ?_
  refine TS.wkB 3 hS ?_
  refine TS.wkB 4 hS ?_
  refine TS.wkB 6 hS ?_
  refine TS.one (i:=5) (by kernel_rfl) rfl (fun K1 hK1=>?_)
  go_simp
  go_at_call 159
  refine(O.out _).mono ?_
  rintro e' wA ⟨rfl,bA,dA,rfl⟩
  refine TS.go hK1 (by first|exact⟨_,_,World.grow_grow _ _ _ _ _⟩|exact⟨_,_,rfl⟩) (fun hS=>?_)
  clear hK1 K1
  (try simp only [nS])
  refine TS.one (i:=7) (by kernel_rfl) rfl (fun K1 hK1=>?_)
  go_simp
  go_at_call 92
  refine(Q.out _).mono ?_
  rintro e' wA ⟨rfl,bA,dA,rfl⟩
  refine TS.go hK1 (by first|exact⟨_,_,World.grow_grow _ _ _ _ _⟩|exact⟨_,_,rfl⟩) (fun hS=>?_)
  clear hK1 K1
  (try simp only [nS])
  refine TS.wkB 8 hS ?_
  refine TS.wkB 9 hS ?_
  refine TS.wtB 10 ?_
  refine TS.weB 11 ?_
  clear hS
  go_wp2_with fail
  go_returns
  exact⟨rfl,.of_below belB⟩
end Go.Proofs.YtfoefpoaomepbaaGreatDoor
