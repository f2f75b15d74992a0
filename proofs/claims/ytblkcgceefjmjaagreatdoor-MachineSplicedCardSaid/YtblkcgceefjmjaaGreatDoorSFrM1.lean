import Derived.Test.YtblkcgceefjmjaaGreatDoorSFrMd
set_option linter.all false
set_option maxHeartbeats 16000000
set_option maxRecDepth 1000000
namespace Go.Proofs.YtblkcgceefjmjaaGreatDoor
open Go.RowKit

theorem mul2_no(an ad bn bd:Int)(p q:Bool)(w:World)(hpq:(p&&q)=false)
 (V1:Hid (∀w,Calls Tryz.prog 177 #[.agg #[.int .i64 an,.int .i64 ad]] w fun e w'=>e= .returned (.bool p)∧w.Grows w')) (V2:Hid (∀w,Calls Tryz.prog 177 #[.agg #[.int .i64 bn,.int .i64 bd]] w fun e w'=>e= .returned (.bool q)∧w.Grows w'))
 :Calls Tryz.prog 186 (#[.agg #[.int .i64 an,.int .i64 ad],.agg #[.int .i64 bn,.int .i64 bd]]) w fun e w'=>e= .returned (frV (0,0,1))∧w.Grows w':=by
 cases p<;>cases q
 all_goals first
  |(exfalso;simp at hpq;done)
  |clear hpq
 all_goals
  go_enter Tryz.func186,Tryz.ntmps186
  go_wp2_with (first|(go_at_call 177;(with_reducible refine(V1.out _).mono ?_);rintro e w' ⟨rfl,bs,dr,rfl⟩)|(go_at_call 177;(with_reducible refine(V2.out _).mono ?_);rintro e w' ⟨rfl,bs2,dr2,rfl⟩))
  go_returns
  exact⟨rfl,.of_below belB⟩
theorem div2_no(an ad bn bd:Int)(p q:Bool)(w:World)(hpq:(p&&q)=false)
 (V1:Hid (∀w,Calls Tryz.prog 177 #[.agg #[.int .i64 an,.int .i64 ad]] w fun e w'=>e= .returned (.bool p)∧w.Grows w')) (V2:Hid (∀w,Calls Tryz.prog 177 #[.agg #[.int .i64 bn,.int .i64 bd]] w fun e w'=>e= .returned (.bool q)∧w.Grows w'))
 :Calls Tryz.prog 187 (#[.agg #[.int .i64 an,.int .i64 ad],.agg #[.int .i64 bn,.int .i64 bd]]) w fun e w'=>e= .returned (frV (0,0,1))∧w.Grows w':=by
 cases p<;>cases q
 all_goals first
  |(exfalso;simp at hpq;done)
  |clear hpq
 all_goals
  go_enter Tryz.func187,Tryz.ntmps187
  go_wp2_with (first|(go_at_call 177;(with_reducible refine(V1.out _).mono ?_);rintro e w' ⟨rfl,bs,dr,rfl⟩)|(go_at_call 177;(with_reducible refine(V2.out _).mono ?_);rintro e w' ⟨rfl,bs2,dr2,rfl⟩))
  go_returns
  exact⟨rfl,.of_below belB⟩
theorem add2_no(an ad bn bd:Int)(p q:Bool)(w:World)(hpq:(p&&q)=false)
 (V1:Hid (∀w,Calls Tryz.prog 177 #[.agg #[.int .i64 an,.int .i64 ad]] w fun e w'=>e= .returned (.bool p)∧w.Grows w')) (V2:Hid (∀w,Calls Tryz.prog 177 #[.agg #[.int .i64 bn,.int .i64 bd]] w fun e w'=>e= .returned (.bool q)∧w.Grows w'))
 :Calls Tryz.prog 184 (#[.agg #[.int .i64 an,.int .i64 ad],.agg #[.int .i64 bn,.int .i64 bd]]) w fun e w'=>e= .returned (frV (0,0,1))∧w.Grows w':=by
 cases p<;>cases q
 all_goals first
  |(exfalso;simp at hpq;done)
  |clear hpq
 all_goals
  go_enter Tryz.func184,Tryz.ntmps184
  go_wp2_with (first|(go_at_call 177;(with_reducible refine(V1.out _).mono ?_);rintro e w' ⟨rfl,bs,dr,rfl⟩)|(go_at_call 177;(with_reducible refine(V2.out _).mono ?_);rintro e w' ⟨rfl,bs2,dr2,rfl⟩))
  go_returns
  exact⟨rfl,.of_below belB⟩
theorem div2_zero(an ad bd:Int)(w:World)
 (V1:Hid (∀w,Calls Tryz.prog 177 #[.agg #[.int .i64 an,.int .i64 ad]] w fun e w'=>e= .returned (.bool true)∧w.Grows w')) (V2:Hid (∀w,Calls Tryz.prog 177 #[.agg #[.int .i64 0,.int .i64 bd]] w fun e w'=>e= .returned (.bool true)∧w.Grows w'))
 :Calls Tryz.prog 187 #[.agg #[.int .i64 an,.int .i64 ad],.agg #[.int .i64 0,.int .i64 bd]] w fun e w'=>e= .returned (frV (0,0,3))∧w.Grows w':=by
 go_enter Tryz.func187,Tryz.ntmps187
 go_wp2_with (first|(go_at_call 177;(with_reducible refine(V1.out _).mono ?_);rintro e w' ⟨rfl,bs,dr,rfl⟩)|(go_at_call 177;(with_reducible refine(V2.out _).mono ?_);rintro e w' ⟨rfl,bs2,dr2,rfl⟩))
 go_returns
 exact⟨rfl,.of_below belB⟩


theorem add2_same(an ad bn bd xh xl yh yl zh zl D r g q oh ol n1 n2 n3:Int)(s t:Bool)(w:World)(h1:decide (an<0)=s)(h2:decide (bn<0)=t)(h3:(s==t)=true)
 (V1:Hid (∀w,Calls Tryz.prog 177 #[.agg #[.int .i64 an,.int .i64 ad]] w fun e w'=>e= .returned (.bool true)∧w.Grows w')) (V2:Hid (∀w,Calls Tryz.prog 177 #[.agg #[.int .i64 bn,.int .i64 bd]] w fun e w'=>e= .returned (.bool true)∧w.Grows w'))
 (Z:Hid (∀n,I64 n→∀w,Calls Tryz.prog 231 #[.int .i64 n] w fun e w'=>e= .returned (.int .u64 (absI n))∧w=w')) (I1:I64 an) (I2:I64 ad) (I3:I64 bn) (I4:I64 bd)
 (T1:Hid (∀w,Calls Tryz.prog 236 #[.int .u64 (absI an),.int .u64 (absI bd)] w fun e w'=>e= .returned (.agg #[.int .u64 xh,.int .u64 xl])∧w.Grows w')) (T2:Hid (∀w,Calls Tryz.prog 236 #[.int .u64 (absI bn),.int .u64 (absI ad)] w fun e w'=>e= .returned (.agg #[.int .u64 yh,.int .u64 yl])∧w.Grows w')) (u3:IntKind.u64.wrap (absI ad*absI bd)=D) (g1:1≤g) (g0:(g==0)=false) (eq:IntKind.u64.wrap (D.tdiv g)=q)

 (O:Hid (∀w,Calls Tryz.prog 237 #[.agg #[.int .u64 xh,.int .u64 xl],.agg #[.int .u64 yh,.int .u64 yl]] w fun e w'=>e= .returned (.agg #[.int .u64 zh,.int .u64 zl])∧w.Grows w'))
 (hz:zh=0→zl=0→n1=0∧n2=1∧n3=0)
 (hq:zh≠0∨zl≠0→Hid (∀w,Calls Tryz.prog 235 #[.bool s,.agg #[.int .u64 oh,.int .u64 ol],.agg #[.int .u64 0,.int .u64 q]] w fun e w'=>(e= .returned (.tuple #[.agg #[.int .i64 n1,.int .i64 n2],.int .i64 n3])∧w.Grows w'))∧
  Hid (∀w,Calls Tryz.prog 241 #[.agg #[.int .u64 zh,.int .u64 zl],.int .u64 g] w fun e w'=>e= .returned (.agg #[.int .u64 oh,.int .u64 ol])∧w.Grows w')∧
  Hid (∀w,Calls Tryz.prog 240 #[.int .u64 zh,.int .u64 zl,.int .u64 D] w fun e w'=>e= .returned (.int .u64 r)∧w.Grows w')∧
  Hid (∀w,Calls Tryz.prog 230 #[.int .u64 D,.int .u64 r] w fun e w'=>e= .returned (.int .u64 g)∧w.Grows w'))
 :Calls Tryz.prog 184 (#[.agg #[.int .i64 an,.int .i64 ad],.agg #[.int .i64 bn,.int .i64 bd]]) w fun e w'=>(e= .returned (.tuple #[.agg #[.int .i64 n1,.int .i64 n2],.int .i64 n3])∧w.Grows w'):=by
 have L:Hid True:=Lib.hid trivial
 by_cases z1:zh=0
 ·subst z1
  by_cases z2:zl=0
  ·subst z2
   have R:Hid True:=Lib.hid trivial
   have G:Hid True:=Lib.hid trivial
   have E:=Lib.hid (hz rfl rfl)
   clear hz
   go_enter Tryz.func184,Tryz.ntmps184
   go_wp2_with (first|(go_at_call 177;(with_reducible refine(V1.out _).mono ?_);rintro e w' ⟨rfl,bs,dr,rfl⟩)|(go_at_call 177;(with_reducible refine(V2.out _).mono ?_);rintro e w' ⟨rfl,bs2,dr2,rfl⟩))
   generalize bs++bs2=B
   apply wp_region_made2b 16 (14,6,.cells #[.int .u64 0,.int .u64 0] 281) (15,7,.cells #[.int .u64 0,.int .u64 0] 281) (by kernel_rfl) (by kernel_rfl)
   case hrx=>
    intro o ho ρ w
    obtain rfl:=Option.some.inj ho
    simp [go_sem]
   case hry=>
    intro o ho ρ w
    obtain rfl:=Option.some.inj ho
    simp [go_sem]
   case h1=>
    intro bs d
    simp only [List.take_succ_cons,List.take_zero,List.map_cons,List.map_nil,Oper.mask]
    repeat(go_big_quiet_step ((first|(go_at_call 231;(with_reducible exact Calls.quietMS3 (Z.out _ (by assumption) _)))|(go_at_call 236;first|(with_reducible exact Calls.quietM3 (T1.out _))|(with_reducible exact Calls.quietM3 (T2.out _))))))
    exact wpQuiet_nil rfl
   all_goals
    intro gb1 gd1 gb2 gd2 gb gd
    simp only [List.drop_succ_cons,List.drop_zero,Act.put,List.setIfInBounds_toArray,List.set_cons_zero,List.set_cons_succ,World.grow_grow,World.size_grow,World.size_alloc,Array.size_append]
   all_goals
    clear T1 T2
    go_wp2_with (first|(go_at_call 238;(with_reducible refine(L.out _).mono ?_);rintro e w' ⟨rfl,bs3,dr3,rfl⟩)|(go_at_call 237;(with_reducible refine(O.out _).mono ?_);rintro e w' ⟨rfl,bs4,dr4,rfl⟩))
    clear O L
    refine TS.begin [7] (World.Grows _) (by kernel_rfl) (by kernel_rfl) grows_drew (fun hS=>?_)
    refine TS.wkB 0 hS ?_
    refine TS.wkB 1 hS ?_
    refine TS.takeC (i:=2) (v:=(.int .u64 (absI ad))) (fn:=231) (args:=#[.int .i64 ad]) rfl (by kernel_rfl) (by kernel_rfl) (by kernel_rfl) (by decide) (fun _ _ _ h=>h) rfl hS ?_ ?_ ?_
    focus
     rintro wS ⟨gbS,gdS,rfl⟩
     go_simp
    focus exact fun wS _=>(Z.out _ (by assumption) wS)
    (try simp only [nS])
    refine TS.wkB 3 hS ?_
    refine TS.wkB 4 hS ?_
    refine TS.takeC (i:=5) (v:=(.int .u64 (absI bd))) (fn:=231) (args:=#[.int .i64 bd]) rfl (by kernel_rfl) (by kernel_rfl) (by kernel_rfl) (by decide) (fun _ _ _ h=>h) rfl hS ?_ ?_ ?_
    focus
     rintro wS ⟨gbS,gdS,rfl⟩
     go_simp
    focus exact fun wS _=>(Z.out _ (by assumption) wS)
    (try simp only [nS])
    refine TS.wkB 6 hS ?_
    refine TS.weB 7 ?_
    clear hS
    go_wp2_with (first|(go_at_call 240;(with_reducible refine(R.out _).mono ?_);rintro e w' ⟨rfl,bs5,dr5,rfl⟩)|(go_at_call 230;(with_reducible refine(G.out _).mono ?_);rintro e w' ⟨rfl,bs6,dr6,rfl⟩))
   all_goals
    go_returns
    exact⟨by rw [E.out.1,E.out.2.1,E.out.2.2],.of_below belB⟩
  ·have z3:(zl==0)=false:=by simpa using z2
   obtain⟨Q,U,R,G⟩:=hq (.inr z2)
   clear hz hq
   go_enter Tryz.func184,Tryz.ntmps184
   go_wp2_with (first|(go_at_call 177;(with_reducible refine(V1.out _).mono ?_);rintro e w' ⟨rfl,bs,dr,rfl⟩)|(go_at_call 177;(with_reducible refine(V2.out _).mono ?_);rintro e w' ⟨rfl,bs2,dr2,rfl⟩))
   generalize bs++bs2=B
   apply wp_region_made2b 16 (14,6,.cells #[.int .u64 0,.int .u64 0] 281) (15,7,.cells #[.int .u64 0,.int .u64 0] 281) (by kernel_rfl) (by kernel_rfl)
   case hrx=>
    intro o ho ρ w
    obtain rfl:=Option.some.inj ho
    simp [go_sem]
   case hry=>
    intro o ho ρ w
    obtain rfl:=Option.some.inj ho
    simp [go_sem]
   case h1=>
    intro bs d
    simp only [List.take_succ_cons,List.take_zero,List.map_cons,List.map_nil,Oper.mask]
    repeat(go_big_quiet_step ((first|(go_at_call 231;(with_reducible exact Calls.quietMS3 (Z.out _ (by assumption) _)))|(go_at_call 236;first|(with_reducible exact Calls.quietM3 (T1.out _))|(with_reducible exact Calls.quietM3 (T2.out _))))))
    exact wpQuiet_nil rfl
   all_goals
    intro gb1 gd1 gb2 gd2 gb gd
    simp only [List.drop_succ_cons,List.drop_zero,Act.put,List.setIfInBounds_toArray,List.set_cons_zero,List.set_cons_succ,World.grow_grow,World.size_grow,World.size_alloc,Array.size_append]
   all_goals
    clear T1 T2
    go_wp2_with (first|(go_at_call 238;(with_reducible refine(L.out _).mono ?_);rintro e w' ⟨rfl,bs3,dr3,rfl⟩)|(go_at_call 237;(with_reducible refine(O.out _).mono ?_);rintro e w' ⟨rfl,bs4,dr4,rfl⟩))
    clear O L
    refine TS.begin [7] (World.Grows _) (by kernel_rfl) (by kernel_rfl) grows_drew (fun hS=>?_)
    refine TS.wkB 0 hS ?_
    refine TS.wkB 1 hS ?_
    refine TS.takeC (i:=2) (v:=(.int .u64 (absI ad))) (fn:=231) (args:=#[.int .i64 ad]) rfl (by kernel_rfl) (by kernel_rfl) (by kernel_rfl) (by decide) (fun _ _ _ h=>h) rfl hS ?_ ?_ ?_
    focus
     rintro wS ⟨gbS,gdS,rfl⟩
     go_simp
    focus exact fun wS _=>(Z.out _ (by assumption) wS)
    (try simp only [nS])
    refine TS.wkB 3 hS ?_
    refine TS.wkB 4 hS ?_
    refine TS.takeC (i:=5) (v:=(.int .u64 (absI bd))) (fn:=231) (args:=#[.int .i64 bd]) rfl (by kernel_rfl) (by kernel_rfl) (by kernel_rfl) (by decide) (fun _ _ _ h=>h) rfl hS ?_ ?_ ?_
    focus
     rintro wS ⟨gbS,gdS,rfl⟩
     go_simp
    focus exact fun wS _=>(Z.out _ (by assumption) wS)
    (try simp only [nS])
    refine TS.wkB 6 hS ?_
    refine TS.weB 7 ?_
    clear hS
    go_wp2_with (first|(go_at_call 240;(with_reducible refine(R.out _).mono ?_);rintro e w' ⟨rfl,bs5,dr5,rfl⟩)|(go_at_call 230;(with_reducible refine(G.out _).mono ?_);rintro e w' ⟨rfl,bs6,dr6,rfl⟩))
   all_goals
    clear R G
    have gz:¬g=0:=by omega
    refine TS.begin [11,12] (World.Grows _) (by kernel_rfl) (by kernel_rfl) grows_drew (fun hS=>?_)
    refine TS.wkB 0 hS ?_
    refine TS.wkB 1 hS ?_
    refine TS.wkB 2 hS ?_
    refine TS.wkB 4 hS ?_
    refine TS.wkB 5 hS ?_
    refine TS.takeV (i:=6) (v:=.int .u64 (q)) rfl (by kernel_rfl) (by kernel_rfl) (by kernel_rfl) (by decide) (fun _ _ _ h=>h) rfl hS ?_ ?_
    focus
     rintro wS ⟨gbS,gdS,rfl⟩
     go_simp
     (try exact eq)
    (try simp only [nS])
    refine TS.wkB 7 hS ?_
    refine TS.one (i:=3) (by kernel_rfl) rfl (fun K1 hK1=>?_)
    go_simp
    go_at_call 241
    refine(U.out _).mono ?_
    rintro e' wA ⟨rfl,bA,dA,rfl⟩
    refine TS.go hK1 (by first|exact⟨_,_,World.grow_grow _ _ _ _ _⟩|exact⟨_,_,rfl⟩) (fun hS=>?_)
    clear hK1 K1
    (try simp only [nS])
    refine TS.one (i:=8) (by kernel_rfl) rfl (fun K1 hK1=>?_)
    go_simp
    go_at_call 235
    refine(Q.out _).mono ?_
    rintro e' wA ⟨rfl,bA,dA,rfl⟩
    refine TS.go hK1 (by first|exact⟨_,_,World.grow_grow _ _ _ _ _⟩|exact⟨_,_,rfl⟩) (fun hS=>?_)
    clear hK1 K1
    (try simp only [nS])
    refine TS.wkB 9 hS ?_
    refine TS.wkB 10 hS ?_
    refine TS.wtB 11 ?_
    refine TS.weB 12 ?_
    clear hS
    go_wp2_with fail
    go_returns
    exact⟨rfl,.of_below belB⟩
 ·have z3:(zh==0)=false:=by simpa using z1
  obtain⟨Q,U,R,G⟩:=hq (.inl z1)
  clear hz hq
  go_enter Tryz.func184,Tryz.ntmps184
  go_wp2_with (first|(go_at_call 177;(with_reducible refine(V1.out _).mono ?_);rintro e w' ⟨rfl,bs,dr,rfl⟩)|(go_at_call 177;(with_reducible refine(V2.out _).mono ?_);rintro e w' ⟨rfl,bs2,dr2,rfl⟩))
  generalize bs++bs2=B
  apply wp_region_made2b 16 (14,6,.cells #[.int .u64 0,.int .u64 0] 281) (15,7,.cells #[.int .u64 0,.int .u64 0] 281) (by kernel_rfl) (by kernel_rfl)
  case hrx=>
   intro o ho ρ w
   obtain rfl:=Option.some.inj ho
   simp [go_sem]
  case hry=>
   intro o ho ρ w
   obtain rfl:=Option.some.inj ho
   simp [go_sem]
  case h1=>
   intro bs d
   simp only [List.take_succ_cons,List.take_zero,List.map_cons,List.map_nil,Oper.mask]
   repeat(go_big_quiet_step ((first|(go_at_call 231;(with_reducible exact Calls.quietMS3 (Z.out _ (by assumption) _)))|(go_at_call 236;first|(with_reducible exact Calls.quietM3 (T1.out _))|(with_reducible exact Calls.quietM3 (T2.out _))))))
   exact wpQuiet_nil rfl
  all_goals
   intro gb1 gd1 gb2 gd2 gb gd
   simp only [List.drop_succ_cons,List.drop_zero,Act.put,List.setIfInBounds_toArray,List.set_cons_zero,List.set_cons_succ,World.grow_grow,World.size_grow,World.size_alloc,Array.size_append]
  all_goals
   clear T1 T2
   go_wp2_with (first|(go_at_call 238;(with_reducible refine(L.out _).mono ?_);rintro e w' ⟨rfl,bs3,dr3,rfl⟩)|(go_at_call 237;(with_reducible refine(O.out _).mono ?_);rintro e w' ⟨rfl,bs4,dr4,rfl⟩))
   clear O L
   refine TS.begin [7] (World.Grows _) (by kernel_rfl) (by kernel_rfl) grows_drew (fun hS=>?_)
   refine TS.wkB 0 hS ?_
   refine TS.wkB 1 hS ?_
   refine TS.takeC (i:=2) (v:=(.int .u64 (absI ad))) (fn:=231) (args:=#[.int .i64 ad]) rfl (by kernel_rfl) (by kernel_rfl) (by kernel_rfl) (by decide) (fun _ _ _ h=>h) rfl hS ?_ ?_ ?_
   focus
    rintro wS ⟨gbS,gdS,rfl⟩
    go_simp
   focus exact fun wS _=>(Z.out _ (by assumption) wS)
   (try simp only [nS])
   refine TS.wkB 3 hS ?_
   refine TS.wkB 4 hS ?_
   refine TS.takeC (i:=5) (v:=(.int .u64 (absI bd))) (fn:=231) (args:=#[.int .i64 bd]) rfl (by kernel_rfl) (by kernel_rfl) (by kernel_rfl) (by decide) (fun _ _ _ h=>h) rfl hS ?_ ?_ ?_
   focus
    rintro wS ⟨gbS,gdS,rfl⟩
    go_simp
   focus exact fun wS _=>(Z.out _ (by assumption) wS)
   (try simp only [nS])
   refine TS.wkB 6 hS ?_
   refine TS.weB 7 ?_
   clear hS
   go_wp2_with (first|(go_at_call 240;(with_reducible refine(R.out _).mono ?_);rintro e w' ⟨rfl,bs5,dr5,rfl⟩)|(go_at_call 230;(with_reducible refine(G.out _).mono ?_);rintro e w' ⟨rfl,bs6,dr6,rfl⟩))
  all_goals
   clear R G
   have gz:¬g=0:=by omega
   refine TS.begin [11,12] (World.Grows _) (by kernel_rfl) (by kernel_rfl) grows_drew (fun hS=>?_)
   refine TS.wkB 0 hS ?_
   refine TS.wkB 1 hS ?_
   refine TS.wkB 2 hS ?_
   refine TS.wkB 4 hS ?_
   refine TS.wkB 5 hS ?_
   refine TS.takeV (i:=6) (v:=.int .u64 (q)) rfl (by kernel_rfl) (by kernel_rfl) (by kernel_rfl) (by decide) (fun _ _ _ h=>h) rfl hS ?_ ?_
   focus
    rintro wS ⟨gbS,gdS,rfl⟩
    go_simp
    (try exact eq)
   (try simp only [nS])
   refine TS.wkB 7 hS ?_
   refine TS.one (i:=3) (by kernel_rfl) rfl (fun K1 hK1=>?_)
   go_simp
   go_at_call 241
   refine(U.out _).mono ?_
   rintro e' wA ⟨rfl,bA,dA,rfl⟩
   refine TS.go hK1 (by first|exact⟨_,_,World.grow_grow _ _ _ _ _⟩|exact⟨_,_,rfl⟩) (fun hS=>?_)
   clear hK1 K1
   (try simp only [nS])
   refine TS.one (i:=8) (by kernel_rfl) rfl (fun K1 hK1=>?_)
   go_simp
   go_at_call 235
   refine(Q.out _).mono ?_
   rintro e' wA ⟨rfl,bA,dA,rfl⟩
   refine TS.go hK1 (by first|exact⟨_,_,World.grow_grow _ _ _ _ _⟩|exact⟨_,_,rfl⟩) (fun hS=>?_)
   clear hK1 K1
   (try simp only [nS])
   refine TS.wkB 9 hS ?_
   refine TS.wkB 10 hS ?_
   refine TS.wtB 11 ?_
   refine TS.weB 12 ?_
   clear hS
   go_wp2_with fail
   go_returns
   exact⟨rfl,.of_below belB⟩


theorem add2_more(an ad bn bd xh xl yh yl zh zl D r g q oh ol n1 n2 n3:Int)(s t:Bool)(w:World)(h1:decide (an<0)=s)(h2:decide (bn<0)=t)(h3:(s==t)=false)
 (V1:Hid (∀w,Calls Tryz.prog 177 #[.agg #[.int .i64 an,.int .i64 ad]] w fun e w'=>e= .returned (.bool true)∧w.Grows w')) (V2:Hid (∀w,Calls Tryz.prog 177 #[.agg #[.int .i64 bn,.int .i64 bd]] w fun e w'=>e= .returned (.bool true)∧w.Grows w'))
 (Z:Hid (∀n,I64 n→∀w,Calls Tryz.prog 231 #[.int .i64 n] w fun e w'=>e= .returned (.int .u64 (absI n))∧w=w')) (I1:I64 an) (I2:I64 ad) (I3:I64 bn) (I4:I64 bd)
 (T1:Hid (∀w,Calls Tryz.prog 236 #[.int .u64 (absI an),.int .u64 (absI bd)] w fun e w'=>e= .returned (.agg #[.int .u64 xh,.int .u64 xl])∧w.Grows w')) (T2:Hid (∀w,Calls Tryz.prog 236 #[.int .u64 (absI bn),.int .u64 (absI ad)] w fun e w'=>e= .returned (.agg #[.int .u64 yh,.int .u64 yl])∧w.Grows w')) (u3:IntKind.u64.wrap (absI ad*absI bd)=D) (g1:1≤g) (g0:(g==0)=false) (eq:IntKind.u64.wrap (D.tdiv g)=q)
 (L:Hid (∀w,Calls Tryz.prog 238 #[.agg #[.int .u64 xh,.int .u64 xl],.agg #[.int .u64 yh,.int .u64 yl]] w fun e w'=>e= .returned (.bool false)∧w.Grows w'))
 (O:Hid (∀w,Calls Tryz.prog 239 #[.agg #[.int .u64 xh,.int .u64 xl],.agg #[.int .u64 yh,.int .u64 yl]] w fun e w'=>e= .returned (.agg #[.int .u64 zh,.int .u64 zl])∧w.Grows w'))
 (hz:zh=0→zl=0→n1=0∧n2=1∧n3=0)
 (hq:zh≠0∨zl≠0→Hid (∀w,Calls Tryz.prog 235 #[.bool s,.agg #[.int .u64 oh,.int .u64 ol],.agg #[.int .u64 0,.int .u64 q]] w fun e w'=>(e= .returned (.tuple #[.agg #[.int .i64 n1,.int .i64 n2],.int .i64 n3])∧w.Grows w'))∧
  Hid (∀w,Calls Tryz.prog 241 #[.agg #[.int .u64 zh,.int .u64 zl],.int .u64 g] w fun e w'=>e= .returned (.agg #[.int .u64 oh,.int .u64 ol])∧w.Grows w')∧
  Hid (∀w,Calls Tryz.prog 240 #[.int .u64 zh,.int .u64 zl,.int .u64 D] w fun e w'=>e= .returned (.int .u64 r)∧w.Grows w')∧
  Hid (∀w,Calls Tryz.prog 230 #[.int .u64 D,.int .u64 r] w fun e w'=>e= .returned (.int .u64 g)∧w.Grows w'))
 :Calls Tryz.prog 184 (#[.agg #[.int .i64 an,.int .i64 ad],.agg #[.int .i64 bn,.int .i64 bd]]) w fun e w'=>(e= .returned (.tuple #[.agg #[.int .i64 n1,.int .i64 n2],.int .i64 n3])∧w.Grows w'):=by
 by_cases z1:zh=0
 ·subst z1
  by_cases z2:zl=0
  ·subst z2
   have R:Hid True:=Lib.hid trivial
   have G:Hid True:=Lib.hid trivial
   have E:=Lib.hid (hz rfl rfl)
   clear hz
   go_enter Tryz.func184,Tryz.ntmps184
   go_wp2_with (first|(go_at_call 177;(with_reducible refine(V1.out _).mono ?_);rintro e w' ⟨rfl,bs,dr,rfl⟩)|(go_at_call 177;(with_reducible refine(V2.out _).mono ?_);rintro e w' ⟨rfl,bs2,dr2,rfl⟩))
   generalize bs++bs2=B
   apply wp_region_made2b 16 (14,6,.cells #[.int .u64 0,.int .u64 0] 281) (15,7,.cells #[.int .u64 0,.int .u64 0] 281) (by kernel_rfl) (by kernel_rfl)
   case hrx=>
    intro o ho ρ w
    obtain rfl:=Option.some.inj ho
    simp [go_sem]
   case hry=>
    intro o ho ρ w
    obtain rfl:=Option.some.inj ho
    simp [go_sem]
   case h1=>
    intro bs d
    simp only [List.take_succ_cons,List.take_zero,List.map_cons,List.map_nil,Oper.mask]
    repeat(go_big_quiet_step ((first|(go_at_call 231;(with_reducible exact Calls.quietMS3 (Z.out _ (by assumption) _)))|(go_at_call 236;first|(with_reducible exact Calls.quietM3 (T1.out _))|(with_reducible exact Calls.quietM3 (T2.out _))))))
    exact wpQuiet_nil rfl
   all_goals
    intro gb1 gd1 gb2 gd2 gb gd
    simp only [List.drop_succ_cons,List.drop_zero,Act.put,List.setIfInBounds_toArray,List.set_cons_zero,List.set_cons_succ,World.grow_grow,World.size_grow,World.size_alloc,Array.size_append]
   all_goals
    clear T1 T2
    go_wp2_with (first|(go_at_call 238;(with_reducible refine(L.out _).mono ?_);rintro e w' ⟨rfl,bs3,dr3,rfl⟩)|(go_at_call 239;(with_reducible refine(O.out _).mono ?_);rintro e w' ⟨rfl,bs4,dr4,rfl⟩))
    clear O L
    refine TS.begin [7] (World.Grows _) (by kernel_rfl) (by kernel_rfl) grows_drew (fun hS=>?_)
    refine TS.wkB 0 hS ?_
    refine TS.wkB 1 hS ?_
    refine TS.takeC (i:=2) (v:=(.int .u64 (absI ad))) (fn:=231) (args:=#[.int .i64 ad]) rfl (by kernel_rfl) (by kernel_rfl) (by kernel_rfl) (by decide) (fun _ _ _ h=>h) rfl hS ?_ ?_ ?_
    focus
     rintro wS ⟨gbS,gdS,rfl⟩
     go_simp
    focus exact fun wS _=>(Z.out _ (by assumption) wS)
    (try simp only [nS])
    refine TS.wkB 3 hS ?_
    refine TS.wkB 4 hS ?_
    refine TS.takeC (i:=5) (v:=(.int .u64 (absI bd))) (fn:=231) (args:=#[.int .i64 bd]) rfl (by kernel_rfl) (by kernel_rfl) (by kernel_rfl) (by decide) (fun _ _ _ h=>h) rfl hS ?_ ?_ ?_
    focus
     rintro wS ⟨gbS,gdS,rfl⟩
     go_simp
    focus exact fun wS _=>(Z.out _ (by assumption) wS)
    (try simp only [nS])
    refine TS.wkB 6 hS ?_
    refine TS.weB 7 ?_
    clear hS
    go_wp2_with (first|(go_at_call 240;(with_reducible refine(R.out _).mono ?_);rintro e w' ⟨rfl,bs5,dr5,rfl⟩)|(go_at_call 230;(with_reducible refine(G.out _).mono ?_);rintro e w' ⟨rfl,bs6,dr6,rfl⟩))
   all_goals
    go_returns
    exact⟨by rw [E.out.1,E.out.2.1,E.out.2.2],.of_below belB⟩
  ·have z3:(zl==0)=false:=by simpa using z2
   obtain⟨Q,U,R,G⟩:=hq (.inr z2)
   clear hz hq
   go_enter Tryz.func184,Tryz.ntmps184
   go_wp2_with (first|(go_at_call 177;(with_reducible refine(V1.out _).mono ?_);rintro e w' ⟨rfl,bs,dr,rfl⟩)|(go_at_call 177;(with_reducible refine(V2.out _).mono ?_);rintro e w' ⟨rfl,bs2,dr2,rfl⟩))
   generalize bs++bs2=B
   apply wp_region_made2b 16 (14,6,.cells #[.int .u64 0,.int .u64 0] 281) (15,7,.cells #[.int .u64 0,.int .u64 0] 281) (by kernel_rfl) (by kernel_rfl)
   case hrx=>
    intro o ho ρ w
    obtain rfl:=Option.some.inj ho
    simp [go_sem]
   case hry=>
    intro o ho ρ w
    obtain rfl:=Option.some.inj ho
    simp [go_sem]
   case h1=>
    intro bs d
    simp only [List.take_succ_cons,List.take_zero,List.map_cons,List.map_nil,Oper.mask]
    repeat(go_big_quiet_step ((first|(go_at_call 231;(with_reducible exact Calls.quietMS3 (Z.out _ (by assumption) _)))|(go_at_call 236;first|(with_reducible exact Calls.quietM3 (T1.out _))|(with_reducible exact Calls.quietM3 (T2.out _))))))
    exact wpQuiet_nil rfl
   all_goals
    intro gb1 gd1 gb2 gd2 gb gd
    simp only [List.drop_succ_cons,List.drop_zero,Act.put,List.setIfInBounds_toArray,List.set_cons_zero,List.set_cons_succ,World.grow_grow,World.size_grow,World.size_alloc,Array.size_append]
   all_goals
    clear T1 T2
    go_wp2_with (first|(go_at_call 238;(with_reducible refine(L.out _).mono ?_);rintro e w' ⟨rfl,bs3,dr3,rfl⟩)|(go_at_call 239;(with_reducible refine(O.out _).mono ?_);rintro e w' ⟨rfl,bs4,dr4,rfl⟩))
    clear O L
    refine TS.begin [7] (World.Grows _) (by kernel_rfl) (by kernel_rfl) grows_drew (fun hS=>?_)
    refine TS.wkB 0 hS ?_
    refine TS.wkB 1 hS ?_
    refine TS.takeC (i:=2) (v:=(.int .u64 (absI ad))) (fn:=231) (args:=#[.int .i64 ad]) rfl (by kernel_rfl) (by kernel_rfl) (by kernel_rfl) (by decide) (fun _ _ _ h=>h) rfl hS ?_ ?_ ?_
    focus
     rintro wS ⟨gbS,gdS,rfl⟩
     go_simp
    focus exact fun wS _=>(Z.out _ (by assumption) wS)
    (try simp only [nS])
    refine TS.wkB 3 hS ?_
    refine TS.wkB 4 hS ?_
    refine TS.takeC (i:=5) (v:=(.int .u64 (absI bd))) (fn:=231) (args:=#[.int .i64 bd]) rfl (by kernel_rfl) (by kernel_rfl) (by kernel_rfl) (by decide) (fun _ _ _ h=>h) rfl hS ?_ ?_ ?_
    focus
     rintro wS ⟨gbS,gdS,rfl⟩
     go_simp
    focus exact fun wS _=>(Z.out _ (by assumption) wS)
    (try simp only [nS])
    refine TS.wkB 6 hS ?_
    refine TS.weB 7 ?_
    clear hS
    go_wp2_with (first|(go_at_call 240;(with_reducible refine(R.out _).mono ?_);rintro e w' ⟨rfl,bs5,dr5,rfl⟩)|(go_at_call 230;(with_reducible refine(G.out _).mono ?_);rintro e w' ⟨rfl,bs6,dr6,rfl⟩))
   all_goals
    clear R G
    have gz:¬g=0:=by omega
    refine TS.begin [11,12] (World.Grows _) (by kernel_rfl) (by kernel_rfl) grows_drew (fun hS=>?_)
    refine TS.wkB 0 hS ?_
    refine TS.wkB 1 hS ?_
    refine TS.wkB 2 hS ?_
    refine TS.wkB 4 hS ?_
    refine TS.wkB 5 hS ?_
    refine TS.takeV (i:=6) (v:=.int .u64 (q)) rfl (by kernel_rfl) (by kernel_rfl) (by kernel_rfl) (by decide) (fun _ _ _ h=>h) rfl hS ?_ ?_
    focus
     rintro wS ⟨gbS,gdS,rfl⟩
     go_simp
     (try exact eq)
    (try simp only [nS])
    refine TS.wkB 7 hS ?_
    refine TS.one (i:=3) (by kernel_rfl) rfl (fun K1 hK1=>?_)
    go_simp
    go_at_call 241
    refine(U.out _).mono ?_
    rintro e' wA ⟨rfl,bA,dA,rfl⟩
    refine TS.go hK1 (by first|exact⟨_,_,World.grow_grow _ _ _ _ _⟩|exact⟨_,_,rfl⟩) (fun hS=>?_)
    clear hK1 K1
    (try simp only [nS])
    refine TS.one (i:=8) (by kernel_rfl) rfl (fun K1 hK1=>?_)
    go_simp
    go_at_call 235
    refine(Q.out _).mono ?_
    rintro e' wA ⟨rfl,bA,dA,rfl⟩
    refine TS.go hK1 (by first|exact⟨_,_,World.grow_grow _ _ _ _ _⟩|exact⟨_,_,rfl⟩) (fun hS=>?_)
    clear hK1 K1
    (try simp only [nS])
    refine TS.wkB 9 hS ?_
    refine TS.wkB 10 hS ?_
    refine TS.wtB 11 ?_
    refine TS.weB 12 ?_
    clear hS
    go_wp2_with fail
    go_returns
    exact⟨rfl,.of_below belB⟩
 ·have z3:(zh==0)=false:=by simpa using z1
  obtain⟨Q,U,R,G⟩:=hq (.inl z1)
  clear hz hq
  go_enter Tryz.func184,Tryz.ntmps184
  go_wp2_with (first|(go_at_call 177;(with_reducible refine(V1.out _).mono ?_);rintro e w' ⟨rfl,bs,dr,rfl⟩)|(go_at_call 177;(with_reducible refine(V2.out _).mono ?_);rintro e w' ⟨rfl,bs2,dr2,rfl⟩))
  generalize bs++bs2=B
  apply wp_region_made2b 16 (14,6,.cells #[.int .u64 0,.int .u64 0] 281) (15,7,.cells #[.int .u64 0,.int .u64 0] 281) (by kernel_rfl) (by kernel_rfl)
  case hrx=>
   intro o ho ρ w
   obtain rfl:=Option.some.inj ho
   simp [go_sem]
  case hry=>
   intro o ho ρ w
   obtain rfl:=Option.some.inj ho
   simp [go_sem]
  case h1=>
   intro bs d
   simp only [List.take_succ_cons,List.take_zero,List.map_cons,List.map_nil,Oper.mask]
   repeat(go_big_quiet_step ((first|(go_at_call 231;(with_reducible exact Calls.quietMS3 (Z.out _ (by assumption) _)))|(go_at_call 236;first|(with_reducible exact Calls.quietM3 (T1.out _))|(with_reducible exact Calls.quietM3 (T2.out _))))))
   exact wpQuiet_nil rfl
  all_goals
   intro gb1 gd1 gb2 gd2 gb gd
   simp only [List.drop_succ_cons,List.drop_zero,Act.put,List.setIfInBounds_toArray,List.set_cons_zero,List.set_cons_succ,World.grow_grow,World.size_grow,World.size_alloc,Array.size_append]
  all_goals
   clear T1 T2
   go_wp2_with (first|(go_at_call 238;(with_reducible refine(L.out _).mono ?_);rintro e w' ⟨rfl,bs3,dr3,rfl⟩)|(go_at_call 239;(with_reducible refine(O.out _).mono ?_);rintro e w' ⟨rfl,bs4,dr4,rfl⟩))
   clear O L
   refine TS.begin [7] (World.Grows _) (by kernel_rfl) (by kernel_rfl) grows_drew (fun hS=>?_)
   refine TS.wkB 0 hS ?_
   refine TS.wkB 1 hS ?_
   refine TS.takeC (i:=2) (v:=(.int .u64 (absI ad))) (fn:=231) (args:=#[.int .i64 ad]) rfl (by kernel_rfl) (by kernel_rfl) (by kernel_rfl) (by decide) (fun _ _ _ h=>h) rfl hS ?_ ?_ ?_
   focus
    rintro wS ⟨gbS,gdS,rfl⟩
    go_simp
   focus exact fun wS _=>(Z.out _ (by assumption) wS)
   (try simp only [nS])
   refine TS.wkB 3 hS ?_
   refine TS.wkB 4 hS ?_
   refine TS.takeC (i:=5) (v:=(.int .u64 (absI bd))) (fn:=231) (args:=#[.int .i64 bd]) rfl (by kernel_rfl) (by kernel_rfl) (by kernel_rfl) (by decide) (fun _ _ _ h=>h) rfl hS ?_ ?_ ?_
   focus
    rintro wS ⟨gbS,gdS,rfl⟩
    go_simp
   focus exact fun wS _=>(Z.out _ (by assumption) wS)
   (try simp only [nS])
   refine TS.wkB 6 hS ?_
   refine TS.weB 7 ?_
   clear hS
   go_wp2_with (first|(go_at_call 240;(with_reducible refine(R.out _).mono ?_);rintro e w' ⟨rfl,bs5,dr5,rfl⟩)|(go_at_call 230;(with_reducible refine(G.out _).mono ?_);rintro e w' ⟨rfl,bs6,dr6,rfl⟩))
  all_goals
   clear R G
   have gz:¬g=0:=by omega
   refine TS.begin [11,12] (World.Grows _) (by kernel_rfl) (by kernel_rfl) grows_drew (fun hS=>?_)
   refine TS.wkB 0 hS ?_
   refine TS.wkB 1 hS ?_
   refine TS.wkB 2 hS ?_
   refine TS.wkB 4 hS ?_
   refine TS.wkB 5 hS ?_
   refine TS.takeV (i:=6) (v:=.int .u64 (q)) rfl (by kernel_rfl) (by kernel_rfl) (by kernel_rfl) (by decide) (fun _ _ _ h=>h) rfl hS ?_ ?_
   focus
    rintro wS ⟨gbS,gdS,rfl⟩
    go_simp
    (try exact eq)
   (try simp only [nS])
   refine TS.wkB 7 hS ?_
   refine TS.one (i:=3) (by kernel_rfl) rfl (fun K1 hK1=>?_)
   go_simp
   go_at_call 241
   refine(U.out _).mono ?_
   rintro e' wA ⟨rfl,bA,dA,rfl⟩
   refine TS.go hK1 (by first|exact⟨_,_,World.grow_grow _ _ _ _ _⟩|exact⟨_,_,rfl⟩) (fun hS=>?_)
   clear hK1 K1
   (try simp only [nS])
   refine TS.one (i:=8) (by kernel_rfl) rfl (fun K1 hK1=>?_)
   go_simp
   go_at_call 235
   refine(Q.out _).mono ?_
   rintro e' wA ⟨rfl,bA,dA,rfl⟩
   refine TS.go hK1 (by first|exact⟨_,_,World.grow_grow _ _ _ _ _⟩|exact⟨_,_,rfl⟩) (fun hS=>?_)
   clear hK1 K1
   (try simp only [nS])
   refine TS.wkB 9 hS ?_
   refine TS.wkB 10 hS ?_
   refine TS.wtB 11 ?_
   refine TS.weB 12 ?_
   clear hS
   go_wp2_with fail
   go_returns
   exact⟨rfl,.of_below belB⟩
end Go.Proofs.YtblkcgceefjmjaaGreatDoor
namespace Go.Proofs.YtblkcgceefjmjaaGreatDoor
open Go.RowKit Go.Sort Go.Lib
theorem YrAt.of_row{w:World}{base:Nat}{v:Value}{l:List Int}(h:w.ownsRow base 3 1 v l.length (l.map (Value.int .i64)))(hl:l.length≤1000):YrAt w v l:=by
 obtain⟨-,⟨rfl,h0⟩|⟨g,cap,cur,rfl,hb,hg,h2,h3,h4,h5⟩⟩:=id h
 ·exact⟨by omega,none,0,by rw [h0],.inl h0⟩
 ·refine⟨by omega,_,cap,rfl,.inr ⟨g,0,rfl,(Array.getElem?_eq_some_iff.1 hg).1,fun i hi=>?_⟩⟩
  rw [Nat.zero_add,h.cellAt i (by omega),List.getElem?_map,List.getElem?_eq_getElem hi,List.getD_eq_getElem?_getD,List.getElem?_eq_getElem hi]
  rfl
def SrtPost(x:List Int)(w:World)(e:Ending)(w':World):Prop:=∃(a:Option Addr) (cap:Nat) (ss:List Int),e= .returned (.slice a ss.length cap)∧ss.length≤cap∧ss.Perm x∧ss.Pairwise (·≤·)∧YrAt w' (.slice a ss.length cap) ss∧w.Grows w'
def ColPost(x:List Int)(w:World)(e:Ending)(w':World):Prop:=∃v',e= .returned v'∧w'.ownsRow w.heap.size 3 1 v' x.length (x.map (Value.int .i64))∧Below w.heap.size w w'
theorem collect_any(x:List Int)(v:Value)(Bs:Nat)(w:World)(hb:Bs<w.heap.size)(hc0:w.cell? ⟨Bs,0,none⟩=some v)(hL:YrAt w v x) :
 Calls Tryz.prog 232 #[.func (.func 234) #[] #[.pointer (some ⟨Bs,0,none⟩)]] w (ColPost x w):=by
 have HA:=Lib.hid (callsIn_wide.1 (appI_in x v Bs w hb hc0 hL))
 clear hc0 hL
 go_enter Tryz.func232,Tryz.ntmps232
 go_wp2_with (go_at_call 271;refine HA.out.mono ?_;rintro e' w' ⟨v',rfl,hown,hbel⟩)
 go_returns
 exact⟨_,rfl,hown,hbel⟩
theorem sort_pair(l:List Int):(l.mergeSort fun x y=>decide (x≤y)).Pairwise (·≤·):=by
 have:=List.pairwise_mergeSort (le:=fun x y:Int=>decide (x≤y)) (by intro a b c h1 h2;simp at *;omega) (by intro a b;simp;omega) l
 exact this.imp fun h=>by simpa using h
theorem below_row{w w1 w2:World}{g:Nat}(h:Below w.heap.size w w1)(hg:w1.grownBy w2 (some g))(hle:w.heap.size≤g):Below w.heap.size w w2:=h.grown hg h.size (fun k hk=>by cases hk;exact hle)
theorem sorted_any(x:List Int)(v:Value)(Bs:Nat)(w:World)(hb:Bs<w.heap.size)(hc0:w.cell? ⟨Bs,0,none⟩=some v)(hL:YrAt w v x) :
 Calls Tryz.prog 179 #[.func (.func 234) #[] #[.pointer (some ⟨Bs,0,none⟩)]] w (SrtPost x w):=by
 have HC:=Lib.hid (collect_any x v Bs w hb hc0 hL)
 have h1000:=hL.1
 clear hc0 hL
 go_enter Tryz.func179,Tryz.ntmps179
 go_wp2_with (go_at_call 232;refine HC.out.mono ?_;rintro e' w' ⟨v',rfl,hown,hbel⟩;have HO:=Lib.hid hown;have HB:=Lib.hid hbel;obtain⟨hl0,⟨rfl,hz⟩|⟨g,cap,cur,rfl,hbg,hg,h2,h3,h4,h5⟩⟩:=hown;clear hbel)
 ·obtain rfl:x= []:=List.eq_nil_of_length_eq_zero hz
  go_wp2_with (go_at_call 233;refine(Tryz.slices_Sort_int_none none 0 _).mono ?_;rintro e2 w2 ⟨rfl,rfl⟩)
  go_returns
  exact⟨none,0,[],rfl,Nat.le_refl _,.refl _,.nil,⟨by simp,none,0,rfl,.inl rfl⟩,.of_below HB.out⟩
 ·have HS:=Lib.hid (sort_rowY (zs:=x) HO.out h1000)
  have HH:=Lib.hid (And.intro hbg h2)
  clear hg h2 h3 h4 h5 hl0
  go_wp2_with (go_at_call 233;refine(HS.out).mono ?_;rintro e2 w2 ⟨rfl,hg2,hown2⟩)
  go_returns
  have hlen:(x.mergeSort fun x y=>decide (x≤y)).length=x.length:=by simp
  refine⟨some ⟨g,0,none⟩,cap,x.mergeSort fun x y=>decide (x≤y),by rw [hlen];rfl,by rw [hlen];exact HH.out.2,List.mergeSort_perm _ _,sort_pair x, ?_,.of_below (below_row HB.out hg2 HH.out.1)⟩
  have ho:=hown2
  rw [←hlen]at ho
  exact YrAt.of_row ho (by rw [hlen];exact h1000)
theorem dropK{ss:List Int}{m j:Nat}:(ss.drop m).getD j 0=ss.getD (m+j) 0:=by
 rw [List.getD_eq_getElem?_getD,List.getElem?_drop,←List.getD_eq_getElem?_getD]
end Go.Proofs.YtblkcgceefjmjaaGreatDoor
