import Derived.Test.YtfoefpoaomepbaaGreatDoorTFrMd
set_option linter.all false
set_option maxHeartbeats 16000000
set_option maxRecDepth 1000000
namespace Go.Proofs.YtfoefpoaomepbaaGreatDoor
open Go.RowKit


theorem add2_more(an ad bn bd xh xl yh yl zh zl D r g q oh ol n1 n2 n3:Int)(s t:Bool)(w:World)(h1:decide (an<0)=s)(h2:decide (bn<0)=t)(h3:(s==t)=false)
 (V1:Hid (∀w,Calls Tryz.prog 175 #[.agg #[.int .i64 an,.int .i64 ad]] w fun e w'=>e= .returned (.bool true)∧w.Grows w')) (V2:Hid (∀w,Calls Tryz.prog 175 #[.agg #[.int .i64 bn,.int .i64 bd]] w fun e w'=>e= .returned (.bool true)∧w.Grows w'))
 (Z:Hid (∀n,I64 n→∀w,Calls Tryz.prog 177 #[.int .i64 n] w fun e w'=>e= .returned (.int .u64 (absI n))∧w=w')) (I1:I64 an) (I2:I64 ad) (I3:I64 bn) (I4:I64 bd)
 (T1:Hid (∀w,Calls Tryz.prog 176 #[.int .u64 (absI an),.int .u64 (absI bd)] w fun e w'=>e= .returned (.agg #[.int .u64 xh,.int .u64 xl])∧w.Grows w')) (T2:Hid (∀w,Calls Tryz.prog 176 #[.int .u64 (absI bn),.int .u64 (absI ad)] w fun e w'=>e= .returned (.agg #[.int .u64 yh,.int .u64 yl])∧w.Grows w')) (u3:IntKind.u64.wrap (absI ad*absI bd)=D) (g1:1≤g) (g0:(g==0)=false) (eq:IntKind.u64.wrap (D.tdiv g)=q)
 (L:Hid (∀w,Calls Tryz.prog 179 #[.agg #[.int .u64 xh,.int .u64 xl],.agg #[.int .u64 yh,.int .u64 yl]] w fun e w'=>e= .returned (.bool false)∧w.Grows w'))
 (O:Hid (∀w,Calls Tryz.prog 180 #[.agg #[.int .u64 xh,.int .u64 xl],.agg #[.int .u64 yh,.int .u64 yl]] w fun e w'=>e= .returned (.agg #[.int .u64 zh,.int .u64 zl])∧w.Grows w'))
 (hz:zh=0→zl=0→n1=0∧n2=1∧n3=0)
 (hq:zh≠0∨zl≠0→Hid (∀w,Calls Tryz.prog 183 #[.bool s,.agg #[.int .u64 oh,.int .u64 ol],.agg #[.int .u64 0,.int .u64 q]] w fun e w'=>(e= .returned (.tuple #[.agg #[.int .i64 n1,.int .i64 n2],.int .i64 n3])∧w.Grows w'))∧
  Hid (∀w,Calls Tryz.prog 184 #[.agg #[.int .u64 zh,.int .u64 zl],.int .u64 g] w fun e w'=>e= .returned (.agg #[.int .u64 oh,.int .u64 ol])∧w.Grows w')∧
  Hid (∀w,Calls Tryz.prog 182 #[.int .u64 zh,.int .u64 zl,.int .u64 D] w fun e w'=>e= .returned (.int .u64 r)∧w.Grows w')∧
  Hid (∀w,Calls Tryz.prog 181 #[.int .u64 D,.int .u64 r] w fun e w'=>e= .returned (.int .u64 g)∧w.Grows w'))
 :Calls Tryz.prog 139 (#[.agg #[.int .i64 an,.int .i64 ad],.agg #[.int .i64 bn,.int .i64 bd]]) w fun e w'=>(e= .returned (.tuple #[.agg #[.int .i64 n1,.int .i64 n2],.int .i64 n3])∧w.Grows w'):=by
 by_cases z1:zh=0
 ·subst z1
  by_cases z2:zl=0
  ·subst z2
   have R:Hid True:=Lib.hid trivial
   have G:Hid True:=Lib.hid trivial
   have E:=Lib.hid (hz rfl rfl)
   clear hz
   go_enter Tryz.func139,Tryz.ntmps139
   go_wp2_with (first|(go_at_call 175;(with_reducible refine(V1.out _).mono ?_);rintro e w' ⟨rfl,bs,dr,rfl⟩)|(go_at_call 175;(with_reducible refine(V2.out _).mono ?_);rintro e w' ⟨rfl,bs2,dr2,rfl⟩))
   generalize bs++bs2=B
   apply wp_region_made2b 16 (14,6,.cells #[.int .u64 0,.int .u64 0] 221) (15,7,.cells #[.int .u64 0,.int .u64 0] 221) (by kernel_rfl) (by kernel_rfl)
   case hrx=>
    intro o ho ρ w
    obtain rfl:=Option.some.inj ho
    simp [go_sem]
   case hry=>
    intro o ho ρ w
    obtain rfl:=Option.some.inj ho
    simp [go_sem]
   case h1=>
    intro bs d
    simp only [List.take_succ_cons,List.take_zero,List.map_cons,List.map_nil,Oper.mask]
    repeat(go_big_quiet_step ((first|(go_at_call 177;(with_reducible exact Calls.quietMS3 (Z.out _ (by assumption) _)))|(go_at_call 176;first|(with_reducible exact Calls.quietM3 (T1.out _))|(with_reducible exact Calls.quietM3 (T2.out _))))))
    exact wpQuiet_nil rfl
   all_goals
    intro gb1 gd1 gb2 gd2 gb gd
    simp only [List.drop_succ_cons,List.drop_zero,Act.put,List.setIfInBounds_toArray,List.set_cons_zero,List.set_cons_succ,World.grow_grow,World.size_grow,World.size_alloc,Array.size_append]
   all_goals
    clear T1 T2
    go_wp2_with (first|(go_at_call 179;(with_reducible refine(L.out _).mono ?_);rintro e w' ⟨rfl,bs3,dr3,rfl⟩)|(go_at_call 180;(with_reducible refine(O.out _).mono ?_);rintro e w' ⟨rfl,bs4,dr4,rfl⟩))
    clear O L
    refine TS.begin [7] (World.Grows _) (by kernel_rfl) (by kernel_rfl) grows_drew (fun hS=>?_)
    refine TS.wkB 0 hS ?_
    refine TS.wkB 1 hS ?_
    refine TS.takeC (i:=2) (v:=(.int .u64 (absI ad))) (fn:=177) (args:=#[.int .i64 ad]) rfl (by kernel_rfl) (by kernel_rfl) (by kernel_rfl) (by decide) (fun _ _ _ h=>h) rfl hS ?_ ?_ ?_
    focus
     rintro wS ⟨gbS,gdS,rfl⟩
     go_simp
    focus exact fun wS _=>(Z.out _ (by assumption) wS)
    (try simp only [nS])
    refine TS.wkB 3 hS ?_
    refine TS.wkB 4 hS ?_
    refine TS.takeC (i:=5) (v:=(.int .u64 (absI bd))) (fn:=177) (args:=#[.int .i64 bd]) rfl (by kernel_rfl) (by kernel_rfl) (by kernel_rfl) (by decide) (fun _ _ _ h=>h) rfl hS ?_ ?_ ?_
    focus
     rintro wS ⟨gbS,gdS,rfl⟩
     go_simp
    focus exact fun wS _=>(Z.out _ (by assumption) wS)
    (try simp only [nS])
    refine TS.wkB 6 hS ?_
    refine TS.weB 7 ?_
    clear hS
    go_wp2_with (first|(go_at_call 182;(with_reducible refine(R.out _).mono ?_);rintro e w' ⟨rfl,bs5,dr5,rfl⟩)|(go_at_call 181;(with_reducible refine(G.out _).mono ?_);rintro e w' ⟨rfl,bs6,dr6,rfl⟩))
   all_goals
    go_returns
    exact⟨by rw [E.out.1,E.out.2.1,E.out.2.2],.of_below belB⟩
  ·have z3:(zl==0)=false:=by simpa using z2
   obtain⟨Q,U,R,G⟩:=hq (.inr z2)
   clear hz hq
   go_enter Tryz.func139,Tryz.ntmps139
   go_wp2_with (first|(go_at_call 175;(with_reducible refine(V1.out _).mono ?_);rintro e w' ⟨rfl,bs,dr,rfl⟩)|(go_at_call 175;(with_reducible refine(V2.out _).mono ?_);rintro e w' ⟨rfl,bs2,dr2,rfl⟩))
   generalize bs++bs2=B
   apply wp_region_made2b 16 (14,6,.cells #[.int .u64 0,.int .u64 0] 221) (15,7,.cells #[.int .u64 0,.int .u64 0] 221) (by kernel_rfl) (by kernel_rfl)
   case hrx=>
    intro o ho ρ w
    obtain rfl:=Option.some.inj ho
    simp [go_sem]
   case hry=>
    intro o ho ρ w
    obtain rfl:=Option.some.inj ho
    simp [go_sem]
   case h1=>
    intro bs d
    simp only [List.take_succ_cons,List.take_zero,List.map_cons,List.map_nil,Oper.mask]
    repeat(go_big_quiet_step ((first|(go_at_call 177;(with_reducible exact Calls.quietMS3 (Z.out _ (by assumption) _)))|(go_at_call 176;first|(with_reducible exact Calls.quietM3 (T1.out _))|(with_reducible exact Calls.quietM3 (T2.out _))))))
    exact wpQuiet_nil rfl
   all_goals
    intro gb1 gd1 gb2 gd2 gb gd
    simp only [List.drop_succ_cons,List.drop_zero,Act.put,List.setIfInBounds_toArray,List.set_cons_zero,List.set_cons_succ,World.grow_grow,World.size_grow,World.size_alloc,Array.size_append]
   all_goals
    clear T1 T2
    go_wp2_with (first|(go_at_call 179;(with_reducible refine(L.out _).mono ?_);rintro e w' ⟨rfl,bs3,dr3,rfl⟩)|(go_at_call 180;(with_reducible refine(O.out _).mono ?_);rintro e w' ⟨rfl,bs4,dr4,rfl⟩))
    clear O L
    refine TS.begin [7] (World.Grows _) (by kernel_rfl) (by kernel_rfl) grows_drew (fun hS=>?_)
    refine TS.wkB 0 hS ?_
    refine TS.wkB 1 hS ?_
    refine TS.takeC (i:=2) (v:=(.int .u64 (absI ad))) (fn:=177) (args:=#[.int .i64 ad]) rfl (by kernel_rfl) (by kernel_rfl) (by kernel_rfl) (by decide) (fun _ _ _ h=>h) rfl hS ?_ ?_ ?_
    focus
     rintro wS ⟨gbS,gdS,rfl⟩
     go_simp
    focus exact fun wS _=>(Z.out _ (by assumption) wS)
    (try simp only [nS])
    refine TS.wkB 3 hS ?_
    refine TS.wkB 4 hS ?_
    refine TS.takeC (i:=5) (v:=(.int .u64 (absI bd))) (fn:=177) (args:=#[.int .i64 bd]) rfl (by kernel_rfl) (by kernel_rfl) (by kernel_rfl) (by decide) (fun _ _ _ h=>h) rfl hS ?_ ?_ ?_
    focus
     rintro wS ⟨gbS,gdS,rfl⟩
     go_simp
    focus exact fun wS _=>(Z.out _ (by assumption) wS)
    (try simp only [nS])
    refine TS.wkB 6 hS ?_
    refine TS.weB 7 ?_
    clear hS
    go_wp2_with (first|(go_at_call 182;(with_reducible refine(R.out _).mono ?_);rintro e w' ⟨rfl,bs5,dr5,rfl⟩)|(go_at_call 181;(with_reducible refine(G.out _).mono ?_);rintro e w' ⟨rfl,bs6,dr6,rfl⟩))
   all_goals
    clear R G
    have gz:¬g=0:=by omega
    refine TS.begin [11,12] (World.Grows _) (by kernel_rfl) (by kernel_rfl) grows_drew (fun hS=>?_)
    refine TS.wkB 0 hS ?_
    refine TS.wkB 1 hS ?_
    refine TS.wkB 2 hS ?_
    refine TS.wkB 4 hS ?_
    refine TS.wkB 5 hS ?_
    refine TS.takeV (i:=6) (v:=.int .u64 (q)) rfl (by kernel_rfl) (by kernel_rfl) (by kernel_rfl) (by decide) (fun _ _ _ h=>h) rfl hS ?_ ?_
    focus
     rintro wS ⟨gbS,gdS,rfl⟩
     go_simp
     (try exact eq)
    (try simp only [nS])
    refine TS.wkB 7 hS ?_
    refine TS.one (i:=3) (by kernel_rfl) rfl (fun K1 hK1=>?_)
    go_simp
    go_at_call 184
    refine(U.out _).mono ?_
    rintro e' wA ⟨rfl,bA,dA,rfl⟩
    refine TS.go hK1 (by first|exact⟨_,_,World.grow_grow _ _ _ _ _⟩|exact⟨_,_,rfl⟩) (fun hS=>?_)
    clear hK1 K1
    (try simp only [nS])
    refine TS.one (i:=8) (by kernel_rfl) rfl (fun K1 hK1=>?_)
    go_simp
    go_at_call 183
    refine(Q.out _).mono ?_
    rintro e' wA ⟨rfl,bA,dA,rfl⟩
    refine TS.go hK1 (by first|exact⟨_,_,World.grow_grow _ _ _ _ _⟩|exact⟨_,_,rfl⟩) (fun hS=>?_)
    clear hK1 K1
    (try simp only [nS])
    refine TS.wkB 9 hS ?_
    refine TS.wkB 10 hS ?_
    refine TS.wtB 11 ?_
    refine TS.weB 12 ?_
    clear hS
    go_wp2_with fail
    go_returns
    exact⟨rfl,.of_below belB⟩
 ·have z3:(zh==0)=false:=by simpa using z1
  obtain⟨Q,U,R,G⟩:=hq (.inl z1)
  clear hz hq
  go_enter Tryz.func139,Tryz.ntmps139
  go_wp2_with (first|(go_at_call 175;(with_reducible refine(V1.out _).mono ?_);rintro e w' ⟨rfl,bs,dr,rfl⟩)|(go_at_call 175;(with_reducible refine(V2.out _).mono ?_);rintro e w' ⟨rfl,bs2,dr2,rfl⟩))
  generalize bs++bs2=B
  apply wp_region_made2b 16 (14,6,.cells #[.int .u64 0,.int .u64 0] 221) (15,7,.cells #[.int .u64 0,.int .u64 0] 221) (by kernel_rfl) (by kernel_rfl)
  case hrx=>
   intro o ho ρ w
   obtain rfl:=Option.some.inj ho
   simp [go_sem]
  case hry=>
   intro o ho ρ w
   obtain rfl:=Option.some.inj ho
   simp [go_sem]
  case h1=>
   intro bs d
   simp only [List.take_succ_cons,List.take_zero,List.map_cons,List.map_nil,Oper.mask]
   repeat(go_big_quiet_step ((first|(go_at_call 177;(with_reducible exact Calls.quietMS3 (Z.out _ (by assumption) _)))|(go_at_call 176;first|(with_reducible exact Calls.quietM3 (T1.out _))|(with_reducible exact Calls.quietM3 (T2.out _))))))
   exact wpQuiet_nil rfl
  all_goals
   intro gb1 gd1 gb2 gd2 gb gd
   simp only [List.drop_succ_cons,List.drop_zero,Act.put,List.setIfInBounds_toArray,List.set_cons_zero,List.set_cons_succ,World.grow_grow,World.size_grow,World.size_alloc,Array.size_append]
  all_goals
   clear T1 T2
   go_wp2_with (first|(go_at_call 179;(with_reducible refine(L.out _).mono ?_);rintro e w' ⟨rfl,bs3,dr3,rfl⟩)|(go_at_call 180;(with_reducible refine(O.out _).mono ?_);rintro e w' ⟨rfl,bs4,dr4,rfl⟩))
   clear O L
   refine TS.begin [7] (World.Grows _) (by kernel_rfl) (by kernel_rfl) grows_drew (fun hS=>?_)
   refine TS.wkB 0 hS ?_
   refine TS.wkB 1 hS ?_
   refine TS.takeC (i:=2) (v:=(.int .u64 (absI ad))) (fn:=177) (args:=#[.int .i64 ad]) rfl (by kernel_rfl) (by kernel_rfl) (by kernel_rfl) (by decide) (fun _ _ _ h=>h) rfl hS ?_ ?_ ?_
   focus
    rintro wS ⟨gbS,gdS,rfl⟩
    go_simp
   focus exact fun wS _=>(Z.out _ (by assumption) wS)
   (try simp only [nS])
   refine TS.wkB 3 hS ?_
   refine TS.wkB 4 hS ?_
   refine TS.takeC (i:=5) (v:=(.int .u64 (absI bd))) (fn:=177) (args:=#[.int .i64 bd]) rfl (by kernel_rfl) (by kernel_rfl) (by kernel_rfl) (by decide) (fun _ _ _ h=>h) rfl hS ?_ ?_ ?_
   focus
    rintro wS ⟨gbS,gdS,rfl⟩
    go_simp
   focus exact fun wS _=>(Z.out _ (by assumption) wS)
   (try simp only [nS])
   refine TS.wkB 6 hS ?_
   refine TS.weB 7 ?_
   clear hS
   go_wp2_with (first|(go_at_call 182;(with_reducible refine(R.out _).mono ?_);rintro e w' ⟨rfl,bs5,dr5,rfl⟩)|(go_at_call 181;(with_reducible refine(G.out _).mono ?_);rintro e w' ⟨rfl,bs6,dr6,rfl⟩))
  all_goals
   clear R G
   have gz:¬g=0:=by omega
   refine TS.begin [11,12] (World.Grows _) (by kernel_rfl) (by kernel_rfl) grows_drew (fun hS=>?_)
   refine TS.wkB 0 hS ?_
   refine TS.wkB 1 hS ?_
   refine TS.wkB 2 hS ?_
   refine TS.wkB 4 hS ?_
   refine TS.wkB 5 hS ?_
   refine TS.takeV (i:=6) (v:=.int .u64 (q)) rfl (by kernel_rfl) (by kernel_rfl) (by kernel_rfl) (by decide) (fun _ _ _ h=>h) rfl hS ?_ ?_
   focus
    rintro wS ⟨gbS,gdS,rfl⟩
    go_simp
    (try exact eq)
   (try simp only [nS])
   refine TS.wkB 7 hS ?_
   refine TS.one (i:=3) (by kernel_rfl) rfl (fun K1 hK1=>?_)
   go_simp
   go_at_call 184
   refine(U.out _).mono ?_
   rintro e' wA ⟨rfl,bA,dA,rfl⟩
   refine TS.go hK1 (by first|exact⟨_,_,World.grow_grow _ _ _ _ _⟩|exact⟨_,_,rfl⟩) (fun hS=>?_)
   clear hK1 K1
   (try simp only [nS])
   refine TS.one (i:=8) (by kernel_rfl) rfl (fun K1 hK1=>?_)
   go_simp
   go_at_call 183
   refine(Q.out _).mono ?_
   rintro e' wA ⟨rfl,bA,dA,rfl⟩
   refine TS.go hK1 (by first|exact⟨_,_,World.grow_grow _ _ _ _ _⟩|exact⟨_,_,rfl⟩) (fun hS=>?_)
   clear hK1 K1
   (try simp only [nS])
   refine TS.wkB 9 hS ?_
   refine TS.wkB 10 hS ?_
   refine TS.wtB 11 ?_
   refine TS.weB 12 ?_
   clear hS
   go_wp2_with fail
   go_returns
   exact⟨rfl,.of_below belB⟩
end Go.Proofs.YtfoefpoaomepbaaGreatDoor
