import Derived.Test.YtaghhncnicbedaaGreatDoorFGenT
import Derived.Test.YtaghhncnicbedaaGreatDoorFMchF
import Derived.Test.YtaghhncnicbedaaGreatDoorFK
import Derived.Test.YtaghhncnicbedaaGreatDoorRows
import Derived.ProofKit
import Derived.SizedLaws
import Derived.Below
import Derived.Handed
import Derived.LaidLaws
import Derived.LaidSub
import Derived.Lay
import Derived.Stop.LaidErr
import Derived.MakeChecks
import Derived.Lib.LaidTab
set_option linter.all false
set_option maxHeartbeats 16000000
set_option maxRecDepth 1000000
namespace Go.Proofs.YtaghhncnicbedaaGreatDoor
open Go.RowKit


theorem add2_less(an ad bn bd xh xl yh yl zh zl D r g q oh ol n1 n2 n3:Int)(s t:Bool)(w:World)(h1:decide (an<0)=s)(h2:decide (bn<0)=t)(h3:(s==t)=false)
 (V1:Hid (∀w,Calls Tryz.prog 85 #[.agg #[.int .i64 an,.int .i64 ad]] w fun e w'=>e= .returned (.bool true)∧w.Grows w')) (V2:Hid (∀w,Calls Tryz.prog 85 #[.agg #[.int .i64 bn,.int .i64 bd]] w fun e w'=>e= .returned (.bool true)∧w.Grows w'))
 (Z:Hid (∀n,I64 n→∀w,Calls Tryz.prog 137 #[.int .i64 n] w fun e w'=>e= .returned (.int .u64 (absI n))∧w=w')) (I1:I64 an) (I2:I64 ad) (I3:I64 bn) (I4:I64 bd)
 (T1:Hid (∀w,Calls Tryz.prog 148 #[.int .u64 (absI an),.int .u64 (absI bd)] w fun e w'=>e= .returned (.agg #[.int .u64 xh,.int .u64 xl])∧w.Grows w')) (T2:Hid (∀w,Calls Tryz.prog 148 #[.int .u64 (absI bn),.int .u64 (absI ad)] w fun e w'=>e= .returned (.agg #[.int .u64 yh,.int .u64 yl])∧w.Grows w')) (u3:IntKind.u64.wrap (absI ad*absI bd)=D) (g1:1≤g) (g0:(g==0)=false) (eq:IntKind.u64.wrap (D.tdiv g)=q)
 (L:Hid (∀w,Calls Tryz.prog 150 #[.agg #[.int .u64 xh,.int .u64 xl],.agg #[.int .u64 yh,.int .u64 yl]] w fun e w'=>e= .returned (.bool true)∧w.Grows w'))
 (O:Hid (∀w,Calls Tryz.prog 151 #[.agg #[.int .u64 yh,.int .u64 yl],.agg #[.int .u64 xh,.int .u64 xl]] w fun e w'=>e= .returned (.agg #[.int .u64 zh,.int .u64 zl])∧w.Grows w'))
 (hz:zh=0→zl=0→n1=0∧n2=1∧n3=0)
 (hq:zh≠0∨zl≠0→Hid (∀w,Calls Tryz.prog 147 #[.bool (!s),.agg #[.int .u64 oh,.int .u64 ol],.agg #[.int .u64 0,.int .u64 q]] w fun e w'=>(e= .returned (.tuple #[.agg #[.int .i64 n1,.int .i64 n2],.int .i64 n3])∧w.Grows w'))∧
  Hid (∀w,Calls Tryz.prog 153 #[.agg #[.int .u64 zh,.int .u64 zl],.int .u64 g] w fun e w'=>e= .returned (.agg #[.int .u64 oh,.int .u64 ol])∧w.Grows w')∧
  Hid (∀w,Calls Tryz.prog 152 #[.int .u64 zh,.int .u64 zl,.int .u64 D] w fun e w'=>e= .returned (.int .u64 r)∧w.Grows w')∧
  Hid (∀w,Calls Tryz.prog 136 #[.int .u64 D,.int .u64 r] w fun e w'=>e= .returned (.int .u64 g)∧w.Grows w'))
 :Calls Tryz.prog 106 (#[.agg #[.int .i64 an,.int .i64 ad],.agg #[.int .i64 bn,.int .i64 bd]]) w fun e w'=>(e= .returned (.tuple #[.agg #[.int .i64 n1,.int .i64 n2],.int .i64 n3])∧w.Grows w'):=by
 by_cases z1:zh=0
 ·subst z1
  by_cases z2:zl=0
  ·subst z2
   have R:Hid True:=Lib.hid trivial
   have G:Hid True:=Lib.hid trivial
   have E:=Lib.hid (hz rfl rfl)
   clear hz
   go_enter Tryz.func106,Tryz.ntmps106
   go_wp2_with (first|(go_at_call 85;(with_reducible refine(V1.out _).mono ?_);rintro e w' ⟨rfl,bs,dr,rfl⟩)|(go_at_call 85;(with_reducible refine(V2.out _).mono ?_);rintro e w' ⟨rfl,bs2,dr2,rfl⟩))
   generalize bs++bs2=B
   apply wp_region_made2b 16 (14,6,.cells #[.int .u64 0,.int .u64 0] 211) (15,7,.cells #[.int .u64 0,.int .u64 0] 211) (by kernel_rfl) (by kernel_rfl)
   case hrx=>
    intro o ho ρ w
    obtain rfl:=Option.some.inj ho
    simp [go_sem]
   case hry=>
    intro o ho ρ w
    obtain rfl:=Option.some.inj ho
    simp [go_sem]
   case h1=>
    intro bs d
    simp only [List.take_succ_cons,List.take_zero,List.map_cons,List.map_nil,Oper.mask]
    repeat(go_big_quiet_step ((first|(go_at_call 137;(with_reducible exact Calls.quietMS3 (Z.out _ (by assumption) _)))|(go_at_call 148;first|(with_reducible exact Calls.quietM3 (T1.out _))|(with_reducible exact Calls.quietM3 (T2.out _))))))
    exact wpQuiet_nil rfl
   all_goals
    intro gb1 gd1 gb2 gd2 gb gd
    simp only [List.drop_succ_cons,List.drop_zero,Act.put,List.setIfInBounds_toArray,List.set_cons_zero,List.set_cons_succ,World.grow_grow,World.size_grow,World.size_alloc,Array.size_append]
   all_goals
    clear T1 T2
    go_wp2_with (first|(go_at_call 150;(with_reducible refine(L.out _).mono ?_);rintro e w' ⟨rfl,bs3,dr3,rfl⟩)|(go_at_call 151;(with_reducible refine(O.out _).mono ?_);rintro e w' ⟨rfl,bs4,dr4,rfl⟩))
    clear O L
    refine TS.begin [7] (World.Grows _) (by kernel_rfl) (by kernel_rfl) grows_drew (fun hS=>?_)
    refine TS.wkB 0 hS ?_
    refine TS.wkB 1 hS ?_
    refine TS.takeC (i:=2) (v:=(.int .u64 (absI ad))) (fn:=137) (args:=#[.int .i64 ad]) rfl (by kernel_rfl) (by kernel_rfl) (by kernel_rfl) (by decide) (fun _ _ _ h=>h) rfl hS ?_ ?_ ?_
    focus
     rintro wS ⟨gbS,gdS,rfl⟩
     go_simp
    focus exact fun wS _=>(Z.out _ (by assumption) wS)
    (try simp only [nS])
    refine TS.wkB 3 hS ?_
    refine TS.wkB 4 hS ?_
    refine TS.takeC (i:=5) (v:=(.int .u64 (absI bd))) (fn:=137) (args:=#[.int .i64 bd]) rfl (by kernel_rfl) (by kernel_rfl) (by kernel_rfl) (by decide) (fun _ _ _ h=>h) rfl hS ?_ ?_ ?_
    focus
     rintro wS ⟨gbS,gdS,rfl⟩
     go_simp
    focus exact fun wS _=>(Z.out _ (by assumption) wS)
    (try simp only [nS])
    refine TS.wkB 6 hS ?_
    refine TS.weB 7 ?_
    clear hS
    go_wp2_with (first|(go_at_call 152;(with_reducible refine(R.out _).mono ?_);rintro e w' ⟨rfl,bs5,dr5,rfl⟩)|(go_at_call 136;(with_reducible refine(G.out _).mono ?_);rintro e w' ⟨rfl,bs6,dr6,rfl⟩))
   all_goals
    go_returns
    exact⟨by rw [E.out.1,E.out.2.1,E.out.2.2],.of_below belB⟩
  ·have z3:(zl==0)=false:=by simpa using z2
   obtain⟨Q,U,R,G⟩:=hq (.inr z2)
   clear hz hq
   go_enter Tryz.func106,Tryz.ntmps106
   go_wp2_with (first|(go_at_call 85;(with_reducible refine(V1.out _).mono ?_);rintro e w' ⟨rfl,bs,dr,rfl⟩)|(go_at_call 85;(with_reducible refine(V2.out _).mono ?_);rintro e w' ⟨rfl,bs2,dr2,rfl⟩))
   generalize bs++bs2=B
   apply wp_region_made2b 16 (14,6,.cells #[.int .u64 0,.int .u64 0] 211) (15,7,.cells #[.int .u64 0,.int .u64 0] 211) (by kernel_rfl) (by kernel_rfl)
   case hrx=>
    intro o ho ρ w
    obtain rfl:=Option.some.inj ho
    simp [go_sem]
   case hry=>
    intro o ho ρ w
    obtain rfl:=Option.some.inj ho
    simp [go_sem]
   case h1=>
    intro bs d
    simp only [List.take_succ_cons,List.take_zero,List.map_cons,List.map_nil,Oper.mask]
    repeat(go_big_quiet_step ((first|(go_at_call 137;(with_reducible exact Calls.quietMS3 (Z.out _ (by assumption) _)))|(go_at_call 148;first|(with_reducible exact Calls.quietM3 (T1.out _))|(with_reducible exact Calls.quietM3 (T2.out _))))))
    exact wpQuiet_nil rfl
   all_goals
    intro gb1 gd1 gb2 gd2 gb gd
    simp only [List.drop_succ_cons,List.drop_zero,Act.put,List.setIfInBounds_toArray,List.set_cons_zero,List.set_cons_succ,World.grow_grow,World.size_grow,World.size_alloc,Array.size_append]
   all_goals
    clear T1 T2
    go_wp2_with (first|(go_at_call 150;(with_reducible refine(L.out _).mono ?_);rintro e w' ⟨rfl,bs3,dr3,rfl⟩)|(go_at_call 151;(with_reducible refine(O.out _).mono ?_);rintro e w' ⟨rfl,bs4,dr4,rfl⟩))
    clear O L
    refine TS.begin [7] (World.Grows _) (by kernel_rfl) (by kernel_rfl) grows_drew (fun hS=>?_)
    refine TS.wkB 0 hS ?_
    refine TS.wkB 1 hS ?_
    refine TS.takeC (i:=2) (v:=(.int .u64 (absI ad))) (fn:=137) (args:=#[.int .i64 ad]) rfl (by kernel_rfl) (by kernel_rfl) (by kernel_rfl) (by decide) (fun _ _ _ h=>h) rfl hS ?_ ?_ ?_
    focus
     rintro wS ⟨gbS,gdS,rfl⟩
     go_simp
    focus exact fun wS _=>(Z.out _ (by assumption) wS)
    (try simp only [nS])
    refine TS.wkB 3 hS ?_
    refine TS.wkB 4 hS ?_
    refine TS.takeC (i:=5) (v:=(.int .u64 (absI bd))) (fn:=137) (args:=#[.int .i64 bd]) rfl (by kernel_rfl) (by kernel_rfl) (by kernel_rfl) (by decide) (fun _ _ _ h=>h) rfl hS ?_ ?_ ?_
    focus
     rintro wS ⟨gbS,gdS,rfl⟩
     go_simp
    focus exact fun wS _=>(Z.out _ (by assumption) wS)
    (try simp only [nS])
    refine TS.wkB 6 hS ?_
    refine TS.weB 7 ?_
    clear hS
    go_wp2_with (first|(go_at_call 152;(with_reducible refine(R.out _).mono ?_);rintro e w' ⟨rfl,bs5,dr5,rfl⟩)|(go_at_call 136;(with_reducible refine(G.out _).mono ?_);rintro e w' ⟨rfl,bs6,dr6,rfl⟩))
   all_goals
    clear R G
    have gz:¬g=0:=by omega
    refine TS.begin [11,12] (World.Grows _) (by kernel_rfl) (by kernel_rfl) grows_drew (fun hS=>?_)
    refine TS.wkB 0 hS ?_
    refine TS.wkB 1 hS ?_
    refine TS.wkB 2 hS ?_
    refine TS.wkB 4 hS ?_
    refine TS.wkB 5 hS ?_
    refine TS.takeV (i:=6) (v:=.int .u64 (q)) rfl (by kernel_rfl) (by kernel_rfl) (by kernel_rfl) (by decide) (fun _ _ _ h=>h) rfl hS ?_ ?_
    focus
     rintro wS ⟨gbS,gdS,rfl⟩
     go_simp
     (try exact eq)
    (try simp only [nS])
    refine TS.wkB 7 hS ?_
    refine TS.one (i:=3) (by kernel_rfl) rfl (fun K1 hK1=>?_)
    go_simp
    go_at_call 153
    refine(U.out _).mono ?_
    rintro e' wA ⟨rfl,bA,dA,rfl⟩
    refine TS.go hK1 (by first|exact⟨_,_,World.grow_grow _ _ _ _ _⟩|exact⟨_,_,rfl⟩) (fun hS=>?_)
    clear hK1 K1
    (try simp only [nS])
    refine TS.one (i:=8) (by kernel_rfl) rfl (fun K1 hK1=>?_)
    go_simp
    go_at_call 147
    refine(Q.out _).mono ?_
    rintro e' wA ⟨rfl,bA,dA,rfl⟩
    refine TS.go hK1 (by first|exact⟨_,_,World.grow_grow _ _ _ _ _⟩|exact⟨_,_,rfl⟩) (fun hS=>?_)
    clear hK1 K1
    (try simp only [nS])
    refine TS.wkB 9 hS ?_
    refine TS.wkB 10 hS ?_
    refine TS.wtB 11 ?_
    refine TS.weB 12 ?_
    clear hS
    go_wp2_with fail
    go_returns
    exact⟨rfl,.of_below belB⟩
 ·have z3:(zh==0)=false:=by simpa using z1
  obtain⟨Q,U,R,G⟩:=hq (.inl z1)
  clear hz hq
  go_enter Tryz.func106,Tryz.ntmps106
  go_wp2_with (first|(go_at_call 85;(with_reducible refine(V1.out _).mono ?_);rintro e w' ⟨rfl,bs,dr,rfl⟩)|(go_at_call 85;(with_reducible refine(V2.out _).mono ?_);rintro e w' ⟨rfl,bs2,dr2,rfl⟩))
  generalize bs++bs2=B
  apply wp_region_made2b 16 (14,6,.cells #[.int .u64 0,.int .u64 0] 211) (15,7,.cells #[.int .u64 0,.int .u64 0] 211) (by kernel_rfl) (by kernel_rfl)
  case hrx=>
   intro o ho ρ w
   obtain rfl:=Option.some.inj ho
   simp [go_sem]
  case hry=>
   intro o ho ρ w
   obtain rfl:=Option.some.inj ho
   simp [go_sem]
  case h1=>
   intro bs d
   simp only [List.take_succ_cons,List.take_zero,List.map_cons,List.map_nil,Oper.mask]
   repeat(go_big_quiet_step ((first|(go_at_call 137;(with_reducible exact Calls.quietMS3 (Z.out _ (by assumption) _)))|(go_at_call 148;first|(with_reducible exact Calls.quietM3 (T1.out _))|(with_reducible exact Calls.quietM3 (T2.out _))))))
   exact wpQuiet_nil rfl
  all_goals
   intro gb1 gd1 gb2 gd2 gb gd
   simp only [List.drop_succ_cons,List.drop_zero,Act.put,List.setIfInBounds_toArray,List.set_cons_zero,List.set_cons_succ,World.grow_grow,World.size_grow,World.size_alloc,Array.size_append]
  all_goals
   clear T1 T2
   go_wp2_with (first|(go_at_call 150;(with_reducible refine(L.out _).mono ?_);rintro e w' ⟨rfl,bs3,dr3,rfl⟩)|(go_at_call 151;(with_reducible refine(O.out _).mono ?_);rintro e w' ⟨rfl,bs4,dr4,rfl⟩))
   clear O L
   refine TS.begin [7] (World.Grows _) (by kernel_rfl) (by kernel_rfl) grows_drew (fun hS=>?_)
   refine TS.wkB 0 hS ?_
   refine TS.wkB 1 hS ?_
   refine TS.takeC (i:=2) (v:=(.int .u64 (absI ad))) (fn:=137) (args:=#[.int .i64 ad]) rfl (by kernel_rfl) (by kernel_rfl) (by kernel_rfl) (by decide) (fun _ _ _ h=>h) rfl hS ?_ ?_ ?_
   focus
    rintro wS ⟨gbS,gdS,rfl⟩
    go_simp
   focus exact fun wS _=>(Z.out _ (by assumption) wS)
   (try simp only [nS])
   refine TS.wkB 3 hS ?_
   refine TS.wkB 4 hS ?_
   refine TS.takeC (i:=5) (v:=(.int .u64 (absI bd))) (fn:=137) (args:=#[.int .i64 bd]) rfl (by kernel_rfl) (by kernel_rfl) (by kernel_rfl) (by decide) (fun _ _ _ h=>h) rfl hS ?_ ?_ ?_
   focus
    rintro wS ⟨gbS,gdS,rfl⟩
    go_simp
   focus exact fun wS _=>(Z.out _ (by assumption) wS)
   (try simp only [nS])
   refine TS.wkB 6 hS ?_
   refine TS.weB 7 ?_
   clear hS
   go_wp2_with (first|(go_at_call 152;(with_reducible refine(R.out _).mono ?_);rintro e w' ⟨rfl,bs5,dr5,rfl⟩)|(go_at_call 136;(with_reducible refine(G.out _).mono ?_);rintro e w' ⟨rfl,bs6,dr6,rfl⟩))
  all_goals
   clear R G
   have gz:¬g=0:=by omega
   refine TS.begin [11,12] (World.Grows _) (by kernel_rfl) (by kernel_rfl) grows_drew (fun hS=>?_)
   refine TS.wkB 0 hS ?_
   refine TS.wkB 1 hS ?_
   refine TS.wkB 2 hS ?_
   refine TS.wkB 4 hS ?_
   refine TS.wkB 5 hS ?_
   refine TS.takeV (i:=6) (v:=.int .u64 (q)) rfl (by kernel_rfl) (by kernel_rfl) (by kernel_rfl) (by decide) (fun _ _ _ h=>h) rfl hS ?_ ?_
   focus
    rintro wS ⟨gbS,gdS,rfl⟩
    go_simp
    (try exact eq)
   (try simp only [nS])
   refine TS.wkB 7 hS ?_
   refine TS.one (i:=3) (by kernel_rfl) rfl (fun K1 hK1=>?_)
   go_simp
   go_at_call 153
   refine(U.out _).mono ?_
   rintro e' wA ⟨rfl,bA,dA,rfl⟩
   refine TS.go hK1 (by first|exact⟨_,_,World.grow_grow _ _ _ _ _⟩|exact⟨_,_,rfl⟩) (fun hS=>?_)
   clear hK1 K1
   (try simp only [nS])
   refine TS.one (i:=8) (by kernel_rfl) rfl (fun K1 hK1=>?_)
   go_simp
   go_at_call 147
   refine(Q.out _).mono ?_
   rintro e' wA ⟨rfl,bA,dA,rfl⟩
   refine TS.go hK1 (by first|exact⟨_,_,World.grow_grow _ _ _ _ _⟩|exact⟨_,_,rfl⟩) (fun hS=>?_)
   clear hK1 K1
   (try simp only [nS])
   refine TS.wkB 9 hS ?_
   refine TS.wkB 10 hS ?_
   refine TS.wtB 11 ?_
   refine TS.weB 12 ?_
   clear hS
   go_wp2_with fail
   go_returns
   exact⟨rfl,.of_below belB⟩


theorem add2_more(an ad bn bd xh xl yh yl zh zl D r g q oh ol n1 n2 n3:Int)(s t:Bool)(w:World)(h1:decide (an<0)=s)(h2:decide (bn<0)=t)(h3:(s==t)=false)
 (V1:Hid (∀w,Calls Tryz.prog 85 #[.agg #[.int .i64 an,.int .i64 ad]] w fun e w'=>e= .returned (.bool true)∧w.Grows w')) (V2:Hid (∀w,Calls Tryz.prog 85 #[.agg #[.int .i64 bn,.int .i64 bd]] w fun e w'=>e= .returned (.bool true)∧w.Grows w'))
 (Z:Hid (∀n,I64 n→∀w,Calls Tryz.prog 137 #[.int .i64 n] w fun e w'=>e= .returned (.int .u64 (absI n))∧w=w')) (I1:I64 an) (I2:I64 ad) (I3:I64 bn) (I4:I64 bd)
 (T1:Hid (∀w,Calls Tryz.prog 148 #[.int .u64 (absI an),.int .u64 (absI bd)] w fun e w'=>e= .returned (.agg #[.int .u64 xh,.int .u64 xl])∧w.Grows w')) (T2:Hid (∀w,Calls Tryz.prog 148 #[.int .u64 (absI bn),.int .u64 (absI ad)] w fun e w'=>e= .returned (.agg #[.int .u64 yh,.int .u64 yl])∧w.Grows w')) (u3:IntKind.u64.wrap (absI ad*absI bd)=D) (g1:1≤g) (g0:(g==0)=false) (eq:IntKind.u64.wrap (D.tdiv g)=q)
 (L:Hid (∀w,Calls Tryz.prog 150 #[.agg #[.int .u64 xh,.int .u64 xl],.agg #[.int .u64 yh,.int .u64 yl]] w fun e w'=>e= .returned (.bool false)∧w.Grows w'))
 (O:Hid (∀w,Calls Tryz.prog 151 #[.agg #[.int .u64 xh,.int .u64 xl],.agg #[.int .u64 yh,.int .u64 yl]] w fun e w'=>e= .returned (.agg #[.int .u64 zh,.int .u64 zl])∧w.Grows w'))
 (hz:zh=0→zl=0→n1=0∧n2=1∧n3=0)
 (hq:zh≠0∨zl≠0→Hid (∀w,Calls Tryz.prog 147 #[.bool s,.agg #[.int .u64 oh,.int .u64 ol],.agg #[.int .u64 0,.int .u64 q]] w fun e w'=>(e= .returned (.tuple #[.agg #[.int .i64 n1,.int .i64 n2],.int .i64 n3])∧w.Grows w'))∧
  Hid (∀w,Calls Tryz.prog 153 #[.agg #[.int .u64 zh,.int .u64 zl],.int .u64 g] w fun e w'=>e= .returned (.agg #[.int .u64 oh,.int .u64 ol])∧w.Grows w')∧
  Hid (∀w,Calls Tryz.prog 152 #[.int .u64 zh,.int .u64 zl,.int .u64 D] w fun e w'=>e= .returned (.int .u64 r)∧w.Grows w')∧
  Hid (∀w,Calls Tryz.prog 136 #[.int .u64 D,.int .u64 r] w fun e w'=>e= .returned (.int .u64 g)∧w.Grows w'))
 :Calls Tryz.prog 106 (#[.agg #[.int .i64 an,.int .i64 ad],.agg #[.int .i64 bn,.int .i64 bd]]) w fun e w'=>(e= .returned (.tuple #[.agg #[.int .i64 n1,.int .i64 n2],.int .i64 n3])∧w.Grows w'):=by
 by_cases z1:zh=0
 ·subst z1
  by_cases z2:zl=0
  ·subst z2
   have R:Hid True:=Lib.hid trivial
   have G:Hid True:=Lib.hid trivial
   have E:=Lib.hid (hz rfl rfl)
   clear hz
   go_enter Tryz.func106,Tryz.ntmps106
   go_wp2_with (first|(go_at_call 85;(with_reducible refine(V1.out _).mono ?_);rintro e w' ⟨rfl,bs,dr,rfl⟩)|(go_at_call 85;(with_reducible refine(V2.out _).mono ?_);rintro e w' ⟨rfl,bs2,dr2,rfl⟩))
   generalize bs++bs2=B
   apply wp_region_made2b 16 (14,6,.cells #[.int .u64 0,.int .u64 0] 211) (15,7,.cells #[.int .u64 0,.int .u64 0] 211) (by kernel_rfl) (by kernel_rfl)
   case hrx=>
    intro o ho ρ w
    obtain rfl:=Option.some.inj ho
    simp [go_sem]
   case hry=>
    intro o ho ρ w
    obtain rfl:=Option.some.inj ho
    simp [go_sem]
   case h1=>
    intro bs d
    simp only [List.take_succ_cons,List.take_zero,List.map_cons,List.map_nil,Oper.mask]
    repeat(go_big_quiet_step ((first|(go_at_call 137;(with_reducible exact Calls.quietMS3 (Z.out _ (by assumption) _)))|(go_at_call 148;first|(with_reducible exact Calls.quietM3 (T1.out _))|(with_reducible exact Calls.quietM3 (T2.out _))))))
    exact wpQuiet_nil rfl
   all_goals
    intro gb1 gd1 gb2 gd2 gb gd
    simp only [List.drop_succ_cons,List.drop_zero,Act.put,List.setIfInBounds_toArray,List.set_cons_zero,List.set_cons_succ,World.grow_grow,World.size_grow,World.size_alloc,Array.size_append]
   all_goals
    clear T1 T2
    go_wp2_with (first|(go_at_call 150;(with_reducible refine(L.out _).mono ?_);rintro e w' ⟨rfl,bs3,dr3,rfl⟩)|(go_at_call 151;(with_reducible refine(O.out _).mono ?_);rintro e w' ⟨rfl,bs4,dr4,rfl⟩))
    clear O L
    refine TS.begin [7] (World.Grows _) (by kernel_rfl) (by kernel_rfl) grows_drew (fun hS=>?_)
    refine TS.wkB 0 hS ?_
    refine TS.wkB 1 hS ?_
    refine TS.takeC (i:=2) (v:=(.int .u64 (absI ad))) (fn:=137) (args:=#[.int .i64 ad]) rfl (by kernel_rfl) (by kernel_rfl) (by kernel_rfl) (by decide) (fun _ _ _ h=>h) rfl hS ?_ ?_ ?_
    focus
     rintro wS ⟨gbS,gdS,rfl⟩
     go_simp
    focus exact fun wS _=>(Z.out _ (by assumption) wS)
    (try simp only [nS])
    refine TS.wkB 3 hS ?_
    refine TS.wkB 4 hS ?_
    refine TS.takeC (i:=5) (v:=(.int .u64 (absI bd))) (fn:=137) (args:=#[.int .i64 bd]) rfl (by kernel_rfl) (by kernel_rfl) (by kernel_rfl) (by decide) (fun _ _ _ h=>h) rfl hS ?_ ?_ ?_
    focus
     rintro wS ⟨gbS,gdS,rfl⟩
     go_simp
    focus exact fun wS _=>(Z.out _ (by assumption) wS)
    (try simp only [nS])
    refine TS.wkB 6 hS ?_
    refine TS.weB 7 ?_
    clear hS
    go_wp2_with (first|(go_at_call 152;(with_reducible refine(R.out _).mono ?_);rintro e w' ⟨rfl,bs5,dr5,rfl⟩)|(go_at_call 136;(with_reducible refine(G.out _).mono ?_);rintro e w' ⟨rfl,bs6,dr6,rfl⟩))
   all_goals
    go_returns
    exact⟨by rw [E.out.1,E.out.2.1,E.out.2.2],.of_below belB⟩
  ·have z3:(zl==0)=false:=by simpa using z2
   obtain⟨Q,U,R,G⟩:=hq (.inr z2)
   clear hz hq
   go_enter Tryz.func106,Tryz.ntmps106
   go_wp2_with (first|(go_at_call 85;(with_reducible refine(V1.out _).mono ?_);rintro e w' ⟨rfl,bs,dr,rfl⟩)|(go_at_call 85;(with_reducible refine(V2.out _).mono ?_);rintro e w' ⟨rfl,bs2,dr2,rfl⟩))
   generalize bs++bs2=B
   apply wp_region_made2b 16 (14,6,.cells #[.int .u64 0,.int .u64 0] 211) (15,7,.cells #[.int .u64 0,.int .u64 0] 211) (by kernel_rfl) (by kernel_rfl)
   case hrx=>
    intro o ho ρ w
    obtain rfl:=Option.some.inj ho
    simp [go_sem]
   case hry=>
    intro o ho ρ w
    obtain rfl:=Option.some.inj ho
    simp [go_sem]
   case h1=>
    intro bs d
    simp only [List.take_succ_cons,List.take_zero,List.map_cons,List.map_nil,Oper.mask]
    repeat(go_big_quiet_step ((first|(go_at_call 137;(with_reducible exact Calls.quietMS3 (Z.out _ (by assumption) _)))|(go_at_call 148;first|(with_reducible exact Calls.quietM3 (T1.out _))|(with_reducible exact Calls.quietM3 (T2.out _))))))
    exact wpQuiet_nil rfl
   all_goals
    intro gb1 gd1 gb2 gd2 gb gd
    simp only [List.drop_succ_cons,List.drop_zero,Act.put,List.setIfInBounds_toArray,List.set_cons_zero,List.set_cons_succ,World.grow_grow,World.size_grow,World.size_alloc,Array.size_append]
   all_goals
    clear T1 T2
    go_wp2_with (first|(go_at_call 150;(with_reducible refine(L.out _).mono ?_);rintro e w' ⟨rfl,bs3,dr3,rfl⟩)|(go_at_call 151;(with_reducible refine(O.out _).mono ?_);rintro e w' ⟨rfl,bs4,dr4,rfl⟩))
    clear O L
    refine TS.begin [7] (World.Grows _) (by kernel_rfl) (by kernel_rfl) grows_drew (fun hS=>?_)
    refine TS.wkB 0 hS ?_
    refine TS.wkB 1 hS ?_
    refine TS.takeC (i:=2) (v:=(.int .u64 (absI ad))) (fn:=137) (args:=#[.int .i64 ad]) rfl (by kernel_rfl) (by kernel_rfl) (by kernel_rfl) (by decide) (fun _ _ _ h=>h) rfl hS ?_ ?_ ?_
    focus
     rintro wS ⟨gbS,gdS,rfl⟩
     go_simp
    focus exact fun wS _=>(Z.out _ (by assumption) wS)
    (try simp only [nS])
    refine TS.wkB 3 hS ?_
    refine TS.wkB 4 hS ?_
    refine TS.takeC (i:=5) (v:=(.int .u64 (absI bd))) (fn:=137) (args:=#[.int .i64 bd]) rfl (by kernel_rfl) (by kernel_rfl) (by kernel_rfl) (by decide) (fun _ _ _ h=>h) rfl hS ?_ ?_ ?_
    focus
     rintro wS ⟨gbS,gdS,rfl⟩
     go_simp
    focus exact fun wS _=>(Z.out _ (by assumption) wS)
    (try simp only [nS])
    refine TS.wkB 6 hS ?_
    refine TS.weB 7 ?_
    clear hS
    go_wp2_with (first|(go_at_call 152;(with_reducible refine(R.out _).mono ?_);rintro e w' ⟨rfl,bs5,dr5,rfl⟩)|(go_at_call 136;(with_reducible refine(G.out _).mono ?_);rintro e w' ⟨rfl,bs6,dr6,rfl⟩))
   all_goals
    clear R G
    have gz:¬g=0:=by omega
    refine TS.begin [11,12] (World.Grows _) (by kernel_rfl) (by kernel_rfl) grows_drew (fun hS=>?_)
    refine TS.wkB 0 hS ?_
    refine TS.wkB 1 hS ?_
    refine TS.wkB 2 hS ?_
    refine TS.wkB 4 hS ?_
    refine TS.wkB 5 hS ?_
    refine TS.takeV (i:=6) (v:=.int .u64 (q)) rfl (by kernel_rfl) (by kernel_rfl) (by kernel_rfl) (by decide) (fun _ _ _ h=>h) rfl hS ?_ ?_
    focus
     rintro wS ⟨gbS,gdS,rfl⟩
     go_simp
     (try exact eq)
    (try simp only [nS])
    refine TS.wkB 7 hS ?_
    refine TS.one (i:=3) (by kernel_rfl) rfl (fun K1 hK1=>?_)
    go_simp
    go_at_call 153
    refine(U.out _).mono ?_
    rintro e' wA ⟨rfl,bA,dA,rfl⟩
    refine TS.go hK1 (by first|exact⟨_,_,World.grow_grow _ _ _ _ _⟩|exact⟨_,_,rfl⟩) (fun hS=>?_)
    clear hK1 K1
    (try simp only [nS])
    refine TS.one (i:=8) (by kernel_rfl) rfl (fun K1 hK1=>?_)
    go_simp
    go_at_call 147
    refine(Q.out _).mono ?_
    rintro e' wA ⟨rfl,bA,dA,rfl⟩
    refine TS.go hK1 (by first|exact⟨_,_,World.grow_grow _ _ _ _ _⟩|exact⟨_,_,rfl⟩) (fun hS=>?_)
    clear hK1 K1
    (try simp only [nS])
    refine TS.wkB 9 hS ?_
    refine TS.wkB 10 hS ?_
    refine TS.wtB 11 ?_
    refine TS.weB 12 ?_
    clear hS
    go_wp2_with fail
    go_returns
    exact⟨rfl,.of_below belB⟩
 ·have z3:(zh==0)=false:=by simpa using z1
  obtain⟨Q,U,R,G⟩:=hq (.inl z1)
  clear hz hq
  go_enter Tryz.func106,Tryz.ntmps106
  go_wp2_with (first|(go_at_call 85;(with_reducible refine(V1.out _).mono ?_);rintro e w' ⟨rfl,bs,dr,rfl⟩)|(go_at_call 85;(with_reducible refine(V2.out _).mono ?_);rintro e w' ⟨rfl,bs2,dr2,rfl⟩))
  generalize bs++bs2=B
  apply wp_region_made2b 16 (14,6,.cells #[.int .u64 0,.int .u64 0] 211) (15,7,.cells #[.int .u64 0,.int .u64 0] 211) (by kernel_rfl) (by kernel_rfl)
  case hrx=>
   intro o ho ρ w
   obtain rfl:=Option.some.inj ho
   simp [go_sem]
  case hry=>
   intro o ho ρ w
   obtain rfl:=Option.some.inj ho
   simp [go_sem]
  case h1=>
   intro bs d
   simp only [List.take_succ_cons,List.take_zero,List.map_cons,List.map_nil,Oper.mask]
   repeat(go_big_quiet_step ((first|(go_at_call 137;(with_reducible exact Calls.quietMS3 (Z.out _ (by assumption) _)))|(go_at_call 148;first|(with_reducible exact Calls.quietM3 (T1.out _))|(with_reducible exact Calls.quietM3 (T2.out _))))))
   exact wpQuiet_nil rfl
  all_goals
   intro gb1 gd1 gb2 gd2 gb gd
   simp only [List.drop_succ_cons,List.drop_zero,Act.put,List.setIfInBounds_toArray,List.set_cons_zero,List.set_cons_succ,World.grow_grow,World.size_grow,World.size_alloc,Array.size_append]
  all_goals
   clear T1 T2
   go_wp2_with (first|(go_at_call 150;(with_reducible refine(L.out _).mono ?_);rintro e w' ⟨rfl,bs3,dr3,rfl⟩)|(go_at_call 151;(with_reducible refine(O.out _).mono ?_);rintro e w' ⟨rfl,bs4,dr4,rfl⟩))
   clear O L
   refine TS.begin [7] (World.Grows _) (by kernel_rfl) (by kernel_rfl) grows_drew (fun hS=>?_)
   refine TS.wkB 0 hS ?_
   refine TS.wkB 1 hS ?_
   refine TS.takeC (i:=2) (v:=(.int .u64 (absI ad))) (fn:=137) (args:=#[.int .i64 ad]) rfl (by kernel_rfl) (by kernel_rfl) (by kernel_rfl) (by decide) (fun _ _ _ h=>h) rfl hS ?_ ?_ ?_
   focus
    rintro wS ⟨gbS,gdS,rfl⟩
    go_simp
   focus exact fun wS _=>(Z.out _ (by assumption) wS)
   (try simp only [nS])
   refine TS.wkB 3 hS ?_
   refine TS.wkB 4 hS ?_
   refine TS.takeC (i:=5) (v:=(.int .u64 (absI bd))) (fn:=137) (args:=#[.int .i64 bd]) rfl (by kernel_rfl) (by kernel_rfl) (by kernel_rfl) (by decide) (fun _ _ _ h=>h) rfl hS ?_ ?_ ?_
   focus
    rintro wS ⟨gbS,gdS,rfl⟩
    go_simp
   focus exact fun wS _=>(Z.out _ (by assumption) wS)
   (try simp only [nS])
   refine TS.wkB 6 hS ?_
   refine TS.weB 7 ?_
   clear hS
   go_wp2_with (first|(go_at_call 152;(with_reducible refine(R.out _).mono ?_);rintro e w' ⟨rfl,bs5,dr5,rfl⟩)|(go_at_call 136;(with_reducible refine(G.out _).mono ?_);rintro e w' ⟨rfl,bs6,dr6,rfl⟩))
  all_goals
   clear R G
   have gz:¬g=0:=by omega
   refine TS.begin [11,12] (World.Grows _) (by kernel_rfl) (by kernel_rfl) grows_drew (fun hS=>?_)
   refine TS.wkB 0 hS ?_
   refine TS.wkB 1 hS ?_
   refine TS.wkB 2 hS ?_
   refine TS.wkB 4 hS ?_
   refine TS.wkB 5 hS ?_
   refine TS.takeV (i:=6) (v:=.int .u64 (q)) rfl (by kernel_rfl) (by kernel_rfl) (by kernel_rfl) (by decide) (fun _ _ _ h=>h) rfl hS ?_ ?_
   focus
    rintro wS ⟨gbS,gdS,rfl⟩
    go_simp
    (try exact eq)
   (try simp only [nS])
   refine TS.wkB 7 hS ?_
   refine TS.one (i:=3) (by kernel_rfl) rfl (fun K1 hK1=>?_)
   go_simp
   go_at_call 153
   refine(U.out _).mono ?_
   rintro e' wA ⟨rfl,bA,dA,rfl⟩
   refine TS.go hK1 (by first|exact⟨_,_,World.grow_grow _ _ _ _ _⟩|exact⟨_,_,rfl⟩) (fun hS=>?_)
   clear hK1 K1
   (try simp only [nS])
   refine TS.one (i:=8) (by kernel_rfl) rfl (fun K1 hK1=>?_)
   go_simp
   go_at_call 147
   refine(Q.out _).mono ?_
   rintro e' wA ⟨rfl,bA,dA,rfl⟩
   refine TS.go hK1 (by first|exact⟨_,_,World.grow_grow _ _ _ _ _⟩|exact⟨_,_,rfl⟩) (fun hS=>?_)
   clear hK1 K1
   (try simp only [nS])
   refine TS.wkB 9 hS ?_
   refine TS.wkB 10 hS ?_
   refine TS.wtB 11 ?_
   refine TS.weB 12 ?_
   clear hS
   go_wp2_with fail
   go_returns
   exact⟨rfl,.of_below belB⟩
theorem abs_nat(n:Int):absI n=((n.natAbs:Nat):Int):=rfl
theorem cross_bd{an bd:Int}(h1:-1000000000000000≤an)(h2:an≤1000000000000000)(h3:1≤bd)(h4:bd≤1000000000):an.natAbs*bd.natAbs≤1000000000000000000000000:=
 Nat.le_trans (Nat.mul_le_mul (show an.natAbs≤1000000000000000 by omega) (show bd.natAbs≤1000000000 by omega)) (by decide)
theorem dens_bd{ad bd:Int}(h1:1≤ad)(h2:ad≤1000000000)(h3:1≤bd)(h4:bd≤1000000000):0<ad.natAbs*bd.natAbs∧ad.natAbs*bd.natAbs≤1000000000000000000:=
 ⟨Nat.mul_pos (by omega) (by omega),Nat.le_trans (Nat.mul_le_mul (show ad.natAbs≤1000000000 by omega) (show bd.natAbs≤1000000000 by omega)) (by decide)⟩
theorem hiW_small{n:Nat}(h:n<18446744073709551616):hiW n=0:=by unfold hiW;omega
theorem loW_small{n:Nat}(h:n<18446744073709551616):loW n=(n:Int):=by unfold loW;omega
def addV(neg:Bool)(N D:Nat):Int × Int × Int:=(lowN neg N D,lowD N D,lowE N D)
theorem addV_neg{b c:Bool}{N D:Nat}(h:N=0∨b=c):addV b N D=addV c N D:=by unfold addV;rw [lowN_neg h]
theorem low_wit(neg:Bool)(N D:Nat)(hD:D≤1000000000000000000):witV neg (hiW (N / Nat.gcd N D)) (loW (N / Nat.gcd N D)) 0 ((D / Nat.gcd N D:Nat):Int)=frV (addV neg N D):=by
 have h:=frV_wit neg (N / Nat.gcd N D) (D / Nat.gcd N D)
 have h2:D / Nat.gcd N D≤D:=Nat.div_le_self _ _
 have e1:hiW (D / Nat.gcd N D)=0:=hiW_small (by omega)
 have e2:loW (D / Nat.gcd N D)=((D / Nat.gcd N D:Nat):Int):=loW_small (by omega)
 rw [e1,e2]at h
 rw [h]
 unfold addV lowN lowD lowE
 split<;>rfl
theorem den_wrap{ad bd:Int}{D:Nat}(h:ad.natAbs*bd.natAbs=D)(hD:D≤1000000000000000000):IntKind.u64.wrap (absI ad*absI bd)=(D:Int):=by
 have e:absI ad*absI bd=(D:Int):=by rw [abs_nat,abs_nat,←Int.natCast_mul,h]
 rw [e];exact IntWalk.u64_in _ (by omega)
theorem rest2(neg:Bool)(N D:Nat)(hN:N≤1000000000000000000000000000)(hD0:0<D)(hD:D≤1000000000000000000) :
 (hiW N=0→loW N=0→addV neg N D=(0,1,0))∧
 (∀w,Calls Tryz.prog 147 #[.bool neg,.agg #[.int .u64 (hiW (N / Nat.gcd N D)),.int .u64 (loW (N / Nat.gcd N D))],.agg #[.int .u64 0,.int .u64 (D / Nat.gcd N D:Nat)]] w fun e w'=>e= .returned (frV (addV neg N D))∧w.Grows w')∧
 (∀w,Calls Tryz.prog 153 #[.agg #[.int .u64 (hiW N),.int .u64 (loW N)],.int .u64 (Nat.gcd N D:Nat)] w fun e w'=>e= .returned (.agg #[.int .u64 (hiW (N / Nat.gcd N D)),.int .u64 (loW (N / Nat.gcd N D))])∧w.Grows w')∧
 (∀w,Calls Tryz.prog 152 #[.int .u64 (hiW N),.int .u64 (loW N),.int .u64 (D:Nat)] w fun e w'=>e= .returned (.int .u64 (remI N D))∧w.Grows w')∧
 (∀w,Calls Tryz.prog 136 #[.int .u64 (D:Nat),.int .u64 (remI N D)] w fun e w'=>e= .returned (.int .u64 (Nat.gcd N D:Nat))∧w.Grows w'):=by
 have hg:0<Nat.gcd N D:=Nat.gcd_pos_of_pos_right _ hD0
 have hgd:Nat.gcd N D≤D:=Nat.gcd_le_right _ hD0
 have hr:=remI_bd N D hD0
 refine⟨fun h1 h2=>?_,fun w=>?_,fun w=>?_,fun w=>?_,fun w=>?_⟩
 ·have:N=0:=by unfold hiW at h1;unfold loW at h2;omega
  subst this
  unfold addV lowN lowD lowE
  rw [Nat.gcd_zero_left,Nat.div_self hD0,Nat.zero_div]
  simp
 ·rw [←low_wit neg N D hD]
  exact within2_any _ _ _ _ _ w (loW_bd _).1 (Int.natCast_nonneg _)
 ·exact over2_any N (Nat.gcd N D) w (by omega) (by omega) hg
 ·exact Rem64_any N D w (by omega) (by omega) hD0
 ·have:=gcd2_any (D:Nat) (remI N D) w (by omega) (by omega) (by omega) (by omega)
  rw [gcd_rest N D hD0]at this
  exact Calls.quietD this
theorem Add2_any(an ad bn bd:Int)(w:World)(hi:I64x4 an ad bn bd):Calls Tryz.prog 106 #[.agg #[.int .i64 an,.int .i64 ad],.agg #[.int .i64 bn,.int .i64 bd]] w fun e w'=>e= .returned (frV (addF an ad bn bd))∧w.Grows w':=by
 obtain⟨i1,i2,i3,i4⟩:=hi
 have V1:=Lib.hid (fun w=>Valid2_any an ad w i1.1 i1.2 i2.1 i2.2)
 have V2:=Lib.hid (fun w=>Valid2_any bn bd w i3.1 i3.2 i4.1 i4.2)
 by_cases hv:(vfrac an ad&&vfrac bn bd)=true
 case neg=>
  have e:addF an ad bn bd=(0,0,1):=by unfold addF;rw [if_neg hv]
  rw [e]
  exact add2_no an ad bn bd _ _ w (Bool.eq_false_iff.2 hv) V1 V2
 have hva:=(Bool.and_eq_true_iff.1 hv).1
 have hvb:=(Bool.and_eq_true_iff.1 hv).2
 have e:addF an ad bn bd=addV (decide (addS an ad bn bd<0)) (addS an ad bn bd).natAbs (ad.natAbs*bd.natAbs):=by unfold addF;rw [if_pos hv];try rfl
 rw [e]
 rw [hva]at V1
 rw [hvb]at V2
 have b1:=vfrac_bd hva
 have b2:=vfrac_bd hvb
 have hD:=dens_bd b1.1 b1.2.1 b2.1 b2.2.1
 have c1:=cross_bd (an:=an) (bd:=bd) b1.2.2.1 b1.2.2.2 b2.1 b2.2.1
 have c2:=cross_bd (an:=bn) (bd:=ad) b2.2.2.1 b2.2.2.2 b1.1 b1.2.1
 have Z:Hid _:=Lib.hid (fun n (h:I64 n) w=>size2_any n w h.1 h.2)
 have T1:Hid _:=Lib.hid (fun w=>times_abs times2_any i1 i4 w)
 have T2:Hid _:=Lib.hid (fun w=>times_abs times2_any i3 i2 w)
 have hg (N:Nat):0<Nat.gcd N (ad.natAbs*bd.natAbs)∧Nat.gcd N (ad.natAbs*bd.natAbs)≤ad.natAbs*bd.natAbs:=⟨Nat.gcd_pos_of_pos_right _ hD.1,Nat.gcd_le_right _ hD.1⟩
 have hq (N:Nat):IntKind.u64.wrap ((((ad.natAbs*bd.natAbs:Nat):Int)).tdiv (Nat.gcd N (ad.natAbs*bd.natAbs):Nat))=((ad.natAbs*bd.natAbs / Nat.gcd N (ad.natAbs*bd.natAbs):Nat):Int):=by
  have:=(hg N).1
  rw [quo_u64 (by omega) (by omega) (by omega),ediv_nat]
 have key (neg:Bool) (N:Nat) (hN:N≤2000000000000000000000000):=rest2 neg N (ad.natAbs*bd.natAbs) (by omega) hD.1 hD.2
 have tr {a b:Int × Int × Int} (h:a=b):a.1=b.1∧a.2.1=b.2.1∧a.2.2=b.2.2:=by rw [h];exact⟨rfl,rfl,rfl⟩
 by_cases hs:decide (an<0)=decide (bn<0)
 ·obtain⟨e1,e2⟩:=add_same b1.1 b2.1 hs
  rw [addV_neg e2,e1]
  obtain⟨k1,k2,k3,k4,k5⟩:=key (decide (an<0)) (an.natAbs*bd.natAbs+bn.natAbs*ad.natAbs) (by omega)
  have g1:=hg (an.natAbs*bd.natAbs+bn.natAbs*ad.natAbs)
  exact add2_same an ad bn bd _ _ _ _ _ _ _ _ _ _ _ _ _ _ _ _ _ w rfl rfl (by rw [hs];simp) V1 V2 Z i1 i2 i3 i4 T1 T2 (den_wrap rfl hD.2) (by omega) (by simp;omega) (hq _)
   (fun w=>plus2_any _ _ w (by omega)) (fun h1 h2=>tr (k1 h1 h2)) (fun _=>⟨k2,k3,k4,k5⟩)
 ·obtain⟨f1,f2⟩:=add_diff b1.1 b2.1 hs
  have L:=fun w=>less2_any (hiW (an.natAbs*bd.natAbs)) (loW (an.natAbs*bd.natAbs)) (hiW (bn.natAbs*ad.natAbs)) (loW (bn.natAbs*ad.natAbs)) w
  rw [wless_nat]at L
  by_cases hl:an.natAbs*bd.natAbs<bn.natAbs*ad.natAbs
  ·obtain⟨e1,e2⟩:=f1 hl
   rw [addV_neg e2,e1]
   rw [decide_eq_true hl]at L
   obtain⟨k1,k2,k3,k4,k5⟩:=key (!decide (an<0)) (bn.natAbs*ad.natAbs-an.natAbs*bd.natAbs) (by omega)
   have hnn:decide (bn<0)=!decide (an<0):=by
    revert hs;cases decide (an<0)<;>cases decide (bn<0)<;>simp
   have g1:=hg (bn.natAbs*ad.natAbs-an.natAbs*bd.natAbs)
   rw [hnn]
   exact add2_less an ad bn bd _ _ _ _ _ _ _ _ _ _ _ _ _ _ _ _ _ w rfl rfl (by simpa using hs) V1 V2 Z i1 i2 i3 i4 T1 T2 (den_wrap rfl hD.2) (by omega) (by simp;omega) (hq _)
    L (fun w=>minus2_any _ _ w (by omega) (by omega)) (fun h1 h2=>tr (k1 h1 h2)) (fun _=>⟨k2,k3,k4,k5⟩)
  ·obtain⟨e1,e2⟩:=f2 (by omega)
   rw [addV_neg e2,e1]
   rw [decide_eq_false hl]at L
   obtain⟨k1,k2,k3,k4,k5⟩:=key (decide (an<0)) (an.natAbs*bd.natAbs-bn.natAbs*ad.natAbs) (by omega)
   have g1:=hg (an.natAbs*bd.natAbs-bn.natAbs*ad.natAbs)
   exact add2_more an ad bn bd _ _ _ _ _ _ _ _ _ _ _ _ _ _ _ _ _ w rfl rfl (by simpa using hs) V1 V2 Z i1 i2 i3 i4 T1 T2 (den_wrap rfl hD.2) (by omega) (by simp;omega) (hq _)
    L (fun w=>minus2_any _ _ w (by omega) (by omega)) (fun h1 h2=>tr (k1 h1 h2)) (fun _=>⟨k2,k3,k4,k5⟩)
def vwV(v:Vw)(y:Value):Value:=.agg #[.int .i64 v.age,.int .i64 v.year,.int .i64 v.children,.int .i64 v.insured,.int .i64 v.worked,.int .i64 v.voluntary,.int .i64 v.service,.int .i64 v.equated,.int .i64 v.raising,.int .i64 v.resident,.int .i64 v.bn,.int .i64 v.bd,y]
structure VwRng(v:Vw):Prop where
 base:I64 v.bn∧I64 v.bd
def Vw.ds(v:Vw):List Int:=[v.insured,v.worked,v.voluntary,v.service,v.equated,v.raising,v.resident]
def Vw.rngB(v:Vw):Bool:=decide (0≤v.age∧v.age≤199∧1900≤v.year∧v.year≤2099∧0≤v.children∧v.children≤99)
def Vw.baseB(v:Vw):Bool:=vfrac v.bn v.bd&&decide (0≤v.bn∧v.bn≤1000000000000*v.bd)
theorem Vw.ok_split(v:Vw):v.ok=(v.rngB&&(v.ds.all daysOk)&&v.baseB&&yearsOk v.years):=by
 unfold Vw.ok Vw.rngB Vw.baseB Vw.ds
 simp [Bool.and_assoc]
theorem ds_bad{v:Vw}{k:Nat}(hk:k<7)(hb:daysOk (v.ds.getD k 0)=false):v.ok=false:=by
 rw [Vw.ok_split]
 have:v.ds.all daysOk=false:=by
  rw [List.all_eq_false]
  refine⟨v.ds.getD k 0, ?_,by rw [hb];simp⟩
  rw [List.getD_eq_getElem?_getD,List.getElem?_eq_getElem (show k<v.ds.length from hk)]
  exact List.getElem_mem _
 rw [this];simp
theorem ds_good{v:Vw}(hg:∀k,k<7→daysOk (v.ds.getD k 0)=true):v.ds.all daysOk=true:=by
 rw [List.all_eq_true]
 intro x hx
 obtain⟨k,hk,rfl⟩:=List.mem_iff_getElem.1 hx
 have:=hg k hk
 rwa [List.getD_eq_getElem?_getD,List.getElem?_eq_getElem hk]at this
theorem rng_bad{v:Vw}(h:¬(0≤v.age∧v.age≤199∧1900≤v.year∧v.year≤2099∧0≤v.children∧v.children≤99)):v.ok=false:=by
 rw [Vw.ok_split]
 unfold Vw.rngB
 rw [decide_eq_false h];simp
theorem vv2_rng(v:Vw)(y:Value)(w:World)(hy:∃a n c,y= .slice a n c)(h:¬(0≤v.age∧v.age≤199∧1900≤v.year∧v.year≤2099∧0≤v.children∧v.children≤99)):(Calls Tryz.prog 48 #[vwV v y] w fun r w'=>r= .returned (.bool v.ok)∧w.Grows w'):=by
 have HF:=Lib.hid (rng_bad h)
 by_cases c1:v.age<0
 ·exact fz11
 by_cases c2:v.age > 199
 ·exact fz11
 by_cases c3:v.year<1900
 ·exact fz11
 by_cases c4:v.year > 2099
 ·exact fz11
 by_cases c5:v.children<0
 ·exact fz11
 have c6:v.children > 99:=by omega
 exact fz11
theorem idx7(x0 x1 x2 x3 x4 x5 x6:Int)(k:Nat)(hk:k<7)(w:World):(Instr.index 103 (.agg #[.int .i64 x0,.int .i64 x1,.int .i64 x2,.int .i64 x3,.int .i64 x4,.int .i64 x5,.int .i64 x6]) (.int .i64 (k:Int))).run Tryz.prog w= .ok (.int .i64 ([x0,x1,x2,x3,x4,x5,x6].getD k 0)) w:=by
 rcases(show k=0∨k=1∨k=2∨k=3∨k=4∨k=5∨k=6 by omega)with rfl|rfl|rfl|rfl|rfl|rfl|rfl<;>simp [Instr.index,go_sem]
theorem base_eq{n d:Int}(h:vfrac n d=true)(hn:0≤n):decide (n≤1000000000000*d)=(decide (n.tdiv d≤1000000000000)&&(decide (n.tdiv d<1000000000000) || decide (n.tmod d=0))):=by
 have hd:0<d:=by have:=vfrac_bd h;omega
 rw [Int.tdiv_eq_ediv_of_nonneg hn,Int.tmod_eq_emod_of_nonneg hn]
 have e:=Int.mul_ediv_add_emod n d
 have r0:=Int.emod_nonneg n (show d≠0 by omega)
 have r1:=Int.emod_lt_of_pos n hd
 generalize n / d=q at *
 generalize n % d=r at *
 by_cases c1:q<1000000000000
 ·have h1:d*q≤d*999999999999:=Int.mul_le_mul_of_nonneg_left (by omega) (by omega)
  rw [decide_eq_true c1,decide_eq_true (show q≤1000000000000 by omega),decide_eq_true (show n≤1000000000000*d by omega)];rfl
 ·rw [decide_eq_false c1,Bool.false_or]
  by_cases c2:q≤1000000000000
  ·obtain rfl:q=1000000000000:=by omega
   rw [decide_eq_true c2,Bool.true_and]
   by_cases c3:r=0
   ·rw [decide_eq_true c3,decide_eq_true (by omega)]
   ·rw [decide_eq_false c3,decide_eq_false (by omega)]
  ·have h1:d*1000000000001≤d*q:=Int.mul_le_mul_of_nonneg_left (by omega) (by omega)
   rw [decide_eq_false c2,Bool.false_and,decide_eq_false (by omega)]
theorem vv2_yrs(v:Vw)(y:Value)(w:World)(hy:YrAt w y v.years)(h:0≤v.age∧v.age≤199∧1900≤v.year∧v.year≤2099∧0≤v.children∧v.children≤99)(hyo:yearsOk v.years=false):(Calls Tryz.prog 48 #[vwV v y] w fun r w'=>r= .returned (.bool v.ok)∧w.Grows w'):=by
 have HF:Hid (v.ok=false):=Lib.hid (by rw [Vw.ok_split,hyo,Bool.and_false])
 have HY:=Lib.hid hy
 have HYR:=Lib.hid (fun w' (hg:w.Grows w')=>validYears_any v.years y w' (HY.out.grows hg))
 rw [hyo]at HYR
 obtain⟨-,a,c,rfl,-⟩:=hy
 obtain⟨h1,h2,h3,h4,h5,h6⟩:=h
 clear hyo
 unfold vwV
 go_enter Tryz.func48,Tryz.ntmps48
 go_wp2_with (go_at_call 99;refine(HYR.out _ (.of_below belB)).mono ?_;rintro e' w' ⟨rfl,bs,d,rfl⟩)
 go_returns
 exact⟨ret_bool HF.out.symm,.of_below belB⟩
theorem vv2_in(v:Vw)(y:Value)(w:World)(hr:VwRng v)(hy:YrAt w y v.years)(h:0≤v.age∧v.age≤199∧1900≤v.year∧v.year≤2099∧0≤v.children∧v.children≤99)(hyo:yearsOk v.years=true):(Calls Tryz.prog 48 #[vwV v y] w fun r w'=>r= .returned (.bool v.ok)∧w.Grows w'):=by
 have HY:=Lib.hid hy
 have HB:Hid (∀k,k<7→daysOk (v.ds.getD k 0)=false→v.ok=false):=Lib.hid (fun k hk hb=>ds_bad hk hb)
 have HG:Hid ((∀k,k<7→daysOk (v.ds.getD k 0)=true)→v.ok=v.baseB):=Lib.hid (fun hg=>by
  rw [Vw.ok_split,ds_good hg,hyo];unfold Vw.rngB;rw [decide_eq_true h];simp)
 have HYR:=Lib.hid (fun w' (hg:w.Grows w')=>validYears_any v.years y w' (HY.out.grows hg))
 rw [hyo]at HYR
 have HV:=Lib.hid (fun w=>Valid2_any v.bn v.bd w hr.base.1.1 hr.base.1.2 hr.base.2.1 hr.base.2.2)
 obtain⟨-,a,c,rfl,-⟩:=hy
 obtain⟨h1,h2,h3,h4,h5,h6⟩:=h
 have HI:=Lib.hid hr.base
 have HIX:=Lib.hid (idx7 v.insured v.worked v.voluntary v.service v.equated v.raising v.resident)
 clear hr hyo
 unfold vwV
 go_enter Tryz.func48,Tryz.ntmps48
 go_wp2_with ((first|(go_at_call 99;refine(HYR.out _ (.of_below (by(repeat' (first|(with_reducible exact Below.refl _ _)|(with_reducible assumption)|(with_reducible refine Below.grow ?_ ?_ _ _)|(with_reducible refine Below.alloc ?_ ?_ _)|(with_reducible refine Below.drewN ?_ _)|(with_reducible refine Below.drew ?_)|(with_reducible refine Below.setCell ?_ ?_ _)|go_size))))).mono ?_;rintro e' w' ⟨rfl,bs,d,rfl⟩)|(go_at_call 85;refine(HV.out _).mono ?_;rintro e' w' ⟨rfl,bs3,d3,rfl⟩)))
 obtain⟨W,hW⟩:∃W,(w.alloc (.cells #[.int .i64 v.age,.int .i64 v.year,.int .i64 v.children,.int .i64 v.insured,.int .i64 v.worked,.int .i64 v.voluntary,.int .i64 v.service,.int .i64 v.equated,.int .i64 v.raising,.int .i64 v.resident,.int .i64 v.bn,.int .i64 v.bd,.slice a v.years.length c] 41)).grow bs d=W:=⟨_,rfl⟩
 have hg:w.Grows W:=by rw [←hW];exact .of_below belB
 have b0:W.cell? ⟨w.heap.size,10,none⟩=some (.int .i64 v.bn):=by rw [←hW];simp [go_sem]
 have b1:W.cell? ⟨w.heap.size,11,none⟩=some (.int .i64 v.bd):=by rw [←hW];simp [go_sem]
 have hsz:w.heap.size<W.heap.size:=by rw [←hW];simp;omega
 rw [hW]
 clear hW
 have HG2:=Lib.hid hg
 clear hg
 go_loopw [54] (fun v54 wr=>∃k:Nat,k≤7∧v54= .int .i64 k∧Hid (∀j,j<k→daysOk (v.ds.getD j 0)=true)∧W=wr) (fun v54 _=>7-(intOf v54).toNat)
 case atStart=>exact⟨0,by omega,rfl,Lib.hid (fun j hj=>by omega),rfl⟩
 case round=>
  obtain⟨k,hk,rfl,hno,rfl⟩:=hrel
  by_cases hlt:k<7
  ·have x0:=HIX.out k hlt W
   have d1:(k:Int)<7:=by omega
   have HKL:=Lib.hid hlt
   clear hlt
   obtain⟨dk,hdk⟩:∃dk,v.ds.getD k 0=dk:=⟨_,rfl⟩
   unfold Vw.ds at hdk
   rw [hdk]at x0
   have HDK:Hid (v.ds.getD k 0=dk):=Lib.hid hdk
   clear hdk
   have HBD:Hid (¬(0≤dk∧dk≤73049)→v.ok=false):=Lib.hid (fun h=>HB.out k HKL.out (by rw [HDK.out];unfold daysOk;exact decide_eq_false h))
   by_cases q1:dk<0
   ·exact fz55
   ·by_cases q2:dk > 73049
    ·exact fz55
    ·go_wp2_with fail
     go_roundw
     case rel=>exact⟨k+1,HKL.out,by go_num,Lib.hid (fun j hj=>by
      by_cases ej:j=k
      ·subst ej;rw [HDK.out];unfold daysOk;exact decide_eq_true (by omega)
      ·exact hno.out j (by omega)),(by first|rfl|trivial)⟩
     case measure=>simp [intOf];have:=HKL.out;omega
  ·obtain rfl:k=7:=by omega
   have HF:=Lib.hid (HG.out hno.out)
   unfold Vw.baseB at HF
   cases hq:vfrac v.bn v.bd with
   |false=>
    rw [hq]at HF HV
    have HF2:Hid (v.ok=false):=Lib.hid (by rw [HF.out];rfl)
    clear hq
    go_wp2_with ((first|(go_at_call 99;refine(HYR.out _ (.of_below (by(repeat' (first|(with_reducible exact Below.refl _ _)|(with_reducible assumption)|(with_reducible refine Below.grow ?_ ?_ _ _)|(with_reducible refine Below.alloc ?_ ?_ _)|(with_reducible refine Below.drewN ?_ _)|(with_reducible refine Below.drew ?_)|(with_reducible refine Below.setCell ?_ ?_ _)|go_size))))).mono ?_;rintro e' w' ⟨rfl,bs,d,rfl⟩)|(go_at_call 85;refine(HV.out _).mono ?_;rintro e' w' ⟨rfl,bs3,d3,rfl⟩)))
    go_returns
    exact⟨ret_bool (by rw [HF2.out];try exact decide_eq_false (by omega)),World.Grows.trans HG2.out (.of_below belB)⟩
   |true=>
    have HBE:=Lib.hid (fun hn=>base_eq hq hn)
    have hbd:=vfrac_bd hq
    have hd0:v.bd≠0:=by omega
    rw [hq]at HF HV
    clear hq
    by_cases g2:v.bn≥0
    ·have HF3:Hid (v.ok=(decide (v.bn.tdiv v.bd≤1000000000000)&&(decide (v.bn.tdiv v.bd<1000000000000) || decide (v.bn.tmod v.bd=0)))):=Lib.hid (by
      rw [HF.out,←HBE.out g2,Bool.true_and]
      simp [g2])
     have t1:=Int.tdiv_eq_ediv_of_nonneg (b:=v.bd) g2
     have t2:=Int.tmod_eq_emod_of_nonneg (b:=v.bd) g2
     have hb0:v.bn≤1000000000000000:=by omega
     have u1:0≤v.bn / v.bd:=Int.ediv_nonneg g2 (by omega)
     have u2:v.bn / v.bd≤1000000000000000:=Int.le_trans (Int.ediv_le_self v.bd g2) hb0
     have u3:=Int.emod_nonneg v.bn hd0
     have u4:=Int.emod_lt_of_pos v.bn (show 0<v.bd by omega)
     have e1:IntKind.i64.wrap (v.bn.tdiv v.bd)=v.bn.tdiv v.bd:=IntWalk.i64_in _ (by rw [t1];omega)
     have e2:IntKind.i64.wrap (v.bn.tmod v.bd)=v.bn.tmod v.bd:=IntWalk.i64_in _ (by rw [t2];omega)
     have e3:IntKind.i64.wrap (v.bn / v.bd)=v.bn / v.bd:=IntWalk.i64_in _ (by omega)
     have e4:IntKind.i64.wrap (v.bn % v.bd)=v.bn % v.bd:=IntWalk.i64_in _ (by omega)
     rw [t1,t2]at HF3
     by_cases c1:v.bn / v.bd<1000000000000
     ·have c2:v.bn / v.bd≤1000000000000:=by omega
      have HF2:Hid (v.ok=true):=Lib.hid (by rw [HF3.out,decide_eq_true c1,decide_eq_true c2];rfl)
      go_wp2_with ((first|(go_at_call 99;refine(HYR.out _ (.of_below (by(repeat' (first|(with_reducible exact Below.refl _ _)|(with_reducible assumption)|(with_reducible refine Below.grow ?_ ?_ _ _)|(with_reducible refine Below.alloc ?_ ?_ _)|(with_reducible refine Below.drewN ?_ _)|(with_reducible refine Below.drew ?_)|(with_reducible refine Below.setCell ?_ ?_ _)|go_size))))).mono ?_;rintro e' w' ⟨rfl,bs,d,rfl⟩)|(go_at_call 85;refine(HV.out _).mono ?_;rintro e' w' ⟨rfl,bs3,d3,rfl⟩)))
      go_returns
      exact⟨ret_bool (by rw [HF2.out];try exact decide_eq_false (by omega)),World.Grows.trans HG2.out (.of_below belB)⟩
     ·by_cases c2:v.bn / v.bd≤1000000000000
      ·by_cases c3:v.bn % v.bd=0
       focus
        have HF2:Hid (v.ok=true):=Lib.hid (by rw [HF3.out,decide_eq_true c3,decide_eq_true c2,Bool.or_true];rfl)
       rotate_left
       focus
        have c4:(v.bn % v.bd==0)=false:=by simpa using c3
        have HF2:Hid (v.ok=false):=Lib.hid (by rw [HF3.out,decide_eq_false c3,decide_eq_false c1];simp)
       rotate_left
       all_goals
        go_wp2_with ((first|(go_at_call 99;refine(HYR.out _ (.of_below (by(repeat' (first|(with_reducible exact Below.refl _ _)|(with_reducible assumption)|(with_reducible refine Below.grow ?_ ?_ _ _)|(with_reducible refine Below.alloc ?_ ?_ _)|(with_reducible refine Below.drewN ?_ _)|(with_reducible refine Below.drew ?_)|(with_reducible refine Below.setCell ?_ ?_ _)|go_size))))).mono ?_;rintro e' w' ⟨rfl,bs,d,rfl⟩)|(go_at_call 85;refine(HV.out _).mono ?_;rintro e' w' ⟨rfl,bs3,d3,rfl⟩)))
        go_returns
        exact⟨ret_bool (by rw [HF2.out];try exact decide_eq_false (by omega)),World.Grows.trans HG2.out (.of_below belB)⟩
      ·have HF2:Hid (v.ok=false):=Lib.hid (by rw [HF3.out,decide_eq_false c2];rfl)
       go_wp2_with ((first|(go_at_call 99;refine(HYR.out _ (.of_below (by(repeat' (first|(with_reducible exact Below.refl _ _)|(with_reducible assumption)|(with_reducible refine Below.grow ?_ ?_ _ _)|(with_reducible refine Below.alloc ?_ ?_ _)|(with_reducible refine Below.drewN ?_ _)|(with_reducible refine Below.drew ?_)|(with_reducible refine Below.setCell ?_ ?_ _)|go_size))))).mono ?_;rintro e' w' ⟨rfl,bs,d,rfl⟩)|(go_at_call 85;refine(HV.out _).mono ?_;rintro e' w' ⟨rfl,bs3,d3,rfl⟩)))
       go_returns
       exact⟨ret_bool (by rw [HF2.out];try exact decide_eq_false (by omega)),World.Grows.trans HG2.out (.of_below belB)⟩
    ·have HF2:Hid (v.ok=false):=Lib.hid (by rw [HF.out,decide_eq_false (fun h=>g2 h.1)];rfl)
     go_wp2_with ((first|(go_at_call 99;refine(HYR.out _ (.of_below (by(repeat' (first|(with_reducible exact Below.refl _ _)|(with_reducible assumption)|(with_reducible refine Below.grow ?_ ?_ _ _)|(with_reducible refine Below.alloc ?_ ?_ _)|(with_reducible refine Below.drewN ?_ _)|(with_reducible refine Below.drew ?_)|(with_reducible refine Below.setCell ?_ ?_ _)|go_size))))).mono ?_;rintro e' w' ⟨rfl,bs,d,rfl⟩)|(go_at_call 85;refine(HV.out _).mono ?_;rintro e' w' ⟨rfl,bs3,d3,rfl⟩)))
     go_returns
     exact⟨ret_bool (by rw [HF2.out];try exact decide_eq_false (by omega)),World.Grows.trans HG2.out (.of_below belB)⟩
theorem ValidView2_any(v:Vw)(y:Value)(w:World)(hr:VwRng v)(hy:YrAt w y v.years):(Calls Tryz.prog 48 #[vwV v y] w fun r w'=>r= .returned (.bool v.ok)∧w.Grows w'):=by
 by_cases h:0≤v.age∧v.age≤199∧1900≤v.year∧v.year≤2099∧0≤v.children∧v.children≤99
 ·by_cases hyo:yearsOk v.years=true
  ·exact vv2_in v y w hr hy h hyo
  ·exact vv2_yrs v y w hy h (by simpa using hyo)
 ·obtain⟨-,a,c,rfl,-⟩:=hy
  exact vv2_rng v _ w ⟨_,_,_,rfl⟩ h
end Go.Proofs.YtaghhncnicbedaaGreatDoor
namespace Go.Proofs.YtaghhncnicbedaaGreatDoor
open Go.ChangeShapes Go.WideShapes Go.ChangeAt Go.RowKit
abbrev laidsX:List (String × DataW Unit):=[("math/bits.deBruijn32tab",Rows.laid_math_bits_deBruijn32tab),("math/bits.deBruijn64tab",Rows.laid_math_bits_deBruijn64tab),("internal/strconv.uint64pow10",Rows.laid_internal_strconv_uint64pow10)]
theorem pow10_data:(Rows.laid_internal_strconv_uint64pow10:DataW Unit)=Lib.tabData .u64 Lib.pow10Tab:=by kernel_rfl
theorem laids_plain{W:World}(h:laidMetH Tryz.prog laidsX W):laidMet Tryz.prog laidsX W:=by
 rwa [MakeChecks.laidMetH_plain _ _ _ (by kernel_rfl)]at h
theorem below_trodAll{H:Type}{enc:TypeId × Value→H}{P:Program}{W W':World}(hl:laidOutB P=true)(hb:Below W.heap.size W W'):∀(ts:List TypeId) (vs:List Value) (ds:List (DataW H)) (ps:List MemPlace),(∀t∈ts,P.readableRec t=true∧t<P.types.size)→
 DataW.TrodAll enc P W 0 (fun _=>true) true ts vs ds ps→(∀x∈ps,x.block<W.heap.size)→DataW.TrodAll enc P W' 0 (fun b=>decide (b<W.heap.size)) true ts vs ds ps
 | [],[],[],_,_,h,_=>h
 |t::ts,v::vs,d::ds,ps,hr,h,hlt=>by
  obtain⟨p,q,h1,h2,rfl⟩:=h
  exact⟨p,q,Below.trod hl (hr t List.mem_cons_self).1 (hr t List.mem_cons_self).2 h1 hb fun x hx=>hlt x (List.mem_append_left _ hx),
   below_trodAll hl hb ts vs ds q (fun t ht=>hr t (List.mem_cons_of_mem _ ht)) h2 fun x hx=>hlt x (List.mem_append_right _ hx),rfl⟩
 | [],_::_,_,_,_,h,_=>h.elim
 | [],[],_::_,_,_,h,_=>h.elim
 |_::_,[],_,_,_,h,_=>h.elim
 |_::_,_::_,[],_,_,h,_=>h.elim
def LawWalk{H:Type}(enc:TypeId × Value→H)(P:Program)(f:FuncId)(ts:List TypeId):Prop:=
 ∀(W:World) (base:Nat) (args:Array Value) (ds:List (DataW H)) (p:List MemPlace),laidMetH P laidsX W→(∀(j:Nat) t v,ts[j]? =some t→args[j]? =some v→Value.okWide P W .any base t v)→
  DataW.TrodAll enc P W 0 (fun _=>true) true ts args.toList ds p→(∀(j:Nat) t d,ts[j]? =some t→ds[j]? =some d→fits P t d)→
  Calls P f args W fun e W'=>e= .returned (.bool true)∧Below W.heap.size W W'
theorem law_post{H:Type}{enc:TypeId × Value→H}{P:Program}{fn:Func}{s:ChangeSpec}{W W':World}{args:Array Value}{ds gs:List (DataW H)}{before:List MemPlace}(hl:laidOutB P=true)
 (hr:fn.params.toList.all (fun t=>P.readableRec t&&decide (t<P.types.size))=true) (hres:fn.resultTypes=#[4]) (hu:P.underlying 4=some .bool) (hvars:s.vars= [])
 (hspec:∀ds:List (DataW H),ds.length=fn.params.size→s.fn H (ds++[])= {results:=[.lit (.bool true)],args:=ds})
 (hW:DataW.Whole enc P fn.params.toList s.vars false W args.toList ds gs before) (hb:Below W.heap.size W W'):s.post enc P fn false true false false W args (.bool true) W':=by
 have hW':=hW
 obtain⟨p,q,hA,hV,rfl,hfz,hnd⟩:=hW
 rw [hvars]at hV
 obtain⟨rfl,rfl⟩:=trodVars_none hV
 have hlen:∀(ts:List TypeId) (vs:List Value) (ds:List (DataW H)) (ps:List MemPlace),DataW.TrodAll enc P W 0 (fun _=>true) true ts vs ds ps→ds.length=ts.length:=by
  intro ts
  induction ts with
  |nil=>intro vs ds ps h;cases vs<;>cases ds<;>simp_all [DataW.TrodAll]
  |cons t ts ih=>
   intro vs ds ps h
   cases vs with
   |nil=>exact h.elim
   |cons v vs=>
    cases ds with
    |nil=>exact h.elim
    |cons d ds=>
     obtain⟨_,_,_,h2,_⟩:=h
     simp [ih _ _ _ h2]
 have hds:ds.length=fn.params.size:=by rw [hlen _ _ _ _ hA];simp
 have hs:=hspec ds hds
 have hlt:∀x∈p,x.block<W.heap.size:=fun x hx=>by have:=hW'.lt x (by simpa using hx);simpa using this
 refine⟨ds,[],p++[],[],p,[],hW', ?_, ?_, ?_,hb.frame _,fun h=>by cases h⟩
 ·rw [hs,hres]
  exact trodAll_mk1 (shut_bool hu _)
 ·rw [hs]
  refine below_trodAll hl hb _ _ _ _ (fun t ht=>?_) hA hlt
  have:=List.all_eq_true.1 hr t ht
  simpa using this
 ·rw [hs,hvars];rfl
theorem law_lift{H:Type}{enc:TypeId × Value→H}{C:Checked}{os:Os}{f:FuncId}{fn:Func}{s:ChangeSpec}{conds:List PathCond}(own:ownKnob C.prog.godebug=none)(started:os.Started)(noInit:C.prog.inits.idxOf? f=none)(hfn:C.prog.funcs[f]? =some fn)
 (witness:∃(w:World) (tape:Tape) (i:Input),w.os=os∧(w.forCall tape i).Shaped C.prog∧i.vars= []∧Input.okWide C.prog (w.forCall tape i) .any w.heap.size f i∧
  ((s.pre enc C.prog fn conds false (w.forCall tape i).memory i.args∧laidMetH C.prog laidsX (w.forCall tape i).memory)∧sizedMet enc C.prog fn (OpenSpec.ofChange s) false (w.forCall tape i).memory i.args)∧({}:Assume).holds C.prog (lone (Frame.enter C.prog f i.args .normal) [] (w.forCall tape i)))
 (hl:laidOutB C.prog=true) (hr:fn.params.toList.all (fun t=>C.prog.readableRec t&&decide (t<C.prog.types.size))=true) (hres:fn.resultTypes=#[4]) (hu:C.prog.underlying 4=some .bool) (hvars:s.vars= [])
 (hspec:∀ds:List (DataW H),ds.length=fn.params.size→s.fn H (ds++[])= {results:=[.lit (.bool true)],args:=ds}) (walk:LawWalk enc C.prog f fn.params.toList) :
 ReturnsInHanded {} C os f .any (fun w args=>(s.pre enc C.prog fn conds false w args∧laidMetH C.prog laidsX w)∧sizedMet enc C.prog fn (OpenSpec.ofChange s) false w args) (s.post enc C.prog fn false true false false):=by
 refine returnsInHanded_of_change_and (C:=C) (X:=fun w _=>laidMetH C.prog laidsX w) (fun _ _ _ hh h=>h.of_heap hh) own started noInit hfn witness ?_
 intro W base args ds gs before hval hW _ hsz hL _
 have hW':=hW
 obtain⟨p,q,hA,hV,rfl,hfz,hnd⟩:=hW
 have e:s.vars= []:=hvars
 rw [e]at hV
 obtain⟨rfl,rfl⟩:=trodVars_none hV
 refine(walk W base args ds p hL (fun j t v ht ha=>hval j t v (by simpa using ht) ha) hA (fun j t d ht hd n hn=>?_)).mono fun e W' ⟨he,hb⟩=>⟨_,he,law_post hl hr hres hu hvars hspec hW' hb⟩
 have:=List.all_eq_true.1 hsz n (DataW.weights_mem_each (j:=j) (by rw [List.getElem?_append_left (List.getElem?_eq_some_iff.1 ht).1];exact ht) (by rw [List.append_nil];exact hd) n hn)
 exact of_decide_eq_true this
theorem own:ownKnob Tryz.prog.godebug=none:=by kernel_rfl
theorem laidOut:laidOutB Tryz.prog=true:=by kernel_rfl
theorem laidsMet(os:Os)(args:Array Value):laidMetH Tryz.prog laidsX ((World.laidAll Tryz.prog os laidsX).forCall (fun _ _=>0) ⟨#[],args,[]⟩).memory:=by
 rw [MakeChecks.laidMetH_plain _ _ _ (by kernel_rfl)]
 exact laidMet_laidAll args (by kernel_rfl) (by kernel_rfl)
theorem tab_of_laid{W:World}(h:laidMetH Tryz.prog laidsX W):Tab W:=by
 have h2:=(laids_plain h).tail.tail
 rw [pow10_data]at h2
 exact Lib.tabIs_of_head (P:=Tryz.prog) (g:=2) (t:=289) (n:=20) (e:=138) (by kernel_rfl) (by kernel_rfl) (by kernel_rfl) (by kernel_rfl) (by kernel_rfl) (by kernel_rfl) h2
end Go.Proofs.YtaghhncnicbedaaGreatDoor
