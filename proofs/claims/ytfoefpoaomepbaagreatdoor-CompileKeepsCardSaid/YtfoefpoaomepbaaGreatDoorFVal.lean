import Derived.Test.YtfoefpoaomepbaaGreatDoorFFrAll
import Derived.Test.YtfoefpoaomepbaaGreatDoorFK
set_option linter.all false
set_option maxHeartbeats 16000000
set_option maxRecDepth 1000000
namespace Go.Proofs.YtfoefpoaomepbaaGreatDoor
open Go.RowKit
def valV(x:Val):Value:=.agg #[.int .i64 x.dim,.bool x.yes,.int .i64 x.n,.int .i64 x.d]
def VRng(x:Val):Prop:=I64 x.n∧I64 x.d
theorem ValidValue8_any(x:Val)(w:World)(hr:VRng x):Calls Tryz.prog 41 #[valV x] w fun r w'=>r= .returned (.bool x.ok)∧w.Grows w':=by
 have HV:=Lib.hid (fun w=>Valid1_any x.n x.d w hr.1.1 hr.1.2 hr.2.1 hr.2.2)
 have HF:Hid (x.ok=if x.dim=1 then decide (x.n=0∧x.d=0)else decide (2≤x.dim∧x.dim≤4)&&!x.yes&&vfrac x.n x.d):=Lib.hid rfl
 clear hr
 generalize vfrac x.n x.d=q at *
 obtain⟨m,yes,n,d⟩:=x
 dsimp only at HV HF ⊢
 generalize hok:Val.ok ⟨m,yes,n,d⟩=okv at *
 clear hok
 show Calls Tryz.prog 41 #[.agg #[.int .i64 m,.bool yes,.int .i64 n,.int .i64 d]] w _
 by_cases h1:m=1
 ·subst h1
  rw [if_pos rfl]at HF
  by_cases c1:n=0
  ·subst c1
   by_cases c2:d=0
   ·subst c2
    go_enter Tryz.func41,Tryz.ntmps41
    go_wp2_with fail
    exact fz60
   ·have e2:(d==0)=false:=by simpa using c2
    have HN:=Lib.hid c2
    clear c2
    exact fz55
  ·have e2:(n==0)=false:=by simpa using c1
   have HN:=Lib.hid c1
   clear c1
   exact fz55
 ·rw [if_neg h1]at HF
  have e1:(m==1)=false:=by simpa using h1
  by_cases hm:2≤m∧m≤4
  ·rw [decide_eq_true hm,Bool.true_and]at HF
   rcases(show m=2∨m=3∨m=4 by omega)with rfl|rfl|rfl
   all_goals
    cases yes
    all_goals
     cases q
     all_goals
      go_enter Tryz.func41,Tryz.ntmps41
      go_wp2_with (first|(go_at_call 97;refine(HV.out _).mono ?_;rintro e' w' ⟨rfl,bs2,d2,rfl⟩)|(go_at_call 175;refine(HV.out _).mono ?_;rintro e' w' ⟨rfl,bs2,d2,rfl⟩))
      exact fz60
  ·rw [decide_eq_false hm]at HF
   by_cases h2:m<2
   focus
    have e2:(m==2)=false:=by rw [beq_eq_false_iff_ne];omega
   rotate_left
   focus
    have h4:m > 4:=by omega
    have e2:(m==2)=false:=by rw [beq_eq_false_iff_ne];omega
   rotate_left
   all_goals
    have e3:(m==3)=false:=by rw [beq_eq_false_iff_ne];omega
    have e4:(m==4)=false:=by rw [beq_eq_false_iff_ne];omega
    clear hm
    go_enter Tryz.func41,Tryz.ntmps41
    go_wp2_with fail
    exact fz60
end Go.Proofs.YtfoefpoaomepbaaGreatDoor
