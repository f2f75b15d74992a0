import Derived.Test.YtlheailebbngiaaGreatDoorLFrAll
import Derived.Test.YtlheailebbngiaaGreatDoorLK
set_option linter.all false
set_option maxHeartbeats 16000000
set_option maxRecDepth 1000000
namespace Go.Proofs.YtlheailebbngiaaGreatDoor
open Go.RowKit
def valV(x:Val):Value:=.agg #[.int .i64 x.dim,.bool x.yes,.int .i64 x.n,.int .i64 x.d]
def VRng(x:Val):Prop:=I64 x.n∧I64 x.d
theorem ValidValue8_any(x:Val)(w:World)(hr:VRng x):Calls Tryz.prog 31 #[valV x] w fun r w'=>r= .returned (.bool x.ok)∧w.Grows w':=by
 have HV:=Lib.hid (fun w=>Valid1_any x.n x.d w hr.1.1 hr.1.2 hr.2.1 hr.2.2)
 have HF:Hid (x.ok=if x.dim=1 then decide (x.n=0∧x.d=0)else decide (2≤x.dim∧x.dim≤4)&&!x.yes&&vfrac x.n x.d):=Lib.hid rfl
 clear hr
 generalize vfrac x.n x.d=q at *
 obtain⟨m,yes,n,d⟩:=x
 dsimp only at HV HF ⊢
 generalize hok:Val.ok ⟨m,yes,n,d⟩=okv at *
 clear hok
 show Calls Tryz.prog 31 #[.agg #[.int .i64 m,.bool yes,.int .i64 n,.int .i64 d]] w _
 by_cases h1:m=1
 ·subst h1
  rw [if_pos rfl]at HF
  by_cases c1:n=0
  ·subst c1
   by_cases c2:d=0
   ·subst c2
    go_enter Tryz.func31,Tryz.ntmps31
    go_wp2_with fail
    exact lz33
   ·have e2:(d==0)=false:=by simpa using c2
    have HN:=Lib.hid c2
    clear c2
    go_enter Tryz.func31,Tryz.ntmps31
    exact lz31
  ·have e2:(n==0)=false:=by simpa using c1
   have HN:=Lib.hid c1
   clear c1
   go_enter Tryz.func31,Tryz.ntmps31
   exact lz31
 ·rw [if_neg h1]at HF
  have e1:(m==1)=false:=by simpa using h1
  by_cases hm:2≤m∧m≤4
  ·rw [decide_eq_true hm,Bool.true_and]at HF
   rcases(show m=2∨m=3∨m=4 by omega)with rfl|rfl|rfl
   all_goals
    cases yes
    all_goals
     cases q
     all_goals
      go_enter Tryz.func31,Tryz.ntmps31
      exact lz45
  ·rw [decide_eq_false hm]at HF
   by_cases h2:m<2
   focus
    have e2:(m==2)=false:=by rw [beq_eq_false_iff_ne];omega
   rotate_left
   focus
    have h4:m > 4:=by omega
    have e2:(m==2)=false:=by rw [beq_eq_false_iff_ne];omega
   rotate_left
   all_goals
    have e3:(m==3)=false:=by rw [beq_eq_false_iff_ne];omega
    have e4:(m==4)=false:=by rw [beq_eq_false_iff_ne];omega
    clear hm
    go_enter Tryz.func31,Tryz.ntmps31
    go_wp2_with fail
    exact lz33
theorem validValue2_any(x:Val)(w:World)(hr:VRng x):Calls Tryz.prog 66 #[valV x] w fun r w'=>r= .returned (.bool x.ok)∧w.Grows w':=by
 have HV:=Lib.hid (fun w=>Valid2_any x.n x.d w hr.1.1 hr.1.2 hr.2.1 hr.2.2)
 have HF:Hid (x.ok=if x.dim=1 then decide (x.n=0∧x.d=0)else decide (2≤x.dim∧x.dim≤4)&&!x.yes&&vfrac x.n x.d):=Lib.hid rfl
 clear hr
 generalize vfrac x.n x.d=q at *
 obtain⟨m,yes,n,d⟩:=x
 dsimp only at HV HF ⊢
 generalize hok:Val.ok ⟨m,yes,n,d⟩=okv at *
 clear hok
 show Calls Tryz.prog 66 #[.agg #[.int .i64 m,.bool yes,.int .i64 n,.int .i64 d]] w _
 by_cases h1:m=1
 ·subst h1
  rw [if_pos rfl]at HF
  by_cases c1:n=0
  ·subst c1
   by_cases c2:d=0
   ·subst c2
    go_enter Tryz.func66,Tryz.ntmps66
    go_wp2_with fail
    exact lz33
   ·have e2:(d==0)=false:=by simpa using c2
    have HN:=Lib.hid c2
    clear c2
    go_enter Tryz.func66,Tryz.ntmps66
    exact lz31
  ·have e2:(n==0)=false:=by simpa using c1
   have HN:=Lib.hid c1
   clear c1
   go_enter Tryz.func66,Tryz.ntmps66
   exact lz31
 ·rw [if_neg h1]at HF
  have e1:(m==1)=false:=by simpa using h1
  by_cases hm:2≤m∧m≤4
  ·rw [decide_eq_true hm,Bool.true_and]at HF
   rcases(show m=2∨m=3∨m=4 by omega)with rfl|rfl|rfl
   all_goals
    cases yes
    all_goals
     cases q
     all_goals
      go_enter Tryz.func66,Tryz.ntmps66
      exact lz45
  ·rw [decide_eq_false hm]at HF
   by_cases h2:m<2
   focus
    have e2:(m==2)=false:=by rw [beq_eq_false_iff_ne];omega
   rotate_left
   focus
    have h4:m > 4:=by omega
    have e2:(m==2)=false:=by rw [beq_eq_false_iff_ne];omega
   rotate_left
   all_goals
    have e3:(m==3)=false:=by rw [beq_eq_false_iff_ne];omega
    have e4:(m==4)=false:=by rw [beq_eq_false_iff_ne];omega
    clear hm
    go_enter Tryz.func66,Tryz.ntmps66
    go_wp2_with fail
    exact lz33
theorem evnum_any(m n d:Int)(w:World):Calls Tryz.prog 48 #[.int .i64 m,.agg #[.int .i64 n,.int .i64 d]] w fun r w'=>r= .returned (valV (.num m n d))∧w.Grows w':=by
 show Calls _ _ _ _ fun r w'=>r= .returned (.agg #[.int .i64 m,.bool false,.int .i64 n,.int .i64 d])∧_
 go_enter Tryz.func48,Tryz.ntmps48
 exact lz28
theorem evtruth_any(b:Bool)(w:World):Calls Tryz.prog 116 #[.bool b] w fun r w'=>r= .returned (valV (.truth b))∧w.Grows w':=by
 show Calls _ _ _ _ fun r w'=>r= .returned (.agg #[.int .i64 1,.bool b,.int .i64 0,.int .i64 0])∧_
 go_enter Tryz.func116,Tryz.ntmps116
 exact lz28
theorem compare_any(op an ad bn bd:Int)(w:World)(h11:11≤op)(h16:op≤16)(hi:I64x4 an ad bn bd) :
 Calls Tryz.prog 115 #[.int .i64 op,.agg #[.int .i64 an,.int .i64 ad],.agg #[.int .i64 bn,.int .i64 bd]] w fun r w'=>r= .returned (.tuple #[.bool (cmpB op (cmpF an ad bn bd).1),.int .i64 (cmpF an ad bn bd).2])∧w.Grows w':=by
 have HC:=Lib.hid (fun w=>Compare2_any an ad bn bd w hi)
 unfold frI at HC
 generalize cmpF an ad bn bd=q at *
 obtain⟨c,e⟩:=q
 dsimp only at HC ⊢
 clear hi
 rcases(show op=11∨op=12∨op=13∨op=14∨op=15∨op=16 by omega)with rfl|rfl|rfl|rfl|rfl|rfl
 all_goals
  clear h11 h16
  simp only [cmpB]
  go_enter Tryz.func115,Tryz.ntmps115
  go_wp2_with (go_at_call 143;refine(HC.out _).mono ?_;rintro e' w' ⟨rfl,bs,d,rfl⟩)
  go_returns
  exact⟨rfl,.of_below belB⟩
def dimA(op a b:Int):Int:=if op=9∧a=2 then b else if op=10∧b≠2 then 2 else a
theorem dimension_any(op a b:Int)(w:World) :
 Calls Tryz.prog 118 #[.int .i64 op,.int .i64 a,.int .i64 b] w fun r w'=>r= .returned (.int .i64 (dimA op a b))∧w.Grows w':=by
 go_enter Tryz.func118,Tryz.ntmps118
 go_wp2_with fail
 all_goals
  go_returns
  exact⟨ret_int (by unfold dimA;simp_all),.of_below belB⟩
def arF(op an ad bn bd:Int):Int × Int × Int:=
 if op=7 then addF an ad bn bd else if op=8 then subF an ad bn bd else if op=9 then mulF an ad bn bd else if op=10 then divF an ad bn bd
 else if op=19 then(if(cmpF an ad bn bd).1<0 then(an,ad,(cmpF an ad bn bd).2)else(bn,bd,(cmpF an ad bn bd).2))
 else if(cmpF an ad bn bd).1<0 then(bn,bd,(cmpF an ad bn bd).2)else(an,ad,(cmpF an ad bn bd).2)
theorem arith_any(op an ad bn bd:Int)(w:World)(ho:op=7∨op=8∨op=9∨op=10∨op=19∨op=20)(hi:I64x4 an ad bn bd) :
 Calls Tryz.prog 117 #[.int .i64 op,.agg #[.int .i64 an,.int .i64 ad],.agg #[.int .i64 bn,.int .i64 bd]] w fun r w'=>r= .returned (frV (arF op an ad bn bd))∧w.Grows w':=by
 have HA:=Lib.hid (fun w=>Add2_any an ad bn bd w hi)
 have HS:=Lib.hid (fun w=>Sub2_any an ad bn bd w hi)
 have HM:=Lib.hid (fun w=>Mul2_any an ad bn bd w hi)
 have HD:=Lib.hid (fun w=>Div2_any an ad bn bd w hi)
 have HC:=Lib.hid (fun w=>Compare2_any an ad bn bd w hi)
 unfold frI at HC
 unfold frV at HA HS HM HD ⊢
 have HF:=Lib.hid (show arF op an ad bn bd=arF op an ad bn bd from rfl)
 generalize hr:arF op an ad bn bd=R at HF ⊢
 clear HF
 unfold arF at hr
 generalize addF an ad bn bd=qa at *
 generalize subF an ad bn bd=qs at *
 generalize mulF an ad bn bd=qm at *
 generalize divF an ad bn bd=qd at *
 generalize cmpF an ad bn bd=qc at *
 clear hi
 have HR:=Lib.hid hr
 clear hr
 by_cases hc:qc.1<0
 all_goals
  rcases ho with rfl|rfl|rfl|rfl|rfl|rfl
  all_goals
   go_enter Tryz.func117,Tryz.ntmps117
   go_wp2_with (first
    |(go_at_call 144;refine(HA.out _).mono ?_;rintro e' w' ⟨rfl,bs,d,rfl⟩)
    |(go_at_call 145;refine(HS.out _).mono ?_;rintro e' w' ⟨rfl,bs,d,rfl⟩)
    |(go_at_call 146;refine(HM.out _).mono ?_;rintro e' w' ⟨rfl,bs,d,rfl⟩)
    |(go_at_call 147;refine(HD.out _).mono ?_;rintro e' w' ⟨rfl,bs,d,rfl⟩)
    |(go_at_call 143;refine(HC.out _).mono ?_;rintro e' w' ⟨rfl,bs,d,rfl⟩))
   all_goals
    go_returns
    exact⟨by rw [←HR.out];first|(simp [hc];done)|(simp;done)|(rw [if_neg hc];done)|(simp [if_neg hc];done)|(simp_all;done)|(simp;split<;>first|rfl|(exfalso;omega)|simp_all),.of_below belB⟩
end Go.Proofs.YtlheailebbngiaaGreatDoor
