import Derived.Test.YtaghhncnicbedaaGreatDoorMMchN
import Derived.Test.YtaghhncnicbedaaGreatDoorMK
set_option linter.all false
set_option maxHeartbeats 16000000
set_option maxRecDepth 1000000
namespace Go.Proofs.YtaghhncnicbedaaGreatDoor
open Go.RowKit
theorem oper8_any(op:Int)(w:World):Calls Tryz.prog 57 #[.int .i64 op] w fun e w'=>e= .returned (.int .i64 (opF op))∧w=w':=by
 by_cases h6:op=6
 ·subst h6
  exact mz4
 have b6:(op==6)=false:=by simpa using h6
 by_cases h7:op=7
 ·subst h7
  exact mz4
 have b7:(op==7)=false:=by simpa using h7
 by_cases h8:op=8
 ·subst h8
  exact mz4
 have b8:(op==8)=false:=by simpa using h8
 by_cases h9:9≤op∧op≤18
 ·have e:opF op=op-2:=by unfold opF;rw [if_neg h6,if_neg h7,if_neg h8,if_pos h9]
  rw [e]
  obtain⟨ha,hb⟩:=h9
  clear e h6 h7 h8
  go_enter Tryz.func57,Tryz.ntmps57
  go_wp2_with fail
  go_returns
  exact⟨by
   simp;omega,rfl⟩
 by_cases h19:op=19
 ·subst h19
  exact mz4
 have b19:(op==19)=false:=by simpa using h19
 by_cases h20:op=20
 ·subst h20
  exact mz4
 have b20:(op==20)=false:=by simpa using h20
 have e:opF op=0:=by unfold opF;rw [if_neg h6,if_neg h7,if_neg h8,if_neg h9,if_neg h19,if_neg h20]
 rw [e]
 have hr:op<9∨18<op:=by omega
 clear e h6 h7 h8 h9 h19 h20
 rcases hr with hr|hr
 ·exact mz4
 ·exact mz4
def idmF(a:Int):Int:=if 0≤a∧a<11 then inDs.getD a.toNat 0 else 0
def idmP(a:Int)(w:World)(e:Ending)(w':World):Prop:=e= .returned (.tuple #[.int .i64 (idmF a),.bool (decide (0≤a∧a<11))])∧w.Grows w'
theorem inputDim_any(a:Int)(w:World):Calls Tryz.prog 96 #[.int .i64 a] w (idmP a w):=by
 by_cases h0:a<0
 ·exact mz2
 by_cases h11:11≤a
 ·exact mz2
 obtain⟨k,rfl⟩:∃k:Nat,a=(k:Int):=⟨a.toNat,by omega⟩
 have hk:k<11:=by omega
 have hd:=inDs_inpD hk
 have HI:=Lib.hid (fun w=>Input5_any (inpNm k) w)
 have hne:inpD (inpNm k).toList≠0:=by rw [hd];have:=inDs_rng hk;omega
 rw [decide_eq_true hne,hd]at HI
 have hc:(w.alloc (.cells inpA 9)).cell? ⟨w.heap.size,k,none⟩=some (.string (inpNm k)):=by
  rw [cell_of_row _ _ _ _ _ _ (heap_alloc_new w _)];exact inpA_get k hk
 have HP:Hid (∀w',w.Grows w'→idmP (k:Int) w (.returned (.tuple #[.int .i64 (inDs.getD k 0),.bool true])) w'):=Lib.hid (fun w' hg=>⟨by unfold idmF;rw [if_pos (by omega),decide_eq_true (by omega)];simp,hg⟩)
 clear hd hne h0 h11
 obtain⟨s,hs⟩:∃s,inpNm k=s:=⟨_,rfl⟩
 rw [hs]at hc HI
 obtain⟨z,hz⟩:∃z,inDs.getD k 0=z:=⟨_,rfl⟩
 rw [hz]at HI HP
 clear hs hz
 have d1:(k:Int)<11:=by omega
 go_enter Tryz.func96,Tryz.ntmps96
 go_wp2_with (first
  |(go_at_call 28;refine(Names_any _).mono ?_;rintro e' w' ⟨rfl,rfl⟩)
  |(go_at_call 111;refine(HI.out _).mono ?_;rintro e' w' ⟨rfl,rfl⟩))
 go_returns
 exact HP.out _ growsR
theorem wfF_z{m N i:Nat}{op a n d:Int}(h1:op≠1):wfF m N i ⟨op,a,n,d⟩=(wfF m N i ⟨op,a,0,0⟩&&decide (n=0∧d=0)):=by
 by_cases h:n=0∧d=0
 ·obtain⟨rfl,rfl⟩:=h
  rw [show decide ((0:Int)=0∧(0:Int)=0)=true from rfl,Bool.and_true]
 ·rw [decide_eq_false h,Bool.and_false]
  unfold wfF
  rw [if_neg h1,if_pos h]
theorem operand_any(l:List Ins)(sl:List ByteArray)(vi vs:Value)(i:Nat)(w:World)(hI:InsAt w vi l)(hS:SlAt w vs sl)(hi:i<l.length) :
 Calls Tryz.prog 45 #[.agg #[vi,vs],.int .i64 i] w fun e w'=>e= .returned (.bool (wfF sl.length l.length i (l.getD i default)))∧w.Grows w':=by
 obtain⟨hl6,ai,ci,rfl,hx⟩:=hI
 obtain⟨hs6,-,as',cs',-,rfl,-⟩:=hS
 rcases hx with h0|⟨b,off,rfl,hb,hx⟩
 ·omega
 obtain⟨⟨hn,hd⟩,x0,x1,x2,x3⟩:=hx i hi
 have d1:(i:Int)<(l.length:Int):=by omega
 generalize l.getD i default=x at *
 obtain⟨op,a,n,d⟩:=x
 dsimp only at *
 have HV:=Lib.hid (fun w=>Valid1_any n d w hn.1 hn.2 hd.1 hd.2)
 have HD:=Lib.hid (fun w=>inputDim_any a w)
 have HO:Hid True:=Lib.hid trivial
 unfold idmP at HD
 clear hx hi
 generalize sl.length=m at *
 generalize l.length=N at *
 by_cases h1:op=1
 ·subst h1
  clear hn hd
  by_cases ha:2≤a
  ·by_cases hb4:a≤4
   focus
    have HW:Hid (wfF m N i ⟨1,a,n,d⟩=vfrac n d):=Lib.hid (by unfold wfF;rw [if_pos rfl,decide_eq_true (show a=2∨a=3∨a=4 by omega)];rfl)
    obtain⟨vf,hvf⟩:∃vf,vfrac n d=vf:=⟨_,rfl⟩
    rw [hvf]at HV HW
    clear hvf
   rotate_left
   focus
    have HW:Hid (wfF m N i ⟨1,a,n,d⟩=false):=Lib.hid (by unfold wfF;rw [if_pos rfl,decide_eq_false (show ¬(a=2∨a=3∨a=4)by omega)];rfl)
   rotate_left
   all_goals
    rcases(by omega:(n=0∧d=0)∨(n=0∧d≠0)∨n≠0)with ⟨rfl,rfl⟩|⟨rfl,hd0⟩|hn0
    focus
     go_enter Tryz.func45,Tryz.ntmps45
    rotate_left
    focus
     have hd1:(d==0)=false:=by simpa using hd0
     clear hd0
     go_enter Tryz.func45,Tryz.ntmps45
    rotate_left
    focus
     have hn1:(n==0)=false:=by simpa using hn0
     clear hn0
     go_enter Tryz.func45,Tryz.ntmps45
    rotate_left
    all_goals
     go_wp2_with (first
      |(go_at_call 60;refine(HV.out _).mono ?_;rintro e' w' ⟨rfl,bs,d',rfl⟩)
      |(go_at_call 96;refine(HD.out _).mono ?_;rintro e' w' ⟨rfl,bs,d',rfl⟩)
      |(go_at_call 57;refine(HO.out _).mono ?_;rintro e' w' ⟨rfl,rfl⟩))
     go_returns
     exact⟨by first|(rw [HW.out];first|rfl|(simp [*];done)|(simp;done))|rfl|(simp [*];done),growsR⟩
  ·have HW:Hid (wfF m N i ⟨1,a,n,d⟩=false):=Lib.hid (by unfold wfF;rw [if_pos rfl,decide_eq_false (show ¬(a=2∨a=3∨a=4)by omega)];rfl)
   rcases(by omega:(n=0∧d=0)∨(n=0∧d≠0)∨n≠0)with ⟨rfl,rfl⟩|⟨rfl,hd0⟩|hn0
   focus
    go_enter Tryz.func45,Tryz.ntmps45
   rotate_left
   focus
    have hd1:(d==0)=false:=by simpa using hd0
    clear hd0
    go_enter Tryz.func45,Tryz.ntmps45
   rotate_left
   focus
    have hn1:(n==0)=false:=by simpa using hn0
    clear hn0
    go_enter Tryz.func45,Tryz.ntmps45
   rotate_left
   all_goals
    go_wp2_with (first
     |(go_at_call 60;refine(HV.out _).mono ?_;rintro e' w' ⟨rfl,bs,d',rfl⟩)
     |(go_at_call 96;refine(HD.out _).mono ?_;rintro e' w' ⟨rfl,bs,d',rfl⟩)
     |(go_at_call 57;refine(HO.out _).mono ?_;rintro e' w' ⟨rfl,rfl⟩))
    go_returns
    exact⟨by first|(rw [HW.out];first|rfl|(simp [*];done)|(simp;done))|rfl|(simp [*];done),growsR⟩
 have b1:(op==1)=false:=by simpa using h1
 rw [wfF_z h1]
 obtain⟨z,hz⟩:∃z,decide (n=0∧d=0)=z:=⟨_,rfl⟩
 rw [hz]
 have hzz:(z=true∧n=0∧d=0)∨(z=false∧n=0∧d≠0)∨(z=false∧n≠0):=by
  by_cases c:n=0∧d=0
  ·rw [decide_eq_true c]at hz;exact .inl ⟨hz.symm,c⟩
  ·rw [decide_eq_false c]at hz
   by_cases c1:n=0
   ·exact .inr (.inl ⟨hz.symm,c1,fun e=>c ⟨c1,e⟩⟩)
   ·exact .inr (.inr ⟨hz.symm,c1⟩)
 clear hn hd HV hz
 have HV:Hid True:=Lib.hid trivial
 by_cases h2:op=2
 ·subst h2
  have HW:Hid (wfF m N i ⟨2,a,0,0⟩=decide (0≤a∧a<11)):=Lib.hid rfl
  by_cases ha:0≤a∧a<11
  focus
   rw [decide_eq_true ha]at HW HD
  rotate_left
  focus
   rw [decide_eq_false ha]at HW HD
  rotate_left
  all_goals
   generalize idmF a=q at *
   rcases hzz with ⟨rfl,rfl,rfl⟩|⟨rfl,rfl,hd0⟩|⟨rfl,hn0⟩
   focus
    go_enter Tryz.func45,Tryz.ntmps45
   rotate_left
   focus
    have hd1:(d==0)=false:=by simpa using hd0
    clear hd0
    go_enter Tryz.func45,Tryz.ntmps45
   rotate_left
   focus
    have hn1:(n==0)=false:=by simpa using hn0
    clear hn0
    go_enter Tryz.func45,Tryz.ntmps45
   rotate_left
   all_goals
    go_wp2_with (first
     |(go_at_call 60;refine(HV.out _).mono ?_;rintro e' w' ⟨rfl,bs,d',rfl⟩)
     |(go_at_call 96;refine(HD.out _).mono ?_;rintro e' w' ⟨rfl,bs,d',rfl⟩)
     |(go_at_call 57;refine(HO.out _).mono ?_;rintro e' w' ⟨rfl,rfl⟩))
    go_returns
    exact⟨by first|(rw [HW.out];first|rfl|(simp [*];done)|(simp;done))|rfl|(simp [*];done),growsR⟩
 have b2:(op==2)=false:=by simpa using h2
 by_cases h3:op=3∨op=4
 ·have HW:Hid (wfF m N i ⟨op,a,0,0⟩=decide (0≤a∧a<m)):=Lib.hid (by unfold wfF;rw [if_neg h1,if_neg (by simp),if_neg h2,if_pos h3])
  by_cases ha:0≤a
  ·by_cases hm:a<m
   focus
    rw [decide_eq_true ⟨ha,hm⟩]at HW
   rotate_left
   focus
    rw [decide_eq_false (fun h=>hm h.2)]at HW
   rotate_left
   all_goals
    rcases h3 with rfl|rfl
    ·rcases hzz with ⟨rfl,rfl,rfl⟩|⟨rfl,rfl,hd0⟩|⟨rfl,hn0⟩
     focus
      go_enter Tryz.func45,Tryz.ntmps45
     rotate_left
     focus
      have hd1:(d==0)=false:=by simpa using hd0
      clear hd0
      go_enter Tryz.func45,Tryz.ntmps45
     rotate_left
     focus
      have hn1:(n==0)=false:=by simpa using hn0
      clear hn0
      go_enter Tryz.func45,Tryz.ntmps45
     rotate_left
     all_goals
      go_wp2_with (first
       |(go_at_call 60;refine(HV.out _).mono ?_;rintro e' w' ⟨rfl,bs,d',rfl⟩)
       |(go_at_call 96;refine(HD.out _).mono ?_;rintro e' w' ⟨rfl,bs,d',rfl⟩)
       |(go_at_call 57;refine(HO.out _).mono ?_;rintro e' w' ⟨rfl,rfl⟩))
      go_returns
      exact⟨by first|(rw [HW.out];first|rfl|(simp [*];done)|(simp;done))|rfl|(simp [*];done),growsR⟩
    ·rcases hzz with ⟨rfl,rfl,rfl⟩|⟨rfl,rfl,hd0⟩|⟨rfl,hn0⟩
     focus
      go_enter Tryz.func45,Tryz.ntmps45
     rotate_left
     focus
      have hd1:(d==0)=false:=by simpa using hd0
      clear hd0
      go_enter Tryz.func45,Tryz.ntmps45
     rotate_left
     focus
      have hn1:(n==0)=false:=by simpa using hn0
      clear hn0
      go_enter Tryz.func45,Tryz.ntmps45
     rotate_left
     all_goals
      go_wp2_with (first
       |(go_at_call 60;refine(HV.out _).mono ?_;rintro e' w' ⟨rfl,bs,d',rfl⟩)
       |(go_at_call 96;refine(HD.out _).mono ?_;rintro e' w' ⟨rfl,bs,d',rfl⟩)
       |(go_at_call 57;refine(HO.out _).mono ?_;rintro e' w' ⟨rfl,rfl⟩))
      go_returns
      exact⟨by first|(rw [HW.out];first|rfl|(simp [*];done)|(simp;done))|rfl|(simp [*];done),growsR⟩
  ·rw [decide_eq_false (fun h=>ha h.1)]at HW
   rcases h3 with rfl|rfl
   ·rcases hzz with ⟨rfl,rfl,rfl⟩|⟨rfl,rfl,hd0⟩|⟨rfl,hn0⟩
    focus
     go_enter Tryz.func45,Tryz.ntmps45
    rotate_left
    focus
     have hd1:(d==0)=false:=by simpa using hd0
     clear hd0
     go_enter Tryz.func45,Tryz.ntmps45
    rotate_left
    focus
     have hn1:(n==0)=false:=by simpa using hn0
     clear hn0
     go_enter Tryz.func45,Tryz.ntmps45
    rotate_left
    all_goals
     go_wp2_with (first
      |(go_at_call 60;refine(HV.out _).mono ?_;rintro e' w' ⟨rfl,bs,d',rfl⟩)
      |(go_at_call 96;refine(HD.out _).mono ?_;rintro e' w' ⟨rfl,bs,d',rfl⟩)
      |(go_at_call 57;refine(HO.out _).mono ?_;rintro e' w' ⟨rfl,rfl⟩))
     go_returns
     exact⟨by first|(rw [HW.out];first|rfl|(simp [*];done)|(simp;done))|rfl|(simp [*];done),growsR⟩
   ·rcases hzz with ⟨rfl,rfl,rfl⟩|⟨rfl,rfl,hd0⟩|⟨rfl,hn0⟩
    focus
     go_enter Tryz.func45,Tryz.ntmps45
    rotate_left
    focus
     have hd1:(d==0)=false:=by simpa using hd0
     clear hd0
     go_enter Tryz.func45,Tryz.ntmps45
    rotate_left
    focus
     have hn1:(n==0)=false:=by simpa using hn0
     clear hn0
     go_enter Tryz.func45,Tryz.ntmps45
    rotate_left
    all_goals
     go_wp2_with (first
      |(go_at_call 60;refine(HV.out _).mono ?_;rintro e' w' ⟨rfl,bs,d',rfl⟩)
      |(go_at_call 96;refine(HD.out _).mono ?_;rintro e' w' ⟨rfl,bs,d',rfl⟩)
      |(go_at_call 57;refine(HO.out _).mono ?_;rintro e' w' ⟨rfl,rfl⟩))
     go_returns
     exact⟨by first|(rw [HW.out];first|rfl|(simp [*];done)|(simp;done))|rfl|(simp [*];done),growsR⟩
 have b3:(op==3)=false:=by simp;omega
 have b4:(op==4)=false:=by simp;omega
 by_cases h5:op=5
 ·subst h5
  have HW:Hid (wfF m N i ⟨5,a,0,0⟩=decide (1≤a∧a≤45)):=Lib.hid rfl
  by_cases ha:1≤a
  ·by_cases hm:a≤45
   focus
    rw [decide_eq_true ⟨ha,hm⟩]at HW
   rotate_left
   focus
    rw [decide_eq_false (fun h=>hm h.2)]at HW
   rotate_left
   all_goals
    rcases hzz with ⟨rfl,rfl,rfl⟩|⟨rfl,rfl,hd0⟩|⟨rfl,hn0⟩
    focus
     go_enter Tryz.func45,Tryz.ntmps45
    rotate_left
    focus
     have hd1:(d==0)=false:=by simpa using hd0
     clear hd0
     go_enter Tryz.func45,Tryz.ntmps45
    rotate_left
    focus
     have hn1:(n==0)=false:=by simpa using hn0
     clear hn0
     go_enter Tryz.func45,Tryz.ntmps45
    rotate_left
    all_goals
     go_wp2_with (first
      |(go_at_call 60;refine(HV.out _).mono ?_;rintro e' w' ⟨rfl,bs,d',rfl⟩)
      |(go_at_call 96;refine(HD.out _).mono ?_;rintro e' w' ⟨rfl,bs,d',rfl⟩)
      |(go_at_call 57;refine(HO.out _).mono ?_;rintro e' w' ⟨rfl,rfl⟩))
     go_returns
     exact⟨by first|(rw [HW.out];first|rfl|(simp [*];done)|(simp;done))|rfl|(simp [*];done),growsR⟩
  ·rw [decide_eq_false (fun h=>ha h.1)]at HW
   rcases hzz with ⟨rfl,rfl,rfl⟩|⟨rfl,rfl,hd0⟩|⟨rfl,hn0⟩
   focus
    go_enter Tryz.func45,Tryz.ntmps45
   rotate_left
   focus
    have hd1:(d==0)=false:=by simpa using hd0
    clear hd0
    go_enter Tryz.func45,Tryz.ntmps45
   rotate_left
   focus
    have hn1:(n==0)=false:=by simpa using hn0
    clear hn0
    go_enter Tryz.func45,Tryz.ntmps45
   rotate_left
   all_goals
    go_wp2_with (first
     |(go_at_call 60;refine(HV.out _).mono ?_;rintro e' w' ⟨rfl,bs,d',rfl⟩)
     |(go_at_call 96;refine(HD.out _).mono ?_;rintro e' w' ⟨rfl,bs,d',rfl⟩)
     |(go_at_call 57;refine(HO.out _).mono ?_;rintro e' w' ⟨rfl,rfl⟩))
    go_returns
    exact⟨by first|(rw [HW.out];first|rfl|(simp [*];done)|(simp;done))|rfl|(simp [*];done),growsR⟩
 have b5:(op==5)=false:=by simpa using h5
 by_cases h21:op=21∨op=22
 ·have HW:Hid (wfF m N i ⟨op,a,0,0⟩=decide ((i:Int)<a∧a≤N)):=Lib.hid (by unfold wfF;rw [if_neg h1,if_neg (by simp),if_neg h2,if_neg h3,if_neg h5,if_pos h21])
  by_cases ha:(i:Int)<a
  ·by_cases hm:a≤N
   focus
    rw [decide_eq_true ⟨ha,hm⟩]at HW
   rotate_left
   focus
    rw [decide_eq_false (fun h=>hm h.2)]at HW
   rotate_left
   all_goals
    rcases h21 with rfl|rfl
    ·rcases hzz with ⟨rfl,rfl,rfl⟩|⟨rfl,rfl,hd0⟩|⟨rfl,hn0⟩
     focus
      go_enter Tryz.func45,Tryz.ntmps45
     rotate_left
     focus
      have hd1:(d==0)=false:=by simpa using hd0
      clear hd0
      go_enter Tryz.func45,Tryz.ntmps45
     rotate_left
     focus
      have hn1:(n==0)=false:=by simpa using hn0
      clear hn0
      go_enter Tryz.func45,Tryz.ntmps45
     rotate_left
     all_goals
      go_wp2_with (first
       |(go_at_call 60;refine(HV.out _).mono ?_;rintro e' w' ⟨rfl,bs,d',rfl⟩)
       |(go_at_call 96;refine(HD.out _).mono ?_;rintro e' w' ⟨rfl,bs,d',rfl⟩)
       |(go_at_call 57;refine(HO.out _).mono ?_;rintro e' w' ⟨rfl,rfl⟩))
      go_returns
      exact⟨by first|(rw [HW.out];first|rfl|(simp [*];done)|(simp;done))|rfl|(simp [*];done),growsR⟩
    ·rcases hzz with ⟨rfl,rfl,rfl⟩|⟨rfl,rfl,hd0⟩|⟨rfl,hn0⟩
     focus
      go_enter Tryz.func45,Tryz.ntmps45
     rotate_left
     focus
      have hd1:(d==0)=false:=by simpa using hd0
      clear hd0
      go_enter Tryz.func45,Tryz.ntmps45
     rotate_left
     focus
      have hn1:(n==0)=false:=by simpa using hn0
      clear hn0
      go_enter Tryz.func45,Tryz.ntmps45
     rotate_left
     all_goals
      go_wp2_with (first
       |(go_at_call 60;refine(HV.out _).mono ?_;rintro e' w' ⟨rfl,bs,d',rfl⟩)
       |(go_at_call 96;refine(HD.out _).mono ?_;rintro e' w' ⟨rfl,bs,d',rfl⟩)
       |(go_at_call 57;refine(HO.out _).mono ?_;rintro e' w' ⟨rfl,rfl⟩))
      go_returns
      exact⟨by first|(rw [HW.out];first|rfl|(simp [*];done)|(simp;done))|rfl|(simp [*];done),growsR⟩
  ·rw [decide_eq_false (fun h=>ha h.1)]at HW
   rcases h21 with rfl|rfl
   ·rcases hzz with ⟨rfl,rfl,rfl⟩|⟨rfl,rfl,hd0⟩|⟨rfl,hn0⟩
    focus
     go_enter Tryz.func45,Tryz.ntmps45
    rotate_left
    focus
     have hd1:(d==0)=false:=by simpa using hd0
     clear hd0
     go_enter Tryz.func45,Tryz.ntmps45
    rotate_left
    focus
     have hn1:(n==0)=false:=by simpa using hn0
     clear hn0
     go_enter Tryz.func45,Tryz.ntmps45
    rotate_left
    all_goals
     go_wp2_with (first
      |(go_at_call 60;refine(HV.out _).mono ?_;rintro e' w' ⟨rfl,bs,d',rfl⟩)
      |(go_at_call 96;refine(HD.out _).mono ?_;rintro e' w' ⟨rfl,bs,d',rfl⟩)
      |(go_at_call 57;refine(HO.out _).mono ?_;rintro e' w' ⟨rfl,rfl⟩))
     go_returns
     exact⟨by first|(rw [HW.out];first|rfl|(simp [*];done)|(simp;done))|rfl|(simp [*];done),growsR⟩
   ·rcases hzz with ⟨rfl,rfl,rfl⟩|⟨rfl,rfl,hd0⟩|⟨rfl,hn0⟩
    focus
     go_enter Tryz.func45,Tryz.ntmps45
    rotate_left
    focus
     have hd1:(d==0)=false:=by simpa using hd0
     clear hd0
     go_enter Tryz.func45,Tryz.ntmps45
    rotate_left
    focus
     have hn1:(n==0)=false:=by simpa using hn0
     clear hn0
     go_enter Tryz.func45,Tryz.ntmps45
    rotate_left
    all_goals
     go_wp2_with (first
      |(go_at_call 60;refine(HV.out _).mono ?_;rintro e' w' ⟨rfl,bs,d',rfl⟩)
      |(go_at_call 96;refine(HD.out _).mono ?_;rintro e' w' ⟨rfl,bs,d',rfl⟩)
      |(go_at_call 57;refine(HO.out _).mono ?_;rintro e' w' ⟨rfl,rfl⟩))
     go_returns
     exact⟨by first|(rw [HW.out];first|rfl|(simp [*];done)|(simp;done))|rfl|(simp [*];done),growsR⟩
 have b21:(op==21)=false:=by simp;omega
 have b22:(op==22)=false:=by simp;omega
 by_cases h23:op=23∨op=24
 ·have HW:Hid (wfF m N i ⟨op,a,0,0⟩=decide (a=0)):=Lib.hid (by unfold wfF;rw [if_neg h1,if_neg (by simp),if_neg h2,if_neg h3,if_neg h5,if_neg h21,if_pos h23])
  by_cases ha:a=0
  focus
   rw [decide_eq_true ha]at HW
   subst ha
  rotate_left
  focus
   rw [decide_eq_false ha]at HW
   have a0:(a==0)=false:=by simpa using ha
  rotate_left
  all_goals
   rcases h23 with rfl|rfl
   ·rcases hzz with ⟨rfl,rfl,rfl⟩|⟨rfl,rfl,hd0⟩|⟨rfl,hn0⟩
    focus
     go_enter Tryz.func45,Tryz.ntmps45
    rotate_left
    focus
     have hd1:(d==0)=false:=by simpa using hd0
     clear hd0
     go_enter Tryz.func45,Tryz.ntmps45
    rotate_left
    focus
     have hn1:(n==0)=false:=by simpa using hn0
     clear hn0
     go_enter Tryz.func45,Tryz.ntmps45
    rotate_left
    all_goals
     go_wp2_with (first
      |(go_at_call 60;refine(HV.out _).mono ?_;rintro e' w' ⟨rfl,bs,d',rfl⟩)
      |(go_at_call 96;refine(HD.out _).mono ?_;rintro e' w' ⟨rfl,bs,d',rfl⟩)
      |(go_at_call 57;refine(HO.out _).mono ?_;rintro e' w' ⟨rfl,rfl⟩))
     go_returns
     exact⟨by first|(rw [HW.out];first|rfl|(simp [*];done)|(simp;done))|rfl|(simp [*];done),growsR⟩
   ·rcases hzz with ⟨rfl,rfl,rfl⟩|⟨rfl,rfl,hd0⟩|⟨rfl,hn0⟩
    focus
     go_enter Tryz.func45,Tryz.ntmps45
    rotate_left
    focus
     have hd1:(d==0)=false:=by simpa using hd0
     clear hd0
     go_enter Tryz.func45,Tryz.ntmps45
    rotate_left
    focus
     have hn1:(n==0)=false:=by simpa using hn0
     clear hn0
     go_enter Tryz.func45,Tryz.ntmps45
    rotate_left
    all_goals
     go_wp2_with (first
      |(go_at_call 60;refine(HV.out _).mono ?_;rintro e' w' ⟨rfl,bs,d',rfl⟩)
      |(go_at_call 96;refine(HD.out _).mono ?_;rintro e' w' ⟨rfl,bs,d',rfl⟩)
      |(go_at_call 57;refine(HO.out _).mono ?_;rintro e' w' ⟨rfl,rfl⟩))
     go_returns
     exact⟨by first|(rw [HW.out];first|rfl|(simp [*];done)|(simp;done))|rfl|(simp [*];done),growsR⟩
 have b23:(op==23)=false:=by simp;omega
 have b24:(op==24)=false:=by simp;omega
 have HW:Hid (wfF m N i ⟨op,a,0,0⟩=decide (opF op≠0∧a=0)):=Lib.hid (by unfold wfF;rw [if_neg h1,if_neg (by simp),if_neg h2,if_neg h3,if_neg h5,if_neg h21,if_neg h23])
 clear h1 h2 h3 h5 h21 h23
 obtain⟨q,hq⟩:∃q,opF op=q:=⟨_,rfl⟩
 have HQ:=Lib.hid hq
 clear HO
 have HO:=Lib.hid (fun w=>by have:=oper8_any op w;rw [hq]at this;exact this)
 rw [hq]at HW
 clear hq
 by_cases hq0:q=0
 ·subst hq0
  rw [decide_eq_false (fun h=>h.1 rfl)]at HW
  rcases hzz with ⟨rfl,rfl,rfl⟩|⟨rfl,rfl,hd0⟩|⟨rfl,hn0⟩
  focus
   go_enter Tryz.func45,Tryz.ntmps45
  rotate_left
  focus
   have hd1:(d==0)=false:=by simpa using hd0
   clear hd0
   go_enter Tryz.func45,Tryz.ntmps45
  rotate_left
  focus
   have hn1:(n==0)=false:=by simpa using hn0
   clear hn0
   go_enter Tryz.func45,Tryz.ntmps45
  rotate_left
  all_goals
   go_wp2_with (first
    |(go_at_call 60;refine(HV.out _).mono ?_;rintro e' w' ⟨rfl,bs,d',rfl⟩)
    |(go_at_call 96;refine(HD.out _).mono ?_;rintro e' w' ⟨rfl,bs,d',rfl⟩)
    |(go_at_call 57;refine(HO.out _).mono ?_;rintro e' w' ⟨rfl,rfl⟩))
   go_returns
   exact⟨by first|(rw [HW.out];first|rfl|(simp [*];done)|(simp;done))|rfl|(simp [*];done),growsR⟩
 ·have q0:(q !=0)=true:=by simpa using hq0
  by_cases ha:a=0
  focus
   rw [decide_eq_true ⟨hq0,ha⟩]at HW
   subst ha
   clear hq0
  rotate_left
  focus
   rw [decide_eq_false (fun h=>ha h.2)]at HW
   have a0:(a==0)=false:=by simpa using ha
   clear hq0 ha
  rotate_left
  all_goals
   rcases hzz with ⟨rfl,rfl,rfl⟩|⟨rfl,rfl,hd0⟩|⟨rfl,hn0⟩
   focus
    go_enter Tryz.func45,Tryz.ntmps45
   rotate_left
   focus
    have hd1:(d==0)=false:=by simpa using hd0
    clear hd0
    go_enter Tryz.func45,Tryz.ntmps45
   rotate_left
   focus
    have hn1:(n==0)=false:=by simpa using hn0
    clear hn0
    go_enter Tryz.func45,Tryz.ntmps45
   rotate_left
   all_goals
    go_wp2_with (first
     |(go_at_call 60;refine(HV.out _).mono ?_;rintro e' w' ⟨rfl,bs,d',rfl⟩)
     |(go_at_call 96;refine(HD.out _).mono ?_;rintro e' w' ⟨rfl,bs,d',rfl⟩)
     |(go_at_call 57;refine(HO.out _).mono ?_;rintro e' w' ⟨rfl,rfl⟩))
    go_returns
    exact⟨by first|(rw [HW.out];first|rfl|(simp [*];done)|(simp;done))|rfl|(simp [*];done),growsR⟩
end Go.Proofs.YtaghhncnicbedaaGreatDoor
