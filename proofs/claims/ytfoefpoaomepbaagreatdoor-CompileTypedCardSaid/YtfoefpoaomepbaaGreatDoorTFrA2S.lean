import Derived.Test.YtfoefpoaomepbaaGreatDoorTFrM1
import Derived.Test.YtfoefpoaomepbaaGreatDoorTFrA1
import Derived.Test.YtfoefpoaomepbaaGreatDoorTFrA2L
import Derived.Test.YtfoefpoaomepbaaGreatDoorTFrA2M
import Derived.Test.YtfoefpoaomepbaaGreatDoorTLayF
import Derived.Test.YtfoefpoaomepbaaGreatDoorTK
set_option linter.all false
set_option maxHeartbeats 16000000
set_option maxRecDepth 1000000
namespace Go.Proofs.YtfoefpoaomepbaaGreatDoor
open Go.RowKit


theorem add2_same(an ad bn bd xh xl yh yl zh zl D r g q oh ol n1 n2 n3:Int)(s t:Bool)(w:World)(h1:decide (an<0)=s)(h2:decide (bn<0)=t)(h3:(s==t)=true)
 (V1:Hid (∀w,Calls Tryz.prog 175 #[.agg #[.int .i64 an,.int .i64 ad]] w fun e w'=>e= .returned (.bool true)∧w.Grows w')) (V2:Hid (∀w,Calls Tryz.prog 175 #[.agg #[.int .i64 bn,.int .i64 bd]] w fun e w'=>e= .returned (.bool true)∧w.Grows w'))
 (Z:Hid (∀n,I64 n→∀w,Calls Tryz.prog 177 #[.int .i64 n] w fun e w'=>e= .returned (.int .u64 (absI n))∧w=w')) (I1:I64 an) (I2:I64 ad) (I3:I64 bn) (I4:I64 bd)
 (T1:Hid (∀w,Calls Tryz.prog 176 #[.int .u64 (absI an),.int .u64 (absI bd)] w fun e w'=>e= .returned (.agg #[.int .u64 xh,.int .u64 xl])∧w.Grows w')) (T2:Hid (∀w,Calls Tryz.prog 176 #[.int .u64 (absI bn),.int .u64 (absI ad)] w fun e w'=>e= .returned (.agg #[.int .u64 yh,.int .u64 yl])∧w.Grows w')) (u3:IntKind.u64.wrap (absI ad*absI bd)=D) (g1:1≤g) (g0:(g==0)=false) (eq:IntKind.u64.wrap (D.tdiv g)=q)

 (O:Hid (∀w,Calls Tryz.prog 178 #[.agg #[.int .u64 xh,.int .u64 xl],.agg #[.int .u64 yh,.int .u64 yl]] w fun e w'=>e= .returned (.agg #[.int .u64 zh,.int .u64 zl])∧w.Grows w'))
 (hz:zh=0→zl=0→n1=0∧n2=1∧n3=0)
 (hq:zh≠0∨zl≠0→Hid (∀w,Calls Tryz.prog 183 #[.bool s,.agg #[.int .u64 oh,.int .u64 ol],.agg #[.int .u64 0,.int .u64 q]] w fun e w'=>(e= .returned (.tuple #[.agg #[.int .i64 n1,.int .i64 n2],.int .i64 n3])∧w.Grows w'))∧
  Hid (∀w,Calls Tryz.prog 184 #[.agg #[.int .u64 zh,.int .u64 zl],.int .u64 g] w fun e w'=>e= .returned (.agg #[.int .u64 oh,.int .u64 ol])∧w.Grows w')∧
  Hid (∀w,Calls Tryz.prog 182 #[.int .u64 zh,.int .u64 zl,.int .u64 D] w fun e w'=>e= .returned (.int .u64 r)∧w.Grows w')∧
  Hid (∀w,Calls Tryz.prog 181 #[.int .u64 D,.int .u64 r] w fun e w'=>e= .returned (.int .u64 g)∧w.Grows w'))
 :Calls Tryz.prog 139 (#[.agg #[.int .i64 an,.int .i64 ad],.agg #[.int .i64 bn,.int .i64 bd]]) w fun e w'=>(e= .returned (.tuple #[.agg #[.int .i64 n1,.int .i64 n2],.int .i64 n3])∧w.Grows w'):=by
 have L:Hid True:=Lib.hid trivial
 by_cases z1:zh=0
 ·subst z1
  by_cases z2:zl=0
  ·subst z2
   have R:Hid True:=Lib.hid trivial
   have G:Hid True:=Lib.hid trivial
   have E:=Lib.hid (hz rfl rfl)
   clear hz
   go_enter Tryz.func139,Tryz.ntmps139
   go_wp2_with (first|(go_at_call 175;(with_reducible refine(V1.out _).mono ?_);rintro e w' ⟨rfl,bs,dr,rfl⟩)|(go_at_call 175;(with_reducible refine(V2.out _).mono ?_);rintro e w' ⟨rfl,bs2,dr2,rfl⟩))
   generalize bs++bs2=B
   apply wp_region_made2b 16 (14,6,.cells #[.int .u64 0,.int .u64 0] 221) (15,7,.cells #[.int .u64 0,.int .u64 0] 221) (by kernel_rfl) (by kernel_rfl)
   case hrx=>
    intro o ho ρ w
    obtain rfl:=Option.some.inj ho
    simp [go_sem]
   case hry=>
    intro o ho ρ w
    obtain rfl:=Option.some.inj ho
    simp [go_sem]
   case h1=>
    intro bs d
    simp only [List.take_succ_cons,List.take_zero,List.map_cons,List.map_nil,Oper.mask]
    repeat(go_big_quiet_step ((first|(go_at_call 177;(with_reducible exact Calls.quietMS3 (Z.out _ (by assumption) _)))|(go_at_call 176;first|(with_reducible exact Calls.quietM3 (T1.out _))|(with_reducible exact Calls.quietM3 (T2.out _))))))
    exact wpQuiet_nil rfl
   all_goals
    intro gb1 gd1 gb2 gd2 gb gd
    simp only [List.drop_succ_cons,List.drop_zero,Act.put,List.setIfInBounds_toArray,List.set_cons_zero,List.set_cons_succ,World.grow_grow,World.size_grow,World.size_alloc,Array.size_append]
   all_goals
    clear T1 T2
    go_wp2_with (first|(go_at_call 179;(with_reducible refine(L.out _).mono ?_);rintro e w' ⟨rfl,bs3,dr3,rfl⟩)|(go_at_call 178;(with_reducible refine(O.out _).mono ?_);rintro e w' ⟨rfl,bs4,dr4,rfl⟩))
    clear O L
    refine TS.begin [7] (World.Grows _) (by kernel_rfl) (by kernel_rfl) grows_drew (fun hS=>?_)
    refine TS.wkB 0 hS ?_
    refine TS.wkB 1 hS ?_
    refine TS.takeC (i:=2) (v:=(.int .u64 (absI ad))) (fn:=177) (args:=#[.int .i64 ad]) rfl (by kernel_rfl) (by kernel_rfl) (by kernel_rfl) (by decide) (fun _ _ _ h=>h) rfl hS ?_ ?_ ?_
    focus
     rintro wS ⟨gbS,gdS,rfl⟩
     go_simp
    focus exact fun wS _=>(Z.out _ (by assumption) wS)
    (try simp only [nS])
    refine TS.wkB 3 hS ?_
    refine TS.wkB 4 hS ?_
    refine TS.takeC (i:=5) (v:=(.int .u64 (absI bd))) (fn:=177) (args:=#[.int .i64 bd]) rfl (by kernel_rfl) (by kernel_rfl) (by kernel_rfl) (by decide) (fun _ _ _ h=>h) rfl hS ?_ ?_ ?_
    focus
     rintro wS ⟨gbS,gdS,rfl⟩
     go_simp
    focus exact fun wS _=>(Z.out _ (by assumption) wS)
    (try simp only [nS])
    refine TS.wkB 6 hS ?_
    refine TS.weB 7 ?_
    clear hS
    go_wp2_with (first|(go_at_call 182;(with_reducible refine(R.out _).mono ?_);rintro e w' ⟨rfl,bs5,dr5,rfl⟩)|(go_at_call 181;(with_reducible refine(G.out _).mono ?_);rintro e w' ⟨rfl,bs6,dr6,rfl⟩))
   all_goals
    go_returns
    exact⟨by rw [E.out.1,E.out.2.1,E.out.2.2],.of_below belB⟩
  ·have z3:(zl==0)=false:=by simpa using z2
   obtain⟨Q,U,R,G⟩:=hq (.inr z2)
   clear hz hq
   go_enter Tryz.func139,Tryz.ntmps139
   go_wp2_with (first|(go_at_call 175;(with_reducible refine(V1.out _).mono ?_);rintro e w' ⟨rfl,bs,dr,rfl⟩)|(go_at_call 175;(with_reducible refine(V2.out _).mono ?_);rintro e w' ⟨rfl,bs2,dr2,rfl⟩))
   generalize bs++bs2=B
   apply wp_region_made2b 16 (14,6,.cells #[.int .u64 0,.int .u64 0] 221) (15,7,.cells #[.int .u64 0,.int .u64 0] 221) (by kernel_rfl) (by kernel_rfl)
   case hrx=>
    intro o ho ρ w
    obtain rfl:=Option.some.inj ho
    simp [go_sem]
   case hry=>
    intro o ho ρ w
    obtain rfl:=Option.some.inj ho
    simp [go_sem]
   case h1=>
    intro bs d
    simp only [List.take_succ_cons,List.take_zero,List.map_cons,List.map_nil,Oper.mask]
    repeat(go_big_quiet_step ((first|(go_at_call 177;(with_reducible exact Calls.quietMS3 (Z.out _ (by assumption) _)))|(go_at_call 176;first|(with_reducible exact Calls.quietM3 (T1.out _))|(with_reducible exact Calls.quietM3 (T2.out _))))))
    exact wpQuiet_nil rfl
   all_goals
    intro gb1 gd1 gb2 gd2 gb gd
    simp only [List.drop_succ_cons,List.drop_zero,Act.put,List.setIfInBounds_toArray,List.set_cons_zero,List.set_cons_succ,World.grow_grow,World.size_grow,World.size_alloc,Array.size_append]
   all_goals
    clear T1 T2
    go_wp2_with (first|(go_at_call 179;(with_reducible refine(L.out _).mono ?_);rintro e w' ⟨rfl,bs3,dr3,rfl⟩)|(go_at_call 178;(with_reducible refine(O.out _).mono ?_);rintro e w' ⟨rfl,bs4,dr4,rfl⟩))
    clear O L
    refine TS.begin [7] (World.Grows _) (by kernel_rfl) (by kernel_rfl) grows_drew (fun hS=>?_)
    refine TS.wkB 0 hS ?_
    refine TS.wkB 1 hS ?_
    refine TS.takeC (i:=2) (v:=(.int .u64 (absI ad))) (fn:=177) (args:=#[.int .i64 ad]) rfl (by kernel_rfl) (by kernel_rfl) (by kernel_rfl) (by decide) (fun _ _ _ h=>h) rfl hS ?_ ?_ ?_
    focus
     rintro wS ⟨gbS,gdS,rfl⟩
     go_simp
    focus exact fun wS _=>(Z.out _ (by assumption) wS)
    (try simp only [nS])
    refine TS.wkB 3 hS ?_
    refine TS.wkB 4 hS ?_
    refine TS.takeC (i:=5) (v:=(.int .u64 (absI bd))) (fn:=177) (args:=#[.int .i64 bd]) rfl (by kernel_rfl) (by kernel_rfl) (by kernel_rfl) (by decide) (fun _ _ _ h=>h) rfl hS ?_ ?_ ?_
    focus
     rintro wS ⟨gbS,gdS,rfl⟩
     go_simp
    focus exact fun wS _=>(Z.out _ (by assumption) wS)
    (try simp only [nS])
    refine TS.wkB 6 hS ?_
    refine TS.weB 7 ?_
    clear hS
    go_wp2_with (first|(go_at_call 182;(with_reducible refine(R.out _).mono ?_);rintro e w' ⟨rfl,bs5,dr5,rfl⟩)|(go_at_call 181;(with_reducible refine(G.out _).mono ?_);rintro e w' ⟨rfl,bs6,dr6,rfl⟩))
   all_goals
    clear R G
    have gz:¬g=0:=by omega
    refine TS.begin [11,12] (World.Grows _) (by kernel_rfl) (by kernel_rfl) grows_drew (fun hS=>?_)
    refine TS.wkB 0 hS ?_
    refine TS.wkB 1 hS ?_
    refine TS.wkB 2 hS ?_
    refine TS.wkB 4 hS ?_
    refine TS.wkB 5 hS ?_
    refine TS.takeV (i:=6) (v:=.int .u64 (q)) rfl (by kernel_rfl) (by kernel_rfl) (by kernel_rfl) (by decide) (fun _ _ _ h=>h) rfl hS ?_ ?_
    focus
     rintro wS ⟨gbS,gdS,rfl⟩
     go_simp
     (try exact eq)
    (try simp only [nS])
    refine TS.wkB 7 hS ?_
    refine TS.one (i:=3) (by kernel_rfl) rfl (fun K1 hK1=>?_)
    go_simp
    go_at_call 184
    refine(U.out _).mono ?_
    rintro e' wA ⟨rfl,bA,dA,rfl⟩
    refine TS.go hK1 (by first|exact⟨_,_,World.grow_grow _ _ _ _ _⟩|exact⟨_,_,rfl⟩) (fun hS=>?_)
    clear hK1 K1
    (try simp only [nS])
    refine TS.one (i:=8) (by kernel_rfl) rfl (fun K1 hK1=>?_)
    go_simp
    go_at_call 183
    refine(Q.out _).mono ?_
    rintro e' wA ⟨rfl,bA,dA,rfl⟩
    refine TS.go hK1 (by first|exact⟨_,_,World.grow_grow _ _ _ _ _⟩|exact⟨_,_,rfl⟩) (fun hS=>?_)
    clear hK1 K1
    (try simp only [nS])
    refine TS.wkB 9 hS ?_
    refine TS.wkB 10 hS ?_
    refine TS.wtB 11 ?_
    refine TS.weB 12 ?_
    clear hS
    go_wp2_with fail
    go_returns
    exact⟨rfl,.of_below belB⟩
 ·have z3:(zh==0)=false:=by simpa using z1
  obtain⟨Q,U,R,G⟩:=hq (.inl z1)
  clear hz hq
  go_enter Tryz.func139,Tryz.ntmps139
  go_wp2_with (first|(go_at_call 175;(with_reducible refine(V1.out _).mono ?_);rintro e w' ⟨rfl,bs,dr,rfl⟩)|(go_at_call 175;(with_reducible refine(V2.out _).mono ?_);rintro e w' ⟨rfl,bs2,dr2,rfl⟩))
  generalize bs++bs2=B
  apply wp_region_made2b 16 (14,6,.cells #[.int .u64 0,.int .u64 0] 221) (15,7,.cells #[.int .u64 0,.int .u64 0] 221) (by kernel_rfl) (by kernel_rfl)
  case hrx=>
   intro o ho ρ w
   obtain rfl:=Option.some.inj ho
   simp [go_sem]
  case hry=>
   intro o ho ρ w
   obtain rfl:=Option.some.inj ho
   simp [go_sem]
  case h1=>
   intro bs d
   simp only [List.take_succ_cons,List.take_zero,List.map_cons,List.map_nil,Oper.mask]
   repeat(go_big_quiet_step ((first|(go_at_call 177;(with_reducible exact Calls.quietMS3 (Z.out _ (by assumption) _)))|(go_at_call 176;first|(with_reducible exact Calls.quietM3 (T1.out _))|(with_reducible exact Calls.quietM3 (T2.out _))))))
   exact wpQuiet_nil rfl
  all_goals
   intro gb1 gd1 gb2 gd2 gb gd
   simp only [List.drop_succ_cons,List.drop_zero,Act.put,List.setIfInBounds_toArray,List.set_cons_zero,List.set_cons_succ,World.grow_grow,World.size_grow,World.size_alloc,Array.size_append]
  all_goals
   clear T1 T2
   go_wp2_with (first|(go_at_call 179;(with_reducible refine(L.out _).mono ?_);rintro e w' ⟨rfl,bs3,dr3,rfl⟩)|(go_at_call 178;(with_reducible refine(O.out _).mono ?_);rintro e w' ⟨rfl,bs4,dr4,rfl⟩))
   clear O L
   refine TS.begin [7] (World.Grows _) (by kernel_rfl) (by kernel_rfl) grows_drew (fun hS=>?_)
   refine TS.wkB 0 hS ?_
   refine TS.wkB 1 hS ?_
   refine TS.takeC (i:=2) (v:=(.int .u64 (absI ad))) (fn:=177) (args:=#[.int .i64 ad]) rfl (by kernel_rfl) (by kernel_rfl) (by kernel_rfl) (by decide) (fun _ _ _ h=>h) rfl hS ?_ ?_ ?_
   focus
    rintro wS ⟨gbS,gdS,rfl⟩
    go_simp
   focus exact fun wS _=>(Z.out _ (by assumption) wS)
   (try simp only [nS])
   refine TS.wkB 3 hS ?_
   refine TS.wkB 4 hS ?_
   refine TS.takeC (i:=5) (v:=(.int .u64 (absI bd))) (fn:=177) (args:=#[.int .i64 bd]) rfl (by kernel_rfl) (by kernel_rfl) (by kernel_rfl) (by decide) (fun _ _ _ h=>h) rfl hS ?_ ?_ ?_
   focus
    rintro wS ⟨gbS,gdS,rfl⟩
    go_simp
   focus exact fun wS _=>(Z.out _ (by assumption) wS)
   (try simp only [nS])
   refine TS.wkB 6 hS ?_
   refine TS.weB 7 ?_
   clear hS
   go_wp2_with (first|(go_at_call 182;(with_reducible refine(R.out _).mono ?_);rintro e w' ⟨rfl,bs5,dr5,rfl⟩)|(go_at_call 181;(with_reducible refine(G.out _).mono ?_);rintro e w' ⟨rfl,bs6,dr6,rfl⟩))
  all_goals
   clear R G
   have gz:¬g=0:=by omega
   refine TS.begin [11,12] (World.Grows _) (by kernel_rfl) (by kernel_rfl) grows_drew (fun hS=>?_)
   refine TS.wkB 0 hS ?_
   refine TS.wkB 1 hS ?_
   refine TS.wkB 2 hS ?_
   refine TS.wkB 4 hS ?_
   refine TS.wkB 5 hS ?_
   refine TS.takeV (i:=6) (v:=.int .u64 (q)) rfl (by kernel_rfl) (by kernel_rfl) (by kernel_rfl) (by decide) (fun _ _ _ h=>h) rfl hS ?_ ?_
   focus
    rintro wS ⟨gbS,gdS,rfl⟩
    go_simp
    (try exact eq)
   (try simp only [nS])
   refine TS.wkB 7 hS ?_
   refine TS.one (i:=3) (by kernel_rfl) rfl (fun K1 hK1=>?_)
   go_simp
   go_at_call 184
   refine(U.out _).mono ?_
   rintro e' wA ⟨rfl,bA,dA,rfl⟩
   refine TS.go hK1 (by first|exact⟨_,_,World.grow_grow _ _ _ _ _⟩|exact⟨_,_,rfl⟩) (fun hS=>?_)
   clear hK1 K1
   (try simp only [nS])
   refine TS.one (i:=8) (by kernel_rfl) rfl (fun K1 hK1=>?_)
   go_simp
   go_at_call 183
   refine(Q.out _).mono ?_
   rintro e' wA ⟨rfl,bA,dA,rfl⟩
   refine TS.go hK1 (by first|exact⟨_,_,World.grow_grow _ _ _ _ _⟩|exact⟨_,_,rfl⟩) (fun hS=>?_)
   clear hK1 K1
   (try simp only [nS])
   refine TS.wkB 9 hS ?_
   refine TS.wkB 10 hS ?_
   refine TS.wtB 11 ?_
   refine TS.weB 12 ?_
   clear hS
   go_wp2_with fail
   go_returns
   exact⟨rfl,.of_below belB⟩
theorem abs_nat(n:Int):absI n=((n.natAbs:Nat):Int):=rfl
theorem Mul2_any(an ad bn bd:Int)(w:World)(hi:I64x4 an ad bn bd):Calls Tryz.prog 141 #[.agg #[.int .i64 an,.int .i64 ad],.agg #[.int .i64 bn,.int .i64 bd]] w fun e w'=>e= .returned (frV (mulF an ad bn bd))∧w.Grows w':=by
 obtain⟨i1,i2,i3,i4⟩:=hi
 have V1:=Lib.hid (fun w=>Valid2_any an ad w i1.1 i1.2 i2.1 i2.2)
 have V2:=Lib.hid (fun w=>Valid2_any bn bd w i3.1 i3.2 i4.1 i4.2)
 by_cases hv:(vfrac an ad&&vfrac bn bd)=true
 case neg=>
  have e:mulF an ad bn bd=(0,0,1):=by unfold mulF;rw [if_neg hv]
  rw [e]
  exact mul2_no an ad bn bd _ _ w (Bool.eq_false_iff.2 hv) V1 V2
 have hva:=(Bool.and_eq_true_iff.1 hv).1
 have hvb:=(Bool.and_eq_true_iff.1 hv).2
 have e:mulF an ad bn bd=prdF (decide (an<0)!=decide (bn<0)) an.natAbs ad.natAbs bn.natAbs bd.natAbs:=by unfold mulF;rw [if_pos hv];try rfl
 rw [e]
 rw [hva]at V1
 rw [hvb]at V2
 have b1:=vfrac_bd hva
 have b2:=vfrac_bd hvb
 obtain⟨neg,hc,hz⟩:=mulCase an bn
 rw [←prdF_zero (b:=neg) hz]
 exact mul2_core an ad bn bd _ _ _ _ _ _ _ neg w rfl rfl rfl rfl hc V1 V2 (fun n h w=>size2_any n w h.1 h.2) i1 i2 i3 i4 (fun w=>quotient2_any neg an.natAbs ad.natAbs bn.natAbs bd.natAbs w (by omega) (by omega) (by omega) (by omega) (by omega) (by omega))
theorem Div2_any(an ad bn bd:Int)(w:World)(hi:I64x4 an ad bn bd):Calls Tryz.prog 142 #[.agg #[.int .i64 an,.int .i64 ad],.agg #[.int .i64 bn,.int .i64 bd]] w fun e w'=>e= .returned (frV (divF an ad bn bd))∧w.Grows w':=by
 obtain⟨i1,i2,i3,i4⟩:=hi
 have V1:=Lib.hid (fun w=>Valid2_any an ad w i1.1 i1.2 i2.1 i2.2)
 have V2:=Lib.hid (fun w=>Valid2_any bn bd w i3.1 i3.2 i4.1 i4.2)
 by_cases hv:(vfrac an ad&&vfrac bn bd)=true
 case neg=>
  have e:divF an ad bn bd=(0,0,1):=by unfold divF;rw [if_neg hv]
  rw [e]
  exact div2_no an ad bn bd _ _ w (Bool.eq_false_iff.2 hv) V1 V2
 have hva:=(Bool.and_eq_true_iff.1 hv).1
 have hvb:=(Bool.and_eq_true_iff.1 hv).2
 have e:divF an ad bn bd=(if bn=0 then(0,0,3)else prdF (decide (an<0)!=decide (bn<0)) an.natAbs ad.natAbs bd.natAbs bn.natAbs):=by unfold divF;rw [if_pos hv];try rfl
 rw [e]
 rw [hva]at V1
 rw [hvb]at V2
 have b1:=vfrac_bd hva
 have b2:=vfrac_bd hvb
 by_cases h0:bn=0
 ·subst h0
  rw [if_pos rfl]
  exact div2_zero an ad bd w V1 V2
 rw [if_neg h0]
 obtain⟨neg,hc,hz⟩:=mulCase an bn
 have hz':an.natAbs=0∨bd.natAbs=0∨neg=(decide (an<0)!=decide (bn<0)):=by
  rcases hz with h|h|h
  ·exact .inl h
  ·omega
  ·exact .inr (.inr h)
 rw [←prdF_zero (b:=neg) hz']
 exact div2_core an ad bn bd _ _ _ _ _ _ _ neg w rfl rfl rfl rfl hc (by simpa using h0) V1 V2 (fun n h w=>size2_any n w h.1 h.2) i1 i2 i3 i4 (fun w=>quotient2_any neg an.natAbs ad.natAbs bd.natAbs bn.natAbs w (by omega) (by omega) (by omega) (by omega) (by omega) (by omega))
theorem cross_bd{an bd:Int}(h1:-1000000000000000≤an)(h2:an≤1000000000000000)(h3:1≤bd)(h4:bd≤1000000000):an.natAbs*bd.natAbs≤1000000000000000000000000:=
 Nat.le_trans (Nat.mul_le_mul (show an.natAbs≤1000000000000000 by omega) (show bd.natAbs≤1000000000 by omega)) (by decide)
theorem dens_bd{ad bd:Int}(h1:1≤ad)(h2:ad≤1000000000)(h3:1≤bd)(h4:bd≤1000000000):0<ad.natAbs*bd.natAbs∧ad.natAbs*bd.natAbs≤1000000000000000000:=
 ⟨Nat.mul_pos (by omega) (by omega),Nat.le_trans (Nat.mul_le_mul (show ad.natAbs≤1000000000 by omega) (show bd.natAbs≤1000000000 by omega)) (by decide)⟩
theorem hiW_small{n:Nat}(h:n<18446744073709551616):hiW n=0:=by unfold hiW;omega
theorem loW_small{n:Nat}(h:n<18446744073709551616):loW n=(n:Int):=by unfold loW;omega
def addV(neg:Bool)(N D:Nat):Int × Int × Int:=(lowN neg N D,lowD N D,lowE N D)
theorem addV_neg{b c:Bool}{N D:Nat}(h:N=0∨b=c):addV b N D=addV c N D:=by unfold addV;rw [lowN_neg h]
theorem low_wit(neg:Bool)(N D:Nat)(hD:D≤1000000000000000000):witV neg (hiW (N / Nat.gcd N D)) (loW (N / Nat.gcd N D)) 0 ((D / Nat.gcd N D:Nat):Int)=frV (addV neg N D):=by
 have h:=frV_wit neg (N / Nat.gcd N D) (D / Nat.gcd N D)
 have h2:D / Nat.gcd N D≤D:=Nat.div_le_self _ _
 have e1:hiW (D / Nat.gcd N D)=0:=hiW_small (by omega)
 have e2:loW (D / Nat.gcd N D)=((D / Nat.gcd N D:Nat):Int):=loW_small (by omega)
 rw [e1,e2]at h
 rw [h]
 unfold addV lowN lowD lowE
 split<;>rfl
theorem den_wrap{ad bd:Int}{D:Nat}(h:ad.natAbs*bd.natAbs=D)(hD:D≤1000000000000000000):IntKind.u64.wrap (absI ad*absI bd)=(D:Int):=by
 have e:absI ad*absI bd=(D:Int):=by rw [abs_nat,abs_nat,←Int.natCast_mul,h]
 rw [e];exact IntWalk.u64_in _ (by omega)
theorem rest2(neg:Bool)(N D:Nat)(hN:N≤1000000000000000000000000000)(hD0:0<D)(hD:D≤1000000000000000000) :
 (hiW N=0→loW N=0→addV neg N D=(0,1,0))∧
 (∀w,Calls Tryz.prog 183 #[.bool neg,.agg #[.int .u64 (hiW (N / Nat.gcd N D)),.int .u64 (loW (N / Nat.gcd N D))],.agg #[.int .u64 0,.int .u64 (D / Nat.gcd N D:Nat)]] w fun e w'=>e= .returned (frV (addV neg N D))∧w.Grows w')∧
 (∀w,Calls Tryz.prog 184 #[.agg #[.int .u64 (hiW N),.int .u64 (loW N)],.int .u64 (Nat.gcd N D:Nat)] w fun e w'=>e= .returned (.agg #[.int .u64 (hiW (N / Nat.gcd N D)),.int .u64 (loW (N / Nat.gcd N D))])∧w.Grows w')∧
 (∀w,Calls Tryz.prog 182 #[.int .u64 (hiW N),.int .u64 (loW N),.int .u64 (D:Nat)] w fun e w'=>e= .returned (.int .u64 (remI N D))∧w.Grows w')∧
 (∀w,Calls Tryz.prog 181 #[.int .u64 (D:Nat),.int .u64 (remI N D)] w fun e w'=>e= .returned (.int .u64 (Nat.gcd N D:Nat))∧w.Grows w'):=by
 have hg:0<Nat.gcd N D:=Nat.gcd_pos_of_pos_right _ hD0
 have hgd:Nat.gcd N D≤D:=Nat.gcd_le_right _ hD0
 have hr:=remI_bd N D hD0
 refine⟨fun h1 h2=>?_,fun w=>?_,fun w=>?_,fun w=>?_,fun w=>?_⟩
 ·have:N=0:=by unfold hiW at h1;unfold loW at h2;omega
  subst this
  unfold addV lowN lowD lowE
  rw [Nat.gcd_zero_left,Nat.div_self hD0,Nat.zero_div]
  simp
 ·rw [←low_wit neg N D hD]
  exact within2_any _ _ _ _ _ w (loW_bd _).1 (Int.natCast_nonneg _)
 ·exact over2_any N (Nat.gcd N D) w (by omega) (by omega) hg
 ·exact Rem64_any N D w (by omega) (by omega) hD0
 ·have:=gcd2_any (D:Nat) (remI N D) w (by omega) (by omega) (by omega) (by omega)
  rw [gcd_rest N D hD0]at this
  exact Calls.quietD this
theorem Add2_any(an ad bn bd:Int)(w:World)(hi:I64x4 an ad bn bd):Calls Tryz.prog 139 #[.agg #[.int .i64 an,.int .i64 ad],.agg #[.int .i64 bn,.int .i64 bd]] w fun e w'=>e= .returned (frV (addF an ad bn bd))∧w.Grows w':=by
 obtain⟨i1,i2,i3,i4⟩:=hi
 have V1:=Lib.hid (fun w=>Valid2_any an ad w i1.1 i1.2 i2.1 i2.2)
 have V2:=Lib.hid (fun w=>Valid2_any bn bd w i3.1 i3.2 i4.1 i4.2)
 by_cases hv:(vfrac an ad&&vfrac bn bd)=true
 case neg=>
  have e:addF an ad bn bd=(0,0,1):=by unfold addF;rw [if_neg hv]
  rw [e]
  exact add2_no an ad bn bd _ _ w (Bool.eq_false_iff.2 hv) V1 V2
 have hva:=(Bool.and_eq_true_iff.1 hv).1
 have hvb:=(Bool.and_eq_true_iff.1 hv).2
 have e:addF an ad bn bd=addV (decide (addS an ad bn bd<0)) (addS an ad bn bd).natAbs (ad.natAbs*bd.natAbs):=by unfold addF;rw [if_pos hv];try rfl
 rw [e]
 rw [hva]at V1
 rw [hvb]at V2
 have b1:=vfrac_bd hva
 have b2:=vfrac_bd hvb
 have hD:=dens_bd b1.1 b1.2.1 b2.1 b2.2.1
 have c1:=cross_bd (an:=an) (bd:=bd) b1.2.2.1 b1.2.2.2 b2.1 b2.2.1
 have c2:=cross_bd (an:=bn) (bd:=ad) b2.2.2.1 b2.2.2.2 b1.1 b1.2.1
 have Z:Hid _:=Lib.hid (fun n (h:I64 n) w=>size2_any n w h.1 h.2)
 have T1:Hid _:=Lib.hid (fun w=>times_abs times2_any i1 i4 w)
 have T2:Hid _:=Lib.hid (fun w=>times_abs times2_any i3 i2 w)
 have hg (N:Nat):0<Nat.gcd N (ad.natAbs*bd.natAbs)∧Nat.gcd N (ad.natAbs*bd.natAbs)≤ad.natAbs*bd.natAbs:=⟨Nat.gcd_pos_of_pos_right _ hD.1,Nat.gcd_le_right _ hD.1⟩
 have hq (N:Nat):IntKind.u64.wrap ((((ad.natAbs*bd.natAbs:Nat):Int)).tdiv (Nat.gcd N (ad.natAbs*bd.natAbs):Nat))=((ad.natAbs*bd.natAbs / Nat.gcd N (ad.natAbs*bd.natAbs):Nat):Int):=by
  have:=(hg N).1
  rw [quo_u64 (by omega) (by omega) (by omega),ediv_nat]
 have key (neg:Bool) (N:Nat) (hN:N≤2000000000000000000000000):=rest2 neg N (ad.natAbs*bd.natAbs) (by omega) hD.1 hD.2
 have tr {a b:Int × Int × Int} (h:a=b):a.1=b.1∧a.2.1=b.2.1∧a.2.2=b.2.2:=by rw [h];exact⟨rfl,rfl,rfl⟩
 by_cases hs:decide (an<0)=decide (bn<0)
 ·obtain⟨e1,e2⟩:=add_same b1.1 b2.1 hs
  rw [addV_neg e2,e1]
  obtain⟨k1,k2,k3,k4,k5⟩:=key (decide (an<0)) (an.natAbs*bd.natAbs+bn.natAbs*ad.natAbs) (by omega)
  have g1:=hg (an.natAbs*bd.natAbs+bn.natAbs*ad.natAbs)
  exact add2_same an ad bn bd _ _ _ _ _ _ _ _ _ _ _ _ _ _ _ _ _ w rfl rfl (by rw [hs];simp) V1 V2 Z i1 i2 i3 i4 T1 T2 (den_wrap rfl hD.2) (by omega) (by simp;omega) (hq _)
   (fun w=>plus2_any _ _ w (by omega)) (fun h1 h2=>tr (k1 h1 h2)) (fun _=>⟨k2,k3,k4,k5⟩)
 ·obtain⟨f1,f2⟩:=add_diff b1.1 b2.1 hs
  have L:=fun w=>less2_any (hiW (an.natAbs*bd.natAbs)) (loW (an.natAbs*bd.natAbs)) (hiW (bn.natAbs*ad.natAbs)) (loW (bn.natAbs*ad.natAbs)) w
  rw [wless_nat]at L
  by_cases hl:an.natAbs*bd.natAbs<bn.natAbs*ad.natAbs
  ·obtain⟨e1,e2⟩:=f1 hl
   rw [addV_neg e2,e1]
   rw [decide_eq_true hl]at L
   obtain⟨k1,k2,k3,k4,k5⟩:=key (!decide (an<0)) (bn.natAbs*ad.natAbs-an.natAbs*bd.natAbs) (by omega)
   have hnn:decide (bn<0)=!decide (an<0):=by
    revert hs;cases decide (an<0)<;>cases decide (bn<0)<;>simp
   have g1:=hg (bn.natAbs*ad.natAbs-an.natAbs*bd.natAbs)
   rw [hnn]
   exact add2_less an ad bn bd _ _ _ _ _ _ _ _ _ _ _ _ _ _ _ _ _ w rfl rfl (by simpa using hs) V1 V2 Z i1 i2 i3 i4 T1 T2 (den_wrap rfl hD.2) (by omega) (by simp;omega) (hq _)
    L (fun w=>minus2_any _ _ w (by omega) (by omega)) (fun h1 h2=>tr (k1 h1 h2)) (fun _=>⟨k2,k3,k4,k5⟩)
  ·obtain⟨e1,e2⟩:=f2 (by omega)
   rw [addV_neg e2,e1]
   rw [decide_eq_false hl]at L
   obtain⟨k1,k2,k3,k4,k5⟩:=key (decide (an<0)) (an.natAbs*bd.natAbs-bn.natAbs*ad.natAbs) (by omega)
   have g1:=hg (an.natAbs*bd.natAbs-bn.natAbs*ad.natAbs)
   exact add2_more an ad bn bd _ _ _ _ _ _ _ _ _ _ _ _ _ _ _ _ _ w rfl rfl (by simpa using hs) V1 V2 Z i1 i2 i3 i4 T1 T2 (den_wrap rfl hD.2) (by omega) (by simp;omega) (hq _)
    L (fun w=>minus2_any _ _ w (by omega) (by omega)) (fun h1 h2=>tr (k1 h1 h2)) (fun _=>⟨k2,k3,k4,k5⟩)
theorem Sub2_any(an ad bn bd:Int)(w:World)(hi:I64x4 an ad bn bd):Calls Tryz.prog 140 #[.agg #[.int .i64 an,.int .i64 ad],.agg #[.int .i64 bn,.int .i64 bd]] w fun e w'=>e= .returned (frV (subF an ad bn bd))∧w.Grows w':=by
 obtain⟨i1,i2,i3,i4⟩:=hi
 have N:=Lib.hid (fun w=>Neg2_any bn bd w i3.1 i3.2 i4.1 i4.2)
 by_cases hv:vfrac bn bd=true
 ·have b2:=vfrac_bd hv
  have e0:subF an ad bn bd=addF an ad (-bn) bd:=by unfold subF;rw [if_pos hv]
  have e1:negF bn bd=(-bn,bd,0):=by unfold negF;rw [if_pos hv]
  have A:=Lib.hid (fun w=>Add2_any an ad (-bn) bd w ⟨i1,i2,by unfold I64;omega,i4⟩)
  rw [e1]at N
  rw [e0]
  generalize addF an ad (-bn) bd=r at *
  obtain⟨r1,r2,r3⟩:=r
  clear e0 e1 hv
  unfold frV at N A
  generalize -bn=c at *
  go_enter Tryz.func140,Tryz.ntmps140
  go_wp2_with (first|(go_at_call 137;(with_reducible refine(N.out _).mono ?_);rintro e w' ⟨rfl,bs,dr,rfl⟩)|(go_at_call 139;(with_reducible refine(A.out _).mono ?_);rintro e w' ⟨rfl,bs2,dr2,rfl⟩))
  exact tz59
 ·have e0:subF an ad bn bd=(0,0,1):=by unfold subF;rw [if_neg hv]
  have e1:negF bn bd=(0,0,1):=by unfold negF;rw [if_neg hv]
  rw [e1]at N
  rw [e0]
  clear e0 e1 hv
  unfold frV at N
  go_enter Tryz.func140,Tryz.ntmps140
  go_wp2_with (go_at_call 137;(with_reducible refine(N.out _).mono ?_);rintro e w' ⟨rfl,bs,dr,rfl⟩)
  exact tz59
end Go.Proofs.YtfoefpoaomepbaaGreatDoor
