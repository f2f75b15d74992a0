/- eval.ValidView: valid views in the program. -/
import Derived.Test.YtaghhncnicbedaaGreatDoorVv8B
import Derived.Test.YtaghhncnicbedaaGreatDoorBK
set_option linter.all false
set_option maxHeartbeats 16000000
set_option maxRecDepth 1000000
namespace Go.Proofs.YtaghhncnicbedaaGreatDoor
open Go.RowKit
theorem vv2_rng(v:Vw)(y:Value)(w:World)(hy:∃a n c,y= .slice a n c)(h:¬(0≤v.age∧v.age≤199∧1900≤v.year∧v.year≤2099∧0≤v.children∧v.children≤99)):(Calls Tryz.prog 48 #[vwV v y] w fun r w'=>r= .returned (.bool v.ok)∧w.Grows w'):=by
 have HF:=Lib.hid (rng_bad h)
 by_cases c1:v.age<0
 ·exact bz21
 by_cases c2:v.age > 199
 ·exact bz21
 by_cases c3:v.year<1900
 ·exact bz21
 by_cases c4:v.year > 2099
 ·exact bz21
 by_cases c5:v.children<0
 ·exact bz21
 have c6:v.children > 99:=by omega
 exact bz21
theorem idx7(x0 x1 x2 x3 x4 x5 x6:Int)(k:Nat)(hk:k<7)(w:World):(Instr.index 103 (.agg #[.int .i64 x0,.int .i64 x1,.int .i64 x2,.int .i64 x3,.int .i64 x4,.int .i64 x5,.int .i64 x6]) (.int .i64 (k:Int))).run Tryz.prog w= .ok (.int .i64 ([x0,x1,x2,x3,x4,x5,x6].getD k 0)) w:=by
 rcases(show k=0∨k=1∨k=2∨k=3∨k=4∨k=5∨k=6 by omega)with rfl|rfl|rfl|rfl|rfl|rfl|rfl<;>simp [Instr.index,go_sem]
theorem base_eq{n d:Int}(h:vfrac n d=true)(hn:0≤n):decide (n≤1000000000000*d)=(decide (n.tdiv d≤1000000000000)&&(decide (n.tdiv d<1000000000000) || decide (n.tmod d=0))):=by
 have hd:0<d:=by have:=vfrac_bd h;omega
 rw [Int.tdiv_eq_ediv_of_nonneg hn,Int.tmod_eq_emod_of_nonneg hn]
 have e:=Int.mul_ediv_add_emod n d
 have r0:=Int.emod_nonneg n (show d≠0 by omega)
 have r1:=Int.emod_lt_of_pos n hd
 generalize n / d=q at *
 generalize n % d=r at *
 by_cases c1:q<1000000000000
 ·have h1:d*q≤d*999999999999:=Int.mul_le_mul_of_nonneg_left (by omega) (by omega)
  rw [decide_eq_true c1,decide_eq_true (show q≤1000000000000 by omega),decide_eq_true (show n≤1000000000000*d by omega)];rfl
 ·rw [decide_eq_false c1,Bool.false_or]
  by_cases c2:q≤1000000000000
  ·obtain rfl:q=1000000000000:=by omega
   rw [decide_eq_true c2,Bool.true_and]
   by_cases c3:r=0
   ·rw [decide_eq_true c3,decide_eq_true (by omega)]
   ·rw [decide_eq_false c3,decide_eq_false (by omega)]
  ·have h1:d*1000000000001≤d*q:=Int.mul_le_mul_of_nonneg_left (by omega) (by omega)
   rw [decide_eq_false c2,Bool.false_and,decide_eq_false (by omega)]
theorem vv2_yrs(v:Vw)(y:Value)(w:World)(hy:YrAt w y v.years)(h:0≤v.age∧v.age≤199∧1900≤v.year∧v.year≤2099∧0≤v.children∧v.children≤99)(hyo:yearsOk v.years=false):(Calls Tryz.prog 48 #[vwV v y] w fun r w'=>r= .returned (.bool v.ok)∧w.Grows w'):=by
 have HF:Hid (v.ok=false):=Lib.hid (by rw [Vw.ok_split,hyo,Bool.and_false])
 have HY:=Lib.hid hy
 have HYR:=Lib.hid (fun w' (hg:w.Grows w')=>validYears_any v.years y w' (HY.out.grows hg))
 rw [hyo]at HYR
 obtain⟨-,a,c,rfl,-⟩:=hy
 obtain⟨h1,h2,h3,h4,h5,h6⟩:=h
 clear hyo
 unfold vwV
 go_enter Tryz.func48,Tryz.ntmps48
 go_wp2_with (go_at_call 99;refine(HYR.out _ (.of_below belB)).mono ?_;rintro e' w' ⟨rfl,bs,d,rfl⟩)
 go_returns
 exact⟨ret_bool HF.out.symm,.of_below belB⟩
theorem vv2_in(v:Vw)(y:Value)(w:World)(hr:VwRng v)(hy:YrAt w y v.years)(h:0≤v.age∧v.age≤199∧1900≤v.year∧v.year≤2099∧0≤v.children∧v.children≤99)(hyo:yearsOk v.years=true):(Calls Tryz.prog 48 #[vwV v y] w fun r w'=>r= .returned (.bool v.ok)∧w.Grows w'):=by
 have HY:=Lib.hid hy
 have HB:Hid (∀k,k<7→daysOk (v.ds.getD k 0)=false→v.ok=false):=Lib.hid (fun k hk hb=>ds_bad hk hb)
 have HG:Hid ((∀k,k<7→daysOk (v.ds.getD k 0)=true)→v.ok=v.baseB):=Lib.hid (fun hg=>by
  rw [Vw.ok_split,ds_good hg,hyo];unfold Vw.rngB;rw [decide_eq_true h];simp)
 have HYR:=Lib.hid (fun w' (hg:w.Grows w')=>validYears_any v.years y w' (HY.out.grows hg))
 rw [hyo]at HYR
 have HV:=Lib.hid (fun w=>Valid2_any v.bn v.bd w hr.base.1.1 hr.base.1.2 hr.base.2.1 hr.base.2.2)
 obtain⟨-,a,c,rfl,-⟩:=hy
 obtain⟨h1,h2,h3,h4,h5,h6⟩:=h
 have HI:=Lib.hid hr.base
 have HIX:=Lib.hid (idx7 v.insured v.worked v.voluntary v.service v.equated v.raising v.resident)
 clear hr hyo
 unfold vwV
 go_enter Tryz.func48,Tryz.ntmps48
 go_wp2_with ((first|(go_at_call 99;refine(HYR.out _ (.of_below (by(repeat' (first|(with_reducible exact Below.refl _ _)|(with_reducible assumption)|(with_reducible refine Below.grow ?_ ?_ _ _)|(with_reducible refine Below.alloc ?_ ?_ _)|(with_reducible refine Below.drewN ?_ _)|(with_reducible refine Below.drew ?_)|(with_reducible refine Below.setCell ?_ ?_ _)|go_size))))).mono ?_;rintro e' w' ⟨rfl,bs,d,rfl⟩)|(go_at_call 85;refine(HV.out _).mono ?_;rintro e' w' ⟨rfl,bs3,d3,rfl⟩)))
 obtain⟨W,hW⟩:∃W,(w.alloc (.cells #[.int .i64 v.age,.int .i64 v.year,.int .i64 v.children,.int .i64 v.insured,.int .i64 v.worked,.int .i64 v.voluntary,.int .i64 v.service,.int .i64 v.equated,.int .i64 v.raising,.int .i64 v.resident,.int .i64 v.bn,.int .i64 v.bd,.slice a v.years.length c] 41)).grow bs d=W:=⟨_,rfl⟩
 have hg:w.Grows W:=by rw [←hW];exact .of_below belB
 have b0:W.cell? ⟨w.heap.size,10,none⟩=some (.int .i64 v.bn):=by rw [←hW];simp [go_sem]
 have b1:W.cell? ⟨w.heap.size,11,none⟩=some (.int .i64 v.bd):=by rw [←hW];simp [go_sem]
 have hsz:w.heap.size<W.heap.size:=by rw [←hW];simp;omega
 rw [hW]
 clear hW
 have HG2:=Lib.hid hg
 clear hg
 go_loopw [54] (fun v54 wr=>∃k:Nat,k≤7∧v54= .int .i64 k∧Hid (∀j,j<k→daysOk (v.ds.getD j 0)=true)∧W=wr) (fun v54 _=>7-(intOf v54).toNat)
 case atStart=>exact⟨0,by omega,rfl,Lib.hid (fun j hj=>by omega),rfl⟩
 case round=>
  obtain⟨k,hk,rfl,hno,rfl⟩:=hrel
  by_cases hlt:k<7
  ·have x0:=HIX.out k hlt W
   have d1:(k:Int)<7:=by omega
   have HKL:=Lib.hid hlt
   clear hlt
   obtain⟨dk,hdk⟩:∃dk,v.ds.getD k 0=dk:=⟨_,rfl⟩
   unfold Vw.ds at hdk
   rw [hdk]at x0
   have HDK:Hid (v.ds.getD k 0=dk):=Lib.hid hdk
   exact bz11
  ·obtain rfl:k=7:=by omega
   have HF:=Lib.hid (HG.out hno.out)
   unfold Vw.baseB at HF
   cases hq:vfrac v.bn v.bd with
   |false=>
    rw [hq]at HF HV
    have HF2:Hid (v.ok=false):=Lib.hid (by rw [HF.out];rfl)
    clear hq
    go_wp2_with ((first|(go_at_call 99;refine(HYR.out _ (.of_below (by(repeat' (first|(with_reducible exact Below.refl _ _)|(with_reducible assumption)|(with_reducible refine Below.grow ?_ ?_ _ _)|(with_reducible refine Below.alloc ?_ ?_ _)|(with_reducible refine Below.drewN ?_ _)|(with_reducible refine Below.drew ?_)|(with_reducible refine Below.setCell ?_ ?_ _)|go_size))))).mono ?_;rintro e' w' ⟨rfl,bs,d,rfl⟩)|(go_at_call 85;refine(HV.out _).mono ?_;rintro e' w' ⟨rfl,bs3,d3,rfl⟩)))
    go_returns
    exact⟨ret_bool (by rw [HF2.out];try exact decide_eq_false (by omega)),World.Grows.trans HG2.out (.of_below belB)⟩
   |true=>
    have HBE:=Lib.hid (fun hn=>base_eq hq hn)
    have hbd:=vfrac_bd hq
    have hd0:v.bd≠0:=by omega
    rw [hq]at HF HV
    clear hq
    by_cases g2:v.bn≥0
    ·have HF3:Hid (v.ok=(decide (v.bn.tdiv v.bd≤1000000000000)&&(decide (v.bn.tdiv v.bd<1000000000000) || decide (v.bn.tmod v.bd=0)))):=Lib.hid (by
      rw [HF.out,←HBE.out g2,Bool.true_and]
      simp [g2])
     have t1:=Int.tdiv_eq_ediv_of_nonneg (b:=v.bd) g2
     have t2:=Int.tmod_eq_emod_of_nonneg (b:=v.bd) g2
     have hb0:v.bn≤1000000000000000:=by omega
     have u1:0≤v.bn / v.bd:=Int.ediv_nonneg g2 (by omega)
     have u2:v.bn / v.bd≤1000000000000000:=Int.le_trans (Int.ediv_le_self v.bd g2) hb0
     have u3:=Int.emod_nonneg v.bn hd0
     have u4:=Int.emod_lt_of_pos v.bn (show 0<v.bd by omega)
     have e1:IntKind.i64.wrap (v.bn.tdiv v.bd)=v.bn.tdiv v.bd:=IntWalk.i64_in _ (by rw [t1];omega)
     have e2:IntKind.i64.wrap (v.bn.tmod v.bd)=v.bn.tmod v.bd:=IntWalk.i64_in _ (by rw [t2];omega)
     have e3:IntKind.i64.wrap (v.bn / v.bd)=v.bn / v.bd:=IntWalk.i64_in _ (by omega)
     have e4:IntKind.i64.wrap (v.bn % v.bd)=v.bn % v.bd:=IntWalk.i64_in _ (by omega)
     rw [t1,t2]at HF3
     by_cases c1:v.bn / v.bd<1000000000000
     ·have c2:v.bn / v.bd≤1000000000000:=by omega
      have HF2:Hid (v.ok=true):=Lib.hid (by rw [HF3.out,decide_eq_true c1,decide_eq_true c2];rfl)
      go_wp2_with ((first|(go_at_call 99;refine(HYR.out _ (.of_below (by(repeat' (first|(with_reducible exact Below.refl _ _)|(with_reducible assumption)|(with_reducible refine Below.grow ?_ ?_ _ _)|(with_reducible refine Below.alloc ?_ ?_ _)|(with_reducible refine Below.drewN ?_ _)|(with_reducible refine Below.drew ?_)|(with_reducible refine Below.setCell ?_ ?_ _)|go_size))))).mono ?_;rintro e' w' ⟨rfl,bs,d,rfl⟩)|(go_at_call 85;refine(HV.out _).mono ?_;rintro e' w' ⟨rfl,bs3,d3,rfl⟩)))
      go_returns
      exact⟨ret_bool (by rw [HF2.out];try exact decide_eq_false (by omega)),World.Grows.trans HG2.out (.of_below belB)⟩
     ·by_cases c2:v.bn / v.bd≤1000000000000
      ·by_cases c3:v.bn % v.bd=0
       focus
        have HF2:Hid (v.ok=true):=Lib.hid (by rw [HF3.out,decide_eq_true c3,decide_eq_true c2,Bool.or_true];rfl)
       rotate_left
       focus
        have c4:(v.bn % v.bd==0)=false:=by simpa using c3
        have HF2:Hid (v.ok=false):=Lib.hid (by rw [HF3.out,decide_eq_false c3,decide_eq_false c1];simp)
       rotate_left
       all_goals
        go_wp2_with ((first|(go_at_call 99;refine(HYR.out _ (.of_below (by(repeat' (first|(with_reducible exact Below.refl _ _)|(with_reducible assumption)|(with_reducible refine Below.grow ?_ ?_ _ _)|(with_reducible refine Below.alloc ?_ ?_ _)|(with_reducible refine Below.drewN ?_ _)|(with_reducible refine Below.drew ?_)|(with_reducible refine Below.setCell ?_ ?_ _)|go_size))))).mono ?_;rintro e' w' ⟨rfl,bs,d,rfl⟩)|(go_at_call 85;refine(HV.out _).mono ?_;rintro e' w' ⟨rfl,bs3,d3,rfl⟩)))
        go_returns
        exact⟨ret_bool (by rw [HF2.out];try exact decide_eq_false (by omega)),World.Grows.trans HG2.out (.of_below belB)⟩
      ·have HF2:Hid (v.ok=false):=Lib.hid (by rw [HF3.out,decide_eq_false c2];rfl)
       go_wp2_with ((first|(go_at_call 99;refine(HYR.out _ (.of_below (by(repeat' (first|(with_reducible exact Below.refl _ _)|(with_reducible assumption)|(with_reducible refine Below.grow ?_ ?_ _ _)|(with_reducible refine Below.alloc ?_ ?_ _)|(with_reducible refine Below.drewN ?_ _)|(with_reducible refine Below.drew ?_)|(with_reducible refine Below.setCell ?_ ?_ _)|go_size))))).mono ?_;rintro e' w' ⟨rfl,bs,d,rfl⟩)|(go_at_call 85;refine(HV.out _).mono ?_;rintro e' w' ⟨rfl,bs3,d3,rfl⟩)))
       go_returns
       exact⟨ret_bool (by rw [HF2.out];try exact decide_eq_false (by omega)),World.Grows.trans HG2.out (.of_below belB)⟩
    ·have HF2:Hid (v.ok=false):=Lib.hid (by rw [HF.out,decide_eq_false (fun h=>g2 h.1)];rfl)
     go_wp2_with ((first|(go_at_call 99;refine(HYR.out _ (.of_below (by(repeat' (first|(with_reducible exact Below.refl _ _)|(with_reducible assumption)|(with_reducible refine Below.grow ?_ ?_ _ _)|(with_reducible refine Below.alloc ?_ ?_ _)|(with_reducible refine Below.drewN ?_ _)|(with_reducible refine Below.drew ?_)|(with_reducible refine Below.setCell ?_ ?_ _)|go_size))))).mono ?_;rintro e' w' ⟨rfl,bs,d,rfl⟩)|(go_at_call 85;refine(HV.out _).mono ?_;rintro e' w' ⟨rfl,bs3,d3,rfl⟩)))
     go_returns
     exact⟨ret_bool (by rw [HF2.out];try exact decide_eq_false (by omega)),World.Grows.trans HG2.out (.of_below belB)⟩
theorem ValidView2_any(v:Vw)(y:Value)(w:World)(hr:VwRng v)(hy:YrAt w y v.years):(Calls Tryz.prog 48 #[vwV v y] w fun r w'=>r= .returned (.bool v.ok)∧w.Grows w'):=by
 by_cases h:0≤v.age∧v.age≤199∧1900≤v.year∧v.year≤2099∧0≤v.children∧v.children≤99
 ·by_cases hyo:yearsOk v.years=true
  ·exact vv2_in v y w hr hy h hyo
  ·exact vv2_yrs v y w hy h (by simpa using hyo)
 ·obtain⟨-,a,c,rfl,-⟩:=hy
  exact vv2_rng v _ w ⟨_,_,_,rfl⟩ h
end Go.Proofs.YtaghhncnicbedaaGreatDoor
