import Derived.Test.YtfoefpoaomepbaaGreatDoorFBoP
set_option linter.all false
set_option maxHeartbeats 16000000
set_option maxRecDepth 1000000
namespace Go.Proofs.YtfoefpoaomepbaaGreatDoor
structure VwR where
 age:Int
 year:Int
 children:Int
 base:Int
 den:Int
 days:List Int
 years:List Int
def VwR.d(R:VwR)(i:Nat):Int:=if i<R.days.length then pick (R.days.getD i 0) 20000 else 0
def viewP(R:VwR):Vw:=⟨pick R.age 110,1900+pick R.year 200,pick R.children 8,R.d 0,R.d 1,R.d 2,R.d 3,R.d 4,R.d 5,R.d 6,mkN (pick R.base 1000000) (pick R.den 12+1),mkD (pick R.base 1000000) (pick R.den 12+1),(R.years.take 20).map fun z=>pick z 5000000⟩
theorem VwR.d_bd(R:VwR)(i:Nat):0≤R.d i∧R.d i<20000:=by
 unfold VwR.d
 split
 ·exact pick_bd _ 20000 (by omega)
 ·omega
theorem le_mul_of{a b d n:Int}(h0:0≤a)(hb:0≤b)(hd:1≤d)(h:a*d=n*b)(hn:n≤1000000000000):a≤1000000000000*b:=by
 have h1:a*1≤a*d:=Int.mul_le_mul_of_nonneg_left hd h0
 have h2:n*b≤1000000000000*b:=Int.mul_le_mul_of_nonneg_right hn hb
 omega
theorem mkN_nonneg{n d:Int}(h1:0≤n)(h2:1≤d):0≤mkN n d:=by
 unfold mkN lowN
 rw [if_neg (by omega),decide_eq_false (by omega),decide_eq_false (by omega)]
 split
 ·omega
 ·simp only [bne_self_eq_false,Bool.false_eq_true,if_false]
  exact Int.natCast_nonneg _
theorem viewP_ok(R:VwR):(viewP R).ok=true:=by
 have a:=pick_bd R.age 110 (by omega)
 have b:=pick_bd R.year 200 (by omega)
 have c:=pick_bd R.children 8 (by omega)
 have n:=pick_bd R.base 1000000 (by omega)
 have d:=pick_bd R.den 12 (by omega)
 have e:=mkE_small n.1 (by omega) (show 1≤pick R.den 12+1 by omega) (by omega)
 have v:=mk_vfrac (show pick R.den 12+1≠0 by omega) e
 have m:=mk_value n.1 (show 1≤pick R.den 12+1 by omega) e
 have nn:=mkN_nonneg n.1 (show 1≤pick R.den 12+1 by omega)
 have vb:=vfrac_bd v
 have le:=le_mul_of nn (by omega) (show 1≤pick R.den 12+1 by omega) m (by omega)
 have dd:∀i,daysOk (R.d i)=true:=fun i=>by
  have:=R.d_bd i
  unfold daysOk
  exact decide_eq_true (by omega)
 have yy:yearsOk ((R.years.take 20).map fun z=>pick z 5000000)=true:=by
  unfold yearsOk
  rw [decide_eq_true (by rw [List.length_map,List.length_take];omega),Bool.true_and,List.all_eq_true]
  intro x hx
  obtain⟨z,-,rfl⟩:=List.mem_map.1 hx
  have:=pick_bd z 5000000 (by omega)
  exact decide_eq_true (by omega)
 unfold Vw.ok viewP
 dsimp only
 rw [decide_eq_true ⟨by omega,by omega,by omega,by omega,by omega,by omega⟩,dd,dd,dd,dd,dd,dd,dd,v,decide_eq_true ⟨nn,le⟩,yy]
 rfl
theorem viewP_len(R:VwR):(viewP R).years.length≤20:=by
 show((R.years.take 20).map fun z=>pick z 5000000).length≤20
 rw [List.length_map,List.length_take];omega
end Go.Proofs.YtfoefpoaomepbaaGreatDoor
