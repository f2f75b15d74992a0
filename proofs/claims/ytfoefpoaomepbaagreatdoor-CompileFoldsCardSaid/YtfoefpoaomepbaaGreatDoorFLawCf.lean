import Derived.Test.YtfoefpoaomepbaaGreatDoorFTk14
import Derived.Test.YtfoefpoaomepbaaGreatDoorFWild
import Derived.Test.YtfoefpoaomepbaaGreatDoorFK
set_option linter.all false
set_option maxHeartbeats 16000000
set_option maxRecDepth 1000000
namespace Go.Proofs.YtfoefpoaomepbaaGreatDoor
open Go.RowKit
theorem cf_long(zs:List Int)(vl:Value)(wild:Bool)(dim:Int)(w:World)(hl:IntsAt w vl zs)(h:200<zs.length):Calls Tryz.prog 3 #[vl,.int .i64 dim,.bool wild] w fun e w'=>e= .returned (.bool true)∧w.Grows w':=by
 obtain⟨-,-,a1,c1,rfl,-⟩:=hl
 have hn:(200:Int)<(zs.length:Int):=by omega
 go_enter Tryz.func3,Tryz.ntmps3
 go_wp2_with fail
 exact fz27
theorem cf_wild(zs:List Int)(vl:Value)(dim:Int)(w:World)(hl:IntsAt w vl zs)(ht:Tab w)(h:¬200<zs.length):Calls Tryz.prog 3 #[vl,.int .i64 dim,.bool true] w fun e w'=>e= .returned (.bool true)∧w.Grows w':=by
 have HT:=Lib.hid ht
 have HWD:=Lib.hid (fun w' (hg:w.Grows w')=>Wild_any vl zs w' (IntsAt.list (IntsAt.growsG hl hg) (Nat.le_refl _)))
 unfold WildR exV at HWD
 have hl0:=hl
 obtain⟨-,-,a1,c1,rfl,-⟩:=hl0
 have hn:¬(200:Int)<(zs.length:Int):=by omega
 clear hl ht h
 go_enter Tryz.func3,Tryz.ntmps3
 go_upto_region 6 with (go_at_call 8;refine(HWD.out _ growsR).mono ?_;rintro e' w' ⟨E,v,rfl,⟨bs,d,rfl⟩,HRP,hsz⟩;obtain⟨va,vc,rfl⟩:=RepE.form0 HRP;have HRP:=Lib.hid HRP;have HSZ:=Lib.hid hsz;clear hsz)
 exact fz6
theorem cf_made(zs:List Int)(vl:Value)(dim:Int)(w:World)(hl:IntsAt w vl zs)(ht:Tab w)(h:¬200<zs.length)(dd:Int)(hdd:pick dim 4=dd)(hdb:0≤dd∧dd≤3):Calls Tryz.prog 3 #[vl,.int .i64 dim,.bool false] w fun e w'=>e= .returned (.bool true)∧w.Grows w':=by
 have HT:=Lib.hid ht
 have HWD:=Lib.hid (fun w' (hg:w.Grows w')=>Wild_any vl zs w' (IntsAt.list (IntsAt.growsG hl hg) (Nat.le_refl _)))
 have HMK:=Lib.hid (fun w' (hg:w.Grows w')=>Expr_any vl (.slice none 0 0) zs [] (1+dd) w' (IntsAt.list (IntsAt.growsG hl hg) (Nat.le_refl _)) (env_no _ _) (by omega) (by omega))
 have HSZ:Hid ((topF zs [] (1+dd)).size≤1000000):=Lib.hid (topF_size _ _ _)
 have HPK:=Lib.hid (fun W=>Pick_any dim 4 W (by decide))
 rw [hdd]at HPK
 unfold WildR exV at HWD
 unfold MadeEx exV at HMK
 have hl0:=hl
 obtain⟨-,-,a1,c1,rfl,-⟩:=hl0
 have hn:¬(200:Int)<(zs.length:Int):=by omega
 clear hl ht h hdd
 generalize topF zs [] (1+dd)=E at *
 go_enter Tryz.func3,Tryz.ntmps3
 go_upto_region 6 with (first|(go_at_call 8;refine(HWD.out _ growsR).mono ?_;rintro e' w' ⟨E0,v0,rfl,⟨bs,d,rfl⟩,HRP0,hsz0⟩;obtain⟨va0,vc0,rfl⟩:=RepE.form0 HRP0;clear HRP0 hsz0)|(go_at_call 10;refine(HPK.out _).mono ?_;rintro e' w' ⟨rfl,rfl⟩)|(go_at_call 9;refine(HMK.out _ growsR).mono ?_;rintro e' w' ⟨v,rfl,⟨bs1,d1,rfl⟩,HRP⟩;obtain⟨va,vc,rfl⟩:=RepE.form0 HRP;have HRP:=Lib.hid HRP))
 have HRP:=Lib.hid (HRP.out.lift0 (A':=(w.grow bs d).alloc (.cells #[.int .i64 E.op,.int .i64 E.num,.int .i64 E.den,.int .i64 E.dim,.string E.name,.slice va E.args.length vc] 27)) (by simp) (by simp) d1)
 exact fz6
theorem cf_any(zs:List Int)(vl:Value)(wild:Bool)(dim:Int)(w:World)(hl:IntsAt w vl zs)(ht:Tab w):Calls Tryz.prog 3 #[vl,.int .i64 dim,.bool wild] w fun e w'=>e= .returned (.bool true)∧w.Grows w':=by
 by_cases h:200<zs.length
 ·exact cf_long zs vl wild dim w hl h
 ·cases wild with
  |true=>exact cf_wild zs vl dim w hl ht h
  |false=>exact cf_made zs vl dim w hl ht h _ rfl (by have:=pick_bd dim 4 (by decide);omega)
end Go.Proofs.YtfoefpoaomepbaaGreatDoor
