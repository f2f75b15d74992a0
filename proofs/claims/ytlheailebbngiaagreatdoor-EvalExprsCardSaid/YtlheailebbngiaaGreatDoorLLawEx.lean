import Derived.Test.YtlheailebbngiaaGreatDoorLWild
import Derived.Test.YtlheailebbngiaaGreatDoorLV8c
import Derived.Test.YtlheailebbngiaaGreatDoorLVwOf
set_option linter.all false
set_option maxHeartbeats 16000000
set_option maxRecDepth 1000000
namespace Go.Proofs.YtlheailebbngiaaGreatDoor
open Go.RowKit
theorem ex_long(zs:List Int)(vl ve:Value)(a b c d e dim:Int)(wild:Bool)(vd vy:Value)(w:World)(hl:IntsAt w vl zs)(h:200<zs.length) :
 Calls Tryz.prog 6 #[vl,.agg #[.int .i64 a,.int .i64 b,.int .i64 c,.int .i64 d,.int .i64 e,vd,vy],ve,.bool wild,.int .i64 dim] w fun e w'=>e= .returned (.bool true)∧w.Grows w':=by
 obtain⟨-,-,a1,c1,rfl,-⟩:=hl
 have hn:(200:Int)<(zs.length:Int):=by omega
 clear h
 go_enter Tryz.func6,Tryz.ntmps6
 go_wp2_with fail
 go_returns
 exact⟨rfl,.of_below belB⟩
theorem dimsE_names(es:List Int):∀x∈dimsOf (stepsP es),x.1.size≤140737488355328:=by
 rw [stepsP_dims]
 intro x hx
 obtain⟨i,-,rfl⟩:=List.mem_map.1 hx
 show(nmS i).size≤_
 unfold nmS
 (repeat' split)<;>decide
def ExC8(v:Vw)(se:Value)(env:List (ByteArray × Val))(E:Ex)(r:Val × Int):Prop:=∀(ya:Option Addr) (yc:Nat) (w':World) (a:Option Addr) (cap:Nat),RepE (fun _=>True) w' E (.slice a E.args.length cap)→YrAt w' (.slice ya v.years.length yc) v.years→StpAt w' se env→
 Calls Tryz.prog 30 #[.agg #[.int .i64 E.op,.int .i64 E.num,.int .i64 E.den,.int .i64 E.dim,.string E.name,.slice a E.args.length cap],vwV v (.slice ya v.years.length yc),se] w' fun e w''=>e= .returned (.tuple #[.agg #[.int .i64 r.1.dim,.bool r.1.yes,.int .i64 r.1.n,.int .i64 r.1.d],.int .i64 r.2])∧w'.Grows w''
theorem exC8{v:Vw}(hrng:VwRng v){se:Value}{env:List (ByteArray × Val)}(hE:∀p∈env,p.2.ok=true){E:Ex}{r:Val × Int}(hr:exprF' v env E=r)(hb:E.size≤2305843009213693952):ExC8 v se env E r:=by
 subst hr
 intro ya yc w' a cap hR hy hs
 exact Expr8_any (fun _=>True) v _ se env E a cap w' hR hb hy hrng hs (fun p hp=>Val.ok_rng (hE p hp))
theorem ex_core(zs es:List Int)(R:VwR)(vl ve vd vy:Value)(wild:Bool)(dim:Int)(w:World)(hl:IntsAt w vl zs)(he:IntsAt w ve es)(hd:IntsAt w vd R.days)(hy:IntsAt w vy R.years)(ht:Tab w)(h1:zs.length≤200)
 (v:Vw) (env:List (ByteArray × Val)) (dd:Int) (hdd:Hid (1+pick dim 4=dd)) (hdb:1≤dd∧dd≤4) (henv:Hid (stepsP es=env)) (hv:Hid (viewP R=v))
 (hnm:Hid (∀x∈dimsOf env,x.1.size≤140737488355328)) (heok:Hid (∀p∈env,p.2.ok=true)) (hrng:Hid (VwRng v)) :
 Calls Tryz.prog 6 #[vl,.agg #[.int .i64 R.age,.int .i64 R.year,.int .i64 R.children,.int .i64 R.base,.int .i64 R.den,vd,vy],ve,.bool wild,.int .i64 dim] w fun e w'=>e= .returned (.bool true)∧w.Grows w':=by
 have HT:=Lib.hid ht
 have HV:=Lib.hid (fun w' (hg:w.Grows w')=>viewOf_any R vd vy w' (IntsAt.growsG hd hg) (IntsAt.growsG hy hg))
 have HMK:=Lib.hid (fun w' (hg:w.Grows w') (ev:Value) (he:EnvAt w' w'.heap.size ev (dimsOf env))=>Expr_any vl ev zs (dimsOf env) dd w' (IntsAt.list (IntsAt.growsG hl hg) (Nat.le_refl _)) he (by omega) (by omega))
 have HWD:=Lib.hid (fun w' (hg:w.Grows w')=>Wild_any vl zs w' (IntsAt.list (IntsAt.growsG hl hg) (Nat.le_refl _)))
 have HSP:=Lib.hid (fun w' (hg:w.Grows w')=>steps8_any es ve w' (IntsAt.growsG he hg))
 unfold VoP vwV at HV
 unfold MadeEx exV at HMK
 unfold WildR exV at HWD
 unfold StpP at HSP
 rw [hv.out]at HV
 rw [henv.out]at HSP
 have hn1:¬(200:Int)<(zs.length:Int):=by omega
 have hw1:IntKind.i64.wrap (1+pick dim 4)=dd:=by rw [IntWalk.i64_in _ (by have:=pick_bd dim 4 (by omega);omega)];exact hdd.out
 have hw2:1+pick dim 4=dd:=hdd.out
 obtain⟨-,-,la,lc,rfl,-⟩:=hl
 obtain⟨-,-,ea,ec,rfl,-⟩:=he
 obtain⟨-,-,da,dc,rfl,-⟩:=hd
 obtain⟨-,-,ya,yc,rfl,-⟩:=hy
 clear ht
 go_enter Tryz.func6,Tryz.ntmps6
 go_wp2_with fail
 go_at_call 25
 refine(HSP.out _ growsP).mono ?_
 rintro e' w' ⟨sv,rfl,⟨bs,d,rfl⟩,hst⟩
 have HST:=Lib.hid hst
 obtain⟨-,sa,sc,rfl,-⟩:=hst
 go_wp2_with fail
 go_at_call 26
 refine(HWD.out _ growsP).mono ?_
 rintro e' w' ⟨E,cv,rfl,⟨bs3,d3,rfl⟩,hrep,hsz⟩
 have HREP0:=Lib.hid (hrep.mono (S':=fun _=>True) (fun _ _=>trivial))
 obtain⟨ca0,cc0,rfl⟩:=hrep.form0
 clear hrep
 cases wild with
 |true=>
  have HREP:=HREP0
  have HSZ:Hid (E.size≤1000000):=Lib.hid hsz
  obtain⟨⟨⟨rm,ry,rn,rd⟩,rc⟩,hr⟩:∃r,exprF' v env E=r:=⟨_,rfl⟩
  clear hsz HMK HWD HSP HREP0
  go_wp2_with fail
  have HX:=Lib.hid (exC hrng.out (se:=.slice sa env.length sc) heok.out hr (by have:=HSZ.out;omega))
  have HX8:=Lib.hid (exC8 hrng.out (se:=.slice sa env.length sc) heok.out hr (by have:=HSZ.out;omega))
  unfold ExC vwV at HX
  unfold ExC8 vwV at HX8
  dsimp only at HX HX8
  clear hr
  go_at_call 14
  refine(HV.out _ growsP).mono ?_
  rintro e' w' ⟨yv,rfl,⟨bs5,d5,rfl⟩,hyv⟩
  have HYV:=Lib.hid hyv
  obtain⟨-,ya1,yc1,rfl,-⟩:=hyv
  go_wp2_with fail
  go_at_call 29
  refine(HX.out ya1 yc1 _ ca0 cc0 (HREP.out.grows growsP) (HT.out.grows growsP) (HYV.out.grows growsP) (HST.out.grows growsP)).mono ?_
  rintro e' w' ⟨rfl,bs6,d6,rfl⟩
  go_wp2_with fail
  go_at_call 30
  refine(HX8.out ya1 yc1 _ ca0 cc0 (HREP.out.grows growsP) (HYV.out.grows growsP) (HST.out.grows growsP)).mono ?_
  rintro e' w' ⟨rfl,bs7,d7,rfl⟩
  go_wp2_with (go_at_call 19;refine(awake8_any _ (HT.out.grows growsP)).mono ?_;rintro e' w' ⟨rfl,bs9,d9,rfl⟩)
  go_returns
  exact⟨rfl,growsP⟩
 |false=>
  obtain⟨E2,hE2⟩:∃E2,topF zs (dimsOf env) dd=E2:=⟨_,rfl⟩
  have HSZ:Hid (E2.size≤1000000):=Lib.hid (by rw [←hE2];exact topF_size _ _ _)
  rw [hE2]at HMK
  obtain⟨⟨⟨rm,ry,rn,rd⟩,rc⟩,hr⟩:∃r,exprF' v env E2=r:=⟨_,rfl⟩
  clear hE2 hsz HWD HSP HREP0
  go_wp2_with (go_at_call 15;refine(Pick_any _ _ _ (by omega)).mono ?_;rintro e' w' ⟨rfl,rfl⟩)
  go_at_call 28
  refine(bindings8_any env _ _ (HST.out.grows growsP)).mono ?_
  rintro e' w' ⟨bv,rfl,⟨bs2,d2,rfl⟩,hbd⟩
  have HBD:=Lib.hid hbd
  obtain⟨-,ba,bc,rfl,-⟩:=hbd
  go_wp2_with fail
  go_at_call 27
  refine(HMK.out _ growsP _ (EnvAt.of_bind (HBD.out.grows growsP) hnm.out)).mono ?_
  rintro e' w' ⟨cv,rfl,⟨bs4,d4,rfl⟩,hrep⟩
  obtain⟨ca1,cc1,rfl⟩:=hrep.form0
  have h2:=hrep.eqw (w':=(((w.alloc (.cells #[.int .i64 R.age,.int .i64 R.year,.int .i64 R.children,.int .i64 R.base,.int .i64 R.den,.slice da R.days.length dc,.slice ya R.years.length yc] 28)).grow (bs++bs3) d3).alloc (.cells #[.int .i64 E.op,.int .i64 E.num,.int .i64 E.den,.int .i64 E.dim,.string E.name,.slice ca0 E.args.length cc0] 51)).grow (bs2++bs4) d4) (by simp)
  have h3:RepE (fun b=>((((w.alloc (.cells #[.int .i64 R.age,.int .i64 R.year,.int .i64 R.children,.int .i64 R.base,.int .i64 R.den,.slice da R.days.length dc,.slice ya R.years.length yc] 28)).grow (bs++bs3) d3).alloc (.cells #[.int .i64 E.op,.int .i64 E.num,.int .i64 E.den,.int .i64 E.dim,.string E.name,.slice ca0 E.args.length cc0] 51))).heap.size≤b) ((((w.alloc (.cells #[.int .i64 R.age,.int .i64 R.year,.int .i64 R.children,.int .i64 R.base,.int .i64 R.den,.slice da R.days.length dc,.slice ya R.years.length yc] 28)).grow (bs++bs3) d3).alloc (.cells #[.int .i64 E.op,.int .i64 E.num,.int .i64 E.den,.int .i64 E.dim,.string E.name,.slice ca0 E.args.length cc0] 51)).grow (bs2++bs4) d4) E2 (.slice ca1 E2.args.length cc1):=h2.mono (fun b hb=>by simp at hb ⊢;omega)
  have HREP:=Lib.hid ((h3.lift0 (A':=(((w.alloc (.cells #[.int .i64 R.age,.int .i64 R.year,.int .i64 R.children,.int .i64 R.base,.int .i64 R.den,.slice da R.days.length dc,.slice ya R.years.length yc] 28)).grow (bs++bs3) d3).alloc (.cells #[.int .i64 E2.op,.int .i64 E2.num,.int .i64 E2.den,.int .i64 E2.dim,.string E2.name,.slice ca1 E2.args.length cc1] 51))) (Nat.le_refl _) (by simp) d4).mono (S':=fun _=>True) (fun _ _=>trivial))
  clear hrep HMK h2 h3
  go_wp2_with fail
  have HX:=Lib.hid (exC hrng.out (se:=.slice sa env.length sc) heok.out hr (by have:=HSZ.out;omega))
  have HX8:=Lib.hid (exC8 hrng.out (se:=.slice sa env.length sc) heok.out hr (by have:=HSZ.out;omega))
  unfold ExC vwV at HX
  unfold ExC8 vwV at HX8
  dsimp only at HX HX8
  clear hr
  go_at_call 14
  refine(HV.out _ growsP).mono ?_
  rintro e' w' ⟨yv,rfl,⟨bs5,d5,rfl⟩,hyv⟩
  have HYV:=Lib.hid hyv
  obtain⟨-,ya1,yc1,rfl,-⟩:=hyv
  go_wp2_with fail
  go_at_call 29
  refine(HX.out ya1 yc1 _ ca1 cc1 (HREP.out.grows growsP) (HT.out.grows growsP) (HYV.out.grows growsP) (HST.out.grows growsP)).mono ?_
  rintro e' w' ⟨rfl,bs6,d6,rfl⟩
  go_wp2_with fail
  go_at_call 30
  refine(HX8.out ya1 yc1 _ ca1 cc1 (HREP.out.grows growsP) (HYV.out.grows growsP) (HST.out.grows growsP)).mono ?_
  rintro e' w' ⟨rfl,bs7,d7,rfl⟩
  go_wp2_with (go_at_call 19;refine(awake8_any _ (HT.out.grows growsP)).mono ?_;rintro e' w' ⟨rfl,bs9,d9,rfl⟩)
  go_returns
  exact⟨rfl,growsP⟩
theorem ex_any(zs es:List Int)(R:VwR)(vl ve vd vy:Value)(wild:Bool)(dim:Int)(w:World)(hl:IntsAt w vl zs)(he:IntsAt w ve es)(hd:IntsAt w vd R.days)(hy:IntsAt w vy R.years)(ht:Tab w) :
 Calls Tryz.prog 6 #[vl,.agg #[.int .i64 R.age,.int .i64 R.year,.int .i64 R.children,.int .i64 R.base,.int .i64 R.den,vd,vy],ve,.bool wild,.int .i64 dim] w fun e w'=>e= .returned (.bool true)∧w.Grows w':=by
 by_cases hlen:zs.length≤200
 ·have hp:=pick_bd dim 4 (by omega)
  exact ex_core zs es R vl ve vd vy wild dim w hl he hd hy ht hlen (viewP R) _ _ (Lib.hid rfl) ⟨by omega,by omega⟩ (Lib.hid rfl) (Lib.hid rfl) (Lib.hid (dimsE_names es)) (Lib.hid (stepsP_ok es)) (Lib.hid (viewP_rng R))
 ·exact ex_long zs vl ve R.age R.year R.children R.base R.den dim wild vd vy w hl (by omega)
end Go.Proofs.YtlheailebbngiaaGreatDoor
