/- pensionmade.Spoil: the walk. -/
import Derived.Test.YtblkcgceefjmjaaGreatDoorSMchV1
import Derived.Test.YtblkcgceefjmjaaGreatDoorSSpK2
import Derived.Test.YtblkcgceefjmjaaGreatDoorSSpK3
set_option linter.all false
set_option maxHeartbeats 16000000
set_option maxRecDepth 1000000
namespace Go.Proofs.YtblkcgceefjmjaaGreatDoor
open Go.RowKit
theorem Spoil_any(l0:List Ins)(sl0:List ByteArray)(ia:Option Addr)(ic:Nat)(vS0:Value)(B0:Nat)(ps:List (Int × Int × Int))(vp:Value)(w:World)(hI:LRow B0 w (.slice ia l0.length ic) l0)(hS:w.ownsRow B0 9 1 vS0 sl0.length (slV sl0))(hok:InsOk l0)(hsz:∀s∈sl0,s.size≤maxLen)(hn:l0.length≤5000)(hm:sl0.length≤100)(hp:PkAt w vp ps) :
 Calls Tryz.prog 40 #[.agg #[.slice ia l0.length ic,vS0],vp] w (SpoilP w l0.length sl0.length):=by
 obtain⟨i0,hi,hz1,hz2,hz3⟩:=info_parts infoIn
 obtain⟨i1,hi1,hz11,hz21,hz31⟩:=info_parts infoStS
 obtain⟨sa,sc,hvs,-,-⟩:=rowForm3 hS
 subst hvs
 obtain⟨pa,pc,rfl,hcells⟩:=hp
 unfold LRow at hI
 obtain⟨n0,hn0⟩:∃n,l0.length=n:=⟨_,rfl⟩
 obtain⟨m0,hm0⟩:∃n,sl0.length=n:=⟨_,rfl⟩
 obtain⟨P,hP⟩:∃n,ps.length=n:=⟨_,rfl⟩
 rw [hn0]at hI hn ⊢
 rw [hm0]at hS hm ⊢
 rw [hP]at hcells ⊢
 have HI:=Lib.hid (fun W (hg:w.Grows W)=>keptNe hI (grownOf hg none) (fun _ e=>by cases e))
 have HS:=Lib.hid (fun W (hg:w.Grows W)=>keptNe hS (grownOf hg none) (fun _ e=>by cases e))
 have HOK:=Lib.hid hok
 have HSZ:=Lib.hid hsz
 have HP:=Lib.hid hcells
 have HN:=Lib.hid (And.intro hn hm)
 have HN0:=Lib.hid hn0
 have HM0:=Lib.hid hm0
 have HPL:=Lib.hid hP
 clear hI hS hok hsz hcells hn hm hn0 hm0 hP
 go_enter Tryz.func40,Tryz.ntmps40
 go_upto_region 1 with fail
 go_cut [5]from 10 to 16 (fun v5 wx=>∃(base g:Nat) (vI vS:Value),v5= .pointer (some ⟨g,0,none⟩)∧Hid (SpSt (((w.alloc (.cells #[.slice ia n0 ic,.slice sa m0 sc] 58)).alloc (.cells #[.slice none 0 0,.slice none 0 0] 58))) base g n0 m0 0 vI vS l0 sl0 wx))
 case first=>
  refine TS.begin [8] (World.Grows (((w.alloc (.cells #[.slice ia n0 ic,.slice sa m0 sc] 58)).alloc (.cells #[.slice none 0 0,.slice none 0 0] 58)))) (by kernel_rfl) (by kernel_rfl) grows_drew0 (fun hS=>?_)
  refine TS.wkB 0 hS ?_
  refine TS.wkB 1 hS ?_
  refine TS.wkB 3 hS ?_
  refine TS.wkB 4 hS ?_
  refine TS.two (i:=2) (k:=7) (by kernel_rfl) rfl rfl (fun K1 hK1=>?_) (fun K1 hK1=>?_)
  ·refine step_app_rows rfl _ _ 55 rfl (w.heap.size+1+1) B0 103 i0 _ 4 32 Tryz.underlying55 hi hz1 hz2 hz3 rfl (by decide) (.slice none 0 0) (.slice ia n0 ic) 0 n0 [] (insV l0) rfl rfl (World.ownsRow_nil _ _ _ _) (HI.out _ growsR) (insV_one l0) (by unfold maxLen;have:=HN.out;omega) (by have:=HN.out;omega) (by simp) ?_
   intro vI1 wI hownI hgrI
   rw [Nat.zero_add,List.nil_append]at hownI
   obtain⟨a1,k1,rfl,-,-⟩:=rowForm3 hownI
   have HgI:=Lib.hid (World.Grows.grown growsR hgrI (fun k e=>by simp [Value.ownBlock]at e):World.Grows ((((w.alloc (.cells #[.slice ia n0 ic,.slice sa m0 sc] 58)).alloc (.cells #[.slice none 0 0,.slice none 0 0] 58)))) wI)
   have HoI:=Lib.hid hownI
   clear hownI hgrI
   have hwI:w.Grows wI:=World.Grows.trans' growsR HgI.out
   refine TS.go hK1 HgI.out (fun hS=>?_)
   clear hK1 K1
   (try simp only [nS])
   refine TS.two (i:=5) (k:=7) (by kernel_rfl) rfl rfl (fun K1 hK1=>?_) (fun K1 hK1=>?_)
   ·refine step_app_rows rfl _ _ 56 rfl (wI.heap.size) B0 9 i1 _ 1 16 Tryz.underlying56 hi1 hz11 hz21 hz31 rfl (by decide) (.slice none 0 0) (.slice sa m0 sc) 0 m0 [] (slV sl0) rfl rfl (World.ownsRow_nil _ _ _ _) (HS.out _ (World.Grows.trans' (hwI) growsR)) (slV_one sl0) (by unfold maxLen;have:=HN.out;omega) (by have:=HN.out;omega) (by simp) ?_
    intro vS1 wS1 hownS hgrS
    rw [Nat.zero_add,List.nil_append]at hownS
    obtain⟨a2,k2,rfl,-,-⟩:=rowForm3 hownS
    have HgS:=Lib.hid (World.Grows.grown growsR hgrS (fun k e=>by simp [Value.ownBlock]at e):World.Grows (wI) wS1)
    have HoS:=Lib.hid hownS
    clear hownS hgrS
    refine TS.go hK1 (World.Grows.trans' HgI.out HgS.out) (fun hS=>?_)
    clear hK1 K1 hwI
    (try simp only [nS])
    refine TS.wkB 6 hS ?_
    refine TS.one (i:=7) (by kernel_rfl) rfl (fun K1 hK1=>?_)
    have HK1:=Lib.hid hK1
    clear hK1 hS
    dsimp only [List.getElem_toArray,List.getElem_cons_succ,List.getElem_cons_zero]
    go_simp
    refine TS.go HK1.out (World.Grows.trans' (World.Grows.trans' HgI.out HgS.out) growsR) (fun hS=>?_)
    clear HK1 K1
    (try simp only [nS])
    refine TS.weB 8 ?_
    go_wp2_with fail
    go_meet
    have e1:=HgS.out.below.size
    refine⟨_,wS1.heap.size,_,_,rfl,Lib.hid ⟨Spo.first (World.Grows.trans' (World.Grows.trans' HgI.out HgS.out) growsR) (B1:=w.heap.size+1+1) (B2:=wI.heap.size) (by simp) HgI.out.below.size HN0.out HM0.out (own_grow9 (own_grow9 HoI.out HgS.out) growsR) (own_grow9 HoS.out growsR) (Nat.le_trans HgI.out.below.size e1) (heap_alloc_new _ _) (fun b e e2=>by have:=(HoI.out.lt b e).2;have:=(HoS.out.lt b e2).1;omega) (fun e=>by have:=(HoI.out.lt _ e).2;omega) (fun e=>by have:=(HoS.out.lt _ e).2;omega),HOK.out,by have:=HN0.out;omega,HM0.out,HSZ.out⟩⟩
   ·have HK1:=Lib.hid hK1
    clear hK1 hS
    dsimp only [List.getElem_toArray,List.getElem_cons_succ,List.getElem_cons_zero]
    go_simp
    refine TS.go HK1.out (World.Grows.trans' HgI.out growsR) (fun hS=>?_)
    clear HK1 K1
    (try simp only [nS])
    refine TS.one (i:=5) (by kernel_rfl) rfl (fun K1 hK1=>?_)
    refine step_app_rows rfl _ _ 56 rfl (wI.heap.size+1) B0 9 i1 _ 1 16 Tryz.underlying56 hi1 hz11 hz21 hz31 rfl (by decide) (.slice none 0 0) (.slice sa m0 sc) 0 m0 [] (slV sl0) rfl rfl (World.ownsRow_nil _ _ _ _) (HS.out _ (World.Grows.trans' (hwI) growsR)) (slV_one sl0) (by unfold maxLen;have:=HN.out;omega) (by have:=HN.out;omega) (by simp) ?_
    intro vS1 wS1 hownS hgrS
    rw [Nat.zero_add,List.nil_append]at hownS
    obtain⟨a2,k2,rfl,-,-⟩:=rowForm3 hownS
    have HgS:=Lib.hid (World.Grows.grown growsR hgrS (fun k e=>by simp [Value.ownBlock]at e):World.Grows (wI.alloc (.cells #[.slice none 0 0,.slice none 0 0] 58)) wS1)
    have HoS:=Lib.hid hownS
    clear hownS hgrS
    refine TS.go hK1 (World.Grows.trans' (World.Grows.trans' HgI.out growsR) HgS.out) (fun hS=>?_)
    clear hK1 K1 hwI
    (try simp only [nS])
    refine TS.wkB 6 hS ?_
    have hb:=(HgS.out.below.block wI.heap.size (by simp)).trans (heap_alloc_new _ _)
    have z0:=cell_of_row wS1 _ 0 _ _ _ hb
    have z1:=cell_of_row wS1 _ 1 _ _ _ hb
    have zf0:=Go.Joins.unfrozen_of_block hb 0
    have zf1:=Go.Joins.unfrozen_of_block hb 1
    have zl:=(Array.getElem?_eq_some_iff.1 hb).1
    have HB:=Lib.hid hb
    clear hb
    refine TS.weB 8 ?_
    go_wp2_with fail
    go_meet
    have hIS:wI.Grows wS1:=World.Grows.trans' growsR HgS.out
    have h0:=Spo.first (World.Grows.trans' HgI.out hIS) (B1:=w.heap.size+1+1) (B2:=wI.heap.size+1) (by simp) (Nat.le_trans HgI.out.below.size (Nat.le_succ _)) HN0.out HM0.out (own_grow9 HoI.out hIS) HoS.out HgI.out.below.size HB.out (fun b e e2=>by have:=(HoI.out.lt b e).2;have:=(HoS.out.lt b e2).1;omega) (fun e=>by have:=(HoI.out.lt _ e).2;omega) (fun e=>by have:=(HoS.out.lt _ e).1;omega)
    exact⟨_,wI.heap.size,_,_,rfl,Lib.hid ⟨(h0.setI _).setc 1 _ rfl,HOK.out,by have:=HN0.out;omega,HM0.out,HSZ.out⟩⟩
  ·have HK1:=Lib.hid hK1
   clear hK1 hS
   dsimp only [List.getElem_toArray,List.getElem_cons_succ,List.getElem_cons_zero]
   go_simp
   refine TS.go HK1.out growsR (fun hS=>?_)
   clear HK1 K1
   (try simp only [nS])
   refine TS.one (i:=2) (by kernel_rfl) rfl (fun K1 hK1=>?_)
   refine step_app_rows rfl _ _ 55 rfl (w.heap.size+1+1+1) B0 103 i0 _ 4 32 Tryz.underlying55 hi hz1 hz2 hz3 rfl (by decide) (.slice none 0 0) (.slice ia n0 ic) 0 n0 [] (insV l0) rfl rfl (World.ownsRow_nil _ _ _ _) (HI.out _ growsR) (insV_one l0) (by unfold maxLen;have:=HN.out;omega) (by have:=HN.out;omega) (by simp) ?_
   intro vI1 wI hownI hgrI
   rw [Nat.zero_add,List.nil_append]at hownI
   obtain⟨a1,k1,rfl,-,-⟩:=rowForm3 hownI
   have HgI:=Lib.hid (World.Grows.grown growsR hgrI (fun k e=>by simp [Value.ownBlock]at e):World.Grows ((((w.alloc (.cells #[.slice ia n0 ic,.slice sa m0 sc] 58)).alloc (.cells #[.slice none 0 0,.slice none 0 0] 58))).alloc (.cells #[.slice none 0 0,.slice none 0 0] 58)) wI)
   have HoI:=Lib.hid hownI
   clear hownI hgrI
   have hcI:World.Grows (((w.alloc (.cells #[.slice ia n0 ic,.slice sa m0 sc] 58)).alloc (.cells #[.slice none 0 0,.slice none 0 0] 58))) wI:=World.Grows.trans' growsR HgI.out
   have hwI:w.Grows wI:=World.Grows.trans' growsR hcI
   refine TS.go hK1 hcI (fun hS=>?_)
   clear hK1 K1
   (try simp only [nS])
   refine TS.one (i:=5) (by kernel_rfl) rfl (fun K1 hK1=>?_)
   refine step_app_rows rfl _ _ 56 rfl (wI.heap.size) B0 9 i1 _ 1 16 Tryz.underlying56 hi1 hz11 hz21 hz31 rfl (by decide) (.slice none 0 0) (.slice sa m0 sc) 0 m0 [] (slV sl0) rfl rfl (World.ownsRow_nil _ _ _ _) (HS.out _ (World.Grows.trans' (hwI) growsR)) (slV_one sl0) (by unfold maxLen;have:=HN.out;omega) (by have:=HN.out;omega) (by simp) ?_
   intro vS1 wS1 hownS hgrS
   rw [Nat.zero_add,List.nil_append]at hownS
   obtain⟨a2,k2,rfl,-,-⟩:=rowForm3 hownS
   have HgS:=Lib.hid (World.Grows.grown growsR hgrS (fun k e=>by simp [Value.ownBlock]at e):World.Grows (wI) wS1)
   have HoS:=Lib.hid hownS
   clear hownS hgrS
   refine TS.go hK1 (World.Grows.trans' hcI HgS.out) (fun hS=>?_)
   clear hK1 K1 hwI
   (try simp only [nS])
   refine TS.wkB 6 hS ?_
   have hb:=((World.Grows.trans' HgI.out HgS.out).below.block (w.heap.size+1+1) (by simp)).trans (heap_new _ _ _ (by simp))
   have z0:=cell_of_row wS1 _ 0 _ _ _ hb
   have z1:=cell_of_row wS1 _ 1 _ _ _ hb
   have zf0:=Go.Joins.unfrozen_of_block hb 0
   have zf1:=Go.Joins.unfrozen_of_block hb 1
   have zl:=(Array.getElem?_eq_some_iff.1 hb).1
   have HB:=Lib.hid hb
   clear hb
   refine TS.weB 8 ?_
   go_wp2_with fail
   go_meet
   have e1:w.heap.size+1+1+1≤wI.heap.size:=by have:=HgI.out.below.size;simpa using this
   have h0:=Spo.first (World.Grows.trans' hcI HgS.out) (B1:=w.heap.size+1+1+1) (B2:=wI.heap.size) (by simp) hcI.below.size HN0.out HM0.out (own_grow9 HoI.out HgS.out) HoS.out (g:=w.heap.size+1+1) (by simp) HB.out (fun b e e2=>by have:=(HoI.out.lt b e).2;have:=(HoS.out.lt b e2).1;omega) (fun e=>by have:=(HoI.out.lt _ e).1;omega) (fun e=>by have:=(HoS.out.lt _ e).1;omega)
   exact⟨_,w.heap.size+1+1,_,_,rfl,Lib.hid ⟨(h0.setI _).setc 1 _ rfl,HOK.out,by have:=HN0.out;omega,HM0.out,HSZ.out⟩⟩
 case rest=>
 obtain⟨base,g,vI,vS,rfl,H0⟩:=hcut
 clear HI HS HOK HSZ HN0 HM0 hi1 hz11 hz21 hz31
 go_wp2_with fail
 go_loopw [6] (fun v6 wr=>∃(i:Nat) (vI vS:Value) (l:List Ins) (sl:List ByteArray),i≤3∧v6= .int .i64 i∧Hid (SpSt (((w.alloc (.cells #[.slice ia n0 ic,.slice sa m0 sc] 58)).alloc (.cells #[.slice none 0 0,.slice none 0 0] 58))) base g n0 m0 i vI vS l sl wr)) (fun v6 _=>3-(intOf v6).toNat)
 case atStart=>exact⟨0,_,_,_,_,by omega,rfl,H0⟩
 clear H0
 obtain⟨i,vI,vS,l,sl,hi3,rfl,HC⟩:=hrel
 have z0:=HC.out.c.c0
 have z1:=HC.out.c.c1
 have zl:=HC.out.c.gW
 by_cases hiP:i<P
 case neg=>
  have d1:¬(i:Int)<(P:Int):=by omega
  obtain⟨ia',ic',hvi,-,-⟩:=rowForm3 HC.out.c.row
  obtain⟨sa',sc',hvs',-,-⟩:=rowForm3 HC.out.c.slr
  subst hvi
  subst hvs'
  have hgr:=HC.out.c.gr
  obtain⟨bs,dd,hwr⟩:=hgr
  subst hwr
  go_wp2_with fail
  go_returns
  have hfin:=HC.out.c.fin (.slice ia' l.length ic') (.slice sa' sl.length sc') (((w.alloc (.cells #[.slice ia n0 ic,.slice sa m0 sc] 58)).alloc (.cells #[.slice ia' l.length ic',.slice sa' sl.length sc'] 58)).grow bs dd) (by simp [go_sem])
  obtain⟨q1,q2,q3⟩:=hfin
  exact⟨_,_,_,_,_,l,sl,rfl,q1,q2,q3,by have:=HC.out.nl;omega,HC.out.ml,HC.out.ok,HC.out.sz⟩
 have d1:(i:Int)<(P:Int):=by omega
 by_cases hi3':i<3
 case neg=>
  obtain rfl:i=3:=by omega
  have e3:((3:Nat):Int)=3:=rfl
  rw [e3]at d1 ⊢
  obtain⟨ia',ic',hvi,-,-⟩:=rowForm3 HC.out.c.row
  obtain⟨sa',sc',hvs',-,-⟩:=rowForm3 HC.out.c.slr
  subst hvi
  subst hvs'
  have hgr:=HC.out.c.gr
  obtain⟨bs,dd,hwr⟩:=hgr
  subst hwr
  go_wp2_with fail
  go_returns
  have hfin:=HC.out.c.fin (.slice ia' l.length ic') (.slice sa' sl.length sc') (((w.alloc (.cells #[.slice ia n0 ic,.slice sa m0 sc] 58)).alloc (.cells #[.slice ia' l.length ic',.slice sa' sl.length sc'] 58)).grow bs dd) (by simp [go_sem])
  obtain⟨q1,q2,q3⟩:=hfin
  exact⟨_,_,_,_,_,l,sl,rfl,q1,q2,q3,by have:=HC.out.nl;omega,HC.out.ml,HC.out.ok,HC.out.sz⟩
 have d2:(i:Int)<3:=by omega
 have d0:(0:Int)≤(i:Int):=by omega
 obtain⟨ii,ci,hvi,hci,hvi2⟩:=rowForm3 HC.out.c.row
 by_cases hl0:l.length=0
 case pos=>
  have d3:¬(0:Int)<(l.length:Int):=by omega
  clear hvi hvi2 hl0 hci
  obtain⟨ia',ic',hvi,-,-⟩:=rowForm3 HC.out.c.row
  obtain⟨sa',sc',hvs',-,-⟩:=rowForm3 HC.out.c.slr
  subst hvi
  subst hvs'
  have hgr:=HC.out.c.gr
  obtain⟨bs,dd,hwr⟩:=hgr
  subst hwr
  go_wp2_with fail
  go_returns
  have hfin:=HC.out.c.fin (.slice ia' l.length ic') (.slice sa' sl.length sc') (((w.alloc (.cells #[.slice ia n0 ic,.slice sa m0 sc] 58)).alloc (.cells #[.slice ia' l.length ic',.slice sa' sl.length sc'] 58)).grow bs dd) (by simp [go_sem])
  obtain⟨q1,q2,q3⟩:=hfin
  exact⟨_,_,_,_,_,l,sl,rfl,q1,q2,q3,by have:=HC.out.nl;omega,HC.out.ml,HC.out.ok,HC.out.sz⟩
 obtain⟨gI,rfl,-,-,hgI⟩:=hvi2.resolve_left hl0
 subst hvi
 obtain⟨sa',sc',hvs',-,-⟩:=rowForm3 HC.out.c.slr
 subst hvs'
 have hnl:=HC.out.nl
 obtain⟨N,hN⟩:∃N,l.length=N:=⟨_,rfl⟩
 rw [hN]at HC z0 hl0 hnl hci
 have HCI:=Lib.hid hci
 clear hci
 have HNL:=Lib.hid hN
 have d3:(0:Int)<(N:Int):=by omega
 have hN5:N≤5003:=by have:=HN.out;omega
 have HN5:=Lib.hid hN5
 have HI3:=Lib.hid (And.intro hiP hi3')
 obtain hP0|⟨pb,po,rfl,hpb,hpc⟩:=HP.out
 ·omega
 obtain⟨hp1,hp2,hp3⟩:=hpc i hiP
 obtain⟨qa,hqa⟩:∃q,(ps.getD i default).1=q:=⟨_,rfl⟩
 obtain⟨qk,hqk⟩:∃q,(ps.getD i default).2.1=q:=⟨_,rfl⟩
 obtain⟨qn,hqn⟩:∃q,(ps.getD i default).2.2=q:=⟨_,rfl⟩
 rw [hqa]at hp1
 rw [hqk]at hp2
 rw [hqn]at hp3
 have HPC:Hid (∀W,w.Grows W→pb<W.heap.size∧W.cell? ⟨pb,po+i*3,none⟩=some (.int .i64 qa)∧W.cell? ⟨pb,po+i*3+1,none⟩=some (.int .i64 qk)∧W.cell? ⟨pb,po+i*3+2,none⟩=some (.int .i64 qn)):=Lib.hid (fun W hg=>by
  have e:∀o,W.cell? ⟨pb,o,none⟩=w.cell? ⟨pb,o,none⟩:=fun o=>World.cell?_of_block (a:=⟨pb,o,none⟩) (hg.below.block pb hpb)
  exact⟨Nat.lt_of_lt_of_le hpb hg.below.size,(e _).trans hp1,(e _).trans hp2,(e _).trans hp3⟩)
 have hb:=pick_bd qa (N:Int) (by omega)
 obtain⟨kk,hkk⟩:∃k:Nat,pick qa (N:Int)=(k:Int):=⟨(pick qa (N:Int)).toNat,by omega⟩
 have HA:=Lib.hid (fun W=>Pick_any qa (N:Int) W (by omega))
 rw [hkk]at HA hb
 have e0:(0:Int)≤(kk:Int):=hb.1
 have e1:(kk:Int)<(N:Int):=hb.2
 have HKN:Hid (kk<N):=Lib.hid (by omega)
 have hb8:=pick_bd qk 8 (by omega)
 have HK8:=Lib.hid (fun W=>Pick_any qk 8 W (by omega))
 obtain⟨kd,hkd⟩:∃k:Int,pick qk 8=k:=⟨_,rfl⟩
 rw [hkd]at HK8 hb8
 obtain⟨hb0,p1,p2,p3⟩:=HPC.out wr (World.Grows.trans' growsR HC.out.c.gr)
 have hN6:(N:Int)≤5003:=by omega
 have hw3:IntKind.i64.wrap ((N:Int)+3)=(N:Int)+3:=IntWalk.i64_in _ (by omega)
 clear HP hpb hpc hp1 hp2 hp3 hqa hqk hqn hkk hkd hb hN hnl hl0 hiP hi3' hi3 hN5
 go_upto_region 5 with fail
 refine TS.begin [9] (World.Grows wr) (by kernel_rfl) (by kernel_rfl) grows_drew0 (fun hS=>?_)
 refine TS.wkB 0 hS ?_
 refine TS.wkB 1 hS ?_
 refine TS.wkB 2 hS ?_
 refine TS.wkB 3 hS ?_
 refine TS.wkB 4 hS ?_
 refine TS.wkB 5 hS ?_
 refine TS.wkB 6 hS ?_
 refine TS.wkB 7 hS ?_
 refine TS.one (i:=8) (by kernel_rfl) rfl (fun K1 hK1=>?_)
 have HK1:=Lib.hid hK1
 clear hK1 hS
 dsimp only [List.getElem_toArray,List.getElem_cons_succ,List.getElem_cons_zero]
 go_simp
 go_at_call 17
 refine(HA.out _).mono ?_
 rintro e' w' ⟨rfl,rfl⟩
 refine TS.go HK1.out growsR (fun hS=>?_)
 clear HK1 K1
 (try simp only [nS])
 refine TS.weB 9 ?_
 go_upto_region 6 with fail
 refine cutW (fun W=>SpSt (((w.alloc (.cells #[.slice ia n0 ic,.slice sa m0 sc] 58)).alloc (.cells #[.slice none 0 0,.slice none 0 0] 58))) base g n0 m0 i (.slice (some ⟨gI,0,none⟩) N ci) (.slice sa' sl.length sc') l sl W) (by first|exact HC.out|exact HC.out.grows grows_drew0) ?_
 intro W0 hW0
 have H0:=Lib.hid hW0
 clear hW0 z0 z1 zl hb0 p1 p2 p3 HC hgI
 have z0:=H0.out.c.c0
 have z1:=H0.out.c.c1
 have zl:=H0.out.c.gW
 obtain⟨hb0,p1,p2,p3⟩:=HPC.out W0 (World.Grows.trans' growsR H0.out.c.gr)
 go_upto_block 2 with (go_at_call 17;refine(HK8.out _).mono ?_;rintro e' w' ⟨rfl,rfl⟩)
 refine wp_split9 (fun Q=>∀(vI vS:Value) (l':List Ins) (sl':List ByteArray) (y7 y8 y9 y17 y18 y19 y20 y21 y22 y23 y24 y25 y26 y27 y28 y29 y30 y31 y32 y33 y34 y35 y36 y37 y38 y39 y40 y41 y42 y43 y44 y45 y46 y47 y48 y49 y50 y51 y52 y53 y54 y55 y56 y57 y58 y59 y60 y61 y62 y63 y64 y65 y66 y67 y68 y69 y70 y71 y72 y73 y74 y75 y76 y77 y78 y79 y80 y81 y82 y83 y84 y85 y86 y87 y88 y89 y90 y91 y92 y93 y94 y95 y96 y97 y98 y99 y100 y101 y102 y103 y104 y105 y106 y107 y108 y109 y110 y111 y112 y113 y114 y115 y116 y117 y118 y119 y120 y121 y122 y123 y124 y125 y126 y127 y128 y129 y130 y131 y132 y133 y134 y135 y136 y137 y138 y139 y140 y141 y142 y143 y144 y145 y146 y147 y148 y149 y150 y151 y152 y153 y154 y155 y156 y157 y158 y159 y160 y161 y162 y163 y164 y165 y166 y167 y168 y169 y170 y171 y172 y173 y174 y175 y176 y177 y178 y179 y180 y181 y182 y183 y184 y185 y186 y187 y188 y189 y190 y191 y192:Value) (W':World),Hid (SpSt (((w.alloc (.cells #[.slice ia n0 ic,.slice sa m0 sc] 58)).alloc (.cells #[.slice none 0 0,.slice none 0 0] 58))) base g n0 m0 (i+1) vI vS l' sl' W')→Q .normal {tmps:=#[.agg #[.slice ia n0 ic,.slice sa m0 sc],.slice (some ⟨pb,po,none⟩) P pc,.pointer (some ⟨w.heap.size,0,none⟩),undef,.pointer (some ⟨w.heap.size+1,0,none⟩),.pointer (some ⟨g,0,none⟩),.int .i64 i,y7,y8,y9,u10,u11,u12,u13,u14,u15,u16,y17,y18,y19,y20,y21,y22,y23,y24,y25,y26,y27,y28,y29,y30,y31,y32,y33,y34,y35,y36,y37,y38,y39,y40,y41,y42,y43,y44,y45,y46,y47,y48,y49,y50,y51,y52,y53,y54,y55,y56,y57,y58,y59,y60,y61,y62,y63,y64,y65,y66,y67,y68,y69,y70,y71,y72,y73,y74,y75,y76,y77,y78,y79,y80,y81,y82,y83,y84,y85,y86,y87,y88,y89,y90,y91,y92,y93,y94,y95,y96,y97,y98,y99,y100,y101,y102,y103,y104,y105,y106,y107,y108,y109,y110,y111,y112,y113,y114,y115,y116,y117,y118,y119,y120,y121,y122,y123,y124,y125,y126,y127,y128,y129,y130,y131,y132,y133,y134,y135,y136,y137,y138,y139,y140,y141,y142,y143,y144,y145,y146,y147,y148,y149,y150,y151,y152,y153,y154,y155,y156,y157,y158,y159,y160,y161,y162,y163,y164,y165,y166,y167,y168,y169,y170,y171,y172,y173,y174,y175,y176,y177,y178,y179,y180,y181,y182,y183,y184,y185,y186,y187,y188,y189,y190,y191,y192,undef],defers:=[]} W') ?_ (fun hQ=>?_)
 focus
  intro vI vS l' sl' y7 y8 y9 y17 y18 y19 y20 y21 y22 y23 y24 y25 y26 y27 y28 y29 y30 y31 y32 y33 y34 y35 y36 y37 y38 y39 y40 y41 y42 y43 y44 y45 y46 y47 y48 y49 y50 y51 y52 y53 y54 y55 y56 y57 y58 y59 y60 y61 y62 y63 y64 y65 y66 y67 y68 y69 y70 y71 y72 y73 y74 y75 y76 y77 y78 y79 y80 y81 y82 y83 y84 y85 y86 y87 y88 y89 y90 y91 y92 y93 y94 y95 y96 y97 y98 y99 y100 y101 y102 y103 y104 y105 y106 y107 y108 y109 y110 y111 y112 y113 y114 y115 y116 y117 y118 y119 y120 y121 y122 y123 y124 y125 y126 y127 y128 y129 y130 y131 y132 y133 y134 y135 y136 y137 y138 y139 y140 y141 y142 y143 y144 y145 y146 y147 y148 y149 y150 y151 y152 y153 y154 y155 y156 y157 y158 y159 y160 y161 y162 y163 y164 y165 y166 y167 y168 y169 y170 y171 y172 y173 y174 y175 y176 y177 y178 y179 y180 y181 y182 y183 y184 y185 y186 y187 y188 y189 y190 y191 y192 W9 H9
  go_wp2_with fail
  go_roundw
  case rel=>exact⟨i+1,_,_,_,_,by have:=HI3.out;omega,by go_num,H9⟩
  case measure=>simp [intOf];have:=HI3.out;omega
 have hkd:kd=0∨kd=1∨kd=2∨kd=3∨kd=4∨kd=5∨kd=6∨kd=7:=by omega
 clear hb8
 rcases hkd with rfl|rfl|rfl|rfl|rfl|rfl|rfl|rfl
 ·(apply spoil_k0 HN HNL HKN HCI HI3 HN5 H0 HPC;exact fun _ _ _ _ _ h=>h;exact hQ)
 ·(apply spoil_k1 HN HNL HKN HCI HI3 HN5 H0 HPC;exact fun _ _ _ _ _ h=>h;exact hQ)
 ·(apply spoil_k2 HN HNL HKN HCI HI3 HN5 H0 HPC;exact fun _ _ _ _ _ h=>h;exact hQ)
 ·(apply spoil_k3 HN HNL HKN HCI HI3 HN5 H0 HPC;exact fun _ _ _ _ _ h=>h;exact hQ)
 ·(apply spoil_k4 HN HNL HKN HCI HI3 HN5 H0 HPC;exact fun _ _ _ _ _ h=>h;exact hQ)
 ·(apply spoil_k5 HN HNL HKN HCI HI3 HN5 H0 HPC;exact fun _ _ _ _ _ h=>h;exact hQ)
 ·(apply spoil_k6 HN HNL HKN HCI HI3 HN5 H0 HPC;exact fun _ _ _ _ _ h=>h;exact hQ)
 ·(apply spoil_k7 HN HNL HKN HCI HI3 HN5 H0 HPC;exact fun _ _ _ _ _ h=>h;exact hQ)
end Go.Proofs.YtblkcgceefjmjaaGreatDoor
