import Derived.Test.YtblkcgceefjmjaaGreatDoorSSpA
set_option linter.all false
set_option maxHeartbeats 16000000
set_option maxRecDepth 1000000
namespace Go.Proofs.YtblkcgceefjmjaaGreatDoor
open Go.RowKit
variable {w W0 : World} {ia sa sa' : Option Addr} {ic sc sc' n0 m0 pb po P pc base g gI ci N kk i : Nat} {l : List Ins} {sl : List ByteArray} {qa qk qn : Int}
theorem spoil_k2:SpG w W0 ia sa sa' ic sc sc' n0 m0 pb po P pc base g gI ci N kk i l sl qa qk qn 2:=by
 intro HN HNL HKN HCI HI3 HN5 H0 HPC
 intros
 rename_i Q hpan hQ
 obtain⟨i0,hi,hz1,hz2,hz3⟩:=info_parts infoIn
 have z0:=H0.out.c.c0
 have z1:=H0.out.c.c1
 have zl:=H0.out.c.gW
 obtain⟨hb0,p1,p2,p3⟩:=HPC.out W0 (World.Grows.trans' growsR H0.out.c.gr)
 have hgI:=(H0.out.c.row.lt gI rfl).2
 have d1:(i:Int)<(P:Int):=by have:=HI3.out;omega
 have d0:(0:Int)≤(i:Int):=by omega
 have d2:(i:Int)<3:=by have:=HI3.out;omega
 have e0:(0:Int)≤(kk:Int):=by omega
 have e1:(kk:Int)<(N:Int):=by have:=HKN.out;omega
 have d3:(0:Int)<(N:Int):=by omega
 have hN6:(N:Int)≤5003:=by have:=HN5.out;omega
 have hw3:IntKind.i64.wrap ((N:Int)+3)=(N:Int)+3:=IntWalk.i64_in _ (by omega)
 have HP26:=Lib.hid (hpx9 26 (by omega) (by omega))
 have HP9:=Lib.hid (hpx9 9 (by omega) (by omega))
 have HP4:=Lib.hid (hpx9 4 (by omega) (by omega))
 have HP5:=Lib.hid (hpx9 5 (by omega) (by omega))
 have HP6:=Lib.hid (hpx9 6 (by omega) (by omega))
 have HPN3:=Lib.hid (hpx9 ((N:Int)+3) (by omega) (by omega))
 conv=>arg 2;whnf
 go_upto_region 12 with fail
 refine TS.begin [20] (World.Grows W0) (by kernel_rfl) (by kernel_rfl) grows_drew0 (fun hS=>?_)
 refine TS.wkB 0 hS ?_
 refine TS.wkB 1 hS ?_
 refine TS.wkB 2 hS ?_
 refine TS.wkB 3 hS ?_
 refine TS.wkB 4 hS ?_
 refine TS.wkB 5 hS ?_
 refine TS.wkB 6 hS ?_
 refine TS.wkB 7 hS ?_
 refine TS.wkB 10 hS ?_
 refine TS.wkB 11 hS ?_
 refine TS.wkB 12 hS ?_
 refine TS.wkB 13 hS ?_
 refine TS.wkB 14 hS ?_
 refine TS.wkB 15 hS ?_
 refine TS.one (i:=8) (by kernel_rfl) rfl (fun K1 hK1=>?_)
 have HK1:=Lib.hid hK1
 clear hK1 hS
 dsimp only [List.getElem_toArray,List.getElem_cons_succ,List.getElem_cons_zero]
 go_simp
 go_at_call 17
 refine(HP9.out _ _).mono ?_
 rintro e' w' ⟨r,rfl,⟨hr0,hr1⟩,rfl⟩
 refine TS.go HK1.out growsR (fun hS=>?_)
 clear HK1 K1
 (try simp only [nS])
 have hwr:IntKind.i64.wrap (r-3)=r-3:=IntWalk.i64_in _ (by omega)
 refine TS.wkB 9 hS ?_
 refine TS.one (i:=16) (by kernel_rfl) rfl (fun K1 hK1=>?_)
 have HK1:=Lib.hid hK1
 clear hK1 hS
 dsimp only [List.getElem_toArray,List.getElem_cons_succ,List.getElem_cons_zero]
 go_simp
 go_at_call 17
 refine(HP4.out _ _).mono ?_
 rintro e' w' ⟨q,rfl,⟨hq0,hq1⟩,rfl⟩
 refine TS.go HK1.out growsR (fun hS=>?_)
 clear HK1 K1
 (try simp only [nS])
 refine TS.wkB 17 hS ?_
 refine TS.wkB 18 hS ?_
 refine TS.wkB 19 hS ?_
 obtain⟨⟨u0,y0⟩,yf⟩:=H0.out.c.cellI HNL.out.symm (kk*4+2) (by have:=HKN.out;have:=HNL.out;omega)
 obtain⟨⟨u1,y1⟩,yf1⟩:=H0.out.c.cellI HNL.out.symm (kk*4+3) (by have:=HKN.out;have:=HNL.out;omega)
 have hmk:∃l1,SpSt (((w.alloc (.cells #[.slice ia n0 ic,.slice sa m0 sc] 58)).alloc (.cells #[.slice none 0 0,.slice none 0 0] 58))) base g n0 m0 (i+1) (.slice (some ⟨gI,0,none⟩) N ci) (.slice sa' sl.length sc') l1 sl ((W0.setCell ⟨gI,kk*4+2,none⟩ (.int .i64 (r-3))).setCell ⟨gI,kk*4+3,none⟩ (.int .i64 q)):=by
  have hlt:kk<l.length:=by have:=HKN.out;have:=HNL.out;omega
  have h1:=H0.out.c.poke HNL.out.symm _ _ (insV_set2 l kk (r-3) hlt) (by simp)
  have h2:=h1.poke (by have:=HNL.out;simp;omega) _ _ (insV_set3 (l.set kk {l.getD kk default with n:=r-3}) kk q (by simpa using hlt)) (by simp)
  refine⟨_,h2, ?_,by simp;have:=H0.out.nl;omega,H0.out.ml,H0.out.sz⟩
  have o1:InsOk (l.set kk {l.getD kk default with n:=r-3}):=H0.out.ok.set kk ⟨⟨by show -9223372036854775808≤r-3;omega,by show r-3≤9223372036854775807;omega⟩,(H0.out.ok.at kk).2⟩
  exact o1.set kk ⟨(o1.at kk).1,⟨by show -9223372036854775808≤q;omega,by show q≤9223372036854775807;omega⟩⟩
 have HMK:=Lib.hid hmk
 clear hmk
 refine TS.weB 20 ?_
 clear y0 yf y1 yf1
 go_wp2_with fail
 obtain⟨l1,h⟩:=HMK.out
 (apply hQ;exact Lib.hid (h.grows grows_drew0))
theorem spoil_k5:SpG w W0 ia sa sa' ic sc sc' n0 m0 pb po P pc base g gI ci N kk i l sl qa qk qn 5:=by
 intro HN HNL HKN HCI HI3 HN5 H0 HPC
 intros
 rename_i Q hpan hQ
 obtain⟨i0,hi,hz1,hz2,hz3⟩:=info_parts infoIn
 have z0:=H0.out.c.c0
 have z1:=H0.out.c.c1
 have zl:=H0.out.c.gW
 obtain⟨hb0,p1,p2,p3⟩:=HPC.out W0 (World.Grows.trans' growsR H0.out.c.gr)
 have hgI:=(H0.out.c.row.lt gI rfl).2
 have d1:(i:Int)<(P:Int):=by have:=HI3.out;omega
 have d0:(0:Int)≤(i:Int):=by omega
 have d2:(i:Int)<3:=by have:=HI3.out;omega
 have e0:(0:Int)≤(kk:Int):=by omega
 have e1:(kk:Int)<(N:Int):=by have:=HKN.out;omega
 have d3:(0:Int)<(N:Int):=by omega
 have hN6:(N:Int)≤5003:=by have:=HN5.out;omega
 have hw3:IntKind.i64.wrap ((N:Int)+3)=(N:Int)+3:=IntWalk.i64_in _ (by omega)
 have HP26:=Lib.hid (hpx9 26 (by omega) (by omega))
 have HP9:=Lib.hid (hpx9 9 (by omega) (by omega))
 have HP4:=Lib.hid (hpx9 4 (by omega) (by omega))
 have HP5:=Lib.hid (hpx9 5 (by omega) (by omega))
 have HP6:=Lib.hid (hpx9 6 (by omega) (by omega))
 have HPN3:=Lib.hid (hpx9 ((N:Int)+3) (by omega) (by omega))
 conv=>arg 2;whnf
 go_upto_region 21 with fail
 refine TS.begin [16] (World.Grows W0) (by kernel_rfl) (by kernel_rfl) grows_drew0 (fun hS=>?_)
 have ya:=H0.out.c.cellA HNL.out.symm kk (by have:=HKN.out;have:=HNL.out;omega)
 obtain⟨za,hza⟩:∃z,(l.getD kk default).a=z:=⟨_,rfl⟩
 rw [hza]at ya
 refine TS.wkB 0 hS ?_
 refine TS.wkB 1 hS ?_
 refine TS.wkB 2 hS ?_
 refine TS.wkB 3 hS ?_
 refine TS.wkB 4 hS ?_
 refine TS.wkB 5 hS ?_
 refine TS.wkB 6 hS ?_
 refine TS.wkB 7 hS ?_
 refine TS.wkB 8 hS ?_
 refine TS.wkB 9 hS ?_
 refine TS.wkB 10 hS ?_
 refine TS.one (i:=11) (by kernel_rfl) rfl (fun K1 hK1=>?_)
 have HK1:=Lib.hid hK1
 clear hK1 hS
 dsimp only [List.getElem_toArray,List.getElem_cons_succ,List.getElem_cons_zero]
 go_simp
 go_at_call 17
 refine(HP5.out _ _).mono ?_
 rintro e' w' ⟨r,rfl,⟨hr0,hr1⟩,rfl⟩
 refine TS.go HK1.out growsR (fun hS=>?_)
 clear HK1 K1
 (try simp only [nS])
 refine TS.wkB 12 hS ?_
 refine TS.wkB 13 hS ?_
 refine TS.wkB 14 hS ?_
 refine TS.wkB 15 hS ?_
 obtain⟨⟨u0,y0⟩,yf⟩:=H0.out.c.cellI HNL.out.symm (kk*4+1) (by have:=HKN.out;have:=HNL.out;omega)
 have hmk:∀z W,W0.Grows W→SpSt (((w.alloc (.cells #[.slice ia n0 ic,.slice sa m0 sc] 58)).alloc (.cells #[.slice none 0 0,.slice none 0 0] 58))) base g n0 m0 (i+1) (.slice (some ⟨gI,0,none⟩) N ci) (.slice sa' sl.length sc') (l.set kk {l.getD kk default with a:=z}) sl (W.setCell ⟨gI,kk*4+1,none⟩ (.int .i64 z)):=fun z W hg=>by
  have h:=H0.out.grows hg
  exact⟨h.c.poke HNL.out.symm _ _ (insV_set1 l kk z (by have:=HKN.out;have:=HNL.out;omega)) (by simp),h.ok.set kk (h.ok.at kk),by rw [List.length_set];have:=h.nl;omega,h.ml,h.sz⟩
 clear y0
 refine TS.weB 16 ?_
 clear yf ya
 go_wp2_with fail
 (apply hQ;exact Lib.hid ((hmk _ W0 (World.Grows.refl _)).grows grows_drew0))
theorem spoil_k7:SpG w W0 ia sa sa' ic sc sc' n0 m0 pb po P pc base g gI ci N kk i l sl qa qk qn 7:=by
 intro HN HNL HKN HCI HI3 HN5 H0 HPC
 intros
 rename_i Q hpan hQ
 obtain⟨i0,hi,hz1,hz2,hz3⟩:=info_parts infoIn
 have z0:=H0.out.c.c0
 have z1:=H0.out.c.c1
 have zl:=H0.out.c.gW
 obtain⟨hb0,p1,p2,p3⟩:=HPC.out W0 (World.Grows.trans' growsR H0.out.c.gr)
 have hgI:=(H0.out.c.row.lt gI rfl).2
 have d1:(i:Int)<(P:Int):=by have:=HI3.out;omega
 have d0:(0:Int)≤(i:Int):=by omega
 have d2:(i:Int)<3:=by have:=HI3.out;omega
 have e0:(0:Int)≤(kk:Int):=by omega
 have e1:(kk:Int)<(N:Int):=by have:=HKN.out;omega
 have d3:(0:Int)<(N:Int):=by omega
 have hN6:(N:Int)≤5003:=by have:=HN5.out;omega
 have hw3:IntKind.i64.wrap ((N:Int)+3)=(N:Int)+3:=IntWalk.i64_in _ (by omega)
 have HP26:=Lib.hid (hpx9 26 (by omega) (by omega))
 have HP9:=Lib.hid (hpx9 9 (by omega) (by omega))
 have HP4:=Lib.hid (hpx9 4 (by omega) (by omega))
 have HP5:=Lib.hid (hpx9 5 (by omega) (by omega))
 have HP6:=Lib.hid (hpx9 6 (by omega) (by omega))
 have HPN3:=Lib.hid (hpx9 ((N:Int)+3) (by omega) (by omega))
 conv=>arg 2;whnf
 have H9:Hid (SpSt (((w.alloc (.cells #[.slice ia n0 ic,.slice sa m0 sc] 58)).alloc (.cells #[.slice none 0 0,.slice none 0 0] 58))) base g n0 m0 (i+1) (.slice (some ⟨gI,0,none⟩) N ci) (.slice sa' sl.length sc') l sl W0):=Lib.hid (H0.out.later (by omega))
 go_wp2_with fail
 (apply hQ;exact H9)
end Go.Proofs.YtblkcgceefjmjaaGreatDoor
