import Derived.Test.YtlheailebbngiaaGreatDoorLOf2
set_option linter.all false
set_option maxHeartbeats 16000000
set_option maxRecDepth 1000000
namespace Go.Proofs.YtlheailebbngiaaGreatDoor
open Go.RowKit
theorem Of_walk(R:RawV)(vc vs vl vi vp vu:Value)(w:World)(h1:I64 R.frm)(h2:I64 R.mode)(h3:I64 R.unit)(h4:I64 R.twist)
 (hC:IntsAt w vc R.credits) (hS:IntsAt w vs R.series) (hL:RowsAt w vl R.lets) (hI:RowsAt w vi R.ifs) (hP:RowsAt w vp R.pays) (hU:RowsAt w vu R.cuts) :
 Calls Tryz.prog 36 #[.agg #[.int .i64 R.frm,.int .i64 R.mode,.int .i64 R.unit,vc,vs,vl,vi,vp,vu,.int .i64 R.twist]] w (OfPost R w):=by

 obtain⟨i0,hi,hz0,hz1,hz2⟩:=info_parts infoCred
 obtain⟨i1,hj,hj0,hj1,hj2⟩:=info_parts infoIdx
 obtain⟨i2,hq,hq0,hq1,hq2⟩:=info_parts infoLet
 obtain⟨i3,hr,hr0,hr1,hr2⟩:=info_parts infoBind
 obtain⟨i4,ht,ht0,ht1,ht2⟩:=info_parts infoGrant
 obtain⟨i5,hv,hv0,hv1,hv2⟩:=info_parts infoReduce
 obtain⟨hcl,-,ca,ccap,rfl,hcc⟩:=hC
 have HCC:=Lib.hid hcc
 obtain⟨hsl,-,sa,scap,rfl,hsc⟩:=hS
 have HSC:=Lib.hid hsc
 obtain⟨hll,la,lcap,rfl,hlc⟩:=hL
 have HLC:=Lib.hid hlc
 obtain⟨hil,ia,icap,rfl,hic⟩:=hI
 have HIC:=Lib.hid hic
 obtain⟨hpl,pa,pcap,rfl,hpc⟩:=hP
 have HPC:=Lib.hid hpc
 obtain⟨hul,ua,ucap,rfl,huc⟩:=hU
 have HUC:=Lib.hid huc
 clear hcc hsc hlc hic hpc huc
 go_enter Tryz.func36,Tryz.ntmps36
 go_upto_region 1 with fail
 go_cut [3]from 17 (fun v3 wx=>∃g,v3= .pointer (some ⟨g,0,none⟩)∧OfAt w (raw10 R (.slice ca R.credits.length ccap) (.slice sa R.series.length scap) (.slice la R.lets.length lcap) (.slice ia R.ifs.length icap) (.slice pa R.pays.length pcap) (.slice ua R.cuts.length ucap)) g #[.int .i64 (pick R.frm 73049),.int .i64 (pick R.mode 4+1),.int .i64 (unitOf (pick R.unit 5)),.slice none 0 0,.slice none 0 0,.slice none 0 0,.slice none 0 0,.slice none 0 0] wx)
 case first=>
  obtain⟨hp0,hp5⟩:=pick_bd R.unit 5 (by omega)
  have hpm:=pick_bd R.mode 4 (by omega)
  have hM:IntKind.i64.wrap (pick R.mode 4+1)=pick R.mode 4+1:=IntWalk.i64_in _ (by omega)
  clear hpm
  have hA:=arr_at ((w.alloc ((.cells #[.int .i64 R.frm,.int .i64 R.mode,.int .i64 R.unit,(.slice ca R.credits.length ccap),(.slice sa R.series.length scap),(.slice la R.lets.length lcap),(.slice ia R.ifs.length icap),(.slice pa R.pays.length pcap),(.slice ua R.cuts.length ucap),.int .i64 R.twist] 72))).alloc ((.cells #[.int .i64 0,.int .i64 0,.int .i64 0,.slice none 0 0,.slice none 0 0,.slice none 0 0,.slice none 0 0,.slice none 0 0] 81))) (pick R.unit 5) (w.heap.size+1+1) (by simp) hp0 hp5
  have hB:=arr_at (((w.alloc ((.cells #[.int .i64 R.frm,.int .i64 R.mode,.int .i64 R.unit,(.slice ca R.credits.length ccap),(.slice sa R.series.length scap),(.slice la R.lets.length lcap),(.slice ia R.ifs.length icap),(.slice pa R.pays.length pcap),(.slice ua R.cuts.length ucap),.int .i64 R.twist] 72))).alloc ((.cells #[.int .i64 0,.int .i64 0,.int .i64 0,.slice none 0 0,.slice none 0 0,.slice none 0 0,.slice none 0 0,.slice none 0 0] 81))).alloc ((.cells #[.int .i64 0,.int .i64 0,.int .i64 0,.slice none 0 0,.slice none 0 0,.slice none 0 0,.slice none 0 0,.slice none 0 0] 81))) (pick R.unit 5) (w.heap.size+1+1+1) (by simp) hp0 hp5
  refine TG.begin 16 (fun w'=>w'.cell? ⟨w.heap.size,0,none⟩=some (.int .i64 R.frm)∧w'.cell? ⟨w.heap.size,1,none⟩=some (.int .i64 R.mode)∧w'.cell? ⟨w.heap.size,2,none⟩=some (.int .i64 R.unit)) (by kernel_rfl) (by kernel_rfl) (by simp [go_sem]) (fun hS=>?_)
  refine TG.tkB 0 hS ?_
  refine TG.tkB 1 hS ?_
  refine TG.takeC (i:=2) (v:=(.int .i64 (pick R.frm 73049))) (fn:=15) (args:=#[.int .i64 R.frm,.int .i64 73049]) rfl (by kernel_rfl) (by kernel_rfl) (by kernel_rfl) (by decide) (fun _ _ _ h=>h) rfl hS ?_ ?_ ?_
  focus
   intro wS hSw
   (try dsimp only at hSw)
   go_simp
  focus exact fun wS _=>(Pick_any _ _ _ (by omega))
  (try simp only [nS])
  refine TG.tkB 3 hS ?_
  refine TG.tkB 4 hS ?_
  refine TG.takeC (i:=5) (v:=(.int .i64 (pick R.mode 4))) (fn:=15) (args:=#[.int .i64 R.mode,.int .i64 4]) rfl (by kernel_rfl) (by kernel_rfl) (by kernel_rfl) (by decide) (fun _ _ _ h=>h) rfl hS ?_ ?_ ?_
  focus
   intro wS hSw
   (try dsimp only at hSw)
   go_simp
  focus exact fun wS _=>(Pick_any _ _ _ (by omega))
  (try simp only [nS])
  refine TG.tkB 6 hS ?_
  refine TG.tkB 8 hS ?_
  refine TG.tkB 9 hS ?_
  refine TG.takeC (i:=10) (v:=(.int .i64 (pick R.unit 5))) (fn:=15) (args:=#[.int .i64 R.unit,.int .i64 5]) rfl (by kernel_rfl) (by kernel_rfl) (by kernel_rfl) (by decide) (fun _ _ _ h=>h) rfl hS ?_ ?_ ?_
  focus
   intro wS hSw
   (try dsimp only at hSw)
   go_simp
  focus exact fun wS _=>(Pick_any _ _ _ (by omega))
  (try simp only [nS])
  refine TG.two (i:=7) (k:=15) (by kernel_rfl) rfl rfl (fun K1 hK1=>?_) (fun K1 hK1=>?_)
  ·go_simp
   refine TG.go hK1 ?_ (fun hS=>?_)
   focus
    (try dsimp only)
    go_keep
   clear hK1 K1
   (try simp only [nS])
   refine TG.tkB 11 hS ?_
   refine TG.two (i:=12) (k:=15) (by kernel_rfl) rfl rfl (fun K1 hK1=>?_) (fun K1 hK1=>?_)
   focus
    go_simp
    refine TG.go hK1 ?_ (fun hS=>?_)
    focus
     (try dsimp only)
     go_keep
    clear hK1 K1
    (try simp only [nS])
    refine TG.tkB 13 hS ?_
    refine TG.tkB 14 hS ?_
    refine TG.one (i:=15) (by kernel_rfl) rfl (fun K1 hK1=>?_)
    go_simp
    refine TG.go hK1 ?_ (fun hS=>?_)
    focus
     (try dsimp only)
     go_keep
    clear hK1 K1
    (try simp only [nS])
   rotate_left
   focus
    go_simp
    refine TG.go hK1 ?_ (fun hS=>?_)
    focus
     (try dsimp only)
     go_keep
    clear hK1 K1
    (try simp only [nS])
    refine TG.one (i:=12) (by kernel_rfl) rfl (fun K1 hK1=>?_)
    go_simp
    refine TG.go hK1 ?_ (fun hS=>?_)
    focus
     (try dsimp only)
     go_keep
    clear hK1 K1
    (try simp only [nS])
    refine TG.tkB 13 hS ?_
    refine TG.tkB 14 hS ?_
   rotate_left
   all_goals
    refine TG.one (i:=16) (by kernel_rfl) rfl (fun K1 hK1=>?_)
    go_simp
    refine hK1 _ _ (fun h=>absurd rfl h) (TG.done (by kernel_rfl) ?_)
    clear hK1 K1 hS
    (try simp only [nS])
    go_wp2_with fail
    go_meet
    exact⟨_,rfl,OfAt.start_a _ _ _ _⟩
  ·go_simp
   refine TG.go hK1 ?_ (fun hS=>?_)
   focus
    (try dsimp only)
    go_keep
   clear hK1 K1
   (try simp only [nS])
   refine TG.one (i:=7) (by kernel_rfl) rfl (fun K1 hK1=>?_)
   go_simp
   refine TG.go hK1 ?_ (fun hS=>?_)
   focus
    (try dsimp only)
    go_keep
   clear hK1 K1
   (try simp only [nS])
   refine TG.tkB 11 hS ?_
   refine TG.one (i:=12) (by kernel_rfl) rfl (fun K1 hK1=>?_)
   go_simp
   refine TG.go hK1 ?_ (fun hS=>?_)
   focus
    (try dsimp only)
    go_keep
   clear hK1 K1
   (try simp only [nS])
   refine TG.tkB 13 hS ?_
   refine TG.tkB 14 hS ?_
   refine TG.one (i:=16) (by kernel_rfl) rfl (fun K1 hK1=>?_)
   go_simp
   refine hK1 _ _ (fun h=>absurd rfl h) (TG.done (by kernel_rfl) ?_)
   clear hK1 K1 hS
   (try simp only [nS])
   go_wp2_with fail
   go_meet
   exact⟨_,rfl,OfAt.start_b _ _ _ _⟩
 obtain⟨g,rfl,hof⟩:=hcut
 have hgl:=hof.lt
 have HOF:=Lib.hid hof
 clear hof
 go_upto_block 0 with fail
 go_cut []from 17 (fun wx=>∃vcr H1,OfAt w (raw10 R (.slice ca R.credits.length ccap) (.slice sa R.series.length scap) (.slice la R.lets.length lcap) (.slice ia R.ifs.length icap) (.slice pa R.pays.length pcap) (.slice ua R.cuts.length ucap)) g #[.int .i64 (pick R.frm 73049),.int .i64 (pick R.mode 4+1),.int .i64 (unitOf (pick R.unit 5)),vcr,.slice none 0 0,.slice none 0 0,.slice none 0 0,.slice none 0 0] wx∧(g<H1∧H1≤wx.heap.size)∧RowG 129 2 H1 wx vcr (credCells R (nCred R)) [])
 case first=>
  go_wp2_with fail
  go_loopw [5] (fun v5 wr=>∃k:Nat,∃vcr:Value,k≤R.credits.length∧k≤4∧v5= .int .i64 k∧OfAt w (raw10 R (.slice ca R.credits.length ccap) (.slice sa R.series.length scap) (.slice la R.lets.length lcap) (.slice ia R.ifs.length icap) (.slice pa R.pays.length pcap) (.slice ua R.cuts.length ucap)) g #[.int .i64 (pick R.frm 73049),.int .i64 (pick R.mode 4+1),.int .i64 (unitOf (pick R.unit 5)),vcr,.slice none 0 0,.slice none 0 0,.slice none 0 0,.slice none 0 0] wr∧wr.heap[wc.heap.size]? =some kindsO∧RowG 129 2 (wc.heap.size+1) wr vcr (credCells R k) []) (fun v5 _=>4-(intOf v5).toNat)
  case atStart=>exact⟨0,_,by omega,by omega,rfl,HOF.out.alloc _,heap_new _ _ _ rfl,.nil _ _ _ _⟩
  case round=>
   obtain⟨k,vcr,hk,hk4,rfl,hof,hkd,hrow⟩:=hrel
   have hbx:wr.cell? ⟨w.heap.size,3,none⟩=some (.slice ca R.credits.length ccap):=cell_of_row _ _ _ _ _ _ hof.box
   have hoc:wr.cell? ⟨g,3,none⟩=some vcr:=cell_of_row _ _ _ _ _ _ hof.out
   have hof1:wr.frozen? ⟨g,3,none⟩=false:=Joins.unfrozen_of_block hof.out 3
   have hl0:=hof.lt0
   have hl1:w.heap.size<wr.heap.size:=by omega
   have hl2:=hof.lt
   have hl3:wc.heap.size<wr.heap.size:=(Array.getElem?_eq_some_iff.1 hkd).1
   have HKD:=Lib.hid hkd
   have HOFR:=Lib.hid hof
   have HROW:=Lib.hid hrow
   have HCL:=Lib.hid (credCells_length R k)
   obtain⟨aa,acap,rfl⟩:=hrow.form
   clear hof hkd hrow hl0
   by_cases hlt:k<R.credits.length
   ·by_cases hlt4:k<4
    ·rcases HCC.out with h0|⟨b,off,rfl,hb,hx⟩
     ·omega
     ·have hx0:=hx 0 (by omega)
      have hxk:=hx k hlt
      have hkb:b<wr.heap.size:=by omega
      have hy0:wr.cell? ⟨b,off,none⟩=some (.int .i64 (R.credits.getD 0 0)):=by rw [HOFR.out.bel.cell (by exact hb)];exact hx0
      have hyk:wr.cell? ⟨b,off+k,none⟩=some (.int .i64 (R.credits.getD k 0)):=by rw [HOFR.out.bel.cell (by exact hb)];exact hxk
      clear hx0 hxk hx
      have d1:(k:Int)<(R.credits.length:Int):=by omega
      have d2:(k:Int)<4:=by omega
      have d3:(0:Int)<(R.credits.length:Int):=by omega
      have hp0:=pick_bd (R.credits.getD 0 0) 6 (by omega)
      have HSU:=Lib.hid (credCells_succ R k)
      have hkk:wr.cell? ⟨wc.heap.size,(((k:Int)+pick (R.credits.getD 0 0) 6) % 6).toNat,none⟩=some (.int .i64 (credK R k)):=by
       rw [cell_of_row _ _ _ _ _ _ HKD.out];exact kinds_get _ (by omega) (by omega)
      have hpk:=pick_bd (R.credits.getD k 0) 900 (by omega)
      have HKV:Hid (credL R k=if(R.credits.getD k 0).tmod 3=0 then pick (R.credits.getD k 0) 900+1 else 0):=Lib.hid rfl
      generalize hz0:R.credits.getD 0 0=z0 at *
      generalize hzk:R.credits.getD k 0=zk at *
      generalize hpv:pick z0 6=pv at *
      have HPV:=Lib.hid hpv
      generalize hkv:credK R k=kv at *
      generalize hlv:credL R k=lv at *
      clear hz0 hzk hkv hlv hpv
      obtain⟨hp1,hp2⟩:=hp0
      have HGE:=Lib.hid (HOF.out.gge)
      have hsz1:wc.heap.size+1≤wr.heap.size:=by omega
      by_cases ht:zk.tmod 3=0
      focus
       rw [if_pos ht]at HKV
       go_wp2_with (first
        |(go_at_call 15;refine(Pick_any _ _ _ (by omega)).mono ?_;rintro e w' ⟨rfl,rfl⟩;try simp only [HPV.out])
        |(at_builtin;refine wpList_append_lies _ rfl _ _ 75 rfl (wc.heap.size+1) 129 i0 _ 2 16 Tryz.underlying75 hi hz0 hz1 hz2 rfl (by decide) _ _ _ rfl ((HROW.out.alloc _).alloc _).own ⟨wr.heap.size+1,0,none⟩ 1 1 [.int .i64 kv,.int .i64 (pick zk 900+1)] rfl rfl ?c1 ?c2 (by decide) ?c3 ?c4 ?c5 (wr.heap.size+2) (by simp) ?_))
       case c1=>exact news_cells _ [.int .i64 kv,.int .i64 (pick zk 900+1)] _ _ (by simp)
       case c2=>intro u hu;simp at hu;rcases hu with rfl|rfl<;>rfl
       case c3=>have:=HCL.out;unfold maxLen;omega
       case c4=>have:=HCL.out;omega
       case c5=>simp;omega
       intro g' cap w1 hown' hgrow hat hlt'
       have R1:=RowG.push (rs2:=[]) (m:=wr.heap.size) ((HROW.out.alloc _).alloc _) (fun x hx=>by cases hx) hsz1 (fun j hj=>(HROW.out.lt j hj).2) rfl rfl rfl hown' hgrow hat (by simp)
       have O1:=((HOFR.out.alloc (.cells #[.int .i64 kv,.int .i64 (pick zk 900+1)] 129)).alloc (.cells #[.int .i64 kv,.int .i64 (pick zk 900+1)] 129)).grown hgrow (fun j hj=>by have:=(HROW.out.lt j hj).1;have:=HGE.out;omega)
      rotate_left
      focus
       rw [if_neg ht]at HKV
       go_wp2_with (first
        |(go_at_call 15;refine(Pick_any _ _ _ (by omega)).mono ?_;rintro e w' ⟨rfl,rfl⟩;try simp only [HPV.out])
        |(at_builtin;refine wpList_append_lies _ rfl _ _ 75 rfl (wc.heap.size+1) 129 i0 _ 2 16 Tryz.underlying75 hi hz0 hz1 hz2 rfl (by decide) _ _ _ rfl ((HROW.out.alloc _).alloc _).own ⟨wr.heap.size+1,0,none⟩ 1 1 [.int .i64 kv,.int .i64 (0)] rfl rfl ?c1 ?c2 (by decide) ?c3 ?c4 ?c5 (wr.heap.size+2) (by simp) ?_))
       case c1=>exact news_cells _ [.int .i64 kv,.int .i64 (0)] _ _ (by simp)
       case c2=>intro u hu;simp at hu;rcases hu with rfl|rfl<;>rfl
       case c3=>have:=HCL.out;unfold maxLen;omega
       case c4=>have:=HCL.out;omega
       case c5=>simp;omega
       intro g' cap w1 hown' hgrow hat hlt'
       have R1:=RowG.push (rs2:=[]) (m:=wr.heap.size) ((HROW.out.alloc _).alloc _) (fun x hx=>by cases hx) hsz1 (fun j hj=>(HROW.out.lt j hj).2) rfl rfl rfl hown' hgrow hat (by simp)
       have O1:=((HOFR.out.alloc (.cells #[.int .i64 kv,.int .i64 (0)] 129)).alloc (.cells #[.int .i64 kv,.int .i64 (0)] 129)).grown hgrow (fun j hj=>by have:=(HROW.out.lt j hj).1;have:=HGE.out;omega)
      rotate_left
      all_goals
       have K1:=(hgrow.block wc.heap.size (by simp;omega) (fun e=>by have:=(HROW.out.lt _ e.symm).1;omega)).trans ((Below.heap_alloc _ _ _ (by simp;omega)).trans ((Below.heap_alloc _ _ _ hl3).trans HKD.out))
       have hoc2:w1.cell? ⟨g,3,none⟩=some (.slice aa (credCells R k).length acap):=cell_of_row _ _ _ _ _ _ O1.out
       have hof2:w1.frozen? ⟨g,3,none⟩=false:=Joins.unfrozen_of_block O1.out 3
       have R2:=Lib.hid (R1.setCell (a:=⟨g,3,none⟩) (show g<wc.heap.size+1 by omega) (.slice (some ⟨g',0,none⟩) ((credCells R k).length+1) cap))
       have O2:=Lib.hid (O1.store 3 (.slice (some ⟨g',0,none⟩) ((credCells R k).length+1) cap))
       have K2:=Lib.hid ((Below.heap_setCell w1 ⟨g,3,none⟩ (.slice (some ⟨g',0,none⟩) ((credCells R k).length+1) cap) wc.heap.size (by show wc.heap.size≠g;omega)).trans K1)
       clear hown' hgrow hat hlt' R1 O1 K1
       go_wp2_with fail
       go_roundw
       case rel=>exact⟨k+1,_,by omega,by omega,by go_num,O2.out,K2.out,by rw [HSU.out,HKV.out];exact R2.out⟩
       case measure=>simp [intOf];omega
    ·go_wp2_with fail
     go_meet
     exact⟨_,wc.heap.size+1,HOFR.out,⟨by omega,by omega⟩,by rw [show nCred R=k by unfold nCred;omega];exact HROW.out⟩
   ·go_wp2_with fail
    go_meet
    exact⟨_,wc.heap.size+1,HOFR.out,⟨by omega,by omega⟩,by rw [show nCred R=k by unfold nCred;omega];exact HROW.out⟩
 obtain⟨vcr,H1,hof,⟨hgH1,hH1⟩,hrow1⟩:=hcut
 have HROW1:=Lib.hid hrow1.upto
 have HOF1:=Lib.hid hof
 have hgl1:=hof.lt
 clear HOF hgl hof hrow1
 go_step
 exact Of_from1 R w h1 h2 h3 h4 ca sa la ia pa ua ccap scap lcap icap pcap ucap hcl hsl hll hil hpl hul HCC HSC HLC HIC HPC HUC g _ wc vcr H1 hgH1 hH1 HROW1 HOF1 hgl1 _ _ _ _ _ _ _ _ _ _ _ _ _ _ _ _ _ _ _ _ _ _ _ _ _ _ _ _ _ _ _ _ _ _ _ _ _ _ _ _ _ _ _ _ _ _ _ _ _ _ _ _ _ _ _ _ _ _ _ _ _ _ _ _ _ _ _ _ _ _ _ _ _ _ _ _ _ _ _ _ _ _ _ _ _ _ _ _ _ _ _ _ _ _ _ _ _ _ _ _ _ _ _ _ _ _ _ _ _ _ _ _ _ _ _ _ _ _ _ _ _ _ _ _ _ _ _ _ _ _ _ _ _ _ _ _ _ _ _ _ _ _ _ _ _ _ _ _ _ _ _ _ _ _ _ _ _ _ _ _ _ _ _ _ _ _ _ _ _ _ _ _ _ _ _ _ _ _ _ _ _ _ _ _ _ _ _ _ _ _ _ _ _ _ _ _ _ _ _ _ _ _ _ _ _ _ _ _ _ _ _ _ _ _ _ _ _ _ _ _ _ _ _ _ _
theorem of_said:Hid OfSaid:=Lib.hid (by
 intro R cs w hR
 obtain⟨h1,h2,h3,h4,vc,vs,vl,vi,vp,vu,he,hC,hS,hL,hI,hP,hU⟩:=hR
 obtain⟨l⟩:=cs
 simp only at he
 subst he
 exact Of_walk R vc vs vl vi vp vu w h1 h2 h3 h4 hC hS hL hI hP hU)
end Go.Proofs.YtlheailebbngiaaGreatDoor
