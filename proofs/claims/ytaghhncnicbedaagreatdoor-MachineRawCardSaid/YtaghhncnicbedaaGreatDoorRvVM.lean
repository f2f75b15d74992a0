/- pensionref8.Verify. -/
import Derived.Test.YtaghhncnicbedaaGreatDoorMRvF
import Derived.Test.YtaghhncnicbedaaGreatDoorMchVM
import Derived.Test.YtaghhncnicbedaaGreatDoorMK
import Derived.Deep.OwnRows
set_option linter.all false
set_option maxHeartbeats 16000000
set_option maxRecDepth 1000000
namespace Go.Proofs.YtaghhncnicbedaaGreatDoor
open Go.RowKit
def rsZ:Array Value:=#[.bool false,.slice none 0 0,.slice none 0 0]
theorem infoRs:(Tryz.prog.info? 123).map (fun i=>(i.zero,i.size,i.bytes))=some (some (.agg rsZ),3,56):=by kernel_rfl
theorem make_rstates(n:Nat)(h:n≤4000)(w:World):(Instr.makeSlice 121 (.int .i64 ((n:Int)+1)) (.int .i64 ((n:Int)+1))).run Tryz.prog w= .ok (.slice (some ⟨w.heap.size,0,none⟩) (n+1) (n+1)) (w.alloc (.cells (madeCells rsZ ((n+1)*3)) 123)):=
 run_make_many 121 123 (.agg rsZ) 3 56 Tryz.underlying121 infoRs n (by omega) (by omega) w
theorem WInv.start(n m:Nat)(W0 W1:World)(h1:W1=W0.alloc (.cells (madeCells rsZ ((n+1)*3)) 123)) :
 WInv n W0.heap.size m W0 (List.replicate (n+1) none) (fun _=>.slice none 0 0) (fun _=>.slice none 0 0) W1:=by
 have hn:∀j,(List.replicate (n+1) (none:Option (List Int × List Int))).getD j none=none:=fun j=>by
  rw [List.getD_eq_getElem?_getD,List.getElem?_replicate];split<;>rfl
 refine⟨by rw [h1];simp,by rw [h1];exact(Below.refl _ _).alloc (Nat.le_refl _) _,by simp,fun j hj=>?_,fun o=>by rw [h1];exact World.frozen?_alloc_at _ _ _ _ rfl,fun j t ht=>(by rw [hn]at ht;cases ht),fun j k t u g _ ht=>(by rw [hn]at ht;cases ht),fun j k t u g ht=>(by rw [hn]at ht;cases ht)⟩
 rw [hn,h1]
 exact made_cells (z:=rsZ) rfl (by decide) (by omega)
theorem VerifyR_any(l:List Ins)(sl:List ByteArray)(vi vs:Value)(w:World)(hI:InsAt w vi l)(hS:SlAt w vs sl) :
 Calls Tryz.prog 22 #[.agg #[vi,vs]] w (VrfP (verB l sl) w):=by
 have hno:∀{l:List Ins} {sl:List ByteArray},formF l sl=false→verB l sl=(0,8):=fun h=>by unfold verB;rw [h,if_neg (by simp)]
 have HNO:=Lib.hid (fun(h:formF l sl=false)=>hno h)
 clear hno
 have HI:=Lib.hid hI
 have HS:=Lib.hid hS
 obtain⟨hl6,ai,ci,rfl,hix⟩:=hI
 have HIX:=Lib.hid hix
 obtain⟨hs6,hmx,as',cs',hcp,rfl,hsx⟩:=hS
 have HSX:=Lib.hid hsx
 have HMX:=Lib.hid hmx
 clear hix hsx hmx hcp
 by_cases h4:4000<l.length
 ·have h4':(4000:Int)<(l.length:Int):=by omega
  have HV:=Lib.hid (HNO.out (formF_long h4))
  clear h4
  go_enter Tryz.func22,Tryz.ntmps22
  go_wp2_with fail
  go_returns
  rw [HV.out]
  exact⟨rfl,growsR⟩
 have h4':¬(4000:Int)<(l.length:Int):=by omega
 by_cases h12:12<sl.length
 ·have h12':(12:Int)<(sl.length:Int):=by omega
  have HV:=Lib.hid (HNO.out (formF_sl (by unfold wordsF;rw [decide_eq_false (by omega)];rfl)))
  clear h4 h12
  go_enter Tryz.func22,Tryz.ntmps22
  go_wp2_with fail
  go_returns
  rw [HV.out]
  exact⟨rfl,growsR⟩
 have h12':¬(12:Int)<(sl.length:Int):=by omega
 have H4:=Lib.hid h4
 have H12:=Lib.hid h12
 clear h4 h12
 go_enter Tryz.func22,Tryz.ntmps22
 go_upto_block 0 with fail
 go_cut [2,3,4,5]from 11 (fun v2 v3 _ _ wx=>v2= .int .i64 0∧v3= .int .i64 0∧WdsK sl sl.length∧World.Grows ((w.alloc (.cells #[.slice ai l.length ci,.slice as' sl.length cs'] 63))) wx)
 case first=>
  go_wp2_with fail
  go_loopw [2,3,4] (fun v2 v3 v4 wr=>∃i:Nat,i≤sl.length∧v4= .int .i64 i∧v2= .int .i64 0∧v3= .int .i64 0∧Hid (WdsK sl i)∧World.Grows ((w.alloc (.cells #[.slice ai l.length ci,.slice as' sl.length cs'] 63))) wr) (fun _ _ v4 _=>sl.length-(intOf v4).toNat)
  case atStart=>exact⟨0,by omega,rfl,rfl,rfl,Lib.hid (WdsK.zero sl),growsR⟩
  case round=>
   obtain⟨i,hi,rfl,rfl,rfl,HK,hg0⟩:=hrel
   have HG0:=Lib.hid hg0
   have hg:w.Grows wr:=World.Grows.trans' growsR hg0
   have HG:=Lib.hid hg
   have cb1:wr.cell? ⟨w.heap.size,1,none⟩=some (.slice as' sl.length cs'):=by
    rw [World.cell?_of_block (hg0.below.block _ (by simp)),World.cell?_alloc_at _ _ _ _ rfl];rfl
   have hwr:w.heap.size<wr.heap.size:=by have:=hg0.below.size;simp at this;omega
   by_cases hlt:i<sl.length
   ·rcases HSX.out with h0|⟨b,off,rfl,hb,hx⟩
    ·omega
    have d1:(i:Int)<(sl.length:Int):=by omega
    have ci':wr.cell? ⟨b,off+i,none⟩=some (.string (sl.getD i ByteArray.empty)):=(World.cell?_of_block (hg.below.block b hb)).trans (hx i hlt)
    have HX:Hid (∀wq,wr.Grows wq→∀j,j<sl.length→wq.cell? ⟨b,off+j,none⟩=some (.string (sl.getD j ByteArray.empty))):=Lib.hid (fun wq hq j hj=>(World.cell?_of_block ((World.Grows.trans' hg hq).below.block b hb)).trans (hx j hj))
    have HIW:=Lib.hid (fun w=>IsWord_any (sl.getD i ByteArray.empty) w (HMX.out _ (by rw [List.getD_eq_getElem?_getD,List.getElem?_eq_getElem hlt];exact List.getElem_mem _)))
    have hbr:b<wr.heap.size:=by have:=hg.below.size;omega
    have HLT:=Lib.hid hlt
    clear hx hg hg0 hlt
    obtain⟨wo,rfl⟩:∃wo,wo=wr:=⟨_,rfl⟩
    go_wp2_with fail
    go_loopw [2,3,5] (fun v2 v3 v5 wr=>∃k:Nat,k≤i∧v5= .int .i64 k∧v2= .int .i64 0∧v3= .int .i64 0∧wo.Grows wr∧Hid (∀j,j<k→sl.getD j ByteArray.empty≠sl.getD i ByteArray.empty)) (fun _ _ v5 _=>i-(intOf v5).toNat)
    case atStart=>exact⟨0,by omega,rfl,rfl,rfl,growsR,Lib.hid (fun j hj=>by omega)⟩
    case round=>
     obtain⟨k,hk,rfl,rfl,rfl,hgq,HD⟩:=hrel
     have HGQ:=Lib.hid hgq
     have cq1:wr.cell? ⟨w.heap.size,1,none⟩=some (.slice (some ⟨b,off,none⟩) sl.length cs'):=(World.cell?_of_block (hgq.below.block _ hwr)).trans cb1
     have hwr:w.heap.size<wr.heap.size:=by have:=hgq.below.size;omega
     have hbq:b<wr.heap.size:=by have:=hgq.below.size;omega
     by_cases hki:k<i
     ·have e1:=HX.out wr hgq k (by have:=HLT.out;omega)
      have e2:=HX.out wr hgq i HLT.out
      have d2:(k:Int)<(i:Int):=by omega
      have d3:(k:Int)<(sl.length:Int):=by omega
      have HKI:=Lib.hid hki
      obtain⟨sk,hsk⟩:∃s,sl.getD k ByteArray.empty=s:=⟨_,rfl⟩
      obtain⟨si,hsi⟩:∃s,sl.getD i ByteArray.empty=s:=⟨_,rfl⟩
      rw [hsk]at e1
      rw [hsi]at e2 HIW
      have HSS:=Lib.hid (And.intro hsk hsi)
      clear hgq hki hsk hsi
      by_cases hss:sk=si
      ·have hcmp:(sk.toList==si.toList)=true:=by rw [hss];simp
       have HV:=Lib.hid (HNO.out (formF_sl (by
        rw [words_bad2 HLT.out (by
         rw [HSS.out.2,←hss,←HSS.out.1]
         have:=HKI.out
         rw [List.mem_iff_getElem?]
         refine⟨k, ?_⟩
         rw [List.getElem?_take,if_pos this,List.getD_eq_getElem?_getD,List.getElem?_eq_getElem (by have:=HLT.out;omega)];rfl)];rfl)))
       clear hss
       go_wp2_with fail
       go_region
       go_wp2_with fail
       go_returns
       rw [HV.out]
       exact⟨rfl,World.Grows.trans' HG.out (World.Grows.trans' HGQ.out growsR)⟩
      ·have hcmp:(sk.toList==si.toList)=false:=by
        rw [Bool.eq_false_iff];intro hc
        have hc':sk.toList=si.toList:=by simpa using hc
        rw [ByteArray.toList_eq,ByteArray.toList_eq]at hc'
        exact hss (ByteArray.ext (Array.toList_inj.1 hc'))
       have HN:Hid (∀j,j<k+1→sl.getD j ByteArray.empty≠sl.getD i ByteArray.empty):=Lib.hid (fun j hj=>by
        by_cases e:j=k
        ·subst e;rw [HSS.out.1,HSS.out.2];exact hss
        ·exact HD.out j (by omega))
       clear hss
       go_wp2_with fail
       go_region
       go_wp2_with fail
       go_roundw
       case rel=>exact⟨k+1,HKI.out,by go_num,rfl,rfl,World.Grows.trans' HGQ.out growsR,HN⟩
       case measure=>simp [intOf];have:=HKI.out;omega
     ·obtain rfl:k=i:=by omega
      have e2:=HX.out wr hgq k HLT.out
      have HNM:Hid (sl.getD k ByteArray.empty∉sl.take k):=Lib.hid (fun h=>by
       rw [List.mem_iff_getElem?]at h
       obtain⟨j,hj⟩:=h
       rw [List.getElem?_take]at hj
       by_cases hjk:j<k
       ·rw [if_pos hjk]at hj
        refine HD.out j hjk ?_
        rw [List.getD_eq_getElem?_getD,hj];rfl
       ·rw [if_neg hjk]at hj;cases hj)
      cases hw:isWord (sl.getD k ByteArray.empty)with
      |false=>
       rw [hw]at HIW
       have HV:=Lib.hid (HNO.out (formF_sl (by rw [words_bad1 HLT.out hw];rfl)))
       generalize sl.getD k ByteArray.empty=s at *
       clear hw hgq hki hk
       go_wp2_with (go_at_call 44;refine(HIW.out _).mono ?_;rintro e' w' ⟨rfl,rfl⟩)
       go_returns
       rw [HV.out]
       exact⟨rfl,World.Grows.trans' HG.out (World.Grows.trans' HGQ.out growsR)⟩
      |true=>
       rw [hw]at HIW
       have HN:=Lib.hid (HK.out.next HLT.out hw HNM.out)
       generalize sl.getD k ByteArray.empty=s at *
       clear hw hgq hki hk
       go_wp2_with (go_at_call 44;refine(HIW.out _).mono ?_;rintro e' w' ⟨rfl,rfl⟩)
       go_roundw
       case rel=>exact⟨k+1,HLT.out,by go_num,rfl,rfl,HN,World.Grows.trans' HG0.out (World.Grows.trans' HGQ.out growsR)⟩
       case measure=>simp [intOf];have:=HLT.out;omega
   ·obtain rfl:i=sl.length:=by omega
    clear hg hg0 hlt hi
    go_wp2_with fail
    go_meet
    exact⟨rfl,rfl,HK.out,HG0.out⟩
 obtain⟨rfl,rfl,hwk,hg0⟩:=hcut
 have HWK:=Lib.hid hwk
 have hg:w.Grows wc:=World.Grows.trans' growsR hg0
 have HG:=Lib.hid hg
 have cb0:wc.cell? ⟨w.heap.size,0,none⟩=some (.slice ai l.length ci):=by
  exact mz1
 have cb1:wc.cell? ⟨w.heap.size,1,none⟩=some (.slice as' sl.length cs'):=by
  exact mz1
 have hwc:w.heap.size<wc.heap.size:=by have:=hg0.below.size;simp at this;omega
 have HOPD:Hid (∀w' k,w.Grows w'→k<l.length→Calls Tryz.prog 45 #[.agg #[.slice ai l.length ci,.slice as' sl.length cs'],.int .i64 k] w' fun e w''=>e= .returned (.bool (wfF sl.length l.length k (l.getD k default)))∧w'.Grows w''):=Lib.hid (fun w' k hg hk=>operand_any l sl _ _ k w' (HI.out.grows hg) (HS.out.grows hg) hk)
 clear hwk hg hg0
 obtain⟨wd,rfl⟩:∃wd,wd=wc:=⟨_,rfl⟩
 go_upto_block 4 with fail
 go_cut [2,3,4,5,7]from 11 (fun v2 v3 _ _ _ wx=>v2= .int .i64 0∧v3= .int .i64 0∧formF l sl=true∧wd.Grows wx)
 case first=>
  go_wp2_with fail
  go_loopw [2,3,7] (fun v2 v3 v7 wr=>∃k:Nat,k≤l.length∧v7= .int .i64 k∧v2= .int .i64 0∧v3= .int .i64 0∧Hid (∀j,j<k→wfF sl.length l.length j (l.getD j default)=true)∧wd.Grows wr∧wd.heap.size<wr.heap.size∧(∀a,wr.frozen? ⟨wd.heap.size,a,none⟩=false)∧∀a,a<12→wr.cell? ⟨wd.heap.size,a,none⟩=some (.bool (decide (0<cntS l k a)))∧cntS l k a≤1) (fun _ _ v7 _=>l.length-(intOf v7).toNat)
  case atStart=>exact⟨0,by omega,rfl,rfl,rfl,Lib.hid (fun j hj=>by omega),growsR,by simp,fun a=>World.frozen?_alloc_at _ _ _ _ rfl,fun a ha=>⟨by
   rw [World.cell?_alloc_at _ _ _ _ rfl,cntS_zero]
   rcases(by omega:a=0∨a=1∨a=2∨a=3∨a=4∨a=5∨a=6∨a=7∨a=8∨a=9∨a=10∨a=11)with rfl|rfl|rfl|rfl|rfl|rfl|rfl|rfl|rfl|rfl|rfl|rfl<;>rfl,by rw [cntS_zero];omega⟩⟩
  case round=>
   obtain⟨k,hk,rfl,rfl,rfl,HK,hg1,hwr1,hfz,hcs⟩:=hrel
   have HFZ:=Lib.hid hfz
   have HG1:=Lib.hid hg1
   have HC:=Lib.hid hcs
   have HWG:Hid (w.Grows wr):=Lib.hid (World.Grows.trans' HG.out hg1)
   have cr0:wr.cell? ⟨w.heap.size,0,none⟩=some (.slice ai l.length ci):=(World.cell?_of_block (hg1.below.block _ hwc)).trans cb0
   have cr1:wr.cell? ⟨w.heap.size,1,none⟩=some (.slice as' sl.length cs'):=(World.cell?_of_block (hg1.below.block _ hwc)).trans cb1
   have hww:w.heap.size<wr.heap.size:=by omega
   clear hfz hcs
   by_cases hlt:k<l.length
   ·rcases HIX.out with h0|⟨b,off,rfl,hb,hx⟩
    ·omega
    have d1:(k:Int)<(l.length:Int):=by omega
    obtain⟨-,x0,x1,-,-⟩:=hx k hlt
    have e:∀o,wr.cell? ⟨b,o,none⟩=w.cell? ⟨b,o,none⟩:=fun o=>World.cell?_of_block (HWG.out.below.block b hb)
    have y0:=(e _).trans x0
    have y1:=(e _).trans x1
    have hbr:b<wr.heap.size:=by have:=HWG.out.below.size;omega
    have HOC:=Lib.hid (fun w' (hg':wr.Grows w')=>HOPD.out w' k (World.Grows.trans' HWG.out hg') hlt)
    have HLT:=Lib.hid hlt
    have HSet:=Lib.hid (fun h=>cntS_set hlt h)
    have HSkip:=Lib.hid (fun h=>cntS_skip hlt h)
    clear e x0 x1 hx hg1 hlt
    cases hw:wfF sl.length l.length k (l.getD k default)with
    |false=>
     rw [hw]at HOC
     have HV:=Lib.hid (HNO.out (formF_wf HLT.out hw))
     clear hw
     go_wp2_with (go_at_call 45;refine(HOC.out _ growsR).mono ?_;rintro e' w' ⟨rfl,bs,d,rfl⟩)
     go_returns
     rw [HV.out]
     exact⟨rfl,World.Grows.trans' HWG.out growsR⟩
    |true=>
     rw [hw]at HOC
     have HN:Hid (∀j,j<k+1→wfF sl.length l.length j (l.getD j default)=true):=Lib.hid (fun j hj=>by
      by_cases e:j=k
      ·subst e;exact hw
      ·exact HK.out j (by omega))
     have HRE:=Lib.hid (fun o4=>(wf_rest hw (by rw [o4];omega)).2.2.1 (.inr o4))
     clear hw
     by_cases h4:(l.getD k default).op=4
     ·obtain⟨n,hn⟩:∃n:Nat,(l.getD k default).a=(n:Int):=⟨(l.getD k default).a.toNat,by have:=(HRE.out h4).1;omega⟩
      have hn12:n<12:=by have:=(HRE.out h4).2;have:=H12.out;omega
      have HST:=Lib.hid (HSet.out h4)
      rw [hn]at y1
      have hnt:(l.getD k default).a.toNat=n:=by omega
      rw [hnt]at HST
      obtain⟨cS,hS1⟩:=HC.out n hn12
      have d2:(0:Int)≤(n:Int):=by omega
      have d3:(n:Int)<12:=by omega
      clear HSet HSkip HRE hnt hn
      obtain⟨c,hc⟩:∃c:Nat,cntS l k n=c:=⟨_,rfl⟩
      rw [hc]at cS hS1
      rw [h4]at y0
      have hfn:=HFZ.out n
      have HCC:=Lib.hid hc
      have HW1:=Lib.hid hwr1
      clear hc h4
      by_cases hc1:0<c
      ·have HV:=Lib.hid (HNO.out (formF_sl (l:=l) (sl:=sl) (by rw [decide_eq_false (not_nodup_of_cnt (l:=l) (k:=k+1) (a:=n) (by rw [HST.out n,if_pos rfl,HCC.out];omega))];simp)))
       rw [decide_eq_true hc1]at cS
       clear hc1
       go_wp2_with (go_at_call 45;refine(HOC.out _ growsR).mono ?_;rintro e' w' ⟨rfl,bs,d,rfl⟩)
       go_returns
       rw [HV.out]
       exact⟨rfl,World.Grows.trans' HWG.out growsR⟩
      ·have HC0:=Lib.hid hc1
       rw [decide_eq_false hc1]at cS
       clear hc1
       go_wp2_with (go_at_call 45;refine(HOC.out _ growsR).mono ?_;rintro e' w' ⟨rfl,bs,d,rfl⟩)
       go_roundw
       case rel=>
        have hs1:(wr.setCell ⟨wd.heap.size,n,none⟩ (.bool true)).heap.size=wr.heap.size:=by simp [World.setCell]
        refine⟨k+1,HLT.out,by go_num,rfl,rfl,HN,.of_below ((HG1.out.below.setCell (Nat.le_refl _) _).grow (by rw [hs1];omega) _ _),by simp [World.setCell];omega,fun a=>?_,fun a ha=>?_⟩
        ·rw [World.frozen?_grow _ _ _ (by rw [hs1];exact hwr1),World.frozen?_setCell];exact HFZ.out a
        ·rw [World.cell?_grow _ _ _ (by rw [hs1];exact hwr1),HST.out a]
         by_cases han:n=a
         ·subst han
          rw [World.cell?_setCell_same _ _ _ cS,if_pos rfl,HCC.out]
          exact⟨by simp,by have:=HC0.out;omega⟩
         ·rw [World.cell?_setCell_other _ _ _ _ (by simpa using han),if_neg han]
          exact HC.out a ha
       case measure=>simp [intOf];have:=HLT.out;omega
     ·have h4':((l.getD k default).op==4)=false:=by simpa using h4
      have HN4:=Lib.hid h4
      obtain⟨x,hx⟩:∃x,l.getD k default=x:=⟨_,rfl⟩
      rw [hx]at y0 y1 h4'
      clear h4 hx
      go_wp2_with (go_at_call 45;refine(HOC.out _ growsR).mono ?_;rintro e' w' ⟨rfl,bs,d,rfl⟩)
      go_roundw
      case rel=>exact⟨k+1,HLT.out,by go_num,rfl,rfl,HN,World.Grows.trans' HG1.out growsR,by simp;omega,fun a=>(World.frozen?_of_block (World.Grows.below (growsR:wr.Grows _)|>.block _ hwr1)).trans (HFZ.out a),fun a ha=>by
       rw [HSkip.out HN4.out]
       exact⟨by rw [World.cell?_of_block (World.Grows.below (growsR:wr.Grows _)|>.block _ hwr1)];exact(HC.out a ha).1,(HC.out a ha).2⟩⟩
      case measure=>simp [intOf];have:=HLT.out;omega
   ·obtain rfl:k=l.length:=by omega
    have HFY:Hid (formF l sl=true):=Lib.hid (formF_yes (by have:=H4.out;omega) HK.out (by
     rw [words_good HWK.out h12',decide_eq_true (nodup_of_cnt fun a=>by
      rcases Nat.lt_or_ge a 12 with h|h
      ·exact(HC.out a h).2
      ·rw [cntS_out (fun i hi ho=>by
        have h1:=(wf_rest (HK.out i hi) (by rw [ho];omega)).2.2.1 (.inr ho)
        have:=H12.out
        omega) h];omega)];rfl))
    clear hlt hk hg1
    go_wp2_with fail
    go_meet
    exact⟨rfl,rfl,HFY.out,HG1.out⟩
 obtain⟨rfl,rfl,hform,hg1⟩:=hcut
 have HVB:Hid (verB l sl=goB l 0 (some ([],List.replicate sl.length 0)::List.replicate l.length none) 0):=Lib.hid (by unfold verB;rw [if_pos hform])
 have HG1:Hid (w.Grows wc):=Lib.hid (World.Grows.trans' HG.out hg1)
 have cc0:wc.cell? ⟨w.heap.size,0,none⟩=some (.slice ai l.length ci):=(World.cell?_of_block (hg1.below.block _ hwc)).trans cb0
 have cc1:wc.cell? ⟨w.heap.size,1,none⟩=some (.slice as' sl.length cs'):=(World.cell?_of_block (hg1.below.block _ hwc)).trans cb1
 have hwx:w.heap.size<wc.heap.size:=by have:=hg1.below.size;omega
 have hmk:=make_rstates l.length (by have:=H4.out;omega)
 have HFM:=Lib.hid hform
 clear hg1 hform cb0 cb1
 go_upto_region 24 with fail
 obtain⟨W1,hW1⟩:∃W1,wc.alloc (.cells (madeCells rsZ ((l.length+1)*3)) 123)=W1:=⟨_,rfl⟩
 rw [hW1]
 have HV1:=Lib.hid (WInv.start l.length sl.length wc W1 hW1.symm)
 have hg1:wc.Grows W1:=by rw [←hW1];exact growsR
 have hz1:W1.heap.size=wc.heap.size+1:=by rw [←hW1];simp
 have c10:W1.cell? ⟨w.heap.size,0,none⟩=some (.slice ai l.length ci):=(World.cell?_of_block (hg1.below.block _ hwx)).trans cc0
 have c11:W1.cell? ⟨w.heap.size,1,none⟩=some (.slice as' sl.length cs'):=(World.cell?_of_block (hg1.below.block _ hwx)).trans cc1
 have hw1:w.heap.size<W1.heap.size:=by omega
 have hmi:=run_make_row' (P:=Tryz.prog) 22 3 (.int .i64 0) 8 Tryz.underlying22 infoIM rfl .i64 .i64 sl.length (by omega) (by omega)
 have HMT:Hid (∀W',(W1.alloc (.cells (madeCells #[.int .i64 0] sl.length) 3)).Grows W'→Calls Tryz.prog 46 #[.pointer (some ⟨wc.heap.size,0,none⟩),.slice none 0 0,.slice (some ⟨W1.heap.size,0,none⟩) sl.length sl.length] W' (MtP l.length wc.heap.size sl.length wc (List.replicate (l.length+1) none) (fun _=>.slice none 0 0) 0 ([],List.replicate sl.length 0) W')):=Lib.hid (fun W' hgr=>by
  refine(HV1.out.grows (World.Grows.trans' growsR hgr)).meet (k:=0) (B1:=0) (B2:=0) (s:=([],List.replicate sl.length 0)) (vz:=.slice none 0 0) (vl:=.slice (some ⟨W1.heap.size,0,none⟩) sl.length sl.length) (by omega) (World.ownsRow_nil _ _ _ _) ?_ (by simp) (by simp) (by have:=H12.out;omega) (by simp) (fun z hz=>?_) (by simp [Value.ownBlock]) (fun e=>?_) (fun b e=>by cases e) (fun b e k t ht=>?_)
  ·have h0:=World.ownsRow_lit (base:=0) (e:=3) (size:=1) W1 (madeCells #[.int .i64 0] sl.length) sl.length (by omega) (by unfold maxLen;omega) (by rw [size_madeCells];omega)
   rw [toList_madeCells_one]at h0
   rw [List.map_replicate,List.length_replicate]
   exact Mods.row (P:=fun _=>False) (.grows hgr) h0 fun _ _ e=>e
  ·have:=List.eq_of_mem_replicate hz;omega
  ·have:W1.heap.size=wc.heap.size:=by simpa [Value.ownBlock]using e
   omega
  ·rw [List.getD_eq_getElem?_getD,List.getElem?_replicate]at ht
   split at ht<;>cases ht)
 rw [hz1]at HMT
 have HP0:Hid (putB (List.replicate (l.length+1) none) 0 (([]:List Int),List.replicate sl.length 0)=some (some ([],List.replicate sl.length 0)::List.replicate l.length none)):=Lib.hid (by
  unfold putB
  rw [List.replicate_succ];rfl)
 clear hmk hW1 hg1
 go_wp2_with fail
 refine TS.begin [6] (World.Grows W1) (by kernel_rfl) (by kernel_rfl) grows_drew0 (fun hS=>?_)
 refine TS.wkB 0 hS ?_
 refine TS.wkB 1 hS ?_
 refine TS.wkB 2 hS ?_
 refine TS.wkB 3 hS ?_
 refine TS.wkB 4 hS ?_
 refine TS.one (i:=5) (by kernel_rfl) rfl (fun K1 hK1=>?_)
 have HK1:=Lib.hid hK1
 clear hK1 hS
 dsimp only [List.getElem_toArray,List.getElem_cons_succ,List.getElem_cons_zero]
 go_simp
 refine TS.go HK1.out growsR (fun hS=>?_)
 clear HK1 K1
 (try simp only [nS])
 refine TS.one (i:=6) (by kernel_rfl) rfl (fun K1 hK1=>?_)
 have HK1:=Lib.hid hK1
 clear hK1 hS
 dsimp only [List.getElem_toArray,List.getElem_cons_succ,List.getElem_cons_zero]
 go_simp
 go_at_call 46
 refine(HMT.out _ growsR).mono ?_
 rintro e' w2 ⟨bb,rfl,hbl,hsz2,-,⟨rfl,hp⟩|⟨rfl,T',Rs',Rl',hp,hv,-⟩⟩
 ·rw [HP0.out]at hp;cases hp
 rw [HP0.out]at hp
 obtain rfl:=Option.some.inj hp
 have HV2:=Lib.hid hv
 have c20:w2.cell? ⟨w.heap.size,0,none⟩=some (.slice ai l.length ci):=(World.cell?_of_block (a:=⟨w.heap.size,0,none⟩) (hbl.block _ hwx)).trans cc0
 have c21:w2.cell? ⟨w.heap.size,1,none⟩=some (.slice as' sl.length cs'):=(World.cell?_of_block (a:=⟨w.heap.size,1,none⟩) (hbl.block _ hwx)).trans cc1
 have hw2:w.heap.size<w2.heap.size:=by have:=hv.sz;omega
 refine HK1.out _ _ (fun h=>absurd (by decide) h) (TS.done (by kernel_rfl) ?_)
 clear HK1 K1 hp hbl hv c10 c11 hmi
 go_wp2_with fail
 go_loopw [2,3,9,10] (fun v2 v3 v9 v10 wr=>∃(i:Nat) (T:List (Option (List Int × List Int))) (Rs Rl:Nat→Value) (dep:Nat),i≤l.length∧v10= .int .i64 i∧v9= .int .i64 dep∧v2= .int .i64 0∧v3= .int .i64 0∧WInv l.length wc.heap.size sl.length wc T Rs Rl wr∧Hid (goB (l.drop i) i T dep=verB l sl)∧dep≤24) (fun _ _ _ v10 _=>l.length-(intOf v10).toNat)
 case atStart=>exact⟨0,_,_,_,0,by omega,rfl,rfl,rfl,rfl,HV2.out,Lib.hid (by rw [List.drop_zero,HVB.out]),by omega⟩
 case round=>
  obtain⟨i,T,Rs,Rl,dep,hi,rfl,rfl,rfl,rfl,hv,HGO,hd24⟩:=hrel
  have HVR:=Lib.hid hv
  have HLW:Hid (w.Grows wr):=Lib.hid (World.Grows.trans' HG1.out (.of_below hv.lo))
  have cr0:wr.cell? ⟨w.heap.size,0,none⟩=some (.slice ai l.length ci):=(World.cell?_of_block (a:=⟨w.heap.size,0,none⟩) (hv.lo.block _ hwx)).trans cc0
  have cr1:wr.cell? ⟨w.heap.size,1,none⟩=some (.slice as' sl.length cs'):=(World.cell?_of_block (a:=⟨w.heap.size,1,none⟩) (hv.lo.block _ hwx)).trans cc1
  have hNSr:=hv.sz
  have hwr:w.heap.size<wr.heap.size:=by omega
  by_cases hlt:i<l.length
  ·have d1:(i:Int)<(l.length:Int):=by omega
   have d2:(i:Int)<(l.length:Int)+1:=by omega
   have HLT:=Lib.hid hlt
   have HDR:Hid (l.drop i=l.getD i default::l.drop (i+1)):=Lib.hid (by rw [List.drop_eq_getElem_cons hlt,List.getD_eq_getElem?_getD,List.getElem?_eq_getElem hlt];rfl)
   rw [HDR.out]at HGO
   have hst:=hv.st i (by omega)
   cases hT:T.getD i none with
   |none=>
    rw [hT]at hst
    have z0:=hst 0 _ rfl
    rw [Nat.add_zero]at z0
    have HR:Hid (verB l sl=(0,8)):=Lib.hid (by rw [←HGO.out,goB,hT])
    clear hT hst hv hlt hi
    go_wp2_with fail
    go_returns
    rw [HR.out]
    exact⟨rfl,World.Grows.trans' HLW.out growsR⟩
   |some t=>
    rw [hT]at hst
    obtain⟨r1,r2,r3,r4,-⟩:=hv.row i t hT
    obtain⟨sa,sc,hsa⟩:=row_form'' r1
    have z0:=hst 0 _ rfl
    have z1:=hst 1 _ rfl
    rw [Nat.add_zero]at z0
    rw [hsa]at z1
    have HST:=Lib.hid (fun W (hg:wr.Grows W)=>step_any l sl (.slice ai l.length ci) (.slice as' sl.length cs') i wc.heap.size wc T Rs Rl t W (HI.out.grows (World.Grows.trans' HLW.out hg)) HLT.out (HVR.out.grows hg) (by
     have h1:=HFM.out
     unfold formF at h1
     simp only [Bool.and_eq_true,List.all_eq_true,List.mem_range]at h1
     exact h1.1.2 i HLT.out) (by have:=H12.out;omega) hT ⟨_,_,rfl⟩)
    have HTT:=Lib.hid hT
    have HL24:=Lib.hid r3
    clear hT hst hv hlt hi r1 r2 r3 r4 hsa
    go_wp2_with fail
    go_at_call 47
    refine(HST.out _ growsR).mono ?_
    rintro e' w3 ⟨bb,rfl,hbl,⟨rfl,hr⟩|⟨rfl,T',Rs',Rl',hr,hv'⟩⟩
    ·have HR:Hid (verB l sl=(0,8)):=Lib.hid (by rw [←HGO.out,goB,HTT.out];simp only [hr])
     have HG3:Hid (w.Grows w3):=Lib.hid (World.Grows.trans' HG1.out (.of_below hbl))
     clear hbl hr
     go_wp2_with fail
     go_returns
     rw [HR.out]
     exact⟨rfl,World.Grows.trans' HG3.out growsR⟩
    ·have HGN:Hid (goB (l.drop (i+1)) (i+1) T' (max dep t.1.length)=verB l sl):=Lib.hid (by rw [←HGO.out,goB,HTT.out];simp only [hr])
     have HV3:=Lib.hid hv'
     clear hbl hr hv'
     go_wp2_with fail
     go_roundw
     case rel=>exact⟨i+1,T',Rs',Rl',max dep t.1.length,HLT.out,by go_num,by first|(simp;done)|(simp;omega),rfl,rfl,HV3.out.grows growsR,HGN,by have:=HL24.out;omega⟩
     case measure=>simp [intOf];have:=HLT.out;omega
  ·obtain rfl:i=l.length:=by omega
   have hst:=hv.st l.length (Nat.le_refl _)
   rw [List.drop_length,goB]at HGO
   cases hT:T.getD l.length none with
   |none=>
    rw [hT]at hst HGO
    have z0:=hst 0 _ rfl
    have z1:=hst 1 _ rfl
    rw [Nat.add_zero]at z0
    have HR:Hid (verB l sl=(0,8)):=Lib.hid HGO.out.symm
    clear hT hst hv hlt hi
    go_wp2_with fail
    go_returns
    rw [HR.out]
    exact⟨rfl,World.Grows.trans' HLW.out growsR⟩
   |some t=>
    rw [hT]at hst HGO
    obtain⟨r1,-⟩:=hv.row l.length t hT
    obtain⟨sa,sc,hsa⟩:=row_form'' r1
    have z0:=hst 0 _ rfl
    have z1:=hst 1 _ rfl
    rw [Nat.add_zero]at z0
    rw [hsa]at z1
    by_cases he:t.1= []
    ·have HR:Hid (verB l sl=((dep:Int),0)):=Lib.hid (by rw [←HGO.out];simp only [if_pos he])
     have hl0:t.1.length=0:=by rw [he];rfl
     rw [hl0]at z1
     clear hT hst hv hlt hi r1 hsa he hl0
     go_wp2_with fail
     go_returns
     rw [HR.out]
     exact⟨rfl,World.Grows.trans' HLW.out growsR⟩
    ·have HR:Hid (verB l sl=(0,8)):=Lib.hid (by rw [←HGO.out];simp only [if_neg he])
     have hl0:(0:Int)<(t.1.length:Int):=by
      have:t.1.length≠0:=fun e=>he (List.eq_nil_of_length_eq_zero e)
      omega
     have hl1:0<t.1.length:=by omega
     have hl2:(decide ((0:Int)<(t.1.length:Int)))=true:=decide_eq_true hl0
     clear hT hst hv hlt hi r1 hsa he
     go_wp2_with fail
     go_returns
     rw [HR.out]
     exact⟨rfl,World.Grows.trans' HLW.out growsR⟩
end Go.Proofs.YtaghhncnicbedaaGreatDoor
