import Derived.Test.YtaghhncnicbedaaGreatDoorFMchC
import Derived.Test.YtaghhncnicbedaaGreatDoorFShelf5
import Derived.Test.YtaghhncnicbedaaGreatDoorFFrPd
import Derived.Test.YtaghhncnicbedaaGreatDoorFK
set_option linter.all false
set_option maxHeartbeats 16000000
set_option maxRecDepth 1000000
namespace Go.Proofs.YtaghhncnicbedaaGreatDoor
open Go.RowKit
def WdsK(sl:List ByteArray)(k:Nat):Prop:=(∀s∈sl.take k,isWord s=true)∧(sl.take k).Nodup
theorem WdsK.zero(sl:List ByteArray):WdsK sl 0:=⟨by simp,by simp⟩
theorem WdsK.next{sl:List ByteArray}{k:Nat}(h:WdsK sl k)(hk:k<sl.length)(h1:isWord (sl.getD k ByteArray.empty)=true)(h2:sl.getD k ByteArray.empty∉sl.take k):WdsK sl (k+1):=by
 have e:sl.take (k+1)=sl.take k++[sl.getD k ByteArray.empty]:=by
  exact fz33
 unfold WdsK
 rw [e]
 refine⟨fun s hs=>?_, ?_⟩
 ·rcases List.mem_append.1 hs with hs|hs
  ·exact h.1 s hs
  ·obtain rfl:=List.mem_singleton.1 hs
   exact h1
 ·rw [List.nodup_append]
  refine⟨h.2,by simp,fun a ha b hb=>?_⟩
  obtain rfl:=List.mem_singleton.1 hb
  intro e;subst e;exact h2 ha
theorem words_bad1{sl:List ByteArray}{k:Nat}(hk:k<sl.length)(h:isWord (sl.getD k ByteArray.empty)=false):wordsF sl=false:=by
 unfold wordsF
 have:sl.all isWord=false:=by
  rw [Bool.eq_false_iff];intro hc
  rw [List.all_eq_true]at hc
  have:=hc (sl.getD k ByteArray.empty) (by rw [List.getD_eq_getElem?_getD,List.getElem?_eq_getElem hk];exact List.getElem_mem _)
  rw [h]at this;cases this
 rw [this];simp
theorem words_bad2{sl:List ByteArray}{k:Nat}(hk:k<sl.length)(h:sl.getD k ByteArray.empty∈sl.take k):wordsF sl=false:=by
 unfold wordsF
 have:decide sl.Nodup=false:=by
  rw [decide_eq_false_iff_not];intro hc
  have e:sl.take (k+1)=sl.take k++[sl.getD k ByteArray.empty]:=by
   exact fz33
  have hn:(sl.take (k+1)).Nodup:=(List.take_sublist _ _).nodup hc
  rw [e,List.nodup_append]at hn
  exact hn.2.2 _ h _ (List.mem_singleton.2 rfl) rfl
 rw [this];simp
theorem words_good{sl:List ByteArray}(h:WdsK sl sl.length)(h12:(sl.length:Int)≤12):wordsF sl=true:=by
 unfold WdsK at h
 rw [List.take_length]at h
 unfold wordsF
 rw [decide_eq_true (by omega:sl.length≤12),decide_eq_true h.2,List.all_eq_true.2 h.1];rfl
theorem cntS_out{l:List Ins}(hW:∀i,i<l.length→(l.getD i default).op=4→0≤(l.getD i default).a∧(l.getD i default).a<12){a:Nat}(ha:12≤a):cntS l l.length a=0:=by
 unfold cntS
 rw [List.take_length,List.count_eq_zero]
 intro hm
 unfold setsF at hm
 obtain⟨x,hx,rfl⟩:=List.mem_map.1 hm
 obtain⟨hx1,hx2⟩:=List.mem_filter.1 hx
 obtain⟨i,hi,rfl⟩:=List.mem_iff_getElem.1 hx1
 have:=hW i hi (by rw [List.getD_eq_getElem?_getD,List.getElem?_eq_getElem hi];simpa using hx2)
 rw [List.getD_eq_getElem?_getD,List.getElem?_eq_getElem hi]at this
 simp at this;omega
theorem slots_core(l:List Ins)(sl:List ByteArray)(vi vs:Value)(w:World)(hI:InsAt w vi l)(hS:SlAt w vs sl)(hW:∀i,i<l.length→(l.getD i default).op=4→0≤(l.getD i default).a∧(l.getD i default).a<12) :
 Calls Tryz.prog 41 #[.agg #[vi,vs]] w fun e w'=>e= .returned (.bool (wordsF sl&&decide (setsF l).Nodup))∧w.Grows w':=by
 have HI:=Lib.hid hI
 have HS:=Lib.hid hS
 obtain⟨hl6,ai,ci,rfl,hix⟩:=hI
 have HIX:=Lib.hid hix
 clear hix
 obtain⟨hs6,hmx,as',cs',hcp,rfl,hsx⟩:=hS
 have HSX:=Lib.hid hsx
 clear hsx
 by_cases h12:12<sl.length
 ·have h12':(12:Int)<(sl.length:Int):=by omega
  have HW:Hid (wordsF sl=false):=Lib.hid (by unfold wordsF;rw [decide_eq_false (by omega)];rfl)
  go_enter Tryz.func41,Tryz.ntmps41
  go_wp2_with fail
  go_returns
  exact⟨by rw [HW.out];rfl,growsR⟩
 have h12':¬(12:Int)<(sl.length:Int):=by omega
 have H12:=Lib.hid h12
 have HMX:=Lib.hid hmx
 clear h12 hmx
 go_enter Tryz.func41,Tryz.ntmps41
 go_upto_block 0 with fail
 go_cut [3,4]from 8 (fun _ _ wx=>WdsK sl sl.length∧World.Grows ((w.alloc (.cells #[.slice ai l.length ci,.slice as' sl.length cs'] 63))) wx)
 case first=>
  go_wp2_with fail
  go_loopw [15] (fun v15 wr=>∃k:Nat,k≤sl.length∧v15= .int .i64 k∧Hid (WdsK sl k)∧World.Grows ((w.alloc (.cells #[.slice ai l.length ci,.slice as' sl.length cs'] 63))) wr) (fun v15 _=>sl.length-(intOf v15).toNat)
  case atStart=>exact⟨0,by omega,rfl,Lib.hid (WdsK.zero sl),growsR⟩
  case round=>
   obtain⟨k,hk,rfl,HWK,hg0⟩:=hrel
   have HG0:=Lib.hid hg0
   have hg:w.Grows wr:=World.Grows.trans' growsR hg0
   have HG:=Lib.hid hg
   have cb0:wr.cell? ⟨w.heap.size,0,none⟩=some (.slice ai l.length ci):=by
    rw [World.cell?_of_block (hg0.below.block _ (by simp)),World.cell?_alloc_at _ _ _ _ rfl];rfl
   have cb1:wr.cell? ⟨w.heap.size,1,none⟩=some (.slice as' sl.length cs'):=by
    rw [World.cell?_of_block (hg0.below.block _ (by simp)),World.cell?_alloc_at _ _ _ _ rfl];rfl
   have hwr:w.heap.size<wr.heap.size:=by have:=hg0.below.size;simp at this;omega
   by_cases hlt:k<sl.length
   ·rcases HSX.out with h0|⟨b,off,rfl,hb,hx⟩
    ·omega
    have d1:(k:Int)<(sl.length:Int):=by omega
    have hkc:k≤cs':=by omega
    have hcell:∀j,j<sl.length→wr.cell? ⟨b,off+j,none⟩=some (.string (sl.getD j ByteArray.empty)):=fun j hj=>(World.cell?_of_block (hg.below.block b hb)).trans (hx j hj)
    have c0:=hcell k hlt
    have HIW:=Lib.hid (fun w=>IsWord2_any (sl.getD k ByteArray.empty) w (HMX.out _ (by rw [List.getD_eq_getElem?_getD,List.getElem?_eq_getElem hlt];exact List.getElem_mem _)))
    have HCT:=Lib.hid (fun w' (hg':wr.Grows w')=>Tryz.slices_Contains_string b off k cs' sl (sl.getD k ByteArray.empty) w' hk (by omega) (fun j hj=>(World.cell?_of_block (hg'.below.block b (by have:=hg.below.size;omega))).trans (hcell j hj)))
    have HCI:=Lib.hid (Lib.containsS_iff (sl.take k) (sl.getD k ByteArray.empty))
    have HB1:=Lib.hid (fun h=>words_bad1 hlt h)
    have HB2:=Lib.hid (fun h=>words_bad2 hlt h)
    have HNX:=Lib.hid (fun h1 h2=>HWK.out.next hlt h1 h2)
    have HLT:=Lib.hid hlt
    have hbr:b<wr.heap.size:=by have:=hg.below.size;omega
    clear hx hcell hg hg0
    generalize sl.getD k ByteArray.empty=s at *
    cases hw:isWord s with
    |false=>
     rw [hw]at HIW
     have HW:=Lib.hid (HB1.out hw)
     clear hw
     go_wp2_with (go_at_call 86;refine(HIW.out _).mono ?_;rintro e' w' ⟨rfl,rfl⟩)
     go_returns
     exact⟨by rw [HW.out];rfl,World.Grows.trans' HG.out growsR⟩
    |true=>
     rw [hw]at HIW
     cases hc:Lib.containsS (sl.take k) s with
     |true=>
      rw [hc]at HCT
      have HW:=Lib.hid (HB2.out (HCI.out.1 hc))
      clear hw hc
      go_wp2_with (first
       |(go_at_call 86;refine(HIW.out _).mono ?_;rintro e' w' ⟨rfl,rfl⟩)
       |(go_at_call 87;refine(HCT.out _ growsR).mono ?_;rintro e' w' ⟨rfl,rfl⟩))
      go_returns
      exact⟨by rw [HW.out];rfl,World.Grows.trans' HG.out growsR⟩
     |false=>
      rw [hc]at HCT
      have HN:=Lib.hid (HNX.out hw (fun h=>by rw [HCI.out.2 h]at hc;cases hc))
      clear hw hc
      go_wp2_with (first
       |(go_at_call 86;refine(HIW.out _).mono ?_;rintro e' w' ⟨rfl,rfl⟩)
       |(go_at_call 87;refine(HCT.out _ growsR).mono ?_;rintro e' w' ⟨rfl,rfl⟩))
      go_roundw
      case rel=>exact⟨k+1,HLT.out,by go_num,HN,World.Grows.trans' HG0.out growsR⟩
      case measure=>simp [intOf];have:=HLT.out;omega
   ·obtain rfl:k=sl.length:=by omega
    clear hg hg0 hlt hk
    go_wp2_with fail
    go_meet
    exact⟨HWK.out,HG0.out⟩
 obtain⟨hwk,hg0⟩:=hcut
 have HWK:=Lib.hid hwk
 have HG0:=Lib.hid hg0
 have cb0:wc.cell? ⟨w.heap.size,0,none⟩=some (.slice ai l.length ci):=by
  exact fz19
 have hwr:w.heap.size<wc.heap.size:=by have:=hg0.below.size;simp at this;omega
 clear hwk hg0
 go_wp2_with fail
 go_loopw [35] (fun v35 wr=>∃k:Nat,k≤l.length∧v35= .int .i64 k∧World.Grows wc wr∧wc.heap.size<wr.heap.size∧(∀a,wr.frozen? ⟨wc.heap.size,a,none⟩=false)∧∀a,a<12→wr.cell? ⟨wc.heap.size,a,none⟩=some (.int .i64 (cntS l k a))∧cntS l k a≤1) (fun v35 _=>l.length-(intOf v35).toNat)
 case atStart=>exact⟨0,by omega,rfl,growsR,by simp,fun a=>World.frozen?_alloc_at _ _ _ _ rfl,fun a ha=>⟨by
  rw [World.cell?_alloc_at _ _ _ _ rfl,cntS_zero]
  rcases(by omega:a=0∨a=1∨a=2∨a=3∨a=4∨a=5∨a=6∨a=7∨a=8∨a=9∨a=10∨a=11)with rfl|rfl|rfl|rfl|rfl|rfl|rfl|rfl|rfl|rfl|rfl|rfl<;>rfl,by rw [cntS_zero];omega⟩⟩
 case round=>
  obtain⟨k,hk,rfl,hg1,hwr1,hfz,hcs⟩:=hrel
  have HFZ:=Lib.hid hfz
  clear hfz
  have HG1:=Lib.hid hg1
  have HC:=Lib.hid hcs
  clear hcs
  have hg:w.Grows wr:=World.Grows.trans' growsR (World.Grows.trans' HG0.out hg1)
  have cb1:wr.cell? ⟨w.heap.size,0,none⟩=some (.slice ai l.length ci):=(World.cell?_of_block (hg1.below.block _ hwr)).trans cb0
  have hww:w.heap.size<wr.heap.size:=by have:=hg1.below.size;omega
  by_cases hlt:k<l.length
  ·rcases HIX.out with h0|⟨b,off,rfl,hb,hx⟩
   ·omega
   have d1:(k:Int)<(l.length:Int):=by omega
   obtain⟨-,x0,x1,x2,x3⟩:=hx k hlt
   have e:∀o,wr.cell? ⟨b,o,none⟩=w.cell? ⟨b,o,none⟩:=fun o=>World.cell?_of_block (hg.below.block b hb)
   have y0:=(e _).trans x0
   have y1:=(e _).trans x1
   have y2:=(e _).trans x2
   have y3:=(e _).trans x3
   have hbr:b<wr.heap.size:=by have:=hg.below.size;omega
   have HLT:=Lib.hid hlt
   have HWk:=Lib.hid (hW k hlt)
   have HSet:=Lib.hid (fun h=>cntS_set hlt h)
   have HSkip:=Lib.hid (fun h=>cntS_skip hlt h)
   clear e x0 x1 x2 x3 hx hg hg1 hW
   by_cases h4:(l.getD k default).op=4
   ·obtain⟨n,hn⟩:∃n:Nat,(l.getD k default).a=(n:Int):=⟨(l.getD k default).a.toNat,by have:=(HWk.out h4).1;omega⟩
    have hn12:n<12:=by have:=(HWk.out h4).2;omega
    have HST:=Lib.hid (HSet.out h4)
    rw [hn]at y1
    have hnt:(l.getD k default).a.toNat=n:=by omega
    rw [hnt]at HST
    obtain⟨cS,hS1⟩:=HC.out n hn12
    have d2:(0:Int)≤(n:Int):=by omega
    have d3:(n:Int)<12:=by omega
    clear HSet HSkip HWk hnt hn
    obtain⟨c,hc⟩:∃c:Nat,cntS l k n=c:=⟨_,rfl⟩
    rw [hc]at cS hS1
    generalize l.getD k default=x at *
    rw [h4]at y0
    have hfn:=HFZ.out n
    have HW1:=Lib.hid hwr1
    have HCC:=Lib.hid hc
    clear hc
    by_cases hc1:1<(c:Int)+1
    ·have HC1:=Lib.hid hc1
     go_wp2_with fail
     go_returns
     exact⟨by
      rw [decide_eq_false (not_nodup_of_cnt (l:=l) (k:=k+1) (a:=n) (by rw [HST.out n,if_pos rfl,HCC.out];have:=HC1.out;omega))];simp,
      World.Grows.trans' growsR (World.Grows.trans' HG0.out (.of_below ((HG1.out.below.setCell (Nat.le_refl _) _).alloc (by have:=HW1.out;simp [World.setCell];omega) _)))⟩
    ·have HC1:=Lib.hid hc1
     go_wp2_with fail
     go_roundw
     case rel=>exact⟨k+1,HLT.out,by go_num,.of_below ((HG1.out.below.setCell (Nat.le_refl _) _).alloc (by have:=HW1.out;simp [World.setCell];omega) _),by have:=HW1.out;simp [World.setCell];omega,fun a=>(World.frozen?_of_block ((World.Grows.alloc _ _).below.block _ (by have:=HW1.out;simp [World.setCell];omega))).trans ((World.frozen?_setCell _ _ _ _).trans (HFZ.out a)),fun a ha=>by
      rw [World.cell?_of_block ((World.Grows.alloc _ _).below.block _ (by have:=HW1.out;simp [World.setCell];omega)),HST.out a]
      by_cases han:n=a
      ·subst han
       rw [World.cell?_setCell_same _ _ _ cS,if_pos rfl,HCC.out]
       exact⟨by simp,by have:=HC1.out;omega⟩
      ·rw [World.cell?_setCell_other _ _ _ _ (by simpa using han),if_neg han]
       exact HC.out a ha⟩
     case measure=>simp [intOf];have:=HLT.out;omega
   ·have h4':=h4
    have HN4:=Lib.hid h4
    generalize l.getD k default=x at *
    clear h4
    go_wp2_with fail
    go_roundw
    case rel=>exact⟨k+1,HLT.out,by go_num,World.Grows.trans' HG1.out growsR,by simp;omega,fun a=>(World.frozen?_of_block (World.Grows.below (growsR:wr.Grows _)|>.block _ hwr1)).trans (HFZ.out a),fun a ha=>by
     rw [HSkip.out HN4.out]
     exact⟨by rw [World.cell?_of_block (World.Grows.below (growsR:wr.Grows _)|>.block _ hwr1)];exact(HC.out a ha).1,(HC.out a ha).2⟩⟩
    case measure=>simp [intOf];have:=HLT.out;omega
  ·obtain rfl:k=l.length:=by omega
   clear hlt hk hg hg1
   go_wp2_with fail
   go_returns
   have ha:∀a,cntS l l.length a≤1:=fun a=>by
    rcases Nat.lt_or_ge a 12 with h|h
    ·exact(HC.out a h).2
    ·rw [cntS_out hW h];omega
   exact⟨by rw [words_good HWK.out h12',decide_eq_true (nodup_of_cnt ha)];rfl,World.Grows.trans' growsR (World.Grows.trans' HG0.out HG1.out)⟩


theorem add2_same(an ad bn bd xh xl yh yl zh zl D r g q oh ol n1 n2 n3:Int)(s t:Bool)(w:World)(h1:decide (an<0)=s)(h2:decide (bn<0)=t)(h3:(s==t)=true)
 (V1:Hid (∀w,Calls Tryz.prog 85 #[.agg #[.int .i64 an,.int .i64 ad]] w fun e w'=>e= .returned (.bool true)∧w.Grows w')) (V2:Hid (∀w,Calls Tryz.prog 85 #[.agg #[.int .i64 bn,.int .i64 bd]] w fun e w'=>e= .returned (.bool true)∧w.Grows w'))
 (Z:Hid (∀n,I64 n→∀w,Calls Tryz.prog 137 #[.int .i64 n] w fun e w'=>e= .returned (.int .u64 (absI n))∧w=w')) (I1:I64 an) (I2:I64 ad) (I3:I64 bn) (I4:I64 bd)
 (T1:Hid (∀w,Calls Tryz.prog 148 #[.int .u64 (absI an),.int .u64 (absI bd)] w fun e w'=>e= .returned (.agg #[.int .u64 xh,.int .u64 xl])∧w.Grows w')) (T2:Hid (∀w,Calls Tryz.prog 148 #[.int .u64 (absI bn),.int .u64 (absI ad)] w fun e w'=>e= .returned (.agg #[.int .u64 yh,.int .u64 yl])∧w.Grows w')) (u3:IntKind.u64.wrap (absI ad*absI bd)=D) (g1:1≤g) (g0:(g==0)=false) (eq:IntKind.u64.wrap (D.tdiv g)=q)

 (O:Hid (∀w,Calls Tryz.prog 149 #[.agg #[.int .u64 xh,.int .u64 xl],.agg #[.int .u64 yh,.int .u64 yl]] w fun e w'=>e= .returned (.agg #[.int .u64 zh,.int .u64 zl])∧w.Grows w'))
 (hz:zh=0→zl=0→n1=0∧n2=1∧n3=0)
 (hq:zh≠0∨zl≠0→Hid (∀w,Calls Tryz.prog 147 #[.bool s,.agg #[.int .u64 oh,.int .u64 ol],.agg #[.int .u64 0,.int .u64 q]] w fun e w'=>(e= .returned (.tuple #[.agg #[.int .i64 n1,.int .i64 n2],.int .i64 n3])∧w.Grows w'))∧
  Hid (∀w,Calls Tryz.prog 153 #[.agg #[.int .u64 zh,.int .u64 zl],.int .u64 g] w fun e w'=>e= .returned (.agg #[.int .u64 oh,.int .u64 ol])∧w.Grows w')∧
  Hid (∀w,Calls Tryz.prog 152 #[.int .u64 zh,.int .u64 zl,.int .u64 D] w fun e w'=>e= .returned (.int .u64 r)∧w.Grows w')∧
  Hid (∀w,Calls Tryz.prog 136 #[.int .u64 D,.int .u64 r] w fun e w'=>e= .returned (.int .u64 g)∧w.Grows w'))
 :Calls Tryz.prog 106 (#[.agg #[.int .i64 an,.int .i64 ad],.agg #[.int .i64 bn,.int .i64 bd]]) w fun e w'=>(e= .returned (.tuple #[.agg #[.int .i64 n1,.int .i64 n2],.int .i64 n3])∧w.Grows w'):=by
 have L:Hid True:=Lib.hid trivial
 by_cases z1:zh=0
 ·subst z1
  by_cases z2:zl=0
  ·subst z2
   have R:Hid True:=Lib.hid trivial
   have G:Hid True:=Lib.hid trivial
   have E:=Lib.hid (hz rfl rfl)
   clear hz
   go_enter Tryz.func106,Tryz.ntmps106
   go_wp2_with (first|(go_at_call 85;(with_reducible refine(V1.out _).mono ?_);rintro e w' ⟨rfl,bs,dr,rfl⟩)|(go_at_call 85;(with_reducible refine(V2.out _).mono ?_);rintro e w' ⟨rfl,bs2,dr2,rfl⟩))
   generalize bs++bs2=B
   apply wp_region_made2b 16 (14,6,.cells #[.int .u64 0,.int .u64 0] 211) (15,7,.cells #[.int .u64 0,.int .u64 0] 211) (by kernel_rfl) (by kernel_rfl)
   case hrx=>
    intro o ho ρ w
    obtain rfl:=Option.some.inj ho
    simp [go_sem]
   case hry=>
    intro o ho ρ w
    obtain rfl:=Option.some.inj ho
    simp [go_sem]
   case h1=>
    intro bs d
    simp only [List.take_succ_cons,List.take_zero,List.map_cons,List.map_nil,Oper.mask]
    repeat(go_big_quiet_step ((first|(go_at_call 137;(with_reducible exact Calls.quietMS3 (Z.out _ (by assumption) _)))|(go_at_call 148;first|(with_reducible exact Calls.quietM3 (T1.out _))|(with_reducible exact Calls.quietM3 (T2.out _))))))
    exact wpQuiet_nil rfl
   all_goals
    intro gb1 gd1 gb2 gd2 gb gd
    simp only [List.drop_succ_cons,List.drop_zero,Act.put,List.setIfInBounds_toArray,List.set_cons_zero,List.set_cons_succ,World.grow_grow,World.size_grow,World.size_alloc,Array.size_append]
   all_goals
    clear T1 T2
    go_wp2_with (first|(go_at_call 150;(with_reducible refine(L.out _).mono ?_);rintro e w' ⟨rfl,bs3,dr3,rfl⟩)|(go_at_call 149;(with_reducible refine(O.out _).mono ?_);rintro e w' ⟨rfl,bs4,dr4,rfl⟩))
    clear O L
    refine TS.begin [7] (World.Grows _) (by kernel_rfl) (by kernel_rfl) grows_drew (fun hS=>?_)
    refine TS.wkB 0 hS ?_
    refine TS.wkB 1 hS ?_
    refine TS.takeC (i:=2) (v:=(.int .u64 (absI ad))) (fn:=137) (args:=#[.int .i64 ad]) rfl (by kernel_rfl) (by kernel_rfl) (by kernel_rfl) (by decide) (fun _ _ _ h=>h) rfl hS ?_ ?_ ?_
    focus
     rintro wS ⟨gbS,gdS,rfl⟩
     go_simp
    focus exact fun wS _=>(Z.out _ (by assumption) wS)
    (try simp only [nS])
    refine TS.wkB 3 hS ?_
    refine TS.wkB 4 hS ?_
    refine TS.takeC (i:=5) (v:=(.int .u64 (absI bd))) (fn:=137) (args:=#[.int .i64 bd]) rfl (by kernel_rfl) (by kernel_rfl) (by kernel_rfl) (by decide) (fun _ _ _ h=>h) rfl hS ?_ ?_ ?_
    focus
     rintro wS ⟨gbS,gdS,rfl⟩
     go_simp
    focus exact fun wS _=>(Z.out _ (by assumption) wS)
    (try simp only [nS])
    refine TS.wkB 6 hS ?_
    refine TS.weB 7 ?_
    clear hS
    go_wp2_with (first|(go_at_call 152;(with_reducible refine(R.out _).mono ?_);rintro e w' ⟨rfl,bs5,dr5,rfl⟩)|(go_at_call 136;(with_reducible refine(G.out _).mono ?_);rintro e w' ⟨rfl,bs6,dr6,rfl⟩))
   all_goals
    go_returns
    exact⟨by rw [E.out.1,E.out.2.1,E.out.2.2],.of_below belB⟩
  ·have z3:(zl==0)=false:=by simpa using z2
   obtain⟨Q,U,R,G⟩:=hq (.inr z2)
   clear hz hq
   go_enter Tryz.func106,Tryz.ntmps106
   go_wp2_with (first|(go_at_call 85;(with_reducible refine(V1.out _).mono ?_);rintro e w' ⟨rfl,bs,dr,rfl⟩)|(go_at_call 85;(with_reducible refine(V2.out _).mono ?_);rintro e w' ⟨rfl,bs2,dr2,rfl⟩))
   generalize bs++bs2=B
   apply wp_region_made2b 16 (14,6,.cells #[.int .u64 0,.int .u64 0] 211) (15,7,.cells #[.int .u64 0,.int .u64 0] 211) (by kernel_rfl) (by kernel_rfl)
   case hrx=>
    intro o ho ρ w
    obtain rfl:=Option.some.inj ho
    simp [go_sem]
   case hry=>
    intro o ho ρ w
    obtain rfl:=Option.some.inj ho
    simp [go_sem]
   case h1=>
    intro bs d
    simp only [List.take_succ_cons,List.take_zero,List.map_cons,List.map_nil,Oper.mask]
    repeat(go_big_quiet_step ((first|(go_at_call 137;(with_reducible exact Calls.quietMS3 (Z.out _ (by assumption) _)))|(go_at_call 148;first|(with_reducible exact Calls.quietM3 (T1.out _))|(with_reducible exact Calls.quietM3 (T2.out _))))))
    exact wpQuiet_nil rfl
   all_goals
    intro gb1 gd1 gb2 gd2 gb gd
    simp only [List.drop_succ_cons,List.drop_zero,Act.put,List.setIfInBounds_toArray,List.set_cons_zero,List.set_cons_succ,World.grow_grow,World.size_grow,World.size_alloc,Array.size_append]
   all_goals
    clear T1 T2
    go_wp2_with (first|(go_at_call 150;(with_reducible refine(L.out _).mono ?_);rintro e w' ⟨rfl,bs3,dr3,rfl⟩)|(go_at_call 149;(with_reducible refine(O.out _).mono ?_);rintro e w' ⟨rfl,bs4,dr4,rfl⟩))
    clear O L
    refine TS.begin [7] (World.Grows _) (by kernel_rfl) (by kernel_rfl) grows_drew (fun hS=>?_)
    refine TS.wkB 0 hS ?_
    refine TS.wkB 1 hS ?_
    refine TS.takeC (i:=2) (v:=(.int .u64 (absI ad))) (fn:=137) (args:=#[.int .i64 ad]) rfl (by kernel_rfl) (by kernel_rfl) (by kernel_rfl) (by decide) (fun _ _ _ h=>h) rfl hS ?_ ?_ ?_
    focus
     rintro wS ⟨gbS,gdS,rfl⟩
     go_simp
    focus exact fun wS _=>(Z.out _ (by assumption) wS)
    (try simp only [nS])
    refine TS.wkB 3 hS ?_
    refine TS.wkB 4 hS ?_
    refine TS.takeC (i:=5) (v:=(.int .u64 (absI bd))) (fn:=137) (args:=#[.int .i64 bd]) rfl (by kernel_rfl) (by kernel_rfl) (by kernel_rfl) (by decide) (fun _ _ _ h=>h) rfl hS ?_ ?_ ?_
    focus
     rintro wS ⟨gbS,gdS,rfl⟩
     go_simp
    focus exact fun wS _=>(Z.out _ (by assumption) wS)
    (try simp only [nS])
    refine TS.wkB 6 hS ?_
    refine TS.weB 7 ?_
    clear hS
    go_wp2_with (first|(go_at_call 152;(with_reducible refine(R.out _).mono ?_);rintro e w' ⟨rfl,bs5,dr5,rfl⟩)|(go_at_call 136;(with_reducible refine(G.out _).mono ?_);rintro e w' ⟨rfl,bs6,dr6,rfl⟩))
   all_goals
    clear R G
    have gz:¬g=0:=by omega
    refine TS.begin [11,12] (World.Grows _) (by kernel_rfl) (by kernel_rfl) grows_drew (fun hS=>?_)
    refine TS.wkB 0 hS ?_
    refine TS.wkB 1 hS ?_
    refine TS.wkB 2 hS ?_
    refine TS.wkB 4 hS ?_
    refine TS.wkB 5 hS ?_
    refine TS.takeV (i:=6) (v:=.int .u64 (q)) rfl (by kernel_rfl) (by kernel_rfl) (by kernel_rfl) (by decide) (fun _ _ _ h=>h) rfl hS ?_ ?_
    focus
     rintro wS ⟨gbS,gdS,rfl⟩
     go_simp
     (try exact eq)
    (try simp only [nS])
    refine TS.wkB 7 hS ?_
    refine TS.one (i:=3) (by kernel_rfl) rfl (fun K1 hK1=>?_)
    go_simp
    go_at_call 153
    refine(U.out _).mono ?_
    rintro e' wA ⟨rfl,bA,dA,rfl⟩
    refine TS.go hK1 (by first|exact⟨_,_,World.grow_grow _ _ _ _ _⟩|exact⟨_,_,rfl⟩) (fun hS=>?_)
    clear hK1 K1
    (try simp only [nS])
    refine TS.one (i:=8) (by kernel_rfl) rfl (fun K1 hK1=>?_)
    go_simp
    go_at_call 147
    refine(Q.out _).mono ?_
    rintro e' wA ⟨rfl,bA,dA,rfl⟩
    refine TS.go hK1 (by first|exact⟨_,_,World.grow_grow _ _ _ _ _⟩|exact⟨_,_,rfl⟩) (fun hS=>?_)
    clear hK1 K1
    (try simp only [nS])
    refine TS.wkB 9 hS ?_
    refine TS.wkB 10 hS ?_
    refine TS.wtB 11 ?_
    refine TS.weB 12 ?_
    clear hS
    go_wp2_with fail
    go_returns
    exact⟨rfl,.of_below belB⟩
 ·have z3:(zh==0)=false:=by simpa using z1
  obtain⟨Q,U,R,G⟩:=hq (.inl z1)
  clear hz hq
  go_enter Tryz.func106,Tryz.ntmps106
  go_wp2_with (first|(go_at_call 85;(with_reducible refine(V1.out _).mono ?_);rintro e w' ⟨rfl,bs,dr,rfl⟩)|(go_at_call 85;(with_reducible refine(V2.out _).mono ?_);rintro e w' ⟨rfl,bs2,dr2,rfl⟩))
  generalize bs++bs2=B
  apply wp_region_made2b 16 (14,6,.cells #[.int .u64 0,.int .u64 0] 211) (15,7,.cells #[.int .u64 0,.int .u64 0] 211) (by kernel_rfl) (by kernel_rfl)
  case hrx=>
   intro o ho ρ w
   obtain rfl:=Option.some.inj ho
   simp [go_sem]
  case hry=>
   intro o ho ρ w
   obtain rfl:=Option.some.inj ho
   simp [go_sem]
  case h1=>
   intro bs d
   simp only [List.take_succ_cons,List.take_zero,List.map_cons,List.map_nil,Oper.mask]
   repeat(go_big_quiet_step ((first|(go_at_call 137;(with_reducible exact Calls.quietMS3 (Z.out _ (by assumption) _)))|(go_at_call 148;first|(with_reducible exact Calls.quietM3 (T1.out _))|(with_reducible exact Calls.quietM3 (T2.out _))))))
   exact wpQuiet_nil rfl
  all_goals
   intro gb1 gd1 gb2 gd2 gb gd
   simp only [List.drop_succ_cons,List.drop_zero,Act.put,List.setIfInBounds_toArray,List.set_cons_zero,List.set_cons_succ,World.grow_grow,World.size_grow,World.size_alloc,Array.size_append]
  all_goals
   clear T1 T2
   go_wp2_with (first|(go_at_call 150;(with_reducible refine(L.out _).mono ?_);rintro e w' ⟨rfl,bs3,dr3,rfl⟩)|(go_at_call 149;(with_reducible refine(O.out _).mono ?_);rintro e w' ⟨rfl,bs4,dr4,rfl⟩))
   clear O L
   refine TS.begin [7] (World.Grows _) (by kernel_rfl) (by kernel_rfl) grows_drew (fun hS=>?_)
   refine TS.wkB 0 hS ?_
   refine TS.wkB 1 hS ?_
   refine TS.takeC (i:=2) (v:=(.int .u64 (absI ad))) (fn:=137) (args:=#[.int .i64 ad]) rfl (by kernel_rfl) (by kernel_rfl) (by kernel_rfl) (by decide) (fun _ _ _ h=>h) rfl hS ?_ ?_ ?_
   focus
    rintro wS ⟨gbS,gdS,rfl⟩
    go_simp
   focus exact fun wS _=>(Z.out _ (by assumption) wS)
   (try simp only [nS])
   refine TS.wkB 3 hS ?_
   refine TS.wkB 4 hS ?_
   refine TS.takeC (i:=5) (v:=(.int .u64 (absI bd))) (fn:=137) (args:=#[.int .i64 bd]) rfl (by kernel_rfl) (by kernel_rfl) (by kernel_rfl) (by decide) (fun _ _ _ h=>h) rfl hS ?_ ?_ ?_
   focus
    rintro wS ⟨gbS,gdS,rfl⟩
    go_simp
   focus exact fun wS _=>(Z.out _ (by assumption) wS)
   (try simp only [nS])
   refine TS.wkB 6 hS ?_
   refine TS.weB 7 ?_
   clear hS
   go_wp2_with (first|(go_at_call 152;(with_reducible refine(R.out _).mono ?_);rintro e w' ⟨rfl,bs5,dr5,rfl⟩)|(go_at_call 136;(with_reducible refine(G.out _).mono ?_);rintro e w' ⟨rfl,bs6,dr6,rfl⟩))
  all_goals
   clear R G
   have gz:¬g=0:=by omega
   refine TS.begin [11,12] (World.Grows _) (by kernel_rfl) (by kernel_rfl) grows_drew (fun hS=>?_)
   refine TS.wkB 0 hS ?_
   refine TS.wkB 1 hS ?_
   refine TS.wkB 2 hS ?_
   refine TS.wkB 4 hS ?_
   refine TS.wkB 5 hS ?_
   refine TS.takeV (i:=6) (v:=.int .u64 (q)) rfl (by kernel_rfl) (by kernel_rfl) (by kernel_rfl) (by decide) (fun _ _ _ h=>h) rfl hS ?_ ?_
   focus
    rintro wS ⟨gbS,gdS,rfl⟩
    go_simp
    (try exact eq)
   (try simp only [nS])
   refine TS.wkB 7 hS ?_
   refine TS.one (i:=3) (by kernel_rfl) rfl (fun K1 hK1=>?_)
   go_simp
   go_at_call 153
   refine(U.out _).mono ?_
   rintro e' wA ⟨rfl,bA,dA,rfl⟩
   refine TS.go hK1 (by first|exact⟨_,_,World.grow_grow _ _ _ _ _⟩|exact⟨_,_,rfl⟩) (fun hS=>?_)
   clear hK1 K1
   (try simp only [nS])
   refine TS.one (i:=8) (by kernel_rfl) rfl (fun K1 hK1=>?_)
   go_simp
   go_at_call 147
   refine(Q.out _).mono ?_
   rintro e' wA ⟨rfl,bA,dA,rfl⟩
   refine TS.go hK1 (by first|exact⟨_,_,World.grow_grow _ _ _ _ _⟩|exact⟨_,_,rfl⟩) (fun hS=>?_)
   clear hK1 K1
   (try simp only [nS])
   refine TS.wkB 9 hS ?_
   refine TS.wkB 10 hS ?_
   refine TS.wtB 11 ?_
   refine TS.weB 12 ?_
   clear hS
   go_wp2_with fail
   go_returns
   exact⟨rfl,.of_below belB⟩
end Go.Proofs.YtaghhncnicbedaaGreatDoor
