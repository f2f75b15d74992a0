import Derived.Test.YtblkcgceefjmjaaGreatDoorSMchC
import Derived.Test.YtblkcgceefjmjaaGreatDoorSShelf5
import Derived.Test.YtblkcgceefjmjaaGreatDoorSFrM1
import Derived.Test.YtblkcgceefjmjaaGreatDoorSFrA1
import Derived.Test.YtblkcgceefjmjaaGreatDoorSFrA2L
import Derived.Test.YtblkcgceefjmjaaGreatDoorVwPS
import Derived.Test.YtblkcgceefjmjaaGreatDoorSK
import Derived.Deep.CutBlock
import Derived.Deep.CutRange
import Derived.Deep.DeepCutAuto
set_option linter.all false
set_option maxHeartbeats 16000000
set_option maxRecDepth 1000000
namespace Go.Proofs.YtblkcgceefjmjaaGreatDoor
open Go.RowKit
def WdsK(sl:List ByteArray)(k:Nat):Prop:=(∀s∈sl.take k,isWord s=true)∧(sl.take k).Nodup
theorem WdsK.zero(sl:List ByteArray):WdsK sl 0:=⟨by simp,by simp⟩
theorem WdsK.next{sl:List ByteArray}{k:Nat}(h:WdsK sl k)(hk:k<sl.length)(h1:isWord (sl.getD k ByteArray.empty)=true)(h2:sl.getD k ByteArray.empty∉sl.take k):WdsK sl (k+1):=by
 have e:sl.take (k+1)=sl.take k++[sl.getD k ByteArray.empty]:=by
  exact sz23
 unfold WdsK
 rw [e]
 refine⟨fun s hs=>?_, ?_⟩
 ·rcases List.mem_append.1 hs with hs|hs
  ·exact h.1 s hs
  ·obtain rfl:=List.mem_singleton.1 hs
   exact h1
 ·rw [List.nodup_append]
  refine⟨h.2,by simp,fun a ha b hb=>?_⟩
  obtain rfl:=List.mem_singleton.1 hb
  intro e;subst e;exact h2 ha
theorem words_bad1{sl:List ByteArray}{k:Nat}(hk:k<sl.length)(h:isWord (sl.getD k ByteArray.empty)=false):wordsF sl=false:=by
 unfold wordsF
 have:sl.all isWord=false:=by
  rw [Bool.eq_false_iff];intro hc
  rw [List.all_eq_true]at hc
  have:=hc (sl.getD k ByteArray.empty) (by rw [List.getD_eq_getElem?_getD,List.getElem?_eq_getElem hk];exact List.getElem_mem _)
  rw [h]at this;cases this
 rw [this];simp
theorem words_bad2{sl:List ByteArray}{k:Nat}(hk:k<sl.length)(h:sl.getD k ByteArray.empty∈sl.take k):wordsF sl=false:=by
 unfold wordsF
 have:decide sl.Nodup=false:=by
  rw [decide_eq_false_iff_not];intro hc
  have e:sl.take (k+1)=sl.take k++[sl.getD k ByteArray.empty]:=by
   exact sz23
  have hn:(sl.take (k+1)).Nodup:=(List.take_sublist _ _).nodup hc
  rw [e,List.nodup_append]at hn
  exact hn.2.2 _ h _ (List.mem_singleton.2 rfl) rfl
 rw [this];simp
theorem words_good{sl:List ByteArray}(h:WdsK sl sl.length)(h12:(sl.length:Int)≤12):wordsF sl=true:=by
 unfold WdsK at h
 rw [List.take_length]at h
 unfold wordsF
 rw [decide_eq_true (by omega:sl.length≤12),decide_eq_true h.2,List.all_eq_true.2 h.1];rfl
theorem cntS_out{l:List Ins}(hW:∀i,i<l.length→(l.getD i default).op=4→0≤(l.getD i default).a∧(l.getD i default).a<12){a:Nat}(ha:12≤a):cntS l l.length a=0:=by
 unfold cntS
 rw [List.take_length,List.count_eq_zero]
 intro hm
 unfold setsF at hm
 obtain⟨x,hx,rfl⟩:=List.mem_map.1 hm
 obtain⟨hx1,hx2⟩:=List.mem_filter.1 hx
 obtain⟨i,hi,rfl⟩:=List.mem_iff_getElem.1 hx1
 have:=hW i hi (by rw [List.getD_eq_getElem?_getD,List.getElem?_eq_getElem hi];simpa using hx2)
 rw [List.getD_eq_getElem?_getD,List.getElem?_eq_getElem hi]at this
 simp at this;omega
theorem slots_core(l:List Ins)(sl:List ByteArray)(vi vs:Value)(w:World)(hI:InsAt w vi l)(hS:SlAt w vs sl)(hW:∀i,i<l.length→(l.getD i default).op=4→0≤(l.getD i default).a∧(l.getD i default).a<12) :
 Calls Tryz.prog 107 #[.agg #[vi,vs]] w fun e w'=>e= .returned (.bool (wordsF sl&&decide (setsF l).Nodup))∧w.Grows w':=by
 have HI:=Lib.hid hI
 have HS:=Lib.hid hS
 obtain⟨hl6,ai,ci,rfl,hix⟩:=hI
 have HIX:=Lib.hid hix
 clear hix
 obtain⟨hs6,hmx,as',cs',hcp,rfl,hsx⟩:=hS
 have HSX:=Lib.hid hsx
 clear hsx
 by_cases h12:12<sl.length
 ·have h12':(12:Int)<(sl.length:Int):=by omega
  have HW:Hid (wordsF sl=false):=Lib.hid (by unfold wordsF;rw [decide_eq_false (by omega)];rfl)
  go_enter Tryz.func107,Tryz.ntmps107
  go_wp2_with fail
  go_returns
  exact⟨by rw [HW.out];rfl,growsR⟩
 have h12':¬(12:Int)<(sl.length:Int):=by omega
 have H12:=Lib.hid h12
 have HMX:=Lib.hid hmx
 clear h12 hmx
 go_enter Tryz.func107,Tryz.ntmps107
 go_upto_block 0 with fail
 go_cut [3,4]from 8 (fun _ _ wx=>WdsK sl sl.length∧World.Grows ((w.alloc (.cells #[.slice ai l.length ci,.slice as' sl.length cs'] 58))) wx)
 case first=>
  go_wp2_with fail
  go_loopw [15] (fun v15 wr=>∃k:Nat,k≤sl.length∧v15= .int .i64 k∧Hid (WdsK sl k)∧World.Grows ((w.alloc (.cells #[.slice ai l.length ci,.slice as' sl.length cs'] 58))) wr) (fun v15 _=>sl.length-(intOf v15).toNat)
  case atStart=>exact⟨0,by omega,rfl,Lib.hid (WdsK.zero sl),growsR⟩
  case round=>
   obtain⟨k,hk,rfl,HWK,hg0⟩:=hrel
   have HG0:=Lib.hid hg0
   have hg:w.Grows wr:=World.Grows.trans' growsR hg0
   have HG:=Lib.hid hg
   have cb0:wr.cell? ⟨w.heap.size,0,none⟩=some (.slice ai l.length ci):=by
    rw [World.cell?_of_block (hg0.below.block _ (by simp)),World.cell?_alloc_at _ _ _ _ rfl];rfl
   have cb1:wr.cell? ⟨w.heap.size,1,none⟩=some (.slice as' sl.length cs'):=by
    rw [World.cell?_of_block (hg0.below.block _ (by simp)),World.cell?_alloc_at _ _ _ _ rfl];rfl
   have hwr:w.heap.size<wr.heap.size:=by have:=hg0.below.size;simp at this;omega
   by_cases hlt:k<sl.length
   ·rcases HSX.out with h0|⟨b,off,rfl,hb,hx⟩
    ·omega
    have d1:(k:Int)<(sl.length:Int):=by omega
    have hkc:k≤cs':=by omega
    have hcell:∀j,j<sl.length→wr.cell? ⟨b,off+j,none⟩=some (.string (sl.getD j ByteArray.empty)):=fun j hj=>(World.cell?_of_block (hg.below.block b hb)).trans (hx j hj)
    have c0:=hcell k hlt
    have HIW:=Lib.hid (fun w=>IsWord2_any (sl.getD k ByteArray.empty) w (HMX.out _ (by rw [List.getD_eq_getElem?_getD,List.getElem?_eq_getElem hlt];exact List.getElem_mem _)))
    have HCT:=Lib.hid (fun w' (hg':wr.Grows w')=>Tryz.slices_Contains_string b off k cs' sl (sl.getD k ByteArray.empty) w' hk (by omega) (fun j hj=>(World.cell?_of_block (hg'.below.block b (by have:=hg.below.size;omega))).trans (hcell j hj)))
    have HCI:=Lib.hid (Lib.containsS_iff (sl.take k) (sl.getD k ByteArray.empty))
    have HB1:=Lib.hid (fun h=>words_bad1 hlt h)
    have HB2:=Lib.hid (fun h=>words_bad2 hlt h)
    have HNX:=Lib.hid (fun h1 h2=>HWK.out.next hlt h1 h2)
    have HLT:=Lib.hid hlt
    have hbr:b<wr.heap.size:=by have:=hg.below.size;omega
    clear hx hcell hg hg0
    generalize sl.getD k ByteArray.empty=s at *
    cases hw:isWord s with
    |false=>
     rw [hw]at HIW
     have HW:=Lib.hid (HB1.out hw)
     clear hw
     go_wp2_with (go_at_call 189;refine(HIW.out _).mono ?_;rintro e' w' ⟨rfl,rfl⟩)
     go_returns
     exact⟨by rw [HW.out];rfl,World.Grows.trans' HG.out growsR⟩
    |true=>
     rw [hw]at HIW
     cases hc:Lib.containsS (sl.take k) s with
     |true=>
      rw [hc]at HCT
      have HW:=Lib.hid (HB2.out (HCI.out.1 hc))
      clear hw hc
      go_wp2_with (first
       |(go_at_call 189;refine(HIW.out _).mono ?_;rintro e' w' ⟨rfl,rfl⟩)
       |(go_at_call 190;refine(HCT.out _ growsR).mono ?_;rintro e' w' ⟨rfl,rfl⟩))
      go_returns
      exact⟨by rw [HW.out];rfl,World.Grows.trans' HG.out growsR⟩
     |false=>
      rw [hc]at HCT
      have HN:=Lib.hid (HNX.out hw (fun h=>by rw [HCI.out.2 h]at hc;cases hc))
      clear hw hc
      go_wp2_with (first
       |(go_at_call 189;refine(HIW.out _).mono ?_;rintro e' w' ⟨rfl,rfl⟩)
       |(go_at_call 190;refine(HCT.out _ growsR).mono ?_;rintro e' w' ⟨rfl,rfl⟩))
      go_roundw
      case rel=>exact⟨k+1,HLT.out,by go_num,HN,World.Grows.trans' HG0.out growsR⟩
      case measure=>simp [intOf];have:=HLT.out;omega
   ·obtain rfl:k=sl.length:=by omega
    clear hg hg0 hlt hk
    go_wp2_with fail
    go_meet
    exact⟨HWK.out,HG0.out⟩
 obtain⟨hwk,hg0⟩:=hcut
 have HWK:=Lib.hid hwk
 have HG0:=Lib.hid hg0
 have cb0:wc.cell? ⟨w.heap.size,0,none⟩=some (.slice ai l.length ci):=by
  exact sz32
 have hwr:w.heap.size<wc.heap.size:=by have:=hg0.below.size;simp at this;omega
 clear hwk hg0
 go_wp2_with fail
 go_loopw [35] (fun v35 wr=>∃k:Nat,k≤l.length∧v35= .int .i64 k∧World.Grows wc wr∧wc.heap.size<wr.heap.size∧(∀a,wr.frozen? ⟨wc.heap.size,a,none⟩=false)∧∀a,a<12→wr.cell? ⟨wc.heap.size,a,none⟩=some (.int .i64 (cntS l k a))∧cntS l k a≤1) (fun v35 _=>l.length-(intOf v35).toNat)
 case atStart=>exact⟨0,by omega,rfl,growsR,by simp,fun a=>World.frozen?_alloc_at _ _ _ _ rfl,fun a ha=>⟨by
  rw [World.cell?_alloc_at _ _ _ _ rfl,cntS_zero]
  rcases(by omega:a=0∨a=1∨a=2∨a=3∨a=4∨a=5∨a=6∨a=7∨a=8∨a=9∨a=10∨a=11)with rfl|rfl|rfl|rfl|rfl|rfl|rfl|rfl|rfl|rfl|rfl|rfl<;>rfl,by rw [cntS_zero];omega⟩⟩
 case round=>
  obtain⟨k,hk,rfl,hg1,hwr1,hfz,hcs⟩:=hrel
  have HFZ:=Lib.hid hfz
  clear hfz
  have HG1:=Lib.hid hg1
  have HC:=Lib.hid hcs
  clear hcs
  have hg:w.Grows wr:=World.Grows.trans' growsR (World.Grows.trans' HG0.out hg1)
  have cb1:wr.cell? ⟨w.heap.size,0,none⟩=some (.slice ai l.length ci):=(World.cell?_of_block (hg1.below.block _ hwr)).trans cb0
  have hww:w.heap.size<wr.heap.size:=by have:=hg1.below.size;omega
  by_cases hlt:k<l.length
  ·rcases HIX.out with h0|⟨b,off,rfl,hb,hx⟩
   ·omega
   have d1:(k:Int)<(l.length:Int):=by omega
   obtain⟨-,x0,x1,x2,x3⟩:=hx k hlt
   have e:∀o,wr.cell? ⟨b,o,none⟩=w.cell? ⟨b,o,none⟩:=fun o=>World.cell?_of_block (hg.below.block b hb)
   have y0:=(e _).trans x0
   have y1:=(e _).trans x1
   have y2:=(e _).trans x2
   have y3:=(e _).trans x3
   have hbr:b<wr.heap.size:=by have:=hg.below.size;omega
   have HLT:=Lib.hid hlt
   have HWk:=Lib.hid (hW k hlt)
   have HSet:=Lib.hid (fun h=>cntS_set hlt h)
   have HSkip:=Lib.hid (fun h=>cntS_skip hlt h)
   clear e x0 x1 x2 x3 hx hg hg1 hW
   by_cases h4:(l.getD k default).op=4
   ·obtain⟨n,hn⟩:∃n:Nat,(l.getD k default).a=(n:Int):=⟨(l.getD k default).a.toNat,by have:=(HWk.out h4).1;omega⟩
    have hn12:n<12:=by have:=(HWk.out h4).2;omega
    have HST:=Lib.hid (HSet.out h4)
    rw [hn]at y1
    have hnt:(l.getD k default).a.toNat=n:=by omega
    rw [hnt]at HST
    obtain⟨cS,hS1⟩:=HC.out n hn12
    have d2:(0:Int)≤(n:Int):=by omega
    have d3:(n:Int)<12:=by omega
    clear HSet HSkip HWk hnt hn
    obtain⟨c,hc⟩:∃c:Nat,cntS l k n=c:=⟨_,rfl⟩
    rw [hc]at cS hS1
    generalize l.getD k default=x at *
    rw [h4]at y0
    have hfn:=HFZ.out n
    have HW1:=Lib.hid hwr1
    have HCC:=Lib.hid hc
    clear hc
    by_cases hc1:1<(c:Int)+1
    ·have HC1:=Lib.hid hc1
     go_wp2_with fail
     go_returns
     exact⟨by
      rw [decide_eq_false (not_nodup_of_cnt (l:=l) (k:=k+1) (a:=n) (by rw [HST.out n,if_pos rfl,HCC.out];have:=HC1.out;omega))];simp,
      World.Grows.trans' growsR (World.Grows.trans' HG0.out (.of_below ((HG1.out.below.setCell (Nat.le_refl _) _).alloc (by have:=HW1.out;simp [World.setCell];omega) _)))⟩
    ·have HC1:=Lib.hid hc1
     go_wp2_with fail
     go_roundw
     case rel=>exact⟨k+1,HLT.out,by go_num,.of_below ((HG1.out.below.setCell (Nat.le_refl _) _).alloc (by have:=HW1.out;simp [World.setCell];omega) _),by have:=HW1.out;simp [World.setCell];omega,fun a=>(World.frozen?_of_block ((World.Grows.alloc _ _).below.block _ (by have:=HW1.out;simp [World.setCell];omega))).trans ((World.frozen?_setCell _ _ _ _).trans (HFZ.out a)),fun a ha=>by
      rw [World.cell?_of_block ((World.Grows.alloc _ _).below.block _ (by have:=HW1.out;simp [World.setCell];omega)),HST.out a]
      by_cases han:n=a
      ·subst han
       rw [World.cell?_setCell_same _ _ _ cS,if_pos rfl,HCC.out]
       exact⟨by simp,by have:=HC1.out;omega⟩
      ·rw [World.cell?_setCell_other _ _ _ _ (by simpa using han),if_neg han]
       exact HC.out a ha⟩
     case measure=>simp [intOf];have:=HLT.out;omega
   ·have h4':=h4
    have HN4:=Lib.hid h4
    generalize l.getD k default=x at *
    clear h4
    go_wp2_with fail
    go_roundw
    case rel=>exact⟨k+1,HLT.out,by go_num,World.Grows.trans' HG1.out growsR,by simp;omega,fun a=>(World.frozen?_of_block (World.Grows.below (growsR:wr.Grows _)|>.block _ hwr1)).trans (HFZ.out a),fun a ha=>by
     rw [HSkip.out HN4.out]
     exact⟨by rw [World.cell?_of_block (World.Grows.below (growsR:wr.Grows _)|>.block _ hwr1)];exact(HC.out a ha).1,(HC.out a ha).2⟩⟩
    case measure=>simp [intOf];have:=HLT.out;omega
  ·obtain rfl:k=l.length:=by omega
   clear hlt hk hg hg1
   go_wp2_with fail
   go_returns
   have ha:∀a,cntS l l.length a≤1:=fun a=>by
    rcases Nat.lt_or_ge a 12 with h|h
    ·exact(HC.out a h).2
    ·rw [cntS_out hW h];omega
   exact⟨by rw [words_good HWK.out h12',decide_eq_true (nodup_of_cnt ha)];rfl,World.Grows.trans' growsR (World.Grows.trans' HG0.out HG1.out)⟩
theorem make2_core(n d a b g p q n1 n2 n3:Int)(s t neg:Bool)(hneg:((s !=t)&&(n !=0))=neg)(w:World)(h1:decide (n<0)=s)(h2:decide (d<0)=t)(d0:(d==0)=false)(g1:1≤g)(g0:(g==0)=false)(e1:IntKind.u64.wrap (a.tdiv g)=p)(e2:IntKind.u64.wrap (b.tdiv g)=q)
 (Z1:Hid (∀w,Calls Tryz.prog 231 #[.int .i64 n] w fun e w'=>e= .returned (.int .u64 a)∧w=w'))
 (Z2:Hid (∀w,Calls Tryz.prog 231 #[.int .i64 d] w fun e w'=>e= .returned (.int .u64 b)∧w=w'))
 (G:Hid (∀w,Calls Tryz.prog 230 #[.int .u64 a,.int .u64 b] w fun e w'=>e= .returned (.int .u64 g)∧w.Grows w'))
 (Q:Hid (∀w,Calls Tryz.prog 235 #[.bool neg,.agg #[.int .u64 0,.int .u64 p],.agg #[.int .u64 0,.int .u64 q]] w fun e w'=>e= .returned (.tuple #[.agg #[.int .i64 n1,.int .i64 n2],.int .i64 n3])∧w.Grows w'))
 :Calls Tryz.prog 181 #[.int .i64 n,.int .i64 d] w fun e w'=>e= .returned (.tuple #[.agg #[.int .i64 n1,.int .i64 n2],.int .i64 n3])∧w.Grows w':=by
 by_cases c:n=0
 ·subst c
  cases s
  ·obtain rfl:neg=false:=by rw [←hneg];cases t<;>rfl
   clear hneg
   cases t
   focus
    go_enter Tryz.func181,Tryz.ntmps181
    go_wp2_with (first|(go_at_call 231;(with_reducible refine(Z1.out _).mono ?_);rintro e w' ⟨rfl,rfl⟩;clear Z1)|(go_at_call 231;(with_reducible refine(Z2.out _).mono ?_);rintro e w' ⟨rfl,rfl⟩;clear Z2)|(go_at_call 230;(with_reducible refine(G.out _).mono ?_);rintro e w' ⟨rfl,bs,dr,rfl⟩;clear G))
    have gz:¬g=0:=by omega
    refine TS.begin [20,21] (World.Grows _) (by kernel_rfl) (by kernel_rfl) grows_drew (fun hS=>?_)
    refine TS.wkB 0 hS ?_
    refine TS.wkB 1 hS ?_
    refine TS.wkB 2 hS ?_
    refine TS.wkB 3 hS ?_
    refine TS.wkB 4 hS ?_
    refine TS.wkB 5 hS ?_
    refine TS.take (i:=6) (v:=undef) rfl (by kernel_rfl) (by kernel_rfl) (by kernel_rfl) (by decide) (fun _ _ _ h=>h) (.inl ⟨rfl,rfl⟩) hS ?_
    (try simp only [nS])
    refine TS.take (i:=7) (v:=undef) rfl (by kernel_rfl) (by kernel_rfl) (by kernel_rfl) (by decide) (fun _ _ _ h=>h) (.inl ⟨rfl,rfl⟩) hS ?_
    (try simp only [nS])
   rotate_left
   focus
    go_enter Tryz.func181,Tryz.ntmps181
    go_wp2_with (first|(go_at_call 231;(with_reducible refine(Z1.out _).mono ?_);rintro e w' ⟨rfl,rfl⟩;clear Z1)|(go_at_call 231;(with_reducible refine(Z2.out _).mono ?_);rintro e w' ⟨rfl,rfl⟩;clear Z2)|(go_at_call 230;(with_reducible refine(G.out _).mono ?_);rintro e w' ⟨rfl,bs,dr,rfl⟩;clear G))
    have gz:¬g=0:=by omega
    refine TS.begin [20,21] (World.Grows _) (by kernel_rfl) (by kernel_rfl) grows_drew (fun hS=>?_)
    refine TS.wkB 0 hS ?_
    refine TS.wkB 1 hS ?_
    refine TS.wkB 2 hS ?_
    refine TS.wkB 3 hS ?_
    refine TS.wkB 4 hS ?_
    refine TS.wkB 5 hS ?_
    refine TS.wkB 6 hS ?_
    refine TS.wkB 7 hS ?_
   rotate_left
   all_goals
    refine TS.wkB 8 hS ?_
    refine TS.wkB 9 hS ?_
    refine TS.wkB 10 hS ?_
    refine TS.takeV (i:=11) (v:=.int .u64 (p)) rfl (by kernel_rfl) (by kernel_rfl) (by kernel_rfl) (by decide) (fun _ _ _ h=>h) rfl hS ?_ ?_
    focus
     rintro wS ⟨gbS,gdS,rfl⟩
     go_simp
     (try exact e1)
    (try simp only [nS])
    refine TS.wkB 12 hS ?_
    refine TS.wkB 13 hS ?_
    refine TS.wkB 14 hS ?_
    refine TS.takeV (i:=15) (v:=.int .u64 (q)) rfl (by kernel_rfl) (by kernel_rfl) (by kernel_rfl) (by decide) (fun _ _ _ h=>h) rfl hS ?_ ?_
    focus
     rintro wS ⟨gbS,gdS,rfl⟩
     go_simp
     (try exact e2)
    (try simp only [nS])
    refine TS.wkB 16 hS ?_
    refine TS.one (i:=17) (by kernel_rfl) rfl (fun K1 hK1=>?_)
    go_simp
    go_at_call 235
    refine(Q.out _).mono ?_
    rintro e' wA ⟨rfl,bA,dA,rfl⟩
    refine TS.go hK1 (by first|exact⟨_,_,World.grow_grow _ _ _ _ _⟩|exact⟨_,_,rfl⟩) (fun hS=>?_)
    clear hK1 K1
    (try simp only [nS])
    refine TS.wkB 18 hS ?_
    refine TS.wkB 19 hS ?_
    refine TS.wtB 20 ?_
    refine TS.weB 21 ?_
    clear hS
    go_wp2_with fail
    go_returns
    exact⟨rfl,.of_below belB⟩
  ·exact absurd h1 (by decide)
 ·have c1:(n !=0)=true:=by simpa using c
  have c2:(n==0)=false:=by simpa using c
  rw [c1,Bool.and_true]at hneg
  subst hneg
  cases s<;>cases t
  focus
   go_enter Tryz.func181,Tryz.ntmps181
   go_wp2_with (first|(go_at_call 231;(with_reducible refine(Z1.out _).mono ?_);rintro e w' ⟨rfl,rfl⟩;clear Z1)|(go_at_call 231;(with_reducible refine(Z2.out _).mono ?_);rintro e w' ⟨rfl,rfl⟩;clear Z2)|(go_at_call 230;(with_reducible refine(G.out _).mono ?_);rintro e w' ⟨rfl,bs,dr,rfl⟩;clear G))
   have gz:¬g=0:=by omega
   refine TS.begin [20,21] (World.Grows _) (by kernel_rfl) (by kernel_rfl) grows_drew (fun hS=>?_)
   refine TS.wkB 0 hS ?_
   refine TS.wkB 1 hS ?_
   refine TS.wkB 2 hS ?_
   refine TS.wkB 3 hS ?_
   refine TS.wkB 4 hS ?_
   refine TS.wkB 5 hS ?_
   refine TS.take (i:=6) (v:=undef) rfl (by kernel_rfl) (by kernel_rfl) (by kernel_rfl) (by decide) (fun _ _ _ h=>h) (.inl ⟨rfl,rfl⟩) hS ?_
   (try simp only [nS])
   refine TS.take (i:=7) (v:=undef) rfl (by kernel_rfl) (by kernel_rfl) (by kernel_rfl) (by decide) (fun _ _ _ h=>h) (.inl ⟨rfl,rfl⟩) hS ?_
   (try simp only [nS])
  rotate_left
  focus
   go_enter Tryz.func181,Tryz.ntmps181
   go_wp2_with (first|(go_at_call 231;(with_reducible refine(Z1.out _).mono ?_);rintro e w' ⟨rfl,rfl⟩;clear Z1)|(go_at_call 231;(with_reducible refine(Z2.out _).mono ?_);rintro e w' ⟨rfl,rfl⟩;clear Z2)|(go_at_call 230;(with_reducible refine(G.out _).mono ?_);rintro e w' ⟨rfl,bs,dr,rfl⟩;clear G))
   have gz:¬g=0:=by omega
   refine TS.begin [20,21] (World.Grows _) (by kernel_rfl) (by kernel_rfl) grows_drew (fun hS=>?_)
   refine TS.wkB 0 hS ?_
   refine TS.wkB 1 hS ?_
   refine TS.wkB 2 hS ?_
   refine TS.wkB 3 hS ?_
   refine TS.wkB 4 hS ?_
   refine TS.wkB 5 hS ?_
   refine TS.wkB 6 hS ?_
   refine TS.wkB 7 hS ?_
  rotate_left
  focus
   go_enter Tryz.func181,Tryz.ntmps181
   go_wp2_with (first|(go_at_call 231;(with_reducible refine(Z1.out _).mono ?_);rintro e w' ⟨rfl,rfl⟩;clear Z1)|(go_at_call 231;(with_reducible refine(Z2.out _).mono ?_);rintro e w' ⟨rfl,rfl⟩;clear Z2)|(go_at_call 230;(with_reducible refine(G.out _).mono ?_);rintro e w' ⟨rfl,bs,dr,rfl⟩;clear G))
   have gz:¬g=0:=by omega
   refine TS.begin [20,21] (World.Grows _) (by kernel_rfl) (by kernel_rfl) grows_drew (fun hS=>?_)
   refine TS.wkB 0 hS ?_
   refine TS.wkB 1 hS ?_
   refine TS.wkB 2 hS ?_
   refine TS.wkB 3 hS ?_
   refine TS.wkB 4 hS ?_
   refine TS.wkB 5 hS ?_
   refine TS.wkB 6 hS ?_
   refine TS.wkB 7 hS ?_
  rotate_left
  focus
   go_enter Tryz.func181,Tryz.ntmps181
   go_wp2_with (first|(go_at_call 231;(with_reducible refine(Z1.out _).mono ?_);rintro e w' ⟨rfl,rfl⟩;clear Z1)|(go_at_call 231;(with_reducible refine(Z2.out _).mono ?_);rintro e w' ⟨rfl,rfl⟩;clear Z2)|(go_at_call 230;(with_reducible refine(G.out _).mono ?_);rintro e w' ⟨rfl,bs,dr,rfl⟩;clear G))
   have gz:¬g=0:=by omega
   refine TS.begin [20,21] (World.Grows _) (by kernel_rfl) (by kernel_rfl) grows_drew (fun hS=>?_)
   refine TS.wkB 0 hS ?_
   refine TS.wkB 1 hS ?_
   refine TS.wkB 2 hS ?_
   refine TS.wkB 3 hS ?_
   refine TS.wkB 4 hS ?_
   refine TS.wkB 5 hS ?_
   refine TS.take (i:=6) (v:=undef) rfl (by kernel_rfl) (by kernel_rfl) (by kernel_rfl) (by decide) (fun _ _ _ h=>h) (.inl ⟨rfl,rfl⟩) hS ?_
   (try simp only [nS])
   refine TS.take (i:=7) (v:=undef) rfl (by kernel_rfl) (by kernel_rfl) (by kernel_rfl) (by decide) (fun _ _ _ h=>h) (.inl ⟨rfl,rfl⟩) hS ?_
   (try simp only [nS])
  rotate_left
  all_goals
   refine TS.wkB 8 hS ?_
   refine TS.wkB 9 hS ?_
   refine TS.wkB 10 hS ?_
   refine TS.takeV (i:=11) (v:=.int .u64 (p)) rfl (by kernel_rfl) (by kernel_rfl) (by kernel_rfl) (by decide) (fun _ _ _ h=>h) rfl hS ?_ ?_
   focus
    rintro wS ⟨gbS,gdS,rfl⟩
    go_simp
    (try exact e1)
   (try simp only [nS])
   refine TS.wkB 12 hS ?_
   refine TS.wkB 13 hS ?_
   refine TS.wkB 14 hS ?_
   refine TS.takeV (i:=15) (v:=.int .u64 (q)) rfl (by kernel_rfl) (by kernel_rfl) (by kernel_rfl) (by decide) (fun _ _ _ h=>h) rfl hS ?_ ?_
   focus
    rintro wS ⟨gbS,gdS,rfl⟩
    go_simp
    (try exact e2)
   (try simp only [nS])
   refine TS.wkB 16 hS ?_
   refine TS.one (i:=17) (by kernel_rfl) rfl (fun K1 hK1=>?_)
   go_simp
   go_at_call 235
   refine(Q.out _).mono ?_
   rintro e' wA ⟨rfl,bA,dA,rfl⟩
   refine TS.go hK1 (by first|exact⟨_,_,World.grow_grow _ _ _ _ _⟩|exact⟨_,_,rfl⟩) (fun hS=>?_)
   clear hK1 K1
   (try simp only [nS])
   refine TS.wkB 18 hS ?_
   refine TS.wkB 19 hS ?_
   refine TS.wtB 20 ?_
   refine TS.weB 21 ?_
   clear hS
   go_wp2_with fail
   go_returns
   exact⟨rfl,.of_below belB⟩
theorem make2_zero(n:Int)(w:World):Calls Tryz.prog 181 #[.int .i64 n,.int .i64 0] w fun e w'=>e= .returned (frV (0,0,3))∧w.Grows w':=by
 go_enter Tryz.func181,Tryz.ntmps181
 go_wp2_with fail
 exact sz15
theorem abs_nat(n:Int):absI n=((n.natAbs:Nat):Int):=rfl
theorem Mul2_any(an ad bn bd:Int)(w:World)(hi:I64x4 an ad bn bd):Calls Tryz.prog 186 #[.agg #[.int .i64 an,.int .i64 ad],.agg #[.int .i64 bn,.int .i64 bd]] w fun e w'=>e= .returned (frV (mulF an ad bn bd))∧w.Grows w':=by
 obtain⟨i1,i2,i3,i4⟩:=hi
 have V1:=Lib.hid (fun w=>Valid2_any an ad w i1.1 i1.2 i2.1 i2.2)
 have V2:=Lib.hid (fun w=>Valid2_any bn bd w i3.1 i3.2 i4.1 i4.2)
 by_cases hv:(vfrac an ad&&vfrac bn bd)=true
 case neg=>
  have e:mulF an ad bn bd=(0,0,1):=by unfold mulF;rw [if_neg hv]
  rw [e]
  exact mul2_no an ad bn bd _ _ w (Bool.eq_false_iff.2 hv) V1 V2
 have hva:=(Bool.and_eq_true_iff.1 hv).1
 have hvb:=(Bool.and_eq_true_iff.1 hv).2
 have e:mulF an ad bn bd=prdF (decide (an<0)!=decide (bn<0)) an.natAbs ad.natAbs bn.natAbs bd.natAbs:=by unfold mulF;rw [if_pos hv];try rfl
 rw [e]
 rw [hva]at V1
 rw [hvb]at V2
 have b1:=vfrac_bd hva
 have b2:=vfrac_bd hvb
 obtain⟨neg,hc,hz⟩:=mulCase an bn
 rw [←prdF_zero (b:=neg) hz]
 exact mul2_core an ad bn bd _ _ _ _ _ _ _ neg w rfl rfl rfl rfl hc V1 V2 (fun n h w=>size2_any n w h.1 h.2) i1 i2 i3 i4 (fun w=>quotient2_any neg an.natAbs ad.natAbs bn.natAbs bd.natAbs w (by omega) (by omega) (by omega) (by omega) (by omega) (by omega))
theorem Div2_any(an ad bn bd:Int)(w:World)(hi:I64x4 an ad bn bd):Calls Tryz.prog 187 #[.agg #[.int .i64 an,.int .i64 ad],.agg #[.int .i64 bn,.int .i64 bd]] w fun e w'=>e= .returned (frV (divF an ad bn bd))∧w.Grows w':=by
 obtain⟨i1,i2,i3,i4⟩:=hi
 have V1:=Lib.hid (fun w=>Valid2_any an ad w i1.1 i1.2 i2.1 i2.2)
 have V2:=Lib.hid (fun w=>Valid2_any bn bd w i3.1 i3.2 i4.1 i4.2)
 by_cases hv:(vfrac an ad&&vfrac bn bd)=true
 case neg=>
  have e:divF an ad bn bd=(0,0,1):=by unfold divF;rw [if_neg hv]
  rw [e]
  exact div2_no an ad bn bd _ _ w (Bool.eq_false_iff.2 hv) V1 V2
 have hva:=(Bool.and_eq_true_iff.1 hv).1
 have hvb:=(Bool.and_eq_true_iff.1 hv).2
 have e:divF an ad bn bd=(if bn=0 then(0,0,3)else prdF (decide (an<0)!=decide (bn<0)) an.natAbs ad.natAbs bd.natAbs bn.natAbs):=by unfold divF;rw [if_pos hv];try rfl
 rw [e]
 rw [hva]at V1
 rw [hvb]at V2
 have b1:=vfrac_bd hva
 have b2:=vfrac_bd hvb
 by_cases h0:bn=0
 ·subst h0
  rw [if_pos rfl]
  exact div2_zero an ad bd w V1 V2
 rw [if_neg h0]
 obtain⟨neg,hc,hz⟩:=mulCase an bn
 have hz':an.natAbs=0∨bd.natAbs=0∨neg=(decide (an<0)!=decide (bn<0)):=by
  rcases hz with h|h|h
  ·exact .inl h
  ·omega
  ·exact .inr (.inr h)
 rw [←prdF_zero (b:=neg) hz']
 exact div2_core an ad bn bd _ _ _ _ _ _ _ neg w rfl rfl rfl rfl hc (by simpa using h0) V1 V2 (fun n h w=>size2_any n w h.1 h.2) i1 i2 i3 i4 (fun w=>quotient2_any neg an.natAbs ad.natAbs bd.natAbs bn.natAbs w (by omega) (by omega) (by omega) (by omega) (by omega) (by omega))
theorem cross_bd{an bd:Int}(h1:-1000000000000000≤an)(h2:an≤1000000000000000)(h3:1≤bd)(h4:bd≤1000000000):an.natAbs*bd.natAbs≤1000000000000000000000000:=
 Nat.le_trans (Nat.mul_le_mul (show an.natAbs≤1000000000000000 by omega) (show bd.natAbs≤1000000000 by omega)) (by decide)
theorem dens_bd{ad bd:Int}(h1:1≤ad)(h2:ad≤1000000000)(h3:1≤bd)(h4:bd≤1000000000):0<ad.natAbs*bd.natAbs∧ad.natAbs*bd.natAbs≤1000000000000000000:=
 ⟨Nat.mul_pos (by omega) (by omega),Nat.le_trans (Nat.mul_le_mul (show ad.natAbs≤1000000000 by omega) (show bd.natAbs≤1000000000 by omega)) (by decide)⟩
theorem hiW_small{n:Nat}(h:n<18446744073709551616):hiW n=0:=by unfold hiW;omega
theorem loW_small{n:Nat}(h:n<18446744073709551616):loW n=(n:Int):=by unfold loW;omega
def addV(neg:Bool)(N D:Nat):Int × Int × Int:=(lowN neg N D,lowD N D,lowE N D)
theorem addV_neg{b c:Bool}{N D:Nat}(h:N=0∨b=c):addV b N D=addV c N D:=by unfold addV;rw [lowN_neg h]
theorem low_wit(neg:Bool)(N D:Nat)(hD:D≤1000000000000000000):witV neg (hiW (N / Nat.gcd N D)) (loW (N / Nat.gcd N D)) 0 ((D / Nat.gcd N D:Nat):Int)=frV (addV neg N D):=by
 have h:=frV_wit neg (N / Nat.gcd N D) (D / Nat.gcd N D)
 have h2:D / Nat.gcd N D≤D:=Nat.div_le_self _ _
 have e1:hiW (D / Nat.gcd N D)=0:=hiW_small (by omega)
 have e2:loW (D / Nat.gcd N D)=((D / Nat.gcd N D:Nat):Int):=loW_small (by omega)
 rw [e1,e2]at h
 rw [h]
 unfold addV lowN lowD lowE
 split<;>rfl
theorem den_wrap{ad bd:Int}{D:Nat}(h:ad.natAbs*bd.natAbs=D)(hD:D≤1000000000000000000):IntKind.u64.wrap (absI ad*absI bd)=(D:Int):=by
 have e:absI ad*absI bd=(D:Int):=by rw [abs_nat,abs_nat,←Int.natCast_mul,h]
 rw [e];exact IntWalk.u64_in _ (by omega)
theorem rest2(neg:Bool)(N D:Nat)(hN:N≤1000000000000000000000000000)(hD0:0<D)(hD:D≤1000000000000000000) :
 (hiW N=0→loW N=0→addV neg N D=(0,1,0))∧
 (∀w,Calls Tryz.prog 235 #[.bool neg,.agg #[.int .u64 (hiW (N / Nat.gcd N D)),.int .u64 (loW (N / Nat.gcd N D))],.agg #[.int .u64 0,.int .u64 (D / Nat.gcd N D:Nat)]] w fun e w'=>e= .returned (frV (addV neg N D))∧w.Grows w')∧
 (∀w,Calls Tryz.prog 241 #[.agg #[.int .u64 (hiW N),.int .u64 (loW N)],.int .u64 (Nat.gcd N D:Nat)] w fun e w'=>e= .returned (.agg #[.int .u64 (hiW (N / Nat.gcd N D)),.int .u64 (loW (N / Nat.gcd N D))])∧w.Grows w')∧
 (∀w,Calls Tryz.prog 240 #[.int .u64 (hiW N),.int .u64 (loW N),.int .u64 (D:Nat)] w fun e w'=>e= .returned (.int .u64 (remI N D))∧w.Grows w')∧
 (∀w,Calls Tryz.prog 230 #[.int .u64 (D:Nat),.int .u64 (remI N D)] w fun e w'=>e= .returned (.int .u64 (Nat.gcd N D:Nat))∧w.Grows w'):=by
 have hg:0<Nat.gcd N D:=Nat.gcd_pos_of_pos_right _ hD0
 have hgd:Nat.gcd N D≤D:=Nat.gcd_le_right _ hD0
 have hr:=remI_bd N D hD0
 refine⟨fun h1 h2=>?_,fun w=>?_,fun w=>?_,fun w=>?_,fun w=>?_⟩
 ·have:N=0:=by unfold hiW at h1;unfold loW at h2;omega
  subst this
  unfold addV lowN lowD lowE
  rw [Nat.gcd_zero_left,Nat.div_self hD0,Nat.zero_div]
  simp
 ·rw [←low_wit neg N D hD]
  exact within2_any _ _ _ _ _ w (loW_bd _).1 (Int.natCast_nonneg _)
 ·exact over2_any N (Nat.gcd N D) w (by omega) (by omega) hg
 ·exact Rem64_any N D w (by omega) (by omega) hD0
 ·have:=gcd2_any (D:Nat) (remI N D) w (by omega) (by omega) (by omega) (by omega)
  rw [gcd_rest N D hD0]at this
  exact Calls.quietD this
theorem Add2_any(an ad bn bd:Int)(w:World)(hi:I64x4 an ad bn bd):Calls Tryz.prog 184 #[.agg #[.int .i64 an,.int .i64 ad],.agg #[.int .i64 bn,.int .i64 bd]] w fun e w'=>e= .returned (frV (addF an ad bn bd))∧w.Grows w':=by
 obtain⟨i1,i2,i3,i4⟩:=hi
 have V1:=Lib.hid (fun w=>Valid2_any an ad w i1.1 i1.2 i2.1 i2.2)
 have V2:=Lib.hid (fun w=>Valid2_any bn bd w i3.1 i3.2 i4.1 i4.2)
 by_cases hv:(vfrac an ad&&vfrac bn bd)=true
 case neg=>
  have e:addF an ad bn bd=(0,0,1):=by unfold addF;rw [if_neg hv]
  rw [e]
  exact add2_no an ad bn bd _ _ w (Bool.eq_false_iff.2 hv) V1 V2
 have hva:=(Bool.and_eq_true_iff.1 hv).1
 have hvb:=(Bool.and_eq_true_iff.1 hv).2
 have e:addF an ad bn bd=addV (decide (addS an ad bn bd<0)) (addS an ad bn bd).natAbs (ad.natAbs*bd.natAbs):=by unfold addF;rw [if_pos hv];try rfl
 rw [e]
 rw [hva]at V1
 rw [hvb]at V2
 have b1:=vfrac_bd hva
 have b2:=vfrac_bd hvb
 have hD:=dens_bd b1.1 b1.2.1 b2.1 b2.2.1
 have c1:=cross_bd (an:=an) (bd:=bd) b1.2.2.1 b1.2.2.2 b2.1 b2.2.1
 have c2:=cross_bd (an:=bn) (bd:=ad) b2.2.2.1 b2.2.2.2 b1.1 b1.2.1
 have Z:Hid _:=Lib.hid (fun n (h:I64 n) w=>size2_any n w h.1 h.2)
 have T1:Hid _:=Lib.hid (fun w=>times_abs times2_any i1 i4 w)
 have T2:Hid _:=Lib.hid (fun w=>times_abs times2_any i3 i2 w)
 have hg (N:Nat):0<Nat.gcd N (ad.natAbs*bd.natAbs)∧Nat.gcd N (ad.natAbs*bd.natAbs)≤ad.natAbs*bd.natAbs:=⟨Nat.gcd_pos_of_pos_right _ hD.1,Nat.gcd_le_right _ hD.1⟩
 have hq (N:Nat):IntKind.u64.wrap ((((ad.natAbs*bd.natAbs:Nat):Int)).tdiv (Nat.gcd N (ad.natAbs*bd.natAbs):Nat))=((ad.natAbs*bd.natAbs / Nat.gcd N (ad.natAbs*bd.natAbs):Nat):Int):=by
  have:=(hg N).1
  rw [quo_u64 (by omega) (by omega) (by omega),ediv_nat]
 have key (neg:Bool) (N:Nat) (hN:N≤2000000000000000000000000):=rest2 neg N (ad.natAbs*bd.natAbs) (by omega) hD.1 hD.2
 have tr {a b:Int × Int × Int} (h:a=b):a.1=b.1∧a.2.1=b.2.1∧a.2.2=b.2.2:=by rw [h];exact⟨rfl,rfl,rfl⟩
 by_cases hs:decide (an<0)=decide (bn<0)
 ·obtain⟨e1,e2⟩:=add_same b1.1 b2.1 hs
  rw [addV_neg e2,e1]
  obtain⟨k1,k2,k3,k4,k5⟩:=key (decide (an<0)) (an.natAbs*bd.natAbs+bn.natAbs*ad.natAbs) (by omega)
  have g1:=hg (an.natAbs*bd.natAbs+bn.natAbs*ad.natAbs)
  exact add2_same an ad bn bd _ _ _ _ _ _ _ _ _ _ _ _ _ _ _ _ _ w rfl rfl (by rw [hs];simp) V1 V2 Z i1 i2 i3 i4 T1 T2 (den_wrap rfl hD.2) (by omega) (by simp;omega) (hq _)
   (fun w=>plus2_any _ _ w (by omega)) (fun h1 h2=>tr (k1 h1 h2)) (fun _=>⟨k2,k3,k4,k5⟩)
 ·obtain⟨f1,f2⟩:=add_diff b1.1 b2.1 hs
  have L:=fun w=>less2_any (hiW (an.natAbs*bd.natAbs)) (loW (an.natAbs*bd.natAbs)) (hiW (bn.natAbs*ad.natAbs)) (loW (bn.natAbs*ad.natAbs)) w
  rw [wless_nat]at L
  by_cases hl:an.natAbs*bd.natAbs<bn.natAbs*ad.natAbs
  ·obtain⟨e1,e2⟩:=f1 hl
   rw [addV_neg e2,e1]
   rw [decide_eq_true hl]at L
   obtain⟨k1,k2,k3,k4,k5⟩:=key (!decide (an<0)) (bn.natAbs*ad.natAbs-an.natAbs*bd.natAbs) (by omega)
   have hnn:decide (bn<0)=!decide (an<0):=by
    revert hs;cases decide (an<0)<;>cases decide (bn<0)<;>simp
   have g1:=hg (bn.natAbs*ad.natAbs-an.natAbs*bd.natAbs)
   rw [hnn]
   exact add2_less an ad bn bd _ _ _ _ _ _ _ _ _ _ _ _ _ _ _ _ _ w rfl rfl (by simpa using hs) V1 V2 Z i1 i2 i3 i4 T1 T2 (den_wrap rfl hD.2) (by omega) (by simp;omega) (hq _)
    L (fun w=>minus2_any _ _ w (by omega) (by omega)) (fun h1 h2=>tr (k1 h1 h2)) (fun _=>⟨k2,k3,k4,k5⟩)
  ·obtain⟨e1,e2⟩:=f2 (by omega)
   rw [addV_neg e2,e1]
   rw [decide_eq_false hl]at L
   obtain⟨k1,k2,k3,k4,k5⟩:=key (decide (an<0)) (an.natAbs*bd.natAbs-bn.natAbs*ad.natAbs) (by omega)
   have g1:=hg (an.natAbs*bd.natAbs-bn.natAbs*ad.natAbs)
   exact add2_more an ad bn bd _ _ _ _ _ _ _ _ _ _ _ _ _ _ _ _ _ w rfl rfl (by simpa using hs) V1 V2 Z i1 i2 i3 i4 T1 T2 (den_wrap rfl hD.2) (by omega) (by simp;omega) (hq _)
    L (fun w=>minus2_any _ _ w (by omega) (by omega)) (fun h1 h2=>tr (k1 h1 h2)) (fun _=>⟨k2,k3,k4,k5⟩)
theorem Sub2_any(an ad bn bd:Int)(w:World)(hi:I64x4 an ad bn bd):Calls Tryz.prog 185 #[.agg #[.int .i64 an,.int .i64 ad],.agg #[.int .i64 bn,.int .i64 bd]] w fun e w'=>e= .returned (frV (subF an ad bn bd))∧w.Grows w':=by
 obtain⟨i1,i2,i3,i4⟩:=hi
 have N:=Lib.hid (fun w=>Neg2_any bn bd w i3.1 i3.2 i4.1 i4.2)
 by_cases hv:vfrac bn bd=true
 ·have b2:=vfrac_bd hv
  have e0:subF an ad bn bd=addF an ad (-bn) bd:=by unfold subF;rw [if_pos hv]
  have e1:negF bn bd=(-bn,bd,0):=by unfold negF;rw [if_pos hv]
  have A:=Lib.hid (fun w=>Add2_any an ad (-bn) bd w ⟨i1,i2,by unfold I64;omega,i4⟩)
  rw [e1]at N
  rw [e0]
  generalize addF an ad (-bn) bd=r at *
  obtain⟨r1,r2,r3⟩:=r
  clear e0 e1 hv
  unfold frV at N A
  generalize -bn=c at *
  go_enter Tryz.func185,Tryz.ntmps185
  go_wp2_with (first|(go_at_call 182;(with_reducible refine(N.out _).mono ?_);rintro e w' ⟨rfl,bs,dr,rfl⟩)|(go_at_call 184;(with_reducible refine(A.out _).mono ?_);rintro e w' ⟨rfl,bs2,dr2,rfl⟩))
  exact sz15
 ·have e0:subF an ad bn bd=(0,0,1):=by unfold subF;rw [if_neg hv]
  have e1:negF bn bd=(0,0,1):=by unfold negF;rw [if_neg hv]
  rw [e1]at N
  rw [e0]
  clear e0 e1 hv
  unfold frV at N
  go_enter Tryz.func185,Tryz.ntmps185
  go_wp2_with (go_at_call 182;(with_reducible refine(N.out _).mono ?_);rintro e w' ⟨rfl,bs,dr,rfl⟩)
  exact sz15
theorem Make2_any(n d:Int)(w:World)(h1:I64 n)(h2:I64 d):Calls Tryz.prog 181 #[.int .i64 n,.int .i64 d] w fun e w'=>e= .returned (frV (mkN n d,mkD n d,mkE n d))∧w.Grows w':=by
 by_cases h0:d=0
 ·subst h0
  exact make2_zero n w
 unfold I64 at h1 h2
 have hg:0<Nat.gcd n.natAbs d.natAbs:=Nat.gcd_pos_of_pos_right _ (by omega)
 have hgd:Nat.gcd n.natAbs d.natAbs≤d.natAbs:=Nat.gcd_le_right _ (by omega)
 have e:(mkN n d,mkD n d,mkE n d)=addV ((decide (n<0)!=decide (d<0))&&(n !=0)) n.natAbs d.natAbs:=by
  have hz:n.natAbs=0∨(decide (n<0)!=decide (d<0))=((decide (n<0)!=decide (d<0))&&(n !=0)):=by
   by_cases hn:n=0
   ·left;omega
   ·right
    have:(n !=0)=true:=by simpa using hn
    rw [this,Bool.and_true]
  rw [←addV_neg hz]
  unfold mkN mkD mkE addV
  rw [if_neg h0,if_neg h0,if_neg h0]
 rw [e]
 have q1:n.natAbs / Nat.gcd n.natAbs d.natAbs≤n.natAbs:=Nat.div_le_self _ _
 have q2:d.natAbs / Nat.gcd n.natAbs d.natAbs≤d.natAbs:=Nat.div_le_self _ _
 refine make2_core n d _ _ (Nat.gcd n.natAbs d.natAbs:Nat) (n.natAbs / Nat.gcd n.natAbs d.natAbs:Nat) (d.natAbs / Nat.gcd n.natAbs d.natAbs:Nat) _ _ _ _ _ _ rfl w rfl rfl (by simpa using h0) (by omega) (by simp;omega) ?_ ?_ (fun w=>size2_any n w h1.1 h1.2) (fun w=>size2_any d w h2.1 h2.2) (fun w=>?_) (fun w=>?_)
 ·rw [abs_nat,quo_u64 (by omega) (by omega) (by omega),ediv_nat]
 ·rw [abs_nat,quo_u64 (by omega) (by omega) (by omega),ediv_nat]
 ·have:=gcd2_any (absI n) (absI d) w (absI_bd n h1.1 h1.2).1 (by have:=absI_bd n h1.1 h1.2;omega) (absI_bd d h2.1 h2.2).1 (by have:=absI_bd d h2.1 h2.2;omega)
  rw [show gcdI (absI n) (absI d)=(Nat.gcd n.natAbs d.natAbs:Nat)by unfold gcdI;rw [absI_toNat,absI_toNat]]at this
  exact Calls.quietD this
 ·have h:=frV_wit ((decide (n<0)!=decide (d<0))&&(n !=0)) (n.natAbs / Nat.gcd n.natAbs d.natAbs) (d.natAbs / Nat.gcd n.natAbs d.natAbs)
  have e1:hiW (n.natAbs / Nat.gcd n.natAbs d.natAbs)=0:=hiW_small (by omega)
  have e2:loW (n.natAbs / Nat.gcd n.natAbs d.natAbs)=((n.natAbs / Nat.gcd n.natAbs d.natAbs:Nat):Int):=loW_small (by omega)
  have e3:hiW (d.natAbs / Nat.gcd n.natAbs d.natAbs)=0:=hiW_small (by omega)
  have e4:loW (d.natAbs / Nat.gcd n.natAbs d.natAbs)=((d.natAbs / Nat.gcd n.natAbs d.natAbs:Nat):Int):=loW_small (by omega)
  rw [e1,e2,e3,e4]at h
  have k:=within2_any ((decide (n<0)!=decide (d<0))&&(n !=0)) 0 ((n.natAbs / Nat.gcd n.natAbs d.natAbs:Nat):Int) 0 ((d.natAbs / Nat.gcd n.natAbs d.natAbs:Nat):Int) w (Int.natCast_nonneg _) (Int.natCast_nonneg _)
  rw [h]at k
  have e5 (b:Bool) (N D:Nat):addV b N D=(if 1000000000000000<N / Nat.gcd N D∨1000000000<D / Nat.gcd N D then(0,0,2)else(if b=true then -((N / Nat.gcd N D:Nat):Int)else(N / Nat.gcd N D:Nat),((D / Nat.gcd N D:Nat):Int),0)):=by
   unfold addV lowN lowD lowE
   split<;>rfl
  rw [e5]
  exact k
end Go.Proofs.YtblkcgceefjmjaaGreatDoor
namespace Go.Proofs.YtblkcgceefjmjaaGreatDoor
def EnvG(env:List (ByteArray × Int)):Prop:=∀p∈env,inpD p.1.toList=0∧nameB p.1=true∧1≤p.2∧p.2≤4∧lastN env p.1=some p.2
theorem EnvG.nil:EnvG []:=fun p hp=>by cases hp
theorem mkD_dvd{n d:Int}(h2:1≤d)(he:mkE n d=0):mkD n d ∣ d:=by
 unfold mkE lowE at he
 unfold mkD lowD
 rw [if_neg (by omega)]at he ⊢
 split at he<;>rename_i hc
 ·simp at he
 rw [if_neg hc]
 obtain⟨b,rfl⟩:=Int.eq_ofNat_of_zero_le (show 0≤d by omega)
 rw [Int.natAbs_natCast]
 exact Int.natCast_dvd_natCast.2 (Nat.div_dvd_of_dvd (Nat.gcd_dvd_right _ _))
theorem mkN_le{n d:Int}(h1:0≤n)(h2:1≤d):mkN n d≤n:=by
 unfold mkN lowN
 rw [if_neg (by omega),decide_eq_false (by omega),decide_eq_false (by omega)]
 split
 ·omega
 ·have:=Nat.div_le_self n.natAbs (Nat.gcd n.natAbs d.natAbs)
  simp only [bne_self_eq_false,Bool.false_eq_true,if_false]
  omega
theorem lit_ok{n d m:Int}(h1:0≤n)(h2:n≤1000000)(h3:1≤d)(h4:d ∣ 10000)(h5:2≤m∧m≤4):decOk (mkN n d) (mkD n d) m=true:=by
 have hd:d≤10000:=Int.le_of_dvd (by omega) h4
 have he:=mkE_small h1 (by omega) h3 (by omega)
 have hv:=mk_vfrac (show d≠0 by omega) he
 have hb:=vfrac_bd hv
 have hn:=mkN_nonneg h1 h3
 have hl:=mkN_le h1 h3
 have hdv:mkD n d ∣ 10000:=Int.dvd_trans (mkD_dvd h3 he) h4
 have hq:mkN n d / mkD n d≤mkN n d:=Int.ediv_le_self _ hn
 unfold decOk
 rw [hv,decide_eq_true hn,decide_eq_true (Int.emod_eq_zero_of_dvd hdv),decide_eq_true h5.1,decide_eq_true h5.2,decide_eq_true (by omega)]
 rfl
theorem num_ok(zs:List Int)(p:Nat){m:Int}(h5:2≤m∧m≤4):decOk (numN zs p) (numD zs p) m=true:=by
 have h1:=nextV_bd zs p 4000 (by omega)
 have h2:=nextV_bd zs (p+1) 7 (by omega)
 unfold numN numD
 refine lit_ok h1.1 (by omega) ?_ ?_ h5
 all_goals
  generalize nextV zs (p+1) 7=i at *
  rcases(show i=0∨i=1∨i=2∨i=3∨i=4∨i=5∨i=6 by omega)with rfl|rfl|rfl|rfl|rfl|rfl|rfl<;>decide
theorem inp_names:∀p∈inpN,nameB p.1=true∧inpD p.1.toList=p.2:=by decide+kernel
theorem name_in{env:List (ByteArray × Int)}(hE:EnvG env){dim:Int}(hd:2≤dim){s:ByteArray}(h:s∈allNames env dim):nameB s=true∧inferN env s=(dim,0):=by
 unfold allNames namesOf at h
 rcases List.mem_append.1 h with h|h
 ·obtain⟨p,hp,rfl⟩:=List.mem_map.1 h
  obtain⟨hp,hq⟩:=List.mem_filter.1 hp
  have hq:=of_decide_eq_true hq
  obtain⟨h1,h2⟩:=inp_names p hp
  refine⟨h1, ?_⟩
  unfold inferN
  rw [if_pos (by omega),h2,hq]
 ·obtain⟨p,hp,rfl⟩:=List.mem_map.1 h
  obtain⟨hp,hq⟩:=List.mem_filter.1 hp
  have hq:=of_decide_eq_true hq
  obtain⟨h1,h2,h3,h4,h5⟩:=hE p hp
  refine⟨h2, ?_⟩
  unfold inferN
  rw [if_neg (by omega),h5,hq]
def TypedE(env:List (ByteArray × Int))(dim:Int)(e:Ex):Prop:=formedB e=true∧inferF env e=(dim,0)
theorem leafN_typed(zs:List Int){env:List (ByteArray × Int)}(hE:EnvG env)(p:Nat){dim:Int}(h1:2≤dim)(h2:dim≤4):TypedE env dim (leafN zs env p dim).1:=by
 have hb:=nextV_bd zs p ((allNames env dim).length+3) (by omega)
 unfold leafN
 split<;>rename_i hc
 ·have hm:((allNames env dim).getD (nextV zs p ((allNames env dim).length+3)).toNat ByteArray.empty)∈allNames env dim:=by
   have hlt:(nextV zs p ((allNames env dim).length+3)).toNat<(allNames env dim).length:=by omega
   rw [List.getD_eq_getElem?_getD,List.getElem?_eq_getElem hlt]
   exact List.getElem_mem _
  obtain⟨g1,g2⟩:=name_in hE h1 hm
  generalize(allNames env dim).getD (nextV zs p ((allNames env dim).length+3)).toNat ByteArray.empty=nm at g1 g2 ⊢
  refine⟨?_, ?_⟩
  ·rw [formedB_eq]
   simp [Ex.op,Ex.args,Ex.name,Ex.num,Ex.den,Ex.dim,argsN,g1]
  ·rw [inferF_eq]
   unfold infNode
   exact g2
 ·split<;>rename_i hc2
  ·have h5:=nextV_bd zs (p+1) 5 (by omega)
   obtain⟨rfl,-⟩:=hc2
   refine⟨?_,by rw [inferF_eq];rfl⟩
   rw [formedB_eq]
   have e:ByteArray.empty.toList.isEmpty=true:=by decide+kernel
   simp [Ex.op,Ex.args,Ex.name,Ex.num,Ex.den,Ex.dim,argsN,e]
   exact⟨decide_eq_true (by omega),decide_eq_true (by omega)⟩
  ·refine⟨?_,by rw [inferF_eq];rfl⟩
   have:=num_ok zs (p+1) ⟨h1,h2⟩
   rw [formedB_eq]
   simp [Ex.op,Ex.args,Ex.name,Ex.num,Ex.den,Ex.dim,argsN,this]
def TypedL(env:List (ByteArray × Int))(ds:List Int)(l:List Ex):Prop:=formedsB l=true∧infersF env l=(ds,0)∧l.length=ds.length
theorem TypedL.nil(env:List (ByteArray × Int)):TypedL env [] []:=⟨rfl,rfl,rfl⟩
theorem TypedL.cons{env:List (ByteArray × Int)}{d:Int}{ds:List Int}{e:Ex}{l:List Ex}(h:TypedE env d e)(g:TypedL env ds l):TypedL env (d::ds) (e::l):=by
 refine⟨by rw [formedsB,h.1,g.1];rfl, ?_,by simp [g.2.2]⟩
 rw [infersF,h.2,g.2.1];simp
theorem node_typed{env:List (ByteArray × Int)}{op dim:Int}{ds:List Int}{l:List Ex}(g:TypedL env ds l)(h4:4≤op)(ha:(ds.length:Int)=argsN op)(hr:resD op ds=dim)(hd:dim≠0):TypedE env dim (.mk op 0 0 0 ByteArray.empty l):=by
 refine⟨?_, ?_⟩
 ·rw [formedB_eq]
  show(decide ((l.length:Int)=argsN op)&&_)=true
  rw [decide_eq_true (by rw [g.2.2];exact ha),Bool.true_and]
  show(if op=1 then _ else _)=true
  rw [if_neg (by omega),if_neg (by show ¬op=2;omega),if_neg (by show ¬op=3;omega)]
  show(formedsB l&&_)=true
  have e:ByteArray.empty.toList.isEmpty=true:=by decide+kernel
  rw [g.1];simp [Ex.num,Ex.den,Ex.dim,Ex.name,e]
 ·rw [inferF_eq]
  show infNode op 0 _ (infersF env l)=_
  rw [g.2.1]
  unfold infNode
  rw [if_neg (by omega),if_neg (by omega),if_neg (by omega),if_neg (by simp)]
  show(if resD op ds=0 then _ else _)=_
  rw [hr,if_neg hd]
theorem leafF_typed(zs:List Int){env:List (ByteArray × Int)}(hE:EnvG env)(p:Nat)(left:Int){dim:Int}(h1:1≤dim)(h2:dim≤4):TypedE env dim (leafF zs env dim p left).1:=by
 unfold leafF
 split<;>rename_i hc
 ·subst hc
  have a:=nextV_bd zs p 3 (by omega)
  have b:=nextV_bd zs (p+1) 6 (by omega)
  generalize nextV zs p 3=x at *
  generalize nextV zs (p+1) 6=o at *
  refine node_typed (ds:=[2+x,2+x]) (.cons (leafN_typed zs hE _ (by omega) (by omega)) (.cons (leafN_typed zs hE _ (by omega) (by omega)) (.nil _))) (by omega) ?_ ?_ (by omega)
  ·unfold argsN;rw [if_neg (by omega),if_neg (by omega),if_pos (by omega)];rfl
  ·rw [res_cmp _ _ ⟨by omega,by omega⟩,if_pos ⟨rfl,by omega⟩]
 ·exact leafN_typed zs hE p (by omega) h2
def prodT(dim:Int):Option (Int × List Int × Nat)→Prop
 |none=>True
 |some t=>4≤t.1∧(t.2.1.length:Int)=argsN t.1∧resD t.1 t.2.1=dim∧∀d∈t.2.1,1≤d∧d≤4
theorem prodT_ite{dim:Int}{c:Prop}[Decidable c]{a b:Option (Int × List Int × Nat)}(ha:c→prodT dim a)(hb:¬c→prodT dim b):prodT dim (if c then a else b):=by
 split<;>rename_i h
 ·exact ha h
 ·exact hb h
theorem prodF_typed(zs:List Int)(p:Nat){dim:Int}(h1:1≤dim)(h2:dim≤4):prodT dim (prodF zs p dim):=by
 have a:=nextV_bd zs p 14 (by omega)
 have b:=nextV_bd zs (p+1) 3 (by omega)
 have c:=nextV_bd zs (p+2) 6 (by omega)
 unfold prodF
 generalize nextV zs p 14=x at *
 generalize nextV zs (p+1) 3=y at *
 generalize nextV zs (p+2) 6=z at *
 rcases(show dim=1∨dim=2∨dim=3∨dim=4 by omega)with rfl|rfl|rfl|rfl
 all_goals
  repeat' (first|refine prodT_ite (fun _=>?_) (fun _=>?_))
  all_goals first
   |trivial
   |(exfalso;omega)
   |(refine⟨by show(4:Int)≤_;omega, ?_, ?_, ?_⟩
     ·show((_:List Int).length:Int)=argsN _
      unfold argsN
      (repeat' split)<;>first|rfl|(exfalso;omega)|(simp;done)
     ·unfold resD
      simp
      try omega
     ·intro d hd
      simp at hd
      omega)
theorem nodeF_typed{env:List (ByteArray × Int)}{E:Int→Nat→Int→Ex × Nat × Int}(hE:∀d p left,1≤d→d≤4→TypedE env d (E d p left).1)(ds:List Int):(∀d∈ds,1≤d∧d≤4)→∀p left,TypedL env ds (nodeF E ds p left).1:=by
 induction ds with
 |nil=>intro _ p left;exact .nil _
 |cons d ds ih=>
  intro h p left
  have hd:=h d (by simp)
  exact .cons (hE d p left hd.1 hd.2) (ih (fun x hx=>h x (by simp [hx])) _ _)
theorem exprF_typed(zs:List Int){env:List (ByteArray × Int)}(hE:EnvG env)(n:Nat):∀(dim:Int) (p:Nat) (left:Int),1≤dim→dim≤4→TypedE env dim (exprF zs env n dim p left).1:=by
 induction n with
 |zero=>intro dim p left h1 h2;exact leafF_typed zs hE p left h1 h2
 |succ n ih=>
  intro dim p left h1 h2
  by_cases hl:left≤0
  ·rw [exprF_leaf zs env _ dim p left (.inr hl)]
   exact leafF_typed zs hE p left h1 h2
  ·have hp:=prodF_typed zs p h1 h2
   cases hq:prodF zs p dim with
   |none=>
    rw [exprF_none zs env n dim p left (by omega) hq]
    exact leafF_typed zs hE _ _ h1 h2
   |some t=>
    obtain⟨op,ds,q⟩:=t
    rw [hq]at hp
    obtain⟨g1,g2,g3,g4⟩:=hp
    rw [exprF_some zs env n dim p left (by omega) hq]
    exact node_typed (nodeF_typed (fun d p left a b=>ih d p left a b) ds g4 q (left-2)) g1 g2 g3 (by omega)
theorem leafN_depth(zs:List Int)(env:List (ByteArray × Int))(p:Nat)(dim:Int):(leafN zs env p dim).1.depth=1:=by
 unfold leafN
 split
 ·simp [Ex.depth,Ex.depths]
 ·split<;>simp [Ex.depth,Ex.depths]
theorem leafF_depth(zs:List Int)(env:List (ByteArray × Int))(dim:Int)(p:Nat)(left:Int):(leafF zs env dim p left).1.depth≤2:=by
 unfold leafF
 split
 ·simp [Ex.depth,Ex.depths,leafN_depth]
 ·simp [leafN_depth]
theorem topF_typed(zs:List Int){env:List (ByteArray × Int)}(hE:EnvG env){dim:Int}(h1:1≤dim)(h2:dim≤4):TypedE env dim (topF zs env dim)∧validB (topF zs env dim)=true:=by
 unfold topF
 split<;>rename_i hv
 ·exact⟨exprF_typed zs hE 5 dim 0 24 h1 h2,hv⟩
 ·have ht:=leafF_typed zs hE (exprF zs env 5 dim 0 24).2.1 0 h1 h2
  refine⟨ht, ?_⟩
  have a:=leafF_depth zs env dim (exprF zs env 5 dim 0 24).2.1 0
  have b:=leafF_size zs env dim (exprF zs env 5 dim 0 24).2.1 0
  unfold validB
  rw [ht.1,decide_eq_true (by omega),decide_eq_true (by omega)]
  rfl
def nmS(i:Nat):ByteArray:=if i=0 then⟨#[97]⟩else if i=1 then⟨#[98]⟩else if i=2 then⟨#[99]⟩else⟨#[100]⟩
theorem lastN_atM{α:Type}(f:Nat→ByteArray × α)(n:Nat)(hne:∀i,i<n→∀j,j<n→(f i).1=(f j).1→i=j){i:Nat}(hi:i<n):lastN ((List.range n).map f) (f i).1=some (f i).2:=by
 induction n with
 |zero=>omega
 |succ n ih=>
  unfold lastN
  rw [List.range_succ,List.map_append,List.reverse_append,List.map_cons,List.map_nil,List.reverse_singleton,List.singleton_append,List.find?_cons]
  by_cases hin:i=n
  ·subst hin;simp
  ·have hf:decide ((f n).1=(f i).1)=false:=decide_eq_false (fun h=>hin (hne n (by omega) i (by omega) h).symm)
   rw [hf]
   exact ih (fun a ha b hb=>hne a (by omega) b (by omega)) (by omega)
def dimM(l:List (List Int))(i:Nat):Int:=1+((l.getD i []).length:Int) % 4
def envM(l:List (List Int))(i:Nat):List (ByteArray × Int):=(List.range i).map fun j=>(letN j,dimM l j)
def namesM(i:Nat):List ByteArray:=(List.range i).map letN
def dfnM(l:List (List Int))(i:Nat):Dfn:={κ:=slK (namesM i),e:=topF (l.getD i []) (envM l i) (dimM l i),k:=i,m:=dimM l i,env:=envM l i}
theorem dimM_bd(l:List (List Int))(i:Nat):1≤dimM l i∧dimM l i≤4:=by unfold dimM;omega
theorem letN_ok:∀j,j<5→nameB (letN j)=true∧inpD (letN j).toList=0∧isWord (letN j)=true:=by decide+kernel
theorem letN_inj:∀i,i<5→∀j,j<5→letN i=letN j→i=j:=by decide+kernel
theorem envM_ok{l:List (List Int)}{i:Nat}(hi:i≤5):EnvG (envM l i):=fun p hp=>by
 obtain⟨j,hj,rfl⟩:=List.mem_map.1 hp
 have hj:=List.mem_range.1 hj
 obtain⟨h1,h2,-⟩:=letN_ok j (by omega)
 exact⟨h2,h1,(dimM_bd l j).1,(dimM_bd l j).2,lastN_atM (fun j=>(letN j,dimM l j)) i (fun a ha b hb e=>letN_inj a (by omega) b (by omega) e) hj⟩
theorem envM_last{l:List (List Int)}{i:Nat}(hi:i≤5){s:ByteArray}(h0:inpD s.toList=0)(h:(inferN (envM l i) s).2=0):∃j,j<i∧s=letN j∧(inferN (envM l i) s).1=dimM l j:=by
 unfold inferN at *
 rw [if_neg (by simpa using h0)]at *
 cases e:lastN (envM l i) s with
 |none=>rw [e]at h;simp at h
 |some m=>
  unfold lastN at e
  obtain⟨p,hp,hpm⟩:=Option.map_eq_some_iff.1 e
  have h1:=List.mem_reverse.1 (List.mem_of_find?_eq_some hp)
  have h2:=List.find?_some hp
  simp only [decide_eq_true_eq]at h2
  obtain⟨j,hj,rfl⟩:=List.mem_map.1 h1
  exact⟨j,List.mem_range.1 hj,h2.symm,hpm.symm⟩
theorem seqC_len{κ:ByteArray→Nat}:∀(xs:List Ex),(∀a∈xs,∀i,(codeF κ a i).length≤3*a.size)→∀i,(seqC (codesF κ xs) i).length≤3*Ex.sizes xs
 | [],_,_=>Nat.zero_le _
 |a::r,h,i=>by
  simp only [codesF,seqC,List.length_append,Ex.sizes]
  have h1:=h a (by simp) i
  have h2:=seqC_len r (fun b hb=>h b (List.mem_cons_of_mem _ hb)) (i+(codeF κ a i).length)
  omega
theorem brC_len{A B C:Nat→List Ins}{a b c:Nat}(hA:∀i,(A i).length≤a)(hB:∀i,(B i).length≤b)(hC:∀i,(C i).length≤c)(i:Nat):(brC A B C i).length≤a+b+c+2:=by
 unfold brC
 simp only [List.length_append,List.length_cons]
 have h1:=hA i
 have h2:=hB (i+(A i).length+1)
 have h3:=hC (i+(A i).length+1+(B (i+(A i).length+1)).length+1)
 omega
theorem args_len{κ:ByteArray→Nat}(xs:List Ex)(h:∀a∈xs,∀i,(codeF κ a i).length≤3*a.size)(k i:Nat):((codesF κ xs).getD k (fun _=>[]) i).length≤3*((xs.getD k default).size):=by
 induction xs generalizing k with
 |nil=>simp [codesF]
 |cons a r ih=>
  cases k with
  |zero=>exact h a (by simp) i
  |succ k=>exact ih (fun b hb=>h b (List.mem_cons_of_mem _ hb)) k
theorem sizes_three(xs:List Ex)(h:xs.length=3):(xs.getD 0 default).size+(xs.getD 1 default).size+(xs.getD 2 default).size=Ex.sizes xs:=by
 match xs,h with
 | [a,b,c],_=>simp [Ex.sizes];omega
theorem sizes_two(xs:List Ex)(h:xs.length=2):(xs.getD 0 default).size+(xs.getD 1 default).size=Ex.sizes xs:=by
 match xs,h with
 | [a,b],_=>simp [Ex.sizes]
mutual
theorem code_len{κ:ByteArray→Nat}:∀e:Ex,formedB e=true→∀i,(codeF κ e i).length≤3*e.size
 | .mk op n d m s xs,hf,i=>by
   rw [formedB,Bool.and_eq_true,decide_eq_true_eq]at hf
   obtain⟨hlen,hf⟩:=hf
   rw [codeF,Ex.size]
   unfold codeNode
   by_cases h1:op=1
   ·rw [if_pos h1];simp;omega
   by_cases h2:op=2
   ·rw [if_neg h1,if_pos h2];simp;omega
   by_cases h3:op=3
   ·rw [if_neg h1,if_neg h2,if_pos h3];simp;omega
   rw [if_neg h1,if_neg h2,if_neg h3]at hf ⊢
   have hx:=codes_len (κ:=κ) xs (Bool.and_eq_true_iff.1 hf).1
   have a0:=fun i=>args_len xs hx 0 i
   have a1:=fun i=>args_len xs hx 1 i
   have a2:=fun i=>args_len xs hx 2 i
   by_cases h17:op=17
   ·rw [if_pos h17]
    have hs:=sizes_two xs (by rw [h17]at hlen;simp [argsN]at hlen;omega)
    have:=brC_len a0 a1 (C:=fun _=>[⟨24,0,0,0⟩]) (c:=1) (fun _=>Nat.le_refl 1) i
    omega
   by_cases h18:op=18
   ·rw [if_neg h17,if_pos h18]
    have hs:=sizes_two xs (by rw [h18]at hlen;simp [argsN]at hlen;omega)
    have:=brC_len a0 (B:=fun _=>[⟨23,0,0,0⟩]) (b:=1) (fun _=>Nat.le_refl 1) a1 i
    omega
   by_cases h21:op=21
   ·rw [if_neg h17,if_neg h18,if_pos h21]
    have hs:=sizes_three xs (by rw [h21]at hlen;simp [argsN]at hlen;omega)
    have:=brC_len a0 a1 a2 i
    omega
   rw [if_neg h17,if_neg h18,if_neg h21,List.length_append,List.length_singleton]
   have:=seqC_len xs hx i
   omega
theorem codes_len{κ:ByteArray→Nat}:∀xs:List Ex,formedsB xs=true→∀a∈xs,∀i,(codeF κ a i).length≤3*a.size
 | [],_,_,ha,_=>by cases ha
 |e::r,hf,a,ha,i=>by
  rw [formedsB,Bool.and_eq_true]at hf
  rcases List.mem_cons.1 ha with h|ha
  ·rw [h];exact code_len e hf.1 i
  ·exact codes_len r hf.2 a ha i
end
def madeC(l:List (List Int))(g:List Int):List Ins:=
 if g= []∨l= []then defsC ((List.range' 0 (min l.length 5)).map (dfnM l)) 0
 else defsC ((List.range' 0 (min l.length 5-1)).map (dfnM l)) 0++guardC (codeF (slK (namesM (min l.length 5-1))) (topF g (envM l (min l.length 5-1)) 1)) [dfnM l (min l.length 5-1)] (defsC ((List.range' 0 (min l.length 5-1)).map (dfnM l)) 0).length
theorem good_made{l:List (List Int)}{i:Nat}(hi:i≤5)(zs:List Int){dim:Int}(h1:1≤dim)(h4:dim≤4):formedB (topF zs (envM l i) dim)=true∧inferF (envM l i) (topF zs (envM l i) dim)=(dim,0)∧(topF zs (envM l i) dim).depth≤10∧(topF zs (envM l i) dim).size≤60:=by
 obtain⟨g1,g2⟩:=topF_typed zs (envM_ok (l:=l) hi) h1 h4
 unfold validB at g2
 simp only [Bool.and_eq_true,decide_eq_true_eq]at g2
 exact⟨g1.1,g1.2,g2.1.1,g2.1.2⟩
end Go.Proofs.YtblkcgceefjmjaaGreatDoor
namespace Go.Proofs.YtblkcgceefjmjaaGreatDoor
open Go.RowKit Go.Sort Go.Lib
theorem best2_bad(l:List Int)(n:Int)(v:Value)(w:World)(hy:YrAt w v l)(h:n<1∨45<n∨yearsOk l=false):Calls Tryz.prog 102 #[v,.int .i64 n] w fun e w'=>e= .returned (frV (bestF l n))∧w.Grows w':=by
 have HF:Hid (bestF l n=(0,0,1)):=Lib.hid (by unfold bestF;rw [if_pos h])
 rw [HF.out]
 show Calls _ _ _ _ fun e w'=>e= .returned (.tuple #[.agg #[.int .i64 0,.int .i64 0],.int .i64 1])∧_
 have HY:=Lib.hid hy
 have HA:=Lib.hid (fun w' (hg:w.Grows w')=>validYears_any l v w' (HY.out.grows hg))
 obtain⟨-,a,c,rfl,-⟩:=hy
 clear HF
 by_cases h1:n<1
 ·clear h
  go_enter Tryz.func102,Tryz.ntmps102
  go_wp2_with fail
  exact sz15
 ·by_cases h2:n > 45
  ·clear h
   go_enter Tryz.func102,Tryz.ntmps102
   go_wp2_with fail
   exact sz15
  ·have h3:yearsOk l=false:=by
    rcases h with h|h|h
    ·omega
    ·omega
    ·exact h
   rw [h3]at HA
   clear h h3
   go_enter Tryz.func102,Tryz.ntmps102
   go_wp2_with (go_at_call 176;refine(HA.out _ (.of_below belB)).mono ?_;rintro e' w' ⟨rfl,bs,d,rfl⟩)
   exact sz15
theorem bestF_good{l:List Int}{n:Int}(h1:1≤n)(h2:n≤45)(h3:yearsOk l=true):bestF l n=(mkN (bestS l n) n,mkD (bestS l n) n,mkE (bestS l n) n):=by
 unfold bestF;rw [if_neg (by rw [h3];simp;omega)]
theorem best2_good(l:List Int)(n:Int)(v:Value)(w:World)(hy:YrAt w v l)(h1:1≤n)(h2:n≤45)(h3:yearsOk l=true):Calls Tryz.prog 102 #[v,.int .i64 n] w fun e w'=>e= .returned (frV (bestF l n))∧w.Grows w':=by
 rw [bestF_good h1 h2 h3]
 obtain⟨nn,rfl⟩:=Int.eq_ofNat_of_zero_le (show 0≤n by omega)
 have HY:=Lib.hid hy
 have HA:=Lib.hid (fun w' (hg:w.Grows w')=>validYears_any l v w' (HY.out.grows hg))
 have HS:=Lib.hid (fun W Bs (hb:Bs<W.heap.size) hc (hg:w.Grows W)=>sorted_any l v Bs W hb hc (HY.out.grows hg))
 rw [h3]at HA
 have HB3:=Lib.hid h3
 have HBS:Hid (bestS l (nn:Int)=((sortD l).take nn).sum):=Lib.hid rfl
 obtain⟨h1000,a,c,rfl,-⟩:=hy
 unfold frV SrtPost at *
 dsimp only
 generalize bestS l (nn:Int)=BS at *
 clear h3
 have HM:=Lib.hid (fun z (h1:0≤z) (h2:z≤200000000000000) w=>Make2_any z (nn:Int) w ⟨by omega,by omega⟩ ⟨by omega,by omega⟩)
 unfold frV at HM
 go_enter Tryz.func102,Tryz.ntmps102
 go_wp2_with (first
  |(go_at_call 176;refine(HA.out _ (.of_below belB)).mono ?_;rintro e' w' ⟨rfl,bs,d,rfl⟩)
  |(go_at_call 180;refine(callsIn_wide.1 (valI_in Fence.wide 5 trivial rfl _ _ _ _)).mono ?_;rintro e' w' ⟨rfl,rfl⟩))
 go_at_call 179
 refine(HS.out _ _ (by simp) (by simp [go_sem]) (.of_below belB)).mono ?_
 rintro e' w' ⟨aa,cp,ss,rfl,hcp,hperm,hpair,hyr,bs3,d3,rfl⟩
 obtain⟨M,hM⟩:∃M,ss.length-nn=M:=⟨_,rfl⟩
 have hss:ss.length≤1000:=by rw [hperm.length_eq];exact h1000
 have hmx:max 0 (wrap64 ((ss.length:Int)-(nn:Int)))=(M:Int):=by
  rw [IntWalk.wrap64_in _ (by omega)];omega
 have hmx2:max 0 ((ss.length:Int)-(nn:Int))=(M:Int):=by omega
 have hne:0<ss.length→¬cp=M:=by omega
 have hml:M≤ss.length:=by omega
 have HBL:=Lib.hid (best_last hperm hpair nn)
 rw [hM]at HBL
 have HSB:=Lib.hid (sumK_bd HB3.out hperm)
 have HGB:=Lib.hid (getD_bd HB3.out hperm)
 have HP:=Lib.hid hperm
 clear hperm hpair hM
 have HYS:=Lib.hid hyr
 obtain⟨-,a2,c2,hv2,hcs⟩:=hyr
 simp only [Value.slice.injEq,true_and]at hv2
 obtain⟨rfl,rfl⟩:=hv2
 have HCS:=Lib.hid hcs
 clear hcs
 by_cases hz:ss.length=0
 ·obtain rfl:ss= []:=List.eq_nil_of_length_eq_zero hz
  obtain rfl:M=0:=by simpa using hml
  have h0:Hid (BS=0):=Lib.hid (by rw [HBS.out,←HBL.out];rfl)
  simp only [List.length_nil]at *
  by_cases hcc:cp=0
  all_goals
   go_wp2_with fail
   go_loopw [7,9,33] (fun v7 _ v33 wr=>v7= .int .i64 0∧v33= .int .i64 0∧wr=((((w.alloc (.cells #[.int .i64 0,.int .i64 0] 24)).grow bs d).alloc (.cells #[.slice a l.length c] 22)).grow bs3 d3)) (fun _ _ _ _=>0)
   case atStart=>exact⟨rfl,rfl,rfl⟩
   case round=>
    obtain⟨rfl,rfl,rfl⟩:=hrel
    go_wp2_with (go_at_call 181;refine(HM.out _ (by omega) (by omega) _).mono ?_;rintro e' w' ⟨rfl,bs4,d4,rfl⟩)
    go_returns
    exact⟨by rw [h0.out],.of_below belB⟩
 ·have hpos:0<ss.length:=by omega
  have hne:=hne hpos
  have hadd:M+(ss.length-M)=ss.length:=by omega
  rcases HCS.out with h0|⟨b,off,rfl,hbw,hx⟩
  ·exact absurd h0 hz
  have HX:=Lib.hid hx
  have HD:Hid (∀k,k<ss.length-M→sumK (ss.drop M) (k+1)=sumK (ss.drop M) k+ss.getD (M+k) 0):=Lib.hid (fun k hk=>by rw [sumK_succ _ _ (by simpa using hk),dropK])
  have HSD:Hid (∀k,0≤sumK (ss.drop M) k∧sumK (ss.drop M) k≤200000000000000):=Lib.hid (fun k=>by
   have h1:=HSB.out
   have:=sum_bd (l:=(ss.drop M).take k) (fun z hz=>(years_mem HB3.out).2 z (HP.out.mem_iff.1 (List.mem_of_mem_drop (List.mem_of_mem_take hz))))
   have hl:((ss.drop M).take k).length≤200:=by
    have h2:=(years_mem HB3.out).1
    have h3:=HP.out.length_eq
    rw [List.length_take,List.length_drop];omega
   unfold sumK
   omega)
  have HLL:Hid (sumK (ss.drop M) (ss.length-M)=BS):=Lib.hid (by
   rw [HBS.out,←HBL.out]
   unfold sumK
   rw [List.take_of_length_le (by simp)])
  clear hx hz
  generalize hLL:ss.length-M=LL at *
  go_wp2_with fail
  go_loopw [7,9,33] (fun v7 _ v33 wr=>∃k:Nat,k≤LL∧v33= .int .i64 k∧v7= .int .i64 (sumK (ss.drop M) k)∧wr=((((w.alloc (.cells #[.int .i64 0,.int .i64 0] 24)).grow bs d).alloc (.cells #[.slice a l.length c] 22)).grow bs3 d3)) (fun _ _ v33 _=>LL-(intOf v33).toNat)
  case atStart=>exact⟨0,by omega,rfl,rfl,rfl⟩
  case round=>
   obtain⟨k,hk,rfl,rfl,rfl⟩:=hrel
   by_cases hlt:k<LL
   ·have x0:=HX.out (M+k) (by omega)
    have d1:(k:Int)<(LL:Int):=by omega
    have hs:=HD.out k hlt
    have hb1:=HSD.out k
    have hb2:=HSD.out (k+1)
    rw [hs]at hb2
    have HS1:=Lib.hid hs
    have HKL:=Lib.hid hlt
    rw [←Nat.add_assoc]at x0
    clear hs hlt
    generalize ss.getD (M+k) 0=z at *
    generalize hsk:sumK (ss.drop M) k=sk at *
    go_wp2_with fail
    go_roundw
    case rel=>exact⟨k+1,HKL.out,by go_num,by rw [HS1.out],(by first|rfl|trivial)⟩
    case measure=>simp [intOf];have:=HKL.out;omega
   ·obtain rfl:k=LL:=by omega
    rw [HLL.out]
    have hb1:=HSD.out k
    rw [HLL.out]at hb1
    have HBB:=Lib.hid hb1
    go_wp2_with (go_at_call 181;refine(HM.out _ HBB.out.1 HBB.out.2 _).mono ?_;rintro e' w' ⟨rfl,bs4,d4,rfl⟩)
    exact sz15
theorem Best2_any(l:List Int)(n:Int)(v:Value)(w:World)(hy:YrAt w v l):Calls Tryz.prog 102 #[v,.int .i64 n] w fun e w'=>e= .returned (frV (bestF l n))∧w.Grows w':=by
 by_cases h:n<1∨45<n∨yearsOk l=false
 ·exact best2_bad l n v w hy h
 ·simp only [not_or,Bool.not_eq_false]at h
  exact best2_good l n v w hy (by omega) (by omega) h.2.2
end Go.Proofs.YtblkcgceefjmjaaGreatDoor
