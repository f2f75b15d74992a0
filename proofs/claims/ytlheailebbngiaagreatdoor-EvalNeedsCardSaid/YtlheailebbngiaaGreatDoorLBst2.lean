import Derived.Test.YtlheailebbngiaaGreatDoorLFrAll
import Derived.Test.YtlheailebbngiaaGreatDoorLExpr
import Derived.Test.YtlheailebbngiaaGreatDoorLK
import Derived.Deep.CutBlock
import Derived.Deep.CutRange
import Derived.Deep.DeepCutAuto
set_option linter.all false
set_option maxHeartbeats 16000000
set_option maxRecDepth 1000000
namespace Go.Proofs.YtlheailebbngiaaGreatDoor
open Go.RowKit Go.Sort Go.Lib
theorem best8_bad(l:List Int)(n:Int)(v:Value)(w:World)(hy:YrAt w v l)(h:n<1∨45<n∨yearsOk l=false):Calls Tryz.prog 23 #[v,.int .i64 n] w fun e w'=>e= .returned (frV (bestF l n))∧w.Grows w':=by
 have HF:Hid (bestF l n=(0,0,1)):=Lib.hid (by unfold bestF;rw [if_pos h])
 rw [HF.out]
 show Calls _ _ _ _ fun e w'=>e= .returned (.tuple #[.agg #[.int .i64 0,.int .i64 0],.int .i64 1])∧_
 have HY:=Lib.hid hy
 have HA:=Lib.hid (fun w' (hg:w.Grows w')=>amounts_any l v w' (HY.out.grows hg))
 obtain⟨-,a,c,rfl,-⟩:=hy
 clear HF
 by_cases h1:n<1
 ·clear h
  go_enter Tryz.func23,Tryz.ntmps23
  exact lz28
 ·by_cases h2:n > 45
  ·clear h
   go_enter Tryz.func23,Tryz.ntmps23
   exact lz28
  ·have h3:yearsOk l=false:=by
    rcases h with h|h|h
    ·omega
    ·omega
    ·exact h
   rw [h3]at HA
   clear h h3
   go_enter Tryz.func23,Tryz.ntmps23
   go_wp2_with (go_at_call 56;refine(HA.out _ (.of_below belB)).mono ?_;rintro e' w' ⟨rfl,rfl⟩)
   exact lz10
theorem best2_bad(l:List Int)(n:Int)(v:Value)(w:World)(hy:YrAt w v l)(h:n<1∨45<n∨yearsOk l=false):Calls Tryz.prog 22 #[v,.int .i64 n] w fun e w'=>e= .returned (frV (bestF l n))∧w.Grows w':=by
 have HF:Hid (bestF l n=(0,0,1)):=Lib.hid (by unfold bestF;rw [if_pos h])
 rw [HF.out]
 show Calls _ _ _ _ fun e w'=>e= .returned (.tuple #[.agg #[.int .i64 0,.int .i64 0],.int .i64 1])∧_
 have HY:=Lib.hid hy
 have HA:=Lib.hid (fun w' (hg:w.Grows w')=>validYears_any l v w' (HY.out.grows hg))
 obtain⟨-,a,c,rfl,-⟩:=hy
 clear HF
 by_cases h1:n<1
 ·clear h
  go_enter Tryz.func22,Tryz.ntmps22
  exact lz28
 ·by_cases h2:n > 45
  ·clear h
   go_enter Tryz.func22,Tryz.ntmps22
   exact lz28
  ·have h3:yearsOk l=false:=by
    rcases h with h|h|h
    ·omega
    ·omega
    ·exact h
   rw [h3]at HA
   clear h h3
   go_enter Tryz.func22,Tryz.ntmps22
   go_wp2_with (go_at_call 54;refine(HA.out _ (.of_below belB)).mono ?_;rintro e' w' ⟨rfl,bs,d,rfl⟩)
   exact lz10
theorem bestF_good{l:List Int}{n:Int}(h1:1≤n)(h2:n≤45)(h3:yearsOk l=true):bestF l n=(mkN (bestS l n) n,mkD (bestS l n) n,mkE (bestS l n) n):=by
 unfold bestF;rw [if_neg (by rw [h3];simp;omega)]
theorem best2_good(l:List Int)(n:Int)(v:Value)(w:World)(hy:YrAt w v l)(h1:1≤n)(h2:n≤45)(h3:yearsOk l=true):Calls Tryz.prog 22 #[v,.int .i64 n] w fun e w'=>e= .returned (frV (bestF l n))∧w.Grows w':=by
 rw [bestF_good h1 h2 h3]
 obtain⟨nn,rfl⟩:=Int.eq_ofNat_of_zero_le (show 0≤n by omega)
 have HY:=Lib.hid hy
 have HA:=Lib.hid (fun w' (hg:w.Grows w')=>validYears_any l v w' (HY.out.grows hg))
 have HS:=Lib.hid (fun W Bs (hb:Bs<W.heap.size) hc (hg:w.Grows W)=>sorted_any l v Bs W hb hc (HY.out.grows hg))
 rw [h3]at HA
 have HB3:=Lib.hid h3
 have HBS:Hid (bestS l (nn:Int)=((sortD l).take nn).sum):=Lib.hid rfl
 obtain⟨h1000,a,c,rfl,-⟩:=hy
 unfold frV SrtPost at *
 dsimp only
 generalize bestS l (nn:Int)=BS at *
 clear h3
 have HM:=Lib.hid (fun z (h1:0≤z) (h2:z≤200000000000000) w=>Make2_any z (nn:Int) w ⟨by omega,by omega⟩ ⟨by omega,by omega⟩)
 unfold frV at HM
 go_enter Tryz.func22,Tryz.ntmps22
 go_wp2_with (first
  |(go_at_call 54;refine(HA.out _ (.of_below belB)).mono ?_;rintro e' w' ⟨rfl,bs,d,rfl⟩)
  |(go_at_call 58;refine(callsIn_wide.1 (valI_in Fence.wide 5 trivial rfl _ _ _ _)).mono ?_;rintro e' w' ⟨rfl,rfl⟩))
 go_at_call 57
 refine(HS.out _ _ (by simp) (by simp [go_sem]) (.of_below belB)).mono ?_
 rintro e' w' ⟨aa,cp,ss,rfl,hcp,hperm,hpair,hyr,bs3,d3,rfl⟩
 obtain⟨M,hM⟩:∃M,ss.length-nn=M:=⟨_,rfl⟩
 have hss:ss.length≤1000:=by rw [hperm.length_eq];exact h1000
 have hmx:max 0 (wrap64 ((ss.length:Int)-(nn:Int)))=(M:Int):=by
  rw [IntWalk.wrap64_in _ (by omega)];omega
 have hmx2:max 0 ((ss.length:Int)-(nn:Int))=(M:Int):=by omega
 have hne:0<ss.length→¬cp=M:=by omega
 have hml:M≤ss.length:=by omega
 have HBL:=Lib.hid (best_last hperm hpair nn)
 rw [hM]at HBL
 have HSB:=Lib.hid (sumK_bd HB3.out hperm)
 have HGB:=Lib.hid (getD_bd HB3.out hperm)
 have HP:=Lib.hid hperm
 clear hperm hpair hM
 have HYS:=Lib.hid hyr
 obtain⟨-,a2,c2,hv2,hcs⟩:=hyr
 simp only [Value.slice.injEq,true_and]at hv2
 obtain⟨rfl,rfl⟩:=hv2
 have HCS:=Lib.hid hcs
 clear hcs
 by_cases hz:ss.length=0
 ·obtain rfl:ss= []:=List.eq_nil_of_length_eq_zero hz
  obtain rfl:M=0:=by simpa using hml
  have h0:Hid (BS=0):=Lib.hid (by rw [HBS.out,←HBL.out];rfl)
  simp only [List.length_nil]at *
  by_cases hcc:cp=0
  all_goals
   go_wp2_with fail
   go_loopw [7,9,33] (fun v7 _ v33 wr=>v7= .int .i64 0∧v33= .int .i64 0∧wr=((((w.alloc (.cells #[.int .i64 0,.int .i64 0] 23)).grow bs d).alloc (.cells #[.slice a l.length c] 24)).grow bs3 d3)) (fun _ _ _ _=>0)
   case atStart=>exact⟨rfl,rfl,rfl⟩
   case round=>
    obtain⟨rfl,rfl,rfl⟩:=hrel
    go_wp2_with (go_at_call 59;refine(HM.out _ (by omega) (by omega) _).mono ?_;rintro e' w' ⟨rfl,bs4,d4,rfl⟩)
    go_returns
    exact⟨by rw [h0.out],.of_below belB⟩
 ·have hpos:0<ss.length:=by omega
  have hne:=hne hpos
  have hadd:M+(ss.length-M)=ss.length:=by omega
  rcases HCS.out with h0|⟨b,off,rfl,hbw,hx⟩
  ·exact absurd h0 hz
  have HX:=Lib.hid hx
  have HD:Hid (∀k,k<ss.length-M→sumK (ss.drop M) (k+1)=sumK (ss.drop M) k+ss.getD (M+k) 0):=Lib.hid (fun k hk=>by rw [sumK_succ _ _ (by simpa using hk),dropK])
  have HSD:Hid (∀k,0≤sumK (ss.drop M) k∧sumK (ss.drop M) k≤200000000000000):=Lib.hid (fun k=>by
   have h1:=HSB.out
   have:=sum_bd (l:=(ss.drop M).take k) (fun z hz=>(years_mem HB3.out).2 z (HP.out.mem_iff.1 (List.mem_of_mem_drop (List.mem_of_mem_take hz))))
   have hl:((ss.drop M).take k).length≤200:=by
    have h2:=(years_mem HB3.out).1
    have h3:=HP.out.length_eq
    rw [List.length_take,List.length_drop];omega
   unfold sumK
   omega)
  have HLL:Hid (sumK (ss.drop M) (ss.length-M)=BS):=Lib.hid (by
   rw [HBS.out,←HBL.out]
   unfold sumK
   rw [List.take_of_length_le (by simp)])
  clear hx hz
  generalize hLL:ss.length-M=LL at *
  go_wp2_with fail
  go_loopw [7,9,33] (fun v7 _ v33 wr=>∃k:Nat,k≤LL∧v33= .int .i64 k∧v7= .int .i64 (sumK (ss.drop M) k)∧wr=((((w.alloc (.cells #[.int .i64 0,.int .i64 0] 23)).grow bs d).alloc (.cells #[.slice a l.length c] 24)).grow bs3 d3)) (fun _ _ v33 _=>LL-(intOf v33).toNat)
  case atStart=>exact⟨0,by omega,rfl,rfl,rfl⟩
  case round=>
   obtain⟨k,hk,rfl,rfl,rfl⟩:=hrel
   by_cases hlt:k<LL
   ·have x0:=HX.out (M+k) (by omega)
    have d1:(k:Int)<(LL:Int):=by omega
    have hs:=HD.out k hlt
    have hb1:=HSD.out k
    have hb2:=HSD.out (k+1)
    rw [hs]at hb2
    have HS1:=Lib.hid hs
    have HKL:=Lib.hid hlt
    rw [←Nat.add_assoc]at x0
    clear hs hlt
    generalize ss.getD (M+k) 0=z at *
    generalize hsk:sumK (ss.drop M) k=sk at *
    go_wp2_with fail
    go_roundw
    case rel=>exact⟨k+1,HKL.out,by go_num,by rw [HS1.out],(by first|rfl|trivial)⟩
    case measure=>simp [intOf];have:=HKL.out;omega
   ·obtain rfl:k=LL:=by omega
    rw [HLL.out]
    have hb1:=HSD.out k
    rw [HLL.out]at hb1
    have HBB:=Lib.hid hb1
    go_wp2_with (go_at_call 59;refine(HM.out _ HBB.out.1 HBB.out.2 _).mono ?_;rintro e' w' ⟨rfl,bs4,d4,rfl⟩)
    exact lz10
theorem Best2_any(l:List Int)(n:Int)(v:Value)(w:World)(hy:YrAt w v l):Calls Tryz.prog 22 #[v,.int .i64 n] w fun e w'=>e= .returned (frV (bestF l n))∧w.Grows w':=by
 by_cases h:n<1∨45<n∨yearsOk l=false
 ·exact best2_bad l n v w hy h
 ·simp only [not_or,Bool.not_eq_false]at h
  exact best2_good l n v w hy (by omega) (by omega) h.2.2
end Go.Proofs.YtlheailebbngiaaGreatDoor
