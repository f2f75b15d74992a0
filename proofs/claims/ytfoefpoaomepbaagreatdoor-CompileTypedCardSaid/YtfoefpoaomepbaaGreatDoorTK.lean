import Derived.Test.YtfoefpoaomepbaaGreatDoorTBase
import Derived.WalkKit
import Derived.WalkSpells
import Derived.WalkLawsBesides
import Derived.Handy
import Derived.BigQuiet
import Derived.Deep.RegionHeld3
import Derived.Deep.AppendLies
import Derived.StillTail
import Derived.OrdersHeld
import Derived.RegionTactic
import Derived.Lib.Hide
import Derived.RangeFuncNested
import Derived.RangeFuncBound
import Derived.RangeFuncCalls
import Derived.RangeFuncLeaves
import Derived.Shelf.Abstract
import Derived.Shelf.RegionOpen
import Derived.OwnWalkIn
import Derived.TacticsInMore
import Derived.LoopNIn
import Derived.LoopIn
import Derived.Laws.OwnMore
import Derived.Deep.QuietTactic
import Derived.BigRegion
import Derived.Sort.OwnSortedInts
import Derived.RangeFuncBox
import Derived.Maps.AppendAt
import Derived.Laws.BytesArg
import Derived.Deep.CutBlock
import Derived.Deep.CutRange
import Derived.Deep.DeepCutAuto
import Derived.Deep.MidRow
import Derived.Laws.Strings
import Derived.Laws.AppendOwnNone
import Derived.Laws.IdiomCopy
import Derived.Deep.Matrix
import Derived.Deep.Fields
import Derived.OpenShut
import Derived.JoinedOf
set_option linter.all false
set_option maxHeartbeats 16000000
set_option maxRecDepth 1000000
namespace Go
theorem tz0{p:Prop}(h:p:=by
 go_wp2_with fail
 all_goals try(first|(go_quiet (fail);go_wp2_with fail)|(go_region;go_wp2_with fail))
 all_goals
  go_returns
  have hR:=HR.out
  have hX:=HX.out
  have h0:∀t:Int,1≤t→(t=0)=False:=fun t h=>eq_false (by omega)
  simp [resD]at hR
  refine res2P ?_ ?_ (.of_below belB)
  all_goals
   rw [←hR]
   try((repeat' split)<;>first|(simp_all;done)|(simp [*];done)|(simp_all;omega)|skip)):p:=h
theorem tz1{p:Prop}(h:p:=by
 go_wp2_with fail
 all_goals try(first|(go_quiet (fail);go_wp2_with fail)|(go_region;go_wp2_with fail))
 all_goals
  go_returns
  have hR:=HR.out
  have hX:=HX.out
  have h0:∀t:Int,1≤t→(t=0)=False:=fun t h=>eq_false (by omega)
  simp [resD]at hR
  refine res5P ?_ (.of_below belB)
  rw [←hR]
  try((repeat' split)<;>first|(simp_all;done)|(simp [*];done)|(simp_all;omega)|skip)):p:=h
theorem tz2{p:Prop}(h:p:=by
 refine(HN.out _).mono ?_
 rintro e' w' ⟨rfl,bs2,d2,rfl⟩
 refine TS.go HK1.out growsR (fun hS=>?_)
 clear HK1 K1
 (try simp only [nS])
 refine TS.wkB 7 hS ?_
 refine TS.wkB 8 hS ?_
 refine TS.wkB 9 hS ?_
 refine TS.one (i:=10) (by kernel_rfl) rfl (fun K1 hK1=>?_)
 have HK1:=Lib.hid hK1
 clear hK1 hS
 dsimp only [List.getElem_toArray,List.getElem_cons_succ,List.getElem_cons_zero]
 go_simp
 refine TS.go HK1.out growsR (fun hS=>?_)
 clear HK1 K1
 (try simp only [nS])
 refine TS.weB 11 ?_
 by_cases h0:rc=0
 ·subst h0
  cases dk
  ·go_wp2_with (go_at_call 144;refine(HFD.out _ growsR).mono ?_;rintro e' w' ⟨sx,rfl,-,bs3,d3,rfl⟩)
   go_returns
   exact .no HCC.out (by unfold exV;rw [HOH.out]) growsR
  ·go_wp2_with (go_at_call 144;refine(HFD.out _ growsR).mono ?_;rintro e' w' ⟨sx,rfl,-,bs3,d3,rfl⟩)
   go_returns
   exact .yes HCC.out growsR
 ·have h1:(rc !=0)=true:=by simpa using h0
  rw [if_neg (fun c=>h0 c.1)]at HCC
  clear h0
  cases dk
  all_goals
   go_wp2_with (go_at_call 144;refine(HFD.out _ growsR).mono ?_;rintro e' w' ⟨sx,rfl,-,bs3,d3,rfl⟩)
   go_returns
   exact .no HCC.out (by unfold exV;rw [HOH.out]) growsR):p:=h
theorem tz3{p:Prop}(h:p:=by
 clear HR
 have HR:=Lib.hid hR
 have HX:=Lib.hid hX
 clear hR hX
 go_enter Tryz.func151,Tryz.ntmps151
 by_cases e1:x=y
 focus
  subst e1
 rotate_left
 focus
  have f1:(x==y)=false:=by simpa using e1
  have g1:(y==x)=false:=by simpa using fun h=>e1 h.symm
 rotate_left
 all_goals
  exact tz0):p:=h
theorem tz4{p:Prop}(h:p:=by
 clear HR
 have HR:=Lib.hid hR
 have HX:=Lib.hid hX
 clear hR hX
 go_enter Tryz.func90,Tryz.ntmps90
 by_cases e1:x=y
 focus
  subst e1
 rotate_left
 focus
  have f1:(x==y)=false:=by simpa using e1
  have g1:(y==x)=false:=by simpa using fun h=>e1 h.symm
 rotate_left
 all_goals
  exact tz1):p:=h
theorem tz5{p:Prop}(h:p:=by
 go_enter Tryz.func91,Tryz.ntmps91
 go_wp2_with ((first|(go_at_call 97;(with_reducible refine(Valid1_any _ _ _ (by omega) (by omega) (by omega) (by omega)).mono ?_);rintro e w' ⟨rfl,bs,dr,rfl⟩;simp only [hv])|(go_at_call 145;(with_reducible refine(FormatFraction_any _ _ _ (by omega) (by omega) (by omega) (by omega)).mono ?_);rintro e w' ⟨rfl,bs2,dr2,rfl⟩;simp only [hq.out])))
 go_returns
 exact⟨by rw [decV_no (by simp [decOk, *]<;>(intros;omega))];rfl,.of_below belB⟩):p:=h
theorem tz6{p:Prop}(h:p:=by
 rcases g3 with ⟨rfl,rfl,g5⟩|⟨rfl,rfl,g5⟩|⟨rfl,rfl,g5⟩|⟨rfl,rfl,g5⟩|⟨rfl,rfl,g5⟩
 ·have g7:=Lib.hid (ten_app s (r / 1000) (by omega) (by omega))
  have g8:=Lib.hid (decG_go 3 r 1000 s g0)
  go_wp2_with fail
  go_quiet (fail)
  go_wp2_with fail
  go_roundw
  case rel=>exact⟨3,_,_,_,rfl,rfl,rfl,by omega,by rw [g7.out];omega,by simp;omega,Lib.hid (by rw [←g4.out,g8.out];rfl),.of_below belB⟩
  case measure=>simp [intOf]
 ·have g7:=Lib.hid (ten_app s (r / 100) (by omega) (by omega))
  have g8:=Lib.hid (decG_go 2 r 100 s g0)
  go_wp2_with fail
  go_quiet (fail)
  go_wp2_with fail
  go_roundw
  case rel=>exact⟨2,_,_,_,rfl,rfl,rfl,by omega,by rw [g7.out];omega,by simp;omega,Lib.hid (by rw [←g4.out,g8.out];rfl),.of_below belB⟩
  case measure=>simp [intOf]
 ·have g7:=Lib.hid (ten_app s (r / 10) (by omega) (by omega))
  have g8:=Lib.hid (decG_go 1 r 10 s g0)
  go_wp2_with fail
  go_quiet (fail)
  go_wp2_with fail
  go_roundw
  case rel=>exact⟨1,_,_,_,rfl,rfl,rfl,by omega,by rw [g7.out];omega,by simp;omega,Lib.hid (by rw [←g4.out,g8.out];rfl),.of_below belB⟩
  case measure=>simp [intOf]
 ·have g7:=Lib.hid (ten_app s r (by omega) (by omega))
  have g8:Hid (decG 1 r 1 s=decG 0 0 0 (s++tenS.extract r.toNat (r+1).toNat)):=Lib.hid (by simp [decG,g0])
  go_wp2_with fail
  go_quiet (fail)
  go_wp2_with fail
  go_roundw
  case rel=>exact⟨0,_,_,_,rfl,rfl,rfl,by omega,by rw [g7.out];omega,by simp,Lib.hid (by rw [←g4.out,g8.out];rfl),.of_below belB⟩
  case measure=>simp [intOf]
 ·omega):p:=h
theorem tz7{p:Prop}(h:p:=by
 go_wp2_with ((first|(go_at_call 99;refine(HI5.out _).mono ?_;rintro e' w' ⟨rfl,rfl⟩)|(go_at_call 100;refine(HN5.out _ (HT1.out.grows growsA)).mono ?_;rintro e' w' ⟨rfl,bs1,d1',rfl⟩)|(go_at_call 101;refine(HDC.out _ _ ((World.heap_grow _ _ _ (by simp)).trans (heap_new _ _ _ (by simp))) growsA).mono ?_;rintro e' w' ⟨rfl,bs2,d2',rfl⟩)|(go_at_call 46;refine(HIF.out _ growsA).mono ?_;rintro e' w' ⟨rfl,bs3,d3',rfl⟩)))
 go_returns
 exact LtPost.bad HC.out (World.Grows.trans' HG.out growsA)):p:=h
theorem tz8{p:Prop}(h:p:=by
 go_enter Tryz.func187,Tryz.ntmps187
 apply wp_seq_k
 intro K1 hK1
 have HK1:=Lib.hid hK1
 clear hK1
 go_wp2_with fail
 refine HK1.out _ _ ?_
 clear HK1 K1
 apply wp_seq_k
 intro K2 hK2
 have HK2:=Lib.hid hK2
 clear hK2
 go_wp2_with fail
 refine HK2.out _ _ ?_
 clear HK2 K2
 apply wp_seq_k
 intro K3 hK3
 have HK3:=Lib.hid hK3
 clear hK3
 go_wp2_with fail
 refine HK3.out _ _ ?_
 rw [HF.out]
 exact dec_T1k _ _ _ _ _ w cutB_nil (Lib.hid (fun w=>Cut_dot _ w HE.out)) _ _ _ _ _ _ _ _ _ _ _ _ _ _ _ _ _ _ _ _ _ _ _ _ _ _ _ _ _ _ _ _ _ _ _ _ _ _ _ _ _ _ _ _ _ _ _ _ _ _ _ _ _ _ _ _ _ _ _ _ _ _ _ _ _ _ _ _ _ _ _ _ _ _ _ _ _ _ _ _ _ _ _ _ _ _ _ _ _ _ _ _ _ _ _ _ _ _ _ _ _ _ _ _ _ _ _ _ _ _ _ _ _ _ _ _ _ _ _ _ _ _ _ _ _ _ _ _ _ _ _ _ _ _ _ _ _ _ _):p:=h
theorem tz9{p:Prop}(h:p:=by
 refine TS.wkB 0 hS ?_
 refine TS.wkB 1 hS ?_
 refine TS.wkB 2 hS ?_
 refine TS.wkB 3 hS ?_
 refine TS.wkB 4 hS ?_
 refine TS.wkB 5 hS ?_
 refine TS.one (i:=6) (by kernel_rfl) rfl (fun K1 hK1=>?_)
 have HK1:=Lib.hid hK1
 clear hK1 hS
 dsimp only [List.getElem_toArray,List.getElem_cons_succ,List.getElem_cons_zero]
 go_simp
 go_at_call 143
 refine(HN.out _).mono ?_
 rintro e' w' ⟨rfl,bs2,d2,rfl⟩
 refine TS.go HK1.out growsR (fun hS=>?_)
 clear HK1 K1
 (try simp only [nS])
 refine TS.wkB 7 hS ?_
 refine TS.wkB 8 hS ?_
 refine TS.wkB 9 hS ?_
 refine TS.one (i:=10) (by kernel_rfl) rfl (fun K1 hK1=>?_)
 have HK1:=Lib.hid hK1
 clear hK1 hS
 dsimp only [List.getElem_toArray,List.getElem_cons_succ,List.getElem_cons_zero]
 go_simp
 refine TS.go HK1.out growsR (fun hS=>?_)
 clear HK1 K1
 (try simp only [nS])
 refine TS.weB 11 ?_
 cases dk
 ·go_wp2_with (go_at_call 144;refine(HFD.out _ growsR).mono ?_;rintro e' w' ⟨sx,rfl,-,bs3,d3,rfl⟩)
  go_returns
  exact .no HCC.out (by unfold exV;rw [HOH.out]) growsR
 ·go_wp2_with (go_at_call 144;refine(HFD.out _ growsR).mono ?_;rintro e' w' ⟨sx,rfl,-,bs3,d3,rfl⟩)
  go_returns
  exact .yes HCC.out growsR):p:=h
theorem tz10{p:Prop}(h:p:=by
 clear hs hno HDEC h1
 go_wp2_with ((go_at_call 187;(with_reducible refine(HD.out _).mono ?_);rintro e w' ⟨rfl,bsd,drd,rfl⟩))
 all_goals
  go_returns
  exact FdPost.no HO.out (.of_below belB)):p:=h
theorem tz11{p:Prop}(h:p:=by
 clear h
 go_enter Tryz.func81,Tryz.ntmps81
 go_wp2_with (first|(go_at_call 128;refine(HT.out _ ((by repeat' (first|(with_reducible exact HR.out)|(with_reducible exact HR1.out)|(with_reducible refine RdAt.grow ?_ _ _)|(with_reducible refine RdAt.alloc ?_ _)|(with_reducible refine RdAt.drew ?_))))).mono ?_;rintro e' w' ⟨rfl,bs0,d0,rfl⟩)|((go_at_call 81;refine(HS.out _ ((by repeat' (first|(with_reducible exact HR.out)|(with_reducible exact HR1.out)|(with_reducible refine RdAt.grow ?_ _ _)|(with_reducible refine RdAt.alloc ?_ _)|(with_reducible refine RdAt.drew ?_))))).mono ?_;rintro e' w' ⟨v,bs,d,rfl,rfl,HRP⟩;obtain⟨va,vc,rfl⟩:=RepE.form HRP;have HRP:=Lib.hid HRP)))
 go_returns
 exact ExQ.of growsR ((HRP.out.keep (by simp;try omega) fun b o hb hlt=>World.cell?_of_block (res_blk w g _ _ _ bs0 bs _ _ _ b (by simpa using hb))).mono fun b hb=>by simp at hb;omega)):p:=h
theorem tz12{p:Prop}(h:p:=by
 (try simp only [nS])
 refine TS.one (i:=17) (by kernel_rfl) rfl (fun K1 hK1=>?_)
 go_simp
 refine TS.go hK1 ?_ (fun hS=>?_)
 focus
  (try dsimp only)
  (refine⟨?_, ?_, ?_⟩<;>simp [go_sem,c0,c1,e1,hg,hb])
 clear hK1 K1
 (try simp only [nS])
 refine TS.one (i:=18) (by kernel_rfl) rfl (fun K1 hK1=>?_)
 go_simp
 refine TS.go hK1 ?_ (fun hS=>?_)
 focus
  (try dsimp only)
  (refine⟨?_, ?_, ?_⟩<;>simp [go_sem,c0,c1,e1,hg,hb])
 clear hK1 K1
 (try simp only [nS])
 refine TS.one (i:=19) (by kernel_rfl) rfl (fun K1 hK1=>?_)
 go_simp
 refine hK1 _ _ (fun h=>absurd (by decide) h) (TS.done (by kernel_rfl) ?_)
 clear hK1 K1
 (try simp only [nS])
 go_wp2_with fail
 go_returns
 exact ExQ.of (E:=.mk 1 m 1 2 ByteArray.empty []) (growsR:World.Grows (w.setCell ⟨g,1,none⟩ (.int .i64 ((p:Int)+1))) _) (.nil (rng_num m hm) rfl)):p:=h
theorem tz13{p:Prop}(h:p:=by
 go_wp2_with ((go_at_call 187;(with_reducible refine(HD.out _).mono ?_);rintro e w' ⟨rfl,bsd,drd,rfl⟩))
 go_returns
 exact FdPost.no HO.out (.of_below belB)):p:=h
theorem tz14{p:Prop}(h:p:=by
 by_cases cd:d=1
 focus
  subst cd
  go_enter Tryz.func145,Tryz.ntmps145
 rotate_left
 focus
  go_enter Tryz.func145,Tryz.ntmps145
 rotate_left
 all_goals
  go_wp2_with ((first|(go_at_call 97;(with_reducible refine(Valid1_any _ _ _ (by omega) (by omega) (by omega) (by omega)).mono ?_);rintro e w' ⟨rfl,bs,dr,rfl⟩;simp only [hv])|(go_at_call 93;(with_reducible refine(size1_any _ _ (by omega) (by omega)).mono ?_);rintro e w' ⟨rfl,rfl⟩)|(go_at_call 188;(with_reducible refine(digits1_one _ _ (by omega) (by omega)).mono ?_);rintro e w' ⟨rfl,rfl⟩)))
  go_returns
  exact⟨ret_str (by simp [fracS, *]<;>(intro _;omega)),.of_below belB⟩):p:=h
theorem tz15{p:Prop}(h:p:=by
 by_cases h0:rc=0
 ·subst h0
  cases dk
  ·go_wp2_with (go_at_call 144;refine(HFD.out _ growsR).mono ?_;rintro e' w' ⟨sx,rfl,-,bs3,d3,rfl⟩)
   go_returns
   exact .no HCC.out (by unfold exV;rw [HOH.out]) growsR
  ·go_wp2_with (go_at_call 144;refine(HFD.out _ growsR).mono ?_;rintro e' w' ⟨sx,rfl,-,bs3,d3,rfl⟩)
   go_returns
   exact .yes HCC.out growsR
 ·have h1:(rc !=0)=true:=by simpa using h0
  rw [if_neg (fun c=>h0 c.1)]at HCC
  clear h0
  cases dk
  all_goals
   go_wp2_with (go_at_call 144;refine(HFD.out _ growsR).mono ?_;rintro e' w' ⟨sx,rfl,-,bs3,d3,rfl⟩)
   go_returns
   exact .no HCC.out (by unfold exV;rw [HOH.out]) growsR):p:=h
theorem tz16{p:Prop}(h:p:=by
 go_wp2_with fail
 go_returns
 exact⟨rfl,rfl⟩):p:=h
theorem tz17{p:Prop}(h:p:=by
 clear HR
 have HR:=Lib.hid hR
 have HX:=Lib.hid hX
 clear hR hX
 go_enter Tryz.func151,Tryz.ntmps151
 by_cases e1:x=1
 focus
  subst e1
 rotate_left
 focus
  have f1:(x==1)=false:=by simpa using e1
  have g1:(1==x)=false:=by simpa using fun h=>e1 h.symm
 rotate_left
 all_goals
  exact tz0):p:=h
theorem tz18{p:Prop}(h:p:=by
 clear HR
 have HR:=Lib.hid hR
 have HX:=Lib.hid hX
 clear hR hX
 go_enter Tryz.func90,Tryz.ntmps90
 by_cases e1:x=1
 focus
  subst e1
 rotate_left
 focus
  have f1:(x==1)=false:=by simpa using e1
  have g1:(1==x)=false:=by simpa using fun h=>e1 h.symm
 rotate_left
 all_goals
  exact tz1):p:=h
theorem tz19{p:Prop}(h:p:=by
 have hn:an.natAbs*bd.natAbs=bn.natAbs*ad.natAbs:=by rw [←Int.natAbs_mul,h,Int.natAbs_mul]
 have d1:ad.natAbs ∣ bd.natAbs:=Nat.Coprime.dvd_of_dvd_mul_left (k:=ad.natAbs) (m:=an.natAbs) (Nat.Coprime.symm p) ⟨bn.natAbs,by rw [hn,Nat.mul_comm]⟩
 have d2:bd.natAbs ∣ ad.natAbs:=Nat.Coprime.dvd_of_dvd_mul_left (k:=bd.natAbs) (m:=bn.natAbs) (Nat.Coprime.symm q) ⟨an.natAbs,by rw [←hn,Nat.mul_comm]⟩
 have e:=Nat.dvd_antisymm d1 d2
 have e':ad=bd:=by omega
 subst e'
 exact⟨Int.eq_of_mul_eq_mul_right (by omega) h,rfl⟩):p:=h
theorem tz20{p:Prop}(h:p:=by
 rw [hs]at HD
 simp only [decFV]at HD
 have HO:=Lib.hid (And.intro hy ht)
 clear hs hy ht HDEC
 go_wp2_with ((go_at_call 187;(with_reducible refine(HD.out _).mono ?_);rintro e w' ⟨rfl,bsd,drd,rfl⟩))
 go_returns
 exact FdPost.yes HO.out.1 HO.out.2 (.of_below belB)):p:=h
theorem tz21{p:Prop}(h:p:=by
 intro e' u hu
 refine(hu.mono' (S':=fun b=>(base≤b∧v.ownBlock≠some b)∧g≠b) ?_|>.keep hg.size ?_).mono ?_
 ·rintro b ⟨h1,h2⟩ hlt
  refine⟨⟨h1,h2⟩, ?_⟩
  rcases hat with hat|hat
  ·intro e;exact h2 (by rw [hat,e])
  ·omega
 ·rintro b o ⟨⟨_,h2⟩,_⟩ hlt
  exact World.cell?_of_block (hg.block b hlt (Ne.symm h2))
 ·rintro b ⟨⟨h1,_⟩,h3⟩
  exact⟨h1,by simpa [Value.ownBlock]using h3⟩):p:=h
theorem tz22{p:Prop}(h:p:=by
 go_enter Tryz.func59,Tryz.ntmps59
 go_wp2
 go_returns
 exact⟨ret_int (by simp [argsN];omega),rfl⟩):p:=h
theorem tz23{p:Prop}(h:p:=by
 go_enter Tryz.func144,Tryz.ntmps144
 go_wp2_with fail
 go_returns
 exact FdPost.no (decOk_out (by omega)) (.of_below belB)):p:=h
theorem tz24{p:Prop}(h:p:=by
 go_enter Tryz.func62,Tryz.ntmps62
 go_wp2_with fail
 go_returns
 exact⟨rfl,.of_below belB⟩):p:=h
theorem tz25{p:Prop}(h:p:=by
 refine⟨?_, ?_, ?_, ?_⟩
 ·rw [hh _ (by omega) (by omega)];exact HM.out.nm
 ·rw [Below.heap_setCell _ _ _ _ (by show w.heap.size+1≠w.heap.size+2;omega)];exact Joins.block_setCell HM.out.res _
 ·exact Joins.block_setCell ((Below.heap_setCell _ _ _ _ (by show w.heap.size+2≠w.heap.size+1;omega)).trans HM.out.ok) _
 ·simp;omega):p:=h
theorem tz26{p:Prop}(h:p:=by
 go_enter Tryz.func200,Tryz.ntmps200
 go_wp2_with ((first|(go_at_call 209;(with_reducible refine(lower2_any _ _).mono ?_);rintro e w' ⟨rfl,rfl⟩;simp only [hL])|(go_at_call 210;(with_reducible refine(inWord2_any _ _).mono ?_);rintro e w' ⟨rfl,rfl⟩;simp only [hI])))
 go_ret
 exact⟨ret_bool hw.symm,rfl⟩):p:=h
theorem tz27{p:Prop}(h:p:=by
 go_returns
 exact⟨rfl,growsR⟩):p:=h
theorem tz28{p:Prop}(h:p:=by
 go_enter Tryz.func88,Tryz.ntmps88
 exact tz16):p:=h
theorem tz29{p:Prop}(h:p:=by
 go_enter Tryz.func103,Tryz.ntmps103
 go_wp2
 go_returns
 exact⟨ret_bool (by first|rfl|(simp;done)|(simp;omega)),.of_below belB⟩):p:=h
theorem tz30{p:Prop}(h:p:=by
 rw [hs]at HD
 simp only [decFV]at HD
 have HO:=Lib.hid hno
 have q1:(a==n)=false:=by simpa using h1
 clear hs hno HDEC h1
 exact tz13):p:=h
theorem tz31{p:Prop}(h:p:=by
 go_wp2_with ((first|(go_at_call 43;refine(HI5.out _).mono ?_;rintro e' w' ⟨rfl,rfl⟩)|(go_at_call 44;refine(HN5.out _).mono ?_;rintro e' w' ⟨rfl,rfl⟩)))
 go_returns
 exact LtCap.bad HC.out (World.Grows.trans' HG.out growsA)):p:=h
theorem tz32{p:Prop}(h:p:=by
 rw [hs]at HD
 simp only [decFV]at HD
 have HO:=Lib.hid hno
 have q1:(b==d)=false:=by simpa using h1
 exact tz10):p:=h
theorem tz33{p:Prop}(h:p:=by
 clear HR
 have HR:=Lib.hid hR
 have HX:=Lib.hid hX
 clear hR hX
 go_enter Tryz.func151,Tryz.ntmps151
 exact tz0):p:=h
theorem tz34{p:Prop}(h:p:=by
 clear HR
 have HR:=Lib.hid hR
 have HX:=Lib.hid hX
 clear hR hX
 go_enter Tryz.func90,Tryz.ntmps90
 exact tz1):p:=h
theorem tz35{p:Prop}(h:p:=by
 exact⟨Int.emod_eq_zero_of_dvd (Int.natAbs_dvd_natAbs.1 (Nat.dvd_trans h (Nat.gcd_dvd_left _ _))),Int.emod_eq_zero_of_dvd (Int.natAbs_dvd_natAbs.1 (Nat.dvd_trans h (Nat.gcd_dvd_right _ _)))⟩):p:=h
theorem tz36{p:Prop}(h:p:=by
 obtain⟨h0,a,cap,hv,h1⟩:=h
 refine⟨h0,a,cap,hv,h1.imp id ?_⟩
 rintro⟨b,off,ha,hb,hc⟩
 have:=hg.below.size
 exact⟨b,off,ha,by omega,fun i hi=>(hc i hi).imp fun u hu=>hu.same hg hb⟩):p:=h
theorem tz37{p:Prop}(h:p:=by
 simp only [World.src,World.setCell]
 congr 1
 apply Array.ext_getElem?
 intro k
 simp only [Array.getElem?_modify,Array.getElem?_setIfInBounds]
 by_cases hk:s=k
 ·subst hk;simp [h]
 ·simp [hk]):p:=h
theorem tz38{p:Prop}(h:p:=by
 go_wp2
 go_returns
 exact⟨ret_bool (by simp [lowc];omega),rfl⟩):p:=h
theorem tz39{p:Prop}(h:p:=by
 go_wp2
 go_returns
 exact⟨ret_bool (by simp [digc];omega),rfl⟩):p:=h
theorem tz40{p:Prop}(h:p:=by
 rw [hn]at HD
 simp only [decFV]at HD
 have HO:=Lib.hid hno
 clear hn hno HDEC
 exact tz13):p:=h
theorem tz41{p:Prop}(h:p:=by
 go_wp2_with fail
 go_quiet (fail)
 go_wp2_with fail
 exact tz27):p:=h
theorem tz42{p:Prop}(h:p:=by
 unfold LRow at hr
 refine⟨?_,hr.frozenAt _⟩
 have:=hr.cellAt (i*4+1) (by omega)
 rw [this,List.getElem?_eq_getElem (by rw [insV_len];omega)]
 exact⟨_,rfl⟩):p:=h
theorem tz43{p:Prop}(h:p:=by
 go_enter Tryz.func155,Tryz.ntmps155
 exact tz16):p:=h
theorem tz44{p:Prop}(h:p:=by
 obtain⟨e0,e1,e2⟩:=hc k hk
 exact⟨(World.cell?_of_block hw).trans e0,(World.cell?_of_block hw).trans e1,(World.cell?_of_block hw).trans e2⟩):p:=h
theorem tz45{p:Prop}(h:p:=by
 split at hr<;>rename_i c1
 ·rw [if_pos c1];omega
 ·rw [if_neg c1]
  split at hr<;>rename_i c2
  ·rw [if_pos c2];omega
  ·exact absurd rfl hr):p:=h
theorem tz46{p:Prop}(h:p:=by
 go_wp2
 all_goals first
  |(exfalso;simp_all;done)
  |(go_returns
    exact⟨ret_dimok (by simp_all [inpD]) (by simp_all [inpD]),rfl⟩)):p:=h
theorem tz47{p:Prop}(h:p:=by
 unfold lastN at h
 obtain⟨p,hp,rfl⟩:=Option.map_eq_some_iff.1 h
 exact⟨p,List.mem_reverse.1 (List.mem_of_find?_eq_some hp),rfl⟩):p:=h
theorem tz48{p:Prop}(h:p:=by
 go_returns
 exact⟨ret_bool (by unfold validB;rw [decide_eq_true (by omega),decide_eq_true (by omega)];rfl),.of_below belB⟩):p:=h
theorem tz49{p:Prop}(h:p:=by
 go_returns
 exact⟨ret_bool (by unfold validB;rw [decide_eq_false (show ¬e.depth≤10 by omega)];simp),.of_below belB⟩):p:=h
theorem tz50{p:Prop}(h:p:=by
 split
 ·exact .inl ⟨rfl,Val.num_ok (by omega) h1.2.2.2,rfl⟩
 ·exact .inl ⟨rfl,Val.num_ok (by omega) h2.2.2.2,rfl⟩):p:=h
theorem tz51{p:Prop}(h:p:=by
 go_returns
 exact⟨ret_bool (by unfold validB;rw [decide_eq_false (show ¬e.size≤60 by omega)];simp),.of_below belB⟩):p:=h
theorem tz52{p:Prop}(h:p:=by
 go_wp2
 all_goals first
  |(exfalso;simp_all;done)
  |(go_returns
    exact⟨ret_bool (by simp_all [keyB,keyL]),rfl⟩)):p:=h
theorem tz53{p:Prop}(h:p:=by
 rw [insV_snoc,insV_snoc,List.set_append_right _ _ (by rw [insV_len];omega),insV_len,Nat.add_sub_cancel_left];rfl):p:=h
theorem tz54{p:Prop}(h:p:=by
 intro k
 simp only [Option.some.injEq]at k
 rw [k]at hc
 rcases hc with hc|hc
 ·revert hc;decide
 ·revert hc;decide):p:=h
theorem tz55{p:Prop}(h:p:=by
 rcases h.own.2 with ⟨rfl,h0⟩|⟨g,cap,cur,rfl,_⟩
 ·exact⟨none,0,by rw [h0]⟩
 ·exact⟨_,cap,rfl⟩):p:=h
theorem tz56{p:Prop}(h:p:=by
 simp only [intOf]
 rw [show({data:=#[48,49,50,51,52,53,54,55,56,57]}:ByteArray)=tenS from rfl,hpc.out];omega):p:=h
theorem tz57{p:Prop}(h:p:=by
 rw [List.map_append,h,List.range_succ,List.map_append];rfl):p:=h
theorem tz58{p:Prop}(h:p:=by
 go_wp2_with fail
 go_returns
 exact infP (by rw [HF.out,if_neg (by omega),if_pos ho]) (.of_below belB)):p:=h
theorem tz59{p:Prop}(h:p:=by
 go_returns
 exact⟨rfl,.of_below belB⟩):p:=h
theorem tz60{p:Prop}(h:p:=by
 have:=okF_i64 hok
 exact this):p:=h
theorem tz61{p:Prop}(h:p:=by
 exact⟨b,off,ha,by omega,fun i hi=>(World.cell?_of_block (hg.below.block b hb)).trans (hc i hi)⟩):p:=h
theorem tz62{p:Prop}(h:p:=by
 unfold Ex.arg
 rw [List.getD_eq_getElem?_getD,List.getElem?_eq_getElem hi];exact List.getElem_mem hi):p:=h
theorem tz63{p:Prop}(h:p:=by
 rcases h.at_ with e1|⟨b,e1,hb⟩
 ·exact .inl (e2.trans e1)
 ·exact .inr ⟨b,e2.trans e1,hb⟩):p:=h
end Go
