import Derived.Test.YtaghhncnicbedaaGreatDoorBBase
import Derived.WalkKit
import Derived.WalkSpells
import Derived.WalkLawsBesides
import Derived.Handy
import Derived.BigQuiet
import Derived.Deep.RegionHeld3
import Derived.Deep.AppendLies
import Derived.StillTail
import Derived.OrdersHeld
import Derived.RegionTactic
import Derived.Lib.Hide
import Derived.Ground.Names2Prog
import Derived.RangeFuncNested
import Derived.RangeFuncBound
import Derived.RangeFuncCalls
import Derived.RangeFuncLeaves
import Derived.Shelf.Abstract
import Derived.Shelf.RegionOpen
import Derived.OwnWalkIn
import Derived.TacticsInMore
import Derived.LoopNIn
import Derived.LoopIn
import Derived.Laws.Strings
import Derived.Deep.QuietTactic
import Derived.Deep.Matrix
import Derived.Deep.Fields
import Derived.OpenShut
import Derived.BigRegion
import Derived.Deep.CutBlock
import Derived.Deep.CutRange
import Derived.Deep.DeepCutAuto
import Derived.Sort.OwnSortedInts
import Derived.RangeFuncBox
import Derived.Maps.AppendAt
import Derived.Laws.BytesArg
import Derived.Laws.OwnMore
import Derived.Deep.MidRow
import Derived.Laws.AppendOwnNone
set_option linter.all false
set_option maxHeartbeats 16000000
set_option maxRecDepth 1000000
namespace Go
theorem bz0{p:Prop}(h:p:=by
 go_wp2_with fail
 all_goals try(first|(go_quiet (fail);go_wp2_with fail)|(go_region;go_wp2_with fail))
 all_goals
  go_returns
  have hR:=HR.out
  have hX:=HX.out
  have h0:∀t:Int,1≤t→(t=0)=False:=fun t h=>eq_false (by omega)
  simp [resD]at hR
  refine res2P ?_ ?_ (.of_below belB)
  all_goals
   rw [←hR]
   try((repeat' split)<;>first|(simp_all;done)|(simp [*];done)|(simp_all;omega)|skip)):p:=h
theorem bz1{p:Prop}(h:p:=by
 go_wp2_with fail
 all_goals try(first|(go_quiet (fail);go_wp2_with fail)|(go_region;go_wp2_with fail))
 all_goals
  go_returns
  have hR:=HR.out
  have hX:=HX.out
  have h0:∀t:Int,1≤t→(t=0)=False:=fun t h=>eq_false (by omega)
  simp [resD]at hR
  refine res5P ?_ (.of_below belB)
  rw [←hR]
  try((repeat' split)<;>first|(simp_all;done)|(simp [*];done)|(simp_all;omega)|skip)):p:=h
theorem bz2{p:Prop}(h:p:=by
 clear HR
 have HR:=Lib.hid hR
 have HX:=Lib.hid hX
 clear hR hX
 go_enter Tryz.func206,Tryz.ntmps206
 by_cases e1:x=y
 focus
  subst e1
 rotate_left
 focus
  have f1:(x==y)=false:=by simpa using e1
  have g1:(y==x)=false:=by simpa using fun h=>e1 h.symm
 rotate_left
 all_goals
  exact bz0):p:=h
theorem bz3{p:Prop}(h:p:=by
 clear HR
 have HR:=Lib.hid hR
 have HX:=Lib.hid hX
 clear hR hX
 go_enter Tryz.func98,Tryz.ntmps98
 by_cases e1:x=y
 focus
  subst e1
 rotate_left
 focus
  have f1:(x==y)=false:=by simpa using e1
  have g1:(y==x)=false:=by simpa using fun h=>e1 h.symm
 rotate_left
 all_goals
  exact bz1):p:=h
theorem bz4{p:Prop}(h:p:=by
 go_enter Tryz.func160,Tryz.ntmps160
 go_wp2_with ((first|(go_at_call 60;(with_reducible refine(Valid1_any _ _ _ (by omega) (by omega) (by omega) (by omega)).mono ?_);rintro e w' ⟨rfl,bs,dr,rfl⟩;simp only [hv])|(go_at_call 193;(with_reducible refine(FormatFraction_any _ _ _ (by omega) (by omega) (by omega) (by omega)).mono ?_);rintro e w' ⟨rfl,bs2,dr2,rfl⟩;simp only [hq.out])))
 go_returns
 exact⟨by rw [decV_no (by simp [decOk, *]<;>(intros;omega))];rfl,.of_below belB⟩):p:=h
theorem bz5{p:Prop}(h:p:=by
 intro v3 w3 hown3 hgrow3
 have HB3:=Lib.hid (HB2.out.grown hgrow3 HB2.out.size (fun k hk=>(HO2.out.lt k hk).1))
 have HO3:=Lib.hid hown3
 clear hown3 hgrow3
 refine TG.go hK1 ?_ (fun hS=>?_)
 focus exact(HB3.out.cell (p:=⟨b,off+k,none⟩) hbw).trans x0
 clear hK1 K1
 (try simp only [nS])
 refine TG.one (i:=14) (by kernel_rfl) rfl (fun K1 hK1=>?_)
 go_simp
 refine hK1 _ _ (fun h=>absurd rfl h) (TG.done (by kernel_rfl) ?_)
 clear hK1 K1 hS
 (try simp only [nS])
 go_wp2_with fail
 go_roundw
 case rel=>
  have ho:=HO3.out
  have hl2:a0+1+(k-a0)=k+1:=by have:=HEQ.out;omega
  rw [hl2]at ho
  refine⟨k+1,v3,rfl,HKL.out,by go_num,fun h=>by omega,HB.out.trans (HB3.out.mono hsW), ?_⟩
  rw [HI2.out]
  have ho2:=ownsRow_base ho hsW
  simpa using ho2
 case measure=>simp [intOf];have:=HKL.out;omega):p:=h
theorem bz6{p:Prop}(h:p:=by
 rcases g3 with ⟨rfl,rfl,g5⟩|⟨rfl,rfl,g5⟩|⟨rfl,rfl,g5⟩|⟨rfl,rfl,g5⟩|⟨rfl,rfl,g5⟩
 ·have g7:=Lib.hid (ten_app s (r / 1000) (by omega) (by omega))
  have g8:=Lib.hid (decG_go 3 r 1000 s g0)
  go_wp2_with fail
  go_quiet (fail)
  go_wp2_with fail
  go_roundw
  case rel=>exact⟨3,_,_,_,rfl,rfl,rfl,by omega,by rw [g7.out];omega,by simp;omega,Lib.hid (by rw [←g4.out,g8.out];rfl),.of_below belB⟩
  case measure=>simp [intOf]
 ·have g7:=Lib.hid (ten_app s (r / 100) (by omega) (by omega))
  have g8:=Lib.hid (decG_go 2 r 100 s g0)
  go_wp2_with fail
  go_quiet (fail)
  go_wp2_with fail
  go_roundw
  case rel=>exact⟨2,_,_,_,rfl,rfl,rfl,by omega,by rw [g7.out];omega,by simp;omega,Lib.hid (by rw [←g4.out,g8.out];rfl),.of_below belB⟩
  case measure=>simp [intOf]
 ·have g7:=Lib.hid (ten_app s (r / 10) (by omega) (by omega))
  have g8:=Lib.hid (decG_go 1 r 10 s g0)
  go_wp2_with fail
  go_quiet (fail)
  go_wp2_with fail
  go_roundw
  case rel=>exact⟨1,_,_,_,rfl,rfl,rfl,by omega,by rw [g7.out];omega,by simp;omega,Lib.hid (by rw [←g4.out,g8.out];rfl),.of_below belB⟩
  case measure=>simp [intOf]
 ·have g7:=Lib.hid (ten_app s r (by omega) (by omega))
  have g8:Hid (decG 1 r 1 s=decG 0 0 0 (s++tenS.extract r.toNat (r+1).toNat)):=Lib.hid (by simp [decG,g0])
  go_wp2_with fail
  go_quiet (fail)
  go_wp2_with fail
  go_roundw
  case rel=>exact⟨0,_,_,_,rfl,rfl,rfl,by omega,by rw [g7.out];omega,by simp,Lib.hid (by rw [←g4.out,g8.out];rfl),.of_below belB⟩
  case measure=>simp [intOf]
 ·omega):p:=h
theorem bz7{p:Prop}(h:p:=by
 go_enter Tryz.func235,Tryz.ntmps235
 apply wp_seq_k
 intro K1 hK1
 have HK1:=Lib.hid hK1
 clear hK1
 go_wp2_with fail
 refine HK1.out _ _ ?_
 clear HK1 K1
 apply wp_seq_k
 intro K2 hK2
 have HK2:=Lib.hid hK2
 clear hK2
 go_wp2_with fail
 refine HK2.out _ _ ?_
 clear HK2 K2
 apply wp_seq_k
 intro K3 hK3
 have HK3:=Lib.hid hK3
 clear hK3
 go_wp2_with fail
 refine HK3.out _ _ ?_
 rw [HF.out]
 exact dec_T1k _ _ _ _ _ w cutB_nil (Lib.hid (fun w=>Cut_dot _ w HE.out)) _ _ _ _ _ _ _ _ _ _ _ _ _ _ _ _ _ _ _ _ _ _ _ _ _ _ _ _ _ _ _ _ _ _ _ _ _ _ _ _ _ _ _ _ _ _ _ _ _ _ _ _ _ _ _ _ _ _ _ _ _ _ _ _ _ _ _ _ _ _ _ _ _ _ _ _ _ _ _ _ _ _ _ _ _ _ _ _ _ _ _ _ _ _ _ _ _ _ _ _ _ _ _ _ _ _ _ _ _ _ _ _ _ _ _ _ _ _ _ _ _ _ _ _ _ _ _ _ _ _ _ _ _ _ _ _ _ _ _):p:=h
theorem bz8{p:Prop}(h:p:=by
 clear hs hno HDEC h1
 go_wp2_with ((go_at_call 235;(with_reducible refine(HD.out _).mono ?_);rintro e w' ⟨rfl,bsd,drd,rfl⟩))
 all_goals
  go_returns
  exact FdPost.no HO.out (.of_below belB)):p:=h
theorem bz9{p:Prop}(h:p:=by
 go_wp2_with fail
 go_returns
 exact⟨ret_bool HF.out.symm,.of_below belB⟩):p:=h
theorem bz10{p:Prop}(h:p:=by
 go_wp2_with ((go_at_call 235;(with_reducible refine(HD.out _).mono ?_);rintro e w' ⟨rfl,bsd,drd,rfl⟩))
 go_returns
 exact FdPost.no HO.out (.of_below belB)):p:=h
theorem bz11{p:Prop}(h:p:=by
 clear hdk
 have HBD:Hid (¬(0≤dk∧dk≤73049)→v.ok=false):=Lib.hid (fun h=>HB.out k HKL.out (by rw [HDK.out];unfold daysOk;exact decide_eq_false h))
 by_cases q1:dk<0
 ·go_wp2_with fail
  go_returns
  exact⟨ret_bool (HBD.out (by omega)).symm,World.Grows.trans HG2.out (.of_below belB)⟩
 ·by_cases q2:dk > 73049
  ·go_wp2_with fail
   go_returns
   exact⟨ret_bool (HBD.out (by omega)).symm,World.Grows.trans HG2.out (.of_below belB)⟩
  ·go_wp2_with fail
   go_roundw
   case rel=>exact⟨k+1,HKL.out,by go_num,Lib.hid (fun j hj=>by
    by_cases ej:j=k
    ·subst ej;rw [HDK.out];unfold daysOk;exact decide_eq_true (by omega)
    ·exact hno.out j (by omega)),(by first|rfl|trivial)⟩
   case measure=>simp [intOf];have:=HKL.out;omega):p:=h
theorem bz12{p:Prop}(h:p:=by
 go_returns
 exact⟨rfl,.of_below belB⟩):p:=h
theorem bz13{p:Prop}(h:p:=by
 by_cases cd:d=1
 focus
  subst cd
  go_enter Tryz.func193,Tryz.ntmps193
 rotate_left
 focus
  go_enter Tryz.func193,Tryz.ntmps193
 rotate_left
 all_goals
  go_wp2_with ((first|(go_at_call 60;(with_reducible refine(Valid1_any _ _ _ (by omega) (by omega) (by omega) (by omega)).mono ?_);rintro e w' ⟨rfl,bs,dr,rfl⟩;simp only [hv])|(go_at_call 62;(with_reducible refine(size1_any _ _ (by omega) (by omega)).mono ?_);rintro e w' ⟨rfl,rfl⟩)|(go_at_call 217;(with_reducible refine(digits1_one _ _ (by omega) (by omega)).mono ?_);rintro e w' ⟨rfl,rfl⟩)))
  go_returns
  exact⟨ret_str (by simp [fracS, *]<;>(intro _;omega)),.of_below belB⟩):p:=h
theorem bz14{p:Prop}(h:p:=by
 clear HR
 have HR:=Lib.hid hR
 have HX:=Lib.hid hX
 clear hR hX
 go_enter Tryz.func206,Tryz.ntmps206
 by_cases e1:x=1
 focus
  subst e1
 rotate_left
 focus
  have f1:(x==1)=false:=by simpa using e1
  have g1:(1==x)=false:=by simpa using fun h=>e1 h.symm
 rotate_left
 all_goals
  exact bz0):p:=h
theorem bz15{p:Prop}(h:p:=by
 clear HR
 have HR:=Lib.hid hR
 have HX:=Lib.hid hX
 clear hR hX
 go_enter Tryz.func98,Tryz.ntmps98
 by_cases e1:x=1
 focus
  subst e1
 rotate_left
 focus
  have f1:(x==1)=false:=by simpa using e1
  have g1:(1==x)=false:=by simpa using fun h=>e1 h.symm
 rotate_left
 all_goals
  exact bz1):p:=h
theorem bz16{p:Prop}(h:p:=by
 have hn:an.natAbs*bd.natAbs=bn.natAbs*ad.natAbs:=by rw [←Int.natAbs_mul,h,Int.natAbs_mul]
 have d1:ad.natAbs ∣ bd.natAbs:=Nat.Coprime.dvd_of_dvd_mul_left (k:=ad.natAbs) (m:=an.natAbs) (Nat.Coprime.symm p) ⟨bn.natAbs,by rw [hn,Nat.mul_comm]⟩
 have d2:bd.natAbs ∣ ad.natAbs:=Nat.Coprime.dvd_of_dvd_mul_left (k:=bd.natAbs) (m:=bn.natAbs) (Nat.Coprime.symm q) ⟨an.natAbs,by rw [←hn,Nat.mul_comm]⟩
 have e:=Nat.dvd_antisymm d1 d2
 have e':ad=bd:=by omega
 subst e'
 exact⟨Int.eq_of_mul_eq_mul_right (by omega) h,rfl⟩):p:=h
theorem bz17{p:Prop}(h:p:=by
 rw [hs]at HD
 simp only [decFV]at HD
 have HO:=Lib.hid (And.intro hy ht)
 clear hs hy ht HDEC
 go_wp2_with ((go_at_call 235;(with_reducible refine(HD.out _).mono ?_);rintro e w' ⟨rfl,bsd,drd,rfl⟩))
 go_returns
 exact FdPost.yes HO.out.1 HO.out.2 (.of_below belB)):p:=h
theorem bz18{p:Prop}(h:p:=by
 go_wp2
 go_returns
 exact⟨ret_bool (by first|rfl|(simp;done)|(simp;omega)),.of_below belB⟩):p:=h
theorem bz19{p:Prop}(h:p:=by
 intro e' u hu
 refine(hu.mono' (S':=fun b=>(base≤b∧v.ownBlock≠some b)∧g≠b) ?_|>.keep hg.size ?_).mono ?_
 ·rintro b ⟨h1,h2⟩ hlt
  refine⟨⟨h1,h2⟩, ?_⟩
  rcases hat with hat|hat
  ·intro e;exact h2 (by rw [hat,e])
  ·omega
 ·rintro b o ⟨⟨_,h2⟩,_⟩ hlt
  exact World.cell?_of_block (hg.block b hlt (Ne.symm h2))
 ·rintro b ⟨⟨h1,_⟩,h3⟩
  exact⟨h1,by simpa [Value.ownBlock]using h3⟩):p:=h
theorem bz20{p:Prop}(h:p:=by
 clear h
 obtain⟨a,n,c,rfl⟩:=hy
 unfold vwV
 go_enter Tryz.func33,Tryz.ntmps33
 exact bz9):p:=h
theorem bz21{p:Prop}(h:p:=by
 clear h
 obtain⟨a,n,c,rfl⟩:=hy
 unfold vwV
 go_enter Tryz.func48,Tryz.ntmps48
 exact bz9):p:=h
theorem bz22{p:Prop}(h:p:=by
 go_enter Tryz.func58,Tryz.ntmps58
 go_wp2
 go_returns
 exact⟨ret_int (by simp [argsN];omega),rfl⟩):p:=h
theorem bz23{p:Prop}(h:p:=by
 go_enter Tryz.func230,Tryz.ntmps230
 go_wp2_with fail
 go_returns
 exact FdPost.no (decOk_out (by omega)) (.of_below belB)):p:=h
theorem bz24{p:Prop}(h:p:=by
 refine⟨?_, ?_, ?_, ?_⟩
 ·rw [hh _ (by omega) (by omega)];exact HM.out.nm
 ·rw [Below.heap_setCell _ _ _ _ (by show w.heap.size+1≠w.heap.size+2;omega)];exact Joins.block_setCell HM.out.res _
 ·exact Joins.block_setCell ((Below.heap_setCell _ _ _ _ (by show w.heap.size+2≠w.heap.size+1;omega)).trans HM.out.ok) _
 ·simp;omega):p:=h
theorem bz25{p:Prop}(h:p:=by
 go_enter Tryz.func86,Tryz.ntmps86
 go_wp2_with ((first|(go_at_call 138;(with_reducible refine(lower2_any _ _).mono ?_);rintro e w' ⟨rfl,rfl⟩;simp only [hL])|(go_at_call 139;(with_reducible refine(inWord2_any _ _).mono ?_);rintro e w' ⟨rfl,rfl⟩;simp only [hI])))
 go_ret
 exact⟨ret_bool hw.symm,rfl⟩):p:=h
theorem bz26{p:Prop}(h:p:=by
 rw [hs]at HD
 simp only [decFV]at HD
 have HO:=Lib.hid hno
 have q1:(a==n)=false:=by simpa using h1
 clear hs hno HDEC h1
 exact bz10):p:=h
theorem bz27{p:Prop}(h:p:=by
 go_enter Tryz.func55,Tryz.ntmps55
 go_wp2_with (first
  |(go_at_call 111;refine(HI.out _).mono ?_;rintro e' w' ⟨rfl,rfl⟩)
  |(go_at_call 33;refine(HV.out _ (HG.out _ _)).mono ?_;rintro e' w' ⟨rfl,bs,d,rfl⟩))
 exact bz12):p:=h
theorem bz28{p:Prop}(h:p:=by
 clear HR
 have HR:=Lib.hid hR
 have HX:=Lib.hid hX
 clear hR hX
 go_enter Tryz.func206,Tryz.ntmps206
 exact bz0):p:=h
theorem bz29{p:Prop}(h:p:=by
 rw [hs]at HD
 simp only [decFV]at HD
 have HO:=Lib.hid hno
 have q1:(b==d)=false:=by simpa using h1
 exact bz8):p:=h
theorem bz30{p:Prop}(h:p:=by
 clear HR
 have HR:=Lib.hid hR
 have HX:=Lib.hid hX
 clear hR hX
 go_enter Tryz.func98,Tryz.ntmps98
 exact bz1):p:=h
theorem bz31{p:Prop}(h:p:=by
 exact⟨Int.emod_eq_zero_of_dvd (Int.natAbs_dvd_natAbs.1 (Nat.dvd_trans h (Nat.gcd_dvd_left _ _))),Int.emod_eq_zero_of_dvd (Int.natAbs_dvd_natAbs.1 (Nat.dvd_trans h (Nat.gcd_dvd_right _ _)))⟩):p:=h
theorem bz32{p:Prop}(h:p:=by
 simp only [World.src,World.setCell]
 congr 1
 apply Array.ext_getElem?
 intro k
 simp only [Array.getElem?_modify,Array.getElem?_setIfInBounds]
 by_cases hk:s=k
 ·subst hk;simp [h]
 ·simp [hk]):p:=h
theorem bz33{p:Prop}(h:p:=by
 go_wp2
 go_returns
 exact⟨ret_bool (by simp [lowc];omega),rfl⟩):p:=h
theorem bz34{p:Prop}(h:p:=by
 go_wp2
 go_returns
 exact⟨ret_bool (by simp [digc];omega),rfl⟩):p:=h
theorem bz35{p:Prop}(h:p:=by
 rw [hn]at HD
 simp only [decFV]at HD
 have HO:=Lib.hid hno
 clear hn hno HDEC
 exact bz10):p:=h
theorem bz36{p:Prop}(h:p:=by
 go_wp2_with fail
 exact bz12):p:=h
theorem bz37{p:Prop}(h:p:=by
 split at hr<;>rename_i c1
 ·rw [if_pos c1];omega
 ·rw [if_neg c1]
  split at hr<;>rename_i c2
  ·rw [if_pos c2];omega
  ·exact absurd rfl hr):p:=h
theorem bz38{p:Prop}(h:p:=by
 go_enter Tryz.func26,Tryz.ntmps26
 go_wp2_with fail
 go_returns
 exact⟨ret_bool (by rw [HF.out];have:=HN.out;simp [this]),.of_below belB⟩):p:=h
theorem bz39{p:Prop}(h:p:=by
 go_wp2
 all_goals first
  |(exfalso;simp_all;done)
  |(go_returns
    exact⟨ret_dimok (by simp_all [inpD]) (by simp_all [inpD]),rfl⟩)):p:=h
theorem bz40{p:Prop}(h:p:=by
 unfold lastN at h
 obtain⟨p,hp,rfl⟩:=Option.map_eq_some_iff.1 h
 exact⟨p,List.mem_reverse.1 (List.mem_of_find?_eq_some hp),rfl⟩):p:=h
theorem bz41{p:Prop}(h:p:=by
 go_returns
 exact⟨ret_bool (by unfold validB;rw [decide_eq_true (by omega),decide_eq_true (by omega)];rfl),.of_below belB⟩):p:=h
theorem bz42{p:Prop}(h:p:=by
 clear hd c hr
 go_enter Tryz.func127,Tryz.ntmps127
 go_wp2_with fail
 go_returns
 exact⟨by rw [HR.out];rfl,.of_below belB⟩):p:=h
theorem bz43{p:Prop}(h:p:=by
 go_returns
 exact⟨ret_bool (by rw [HF.out];rfl),.of_below belB⟩):p:=h
theorem bz44{p:Prop}(h:p:=by
 go_returns
 exact⟨ret_bool (by unfold validB;rw [decide_eq_false (show ¬e.depth≤10 by omega)];simp),.of_below belB⟩):p:=h
theorem bz45{p:Prop}(h:p:=by
 split
 ·exact .inl ⟨rfl,Val.num_ok (by omega) h1.2.2.2,rfl⟩
 ·exact .inl ⟨rfl,Val.num_ok (by omega) h2.2.2.2,rfl⟩):p:=h
theorem bz46{p:Prop}(h:p:=by
 go_returns
 exact⟨ret_bool (by unfold validB;rw [decide_eq_false (show ¬e.size≤60 by omega)];simp),.of_below belB⟩):p:=h
theorem bz47{p:Prop}(h:p:=by
 go_wp2_with fail
 go_returns
 exact⟨ret_bool (HBAD.out k HKL.out (by rw [HDK.out];omega)).symm,(by first|rfl|trivial)⟩):p:=h
theorem bz48{p:Prop}(h:p:=by
 go_wp2_with (go_at_call 29;refine(HM.out _ HBB.out.1 HBB.out.2 _).mono ?_;rintro e' w' ⟨rfl,bs4,d4,rfl⟩)
 exact bz12):p:=h
theorem bz49{p:Prop}(h:p:=by
 go_wp2
 all_goals first
  |(exfalso;simp_all;done)
  |(go_returns
    exact⟨ret_bool (by simp_all [keyB,keyL]),rfl⟩)):p:=h
theorem bz50{p:Prop}(h:p:=by
 intro k
 simp only [Option.some.injEq]at k
 rw [k]at hc
 rcases hc with hc|hc
 ·revert hc;decide
 ·revert hc;decide):p:=h
theorem bz51{p:Prop}(h:p:=by
 rcases h.own.2 with ⟨rfl,h0⟩|⟨g,cap,cur,rfl,_⟩
 ·exact⟨none,0,by rw [h0]⟩
 ·exact⟨_,cap,rfl⟩):p:=h
theorem bz52{p:Prop}(h:p:=by
 simp only [intOf]
 rw [show({data:=#[48,49,50,51,52,53,54,55,56,57]}:ByteArray)=tenS from rfl,hpc.out];omega):p:=h
theorem bz53{p:Prop}(h:p:=by
 rw [List.map_append,h,List.range_succ,List.map_append];rfl):p:=h
theorem bz54{p:Prop}(h:p:=by
 rw [List.take_succ_eq_append_getElem hk,List.getD_eq_getElem?_getD,List.getElem?_eq_getElem hk];rfl):p:=h
end Go
