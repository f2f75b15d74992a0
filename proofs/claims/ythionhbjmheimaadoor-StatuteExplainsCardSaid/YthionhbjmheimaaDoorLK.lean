import Derived.Test.YthionhbjmheimaaDoorLBase
import Derived.WalkKit
import Derived.WalkSpells
import Derived.WalkLawsBesides
import Derived.Handy
import Derived.BigQuiet
import Derived.Deep.RegionHeld3
import Derived.Deep.AppendLies
import Derived.StillTail
import Derived.OrdersHeld
import Derived.RegionTactic
import Derived.Lib.Hide
import Derived.Deep.CutBlock
import Derived.Deep.Matrix
import Derived.Deep.Fields
import Derived.OpenShut
import Derived.RangeFuncNested
import Derived.RangeFuncBound
import Derived.RangeFuncCalls
import Derived.RangeFuncLeaves
import Derived.Shelf.Abstract
import Derived.Shelf.RegionOpen
import Derived.OwnWalkIn
import Derived.TacticsInMore
import Derived.LoopNIn
import Derived.LoopIn
import Derived.Laws.BytesArg
import Derived.Deep.CutRange
import Derived.Deep.DeepCutAuto
import Derived.Laws.OwnMore
import Derived.Deep.MidRow
import Derived.Laws.Strings
import Derived.Deep.QuietTactic
import Derived.BigRegion
import Derived.RangeFuncBox
import Derived.Maps.AppendAt
import Derived.Laws.AppendOwnNone
import Derived.Laws.IdiomCopy
import Derived.Deep.OwnRows
set_option linter.all false
set_option maxHeartbeats 16000000
set_option maxRecDepth 1000000
namespace Go
theorem lz0{p:Prop}(h:p:=by
 go_wp2_with fail
 all_goals try(first|(go_quiet (fail);go_wp2_with fail)|(go_region;go_wp2_with fail))
 all_goals
  go_returns
  have hR:=HR.out
  have hX:=HX.out
  have h0:∀t:Int,1≤t→(t=0)=False:=fun t h=>eq_false (by omega)
  simp [resD]at hR
  refine res5P ?_ (.of_below belB)
  rw [←hR]
  try((repeat' split)<;>first|(simp_all;done)|(simp [*];done)|(simp_all;omega)|skip)):p:=h
theorem lz1{p:Prop}(h:p:=by
 clear HR
 have HR:=Lib.hid hR
 have HX:=Lib.hid hX
 clear hR hX
 go_enter Tryd.func79,Tryd.ntmps79
 by_cases e1:x=y
 focus
  subst e1
 rotate_left
 focus
  have f1:(x==y)=false:=by simpa using e1
  have g1:(y==x)=false:=by simpa using fun h=>e1 h.symm
 rotate_left
 all_goals
  exact lz0):p:=h
theorem lz2{p:Prop}(h:p:=by
 go_enter Tryd.func73,Tryd.ntmps73
 go_wp2_with ((first|(go_at_call 37;(with_reducible refine(Valid1_any _ _ _ (by omega) (by omega) (by omega) (by omega)).mono ?_);rintro e w' ⟨rfl,bs,dr,rfl⟩;simp only [hv])|(go_at_call 20;(with_reducible refine(FormatFraction_any _ _ _ (by omega) (by omega) (by omega) (by omega)).mono ?_);rintro e w' ⟨rfl,bs2,dr2,rfl⟩;simp only [hq.out])))
 go_returns
 exact⟨by rw [decV_no (by simp [decOk, *]<;>(intros;omega))];rfl,.of_below belB⟩):p:=h
theorem lz3{p:Prop}(h:p:=by
 intro v3 w3 hown3 hgrow3
 have HB3:=Lib.hid (HB2.out.grown hgrow3 HB2.out.size (fun k hk=>(HO2.out.lt k hk).1))
 have HO3:=Lib.hid hown3
 clear hown3 hgrow3
 refine TG.go hK1 ?_ (fun hS=>?_)
 focus exact(HB3.out.cell (p:=⟨b,off+k,none⟩) hbw).trans x0
 clear hK1 K1
 (try simp only [nS])
 refine TG.one (i:=14) (by kernel_rfl) rfl (fun K1 hK1=>?_)
 go_simp
 refine hK1 _ _ (fun h=>absurd rfl h) (TG.done (by kernel_rfl) ?_)
 clear hK1 K1 hS
 (try simp only [nS])
 go_wp2_with fail
 go_roundw
 case rel=>
  have ho:=HO3.out
  have hl2:a0+1+(k-a0)=k+1:=by have:=HEQ.out;omega
  rw [hl2]at ho
  refine⟨k+1,v3,rfl,HKL.out,by go_num,fun h=>by omega,HB.out.trans (HB3.out.mono hsW), ?_⟩
  rw [HI2.out]
  have ho2:=ownsRow_base ho hsW
  simpa using ho2
 case measure=>simp [intOf];have:=HKL.out;omega):p:=h
theorem lz4{p:Prop}(h:p:=by
 rcases g3 with ⟨rfl,rfl,g5⟩|⟨rfl,rfl,g5⟩|⟨rfl,rfl,g5⟩|⟨rfl,rfl,g5⟩|⟨rfl,rfl,g5⟩
 ·have g7:=Lib.hid (ten_app s (r / 1000) (by omega) (by omega))
  have g8:=Lib.hid (decG_go 3 r 1000 s g0)
  go_wp2_with fail
  go_quiet (fail)
  go_wp2_with fail
  go_roundw
  case rel=>exact⟨3,_,_,_,rfl,rfl,rfl,by omega,by rw [g7.out];omega,by simp;omega,Lib.hid (by rw [←g4.out,g8.out];rfl),.of_below belB⟩
  case measure=>simp [intOf]
 ·have g7:=Lib.hid (ten_app s (r / 100) (by omega) (by omega))
  have g8:=Lib.hid (decG_go 2 r 100 s g0)
  go_wp2_with fail
  go_quiet (fail)
  go_wp2_with fail
  go_roundw
  case rel=>exact⟨2,_,_,_,rfl,rfl,rfl,by omega,by rw [g7.out];omega,by simp;omega,Lib.hid (by rw [←g4.out,g8.out];rfl),.of_below belB⟩
  case measure=>simp [intOf]
 ·have g7:=Lib.hid (ten_app s (r / 10) (by omega) (by omega))
  have g8:=Lib.hid (decG_go 1 r 10 s g0)
  go_wp2_with fail
  go_quiet (fail)
  go_wp2_with fail
  go_roundw
  case rel=>exact⟨1,_,_,_,rfl,rfl,rfl,by omega,by rw [g7.out];omega,by simp;omega,Lib.hid (by rw [←g4.out,g8.out];rfl),.of_below belB⟩
  case measure=>simp [intOf]
 ·have g7:=Lib.hid (ten_app s r (by omega) (by omega))
  have g8:Hid (decG 1 r 1 s=decG 0 0 0 (s++tenS.extract r.toNat (r+1).toNat)):=Lib.hid (by simp [decG,g0])
  go_wp2_with fail
  go_quiet (fail)
  go_wp2_with fail
  go_roundw
  case rel=>exact⟨0,_,_,_,rfl,rfl,rfl,by omega,by rw [g7.out];omega,by simp,Lib.hid (by rw [←g4.out,g8.out];rfl),.of_below belB⟩
  case measure=>simp [intOf]
 ·omega):p:=h
theorem lz5{p:Prop}(h:p:=by
 clear h
 obtain⟨a,n,c,rfl⟩:=hy
 unfold vwV
 go_enter Tryd.func12,Tryd.ntmps12
 go_wp2_with fail
 go_returns
 exact⟨ret_bool HF.out.symm,.of_below belB⟩):p:=h
theorem lz6{p:Prop}(h:p:=by
 go_returns
 exact⟨rfl,.of_below belB⟩):p:=h
theorem lz7{p:Prop}(h:p:=by
 by_cases cd:d=1
 focus
  subst cd
  go_enter Tryd.func20,Tryd.ntmps20
 rotate_left
 focus
  go_enter Tryd.func20,Tryd.ntmps20
 rotate_left
 all_goals
  go_wp2_with ((first|(go_at_call 37;(with_reducible refine(Valid1_any _ _ _ (by omega) (by omega) (by omega) (by omega)).mono ?_);rintro e w' ⟨rfl,bs,dr,rfl⟩;simp only [hv])|(go_at_call 31;(with_reducible refine(size1_any _ _ (by omega) (by omega)).mono ?_);rintro e w' ⟨rfl,rfl⟩)|(go_at_call 38;(with_reducible refine(digits1_one _ _ (by omega) (by omega)).mono ?_);rintro e w' ⟨rfl,rfl⟩)))
  go_returns
  exact⟨ret_str (by simp [fracS, *]<;>(intro _;omega)),.of_below belB⟩):p:=h
theorem lz8{p:Prop}(h:p:=by
 clear HR
 have HR:=Lib.hid hR
 have HX:=Lib.hid hX
 clear hR hX
 go_enter Tryd.func79,Tryd.ntmps79
 by_cases e1:x=1
 focus
  subst e1
 rotate_left
 focus
  have f1:(x==1)=false:=by simpa using e1
  have g1:(1==x)=false:=by simpa using fun h=>e1 h.symm
 rotate_left
 all_goals
  exact lz0):p:=h
theorem lz9{p:Prop}(h:p:=by
 intro e' u hu
 refine(hu.mono' (S':=fun b=>(base≤b∧v.ownBlock≠some b)∧g≠b) ?_|>.keep hg.size ?_).mono ?_
 ·rintro b ⟨h1,h2⟩ hlt
  refine⟨⟨h1,h2⟩, ?_⟩
  rcases hat with hat|hat
  ·intro e;exact h2 (by rw [hat,e])
  ·omega
 ·rintro b o ⟨⟨_,h2⟩,_⟩ hlt
  exact World.cell?_of_block (hg.block b hlt (Ne.symm h2))
 ·rintro b ⟨⟨h1,_⟩,h3⟩
  exact⟨h1,by simpa [Value.ownBlock]using h3⟩):p:=h
theorem lz10{p:Prop}(h:p:=by
 go_enter Tryd.func72,Tryd.ntmps72
 go_wp2
 go_returns
 exact⟨ret_int (by simp [argsN];omega),rfl⟩):p:=h
theorem lz11{p:Prop}(h:p:=by
 obtain⟨-,a,c,h,-⟩:=hy
 exact⟨a,c,h⟩):p:=h
theorem lz12{p:Prop}(h:p:=by
 obtain⟨-,a,c,h,-⟩:=hs
 exact⟨a,c,h⟩):p:=h
theorem lz13{p:Prop}(h:p:=by
 go_wp2_with fail
 exact lz6):p:=h
theorem lz14{p:Prop}(h:p:=by
 go_wp2_with ((first|(go_at_call 44;refine(HI5.out _).mono ?_;rintro e' w' ⟨rfl,rfl⟩)|(go_at_call 45;refine(HN5.out _).mono ?_;rintro e' w' ⟨rfl,rfl⟩)))
 go_returns
 exact LtCap.bad HC.out (World.Grows.trans' HG.out growsA)):p:=h
theorem lz15{p:Prop}(h:p:=by
 go_enter Tryd.func70,Tryd.ntmps70
 go_wp2_with (first
  |(go_at_call 44;refine(HI.out _).mono ?_;rintro e' w' ⟨rfl,rfl⟩)
  |(go_at_call 12;refine(HV.out _ (HG.out _ _)).mono ?_;rintro e' w' ⟨rfl,bs,d,rfl⟩))
 exact lz6):p:=h
theorem lz16{p:Prop}(h:p:=by
 clear HR
 have HR:=Lib.hid hR
 have HX:=Lib.hid hX
 clear hR hX
 go_enter Tryd.func79,Tryd.ntmps79
 exact lz0):p:=h
theorem lz17{p:Prop}(h:p:=by
 obtain⟨h0,a,cap,hv,h1⟩:=h
 refine⟨h0,a,cap,hv,h1.imp id ?_⟩
 rintro⟨b,off,ha,hb,hc⟩
 have:=hg.below.size
 exact⟨b,off,ha,by omega,fun i hi=>(hc i hi).imp fun u hu=>hu.same hg hb⟩):p:=h
theorem lz18{p:Prop}(h:p:=by
 simp only [World.src,World.setCell]
 congr 1
 apply Array.ext_getElem?
 intro k
 simp only [Array.getElem?_modify,Array.getElem?_setIfInBounds]
 by_cases hk:s=k
 ·subst hk;simp [h]
 ·simp [hk]):p:=h
theorem lz19{p:Prop}(h:p:=by
 rw [List.drop_eq_getElem_cons hk,List.getD_eq_getElem?_getD,List.getElem?_eq_getElem hk];rfl):p:=h
theorem lz20{p:Prop}(h:p:=by
 unfold mkE lowE
 rw [if_neg (by omega),if_neg]
 have a:=Nat.div_le_self n.natAbs (Nat.gcd n.natAbs d.natAbs)
 have b:=Nat.div_le_self d.natAbs (Nat.gcd n.natAbs d.natAbs)
 omega):p:=h
theorem lz21{p:Prop}(h:p:=by
 go_enter Tryd.func49,Tryd.ntmps49
 go_wp2_with (go_at_call 69;refine(HB.out _ growsP).mono ?_;rintro e' w' ⟨rfl,bs,d,rfl⟩)
 go_returns
 exact⟨rfl,growsP⟩):p:=h
theorem lz22{p:Prop}(h:p:=by
 obtain⟨-,⟨rfl,h0⟩|⟨g,cap,cur,rfl,hb,hg,-⟩⟩:=h
 ·exact .inl ⟨rfl,h0⟩
 ·exact .inr ⟨g,cap,rfl,hb,(Array.getElem?_eq_some_iff.1 hg).1⟩):p:=h
theorem lz23{p:Prop}(h:p:=by
 go_enter Tryd.func16,Tryd.ntmps16
 exact lz13):p:=h
theorem lz24{p:Prop}(h:p:=by
 split at hr<;>rename_i c1
 ·rw [if_pos c1];omega
 ·rw [if_neg c1]
  split at hr<;>rename_i c2
  ·rw [if_pos c2];omega
  ·exact absurd rfl hr):p:=h
theorem lz25{p:Prop}(h:p:=by
 go_enter Tryd.func48,Tryd.ntmps48
 go_wp2_with fail
 go_returns
 exact⟨ret_bool (by rw [HF.out];have:=HN.out;simp [this]),.of_below belB⟩):p:=h
theorem lz26{p:Prop}(h:p:=by
 unfold lastN at h
 obtain⟨p,hp,rfl⟩:=Option.map_eq_some_iff.1 h
 exact⟨p,List.mem_reverse.1 (List.mem_of_find?_eq_some hp),rfl⟩):p:=h
theorem lz27{p:Prop}(h:p:=by
 go_returns
 exact⟨ret_bool (by rw [HF.out];rfl),.of_below belB⟩):p:=h
theorem lz28{p:Prop}(h:p:=by
 split
 ·exact .inl ⟨rfl,Val.num_ok (by omega) h1.2.2.2,rfl⟩
 ·exact .inl ⟨rfl,Val.num_ok (by omega) h2.2.2.2,rfl⟩):p:=h
theorem lz29{p:Prop}(h:p:=by
 go_wp2_with fail
 go_returns
 exact⟨ret_bool (HBAD.out k HKL.out (by rw [HDK.out];omega)).symm,(by first|rfl|trivial)⟩):p:=h
theorem lz30{p:Prop}(h:p:=by
 clear hd c hr
 go_enter Tryd.func43,Tryd.ntmps43
 go_wp2_with fail
 go_returns
 exact⟨by rw [HR.out];rfl,.of_below belB⟩):p:=h
theorem lz31{p:Prop}(h:p:=by
 go_wp2_with (go_at_call 15;refine(HM.out _ HBB.out.1 HBB.out.2 _).mono ?_;rintro e' w' ⟨rfl,bs4,d4,rfl⟩)
 exact lz6):p:=h
theorem lz32{p:Prop}(h:p:=by
 go_wp2_with fail
 go_returns
 exact⟨ret_bool (HBD.out (by omega)).symm,World.Grows.trans HG2.out (.of_below belB)⟩):p:=h
theorem lz33{p:Prop}(h:p:=by
 rcases h.own.2 with ⟨rfl,h0⟩|⟨g,cap,cur,rfl,_⟩
 ·exact⟨none,0,by rw [h0]⟩
 ·exact⟨_,cap,rfl⟩):p:=h
theorem lz34{p:Prop}(h:p:=by
 simp only [intOf]
 rw [show({data:=#[48,49,50,51,52,53,54,55,56,57]}:ByteArray)=tenS from rfl,hpc.out];omega):p:=h
theorem lz35{p:Prop}(h:p:=by
 rw [List.map_append,h,List.range_succ,List.map_append];rfl):p:=h
theorem lz36{p:Prop}(h:p:=by
 rw [List.take_succ_eq_append_getElem hk,List.getD_eq_getElem?_getD,List.getElem?_eq_getElem hk];rfl):p:=h
theorem lz37{p:Prop}(h:p:=by
 go_enter Tryd.func77,Tryd.ntmps77
 go_wp2
 go_returns
 exact⟨ret_bool (by simp [lowc];omega),rfl⟩):p:=h
theorem lz38{p:Prop}(h:p:=by
 go_enter Tryd.func78,Tryd.ntmps78
 go_wp2
 go_returns
 exact⟨ret_bool (by simp [digc];omega),rfl⟩):p:=h
end Go
