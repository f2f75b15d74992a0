import Derived.Test.YtaghhncnicbedaaGreatDoorFBase
import Derived.WalkKit
import Derived.WalkSpells
import Derived.WalkLawsBesides
import Derived.Handy
import Derived.BigQuiet
import Derived.Deep.RegionHeld3
import Derived.Deep.AppendLies
import Derived.StillTail
import Derived.OrdersHeld
import Derived.RegionTactic
import Derived.Lib.Hide
import Derived.RangeFuncNested
import Derived.RangeFuncBound
import Derived.RangeFuncCalls
import Derived.RangeFuncLeaves
import Derived.Shelf.Abstract
import Derived.Shelf.RegionOpen
import Derived.OwnWalkIn
import Derived.TacticsInMore
import Derived.LoopNIn
import Derived.LoopIn
import Derived.Maps.Range
import Derived.Laws.AppendOwnNone
import Derived.Laws.OwnMore
import Derived.Deep.Matrix
import Derived.Deep.Fields
import Derived.OpenShut
import Derived.Laws.BytesArg
import Derived.Deep.CutBlock
import Derived.Deep.CutRange
import Derived.Deep.DeepCutAuto
import Derived.Deep.MidRow
import Derived.Ground.Names2Prog
import Derived.Laws.Strings
import Derived.BigRegion
import Derived.Deep.QuietTactic
import Derived.Deep.OwnRows
import Derived.Deep.Slices
set_option linter.all false
set_option maxHeartbeats 16000000
set_option maxRecDepth 1000000
namespace Go
theorem fz0{p:Prop}(h:p:=by
 go_wp2_with fail
 all_goals try(first|(go_quiet (fail);go_wp2_with fail)|(go_region;go_wp2_with fail))
 all_goals
  go_returns
  have hR:=HR.out
  have hX:=HX.out
  have h0:∀t:Int,1≤t→(t=0)=False:=fun t h=>eq_false (by omega)
  simp [resD]at hR
  refine res2P ?_ ?_ (.of_below belB)
  all_goals
   rw [←hR]
   try((repeat' split)<;>first|(simp_all;done)|(simp [*];done)|(simp_all;omega)|skip)):p:=h
theorem fz1{p:Prop}(h:p:=by
 go_wp2_with fail
 all_goals try(first|(go_quiet (fail);go_wp2_with fail)|(go_region;go_wp2_with fail))
 all_goals
  go_returns
  have hR:=HR.out
  have hX:=HX.out
  have h0:∀t:Int,1≤t→(t=0)=False:=fun t h=>eq_false (by omega)
  simp [resD]at hR
  refine res5P ?_ (.of_below belB)
  rw [←hR]
  try((repeat' split)<;>first|(simp_all;done)|(simp [*];done)|(simp_all;omega)|skip)):p:=h
theorem fz2{p:Prop}(h:p:=by
 clear HR
 have HR:=Lib.hid hR
 have HX:=Lib.hid hX
 clear hR hX
 go_enter Tryz.func206,Tryz.ntmps206
 by_cases e1:x=y
 focus
  subst e1
 rotate_left
 focus
  have f1:(x==y)=false:=by simpa using e1
  have g1:(y==x)=false:=by simpa using fun h=>e1 h.symm
 rotate_left
 all_goals
  exact fz0):p:=h
theorem fz3{p:Prop}(h:p:=by
 clear HR
 have HR:=Lib.hid hR
 have HX:=Lib.hid hX
 clear hR hX
 go_enter Tryz.func98,Tryz.ntmps98
 by_cases e1:x=y
 focus
  subst e1
 rotate_left
 focus
  have f1:(x==y)=false:=by simpa using e1
  have g1:(y==x)=false:=by simpa using fun h=>e1 h.symm
 rotate_left
 all_goals
  exact fz1):p:=h
theorem fz4{p:Prop}(h:p:=by
 go_enter Tryz.func160,Tryz.ntmps160
 go_wp2_with ((first|(go_at_call 60;(with_reducible refine(Valid1_any _ _ _ (by omega) (by omega) (by omega) (by omega)).mono ?_);rintro e w' ⟨rfl,bs,dr,rfl⟩;simp only [hv])|(go_at_call 193;(with_reducible refine(FormatFraction_any _ _ _ (by omega) (by omega) (by omega) (by omega)).mono ?_);rintro e w' ⟨rfl,bs2,dr2,rfl⟩;simp only [hq.out])))
 go_returns
 exact⟨by rw [decV_no (by simp [decOk, *]<;>(intros;omega))];rfl,.of_below belB⟩):p:=h
theorem fz5{p:Prop}(h:p:=by
 rcases g3 with ⟨rfl,rfl,g5⟩|⟨rfl,rfl,g5⟩|⟨rfl,rfl,g5⟩|⟨rfl,rfl,g5⟩|⟨rfl,rfl,g5⟩
 ·have g7:=Lib.hid (ten_app s (r / 1000) (by omega) (by omega))
  have g8:=Lib.hid (decG_go 3 r 1000 s g0)
  go_wp2_with fail
  go_quiet (fail)
  go_wp2_with fail
  go_roundw
  case rel=>exact⟨3,_,_,_,rfl,rfl,rfl,by omega,by rw [g7.out];omega,by simp;omega,Lib.hid (by rw [←g4.out,g8.out];rfl),.of_below belB⟩
  case measure=>simp [intOf]
 ·have g7:=Lib.hid (ten_app s (r / 100) (by omega) (by omega))
  have g8:=Lib.hid (decG_go 2 r 100 s g0)
  go_wp2_with fail
  go_quiet (fail)
  go_wp2_with fail
  go_roundw
  case rel=>exact⟨2,_,_,_,rfl,rfl,rfl,by omega,by rw [g7.out];omega,by simp;omega,Lib.hid (by rw [←g4.out,g8.out];rfl),.of_below belB⟩
  case measure=>simp [intOf]
 ·have g7:=Lib.hid (ten_app s (r / 10) (by omega) (by omega))
  have g8:=Lib.hid (decG_go 1 r 10 s g0)
  go_wp2_with fail
  go_quiet (fail)
  go_wp2_with fail
  go_roundw
  case rel=>exact⟨1,_,_,_,rfl,rfl,rfl,by omega,by rw [g7.out];omega,by simp;omega,Lib.hid (by rw [←g4.out,g8.out];rfl),.of_below belB⟩
  case measure=>simp [intOf]
 ·have g7:=Lib.hid (ten_app s r (by omega) (by omega))
  have g8:Hid (decG 1 r 1 s=decG 0 0 0 (s++tenS.extract r.toNat (r+1).toNat)):=Lib.hid (by simp [decG,g0])
  go_wp2_with fail
  go_quiet (fail)
  go_wp2_with fail
  go_roundw
  case rel=>exact⟨0,_,_,_,rfl,rfl,rfl,by omega,by rw [g7.out];omega,by simp,Lib.hid (by rw [←g4.out,g8.out];rfl),.of_below belB⟩
  case measure=>simp [intOf]
 ·omega):p:=h
theorem fz6{p:Prop}(h:p:=by
 go_enter Tryz.func235,Tryz.ntmps235
 apply wp_seq_k
 intro K1 hK1
 have HK1:=Lib.hid hK1
 clear hK1
 go_wp2_with fail
 refine HK1.out _ _ ?_
 clear HK1 K1
 apply wp_seq_k
 intro K2 hK2
 have HK2:=Lib.hid hK2
 clear hK2
 go_wp2_with fail
 refine HK2.out _ _ ?_
 clear HK2 K2
 apply wp_seq_k
 intro K3 hK3
 have HK3:=Lib.hid hK3
 clear hK3
 go_wp2_with fail
 refine HK3.out _ _ ?_
 rw [HF.out]
 exact dec_T1k _ _ _ _ _ w cutB_nil (Lib.hid (fun w=>Cut_dot _ w HE.out)) _ _ _ _ _ _ _ _ _ _ _ _ _ _ _ _ _ _ _ _ _ _ _ _ _ _ _ _ _ _ _ _ _ _ _ _ _ _ _ _ _ _ _ _ _ _ _ _ _ _ _ _ _ _ _ _ _ _ _ _ _ _ _ _ _ _ _ _ _ _ _ _ _ _ _ _ _ _ _ _ _ _ _ _ _ _ _ _ _ _ _ _ _ _ _ _ _ _ _ _ _ _ _ _ _ _ _ _ _ _ _ _ _ _ _ _ _ _ _ _ _ _ _ _ _ _ _ _ _ _ _ _ _ _ _ _ _ _ _):p:=h
theorem fz7{p:Prop}(h:p:=by
 clear hs hno HDEC h1
 go_wp2_with ((go_at_call 235;(with_reducible refine(HD.out _).mono ?_);rintro e w' ⟨rfl,bsd,drd,rfl⟩))
 all_goals
  go_returns
  exact FdPost.no HO.out (.of_below belB)):p:=h
theorem fz8{p:Prop}(h:p:=by
 go_wp2_with fail
 go_returns
 exact⟨rfl,rfl⟩):p:=h
theorem fz9{p:Prop}(h:p:=by
 go_wp2_with ((go_at_call 235;(with_reducible refine(HD.out _).mono ?_);rintro e w' ⟨rfl,bsd,drd,rfl⟩))
 go_returns
 exact FdPost.no HO.out (.of_below belB)):p:=h
theorem fz10{p:Prop}(h:p:=by
 go_enter Tryz.func30,Tryz.ntmps30
 go_wp2_with fail
 go_returns
 exact⟨rfl,.of_below belB⟩):p:=h
theorem fz11{p:Prop}(h:p:=by
 clear h
 obtain⟨a,n,c,rfl⟩:=hy
 unfold vwV
 go_enter Tryz.func48,Tryz.ntmps48
 go_wp2_with fail
 go_returns
 exact⟨ret_bool HF.out.symm,.of_below belB⟩):p:=h
theorem fz12{p:Prop}(h:p:=by
 by_cases cd:d=1
 focus
  subst cd
  go_enter Tryz.func193,Tryz.ntmps193
 rotate_left
 focus
  go_enter Tryz.func193,Tryz.ntmps193
 rotate_left
 all_goals
  go_wp2_with ((first|(go_at_call 60;(with_reducible refine(Valid1_any _ _ _ (by omega) (by omega) (by omega) (by omega)).mono ?_);rintro e w' ⟨rfl,bs,dr,rfl⟩;simp only [hv])|(go_at_call 62;(with_reducible refine(size1_any _ _ (by omega) (by omega)).mono ?_);rintro e w' ⟨rfl,rfl⟩)|(go_at_call 217;(with_reducible refine(digits1_one _ _ (by omega) (by omega)).mono ?_);rintro e w' ⟨rfl,rfl⟩)))
  go_returns
  exact⟨ret_str (by simp [fracS, *]<;>(intro _;omega)),.of_below belB⟩):p:=h
theorem fz13{p:Prop}(h:p:=by
 clear HR
 have HR:=Lib.hid hR
 have HX:=Lib.hid hX
 clear hR hX
 go_enter Tryz.func206,Tryz.ntmps206
 by_cases e1:x=1
 focus
  subst e1
 rotate_left
 focus
  have f1:(x==1)=false:=by simpa using e1
  have g1:(1==x)=false:=by simpa using fun h=>e1 h.symm
 rotate_left
 all_goals
  exact fz0):p:=h
theorem fz14{p:Prop}(h:p:=by
 rw [hs]at HD
 simp only [decFV]at HD
 have HO:=Lib.hid (And.intro hy ht)
 clear hs hy ht HDEC
 go_wp2_with ((go_at_call 235;(with_reducible refine(HD.out _).mono ?_);rintro e w' ⟨rfl,bsd,drd,rfl⟩))
 go_returns
 exact FdPost.yes HO.out.1 HO.out.2 (.of_below belB)):p:=h
theorem fz15{p:Prop}(h:p:=by
 go_wp2
 go_returns
 exact⟨ret_bool (by first|rfl|(simp;done)|(simp;omega)),.of_below belB⟩):p:=h
theorem fz16{p:Prop}(h:p:=by
 intro e' u hu
 refine(hu.mono' (S':=fun b=>(base≤b∧v.ownBlock≠some b)∧g≠b) ?_|>.keep hg.size ?_).mono ?_
 ·rintro b ⟨h1,h2⟩ hlt
  refine⟨⟨h1,h2⟩, ?_⟩
  rcases hat with hat|hat
  ·intro e;exact h2 (by rw [hat,e])
  ·omega
 ·rintro b o ⟨⟨_,h2⟩,_⟩ hlt
  exact World.cell?_of_block (hg.block b hlt (Ne.symm h2))
 ·rintro b ⟨⟨h1,_⟩,h3⟩
  exact⟨h1,by simpa [Value.ownBlock]using h3⟩):p:=h
theorem fz17{p:Prop}(h:p:=by
 match xs,hlen with
 | [a,b],_=>exact⟨a,b,rfl⟩
 | [],h=>simp [argsN]at h
 | [_],h=>simp [argsN]at h
 |_::_::_::_,h=>simp [argsN]at h;omega):p:=h
theorem fz18{p:Prop}(h:p:=by
 go_enter Tryz.func58,Tryz.ntmps58
 go_wp2
 go_returns
 exact⟨ret_int (by simp [argsN];omega),rfl⟩):p:=h
theorem fz19{p:Prop}(h:p:=by
 rw [World.cell?_of_block (hg0.below.block _ (by simp)),World.cell?_alloc_at _ _ _ _ rfl];rfl):p:=h
theorem fz20{p:Prop}(h:p:=by
 have HP:Hid (∀w',w.Grows w'→idmP a w (.returned (.tuple #[.int .i64 0,.bool false])) w'):=Lib.hid (fun w' hg=>⟨by unfold idmF;rw [if_neg (by omega),decide_eq_false (by omega)],hg⟩)
 go_enter Tryz.func96,Tryz.ntmps96
 go_wp2_with (go_at_call 28;refine(Names_any _).mono ?_;rintro e' w' ⟨rfl,rfl⟩)
 go_returns
 exact HP.out _ growsR):p:=h
theorem fz21{p:Prop}(h:p:=by
 go_enter Tryz.func230,Tryz.ntmps230
 go_wp2_with fail
 go_returns
 exact FdPost.no (decOk_out (by omega)) (.of_below belB)):p:=h
theorem fz22{p:Prop}(h:p:=by
 refine⟨?_, ?_, ?_, ?_⟩
 ·rw [hh _ (by omega) (by omega)];exact HM.out.nm
 ·rw [Below.heap_setCell _ _ _ _ (by show w.heap.size+1≠w.heap.size+2;omega)];exact Joins.block_setCell HM.out.res _
 ·exact Joins.block_setCell ((Below.heap_setCell _ _ _ _ (by show w.heap.size+2≠w.heap.size+1;omega)).trans HM.out.ok) _
 ·simp;omega):p:=h
theorem fz23{p:Prop}(h:p:=by
 refine run_convert_bytes_arg (P:=Tryz.prog) _ 142 5 Tryz.underlying142 Tryz.underlying5 w.heap.size 0 3 3 [a,b,c] rfl (fun i hi=>?_) 9 Tryz.underlying9
 obtain rfl|rfl|rfl:i=0∨i=1∨i=2:=by omega
 ·rw [World.cell?_alloc_at _ _ _ _ rfl];rfl
 ·rw [World.cell?_alloc_at _ _ _ _ rfl];rfl
 ·rw [World.cell?_alloc_at _ _ _ _ rfl];rfl):p:=h
theorem fz24{p:Prop}(h:p:=by
 go_enter Tryz.func86,Tryz.ntmps86
 go_wp2_with ((first|(go_at_call 138;(with_reducible refine(lower2_any _ _).mono ?_);rintro e w' ⟨rfl,rfl⟩;simp only [hL])|(go_at_call 139;(with_reducible refine(inWord2_any _ _).mono ?_);rintro e w' ⟨rfl,rfl⟩;simp only [hI])))
 go_ret
 exact⟨ret_bool hw.symm,rfl⟩):p:=h
theorem fz25{p:Prop}(h:p:=by
 clear HR
 have HR:=Lib.hid hR
 have HX:=Lib.hid hX
 clear hR hX
 go_enter Tryz.func98,Tryz.ntmps98
 by_cases e1:x=1
 focus
  subst e1
 rotate_left
 focus
  have f1:(x==1)=false:=by simpa using e1
  have g1:(1==x)=false:=by simpa using fun h=>e1 h.symm
 rotate_left
 all_goals
  exact fz1):p:=h
theorem fz26{p:Prop}(h:p:=by
 rw [hs]at HD
 simp only [decFV]at HD
 have HO:=Lib.hid hno
 have q1:(a==n)=false:=by simpa using h1
 clear hs hno HDEC h1
 exact fz9):p:=h
theorem fz27{p:Prop}(h:p:=by
 go_enter Tryz.func52,Tryz.ntmps52
 exact fz8):p:=h
theorem fz28{p:Prop}(h:p:=by
 go_enter Tryz.func57,Tryz.ntmps57
 exact fz8):p:=h
theorem fz29{p:Prop}(h:p:=by
 clear HR
 have HR:=Lib.hid hR
 have HX:=Lib.hid hX
 clear hR hX
 go_enter Tryz.func206,Tryz.ntmps206
 exact fz0):p:=h
theorem fz30{p:Prop}(h:p:=by
 rw [hs]at HD
 simp only [decFV]at HD
 have HO:=Lib.hid hno
 have q1:(b==d)=false:=by simpa using h1
 exact fz7):p:=h
theorem fz31{p:Prop}(h:p:=by
 clear HR
 have HR:=Lib.hid hR
 have HX:=Lib.hid hX
 clear hR hX
 go_enter Tryz.func98,Tryz.ntmps98
 exact fz1):p:=h
theorem fz32{p:Prop}(h:p:=by
 exact⟨Int.emod_eq_zero_of_dvd (Int.natAbs_dvd_natAbs.1 (Nat.dvd_trans h (Nat.gcd_dvd_left _ _))),Int.emod_eq_zero_of_dvd (Int.natAbs_dvd_natAbs.1 (Nat.dvd_trans h (Nat.gcd_dvd_right _ _)))⟩):p:=h
theorem fz33{p:Prop}(h:p:=by
 rw [List.take_succ_eq_append_getElem hk,List.getD_eq_getElem?_getD,List.getElem?_eq_getElem hk];rfl):p:=h
theorem fz34{p:Prop}(h:p:=by
 simp only [World.src,World.setCell]
 congr 1
 apply Array.ext_getElem?
 intro k
 simp only [Array.getElem?_modify,Array.getElem?_setIfInBounds]
 by_cases hk:s=k
 ·subst hk;simp [h]
 ·simp [hk]):p:=h
theorem fz35{p:Prop}(h:p:=by
 have:=h.dm k (.int .i64 (dims.getD k 0)) (by rw [List.getElem?_map,List.getD_eq_getElem?_getD,List.getElem?_eq_getElem (by omega:k<dims.length)];rfl)
 rw [Nat.zero_add]at this;exact this):p:=h
theorem fz36{p:Prop}(h:p:=by
 go_wp2
 go_returns
 exact⟨ret_bool (by simp [lowc];omega),rfl⟩):p:=h
theorem fz37{p:Prop}(h:p:=by
 go_wp2
 go_returns
 exact⟨ret_bool (by simp [digc];omega),rfl⟩):p:=h
theorem fz38{p:Prop}(h:p:=by
 match xs,hlen with
 | [a,b,c],_=>exact⟨a,b,c,rfl⟩
 | [],h=>simp [argsN]at h
 | [_],h=>simp [argsN]at h
 | [_,_],h=>simp [argsN]at h
 |_::_::_::_::_,h=>simp [argsN]at h;omega):p:=h
theorem fz39{p:Prop}(h:p:=by
 obtain rfl|rfl|rfl|rfl|rfl:k=0∨k=1∨k=2∨k=3∨k=4:=by omega
 ·exact letName_0 w
 ·exact letName_1 w
 ·exact letName_2 w
 ·exact letName_3 w
 ·exact letName_4 w):p:=h
theorem fz40{p:Prop}(h:p:=by
 unfold LRow at hr
 refine⟨?_,hr.frozenAt _⟩
 have:=hr.cellAt (i*4+1) (by omega)
 rw [this,List.getElem?_eq_getElem (by rw [insV_len];omega)]
 exact⟨_,rfl⟩):p:=h
theorem fz41{p:Prop}(h:p:=by
 rw [hn]at HD
 simp only [decFV]at HD
 have HO:=Lib.hid hno
 clear hn hno HDEC
 exact fz9):p:=h
theorem fz42{p:Prop}(h:p:=by
 by_cases h:j<k
 ·rw [if_pos h,if_pos (by omega)]
 ·rw [if_neg h,if_neg (by omega)]):p:=h
theorem fz43{p:Prop}(h:p:=by
 go_enter Tryz.func84,Tryz.ntmps84
 exact fz8):p:=h
theorem fz44{p:Prop}(h:p:=by
 have:=h.st j hj
 cases ht:T.getD j none with
 |none=>rw [ht]at this;exact CellsAt.same this c
 |some t=>rw [ht]at this;exact CellsAt.same this c):p:=h
theorem fz45{p:Prop}(h:p:=by
 cases k with
 |zero=>exact absurd rfl hk
 |succ k=>rw [List.getD_cons_succ,List.getD_eq_getElem?_getD,List.getElem?_replicate];split<;>rfl):p:=h
theorem fz46{p:Prop}(h:p:=by
 go_wp2
 all_goals first
  |(exfalso;simp_all;done)
  |(go_returns
    exact⟨ret_dimok (by simp_all [inpD]) (by simp_all [inpD]),rfl⟩)):p:=h
theorem fz47{p:Prop}(h:p:=by
 obtain⟨h0,h1|⟨g,cap,cur,hv,hbg,hr⟩⟩:=h
 ·exact⟨h0,.inl h1⟩
 ·exact⟨h0,.inr ⟨g,cap,cur,hv,Nat.le_trans hb hbg,hr⟩⟩):p:=h
theorem fz48{p:Prop}(h:p:=by
 go_returns
 exact⟨ret_bool (by unfold validB;rw [decide_eq_true (by omega),decide_eq_true (by omega)];rfl),.of_below belB⟩):p:=h
theorem fz49{p:Prop}(h:p:=by
 unfold rndA;simp only [hsi,hap,if_neg h24,if_neg (show ¬x.op=21 by omega),hp,if_pos (show x.op=21∨x.op=22 by omega),hp2]):p:=h
theorem fz50{p:Prop}(h:p:=by
 go_returns
 exact⟨ret_bool (by unfold validB;rw [decide_eq_false (show ¬e.depth≤10 by omega)];simp),.of_below belB⟩):p:=h
theorem fz51{p:Prop}(h:p:=by
 go_returns
 exact⟨ret_bool (by unfold validB;rw [decide_eq_false (show ¬e.size≤60 by omega)];simp),.of_below belB⟩):p:=h
theorem fz52{p:Prop}(h:p:=by
 rw [List.getD_eq_getElem?_getD]
 cases hk:d[k]? with
 |none=>simp
 |some z=>have:=hd z (List.mem_of_getElem? hk);simp;omega):p:=h
theorem fz53{p:Prop}(h:p:=by
 go_wp2
 all_goals first
  |(exfalso;simp_all;done)
  |(go_returns
    exact⟨ret_bool (by simp_all [keyB,keyL]),rfl⟩)):p:=h
theorem fz54{p:Prop}(h:p:=by
 rw [nm2,inferF,infNode,if_neg (by decide),if_neg (by decide),if_pos rfl,inferN,if_neg (by rw [h];simp)]
 simp [lastN]):p:=h
theorem fz55{p:Prop}(h:p:=by
 go_wp2_with fail
 go_returns
 exact⟨ret_bool (HBD.out (by omega)).symm,World.Grows.trans HG2.out (.of_below belB)⟩):p:=h
theorem fz56{p:Prop}(h:p:=by
 intro k
 simp only [Option.some.injEq]at k
 rw [k]at hc
 rcases hc with hc|hc
 ·revert hc;decide
 ·revert hc;decide):p:=h
theorem fz57{p:Prop}(h:p:=by
 rcases row_frm h with ⟨e1,e2⟩|⟨g,cap,e1,-⟩
 ·exact⟨none,0,by rw [e2];exact e1⟩
 ·exact⟨_,_,e1⟩):p:=h
theorem fz58{p:Prop}(h:p:=by
 go_enter Tryz.func53,Tryz.ntmps53
 exact fz8):p:=h
theorem fz59{p:Prop}(h:p:=by
 rcases h.own.2 with ⟨rfl,h0⟩|⟨g,cap,cur,rfl,_⟩
 ·exact⟨none,0,by rw [h0]⟩
 ·exact⟨_,cap,rfl⟩):p:=h
theorem fz60{p:Prop}(h:p:=by
 simp only [intOf]
 rw [show({data:=#[48,49,50,51,52,53,54,55,56,57]}:ByteArray)=tenS from rfl,hpc.out];omega):p:=h
theorem fz61{p:Prop}(h:p:=by
 rw [List.map_append,h,List.range_succ,List.map_append];rfl):p:=h
theorem fz62{p:Prop}(h:p:=by
 apply Nat.lt_of_not_le;intro hc
 rw [List.getD_eq_getElem?_getD,List.getElem?_eq_none hc]at h;cases h):p:=h
end Go
