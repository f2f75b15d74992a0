import Derived.Test.YtblkcgceefjmjaaGreatDoorSBase
import Derived.WalkKit
import Derived.WalkSpells
import Derived.WalkLawsBesides
import Derived.Handy
import Derived.BigQuiet
import Derived.Deep.RegionHeld3
import Derived.Deep.AppendLies
import Derived.StillTail
import Derived.OrdersHeld
import Derived.RegionTactic
import Derived.Lib.Hide
import Derived.Deep.Matrix
import Derived.Deep.Fields
import Derived.OpenShut
import Derived.Laws.BytesArg
import Derived.BigRegion
import Derived.Deep.CutBlock
import Derived.Deep.CutRange
import Derived.Deep.DeepCutAuto
import Derived.Laws.OwnMore
import Derived.Deep.MidRow
import Derived.RangeFuncNested
import Derived.RangeFuncBound
import Derived.RangeFuncCalls
import Derived.RangeFuncLeaves
import Derived.Shelf.Abstract
import Derived.Shelf.RegionOpen
import Derived.OwnWalkIn
import Derived.TacticsInMore
import Derived.LoopNIn
import Derived.LoopIn
import Derived.Maps.Range
import Derived.Laws.AppendOwnNone
import Derived.Deep.QuietTactic
import Derived.Ground.Names2Prog
import Derived.Laws.Strings
import Derived.Sort.OwnSortedInts
import Derived.RangeFuncBox
import Derived.Maps.AppendAt
import Derived.Deep.Slices
set_option linter.all false
set_option maxHeartbeats 16000000
set_option maxRecDepth 1000000
namespace Go
theorem sz0{p:Prop}(h:p:=by
 go_wp2_with fail
 all_goals try(first|(go_quiet (fail);go_wp2_with fail)|(go_region;go_wp2_with fail))
 all_goals
  go_returns
  have hR:=HR.out
  have hX:=HX.out
  have h0:∀t:Int,1≤t→(t=0)=False:=fun t h=>eq_false (by omega)
  simp [resD]at hR
  refine res2P ?_ ?_ (.of_below belB)
  all_goals
   rw [←hR]
   try((repeat' split)<;>first|(simp_all;done)|(simp [*];done)|(simp_all;omega)|skip)):p:=h
theorem sz1{p:Prop}(h:p:=by
 clear HR
 have HR:=Lib.hid hR
 have HX:=Lib.hid hX
 clear hR hX
 go_enter Tryz.func216,Tryz.ntmps216
 by_cases e1:x=y
 focus
  subst e1
 rotate_left
 focus
  have f1:(x==y)=false:=by simpa using e1
  have g1:(y==x)=false:=by simpa using fun h=>e1 h.symm
 rotate_left
 all_goals
  exact sz0):p:=h
theorem sz2{p:Prop}(h:p:=by
 go_enter Tryz.func131,Tryz.ntmps131
 go_wp2_with ((first|(go_at_call 110;(with_reducible refine(Valid1_any _ _ _ (by omega) (by omega) (by omega) (by omega)).mono ?_);rintro e w' ⟨rfl,bs,dr,rfl⟩;simp only [hv])|(go_at_call 212;(with_reducible refine(FormatFraction_any _ _ _ (by omega) (by omega) (by omega) (by omega)).mono ?_);rintro e w' ⟨rfl,bs2,dr2,rfl⟩;simp only [hq.out])))
 go_returns
 exact⟨by rw [decV_no (by simp [decOk, *]<;>(intros;omega))];rfl,.of_below belB⟩):p:=h
theorem sz3{p:Prop}(h:p:=by
 rcases g3 with ⟨rfl,rfl,g5⟩|⟨rfl,rfl,g5⟩|⟨rfl,rfl,g5⟩|⟨rfl,rfl,g5⟩|⟨rfl,rfl,g5⟩
 ·have g7:=Lib.hid (ten_app s (r / 1000) (by omega) (by omega))
  have g8:=Lib.hid (decG_go 3 r 1000 s g0)
  go_wp2_with fail
  go_quiet (fail)
  go_wp2_with fail
  go_roundw
  case rel=>exact⟨3,_,_,_,rfl,rfl,rfl,by omega,by rw [g7.out];omega,by simp;omega,Lib.hid (by rw [←g4.out,g8.out];rfl),.of_below belB⟩
  case measure=>simp [intOf]
 ·have g7:=Lib.hid (ten_app s (r / 100) (by omega) (by omega))
  have g8:=Lib.hid (decG_go 2 r 100 s g0)
  go_wp2_with fail
  go_quiet (fail)
  go_wp2_with fail
  go_roundw
  case rel=>exact⟨2,_,_,_,rfl,rfl,rfl,by omega,by rw [g7.out];omega,by simp;omega,Lib.hid (by rw [←g4.out,g8.out];rfl),.of_below belB⟩
  case measure=>simp [intOf]
 ·have g7:=Lib.hid (ten_app s (r / 10) (by omega) (by omega))
  have g8:=Lib.hid (decG_go 1 r 10 s g0)
  go_wp2_with fail
  go_quiet (fail)
  go_wp2_with fail
  go_roundw
  case rel=>exact⟨1,_,_,_,rfl,rfl,rfl,by omega,by rw [g7.out];omega,by simp;omega,Lib.hid (by rw [←g4.out,g8.out];rfl),.of_below belB⟩
  case measure=>simp [intOf]
 ·have g7:=Lib.hid (ten_app s r (by omega) (by omega))
  have g8:Hid (decG 1 r 1 s=decG 0 0 0 (s++tenS.extract r.toNat (r+1).toNat)):=Lib.hid (by simp [decG,g0])
  go_wp2_with fail
  go_quiet (fail)
  go_wp2_with fail
  go_roundw
  case rel=>exact⟨0,_,_,_,rfl,rfl,rfl,by omega,by rw [g7.out];omega,by simp,Lib.hid (by rw [←g4.out,g8.out];rfl),.of_below belB⟩
  case measure=>simp [intOf]
 ·omega):p:=h
theorem sz4{p:Prop}(h:p:=by
 go_enter Tryz.func258,Tryz.ntmps258
 apply wp_seq_k
 intro K1 hK1
 have HK1:=Lib.hid hK1
 clear hK1
 go_wp2_with fail
 refine HK1.out _ _ ?_
 clear HK1 K1
 apply wp_seq_k
 intro K2 hK2
 have HK2:=Lib.hid hK2
 clear hK2
 go_wp2_with fail
 refine HK2.out _ _ ?_
 clear HK2 K2
 apply wp_seq_k
 intro K3 hK3
 have HK3:=Lib.hid hK3
 clear hK3
 go_wp2_with fail
 refine HK3.out _ _ ?_
 rw [HF.out]
 exact dec_T1k _ _ _ _ _ w cutB_nil (Lib.hid (fun w=>Cut_dot _ w HE.out)) _ _ _ _ _ _ _ _ _ _ _ _ _ _ _ _ _ _ _ _ _ _ _ _ _ _ _ _ _ _ _ _ _ _ _ _ _ _ _ _ _ _ _ _ _ _ _ _ _ _ _ _ _ _ _ _ _ _ _ _ _ _ _ _ _ _ _ _ _ _ _ _ _ _ _ _ _ _ _ _ _ _ _ _ _ _ _ _ _ _ _ _ _ _ _ _ _ _ _ _ _ _ _ _ _ _ _ _ _ _ _ _ _ _ _ _ _ _ _ _ _ _ _ _ _ _ _ _ _ _ _ _ _ _ _ _ _ _ _):p:=h
theorem sz5{p:Prop}(h:p:=by
 refine TS.go HK1.out growsR (fun hS=>?_)
 clear HK1 K1
 (try simp only [nS])
 obtain⟨jj,rfl⟩:∃k:Nat,jz=(k:Int):=⟨jz.toNat,by omega⟩
 obtain⟨qq,rfl⟩:∃k:Nat,q=(k:Int):=⟨q.toNat,by omega⟩
 have HJ:Hid (jj<M):=Lib.hid (by omega)
 obtain⟨⟨u0,y0⟩,yf⟩:=H0.out.c.cellS HM.out.symm jj (by have:=HM.out;have:=HJ.out;omega)
 have hq4:qq=0∨qq=1∨qq=2∨qq=3:=by omega
 refine TS.wkB 19 hS ?_
 obtain⟨s,hsd⟩:∃s,spN qq=s:=⟨_,rfl⟩
 have HSD:Hid (s.size≤10):=Lib.hid (by rw [←hsd];rcases hq4 with rfl|rfl|rfl|rfl<;>decide)
 refine TS.narrow (S':=fun wS=>W0.Grows wS∧wS.cell? ⟨W0.heap.size,qq,none⟩=some (.string s)) (fun _ h=>h.1) ⟨hS, ?_⟩ (fun hS=>?_)
 focus(rw [←hsd];rcases hq4 with rfl|rfl|rfl|rfl<;>simp [go_sem,spN])
 clear hq4 hsd
 refine TS.takeV (i:=20) (v:=?_) rfl (by kernel_rfl) (by kernel_rfl) (by kernel_rfl) (by decide) (fun _ _ _ h=>hpan _ _ _ _ _ h) rfl hS ?_ ?_
 rotate_left
 focus
  intro wS hSw
  (try dsimp only at hSw)
  go_simp
  rfl
 (try simp only [nS])
 refine TS.takeV (i:=21) (v:=?_) rfl (by kernel_rfl) (by kernel_rfl) (by kernel_rfl) (by decide) (fun _ _ _ h=>hpan _ _ _ _ _ h) rfl hS ?_ ?_
 rotate_left
 focus
  intro wS hSw
  (try dsimp only at hSw)
  go_simp
  rfl
 (try simp only [nS])
 refine TS.weB 22 ?_
 clear y0 yf
 go_wp2_with fail
 (apply hQ;exact Lib.hid ((HMK.out jj _ HSD.out W0 (World.Grows.refl _)).grows growsR))):p:=h
theorem sz6{p:Prop}(h:p:=by
 refine TS.one (i:=10) (by kernel_rfl) rfl (fun K1 hK1=>?_)
 have HK1:=Lib.hid hK1
 clear hK1 hS
 dsimp only [List.getElem_toArray,List.getElem_cons_succ,List.getElem_cons_zero]
 go_simp
 refine TS.go HK1.out growsR (fun hS=>?_)
 clear HK1 K1
 (try simp only [nS])
 refine TS.weB 11 ?_
 go_wp2_with ((at_builtin;refine wpList_append_lies _ rfl _ _ 143 rfl base 41 i1 _ 4 32 Tryz.underlying143 hi1 hz11 hz21 hz31 rfl (by decide) vK stk.length (vlV stk) rfl (own_grow9 H0.out.stk growsR) ⟨_,0,none⟩ 1 1 [.int .i64 (z.dim),.bool (z.yes),.int .i64 (z.n),.int .i64 (z.d)] rfl rfl (news_cells _ [.int .i64 (z.dim),.bool (z.yes),.int .i64 (z.n),.int .i64 (z.d)] _ _ (by simp)) (by intro u hu;simp at hu;rcases hu with rfl|rfl|rfl|rfl<;>rfl) (by decide) (by unfold maxLen;have:=HS.out;omega) (by have:=HS.out;omega) (by have:=H0.out.bW;simp;omega) _ rfl ?_;intro g4 c4 w4 hown hgrow hgg hgl;have h4:=H0.out.push ⟨z.dim,z.yes,z.n,z.d⟩ (n:=stk.length+1) rfl growsR hgrow hgg (by simp<;>omega) hown;have H4:=Lib.hid h4;clear hown hgrow hgg hgl h4))
 (apply hQ;exact HT;exact H4;exact Lib.hid (by first|rfl|(push_cast;omega)|omega))):p:=h
theorem sz7{p:Prop}(h:p:=by
 clear hs hno HDEC h1
 go_wp2_with ((go_at_call 258;(with_reducible refine(HD.out _).mono ?_);rintro e w' ⟨rfl,bsd,drd,rfl⟩))
 all_goals
  go_returns
  exact FdPost.no HO.out (.of_below belB)):p:=h
theorem sz8{p:Prop}(h:p:=by
 go_wp2_with ((go_at_call 258;(with_reducible refine(HD.out _).mono ?_);rintro e w' ⟨rfl,bsd,drd,rfl⟩))
 go_returns
 exact FdPost.no HO.out (.of_below belB)):p:=h
theorem sz9{p:Prop}(h:p:=by
 clear h
 obtain⟨a,n,c,rfl⟩:=hy
 unfold vwV
 go_enter Tryz.func99,Tryz.ntmps99
 go_wp2_with fail
 go_returns
 exact⟨ret_bool HF.out.symm,.of_below belB⟩):p:=h
theorem sz10{p:Prop}(h:p:=by
 by_cases cd:d=1
 focus
  subst cd
  go_enter Tryz.func212,Tryz.ntmps212
 rotate_left
 focus
  go_enter Tryz.func212,Tryz.ntmps212
 rotate_left
 all_goals
  go_wp2_with ((first|(go_at_call 110;(with_reducible refine(Valid1_any _ _ _ (by omega) (by omega) (by omega) (by omega)).mono ?_);rintro e w' ⟨rfl,bs,dr,rfl⟩;simp only [hv])|(go_at_call 133;(with_reducible refine(size1_any _ _ (by omega) (by omega)).mono ?_);rintro e w' ⟨rfl,rfl⟩)|(go_at_call 259;(with_reducible refine(digits1_one _ _ (by omega) (by omega)).mono ?_);rintro e w' ⟨rfl,rfl⟩)))
  go_returns
  exact⟨ret_str (by simp [fracS, *]<;>(intro _;omega)),.of_below belB⟩):p:=h
theorem sz11{p:Prop}(h:p:=by
 go_wp2_with fail
 go_returns
 exact⟨rfl,rfl⟩):p:=h
theorem sz12{p:Prop}(h:p:=by
 clear HR
 have HR:=Lib.hid hR
 have HX:=Lib.hid hX
 clear hR hX
 go_enter Tryz.func216,Tryz.ntmps216
 by_cases e1:x=1
 focus
  subst e1
 rotate_left
 focus
  have f1:(x==1)=false:=by simpa using e1
  have g1:(1==x)=false:=by simpa using fun h=>e1 h.symm
 rotate_left
 all_goals
  exact sz0):p:=h
theorem sz13{p:Prop}(h:p:=by
 have hn:an.natAbs*bd.natAbs=bn.natAbs*ad.natAbs:=by rw [←Int.natAbs_mul,h,Int.natAbs_mul]
 have d1:ad.natAbs ∣ bd.natAbs:=Nat.Coprime.dvd_of_dvd_mul_left (k:=ad.natAbs) (m:=an.natAbs) (Nat.Coprime.symm p) ⟨bn.natAbs,by rw [hn,Nat.mul_comm]⟩
 have d2:bd.natAbs ∣ ad.natAbs:=Nat.Coprime.dvd_of_dvd_mul_left (k:=bd.natAbs) (m:=bn.natAbs) (Nat.Coprime.symm q) ⟨an.natAbs,by rw [←hn,Nat.mul_comm]⟩
 have e:=Nat.dvd_antisymm d1 d2
 have e':ad=bd:=by omega
 subst e'
 exact⟨Int.eq_of_mul_eq_mul_right (by omega) h,rfl⟩):p:=h
theorem sz14{p:Prop}(h:p:=by
 rw [hs]at HD
 simp only [decFV]at HD
 have HO:=Lib.hid (And.intro hy ht)
 clear hs hy ht HDEC
 go_wp2_with ((go_at_call 258;(with_reducible refine(HD.out _).mono ?_);rintro e w' ⟨rfl,bsd,drd,rfl⟩))
 go_returns
 exact FdPost.yes HO.out.1 HO.out.2 (.of_below belB)):p:=h
theorem sz15{p:Prop}(h:p:=by
 go_returns
 exact⟨rfl,.of_below belB⟩):p:=h
theorem sz16{p:Prop}(h:p:=by
 go_wp2
 go_returns
 exact⟨ret_bool (by first|rfl|(simp;done)|(simp;omega)),.of_below belB⟩):p:=h
theorem sz17{p:Prop}(h:p:=by
 intro e' u hu
 refine(hu.mono' (S':=fun b=>(base≤b∧v.ownBlock≠some b)∧g≠b) ?_|>.keep hg.size ?_).mono ?_
 ·rintro b ⟨h1,h2⟩ hlt
  refine⟨⟨h1,h2⟩, ?_⟩
  rcases hat with hat|hat
  ·intro e;exact h2 (by rw [hat,e])
  ·omega
 ·rintro b o ⟨⟨_,h2⟩,_⟩ hlt
  exact World.cell?_of_block (hg.block b hlt (Ne.symm h2))
 ·rintro b ⟨⟨h1,_⟩,h3⟩
  exact⟨h1,by simpa [Value.ownBlock]using h3⟩):p:=h
theorem sz18{p:Prop}(h:p:=by
 go_enter Tryz.func79,Tryz.ntmps79
 go_wp2
 go_returns
 exact⟨ret_int (by simp [argsN];omega),rfl⟩):p:=h
theorem sz19{p:Prop}(h:p:=by
 go_enter Tryz.func211,Tryz.ntmps211
 go_wp2_with fail
 go_returns
 exact FdPost.no (decOk_out (by omega)) (.of_below belB)):p:=h
theorem sz20{p:Prop}(h:p:=by
 refine⟨?_, ?_, ?_, ?_⟩
 ·rw [hh _ (by omega) (by omega)];exact HM.out.nm
 ·rw [Below.heap_setCell _ _ _ _ (by show w.heap.size+1≠w.heap.size+2;omega)];exact Joins.block_setCell HM.out.res _
 ·exact Joins.block_setCell ((Below.heap_setCell _ _ _ _ (by show w.heap.size+2≠w.heap.size+1;omega)).trans HM.out.ok) _
 ·simp;omega):p:=h
theorem sz21{p:Prop}(h:p:=by
 go_enter Tryz.func189,Tryz.ntmps189
 go_wp2_with ((first|(go_at_call 243;(with_reducible refine(lower2_any _ _).mono ?_);rintro e w' ⟨rfl,rfl⟩;simp only [hL])|(go_at_call 244;(with_reducible refine(inWord2_any _ _).mono ?_);rintro e w' ⟨rfl,rfl⟩;simp only [hI])))
 go_ret
 exact⟨ret_bool hw.symm,rfl⟩):p:=h
theorem sz22{p:Prop}(h:p:=by
 (apply hQ;exact HT;exact H4;exact Lib.hid (by first|rfl|(push_cast;omega)|omega))):p:=h
theorem sz23{p:Prop}(h:p:=by
 rw [List.take_succ_eq_append_getElem hk,List.getD_eq_getElem?_getD,List.getElem?_eq_getElem hk];rfl):p:=h
theorem sz24{p:Prop}(h:p:=by
 rw [hs]at HD
 simp only [decFV]at HD
 have HO:=Lib.hid hno
 have q1:(a==n)=false:=by simpa using h1
 clear hs hno HDEC h1
 exact sz8):p:=h
theorem sz25{p:Prop}(h:p:=by
 go_enter Tryz.func103,Tryz.ntmps103
 exact sz11):p:=h
theorem sz26{p:Prop}(h:p:=by
 go_enter Tryz.func82,Tryz.ntmps82
 go_wp2_with fail
 exact sz15):p:=h
theorem sz27{p:Prop}(h:p:=by
 clear HR
 have HR:=Lib.hid hR
 have HX:=Lib.hid hX
 clear hR hX
 go_enter Tryz.func216,Tryz.ntmps216
 exact sz0):p:=h
theorem sz28{p:Prop}(h:p:=by
 rw [hs]at HD
 simp only [decFV]at HD
 have HO:=Lib.hid hno
 have q1:(b==d)=false:=by simpa using h1
 exact sz7):p:=h
theorem sz29{p:Prop}(h:p:=by
 exact⟨Int.emod_eq_zero_of_dvd (Int.natAbs_dvd_natAbs.1 (Nat.dvd_trans h (Nat.gcd_dvd_left _ _))),Int.emod_eq_zero_of_dvd (Int.natAbs_dvd_natAbs.1 (Nat.dvd_trans h (Nat.gcd_dvd_right _ _)))⟩):p:=h
theorem sz30{p:Prop}(h:p:=by
 simp only [World.src,World.setCell]
 congr 1
 apply Array.ext_getElem?
 intro k
 simp only [Array.getElem?_modify,Array.getElem?_setIfInBounds]
 by_cases hk:s=k
 ·subst hk;simp [h]
 ·simp [hk]):p:=h
theorem sz31{p:Prop}(h:p:=by
 have:=h.dm k (.int .i64 (dims.getD k 0)) (by rw [List.getElem?_map,List.getD_eq_getElem?_getD,List.getElem?_eq_getElem (by omega:k<dims.length)];rfl)
 rw [Nat.zero_add]at this;exact this):p:=h
theorem sz32{p:Prop}(h:p:=by
 rw [World.cell?_of_block (hg0.below.block _ (by simp)),World.cell?_alloc_at _ _ _ _ rfl];rfl):p:=h
theorem sz33{p:Prop}(h:p:=by
 go_wp2
 go_returns
 exact⟨ret_bool (by simp [lowc];omega),rfl⟩):p:=h
theorem sz34{p:Prop}(h:p:=by
 go_wp2
 go_returns
 exact⟨ret_bool (by simp [digc];omega),rfl⟩):p:=h
theorem sz35{p:Prop}(h:p:=by
 rw [hn]at HD
 simp only [decFV]at HD
 have HO:=Lib.hid hno
 clear hn hno HDEC
 exact sz8):p:=h
theorem sz36{p:Prop}(h:p:=by
 unfold LRow at hr
 refine⟨?_,hr.frozenAt _⟩
 have:=hr.cellAt (i*4+1) (by omega)
 rw [this,List.getElem?_eq_getElem (by rw [insV_len];omega)]
 exact⟨_,rfl⟩):p:=h
theorem sz37{p:Prop}(h:p:=by
 go_enter Tryz.func175,Tryz.ntmps175
 exact sz11):p:=h
theorem sz38{p:Prop}(h:p:=by
 split at hr<;>rename_i c1
 ·rw [if_pos c1];omega
 ·rw [if_neg c1]
  split at hr<;>rename_i c2
  ·rw [if_pos c2];omega
  ·exact absurd rfl hr):p:=h
theorem sz39{p:Prop}(h:p:=by
 go_enter Tryz.func45,Tryz.ntmps45
 go_wp2_with fail
 go_returns
 exact⟨ret_bool (by rw [HF.out];have:=HN.out;simp [this]),.of_below belB⟩):p:=h
theorem sz40{p:Prop}(h:p:=by
 go_wp2
 all_goals first
  |(exfalso;simp_all;done)
  |(go_returns
    exact⟨ret_dimok (by simp_all [inpD]) (by simp_all [inpD]),rfl⟩)):p:=h
theorem sz41{p:Prop}(h:p:=by
 obtain⟨h0,h1|⟨g,cap,cur,hv,hbg,hr⟩⟩:=h
 ·exact⟨h0,.inl h1⟩
 ·exact⟨h0,.inr ⟨g,cap,cur,hv,Nat.le_trans hb hbg,hr⟩⟩):p:=h
theorem sz42{p:Prop}(h:p:=by
 go_returns
 exact⟨ret_bool (by unfold validB;rw [decide_eq_true (by omega),decide_eq_true (by omega)];rfl),.of_below belB⟩):p:=h
theorem sz43{p:Prop}(h:p:=by
 unfold rndA;simp only [hsi,hap,if_neg h24,if_neg (show ¬x.op=21 by omega),hp,if_pos (show x.op=21∨x.op=22 by omega),hp2]):p:=h
theorem sz44{p:Prop}(h:p:=by
 go_returns
 exact⟨ret_bool (by rw [HF.out];rfl),.of_below belB⟩):p:=h
theorem sz45{p:Prop}(h:p:=by
 go_returns
 exact⟨ret_bool (by unfold validB;rw [decide_eq_false (show ¬e.depth≤10 by omega)];simp),.of_below belB⟩):p:=h
theorem sz46{p:Prop}(h:p:=by
 split
 ·exact .inl ⟨rfl,Val.num_ok (by omega) h1.2.2.2,rfl⟩
 ·exact .inl ⟨rfl,Val.num_ok (by omega) h2.2.2.2,rfl⟩):p:=h
theorem sz47{p:Prop}(h:p:=by
 go_returns
 exact⟨ret_bool (by unfold validB;rw [decide_eq_false (show ¬e.size≤60 by omega)];simp),.of_below belB⟩):p:=h
theorem sz48{p:Prop}(h:p:=by
 rw [List.getD_eq_getElem?_getD]
 cases hk:d[k]? with
 |none=>simp
 |some z=>have:=hd z (List.mem_of_getElem? hk);simp;omega):p:=h
theorem sz49{p:Prop}(h:p:=by
 go_enter Tryz.func104,Tryz.ntmps104
 exact sz11):p:=h
theorem sz50{p:Prop}(h:p:=by
 go_wp2
 all_goals first
  |(exfalso;simp_all;done)
  |(go_returns
    exact⟨ret_bool (by simp_all [keyB,keyL]),rfl⟩)):p:=h
theorem sz51{p:Prop}(h:p:=by
 rw [nm2,inferF,infNode,if_neg (by decide),if_neg (by decide),if_pos rfl,inferN,if_neg (by rw [h];simp)]
 simp [lastN]):p:=h
theorem sz52{p:Prop}(h:p:=by
 go_wp2_with fail
 go_returns
 exact⟨ret_bool (HBD.out (by omega)).symm,World.Grows.trans HG2.out (.of_below belB)⟩):p:=h
theorem sz53{p:Prop}(h:p:=by
 intro k
 simp only [Option.some.injEq]at k
 rw [k]at hc
 rcases hc with hc|hc
 ·revert hc;decide
 ·revert hc;decide):p:=h
theorem sz54{p:Prop}(h:p:=by
 rcases h.own.2 with ⟨rfl,h0⟩|⟨g,cap,cur,rfl,_⟩
 ·exact⟨none,0,by rw [h0]⟩
 ·exact⟨_,cap,rfl⟩):p:=h
theorem sz55{p:Prop}(h:p:=by
 simp only [intOf]
 rw [show({data:=#[48,49,50,51,52,53,54,55,56,57]}:ByteArray)=tenS from rfl,hpc.out];omega):p:=h
theorem sz56{p:Prop}(h:p:=by
 rw [List.map_append,h,List.range_succ,List.map_append];rfl):p:=h
theorem sz57{p:Prop}(h:p:=by
 cases l with
 |nil=>exact absurd rfl h
 |cons a r=>rw [List.getLastD_cons];exact List.getLastD_mem_cons ..):p:=h
theorem sz58{p:Prop}(h:p:=by
 clear y0 yf
 go_wp2_with fail
 (apply hQ;exact Lib.hid ((hmk W0 (World.Grows.refl _)).grows grows_drew0))):p:=h
end Go
