import Derived.Test.YtlheailebbngiaaGreatDoorLBase
import Derived.WalkKit
import Derived.WalkSpells
import Derived.WalkLawsBesides
import Derived.Handy
import Derived.BigQuiet
import Derived.Deep.RegionHeld3
import Derived.Deep.AppendLies
import Derived.StillTail
import Derived.OrdersHeld
import Derived.RegionTactic
import Derived.Lib.Hide
import Derived.Sort.OwnSortedInts
import Derived.RangeFuncNested
import Derived.RangeFuncBound
import Derived.RangeFuncCalls
import Derived.RangeFuncLeaves
import Derived.RangeFuncBox
import Derived.Shelf.Abstract
import Derived.Shelf.RegionOpen
import Derived.OwnWalkIn
import Derived.TacticsInMore
import Derived.LoopNIn
import Derived.LoopIn
import Derived.Maps.AppendAt
import Derived.Deep.CutBlock
import Derived.Deep.CutRange
import Derived.Deep.DeepCutAuto
import Derived.Laws.Strings
import Derived.Deep.Matrix
import Derived.Deep.Fields
import Derived.OpenShut
import Derived.BigRegion
import Derived.Deep.QuietTactic
import Derived.Laws.AppendOwnNone
import Derived.Laws.BytesArg
import Derived.Laws.OwnMore
import Derived.Deep.MidRow
import Derived.Laws.IdiomCopy
import Derived.Deep.OwnRows
set_option linter.all false
set_option maxHeartbeats 16000000
set_option maxRecDepth 1000000
namespace Go
theorem lz0{p:Prop}(h:p:=by
 go_wp2_with fail
 all_goals try(first|(go_quiet (fail);go_wp2_with fail)|(go_region;go_wp2_with fail))
 all_goals
  go_returns
  have hR:=HR.out
  have hX:=HX.out
  have h0:∀t:Int,1≤t→(t=0)=False:=fun t h=>eq_false (by omega)
  simp [resD]at hR
  refine res2P ?_ ?_ (.of_below belB)
  all_goals
   rw [←hR]
   try((repeat' split)<;>first|(simp_all;done)|(simp [*];done)|(simp_all;omega)|skip)):p:=h
theorem lz1{p:Prop}(h:p:=by
 go_wp2_with fail
 all_goals try(first|(go_quiet (fail);go_wp2_with fail)|(go_region;go_wp2_with fail))
 all_goals
  go_returns
  have hR:=HR.out
  have hX:=HX.out
  have h0:∀t:Int,1≤t→(t=0)=False:=fun t h=>eq_false (by omega)
  simp [resD]at hR
  refine res5P ?_ (.of_below belB)
  rw [←hR]
  try((repeat' split)<;>first|(simp_all;done)|(simp [*];done)|(simp_all;omega)|skip)):p:=h
theorem lz2{p:Prop}(h:p:=by
 intro v1 w1 hown1 hgrow1
 simp only [Nat.zero_add,List.nil_append]at hown1
 have hb1:=Below.grown (Below.refl WR.heap.size WR).drew hgrow1 (by simp) (fun k hk=>by cases hk)
 have hs1:=hb1.size
 have HB1:=Lib.hid (hb1.alloc hs1 (.cells #[.int .i64 x] 3))
 have HO1:=Lib.hid (hown1.alloc (.cells #[.int .i64 x] 3))
 have hx1:=(hb1.cell (p:=⟨b,off+k,none⟩) hbw).trans x0
 refine TG.go hK1 ?_ (fun hS=>?_)
 focus exact hx1
 clear hK1 K1
 (try simp only [nS])
 refine TG.one (i:=8) (by kernel_rfl) rfl (fun K1 hK1=>?_)
 go_simp
 refine TG.go hK1 ?_ (fun hS=>?_)
 focus exact(HB1.out.cell (p:=⟨b,off+k,none⟩) hbw).trans x0
 clear hK1 K1
 (try simp only [nS])
 have HC5:Hid ((w1.alloc (.cells #[.int .i64 x] 3)).cell? ⟨w1.heap.size,0,none⟩=some (.int .i64 x)):=Lib.hid (by rw [World.cell?_alloc_at _ _ _ _ rfl];rfl)
 generalize w1.alloc (.cells #[.int .i64 x] 3)=w9 at *
 generalize w1.heap.size=g5 at *
 clear hown1 hgrow1 hb1 hx1
 refine TG.one (i:=9) (by kernel_rfl) rfl (fun K1 hK1=>?_)
 refine step_append_ownY rfl _ _ 24 rfl WR.heap.size 3 i0 (.int .i64 0) 1 8 Tryz.underlying24 hi hz0 hz1 hz2 rfl (by decide) v1 a0 _ rfl HO1.out ⟨g5,0,none⟩ 1 1 ([x].map (Value.int .i64)) rfl rfl ?_ (own_oneY _) (by unfold maxLen;omega) (by omega) HB1.out.size ?_
 focus
  intro j u hu
  rw [addr_add]
  rcases j with _|j
  ·simp at hu;subst hu;exact HC5.out
  ·simp at hu):p:=h
theorem lz3{p:Prop}(h:p:=by
 clear HR
 have HR:=Lib.hid hR
 have HX:=Lib.hid hX
 clear hR hX
 go_enter Tryz.func139,Tryz.ntmps139
 by_cases e1:x=y
 focus
  subst e1
 rotate_left
 focus
  have f1:(x==y)=false:=by simpa using e1
  have g1:(y==x)=false:=by simpa using fun h=>e1 h.symm
 rotate_left
 all_goals
  exact lz0):p:=h
theorem lz4{p:Prop}(h:p:=by
 clear HR
 have HR:=Lib.hid hR
 have HX:=Lib.hid hX
 clear hR hX
 go_enter Tryz.func148,Tryz.ntmps148
 by_cases e1:x=y
 focus
  subst e1
 rotate_left
 focus
  have f1:(x==y)=false:=by simpa using e1
  have g1:(y==x)=false:=by simpa using fun h=>e1 h.symm
 rotate_left
 all_goals
  exact lz1):p:=h
theorem lz5{p:Prop}(h:p:=by
 go_enter Tryz.func121,Tryz.ntmps121
 go_wp2_with ((first|(go_at_call 60;(with_reducible refine(Valid1_any _ _ _ (by omega) (by omega) (by omega) (by omega)).mono ?_);rintro e w' ⟨rfl,bs,dr,rfl⟩;simp only [hv])|(go_at_call 155;(with_reducible refine(FormatFraction_any _ _ _ (by omega) (by omega) (by omega) (by omega)).mono ?_);rintro e w' ⟨rfl,bs2,dr2,rfl⟩;simp only [hq.out])))
 go_returns
 exact⟨by rw [decV_no (by simp [decOk, *]<;>(intros;omega))];rfl,.of_below belB⟩):p:=h
theorem lz6{p:Prop}(h:p:=by
 intro v1 w1 hown1 hgrow1
 simp only [Nat.zero_add,List.nil_append]at hown1
 have hb1:=Below.grown ((Below.refl WR.heap.size WR).alloc (Nat.le_refl _) (.cells #[.int .i64 x] 3)).drew hgrow1 (by simp) (fun k hk=>by cases hk)
 have HB1:=Lib.hid hb1
 have HO1:=Lib.hid hown1
 have HC5:Hid (w1.cell? ⟨WR.heap.size,0,none⟩=some (.int .i64 x)):=Lib.hid ((hgrow1.cell_far ⟨WR.heap.size,0,none⟩ (by simp) (by simp [Value.ownBlock])).trans (by show(WR.alloc _).cell? _=_;rw [World.cell?_alloc_at _ _ _ _ rfl];rfl))
 refine TG.go hK1 ?_ (fun hS=>?_)
 focus exact(HB1.out.cell (p:=⟨b,off+k,none⟩) hbw).trans x0
 clear hK1 K1
 (try simp only [nS])
 clear hown1 hgrow1 hb1
 refine TG.one (i:=9) (by kernel_rfl) rfl (fun K1 hK1=>?_)
 refine step_append_ownY rfl _ _ 24 rfl WR.heap.size 3 i0 (.int .i64 0) 1 8 Tryz.underlying24 hi hz0 hz1 hz2 rfl (by decide) v1 a0 _ rfl HO1.out ⟨WR.heap.size,0,none⟩ 1 1 ([x].map (Value.int .i64)) rfl rfl ?_ (own_oneY _) (by unfold maxLen;omega) (by omega) HB1.out.size ?_
 focus
  intro j u hu
  rw [addr_add]
  rcases j with _|j
  ·simp at hu;subst hu;exact HC5.out
  ·simp at hu):p:=h
theorem lz7{p:Prop}(h:p:=by
 intro v3 w3 hown3 hgrow3
 have HB3:=Lib.hid (HB2.out.grown hgrow3 HB2.out.size (fun k hk=>(HO2.out.lt k hk).1))
 have HO3:=Lib.hid hown3
 clear hown3 hgrow3
 refine TG.go hK1 ?_ (fun hS=>?_)
 focus exact(HB3.out.cell (p:=⟨b,off+k,none⟩) hbw).trans x0
 clear hK1 K1
 (try simp only [nS])
 refine TG.one (i:=14) (by kernel_rfl) rfl (fun K1 hK1=>?_)
 go_simp
 refine hK1 _ _ (fun h=>absurd rfl h) (TG.done (by kernel_rfl) ?_)
 clear hK1 K1 hS
 (try simp only [nS])
 go_wp2_with fail
 go_roundw
 case rel=>
  have ho:=HO3.out
  have hl2:a0+1+(k-a0)=k+1:=by have:=HEQ.out;omega
  rw [hl2]at ho
  refine⟨k+1,v3,rfl,HKL.out,by go_num,fun h=>by omega,HB.out.trans (HB3.out.mono hsW), ?_⟩
  rw [HI2.out]
  have ho2:=ownsRow_base ho hsW
  simpa using ho2
 case measure=>simp [intOf];have:=HKL.out;omega):p:=h
theorem lz8{p:Prop}(h:p:=by
 rcases g3 with ⟨rfl,rfl,g5⟩|⟨rfl,rfl,g5⟩|⟨rfl,rfl,g5⟩|⟨rfl,rfl,g5⟩|⟨rfl,rfl,g5⟩
 ·have g7:=Lib.hid (ten_app s (r / 1000) (by omega) (by omega))
  have g8:=Lib.hid (decG_go 3 r 1000 s g0)
  go_wp2_with fail
  go_quiet (fail)
  go_wp2_with fail
  go_roundw
  case rel=>exact⟨3,_,_,_,rfl,rfl,rfl,by omega,by rw [g7.out];omega,by simp;omega,Lib.hid (by rw [←g4.out,g8.out];rfl),.of_below belB⟩
  case measure=>simp [intOf]
 ·have g7:=Lib.hid (ten_app s (r / 100) (by omega) (by omega))
  have g8:=Lib.hid (decG_go 2 r 100 s g0)
  go_wp2_with fail
  go_quiet (fail)
  go_wp2_with fail
  go_roundw
  case rel=>exact⟨2,_,_,_,rfl,rfl,rfl,by omega,by rw [g7.out];omega,by simp;omega,Lib.hid (by rw [←g4.out,g8.out];rfl),.of_below belB⟩
  case measure=>simp [intOf]
 ·have g7:=Lib.hid (ten_app s (r / 10) (by omega) (by omega))
  have g8:=Lib.hid (decG_go 1 r 10 s g0)
  go_wp2_with fail
  go_quiet (fail)
  go_wp2_with fail
  go_roundw
  case rel=>exact⟨1,_,_,_,rfl,rfl,rfl,by omega,by rw [g7.out];omega,by simp;omega,Lib.hid (by rw [←g4.out,g8.out];rfl),.of_below belB⟩
  case measure=>simp [intOf]
 ·have g7:=Lib.hid (ten_app s r (by omega) (by omega))
  have g8:Hid (decG 1 r 1 s=decG 0 0 0 (s++tenS.extract r.toNat (r+1).toNat)):=Lib.hid (by simp [decG,g0])
  go_wp2_with fail
  go_quiet (fail)
  go_wp2_with fail
  go_roundw
  case rel=>exact⟨0,_,_,_,rfl,rfl,rfl,by omega,by rw [g7.out];omega,by simp,Lib.hid (by rw [←g4.out,g8.out];rfl),.of_below belB⟩
  case measure=>simp [intOf]
 ·omega):p:=h
theorem lz9{p:Prop}(h:p:=by
 go_enter Tryz.func212,Tryz.ntmps212
 apply wp_seq_k
 intro K1 hK1
 have HK1:=Lib.hid hK1
 clear hK1
 go_wp2_with fail
 refine HK1.out _ _ ?_
 clear HK1 K1
 apply wp_seq_k
 intro K2 hK2
 have HK2:=Lib.hid hK2
 clear hK2
 go_wp2_with fail
 refine HK2.out _ _ ?_
 clear HK2 K2
 apply wp_seq_k
 intro K3 hK3
 have HK3:=Lib.hid hK3
 clear hK3
 go_wp2_with fail
 refine HK3.out _ _ ?_
 rw [HF.out]
 exact dec_T1k _ _ _ _ _ w cutB_nil (Lib.hid (fun w=>Cut_dot _ w HE.out)) _ _ _ _ _ _ _ _ _ _ _ _ _ _ _ _ _ _ _ _ _ _ _ _ _ _ _ _ _ _ _ _ _ _ _ _ _ _ _ _ _ _ _ _ _ _ _ _ _ _ _ _ _ _ _ _ _ _ _ _ _ _ _ _ _ _ _ _ _ _ _ _ _ _ _ _ _ _ _ _ _ _ _ _ _ _ _ _ _ _ _ _ _ _ _ _ _ _ _ _ _ _ _ _ _ _ _ _ _ _ _ _ _ _ _ _ _ _ _ _ _ _ _ _ _ _ _ _ _ _ _ _ _ _ _ _ _ _ _):p:=h
theorem lz10{p:Prop}(h:p:=by
 go_returns
 exact⟨rfl,.of_below belB⟩):p:=h
theorem lz11{p:Prop}(h:p:=by
 go_simp
 refine TG.go hK1 ?_ (fun hS=>?_)
 focus exact(by rw [show((WR.alloc (.cells #[.int .i64 x] 3)).drew).cell? ⟨b,off+k,none⟩=WR.cell? ⟨b,off+k,none⟩from World.cell?_alloc_lt WR _ ⟨b,off+k,none⟩ hbw];exact x0)
 clear hK1 K1
 (try simp only [nS])
 refine TG.one (i:=3) (by kernel_rfl) rfl (fun K1 hK1=>?_)
 refine step_append_ownY rfl _ _ 24 rfl WR.heap.size 3 i0 (.int .i64 0) 1 8 Tryz.underlying24 hi hz0 hz1 hz2 rfl (by decide) (.slice none 0 0) 0 [] rfl (World.ownsRow_nil _ _ _ _) ⟨g,0,none⟩ a0 gc ((zs.take a0).map (Value.int .i64)) rfl (by simp;omega) (sub_cells0 (zs:=zs) (w:=(WR.alloc (.cells #[.int .i64 x] 3)).drew) (fun i hi=>by rw [show((WR.alloc (.cells #[.int .i64 x] 3)).drew).cell? ⟨g,i,none⟩=WR.cell? ⟨g,i,none⟩from World.cell?_alloc_lt WR _ ⟨g,i,none⟩ hg2];exact HC.out i hi) 0 _ (fun j x hx=>by rw [Nat.zero_add];exact take_someY hx)) (own_oneY _) (by unfold maxLen;omega) (by omega) (by simp) ?_
 exact lz6):p:=h
theorem lz12{p:Prop}(h:p:=by
 clear hs hno HDEC h1
 go_wp2_with ((go_at_call 212;(with_reducible refine(HD.out _).mono ?_);rintro e w' ⟨rfl,bsd,drd,rfl⟩))
 all_goals
  go_returns
  exact FdPost.no HO.out (.of_below belB)):p:=h
theorem lz13{p:Prop}(h:p:=by
 go_wp2_with fail
 go_returns
 exact⟨ret_bool HF.out.symm,.of_below belB⟩):p:=h
theorem lz14{p:Prop}(h:p:=by
 go_wp2_with ((go_at_call 212;(with_reducible refine(HD.out _).mono ?_);rintro e w' ⟨rfl,bsd,drd,rfl⟩))
 go_returns
 exact FdPost.no HO.out (.of_below belB)):p:=h
theorem lz15{p:Prop}(h:p:=by
 clear hdk
 have HBD:Hid (¬(0≤dk∧dk≤73049)→v.ok=false):=Lib.hid (fun h=>HB.out k HKL.out (by rw [HDK.out];unfold daysOk;exact decide_eq_false h))
 by_cases q1:dk<0
 ·go_wp2_with fail
  go_returns
  exact⟨ret_bool (HBD.out (by omega)).symm,World.Grows.trans HG2.out (.of_below belB)⟩
 ·by_cases q2:dk > 73049
  ·go_wp2_with fail
   go_returns
   exact⟨ret_bool (HBD.out (by omega)).symm,World.Grows.trans HG2.out (.of_below belB)⟩
  ·go_wp2_with fail
   go_roundw
   case rel=>exact⟨k+1,HKL.out,by go_num,Lib.hid (fun j hj=>by
    by_cases ej:j=k
    ·subst ej;rw [HDK.out];unfold daysOk;exact decide_eq_true (by omega)
    ·exact hno.out j (by omega)),(by first|rfl|trivial)⟩
   case measure=>simp [intOf];have:=HKL.out;omega):p:=h
theorem lz16{p:Prop}(h:p:=by
 by_cases cd:d=1
 focus
  subst cd
  go_enter Tryz.func155,Tryz.ntmps155
 rotate_left
 focus
  go_enter Tryz.func155,Tryz.ntmps155
 rotate_left
 all_goals
  go_wp2_with ((first|(go_at_call 60;(with_reducible refine(Valid1_any _ _ _ (by omega) (by omega) (by omega) (by omega)).mono ?_);rintro e w' ⟨rfl,bs,dr,rfl⟩;simp only [hv])|(go_at_call 91;(with_reducible refine(size1_any _ _ (by omega) (by omega)).mono ?_);rintro e w' ⟨rfl,rfl⟩)|(go_at_call 193;(with_reducible refine(digits1_one _ _ (by omega) (by omega)).mono ?_);rintro e w' ⟨rfl,rfl⟩)))
  go_returns
  exact⟨ret_str (by simp [fracS, *]<;>(intro _;omega)),.of_below belB⟩):p:=h
theorem lz17{p:Prop}(h:p:=by
 clear HR
 have HR:=Lib.hid hR
 have HX:=Lib.hid hX
 clear hR hX
 go_enter Tryz.func139,Tryz.ntmps139
 by_cases e1:x=1
 focus
  subst e1
 rotate_left
 focus
  have f1:(x==1)=false:=by simpa using e1
  have g1:(1==x)=false:=by simpa using fun h=>e1 h.symm
 rotate_left
 all_goals
  exact lz0):p:=h
theorem lz18{p:Prop}(h:p:=by
 clear HR
 have HR:=Lib.hid hR
 have HX:=Lib.hid hX
 clear hR hX
 go_enter Tryz.func148,Tryz.ntmps148
 by_cases e1:x=1
 focus
  subst e1
 rotate_left
 focus
  have f1:(x==1)=false:=by simpa using e1
  have g1:(1==x)=false:=by simpa using fun h=>e1 h.symm
 rotate_left
 all_goals
  exact lz1):p:=h
theorem lz19{p:Prop}(h:p:=by
 have hn:an.natAbs*bd.natAbs=bn.natAbs*ad.natAbs:=by rw [←Int.natAbs_mul,h,Int.natAbs_mul]
 have d1:ad.natAbs ∣ bd.natAbs:=Nat.Coprime.dvd_of_dvd_mul_left (k:=ad.natAbs) (m:=an.natAbs) (Nat.Coprime.symm p) ⟨bn.natAbs,by rw [hn,Nat.mul_comm]⟩
 have d2:bd.natAbs ∣ ad.natAbs:=Nat.Coprime.dvd_of_dvd_mul_left (k:=bd.natAbs) (m:=bn.natAbs) (Nat.Coprime.symm q) ⟨an.natAbs,by rw [←hn,Nat.mul_comm]⟩
 have e:=Nat.dvd_antisymm d1 d2
 have e':ad=bd:=by omega
 subst e'
 exact⟨Int.eq_of_mul_eq_mul_right (by omega) h,rfl⟩):p:=h
theorem lz20{p:Prop}(h:p:=by
 rw [hs]at HD
 simp only [decFV]at HD
 have HO:=Lib.hid (And.intro hy ht)
 clear hs hy ht HDEC
 go_wp2_with ((go_at_call 212;(with_reducible refine(HD.out _).mono ?_);rintro e w' ⟨rfl,bsd,drd,rfl⟩))
 go_returns
 exact FdPost.yes HO.out.1 HO.out.2 (.of_below belB)):p:=h
theorem lz21{p:Prop}(h:p:=by
 refine step_append_ownY rfl _ _ 24 rfl WR.heap.size 3 i0 (.int .i64 0) 1 8 Tryz.underlying24 hi hz0 hz1 hz2 rfl (by decide) (.slice none 0 0) 0 [] rfl (World.ownsRow_nil _ _ _ _) ⟨g,0,none⟩ a0 gc ((zs.take a0).map (Value.int .i64)) rfl (by simp;omega) (sub_cells0 (zs:=zs) (w:=WR.drew) HC.out 0 _ (fun j x hx=>by rw [Nat.zero_add];exact take_someY hx)) (own_oneY _) (by unfold maxLen;omega) (by omega) (by simp) ?_
 exact lz2):p:=h
theorem lz22{p:Prop}(h:p:=by
 go_wp2
 go_returns
 exact⟨ret_bool (by first|rfl|(simp;done)|(simp;omega)),.of_below belB⟩):p:=h
theorem lz23{p:Prop}(h:p:=by
 intro e' u hu
 refine(hu.mono' (S':=fun b=>(base≤b∧v.ownBlock≠some b)∧g≠b) ?_|>.keep hg.size ?_).mono ?_
 ·rintro b ⟨h1,h2⟩ hlt
  refine⟨⟨h1,h2⟩, ?_⟩
  rcases hat with hat|hat
  ·intro e;exact h2 (by rw [hat,e])
  ·omega
 ·rintro b o ⟨⟨_,h2⟩,_⟩ hlt
  exact World.cell?_of_block (hg.block b hlt (Ne.symm h2))
 ·rintro b ⟨⟨h1,_⟩,h3⟩
  exact⟨h1,by simpa [Value.ownBlock]using h3⟩):p:=h
theorem lz24{p:Prop}(h:p:=by
 clear h
 obtain⟨a,n,c,rfl⟩:=hy
 unfold vwV
 go_enter Tryz.func21,Tryz.ntmps21
 exact lz13):p:=h
theorem lz25{p:Prop}(h:p:=by
 clear h
 obtain⟨a,n,c,rfl⟩:=hy
 unfold vwV
 go_enter Tryz.func20,Tryz.ntmps20
 exact lz13):p:=h
theorem lz26{p:Prop}(h:p:=by
 go_enter Tryz.func104,Tryz.ntmps104
 go_wp2
 go_returns
 exact⟨ret_int (by simp [argsN];omega),rfl⟩):p:=h
theorem lz27{p:Prop}(h:p:=by
 go_enter Tryz.func205,Tryz.ntmps205
 go_wp2_with fail
 go_returns
 exact FdPost.no (decOk_out (by omega)) (.of_below belB)):p:=h
theorem lz28{p:Prop}(h:p:=by
 go_wp2_with fail
 exact lz10):p:=h
theorem lz29{p:Prop}(h:p:=by
 refine⟨?_, ?_, ?_, ?_⟩
 ·rw [hh _ (by omega) (by omega)];exact HM.out.nm
 ·rw [Below.heap_setCell _ _ _ _ (by show w.heap.size+1≠w.heap.size+2;omega)];exact Joins.block_setCell HM.out.res _
 ·exact Joins.block_setCell ((Below.heap_setCell _ _ _ _ (by show w.heap.size+2≠w.heap.size+1;omega)).trans HM.out.ok) _
 ·simp;omega):p:=h
theorem lz30{p:Prop}(h:p:=by
 go_enter Tryz.func213,Tryz.ntmps213
 go_wp2_with ((first|(go_at_call 218;(with_reducible refine(lower2_any _ _).mono ?_);rintro e w' ⟨rfl,rfl⟩;simp only [hL])|(go_at_call 219;(with_reducible refine(inWord2_any _ _).mono ?_);rintro e w' ⟨rfl,rfl⟩;simp only [hI])))
 go_ret
 exact⟨ret_bool hw.symm,rfl⟩):p:=h
theorem lz31{p:Prop}(h:p:=by
 go_wp2_with fail
 go_returns
 exact⟨ret_bool (by rw [HF.out];have:=HN.out;simp [this]),.of_below belB⟩):p:=h
theorem lz32{p:Prop}(h:p:=by
 have hW:=HW.out
 rw [←hW]
 refine⟨by rw [Below.heap_alloc _ _ _ (by simp)];exact World.alloc_heap_new _ _, ?_,Nat.zero_le _⟩
 have:=World.alloc_heap_new (w.alloc (.cells #[.string s] 9)) (.cells #[.int .i64 0,.bool false,.int .i64 0,.int .i64 0] 34)
 rw [World.size_alloc]at this
 exact this):p:=h
theorem lz33{p:Prop}(h:p:=by
 go_returns
 exact⟨ret_bool (by rw [HF.out];rfl),.of_below belB⟩):p:=h
theorem lz34{p:Prop}(h:p:=by
 obtain⟨-,a,c,h,-⟩:=hy
 exact⟨a,c,h⟩):p:=h
theorem lz35{p:Prop}(h:p:=by
 obtain⟨-,a,c,h,-⟩:=hs
 exact⟨a,c,h⟩):p:=h
theorem lz36{p:Prop}(h:p:=by
 rw [hs]at HD
 simp only [decFV]at HD
 have HO:=Lib.hid hno
 have q1:(a==n)=false:=by simpa using h1
 clear hs hno HDEC h1
 exact lz14):p:=h
theorem lz37{p:Prop}(h:p:=by
 go_enter Tryz.func18,Tryz.ntmps18
 go_wp2_with (first
  |(go_at_call 49;refine(HI.out _).mono ?_;rintro e' w' ⟨rfl,rfl⟩)
  |(go_at_call 21;refine(HV.out _ (HG.out _ _)).mono ?_;rintro e' w' ⟨rfl,bs,d,rfl⟩))
 exact lz10):p:=h
theorem lz38{p:Prop}(h:p:=by
 rw [hs]at HD
 simp only [decFV]at HD
 have HO:=Lib.hid hno
 have q1:(b==d)=false:=by simpa using h1
 exact lz12):p:=h
theorem lz39{p:Prop}(h:p:=by
 clear HR
 have HR:=Lib.hid hR
 have HX:=Lib.hid hX
 clear hR hX
 go_enter Tryz.func139,Tryz.ntmps139
 exact lz0):p:=h
theorem lz40{p:Prop}(h:p:=by
 clear HR
 have HR:=Lib.hid hR
 have HX:=Lib.hid hX
 clear hR hX
 go_enter Tryz.func148,Tryz.ntmps148
 exact lz1):p:=h
theorem lz41{p:Prop}(h:p:=by
 exact⟨Int.emod_eq_zero_of_dvd (Int.natAbs_dvd_natAbs.1 (Nat.dvd_trans h (Nat.gcd_dvd_left _ _))),Int.emod_eq_zero_of_dvd (Int.natAbs_dvd_natAbs.1 (Nat.dvd_trans h (Nat.gcd_dvd_right _ _)))⟩):p:=h
theorem lz42{p:Prop}(h:p:=by
 obtain⟨h0,a,cap,hv,h1⟩:=h
 refine⟨h0,a,cap,hv,h1.imp id ?_⟩
 rintro⟨b,off,ha,hb,hc⟩
 have:=hg.below.size
 exact⟨b,off,ha,by omega,fun i hi=>(hc i hi).imp fun u hu=>hu.same hg hb⟩):p:=h
theorem lz43{p:Prop}(h:p:=by
 rw [List.take_succ_eq_append_getElem hk,List.getD_eq_getElem?_getD,List.getElem?_eq_getElem hk];rfl):p:=h
theorem lz44{p:Prop}(h:p:=by
 simp only [World.src,World.setCell]
 congr 1
 apply Array.ext_getElem?
 intro k
 simp only [Array.getElem?_modify,Array.getElem?_setIfInBounds]
 by_cases hk:s=k
 ·subst hk;simp [h]
 ·simp [hk]):p:=h
theorem lz45{p:Prop}(h:p:=by
 go_wp2_with (first|(go_at_call 60;refine(HV.out _).mono ?_;rintro e' w' ⟨rfl,bs2,d2,rfl⟩)|(go_at_call 55;refine(HV.out _).mono ?_;rintro e' w' ⟨rfl,bs2,d2,rfl⟩))
 exact lz33):p:=h
theorem lz46{p:Prop}(h:p:=by
 rw [List.drop_eq_getElem_cons hk,List.getD_eq_getElem?_getD,List.getElem?_eq_getElem hk];rfl):p:=h
theorem lz47{p:Prop}(h:p:=by
 unfold mkE lowE
 rw [if_neg (by omega),if_neg]
 have a:=Nat.div_le_self n.natAbs (Nat.gcd n.natAbs d.natAbs)
 have b:=Nat.div_le_self d.natAbs (Nat.gcd n.natAbs d.natAbs)
 omega):p:=h
theorem lz48{p:Prop}(h:p:=by
 go_wp2
 go_returns
 exact⟨ret_bool (by simp [lowc];omega),rfl⟩):p:=h
theorem lz49{p:Prop}(h:p:=by
 go_wp2
 go_returns
 exact⟨ret_bool (by simp [digc];omega),rfl⟩):p:=h
theorem lz50{p:Prop}(h:p:=by
 rw [hn]at HD
 simp only [decFV]at HD
 have HO:=Lib.hid hno
 clear hn hno HDEC
 exact lz14):p:=h
theorem lz51{p:Prop}(h:p:=by
 go_enter Tryz.func70,Tryz.ntmps70
 go_wp2_with (go_at_call 23;refine(HB.out _ growsP).mono ?_;rintro e' w' ⟨rfl,bs,d,rfl⟩)
 go_returns
 exact⟨rfl,growsP⟩):p:=h
theorem lz52{p:Prop}(h:p:=by
 obtain⟨-,⟨rfl,h0⟩|⟨g,cap,cur,rfl,hb,hg,-⟩⟩:=h
 ·exact .inl ⟨rfl,h0⟩
 ·exact .inr ⟨g,cap,rfl,hb,(Array.getElem?_eq_some_iff.1 hg).1⟩):p:=h
theorem lz53{p:Prop}(h:p:=by
 go_enter Tryz.func72,Tryz.ntmps72
 exact lz28):p:=h
theorem lz54{p:Prop}(h:p:=by
 have e2:(m==2)=false:=by rw [beq_eq_false_iff_ne];omega):p:=h
theorem lz55{p:Prop}(h:p:=by
 split at hr<;>rename_i c1
 ·rw [if_pos c1];omega
 ·rw [if_neg c1]
  split at hr<;>rename_i c2
  ·rw [if_pos c2];omega
  ·exact absurd rfl hr):p:=h
theorem lz56{p:Prop}(h:p:=by
 go_wp2
 all_goals first
  |(exfalso;simp_all;done)
  |(go_returns
    exact⟨ret_dimok (by simp_all [inpD]) (by simp_all [inpD]),rfl⟩)):p:=h
theorem lz57{p:Prop}(h:p:=by
 unfold lastN at h
 obtain⟨p,hp,rfl⟩:=Option.map_eq_some_iff.1 h
 exact⟨p,List.mem_reverse.1 (List.mem_of_find?_eq_some hp),rfl⟩):p:=h
theorem lz58{p:Prop}(h:p:=by
 go_returns
 exact⟨ret_bool (by unfold validB;rw [decide_eq_true (by omega),decide_eq_true (by omega)];rfl),.of_below belB⟩):p:=h
theorem lz59{p:Prop}(h:p:=by
 go_returns
 exact⟨ret_bool (by unfold validB;rw [decide_eq_false (show ¬e.depth≤10 by omega)];simp),.of_below belB⟩):p:=h
theorem lz60{p:Prop}(h:p:=by
 split
 ·exact .inl ⟨rfl,Val.num_ok (by omega) h1.2.2.2,rfl⟩
 ·exact .inl ⟨rfl,Val.num_ok (by omega) h2.2.2.2,rfl⟩):p:=h
theorem lz61{p:Prop}(h:p:=by
 go_returns
 exact⟨ret_bool (by unfold validB;rw [decide_eq_false (show ¬e.size≤60 by omega)];simp),.of_below belB⟩):p:=h
theorem lz62{p:Prop}(h:p:=by
 go_wp2_with fail
 go_returns
 exact⟨ret_bool (HBAD.out k HKL.out (by rw [HDK.out];omega)).symm,(by first|rfl|trivial)⟩):p:=h
theorem lz63{p:Prop}(h:p:=by
 clear hd c hr
 go_enter Tryz.func61,Tryz.ntmps61
 go_wp2_with fail
 go_returns
 exact⟨by rw [HR.out];rfl,.of_below belB⟩):p:=h
theorem lz64{p:Prop}(h:p:=by
 go_wp2_with (go_at_call 46;refine(HM.out _ HBB.out.1 HBB.out.2 _).mono ?_;rintro e' w' ⟨rfl,bs4,d4,rfl⟩)
 exact lz10):p:=h
theorem lz65{p:Prop}(h:p:=by
 go_wp2
 all_goals first
  |(exfalso;simp_all;done)
  |(go_returns
    exact⟨ret_bool (by simp_all [keyB,keyL]),rfl⟩)):p:=h
theorem lz66{p:Prop}(h:p:=by
 intro k
 simp only [Option.some.injEq]at k
 rw [k]at hc
 rcases hc with hc|hc
 ·revert hc;decide
 ·revert hc;decide):p:=h
theorem lz67{p:Prop}(h:p:=by
 rcases h.own.2 with ⟨rfl,h0⟩|⟨g,cap,cur,rfl,_⟩
 ·exact⟨none,0,by rw [h0]⟩
 ·exact⟨_,cap,rfl⟩):p:=h
theorem lz68{p:Prop}(h:p:=by
 simp only [intOf]
 rw [show({data:=#[48,49,50,51,52,53,54,55,56,57]}:ByteArray)=tenS from rfl,hpc.out];omega):p:=h
theorem lz69{p:Prop}(h:p:=by
 rw [List.map_append,h,List.range_succ,List.map_append];rfl):p:=h
theorem lz70{p:Prop}(h:p:=by
 go_wp2_with fail
 go_returns
 exact infP (by rw [HF.out,if_neg (by omega),if_pos ho]) (.of_below belB)):p:=h
end Go
