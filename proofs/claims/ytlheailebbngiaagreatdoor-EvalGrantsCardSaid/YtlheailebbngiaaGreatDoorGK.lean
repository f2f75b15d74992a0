import Derived.Test.YtlheailebbngiaaGreatDoorGBase
import Derived.Lib.Hide
import Derived.Deep.CutBlock
import Derived.Laws.BytesArg
import Derived.Deep.CutRange
import Derived.Deep.DeepCutAuto
import Derived.Laws.OwnMore
import Derived.Deep.MidRow
import Derived.Sort.OwnSortedInts
import Derived.RangeFuncNested
import Derived.RangeFuncBound
import Derived.RangeFuncCalls
import Derived.RangeFuncLeaves
import Derived.RangeFuncBox
import Derived.Shelf.Abstract
import Derived.Shelf.RegionOpen
import Derived.OwnWalkIn
import Derived.TacticsInMore
import Derived.LoopNIn
import Derived.LoopIn
import Derived.Maps.AppendAt
import Derived.Laws.Strings
import Derived.Deep.QuietTactic
import Derived.BigRegion
import Derived.Deep.Matrix
import Derived.Deep.Fields
import Derived.OpenShut
import Derived.Laws.AppendOwnNone
import Derived.JoinedOf
import Derived.Laws.IdiomCopy
import Derived.Deep.OwnRows
set_option linter.all false
set_option maxHeartbeats 16000000
set_option maxRecDepth 1000000
namespace Go
theorem zg{p:Prop}(h:p:=by simp):p:=h
theorem ze{p:Prop}(h:p:=by omega):p:=h
theorem zo{p:Prop}(h:p:=by decide):p:=h
theorem zH{p:Prop}(h:p:=by simp;done):p:=h
theorem zf{p:Prop}(h:p:=by kernel_rfl):p:=h
theorem zp{p:Prop}(h:p:=by simp;omega):p:=h
theorem zv{p:Prop}(h:p:=by assumption):p:=h
theorem zJ{p:Prop}(h:p:=by simp [grL]):p:=h
theorem zO{p:Prop}(h:p:=by simp [crL]):p:=h
theorem zP{p:Prop}(h:p:=by simp [seL]):p:=h
theorem zw{p:Prop}(h:p:=by rw [hl];rfl):p:=h
theorem zB{p:Prop}(h:p:=by simp [fP]):p:=h
theorem zq{p:Prop}(h:p:=by decide+kernel):p:=h
theorem zF{p:Prop}(h:p:=by simp [go_sem]):p:=h
theorem zI{p:Prop}(h:p:=by simpa using h):p:=h
theorem zD{p:Prop}(h:p:=by simp;try omega):p:=h
theorem zY{p:Prop}(h:p:=by rw [h5];decide):p:=h
theorem zr{p:Prop}(h:p:=by simp [go_sem,hs]):p:=h
theorem zG{p:Prop}(h:p:=by first|rfl|trivial):p:=h
theorem zX{p:Prop}(h:p:=by rw [←HCC.out];rfl):p:=h
theorem zW{p:Prop}(h:p:=by have:=HP.out;omega):p:=h
theorem zE{p:Prop}(h:p:=by unfold maxLen;omega):p:=h
theorem zM{p:Prop}(h:p:=by have:=HKL.out;omega):p:=h
theorem zV{p:Prop}(h:p:=by rw [←HX.out,←HZ.out]):p:=h
theorem zK{p:Prop}(h:p:=by have:=hdeep.out;omega):p:=h
theorem yo{p:Prop}(h:p:=by show w.heap.size<_;omega):p:=h
theorem zS{p:Prop}(h:p:=by show w.heap.size+1+1<_;omega):p:=h
theorem zC{p:Prop}(h:p:=by simp [go_sem,hs,yK]):p:=h
theorem yk{p:Prop}(h:p:=by rw [HST.out,if_neg (by simp)]):p:=h
theorem zL{p:Prop}(h:p:=by have:=He.out;have:=HA.out;omega):p:=h
theorem yg{p:Prop}(h:p:=by rw [he];exact List.mem_cons_self):p:=h
theorem yf{p:Prop}(h:p:=by rw [mi];unfold fO;omega):p:=h
theorem zR{p:Prop}(h:p:=by unfold VwR.d;rw [if_pos (by omega)]):p:=h
theorem yB{p:Prop}(h:p:=by intro h;unfold eO;rw [if_pos h];rfl):p:=h
theorem ye{p:Prop}(h:p:=by show wc.heap.size<wc.heap.size+1;omega):p:=h
theorem yA{p:Prop}(h:p:=by rw [he];exact List.mem_cons_of_mem _ ht):p:=h
theorem yz{p:Prop}(h:p:=by rw [World.cell?_alloc_at _ _ _ _ rfl];rfl):p:=h
theorem yj{p:Prop}(h:p:=by have:=hbig.out;have:=HA.out;show _≤_;omega):p:=h
theorem yi{p:Prop}(h:p:=by first|exact aJ|exact .of_below af):p:=h
theorem zZ{p:Prop}(h:p:=by rw [HF2.out];try exact decide_eq_false (by omega)):p:=h
theorem zA{p:Prop}(h:p:=by first|exact⟨_,_,World.grow_grow _ _ _ _ _⟩|exact⟨_,_,rfl⟩):p:=h
theorem zU{p:Prop}(h:p:=by rw [HQ.out];first|rw [if_pos (by omega)]|rw [if_neg (by omega)]):p:=h
theorem yx{p:Prop}(h:p:=by rw [sP (by have:=HKL.out;omega)];exact sZ HNO.out):p:=h
theorem yw{p:Prop}(h:p:=by show(WR.alloc _).cell? _=_;rw [World.cell?_alloc_at _ _ _ _ rfl];rfl):p:=h
theorem yI{p:Prop}(h:p:=by rw [←hW];exact(World.heap_grow _ _ _ (by simp)).trans (bK _ _ _ rfl)):p:=h
theorem zQ{p:Prop}(h:p:=by first|exact⟨_,_,World.grow_grow _ _ _ _ _⟩|exact⟨_,_,rfl⟩|exact .of_below af):p:=h
theorem yH{p:Prop}(h:p:=by rw [dQ];unfold eD;rw [if_neg (by omega),if_neg (by omega),if_pos h1]):p:=h
theorem yu{p:Prop}(h:p:=by rw [sP (by have:=HKL.out;omega)];exact sW j hji (decide_eq_true he)):p:=h
theorem yG{p:Prop}(h:p:=by rw [List.getElem?_map,List.getD_eq_getElem?_getD,List.getElem?_eq_getElem hk];rfl):p:=h
theorem yt{p:Prop}(h:p:=by first|exact HBND.out|(have hb9:=HBND.out;simp only [World.grow_grow]at hb9;exact hb9)):p:=h
theorem zN{p:Prop}(h:p:=by first|exact bK _ _ _ (by simp)|exact(World.heap_grow _ _ _ (by simp)).trans (bK _ _ _ (by simp))):p:=h
theorem yF{p:Prop}(h:p:=by have h5:=qW (env:=env) (e:=ek) (.inl hd);have:=HTB.out (by rw [h5];decide);rw [h5]at this;exact this):p:=h
theorem yE{p:Prop}(h:p:=by have h5:=qW (env:=env) (e:=ek) (.inr hnb);have:=HTB.out (by rw [h5];decide);rw [h5]at this;exact this):p:=h
theorem yq{p:Prop}(h:p:=by intro u hu;simp only [List.mem_cons,List.not_mem_nil,or_false]at hu;rcases hu with rfl|rfl|rfl|rfl|rfl|rfl|rfl|rfl<;>rfl):p:=h
theorem yD{p:Prop}(h:p:=by rw [show((WR.alloc (.cells #[.int .i64 x] 3)).drew).cell? ⟨b,off,none⟩=WR.cell? ⟨b,off,none⟩from World.cell?_alloc_lt WR _ ⟨b,off,none⟩ hbw];exact x0):p:=h
theorem yp{p:Prop}(h:p:=by rw [show((WR.alloc (.cells #[.int .i64 x] 3)).drew).cell? ⟨b,off+k,none⟩=WR.cell? ⟨b,off+k,none⟩from World.cell?_alloc_lt WR _ ⟨b,off+k,none⟩ hbw];exact x0):p:=h
theorem zx{p:Prop}(h:p:=by(repeat' (first|(with_reducible exact he.out)|(with_reducible refine bf.alloc ?_ _)|(with_reducible refine bf.grow ?_ _ _)|(with_reducible refine bf.drewN ?_ _)|(with_reducible refine bf.src ?_ _ _ _)))):p:=h
theorem zu{p:Prop}(h:p:=by(repeat' (first|(with_reducible exact hl.out)|(with_reducible refine aI.alloc ?_ _)|(with_reducible refine aI.grow ?_ _ _)|(with_reducible refine aI.drewN ?_ _)|(with_reducible refine aI.src ?_ _ _ _)))):p:=h
theorem zT{p:Prop}(h:p:=by(repeat' (first|(with_reducible exact Below.refl _ _)|(with_reducible assumption)|(with_reducible refine Below.grow ?_ ?_ _ _)|(with_reducible refine Below.alloc ?_ ?_ _)|(with_reducible refine Below.drewN ?_ _)|(with_reducible refine Below.drew ?_)|(with_reducible refine Below.setCell ?_ ?_ _)|go_size))):p:=h
theorem yC{p:Prop}(h:p:=by(repeat' (first|(with_reducible exact Below.refl _ _)|(with_reducible assumption)|(with_reducible refine Below.grow ?_ ?_ _ _)|(with_reducible refine Below.alloc ?_ ?_ _)|(with_reducible refine Below.drewN ?_ _)|(with_reducible refine Below.drew ?_)|(with_reducible refine Below.src ?_ ?_ _ _ _)|(with_reducible refine Below.setCell ?_ ?_ _)|go_size))):p:=h
theorem zh{P:Prop}(h:P):RowKit.Hid P:=h
theorem gz0{p:Prop}(h:p:=by
 go_wp2_with fail
 all_goals try(first|(go_quiet (fail);go_wp2_with fail)|(go_region;go_wp2_with fail))
 all_goals
  go_returns
  have hR:=HR.out;have hX:=HX.out;have h0:∀t:Int,1≤t→(t=0)=False:=fun t h=>eq_false (by omega);simp [ax]at hR;refine P9 ?_ ?_ (.of_below af)
  all_goals
   rw [←hR]
   try((repeat' split)<;>first|(simp_all;done)|(simp [*];done)|(simp_all;omega)|skip)):p:=h
theorem gz1{p:Prop}(h:p:=by
 go_wp2_with fail
 all_goals try(first|(go_quiet (fail);go_wp2_with fail)|(go_region;go_wp2_with fail))
 all_goals
  go_returns
  have hR:=HR.out;have hX:=HX.out;have h0:∀t:Int,1≤t→(t=0)=False:=fun t h=>eq_false (by omega);simp [ax]at hR;refine P8 ?_ (.of_below af);rw [←hR]
  try((repeat' split)<;>first|(simp_all;done)|(simp [*];done)|(simp_all;omega)|skip)):p:=h
theorem gz2{p:Prop}(h:p:=by
 clear HR;have HR:=Lib.hid hR;have HX:=Lib.hid hX;clear hR hX
 go_enter Tryz.func139,Tryz.ntmps139
 by_cases e1:x=y
 focus
  subst e1
 rotate_left
 focus
  have f1:(x==y)=false:=by simpa using e1
  have g1:(y==x)=false:=by simpa using fun h=>e1 h.symm
 rotate_left
 all_goals
  exact gz0):p:=h
theorem gz3{p:Prop}(h:p:=by
 clear HR;have HR:=Lib.hid hR;have HX:=Lib.hid hX;clear hR hX
 go_enter Tryz.func148,Tryz.ntmps148
 by_cases e1:x=y
 focus
  subst e1
 rotate_left
 focus
  have f1:(x==y)=false:=by simpa using e1
  have g1:(y==x)=false:=by simpa using fun h=>e1 h.symm
 rotate_left
 all_goals
  exact gz1):p:=h
theorem gz4{p:Prop}(h:p:=by
 go_enter Tryz.func121,Tryz.ntmps121
 go_wp2_with ((first|(go_at_call 60;(with_reducible refine(cB _ _ _ (by omega) (by omega) (by omega) (by omega)).mono ?_);rintro e w' ⟨rfl,bs,dr,rfl⟩;simp only [hv])|(go_at_call 155;(with_reducible refine(gK _ _ _ (by omega) (by omega) (by omega) (by omega)).mono ?_);rintro e w' ⟨rfl,bs2,dr2,rfl⟩;simp only [hq.out])))
 go_returns
 exact⟨by rw [NY (by simp [dI, *]<;>(intros;omega))];rfl,.of_below af⟩):p:=h
theorem gz5{p:Prop}(h:p:=by
 intro v3 w3 hown3 hgrow3;have HB3:=Lib.hid (HB2.out.grown hgrow3 HB2.out.size (fun k hk=>(HO2.out.lt k hk).1));have HO3:=Lib.hid hown3;clear hown3 hgrow3;refine TG.go hK1 ?_ (fun hS=>?_);focus exact(HB3.out.cell (p:=⟨b,off+k,none⟩) hbw).trans x0
 clear hK1 K1
 (try simp only [nS])
 refine TG.one (i:=14) (by kernel_rfl) rfl (fun K1 hK1=>?_)
 go_simp
 refine hK1 _ _ (fun h=>absurd rfl h) (TG.done (by kernel_rfl) ?_);clear hK1 K1 hS
 (try simp only [nS])
 go_wp2_with fail
 go_roundw
 case rel=>
  have ho:=HO3.out;have hl2:a0+1+(k-a0)=k+1:=by have:=HEQ.out;omega
  rw [hl2]at ho;refine⟨k+1,v3,rfl,HKL.out,by go_num,fun h=>by omega,HB.out.trans (HB3.out.mono hsW), ?_⟩;rw [HI2.out];have ho2:=kU ho hsW;simpa using ho2
 case measure=>simp [intOf];have:=HKL.out;omega):p:=h
theorem gz6{p:Prop}(h:p:=by
 rcases g3 with ⟨rfl,rfl,g5⟩|⟨rfl,rfl,g5⟩|⟨rfl,rfl,g5⟩|⟨rfl,rfl,g5⟩|⟨rfl,rfl,g5⟩
 ·have g7:=Lib.hid (rX s (r / 1000) (by omega) (by omega));have g8:=Lib.hid (xY 3 r 1000 s g0)
  go_wp2_with fail
  go_quiet (fail)
  go_wp2_with fail
  go_roundw
  case rel=>exact⟨3,_,_,_,rfl,rfl,rfl,by omega,by rw [g7.out];omega,by simp;omega,Lib.hid (by rw [←g4.out,g8.out];rfl),.of_below af⟩
  case measure=>simp [intOf]
 ·have g7:=Lib.hid (rX s (r / 100) (by omega) (by omega));have g8:=Lib.hid (xY 2 r 100 s g0)
  go_wp2_with fail
  go_quiet (fail)
  go_wp2_with fail
  go_roundw
  case rel=>exact⟨2,_,_,_,rfl,rfl,rfl,by omega,by rw [g7.out];omega,by simp;omega,Lib.hid (by rw [←g4.out,g8.out];rfl),.of_below af⟩
  case measure=>simp [intOf]
 ·have g7:=Lib.hid (rX s (r / 10) (by omega) (by omega));have g8:=Lib.hid (xY 1 r 10 s g0)
  go_wp2_with fail
  go_quiet (fail)
  go_wp2_with fail
  go_roundw
  case rel=>exact⟨1,_,_,_,rfl,rfl,rfl,by omega,by rw [g7.out];omega,by simp;omega,Lib.hid (by rw [←g4.out,g8.out];rfl),.of_below af⟩
  case measure=>simp [intOf]
 ·have g7:=Lib.hid (rX s r (by omega) (by omega));have g8:Hid (kL 1 r 1 s=kL 0 0 0 (s++oJ.extract r.toNat (r+1).toNat)):=Lib.hid (by simp [kL,g0])
  go_wp2_with fail
  go_quiet (fail)
  go_wp2_with fail
  go_roundw
  case rel=>exact⟨0,_,_,_,rfl,rfl,rfl,by omega,by rw [g7.out];omega,by simp,Lib.hid (by rw [←g4.out,g8.out];rfl),.of_below af⟩
  case measure=>simp [intOf]
 ·omega):p:=h
theorem gz7{p:Prop}(h:p:=by
 go_wp2_with ((first|(go_at_call 47;refine(HI5.out _).mono ?_;rintro e' w' ⟨rfl,rfl⟩)|(go_at_call 194;refine(HN5.out _ (HT1.out.grows ag)).mono ?_;rintro e' w' ⟨rfl,bs1,d1',rfl⟩)|(go_at_call 109;refine(HDC.out _ _ ((World.heap_grow _ _ _ (by simp)).trans (bK _ _ _ (by simp))) ag).mono ?_;rintro e' w' ⟨rfl,bs2,d2',rfl⟩)|(go_at_call 67;refine(HIF.out _ ag).mono ?_;rintro e' w' ⟨rfl,bs3,d3',rfl⟩)))
 go_returns
 exact lC.bad HC.out (World.Grows.trans' HG.out ag)):p:=h
theorem gz8{p:Prop}(h:p:=by
 go_enter Tryz.func212,Tryz.ntmps212
 apply wp_seq_k;intro K1 hK1;have HK1:=Lib.hid hK1;clear hK1
 go_wp2_with fail
 refine HK1.out _ _ ?_;clear HK1 K1;apply wp_seq_k;intro K2 hK2;have HK2:=Lib.hid hK2;clear hK2
 go_wp2_with fail
 refine HK2.out _ _ ?_;clear HK2 K2;apply wp_seq_k;intro K3 hK3;have HK3:=Lib.hid hK3;clear hK3
 go_wp2_with fail
 refine HK3.out _ _ ?_;rw [HF.out]
 exact NW _ _ _ _ _ w KF (Lib.hid (fun w=>Ov _ w HE.out)) _ _ _ _ _ _ _ _ _ _ _ _ _ _ _ _ _ _ _ _ _ _ _ _ _ _ _ _ _ _ _ _ _ _ _ _ _ _ _ _ _ _ _ _ _ _ _ _ _ _ _ _ _ _ _ _ _ _ _ _ _ _ _ _ _ _ _ _ _ _ _ _ _ _ _ _ _ _ _ _ _ _ _ _ _ _ _ _ _ _ _ _ _ _ _ _ _ _ _ _ _ _ _ _ _ _ _ _ _ _ _ _ _ _ _ _ _ _ _ _ _ _ _ _ _ _ _ _ _ _ _ _ _ _ _ _ _ _ _):p:=h
theorem gz9{p:Prop}(h:p:=by
 go_returns
 exact⟨rfl,.of_below af⟩):p:=h
theorem Nt{p:Prop}(h:p:=by
 clear hs hno HDEC h1
 go_wp2_with ((go_at_call 212;(with_reducible refine(HD.out _).mono ?_);rintro e w' ⟨rfl,bsd,drd,rfl⟩))
 all_goals
  go_returns
  exact jP.no HO.out (.of_below af)):p:=h
theorem PH{p:Prop}(h:p:=by
 go_wp2_with fail
 go_returns
 exact⟨au HF.out.symm,.of_below af⟩):p:=h
theorem QM{p:Prop}(h:p:=by
 go_wp2_with ((go_at_call 212;(with_reducible refine(HD.out _).mono ?_);rintro e w' ⟨rfl,bsd,drd,rfl⟩))
 go_returns
 exact jP.no HO.out (.of_below af)):p:=h
theorem QL{p:Prop}(h:p:=by
 clear hdk;have HBD:Hid (¬(0≤dk∧dk≤73049)→v.ok=false):=Lib.hid (fun h=>HB.out k HKL.out (by rw [HDK.out];unfold eB;exact decide_eq_false h));by_cases q1:dk<0
 ·go_wp2_with fail
  go_returns
  exact⟨au (HBD.out (by omega)).symm,World.Grows.trans HG2.out (.of_below af)⟩
 ·by_cases q2:dk > 73049
  ·go_wp2_with fail
   go_returns
   exact⟨au (HBD.out (by omega)).symm,World.Grows.trans HG2.out (.of_below af)⟩
  ·go_wp2_with fail
   go_roundw
   case rel=>exact⟨k+1,HKL.out,by go_num,Lib.hid (fun j hj=>by
    by_cases ej:j=k
    ·subst ej;rw [HDK.out];unfold eB;exact decide_eq_true (by omega)
    ·exact hno.out j (by omega)),(by first|rfl|trivial)⟩
   case measure=>simp [intOf];have:=HKL.out;omega):p:=h
theorem QK{p:Prop}(h:p:=by
 by_cases cd:d=1
 focus
  subst cd
  go_enter Tryz.func155,Tryz.ntmps155
 rotate_left
 focus
  go_enter Tryz.func155,Tryz.ntmps155
 rotate_left
 all_goals
  go_wp2_with ((first|(go_at_call 60;(with_reducible refine(cB _ _ _ (by omega) (by omega) (by omega) (by omega)).mono ?_);rintro e w' ⟨rfl,bs,dr,rfl⟩;simp only [hv])|(go_at_call 91;(with_reducible refine(fM _ _ (by omega) (by omega)).mono ?_);rintro e w' ⟨rfl,rfl⟩)|(go_at_call 193;(with_reducible refine(rC _ _ (by omega) (by omega)).mono ?_);rintro e w' ⟨rfl,rfl⟩)))
  go_returns
  exact⟨Ev (by simp [wL, *]<;>(intro _;omega)),.of_below af⟩):p:=h
theorem PG{p:Prop}(h:p:=by
 clear HR;have HR:=Lib.hid hR;have HX:=Lib.hid hX;clear hR hX
 go_enter Tryz.func139,Tryz.ntmps139
 by_cases e1:x=1
 focus
  subst e1
 rotate_left
 focus
  have f1:(x==1)=false:=by simpa using e1
  have g1:(1==x)=false:=by simpa using fun h=>e1 h.symm
 rotate_left
 all_goals
  exact gz0):p:=h
theorem PE{p:Prop}(h:p:=by
 clear HR;have HR:=Lib.hid hR;have HX:=Lib.hid hX;clear hR hX
 go_enter Tryz.func148,Tryz.ntmps148
 by_cases e1:x=1
 focus
  subst e1
 rotate_left
 focus
  have f1:(x==1)=false:=by simpa using e1
  have g1:(1==x)=false:=by simpa using fun h=>e1 h.symm
 rotate_left
 all_goals
  exact gz1):p:=h
theorem QJ{p:Prop}(h:p:=by
 have hn:an.natAbs*bd.natAbs=bn.natAbs*ad.natAbs:=by rw [←Int.natAbs_mul,h,Int.natAbs_mul]
 have d1:ad.natAbs ∣ bd.natAbs:=Nat.Coprime.dvd_of_dvd_mul_left (k:=ad.natAbs) (m:=an.natAbs) (Nat.Coprime.symm p) ⟨bn.natAbs,by rw [hn,Nat.mul_comm]⟩;have d2:bd.natAbs ∣ ad.natAbs:=Nat.Coprime.dvd_of_dvd_mul_left (k:=bd.natAbs) (m:=bn.natAbs) (Nat.Coprime.symm q) ⟨an.natAbs,by rw [←hn,Nat.mul_comm]⟩;have e:=Nat.dvd_antisymm d1 d2;have e':ad=bd:=by omega
 subst e'
 exact⟨Int.eq_of_mul_eq_mul_right (by omega) h,rfl⟩):p:=h
theorem PD{p:Prop}(h:p:=by
 rw [hs]at HD;simp only [mr]at HD;have HO:=Lib.hid (And.intro hy ht);clear hs hy ht HDEC
 go_wp2_with ((go_at_call 212;(with_reducible refine(HD.out _).mono ?_);rintro e w' ⟨rfl,bsd,drd,rfl⟩))
 go_returns
 exact jP.yes HO.out.1 HO.out.2 (.of_below af)):p:=h
theorem Gy{p:Prop}(h:p:=by
 go_wp2
 go_returns
 exact⟨au (by first|rfl|(simp;done)|(simp;omega)),.of_below af⟩):p:=h
theorem QI{p:Prop}(h:p:=by
 intro e' u hu;refine(hu.mono' (S':=fun b=>(base≤b∧v.ownBlock≠some b)∧g≠b) ?_|>.keep hg.size ?_).mono ?_
 ·rintro b ⟨h1,h2⟩ hlt;refine⟨⟨h1,h2⟩, ?_⟩;rcases hat with hat|hat
  ·intro e;exact h2 (by rw [hat,e])
  ·omega
 ·rintro b o ⟨⟨_,h2⟩,_⟩ hlt;exact World.cell?_of_block (hg.block b hlt (Ne.symm h2))
 ·rintro b ⟨⟨h1,_⟩,h3⟩
  exact⟨h1,by simpa [Value.ownBlock]using h3⟩):p:=h
theorem Gx{p:Prop}(h:p:=by
 clear h;obtain⟨a,n,c,rfl⟩:=hy;unfold vwV
 go_enter Tryz.func21,Tryz.ntmps21
 exact PH):p:=h
theorem Gw{p:Prop}(h:p:=by
 clear h;obtain⟨a,n,c,rfl⟩:=hy;unfold vwV
 go_enter Tryz.func20,Tryz.ntmps20
 exact PH):p:=h
theorem J7{p:Prop}(h:p:=by
 go_enter Tryz.func104,Tryz.ntmps104
 go_wp2
 go_returns
 exact⟨ret_int (by simp [aX];omega),rfl⟩):p:=h
theorem Ns{p:Prop}(h:p:=by
 go_enter Tryz.func205,Tryz.ntmps205
 go_wp2_with fail
 go_returns
 exact jP.no (G8 (by omega)) (.of_below af)):p:=h
theorem QH{p:Prop}(h:p:=by
 refine⟨?_, ?_, ?_, ?_⟩
 ·rw [hh _ (by omega) (by omega)];exact HM.out.nm
 ·rw [Below.heap_setCell _ _ _ _ (by show w.heap.size+1≠w.heap.size+2;omega)];exact Joins.block_setCell HM.out.res _
 ·exact Joins.block_setCell ((Below.heap_setCell _ _ _ _ (by show w.heap.size+2≠w.heap.size+1;omega)).trans HM.out.ok) _
 ·simp;omega):p:=h
theorem QG{p:Prop}(h:p:=by
 go_enter Tryz.func213,Tryz.ntmps213
 go_wp2_with ((first|(go_at_call 218;(with_reducible refine(fw _ _).mono ?_);rintro e w' ⟨rfl,rfl⟩;simp only [hL])|(go_at_call 219;(with_reducible refine(iP _ _).mono ?_);rintro e w' ⟨rfl,rfl⟩;simp only [hI])))
 go_ret
 exact⟨au hw.symm,rfl⟩):p:=h
theorem nR{p:Prop}(h:p:=by
 go_wp2_with fail
 exact gz9):p:=h
theorem Nr{p:Prop}(h:p:=by
 go_wp2_with fail
 go_returns
 exact⟨au (by rw [HF.out];have:=HN.out;simp [this]),.of_below af⟩):p:=h
theorem QF{p:Prop}(h:p:=by
 have hW:=HW.out;rw [←hW];refine⟨by rw [Below.heap_alloc _ _ _ (by simp)];exact World.alloc_heap_new _ _, ?_,Nat.zero_le _⟩;have:=World.alloc_heap_new (w.alloc (.cells #[.string s] 9)) (.cells #[.int .i64 0,.bool false,.int .i64 0,.int .i64 0] 34);rw [World.size_alloc]at this
 exact this):p:=h
theorem J6{p:Prop}(h:p:=by
 go_returns
 exact⟨au (by rw [HF.out];rfl),.of_below af⟩):p:=h
theorem xN{p:Prop}(h:p:=by
 obtain⟨-,a,c,h,-⟩:=hy
 exact⟨a,c,h⟩):p:=h
theorem xM{p:Prop}(h:p:=by
 obtain⟨-,a,c,h,-⟩:=hs
 exact⟨a,c,h⟩):p:=h
theorem Pz{p:Prop}(h:p:=by
 rw [hs]at HD;simp only [mr]at HD;have HO:=Lib.hid hno;have q1:(a==n)=false:=by simpa using h1
 clear hs hno HDEC h1
 exact QM):p:=h
theorem QE{p:Prop}(h:p:=by
 go_wp2_with ((first|(go_at_call 49;refine(HI5.out _).mono ?_;rintro e' w' ⟨rfl,rfl⟩)|(go_at_call 89;refine(HN5.out _).mono ?_;rintro e' w' ⟨rfl,rfl⟩)))
 go_returns
 exact rG.bad HC.out (World.Grows.trans' HG.out ag)):p:=h
theorem QD{p:Prop}(h:p:=by
 go_enter Tryz.func18,Tryz.ntmps18
 go_wp2_with (first
  |(go_at_call 49;refine(HI.out _).mono ?_;rintro e' w' ⟨rfl,rfl⟩)
  |(go_at_call 21;refine(HV.out _ (HG.out _ _)).mono ?_;rintro e' w' ⟨rfl,bs,d,rfl⟩))
 exact gz9):p:=h
theorem Py{p:Prop}(h:p:=by
 rw [hs]at HD;simp only [mr]at HD;have HO:=Lib.hid hno;have q1:(b==d)=false:=by simpa using h1
 exact Nt):p:=h
theorem Px{p:Prop}(h:p:=by
 clear HR;have HR:=Lib.hid hR;have HX:=Lib.hid hX;clear hR hX
 go_enter Tryz.func139,Tryz.ntmps139
 exact gz0):p:=h
theorem Pw{p:Prop}(h:p:=by
 clear HR;have HR:=Lib.hid hR;have HX:=Lib.hid hX;clear hR hX
 go_enter Tryz.func148,Tryz.ntmps148
 exact gz1):p:=h
theorem QC{p:Prop}(h:p:=by
 exact⟨Int.emod_eq_zero_of_dvd (Int.natAbs_dvd_natAbs.1 (Nat.dvd_trans h (Nat.gcd_dvd_left _ _))),Int.emod_eq_zero_of_dvd (Int.natAbs_dvd_natAbs.1 (Nat.dvd_trans h (Nat.gcd_dvd_right _ _)))⟩):p:=h
theorem QB{p:Prop}(h:p:=by
 obtain⟨h0,a,cap,hv,h1⟩:=h;refine⟨h0,a,cap,hv,h1.imp id ?_⟩;rintro⟨b,off,ha,hb,hc⟩;have:=hg.below.size
 exact⟨b,off,ha,by omega,fun i hi=>(hc i hi).imp fun u hu=>hu.same hg hb⟩):p:=h
theorem Pv{p:Prop}(h:p:=by
 rw [List.take_succ_eq_append_getElem hk,List.getD_eq_getElem?_getD,List.getElem?_eq_getElem hk];rfl):p:=h
theorem QA{p:Prop}(h:p:=by
 simp only [World.src,World.setCell]
 congr 1
 apply Array.ext_getElem?;intro k;simp only [Array.getElem?_modify,Array.getElem?_setIfInBounds];by_cases hk:s=k
 ·subst hk;simp [h]
 ·simp [hk]):p:=h
theorem Qz{p:Prop}(h:p:=by
 go_wp2_with (first|(go_at_call 60;refine(HV.out _).mono ?_;rintro e' w' ⟨rfl,bs2,d2,rfl⟩)|(go_at_call 55;refine(HV.out _).mono ?_;rintro e' w' ⟨rfl,bs2,d2,rfl⟩))
 exact J6):p:=h
theorem Pt{p:Prop}(h:p:=by
 rw [List.drop_eq_getElem_cons hk,List.getD_eq_getElem?_getD,List.getElem?_eq_getElem hk];rfl):p:=h
theorem Nq{p:Prop}(h:p:=by
 go_wp2
 go_returns
 exact⟨au (by simp [tZ];omega),rfl⟩):p:=h
theorem Np{p:Prop}(h:p:=by
 go_wp2
 go_returns
 exact⟨au (by simp [nW];omega),rfl⟩):p:=h
theorem Ps{p:Prop}(h:p:=by
 rw [hn]at HD;simp only [mr]at HD;have HO:=Lib.hid hno;clear hn hno HDEC
 exact QM):p:=h
theorem Qy{p:Prop}(h:p:=by
 go_enter Tryz.func70,Tryz.ntmps70
 go_wp2_with (go_at_call 23;refine(HB.out _ aj).mono ?_;rintro e' w' ⟨rfl,bs,d,rfl⟩)
 go_returns
 exact⟨rfl,aj⟩):p:=h
theorem Qx{p:Prop}(h:p:=by
 obtain⟨-,⟨rfl,h0⟩|⟨g,cap,cur,rfl,hb,hg,-⟩⟩:=h
 ·exact .inl ⟨rfl,h0⟩
 ·exact .inr ⟨g,cap,rfl,hb,(Array.getElem?_eq_some_iff.1 hg).1⟩):p:=h
theorem J5{p:Prop}(h:p:=by
 go_enter Tryz.func72,Tryz.ntmps72
 exact nR):p:=h
theorem Qw{p:Prop}(h:p:=by
 split at hr<;>rename_i c1
 ·rw [if_pos c1];omega
 ·rw [if_neg c1]
  split at hr<;>rename_i c2
  ·rw [if_pos c2];omega
  ·exact absurd rfl hr):p:=h
theorem Qv{p:Prop}(h:p:=by
 go_wp2
 all_goals first
  |(exfalso;simp_all;done)
  |(go_returns
    exact⟨FI (by simp_all [bT]) (by simp_all [bT]),rfl⟩)):p:=h
theorem Qu{p:Prop}(h:p:=by
 unfold dO at h;obtain⟨p,hp,rfl⟩:=Option.map_eq_some_iff.1 h
 exact⟨p,List.mem_reverse.1 (List.mem_of_find?_eq_some hp),rfl⟩):p:=h
theorem Qt{p:Prop}(h:p:=by
 go_returns
 exact⟨au (by unfold cK;rw [decide_eq_true (by omega),decide_eq_true (by omega)];rfl),.of_below af⟩):p:=h
theorem Qs{p:Prop}(h:p:=by
 go_returns
 exact⟨au (by unfold cK;rw [decide_eq_false (show ¬e.depth≤10 by omega)];simp),.of_below af⟩):p:=h
theorem Qq{p:Prop}(h:p:=by
 split
 ·exact .inl ⟨rfl,Val.num_ok (by omega) h1.2.2.2,rfl⟩
 ·exact .inl ⟨rfl,Val.num_ok (by omega) h2.2.2.2,rfl⟩):p:=h
theorem Qp{p:Prop}(h:p:=by
 go_returns
 exact⟨au (by unfold cK;rw [decide_eq_false (show ¬e.size≤60 by omega)];simp),.of_below af⟩):p:=h
theorem Qo{p:Prop}(h:p:=by
 go_wp2_with fail
 go_returns
 exact⟨au (HBAD.out k HKL.out (by rw [HDK.out];omega)).symm,(by first|rfl|trivial)⟩):p:=h
theorem Qn{p:Prop}(h:p:=by
 clear hd c hr
 go_enter Tryz.func61,Tryz.ntmps61
 go_wp2_with fail
 go_returns
 exact⟨by rw [HR.out];rfl,.of_below af⟩):p:=h
theorem Qm{p:Prop}(h:p:=by
 go_wp2_with (go_at_call 46;refine(HM.out _ HBB.out.1 HBB.out.2 _).mono ?_;rintro e' w' ⟨rfl,bs4,d4,rfl⟩)
 exact gz9):p:=h
theorem Ql{p:Prop}(h:p:=by
 go_wp2
 all_goals first
  |(exfalso;simp_all;done)
  |(go_returns
    exact⟨au (by simp_all [Nk,Qf]),rfl⟩)):p:=h
theorem Qk{p:Prop}(h:p:=by
 intro k;simp only [Option.some.injEq]at k;rw [k]at hc;rcases hc with hc|hc
 ·revert hc;decide
 ·revert hc;decide):p:=h
theorem Qj{p:Prop}(h:p:=by
 rcases h.own.2 with ⟨rfl,h0⟩|⟨g,cap,cur,rfl,_⟩
 ·exact⟨none,0,by rw [h0]⟩
 ·exact⟨_,cap,rfl⟩):p:=h
theorem Qi{p:Prop}(h:p:=by
 simp only [intOf]
 rw [show({data:=#[48,49,50,51,52,53,54,55,56,57]}:ByteArray)=oJ from rfl,hpc.out];omega):p:=h
theorem Pq{p:Prop}(h:p:=by
 rw [List.map_append,h,List.range_succ,List.map_append];rfl):p:=h
theorem Qh{p:Prop}(h:p:=by
 go_wp2_with fail
 go_returns
 exact kI (by rw [HF.out,if_neg (by omega),if_pos ho]) (.of_below af)):p:=h
end Go
