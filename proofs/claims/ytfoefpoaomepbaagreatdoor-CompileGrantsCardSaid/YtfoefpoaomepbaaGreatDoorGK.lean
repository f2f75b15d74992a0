import Derived.Test.YtfoefpoaomepbaaGreatDoorGBase
import Derived.Lib.Hide
import Derived.Deep.CutBlock
import Derived.Deep.Matrix
import Derived.Deep.Fields
import Derived.OpenShut
import Derived.Deep.QuietTactic
import Derived.BigRegion
import Derived.Laws.OwnMore
import Derived.Laws.BytesArg
import Derived.Deep.CutRange
import Derived.Deep.DeepCutAuto
import Derived.Deep.MidRow
import Derived.Maps.Range
import Derived.Laws.AppendOwnNone
import Derived.Sort.OwnSortedInts
import Derived.RangeFuncNested
import Derived.RangeFuncBound
import Derived.RangeFuncCalls
import Derived.RangeFuncLeaves
import Derived.RangeFuncBox
import Derived.Shelf.Abstract
import Derived.Shelf.RegionOpen
import Derived.OwnWalkIn
import Derived.TacticsInMore
import Derived.LoopNIn
import Derived.LoopIn
import Derived.Maps.AppendAt
import Derived.Ground.SlgfProg
import Derived.Laws.Strings
import Derived.Laws.IdiomCopy
import Derived.Deep.OwnRows
import Derived.JoinedOf
set_option linter.all false
set_option maxHeartbeats 16000000
set_option maxRecDepth 1000000
namespace Go
theorem zd{p:Prop}(h:p:=by simp):p:=h
theorem zb{p:Prop}(h:p:=by omega):p:=h
theorem zf{p:Prop}(h:p:=by decide):p:=h
theorem zU{p:Prop}(h:p:=by exact hb):p:=h
theorem zV{p:Prop}(h:p:=by rintro⟨⟩):p:=h
theorem zW{p:Prop}(h:p:=by simp [e]):p:=h
theorem zz{p:Prop}(h:p:=by simp;done):p:=h
theorem zT{p:Prop}(h:p:=by simp [hk]):p:=h
theorem ze{p:Prop}(h:p:=by kernel_rfl):p:=h
theorem zg{p:Prop}(h:p:=by simp;omega):p:=h
theorem zq{p:Prop}(h:p:=by assumption):p:=h
theorem zA{p:Prop}(h:p:=by simp [grL]):p:=h
theorem zK{p:Prop}(h:p:=by simp [crL]):p:=h
theorem zL{p:Prop}(h:p:=by simp [seL]):p:=h
theorem zo{p:Prop}(h:p:=by rw [hl];rfl):p:=h
theorem zw{p:Prop}(h:p:=by simp [fe]):p:=h
theorem zS{p:Prop}(h:p:=by simp<;>omega):p:=h
theorem zp{p:Prop}(h:p:=by decide+kernel):p:=h
theorem zy{p:Prop}(h:p:=by simpa using h):p:=h
theorem zD{p:Prop}(h:p:=by simp [go_sem]):p:=h
theorem zR{p:Prop}(h:p:=by rw [h5];decide):p:=h
theorem yb{p:Prop}(h:p:=by simp;try omega):p:=h
theorem yc{p:Prop}(h:p:=by simpa using hi):p:=h
theorem ye{p:Prop}(h:p:=by simpa using hj):p:=h
theorem yt{p:Prop}(h:p:=by rw [hs];decide):p:=h
theorem ya{p:Prop}(h:p:=by show B≤gg;omega):p:=h
theorem zm{p:Prop}(h:p:=by simp [go_sem,hs]):p:=h
theorem yp{p:Prop}(h:p:=by have:=h.glt;omega):p:=h
theorem yr{p:Prop}(h:p:=by rw [←hfa];exact h):p:=h
theorem zH{p:Prop}(h:p:=by have:=HO.out;omega):p:=h
theorem zQ{p:Prop}(h:p:=by have:=HP.out;omega):p:=h
theorem yo{p:Prop}(h:p:=by have:=L9.out;omega):p:=h
theorem zu{p:Prop}(h:p:=by have:=HLN.out;omega):p:=h
theorem zG{p:Prop}(h:p:=by have:=HKL.out;omega):p:=h
theorem zM{p:Prop}(h:p:=by have:=HAE.out;omega):p:=h
theorem zP{p:Prop}(h:p:=by rw [sK];omega):p:=h
theorem ym{p:Prop}(h:p:=by unfold maxLen;omega):p:=h
theorem zZ{p:Prop}(h:p:=by rw [←HX.out,←HZ.out]):p:=h
theorem yk{p:Prop}(h:p:=by rw [HF.out];simp [*]):p:=h
theorem zB{p:Prop}(h:p:=by have:=hdeep.out;omega):p:=h
theorem zO{p:Prop}(h:p:=by simp [Value.ownBlock]):p:=h
theorem yD{p:Prop}(h:p:=by rw [hn]at ht;cases ht):p:=h
theorem yE{p:Prop}(h:p:=by simp only [c1,c2];rfl):p:=h
theorem zN{p:Prop}(h:p:=by have:=HB9.out b e;omega):p:=h
theorem yC{p:Prop}(h:p:=by have:=HBW.out;simp;omega):p:=h
theorem zx{p:Prop}(h:p:=by simp [go_sem,hs,Ba]):p:=h
theorem yj{p:Prop}(h:p:=by rw [HST.out,if_neg (by simp)]):p:=h
theorem yA{p:Prop}(h:p:=by rw [List.length_map];exact hlt):p:=h
theorem yB{p:Prop}(h:p:=by rw [aP,BZ ha h1];simp):p:=h
theorem zF{p:Prop}(h:p:=by have:=He.out;have:=HA.out;omega):p:=h
theorem zY{p:Prop}(h:p:=by rw [he];exact List.mem_cons_self):p:=h
theorem yz{p:Prop}(h:p:=by unfold maxLen;have:=HCV.out;omega):p:=h
theorem zX{p:Prop}(h:p:=by rw [mh];unfold eZ;omega):p:=h
theorem yy{p:Prop}(h:p:=by rw [he];exact List.mem_cons_of_mem _ ht):p:=h
theorem xi{p:Prop}(h:p:=by rw [←HGO.out,goB,HTT.out];simp only [hr]):p:=h
theorem yi{p:Prop}(h:p:=by have:=hbig.out;have:=HA.out;show _≤_;omega):p:=h
theorem xg{p:Prop}(h:p:=by rw [show(5:Int) ^ 6=15625 by decide];omega):p:=h
theorem xe{p:Prop}(h:p:=by rw [←hg.out,hst];simp only [fU];rw [hD];rfl):p:=h
theorem xb{p:Prop}(h:p:=by unfold kg;rw [←H1.out,←HX.out];exact HRD.out.1):p:=h
theorem yY{p:Prop}(h:p:=by rw [HF.out,Em s e.args k hlt HB.out];simp):p:=h
theorem yZ{p:Prop}(h:p:=by rw [hk,decide_eq_false s5,decide_eq_false s6];rfl):p:=h
theorem yX{p:Prop}(h:p:=by unfold grR;exact List.mem_flatMap.2 ⟨_,hm,by simp⟩):p:=h
theorem yV{p:Prop}(h:p:=by rintro b ⟨⟩ e;have:=(ho2.lt _ e).1;have:=h.gb;omega):p:=h
theorem yW{p:Prop}(h:p:=by rw [HF.out,decide_eq_true ho,decide_eq_true hn];rfl):p:=h
theorem yU{p:Prop}(h:p:=by rw [cK,if_pos h];exact List.mem_cons_self ..):p:=h
theorem yR{p:Prop}(h:p:=by rw [a2 _ (by omega)];exact hn _ (by omega) (by omega)):p:=h
theorem yS{p:Prop}(h:p:=by rw [←List.length_append,←HL3.out];have:=HLN.out;omega):p:=h
theorem yT{p:Prop}(h:p:=by rw [←List.length_append,←HL6.out];have:=HLN.out;omega):p:=h
theorem zC{p:Prop}(h:p:=by first|exact⟨_,_,World.grow_grow _ _ _ _ _⟩|exact⟨_,_,rfl⟩):p:=h
theorem yQ{p:Prop}(h:p:=by rw [ByteArray.size_append];unfold maxLen;show s.size+1≤_;omega):p:=h
theorem yx{p:Prop}(h:p:=by rw [sV (by have:=HKL.out;omega)];exact tJ HNO.out):p:=h
theorem yP{p:Prop}(h:p:=by have:=HT.out;unfold mT at this;rw [List.take_length]at this;exact this):p:=h
theorem yO{p:Prop}(h:p:=by have:=HTB.out (by rw [HST.out];exact hc);rw [HST.out]at this;exact this):p:=h
theorem yN{p:Prop}(h:p:=by rw [←hW];exact(World.heap_grow _ _ _ (by simp)).trans (heap_new _ _ _ rfl)):p:=h
theorem yM{p:Prop}(h:p:=by unfold wfF;rw [if_pos rfl,decide_eq_false (show ¬(a=2∨a=3∨a=4)by omega)];rfl):p:=h
theorem yw{p:Prop}(h:p:=by rw [sV (by have:=HKL.out;omega)];exact tH j hji (decide_eq_true he)):p:=h
theorem yK{p:Prop}(h:p:=by rw [List.getElem?_map,List.getD_eq_getElem?_getD,List.getElem?_eq_getElem hk];rfl):p:=h
theorem yL{p:Prop}(h:p:=by rw [aA,if_neg (by omega),a2 _ (by omega)];exact hn _ (by omega) (by omega)):p:=h
theorem zJ{p:Prop}(h:p:=by have:=ok.valid;unfold bB at this;simp only [Bool.and_eq_true,decide_eq_true_eq]at this;omega):p:=h
theorem yJ{p:Prop}(h:p:=by have h1:(useP E F V.le).length≤(usesL F V.le).length:=List.length_filter_le _ _;have:=HLF.out;omega):p:=h
theorem zI{p:Prop}(h:p:=by first|exact heap_new _ _ _ (by simp)|exact(World.heap_grow _ _ _ (by simp)).trans (heap_new _ _ _ (by simp))):p:=h
theorem yI{p:Prop}(h:p:=by have h5:=rA (env:=env) (e:=ek) (.inl hd);have:=HTB.out (by rw [h5];decide);rw [h5]at this;exact this):p:=h
theorem yH{p:Prop}(h:p:=by have h5:=rA (env:=env) (e:=ek) (.inr hnb);have:=HTB.out (by rw [h5];decide);rw [h5]at this;exact this):p:=h
theorem yv{p:Prop}(h:p:=by intro u hu;simp only [List.mem_cons,List.not_mem_nil,or_false]at hu;rcases hu with rfl|rfl|rfl|rfl|rfl|rfl|rfl|rfl<;>rfl):p:=h
theorem yu{p:Prop}(h:p:=by repeat' (first|(with_reducible exact HT.out)|(with_reducible refine Tab.grow ?_ _ _)|(with_reducible refine Tab.alloc ?_ _))):p:=h
theorem yg{p:Prop}(h:p:=by repeat' (first|(with_reducible exact HR.out)|(with_reducible refine ax.grow ?_ _ _)|(with_reducible refine ax.alloc ?_ _))):p:=h
theorem yG{p:Prop}(h:p:=by repeat' (first|(with_reducible exact HRP.out)|(with_reducible refine ax.grow ?_ _ _)|(with_reducible refine ax.alloc ?_ _)|(with_reducible refine ax.drewN ?_ _))):p:=h
theorem zE{p:Prop}(h:p:=by repeat' (first|(with_reducible exact HR.out)|(with_reducible exact HR1.out)|(with_reducible refine bO.grow ?_ _ _)|(with_reducible refine bO.alloc ?_ _)|(with_reducible refine bO.drew ?_))):p:=h
theorem zv{p:Prop}(h:p:=by(repeat' (first|(with_reducible exact he.out)|(with_reducible refine aU.alloc ?_ _)|(with_reducible refine aU.grow ?_ _ _)|(with_reducible refine aU.drewN ?_ _)|(with_reducible refine aU.src ?_ _ _ _)))):p:=h
theorem zn{p:Prop}(h:p:=by(repeat' (first|(with_reducible exact hl.out)|(with_reducible refine aF.alloc ?_ _)|(with_reducible refine aF.grow ?_ _ _)|(with_reducible refine aF.drewN ?_ _)|(with_reducible refine aF.src ?_ _ _ _)))):p:=h
theorem yf{p:Prop}(h:p:=by repeat' (first|(with_reducible exact HR.out)|(with_reducible exact HRQ.out)|(with_reducible exact HR1.out)|(with_reducible refine bO.grow ?_ _ _)|(with_reducible refine bO.alloc ?_ _)|(with_reducible refine bO.drew ?_))):p:=h
theorem yF{p:Prop}(h:p:=by(repeat' (first|(with_reducible exact Below.refl _ _)|(with_reducible assumption)|(with_reducible refine Below.grow ?_ ?_ _ _)|(with_reducible refine Below.alloc ?_ ?_ _)|(with_reducible refine Below.drewN ?_ _)|(with_reducible refine Below.drew ?_)|(with_reducible refine Below.src ?_ ?_ _ _ _)|(with_reducible refine Below.setCell ?_ ?_ _)|go_size))):p:=h
theorem yq{P:Prop}(h:P):RowKit.Hid P:=h
theorem gz0{p:Prop}(h:p:=by
 go_wp2_with fail
 all_goals try(first|(go_quiet (fail);go_wp2_with fail)|(go_region;go_wp2_with fail))
 all_goals
  go_returns
  have hR:=HR.out;have hX:=HX.out;have h0:∀t:Int,1≤t→(t=0)=False:=fun t h=>eq_false (by omega);simp [ag]at hR;refine Sv ?_ ?_ (.of_below af)
  all_goals
   rw [←hR]
   try((repeat' split)<;>first|(simp_all;done)|(simp [*];done)|(simp_all;omega)|skip)):p:=h
theorem gz1{p:Prop}(h:p:=by
 go_wp2_with fail
 all_goals try(first|(go_quiet (fail);go_wp2_with fail)|(go_region;go_wp2_with fail))
 all_goals
  go_returns
  have hR:=HR.out;have hX:=HX.out;have h0:∀t:Int,1≤t→(t=0)=False:=fun t h=>eq_false (by omega);simp [ag]at hR;refine Su ?_ (.of_below af);rw [←hR]
  try((repeat' split)<;>first|(simp_all;done)|(simp [*];done)|(simp_all;omega)|skip)):p:=h
theorem gz2{p:Prop}(h:p:=by
 refine gv (HN.out _) ?_;intro bs2 d2;refine TS.go HK1.out growsR (fun hS=>?_);clear HK1 K1
 (try simp only [nS])
 refine kq 7 hS ?_;refine kq 8 hS ?_;refine kq 9 hS ?_;refine TS.one (i:=10) (by kernel_rfl) rfl (fun K1 hK1=>?_);have HK1:=Lib.hid hK1;clear hK1 hS;dsimp only [List.getElem_toArray,List.getElem_cons_succ,List.getElem_cons_zero]
 go_simp
 refine TS.go HK1.out growsR (fun hS=>?_);clear HK1 K1
 (try simp only [nS])
 refine TS.weB 11 ?_;by_cases h0:rc=0
 ·subst h0;cases dk
  ·go_wp2_with (go_at_call 144;refine(HFD.out _ growsR).mono ?_;rintro e' w' ⟨sx,rfl,-,bs3,d3,rfl⟩)
   go_returns
   exact .no HCC.out (by unfold exV;rw [HOH.out]) growsR
  ·go_wp2_with (go_at_call 144;refine(HFD.out _ growsR).mono ?_;rintro e' w' ⟨sx,rfl,-,bs3,d3,rfl⟩)
   go_returns
   exact .yes HCC.out growsR
 ·have h1:(rc !=0)=true:=by simpa using h0
  rw [if_neg (fun c=>h0 c.1)]at HCC;clear h0;cases dk
  all_goals
   go_wp2_with (go_at_call 144;refine(HFD.out _ growsR).mono ?_;rintro e' w' ⟨sx,rfl,-,bs3,d3,rfl⟩)
   go_returns
   exact .no HCC.out (by unfold exV;rw [HOH.out]) growsR):p:=h
theorem gz3{p:Prop}(h:p:=by
 clear HR;have HR:=Lib.hid hR;have HX:=Lib.hid hX;clear hR hX
 go_enter Tryz.func151,Tryz.ntmps151
 by_cases e1:x=y
 focus
  subst e1
 rotate_left
 focus
  have f1:(x==y)=false:=by simpa using e1
  have g1:(y==x)=false:=by simpa using fun h=>e1 h.symm
 rotate_left
 all_goals
  exact gz0):p:=h
theorem gz4{p:Prop}(h:p:=by
 clear HR;have HR:=Lib.hid hR;have HX:=Lib.hid hX;clear hR hX
 go_enter Tryz.func90,Tryz.ntmps90
 by_cases e1:x=y
 focus
  subst e1
 rotate_left
 focus
  have f1:(x==y)=false:=by simpa using e1
  have g1:(y==x)=false:=by simpa using fun h=>e1 h.symm
 rotate_left
 all_goals
  exact gz1):p:=h
theorem gz5{p:Prop}(h:p:=by
 go_enter Tryz.func91,Tryz.ntmps91
 go_wp2_with ((first|(go_at_call 97;(with_reducible refine gv (ik _ _ _ (by omega) (by omega) (by omega) (by omega)) ?_);intro bs dr;simp only [hv])|(go_at_call 145;(with_reducible refine gv (fI _ _ _ (by omega) (by omega) (by omega) (by omega)) ?_);intro bs2 dr2;simp only [hq.out])))
 go_returns
 exact⟨by rw [Qc (by simp [aV, *]<;>(intros;omega))];rfl,.of_below af⟩):p:=h
theorem gz6{p:Prop}(h:p:=by
 rcases g3 with ⟨rfl,rfl,g5⟩|⟨rfl,rfl,g5⟩|⟨rfl,rfl,g5⟩|⟨rfl,rfl,g5⟩|⟨rfl,rfl,g5⟩
 ·have g7:=Lib.hid (sD s (r / 1000) (by omega) (by omega));have g8:=Lib.hid (AY 3 r 1000 s g0)
  go_wp2_with fail
  go_quiet (fail)
  go_wp2_with fail
  go_roundw
  case rel=>exact⟨3,_,_,_,rfl,rfl,rfl,by omega,by rw [g7.out];omega,by simp;omega,Lib.hid (by rw [←g4.out,g8.out];rfl),.of_below af⟩
  case measure=>simp [intOf]
 ·have g7:=Lib.hid (sD s (r / 100) (by omega) (by omega));have g8:=Lib.hid (AY 2 r 100 s g0)
  go_wp2_with fail
  go_quiet (fail)
  go_wp2_with fail
  go_roundw
  case rel=>exact⟨2,_,_,_,rfl,rfl,rfl,by omega,by rw [g7.out];omega,by simp;omega,Lib.hid (by rw [←g4.out,g8.out];rfl),.of_below af⟩
  case measure=>simp [intOf]
 ·have g7:=Lib.hid (sD s (r / 10) (by omega) (by omega));have g8:=Lib.hid (AY 1 r 10 s g0)
  go_wp2_with fail
  go_quiet (fail)
  go_wp2_with fail
  go_roundw
  case rel=>exact⟨1,_,_,_,rfl,rfl,rfl,by omega,by rw [g7.out];omega,by simp;omega,Lib.hid (by rw [←g4.out,g8.out];rfl),.of_below af⟩
  case measure=>simp [intOf]
 ·have g7:=Lib.hid (sD s r (by omega) (by omega));have g8:Hid (kH 1 r 1 s=kH 0 0 0 (s++oU.extract r.toNat (r+1).toNat)):=Lib.hid (by simp [kH,g0])
  go_wp2_with fail
  go_quiet (fail)
  go_wp2_with fail
  go_roundw
  case rel=>exact⟨0,_,_,_,rfl,rfl,rfl,by omega,by rw [g7.out];omega,by simp,Lib.hid (by rw [←g4.out,g8.out];rfl),.of_below af⟩
  case measure=>simp [intOf]
 ·omega):p:=h
theorem gz7{p:Prop}(h:p:=by
 go_wp2_with ((first|(go_at_call 99;refine gw (HI5.out _) ?_)|(go_at_call 100;refine gv (HN5.out _ (HT1.out.grows growsA)) ?_;intro bs1 d1')|(go_at_call 101;refine gv (HDC.out _ _ ((World.heap_grow _ _ _ (by simp)).trans (heap_new _ _ _ (by simp))) growsA) ?_;intro bs2 d2')|(go_at_call 46;refine gv (HIF.out _ growsA) ?_;intro bs3 d3')))
 go_returns
 exact kV.bad HC.out (gqq HG.out growsA)):p:=h
theorem gz8{p:Prop}(h:p:=by
 go_enter Tryz.func187,Tryz.ntmps187
 apply wp_seq_k;intro K1 hK1;have HK1:=Lib.hid hK1;clear hK1
 go_wp2_with fail
 refine HK1.out _ _ ?_;clear HK1 K1;apply wp_seq_k;intro K2 hK2;have HK2:=Lib.hid hK2;clear hK2
 go_wp2_with fail
 refine HK2.out _ _ ?_;clear HK2 K2;apply wp_seq_k;intro K3 hK3;have HK3:=Lib.hid hK3;clear hK3
 go_wp2_with fail
 refine HK3.out _ _ ?_;rw [HF.out]
 exact Qb _ _ _ _ _ w MV (Lib.hid (fun w=>QG _ w HE.out)) ..):p:=h
theorem gz9{p:Prop}(h:p:=by
 refine kq 0 hS ?_;refine kq 1 hS ?_;refine kq 2 hS ?_;refine kq 3 hS ?_;refine kq 4 hS ?_;refine kq 5 hS ?_;refine TS.one (i:=6) (by kernel_rfl) rfl (fun K1 hK1=>?_);have HK1:=Lib.hid hK1;clear hK1 hS;dsimp only [List.getElem_toArray,List.getElem_cons_succ,List.getElem_cons_zero]
 go_simp
 go_at_call 143
 refine gv (HN.out _) ?_;intro bs2 d2;refine TS.go HK1.out growsR (fun hS=>?_);clear HK1 K1
 (try simp only [nS])
 refine kq 7 hS ?_;refine kq 8 hS ?_;refine kq 9 hS ?_;refine TS.one (i:=10) (by kernel_rfl) rfl (fun K1 hK1=>?_);have HK1:=Lib.hid hK1;clear hK1 hS;dsimp only [List.getElem_toArray,List.getElem_cons_succ,List.getElem_cons_zero]
 go_simp
 refine TS.go HK1.out growsR (fun hS=>?_);clear HK1 K1
 (try simp only [nS])
 refine TS.weB 11 ?_;cases dk
 ·go_wp2_with (go_at_call 144;refine(HFD.out _ growsR).mono ?_;rintro e' w' ⟨sx,rfl,-,bs3,d3,rfl⟩)
  go_returns
  exact .no HCC.out (by unfold exV;rw [HOH.out]) growsR
 ·go_wp2_with (go_at_call 144;refine(HFD.out _ growsR).mono ?_;rintro e' w' ⟨sx,rfl,-,bs3,d3,rfl⟩)
  go_returns
  exact .yes HCC.out growsR):p:=h
theorem Ps{p:Prop}(h:p:=by
 clear hs hno HDEC h1
 go_wp2_with ((go_at_call 187;(with_reducible refine gv (HD.out _) ?_);intro bsd drd))
 all_goals
  go_returns
  exact dX.no HO.out (.of_below af)):p:=h
theorem TH{p:Prop}(h:p:=by
 clear h
 go_enter Tryz.func81,Tryz.ntmps81
 go_wp2_with (first|(go_at_call 128;refine gv (HT.out _ ((by repeat' (first|(with_reducible exact HR.out)|(with_reducible exact HR1.out)|(with_reducible refine bO.grow ?_ _ _)|(with_reducible refine bO.alloc ?_ _)|(with_reducible refine bO.drew ?_))))) ?_;intro bs0 d0)|((go_at_call 81;refine(HS.out _ ((by repeat' (first|(with_reducible exact HR.out)|(with_reducible exact HR1.out)|(with_reducible refine bO.grow ?_ _ _)|(with_reducible refine bO.alloc ?_ _)|(with_reducible refine bO.drew ?_))))).mono ?_;rintro e' w' ⟨v,bs,d,rfl,rfl,HRP⟩;obtain⟨va,vc,rfl⟩:=ax.form HRP;have HRP:=Lib.hid HRP)))
 go_returns
 exact ExQ.of growsR ((HRP.out.keep (by simp;try omega) fun b o hb hlt=>World.cell?_of_block (Ov w g _ _ _ bs0 bs _ _ _ b (by simpa using hb))).mono fun b hb=>by simp at hb;omega)):p:=h
theorem Jq{p:Prop}(h:p:=by
 go_wp2_with fail
 go_returns
 exact⟨rfl,rfl⟩):p:=h
theorem TF{p:Prop}(h:p:=by
 (try simp only [nS])
 refine TS.one (i:=17) (by kernel_rfl) rfl (fun K1 hK1=>?_)
 go_simp
 refine TS.go hK1 ?_ (fun hS=>?_)
 focus
  (try dsimp only)
  (refine⟨?_, ?_, ?_⟩<;>simp [go_sem,c0,c1,e1,hg,hb])
 clear hK1 K1
 (try simp only [nS])
 refine TS.one (i:=18) (by kernel_rfl) rfl (fun K1 hK1=>?_)
 go_simp
 refine TS.go hK1 ?_ (fun hS=>?_)
 focus
  (try dsimp only)
  (refine⟨?_, ?_, ?_⟩<;>simp [go_sem,c0,c1,e1,hg,hb])
 clear hK1 K1
 (try simp only [nS])
 refine TS.one (i:=19) (by kernel_rfl) rfl (fun K1 hK1=>?_)
 go_simp
 refine hK1 _ _ (fun h=>absurd (by decide) h) (TS.done (by kernel_rfl) ?_);clear hK1 K1
 (try simp only [nS])
 go_wp2_with fail
 go_returns
 exact ExQ.of (E:=.mk 1 m 1 2 ByteArray.empty []) (growsR:World.Grows (w.setCell ⟨g,1,none⟩ (.int .i64 ((p:Int)+1))) _) (.nil (Oi m hm) rfl)):p:=h
theorem TE{p:Prop}(h:p:=by
 go_wp2_with ((go_at_call 187;(with_reducible refine gv (HD.out _) ?_);intro bsd drd))
 go_returns
 exact dX.no HO.out (.of_below af)):p:=h
theorem TD{p:Prop}(h:p:=by
 by_cases cd:d=1
 focus
  subst cd
  go_enter Tryz.func145,Tryz.ntmps145
 rotate_left
 focus
  go_enter Tryz.func145,Tryz.ntmps145
 rotate_left
 all_goals
  go_wp2_with ((first|(go_at_call 97;(with_reducible refine gv (ik _ _ _ (by omega) (by omega) (by omega) (by omega)) ?_);intro bs dr;simp only [hv])|(go_at_call 93;(with_reducible refine gw (jY _ _ (by omega) (by omega)) ?_))|(go_at_call 188;(with_reducible refine gw (rM _ _ (by omega) (by omega)) ?_))))
  go_returns
  exact⟨FU (by simp [xC, *]<;>(intro _;omega)),.of_below af⟩):p:=h
theorem TC{p:Prop}(h:p:=by
 by_cases h0:rc=0
 ·subst h0;cases dk
  ·go_wp2_with (go_at_call 144;refine(HFD.out _ growsR).mono ?_;rintro e' w' ⟨sx,rfl,-,bs3,d3,rfl⟩)
   go_returns
   exact .no HCC.out (by unfold exV;rw [HOH.out]) growsR
  ·go_wp2_with (go_at_call 144;refine(HFD.out _ growsR).mono ?_;rintro e' w' ⟨sx,rfl,-,bs3,d3,rfl⟩)
   go_returns
   exact .yes HCC.out growsR
 ·have h1:(rc !=0)=true:=by simpa using h0
  rw [if_neg (fun c=>h0 c.1)]at HCC;clear h0;cases dk
  all_goals
   go_wp2_with (go_at_call 144;refine(HFD.out _ growsR).mono ?_;rintro e' w' ⟨sx,rfl,-,bs3,d3,rfl⟩)
   go_returns
   exact .no HCC.out (by unfold exV;rw [HOH.out]) growsR):p:=h
theorem RA{p:Prop}(h:p:=by
 clear HR;have HR:=Lib.hid hR;have HX:=Lib.hid hX;clear hR hX
 go_enter Tryz.func151,Tryz.ntmps151
 by_cases e1:x=1
 focus
  subst e1
 rotate_left
 focus
  have f1:(x==1)=false:=by simpa using e1
  have g1:(1==x)=false:=by simpa using fun h=>e1 h.symm
 rotate_left
 all_goals
  exact gz0):p:=h
theorem Rz{p:Prop}(h:p:=by
 clear HR;have HR:=Lib.hid hR;have HX:=Lib.hid hX;clear hR hX
 go_enter Tryz.func90,Tryz.ntmps90
 by_cases e1:x=1
 focus
  subst e1
 rotate_left
 focus
  have f1:(x==1)=false:=by simpa using e1
  have g1:(1==x)=false:=by simpa using fun h=>e1 h.symm
 rotate_left
 all_goals
  exact gz1):p:=h
theorem TB{p:Prop}(h:p:=by
 have hn:an.natAbs*bd.natAbs=bn.natAbs*ad.natAbs:=by rw [←Int.natAbs_mul,h,Int.natAbs_mul]
 have d1:ad.natAbs ∣ bd.natAbs:=Nat.Coprime.dvd_of_dvd_mul_left (k:=ad.natAbs) (m:=an.natAbs) (Nat.Coprime.symm p) ⟨bn.natAbs,by rw [hn,Nat.mul_comm]⟩;have d2:bd.natAbs ∣ ad.natAbs:=Nat.Coprime.dvd_of_dvd_mul_left (k:=bd.natAbs) (m:=bn.natAbs) (Nat.Coprime.symm q) ⟨an.natAbs,by rw [←hn,Nat.mul_comm]⟩;have e:=Nat.dvd_antisymm d1 d2;have e':ad=bd:=by omega
 subst e'
 exact⟨Int.eq_of_mul_eq_mul_right (by omega) h,rfl⟩):p:=h
theorem Ry{p:Prop}(h:p:=by
 rw [hs]at HD;simp only [mD]at HD;have HO:=Lib.hid (And.intro hy ht);clear hs hy ht HDEC
 go_wp2_with ((go_at_call 187;(with_reducible refine gv (HD.out _) ?_);intro bsd drd))
 go_returns
 exact dX.yes HO.out.1 HO.out.2 (.of_below af)):p:=h
theorem TA{p:Prop}(h:p:=by
 intro e' u hu;refine(hu.mono' (S':=fun b=>(base≤b∧v.ownBlock≠some b)∧g≠b) ?_|>.keep hg.size ?_).mono ?_
 ·rintro b ⟨h1,h2⟩ hlt;refine⟨⟨h1,h2⟩, ?_⟩;rcases hat with hat|hat
  ·intro e;exact h2 (by rw [hat,e])
  ·omega
 ·rintro b o ⟨⟨_,h2⟩,_⟩ hlt;exact World.cell?_of_block (hg.block b hlt (Ne.symm h2))
 ·rintro b ⟨⟨h1,_⟩,h3⟩
  exact⟨h1,by simpa [Value.ownBlock]using h3⟩):p:=h
theorem Pq{p:Prop}(h:p:=by
 match xs,hlen with
 | [a,b],_=>exact⟨a,b,rfl⟩
 | [],h=>simp [aJ]at h
 | [_],h=>simp [aJ]at h
 |_::_::_::_,h=>simp [aJ]at h;omega):p:=h
theorem Mv{p:Prop}(h:p:=by
 go_enter Tryz.func59,Tryz.ntmps59
 go_wp2
 go_returns
 exact⟨ret_int (by simp [aJ];omega),rfl⟩):p:=h
theorem Tz{p:Prop}(h:p:=by
 have HP:Hid (∀w',w.Grows w'→Mm a w (.returned (.tuple #[.int .i64 0,.bool false])) w'):=Lib.hid (fun w' hg=>⟨by unfold Jm;rw [if_neg (by omega),decide_eq_false (by omega)],hg⟩)
 go_enter Tryz.func110,Tryz.ntmps110
 go_wp2_with (go_at_call 56;refine gw (qV _) ?_)
 go_returns
 exact HP.out _ growsR):p:=h
theorem Pp{p:Prop}(h:p:=by
 go_enter Tryz.func144,Tryz.ntmps144
 go_wp2_with fail
 go_returns
 exact dX.no (JJ (by omega)) (.of_below af)):p:=h
theorem Mt{p:Prop}(h:p:=by
 go_enter Tryz.func62,Tryz.ntmps62
 go_wp2_with fail
 go_returns
 exact⟨rfl,.of_below af⟩):p:=h
theorem Ty{p:Prop}(h:p:=by
 refine⟨?_, ?_, ?_, ?_⟩
 ·rw [hh _ (by omega) (by omega)];exact HM.out.nm
 ·rw [Below.heap_setCell _ _ _ _ (by show w.heap.size+1≠w.heap.size+2;omega)];exact Joins.block_setCell HM.out.res _
 ·exact Joins.block_setCell ((Below.heap_setCell _ _ _ _ (by show w.heap.size+2≠w.heap.size+1;omega)).trans HM.out.ok) _
 ·simp;omega):p:=h
theorem Tx{p:Prop}(h:p:=by
 go_enter Tryz.func200,Tryz.ntmps200
 go_wp2_with ((first|(go_at_call 209;(with_reducible refine gw (dV _ _) ?_);simp only [hL])|(go_at_call 210;(with_reducible refine gw (iB _ _) ?_);simp only [hI])))
 go_ret
 exact⟨av hw.symm,rfl⟩):p:=h
theorem uH{p:Prop}(h:p:=by
 go_returns
 exact⟨rfl,growsR⟩):p:=h
theorem AC{p:Prop}(h:p:=by
 go_enter Tryz.func88,Tryz.ntmps88
 exact Jq):p:=h
theorem Po{p:Prop}(h:p:=by
 rw [List.take_succ_eq_append_getElem hk,List.getD_eq_getElem?_getD,List.getElem?_eq_getElem hk];rfl):p:=h
theorem Rx{p:Prop}(h:p:=by
 go_enter Tryz.func103,Tryz.ntmps103
 go_wp2
 go_returns
 exact⟨av (by first|rfl|(simp;done)|(simp;omega)),.of_below af⟩):p:=h
theorem Rw{p:Prop}(h:p:=by
 rw [hs]at HD;simp only [mD]at HD;have HO:=Lib.hid hno;have q1:(a==n)=false:=by simpa using h1
 clear hs hno HDEC h1
 exact TE):p:=h
theorem Tw{p:Prop}(h:p:=by
 go_wp2_with ((first|(go_at_call 43;refine gw (HI5.out _) ?_)|(go_at_call 44;refine gw (HN5.out _) ?_)))
 go_returns
 exact rR.bad HC.out (gqq HG.out growsA)):p:=h
theorem EO{p:Prop}(h:p:=by
 go_enter Tryz.func58,Tryz.ntmps58
 exact Jq):p:=h
theorem Rv{p:Prop}(h:p:=by
 rw [hs]at HD;simp only [mD]at HD;have HO:=Lib.hid hno;have q1:(b==d)=false:=by simpa using h1
 exact Ps):p:=h
theorem Ru{p:Prop}(h:p:=by
 clear HR;have HR:=Lib.hid hR;have HX:=Lib.hid hX;clear hR hX
 go_enter Tryz.func151,Tryz.ntmps151
 exact gz0):p:=h
theorem Rt{p:Prop}(h:p:=by
 clear HR;have HR:=Lib.hid hR;have HX:=Lib.hid hX;clear hR hX
 go_enter Tryz.func90,Tryz.ntmps90
 exact gz1):p:=h
theorem Tv{p:Prop}(h:p:=by
 exact⟨Int.emod_eq_zero_of_dvd (Int.natAbs_dvd_natAbs.1 (Nat.dvd_trans h (Nat.gcd_dvd_left _ _))),Int.emod_eq_zero_of_dvd (Int.natAbs_dvd_natAbs.1 (Nat.dvd_trans h (Nat.gcd_dvd_right _ _)))⟩):p:=h
theorem Tu{p:Prop}(h:p:=by
 obtain⟨h0,a,cap,hv,h1⟩:=h;refine⟨h0,a,cap,hv,h1.imp id ?_⟩;rintro⟨b,off,ha,hb,hc⟩;have:=hg.below.size
 exact⟨b,off,ha,by omega,fun i hi=>(hc i hi).imp fun u hu=>hu.same hg hb⟩):p:=h
theorem Tt{p:Prop}(h:p:=by
 simp only [World.src,World.setCell]
 congr 1
 apply Array.ext_getElem?;intro k;simp only [Array.getElem?_modify,Array.getElem?_setIfInBounds];by_cases hk:s=k
 ·subst hk;simp [h]
 ·simp [hk]):p:=h
theorem Pn{p:Prop}(h:p:=by
 go_wp2
 go_returns
 exact⟨av (by simp [nI];omega),rfl⟩):p:=h
theorem Pm{p:Prop}(h:p:=by
 go_wp2
 go_returns
 exact⟨av (by simp [iI];omega),rfl⟩):p:=h
theorem Tq{p:Prop}(h:p:=by
 match xs,hlen with
 | [a,b,c],_=>exact⟨a,b,c,rfl⟩
 | [],h=>simp [aJ]at h
 | [_],h=>simp [aJ]at h
 | [_,_],h=>simp [aJ]at h
 |_::_::_::_::_,h=>simp [aJ]at h;omega):p:=h
theorem Rq{p:Prop}(h:p:=by
 rw [hn]at HD;simp only [mD]at HD;have HO:=Lib.hid hno;clear hn hno HDEC
 exact TE):p:=h
theorem Pk{p:Prop}(h:p:=by
 go_wp2_with fail
 go_quiet (fail)
 go_wp2_with fail
 exact uH):p:=h
theorem Ms{p:Prop}(h:p:=by
 go_enter Tryz.func155,Tryz.ntmps155
 exact Jq):p:=h
theorem Tp{p:Prop}(h:p:=by
 obtain⟨e0,e1,e2⟩:=hc k hk
 exact⟨(World.cell?_of_block hw).trans e0,(World.cell?_of_block hw).trans e1,(World.cell?_of_block hw).trans e2⟩):p:=h
theorem Tn{p:Prop}(h:p:=by
 have:=h.st j hj
 cases ht:T.getD j none with
 |none=>rw [ht]at this;exact bX.same this c
 |some t=>rw [ht]at this;exact bX.same this c):p:=h
theorem Tm{p:Prop}(h:p:=by
 split at hr<;>rename_i c1
 ·rw [if_pos c1];omega
 ·rw [if_neg c1]
  split at hr<;>rename_i c2
  ·rw [if_pos c2];omega
  ·exact absurd rfl hr):p:=h
theorem Tj{p:Prop}(h:p:=by
 cases k with
 |zero=>exact absurd rfl hk
 |succ k=>rw [List.getD_cons_succ,List.getD_eq_getElem?_getD,List.getElem?_replicate];split<;>rfl):p:=h
theorem Ti{p:Prop}(h:p:=by
 go_wp2
 all_goals first
  |(exfalso;simp_all;done)
  |(go_returns
    exact⟨Il (by simp_all [df]) (by simp_all [df]),rfl⟩)):p:=h
theorem Tg{p:Prop}(h:p:=by
 obtain⟨h0,h1|⟨g,cap,cur,hv,hbg,hr⟩⟩:=h
 ·exact⟨h0,.inl h1⟩
 ·exact⟨h0,.inr ⟨g,cap,cur,hv,Nat.le_trans hb hbg,hr⟩⟩):p:=h
theorem Tf{p:Prop}(h:p:=by
 go_returns
 exact⟨av (by unfold bB;rw [decide_eq_true (by omega),decide_eq_true (by omega)];rfl),.of_below af⟩):p:=h
theorem Te{p:Prop}(h:p:=by
 go_returns
 exact⟨av (by unfold bB;rw [decide_eq_false (show ¬e.depth≤10 by omega)];simp),.of_below af⟩):p:=h
theorem Td{p:Prop}(h:p:=by
 split
 ·exact .inl ⟨rfl,Val.num_ok (by omega) h1.2.2.2,rfl⟩
 ·exact .inl ⟨rfl,Val.num_ok (by omega) h2.2.2.2,rfl⟩):p:=h
theorem Tc{p:Prop}(h:p:=by
 go_returns
 exact⟨av (by unfold bB;rw [decide_eq_false (show ¬e.size≤60 by omega)];simp),.of_below af⟩):p:=h
theorem Ta{p:Prop}(h:p:=by
 go_wp2
 all_goals first
  |(exfalso;simp_all;done)
  |(go_returns
    exact⟨av (by simp_all [Pg,SG]),rfl⟩)):p:=h
theorem S9{p:Prop}(h:p:=by
 intro k;simp only [Option.some.injEq]at k;rw [k]at hc;rcases hc with hc|hc
 ·revert hc;decide
 ·revert hc;decide):p:=h
theorem SY{p:Prop}(h:p:=by
 rw [qB,qB,List.set_append_right _ _ (by rw [uA];omega),uA,Nat.add_sub_cancel_left];rfl):p:=h
theorem SX{p:Prop}(h:p:=by
 rcases h.own.2 with ⟨rfl,h0⟩|⟨g,cap,cur,rfl,_⟩
 ·exact⟨none,0,by rw [h0]⟩
 ·exact⟨_,cap,rfl⟩):p:=h
theorem SV{p:Prop}(h:p:=by
 simp only [intOf]
 rw [show({data:=#[48,49,50,51,52,53,54,55,56,57]}:ByteArray)=oU from rfl,hpc.out];omega):p:=h
theorem Rp{p:Prop}(h:p:=by
 rw [List.map_append,h,List.range_succ,List.map_append];rfl):p:=h
theorem SS{p:Prop}(h:p:=by
 apply Nat.lt_of_not_le;intro hc
 rw [List.getD_eq_getElem?_getD,List.getElem?_eq_none hc]at h;cases h):p:=h
theorem SQ{p:Prop}(h:p:=by
 go_wp2_with fail
 go_returns
 exact kC (by rw [HF.out,if_neg (by omega),if_pos ho]) (.of_below af)):p:=h
theorem Pj{p:Prop}(h:p:=by
 go_returns
 exact⟨rfl,.of_below af⟩):p:=h
theorem Jp{p:Prop}(h:p:=by
 have:=OV hok
 exact this):p:=h
theorem SN{p:Prop}(h:p:=by
 exact⟨b,off,ha,by omega,fun i hi=>(World.cell?_of_block (hg.below.block b hb)).trans (hc i hi)⟩):p:=h
theorem SL{p:Prop}(h:p:=by
 unfold Ex.arg
 rw [List.getD_eq_getElem?_getD,List.getElem?_eq_getElem hi];exact List.getElem_mem hi):p:=h
theorem SK{p:Prop}(h:p:=by
 rcases h.at_ with e1|⟨b,e1,hb⟩
 ·exact .inl (e2.trans e1)
 ·exact .inr ⟨b,e2.trans e1,hb⟩):p:=h
end Go
