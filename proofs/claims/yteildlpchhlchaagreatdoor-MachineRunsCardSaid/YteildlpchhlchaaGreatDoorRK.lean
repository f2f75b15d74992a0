import Derived.Test.YteildlpchhlchaaGreatDoorRBase
import Derived.Lib.Hide
import Derived.Maps.Range
import Derived.Laws.AppendOwnNone
import Derived.Laws.OwnMore
import Derived.Laws.BytesArg
import Derived.Deep.CutBlock
import Derived.Deep.CutRange
import Derived.Deep.DeepCutAuto
import Derived.Deep.MidRow
import Derived.RangeFuncNested
import Derived.RangeFuncBound
import Derived.RangeFuncCalls
import Derived.RangeFuncLeaves
import Derived.Shelf.Abstract
import Derived.Shelf.RegionOpen
import Derived.OwnWalkIn
import Derived.TacticsInMore
import Derived.LoopNIn
import Derived.LoopIn
import Derived.Deep.QuietTactic
import Derived.BigRegion
import Derived.Deep.Matrix
import Derived.Deep.Fields
import Derived.OpenShut
import Derived.Sort.OwnSortedInts
import Derived.RangeFuncBox
import Derived.Maps.AppendAt
import Derived.Ground.Names2Prog
import Derived.Laws.Strings
import Derived.Deep.Slices
import Derived.ArgAppend
import Derived.Deep.OwnRows
import Derived.JoinedOf
set_option linter.all false
set_option maxHeartbeats 16000000
set_option maxRecDepth 1000000
namespace Go
theorem ze{p:Prop}(h:p:=by simp):p:=h
theorem zb{p:Prop}(h:p:=by omega):p:=h
theorem zf{p:Prop}(h:p:=by decide):p:=h
theorem zD{p:Prop}(h:p:=by cases h):p:=h
theorem zY{p:Prop}(h:p:=by simp;done):p:=h
theorem zd{p:Prop}(h:p:=by kernel_rfl):p:=h
theorem zg{p:Prop}(h:p:=by simp;omega):p:=h
theorem zm{p:Prop}(h:p:=by assumption):p:=h
theorem zk{p:Prop}(h:p:=by rw [hl];rfl):p:=h
theorem zx{p:Prop}(h:p:=by simp<;>omega):p:=h
theorem zq{p:Prop}(h:p:=by simp [go_sem]):p:=h
theorem zt{p:Prop}(h:p:=by decide+kernel):p:=h
theorem zy{p:Prop}(h:p:=by simpa using h):p:=h
theorem zG{p:Prop}(h:p:=by simpa using hi):p:=h
theorem zX{p:Prop}(h:p:=by simp;try omega):p:=h
theorem yp{p:Prop}(h:p:=by simpa using hs):p:=h
theorem yJ{p:Prop}(h:p:=by simpa using h0):p:=h
theorem yK{p:Prop}(h:p:=by simpa using x0):p:=h
theorem yo{p:Prop}(h:p:=by rw [HF.out];rfl):p:=h
theorem yI{p:Prop}(h:p:=by rw [hx];exact o):p:=h
theorem zi{p:Prop}(h:p:=by simp [go_sem,hs]):p:=h
theorem zC{p:Prop}(h:p:=by have:=HR.n;omega):p:=h
theorem zF{p:Prop}(h:p:=by first|rfl|trivial):p:=h
theorem zW{p:Prop}(h:p:=by rw [←HCC.out];rfl):p:=h
theorem zz{p:Prop}(h:p:=by have:=HS.out;omega):p:=h
theorem zB{p:Prop}(h:p:=by have:=HO.out;omega):p:=h
theorem zV{p:Prop}(h:p:=by have:=HP.out;omega):p:=h
theorem yk{p:Prop}(h:p:=by have:=HN.out;omega):p:=h
theorem yH{p:Prop}(h:p:=by have:=HM.out;omega):p:=h
theorem zn{p:Prop}(h:p:=by have:=HLN.out;omega):p:=h
theorem zu{p:Prop}(h:p:=by unfold maxLen;omega):p:=h
theorem zJ{p:Prop}(h:p:=by have:=HAE.out;omega):p:=h
theorem zT{p:Prop}(h:p:=by have:=HKK.out;omega):p:=h
theorem zU{p:Prop}(h:p:=by rw [ry];omega):p:=h
theorem yD{p:Prop}(h:p:=by have:=H2S.out;omega):p:=h
theorem yE{p:Prop}(h:p:=by have:=HMM.out;omega):p:=h
theorem yF{p:Prop}(h:p:=by have:=HOP.out;omega):p:=h
theorem yG{p:Prop}(h:p:=by rw [sI];omega):p:=h
theorem yB{p:Prop}(h:p:=by rw [←HRF.out,HE.out]):p:=h
theorem yC{p:Prop}(h:p:=by simp [World.setCell]):p:=h
theorem xe{p:Prop}(h:p:=by rw [←HX.out,←HZ.out]):p:=h
theorem zw{p:Prop}(h:p:=by have:=hdeep.out;omega):p:=h
theorem zA{p:Prop}(h:p:=by simp [Value.ownBlock]):p:=h
theorem xa{p:Prop}(h:p:=by rw [hn]at ht;cases ht):p:=h
theorem xc{p:Prop}(h:p:=by simp only [c1,c2];rfl):p:=h
theorem zM{p:Prop}(h:p:=by have:=HB9.out b e;omega):p:=h
theorem zS{p:Prop}(h:p:=by rw [HX.out];exact HT.out):p:=h
theorem yA{p:Prop}(h:p:=by show w.heap.size<_;omega):p:=h
theorem zI{p:Prop}(h:p:=by first|omega|(simp<;>omega)):p:=h
theorem yU{p:Prop}(h:p:=by have:=H1.out.bW;simp;omega):p:=h
theorem yW{p:Prop}(h:p:=by have:=H3.out.bW;simp;omega):p:=h
theorem yX{p:Prop}(h:p:=by have:=H5.out.bW;simp;omega):p:=h
theorem yY{p:Prop}(h:p:=by have:=H7.out.bW;simp;omega):p:=h
theorem yZ{p:Prop}(h:p:=by simpa [Value.cells]using h):p:=h
theorem zL{p:Prop}(h:p:=by show w.heap.size+1+1<_;omega):p:=h
theorem zr{p:Prop}(h:p:=by simp [go_sem,hs,AL]):p:=h
theorem yz{p:Prop}(h:p:=by unfold maxLen;have:=HR.n;omega):p:=h
theorem yS{p:Prop}(h:p:=by have:=H1.out.pre.bs;simp;omega):p:=h
theorem yT{p:Prop}(h:p:=by have:=H3.out.pre.bs;simp;omega):p:=h
theorem zR{p:Prop}(h:p:=by have:=He.out;have:=HA.out;omega):p:=h
theorem zQ{p:Prop}(h:p:=by unfold maxLen;have:=HS.out;omega):p:=h
theorem yj{p:Prop}(h:p:=by unfold maxLen;have:=HN.out;omega):p:=h
theorem zE{p:Prop}(h:p:=by have:=HKN.out;have:=HNL.out;omega):p:=h
theorem zH{p:Prop}(h:p:=by unfold maxLen;have:=HLN.out;omega):p:=h
theorem zP{p:Prop}(h:p:=by unfold maxLen;have:=HKK.out;omega):p:=h
theorem yi{p:Prop}(h:p:=by have:=HKN.out;have:=HN5.out;omega):p:=h
theorem yx{p:Prop}(h:p:=by intro u hu;simp at hu;subst hu;rfl):p:=h
theorem zK{p:Prop}(h:p:=by unfold VwR.d;rw [if_pos (by omega)]):p:=h
theorem yg{p:Prop}(h:p:=by show wc.heap.size<wc.heap.size+1;omega):p:=h
theorem yw{p:Prop}(h:p:=by have:=HW1.out;simp [World.setCell];omega):p:=h
theorem xO{p:Prop}(h:p:=by rw [←HGO.out,goB,HTT.out];simp only [hr]):p:=h
theorem yR{p:Prop}(h:p:=by rw [World.cell?_alloc_at _ _ _ _ rfl];rfl):p:=h
theorem yu{p:Prop}(h:p:=by have:=hbig.out;have:=HA.out;show _≤_;omega):p:=h
theorem yt{p:Prop}(h:p:=by first|exact aO|exact .of_below au):p:=h
theorem yQ{p:Prop}(h:p:=by have h:=H7.out.enr;rw [kE]at h;exact h):p:=h
theorem yP{p:Prop}(h:p:=by have h:=H5.out.slr;rw [iB]at h;exact h):p:=h
theorem xN{p:Prop}(h:p:=by have:=ed R.base 1000000 (by omega);omega):p:=h
theorem ye{p:Prop}(h:p:=by unfold maxLen;have:=HKN.out;have:=HN5.out;omega):p:=h
theorem xL{p:Prop}(h:p:=by have:=(hl.word j (by omega)).1;simpa using this):p:=h
theorem xM{p:Prop}(h:p:=by rw [HF.out,decide_eq_false (fun h=>g2 h.1)];rfl):p:=h
theorem xK{p:Prop}(h:p:=by unfold dJ;rw [if_neg (by rw [hv];simp [hd])]):p:=h
theorem zZ{p:Prop}(h:p:=by rw [HF2.out];try exact decide_eq_false (by omega)):p:=h
theorem yO{p:Prop}(h:p:=by unfold dX;rw [decide_eq_false (by omega)];rfl):p:=h
theorem xJ{p:Prop}(h:p:=by unfold aN;rw [EN hm,LH hm,hy];simp [ho]):p:=h
theorem yN{p:Prop}(h:p:=by intro u hu;simp at hu;rcases hu with rfl|rfl<;>rfl):p:=h
theorem xI{p:Prop}(h:p:=by rw [fZ,if_pos h];exact List.mem_cons_self ..):p:=h
theorem xG{p:Prop}(h:p:=by rw [←List.length_append,←HL3.out];have:=HLN.out;omega):p:=h
theorem xH{p:Prop}(h:p:=by rw [←List.length_append,←HL6.out];have:=HLN.out;omega):p:=h
theorem xF{p:Prop}(h:p:=by intro e;have:=congrArg Addr.block e;simp at this;omega):p:=h
theorem zp{p:Prop}(h:p:=by first|exact⟨_,_,World.grow_grow _ _ _ _ _⟩|exact⟨_,_,rfl⟩):p:=h
theorem zv{p:Prop}(h:p:=by intro u hu;simp at hu;rcases hu with rfl|rfl|rfl|rfl<;>rfl):p:=h
theorem xD{p:Prop}(h:p:=by intro u hu;simp at hu;rcases hu with rfl|rfl|rfl|rfl|rfl<;>rfl):p:=h
theorem xE{p:Prop}(h:p:=by unfold wfF;rw [if_neg h1,if_neg (by simp),if_neg h2,if_pos h3]):p:=h
theorem zO{p:Prop}(h:p:=by rw [HQ.out];first|rw [if_pos (by omega)]|rw [if_neg (by omega)]):p:=h
theorem xC{p:Prop}(h:p:=by rw [kD,List.length_take];have:=HKN.out;have:=HNL.out;omega):p:=h
theorem yM{p:Prop}(h:p:=by show(WR.alloc _).cell? _=_;rw [World.cell?_alloc_at _ _ _ _ rfl];rfl):p:=h
theorem xA{p:Prop}(h:p:=by unfold aN;rw [if_neg o1,if_neg o2,if_neg o3,if_neg o4,if_pos o5,if_pos e]):p:=h
theorem xB{p:Prop}(h:p:=by unfold wfF;rw [if_pos rfl,decide_eq_false (show ¬(a=2∨a=3∨a=4)by omega)];rfl):p:=h
theorem xy{p:Prop}(h:p:=by first|exact⟨_,_,World.grow_grow _ _ _ _ _⟩|exact⟨_,_,rfl⟩|exact .of_below au):p:=h
theorem xz{p:Prop}(h:p:=by unfold aN;rw [if_neg o1,if_neg o2,if_neg o3,if_neg o4,if_neg o5,if_pos o23]):p:=h
theorem xx{p:Prop}(h:p:=by rw [List.getElem?_map,List.getD_eq_getElem?_getD,List.getElem?_eq_getElem hk];rfl):p:=h
theorem xw{p:Prop}(h:p:=by unfold wfF;rw [if_neg h1,if_neg (by simp),if_neg h2,if_neg h3,if_neg h5,if_pos h21]):p:=h
theorem xv{p:Prop}(h:p:=by rw [List.getD_eq_getElem?_getD,List.getElem?_eq_getElem hlt];exact List.getElem_mem _):p:=h
theorem xu{p:Prop}(h:p:=by unfold aN;rw [if_neg o1,if_neg o2,if_neg o3,if_neg o4,if_neg o5,if_neg o23,if_pos o21]):p:=h
theorem xq{p:Prop}(h:p:=by rw [List.drop_eq_getElem_cons hlt,List.getD_eq_getElem?_getD,List.getElem?_eq_getElem hlt];rfl):p:=h
theorem xr{p:Prop}(h:p:=by unfold wfF;rw [if_neg h1,if_neg (by simp),if_neg h2,if_neg h3,if_neg h5,if_neg h21,if_neg h23]):p:=h
theorem xt{p:Prop}(h:p:=by unfold wfF;rw [if_neg h1,if_neg (by simp),if_neg h2,if_neg h3,if_neg h5,if_neg h21,if_pos h23]):p:=h
theorem xp{p:Prop}(h:p:=by rw [←HGO.out];exact Av (Kk HSI.out HAP2.out H24.out HO.out.1 (by rw [HQ.out];exact hp))):p:=h
theorem xo{p:Prop}(h:p:=by unfold aN;rw [if_neg o1,if_neg o2,if_neg o3,if_neg o4,if_neg o5,if_neg o23,if_neg o21,if_pos o22]):p:=h
theorem xj{p:Prop}(h:p:=by unfold aN;rw [if_neg o1,if_neg o2,if_neg o3,if_neg o4,if_neg o5,if_neg o23,if_neg o21,if_neg o22,if_pos e]):p:=h
theorem xi{p:Prop}(h:p:=by rw [show((WR.alloc (.cells #[.int .i64 x] 3)).drew).cell? ⟨b,off,none⟩=WR.cell? ⟨b,off,none⟩from World.cell?_alloc_lt WR _ ⟨b,off,none⟩ hbw];exact x0):p:=h
theorem yL{p:Prop}(h:p:=by rw [show((WR.alloc (.cells #[.int .i64 x] 3)).drew).cell? ⟨b,off+k,none⟩=WR.cell? ⟨b,off+k,none⟩from World.cell?_alloc_lt WR _ ⟨b,off+k,none⟩ hbw];exact x0):p:=h
theorem zo{p:Prop}(h:p:=by(repeat' (first|(with_reducible exact he.out)|(with_reducible refine bz.alloc ?_ _)|(with_reducible refine bz.grow ?_ _ _)|(with_reducible refine bz.drewN ?_ _)|(with_reducible refine bz.src ?_ _ _ _)))):p:=h
theorem zj{p:Prop}(h:p:=by(repeat' (first|(with_reducible exact hl.out)|(with_reducible refine aR.alloc ?_ _)|(with_reducible refine aR.grow ?_ _ _)|(with_reducible refine aR.drewN ?_ _)|(with_reducible refine aR.src ?_ _ _ _)))):p:=h
theorem xg{p:Prop}(h:p:=by first|(show(w2.setCell _ _).cell? _=_;exact(World.cell?_setCell_other _ _ _ _ (by intro e;have:=congrArg Addr.block e;simp at this;omega)).trans y8)|(show((w.setCell _ _).alloc _).cell? _=_;rw [World.cell?_alloc_at _ _ _ _ (by simp [World.setCell])];rfl)):p:=h
theorem zN{p:Prop}(h:p:=by(repeat' (first|(with_reducible exact Below.refl _ _)|(with_reducible assumption)|(with_reducible refine Below.grow ?_ ?_ _ _)|(with_reducible refine Below.alloc ?_ ?_ _)|(with_reducible refine Below.drewN ?_ _)|(with_reducible refine Below.drew ?_)|(with_reducible refine Below.setCell ?_ ?_ _)|go_size))):p:=h
theorem xf{p:Prop}(h:p:=by(repeat' (first|(with_reducible exact Below.refl _ _)|(with_reducible assumption)|(with_reducible refine Below.grow ?_ ?_ _ _)|(with_reducible refine Below.alloc ?_ ?_ _)|(with_reducible refine Below.drewN ?_ _)|(with_reducible refine Below.drew ?_)|(with_reducible refine Below.src ?_ ?_ _ _ _)|(with_reducible refine Below.setCell ?_ ?_ _)|go_size))):p:=h
theorem yq{P:Prop}(h:P):RowKit.Hid P:=h
theorem rz0{p:Prop}(h:p:=by
 go_wp2_with fail
 all_goals try(first|(go_quiet (fail);go_wp2_with fail)|(go_region;go_wp2_with fail))
 all_goals
  go_returns
  have hR:=HR.out;have hX:=HX.out;have h0:∀t:Int,1≤t→(t=0)=False:=fun t h=>eq_false (by omega);simp [ag]at hR;refine Sa ?_ ?_ (.of_below au)
  all_goals
   rw [←hR]
   try((repeat' split)<;>first|(simp_all;done)|(simp [*];done)|(simp_all;omega)|skip)):p:=h
theorem rz1{p:Prop}(h:p:=by
 go_wp2_with fail
 all_goals try(first|(go_quiet (fail);go_wp2_with fail)|(go_region;go_wp2_with fail))
 all_goals
  go_returns
  have hR:=HR.out;have hX:=HX.out;have h0:∀t:Int,1≤t→(t=0)=False:=fun t h=>eq_false (by omega);simp [ag]at hR;refine R9 ?_ (.of_below au);rw [←hR]
  try((repeat' split)<;>first|(simp_all;done)|(simp [*];done)|(simp_all;omega)|skip)):p:=h
theorem rz2{p:Prop}(h:p:=by
 intros
 rename_i Q hpan hQ hR
 have HT:Hid (aN sl v x i stk slots st= .inl (i+1,stk++[⟨1,b,0,0⟩],slots,st)):=Lib.hid (by
  unfold aN
  rcases ho with ⟨h,rfl⟩|⟨h,rfl⟩<;>simp [h,Val.truth])
 rcases ho with ⟨ho,rfl⟩|⟨ho,rfl⟩
 ·have q1:(x.op==1)=false:=by simp;omega
  have q2:(x.op==2)=false:=by simp;omega
  have q3:(x.op==3)=false:=by simp;omega
  have q4:(x.op==4)=false:=by simp;omega
  have q5:(x.op==5)=false:=by simp;omega
  have q23:(x.op==23)=true:=by simpa using ho
  have q24:(x.op==24)=false:=by simp;omega
  have q21:(x.op==21)=false:=by simp;omega
  have q22:(x.op==22)=false:=by simp;omega
  clear ho;obtain⟨i1,hi1,hz11,hz21,hz31⟩:=info_parts dV;obtain⟨ty,hxb⟩:=HX.out;have v0:=cell_of_row W0 _ 0 _ _ _ hxb;have v1:=cell_of_row W0 _ 1 _ _ _ hxb;have v2:=cell_of_row W0 _ 2 _ _ _ hxb;have v3:=cell_of_row W0 _ 3 _ _ _ hxb;have hXB:=(Array.getElem?_eq_some_iff.1 hxb).1;have HXB:=Lib.hid hXB;clear hxb
  conv=>arg 2;whnf
  go_wp2_with ((at_builtin;refine wpList_append_lies _ rfl _ _ 124 rfl base 41 i1 _ 4 32 Tryz.underlying124 hi1 hz11 hz21 hz31 rfl (by decide) vK stk.length (vlV stk) rfl (bB H0.out.stk af) ⟨_,0,none⟩ 1 1 [.int .i64 (1),.bool (true),.int .i64 (0),.int .i64 (0)] rfl rfl (ax _ [.int .i64 (1),.bool (true),.int .i64 (0),.int .i64 (0)] _ _ (by simp)) (by intro u hu;simp at hu;rcases hu with rfl|rfl|rfl|rfl<;>rfl) (by decide) (by unfold maxLen;have:=HS.out;omega) (by have:=HS.out;omega) (by have:=H0.out.bW;simp;omega) _ rfl ?_;intro g4 c4 w4 hown hgrow hgg hgl;have h4:=H0.out.push ⟨1,true,0,0⟩ (n:=stk.length+1) rfl af hgrow hgg (by simp<;>omega) hown;have H4:=Lib.hid h4;clear hown hgrow hgg hgl h4))
  (apply hQ;exact HT;exact H4;exact Lib.hid (by first|rfl|(push_cast;omega)|omega))
 ·have q1:(x.op==1)=false:=by simp;omega
  have q2:(x.op==2)=false:=by simp;omega
  have q3:(x.op==3)=false:=by simp;omega
  have q4:(x.op==4)=false:=by simp;omega
  have q5:(x.op==5)=false:=by simp;omega
  have q23:(x.op==23)=false:=by simp;omega
  have q24:(x.op==24)=true:=by simpa using ho
  have q21:(x.op==21)=false:=by simp;omega
  have q22:(x.op==22)=false:=by simp;omega
  clear ho;obtain⟨i1,hi1,hz11,hz21,hz31⟩:=info_parts dV;obtain⟨ty,hxb⟩:=HX.out;have v0:=cell_of_row W0 _ 0 _ _ _ hxb;have v1:=cell_of_row W0 _ 1 _ _ _ hxb;have v2:=cell_of_row W0 _ 2 _ _ _ hxb;have v3:=cell_of_row W0 _ 3 _ _ _ hxb;have hXB:=(Array.getElem?_eq_some_iff.1 hxb).1;have HXB:=Lib.hid hXB;clear hxb
  conv=>arg 2;whnf
  go_wp2_with ((at_builtin;refine wpList_append_lies _ rfl _ _ 124 rfl base 41 i1 _ 4 32 Tryz.underlying124 hi1 hz11 hz21 hz31 rfl (by decide) vK stk.length (vlV stk) rfl (bB H0.out.stk af) ⟨_,0,none⟩ 1 1 [.int .i64 (1),.bool (false),.int .i64 (0),.int .i64 (0)] rfl rfl (ax _ [.int .i64 (1),.bool (false),.int .i64 (0),.int .i64 (0)] _ _ (by simp)) (by intro u hu;simp at hu;rcases hu with rfl|rfl|rfl|rfl<;>rfl) (by decide) (by unfold maxLen;have:=HS.out;omega) (by have:=HS.out;omega) (by have:=H0.out.bW;simp;omega) _ rfl ?_;intro g4 c4 w4 hown hgrow hgg hgl;have h4:=H0.out.push ⟨1,false,0,0⟩ (n:=stk.length+1) rfl af hgrow hgg (by simp<;>omega) hown;have H4:=Lib.hid h4;clear hown hgrow hgg hgl h4))
  (apply hQ;exact HT;exact H4;exact Lib.hid (by first|rfl|(push_cast;omega)|omega))):p:=h
theorem rz3{p:Prop}(h:p:=by
 intros
 rename_i Q hpan hQ hR
 obtain⟨m,hm⟩:∃m,stk.length=m+1:=⟨stk.length-1,by omega⟩;obtain⟨g,c,rfl,hc⟩:=jh H0.out.stk hk;obtain⟨y,hy⟩:∃y,stk.getD m .zero=y:=⟨_,rfl⟩;obtain⟨s0,s1,s2,s3⟩:=H0.out.val rfl m (by omega);rw [hy]at s0 s1 s2 s3;have HC:=Lib.hid (H0.out.cut rfl (k:=m) (by omega));have hg:=(H0.out.stk.lt g rfl).2;rw [hm]at hc ⊢;have HL:=HS.out;have hw:IntKind.i64.wrap (x.a-1)=x.a-1:=IntWalk.i64_in _ (by omega)
 have hw2:IntKind.i64.wrap (((m+1:Nat):Int)-1)=(m:Int):=by
  rw [show((m+1:Nat):Int)-1=(m:Int)by omega];exact IntWalk.i64_in _ (by omega)
 have hw3:wrap64 (m:Int)=(m:Int):=rU (by omega);clear HL;have j0:(0:Int)≤(m:Int):=by omega
 have j1:(m:Int)<((m+1:Nat):Int):=by omega
 have j2:m<m+1:=by omega
 have j3:(m:Int)≤(c:Int):=by omega
 have HA:=Lib.hid ha;have q1:(x.op==1)=false:=by simp;omega
 have q2:(x.op==2)=false:=by simp;omega
 have q3:(x.op==3)=false:=by simp;omega
 have q4:(x.op==4)=false:=by simp;omega
 have q5:(x.op==5)=false:=by simp;omega
 have q23:(x.op==23)=false:=by simp;omega
 have q24:(x.op==24)=false:=by simp;omega
 have q21:(x.op==21)=false:=by simp;omega
 have q22:(x.op==22)=true:=by simpa using ho
 obtain⟨y1,yb,y2,y3⟩:=y;dsimp only at s0 s1 s2 s3
 cases hyb:yb with
 |true=>
  subst hyb;have hyb:True:=trivial;have HT:Hid (aN sl v x i stk slots st= .inl (i+1,stk.take m,slots,st)):=Lib.hid (by unfold aN;rw [EN hm,LH hm,hy];simp [ho,hyb]);clear ho hyb hy;obtain⟨i1,hi1,hz11,hz21,hz31⟩:=info_parts dV;obtain⟨ty,hxb⟩:=HX.out;have v0:=cell_of_row W0 _ 0 _ _ _ hxb;have v1:=cell_of_row W0 _ 1 _ _ _ hxb;have v2:=cell_of_row W0 _ 2 _ _ _ hxb;have v3:=cell_of_row W0 _ 3 _ _ _ hxb;have hXB:=(Array.getElem?_eq_some_iff.1 hxb).1;have HXB:=Lib.hid hXB;clear hxb
  conv=>arg 2;whnf
  go_wp2_with fail
  (apply hQ;exact HT;exact HC;exact Lib.hid (by have:=HA.out;simp only;omega))
 |false=>
  subst hyb;have hyb:True:=trivial;have HT:Hid (aN sl v x i stk slots st= .inl (x.a.toNat,stk.take m,slots,st)):=Lib.hid (by unfold aN;rw [EN hm,LH hm,hy];simp [ho,hyb]);clear ho hyb hy;obtain⟨i1,hi1,hz11,hz21,hz31⟩:=info_parts dV;obtain⟨ty,hxb⟩:=HX.out;have v0:=cell_of_row W0 _ 0 _ _ _ hxb;have v1:=cell_of_row W0 _ 1 _ _ _ hxb;have v2:=cell_of_row W0 _ 2 _ _ _ hxb;have v3:=cell_of_row W0 _ 3 _ _ _ hxb;have hXB:=(Array.getElem?_eq_some_iff.1 hxb).1;have HXB:=Lib.hid hXB;clear hxb
  conv=>arg 2;whnf
  go_wp2_with fail
  (apply hQ;exact HT;exact HC;exact Lib.hid (by have:=HA.out;simp only;omega))):p:=h
theorem rz4{p:Prop}(h:p:=by
 go_wp2_with ((at_builtin;refine wpList_append_lies _ rfl _ _ 124 rfl base 41 i1 _ 4 32 Tryz.underlying124 hi1 hz11 hz21 hz31 rfl (by decide) vK stk.length (vlV stk) rfl (bB H0.out.stk af) ⟨_,0,none⟩ 1 1 [.int .i64 (z.dim),.bool (z.yes),.int .i64 (z.n),.int .i64 (z.d)] rfl rfl (ax _ [.int .i64 (z.dim),.bool (z.yes),.int .i64 (z.n),.int .i64 (z.d)] _ _ (by simp)) (by intro u hu;simp at hu;rcases hu with rfl|rfl|rfl|rfl<;>rfl) (by decide) (by unfold maxLen;have:=HS.out;omega) (by have:=HS.out;omega) (by have:=H0.out.bW;simp;omega) _ rfl ?_;intro g4 c4 w4 hown hgrow hgg hgl;have h4:=H0.out.push ⟨z.dim,z.yes,z.n,z.d⟩ (n:=stk.length+1) rfl af hgrow hgg (by simp<;>omega) hown;have H4:=Lib.hid h4;clear hown hgrow hgg hgl h4))
 (apply hQ;exact HT;exact H4;exact Lib.hid (by first|rfl|(push_cast;omega)|omega))):p:=h
theorem rz5{p:Prop}(h:p:=by
 clear HR;have HR:=Lib.hid hR;have HX:=Lib.hid hX;clear hR hX
 go_enter Tryz.func157,Tryz.ntmps157
 by_cases e1:x=y
 focus
  subst e1
 rotate_left
 focus
  have f1:(x==y)=false:=by simpa using e1
  have g1:(y==x)=false:=by simpa using fun h=>e1 h.symm
 rotate_left
 all_goals
  exact rz0):p:=h
theorem rz6{p:Prop}(h:p:=by
 clear HR;have HR:=Lib.hid hR;have HX:=Lib.hid hX;clear hR hX
 go_enter Tryz.func90,Tryz.ntmps90
 by_cases e1:x=y
 focus
  subst e1
 rotate_left
 focus
  have f1:(x==y)=false:=by simpa using e1
  have g1:(y==x)=false:=by simpa using fun h=>e1 h.symm
 rotate_left
 all_goals
  exact rz1):p:=h
theorem rz7{p:Prop}(h:p:=by
 go_enter Tryz.func91,Tryz.ntmps91
 go_wp2_with ((first|(go_at_call 97;(with_reducible refine gvq (bP _ _ _ (by omega) (by omega) (by omega) (by omega)) ?_);intro bs dr;simp only [hv])|(go_at_call 151;(with_reducible refine gvq (gu _ _ _ (by omega) (by omega) (by omega) (by omega)) ?_);intro bs2 dr2;simp only [hq.out])))
 go_returns
 exact⟨by rw [O6 (by simp [fB, *]<;>(intros;omega))];rfl,.of_below au⟩):p:=h
theorem rz8{p:Prop}(h:p:=by
 intros
 rename_i Q hpan hQ hR
 have HT:Hid (aN sl v x i stk slots st= .inl (i+1,stk++[⟨x.a,false,x.n,x.d⟩],slots,st)):=Lib.hid (by unfold aN;rw [if_pos ho]);have q1:(x.op==1)=true:=by simpa using ho
 have q2:(x.op==2)=false:=by simp;omega
 have q3:(x.op==3)=false:=by simp;omega
 have q4:(x.op==4)=false:=by simp;omega
 have q5:(x.op==5)=false:=by simp;omega
 have q23:(x.op==23)=false:=by simp;omega
 have q24:(x.op==24)=false:=by simp;omega
 have q21:(x.op==21)=false:=by simp;omega
 have q22:(x.op==22)=false:=by simp;omega
 clear ho;obtain⟨i1,hi1,hz11,hz21,hz31⟩:=info_parts dV;obtain⟨ty,hxb⟩:=HX.out;have v0:=cell_of_row W0 _ 0 _ _ _ hxb;have v1:=cell_of_row W0 _ 1 _ _ _ hxb;have v2:=cell_of_row W0 _ 2 _ _ _ hxb;have v3:=cell_of_row W0 _ 3 _ _ _ hxb;have hXB:=(Array.getElem?_eq_some_iff.1 hxb).1;have HXB:=Lib.hid hXB;clear hxb
 conv=>arg 2;whnf
 go_wp2_with ((at_builtin;refine wpList_append_lies _ rfl _ _ 124 rfl base 41 i1 _ 4 32 Tryz.underlying124 hi1 hz11 hz21 hz31 rfl (by decide) vK stk.length (vlV stk) rfl (bB H0.out.stk af) ⟨_,0,none⟩ 1 1 [.int .i64 (x.a),.bool (false),.int .i64 (x.n),.int .i64 (x.d)] rfl rfl (ax _ [.int .i64 (x.a),.bool (false),.int .i64 (x.n),.int .i64 (x.d)] _ _ (by simp)) (by intro u hu;simp at hu;rcases hu with rfl|rfl|rfl|rfl<;>rfl) (by decide) (by unfold maxLen;have:=HS.out;omega) (by have:=HS.out;omega) (by have:=H0.out.bW;simp;omega) _ rfl ?_;intro g4 c4 w4 hown hgrow hgg hgl;have h4:=H0.out.push ⟨x.a,false,x.n,x.d⟩ (n:=stk.length+1) rfl af hgrow hgg (by simp<;>omega) hown;have H4:=Lib.hid h4;clear hown hgrow hgg hgl h4))
 (apply hQ;exact HT;exact H4;exact Lib.hid (by first|rfl|(push_cast;omega)|omega))):p:=h
theorem rz9{p:Prop}(h:p:=by
 have hB:=H0.out.lt;have q1:(x.op==1)=false:=by simp;omega
 have q2:(x.op==2)=false:=by simp;omega
 have q3:(x.op==3)=true:=by simpa using ho
 have q4:(x.op==4)=false:=by simp;omega
 have q5:(x.op==5)=false:=by simp;omega
 have q23:(x.op==23)=false:=by simp;omega
 have q24:(x.op==24)=false:=by simp;omega
 have q21:(x.op==21)=false:=by simp;omega
 have q22:(x.op==22)=false:=by simp;omega
 clear ho hy;obtain⟨i1,hi1,hz11,hz21,hz31⟩:=info_parts dV;obtain⟨ty,hxb⟩:=HX.out;have v0:=cell_of_row W0 _ 0 _ _ _ hxb;have v1:=cell_of_row W0 _ 1 _ _ _ hxb;have v2:=cell_of_row W0 _ 2 _ _ _ hxb;have v3:=cell_of_row W0 _ 3 _ _ _ hxb;have hXB:=(Array.getElem?_eq_some_iff.1 hxb).1;have HXB:=Lib.hid hXB;clear hxb
 conv=>arg 2;whnf
 go_wp2_with ((at_builtin;refine wpList_append_lies _ rfl _ _ 124 rfl base 41 i1 _ 4 32 Tryz.underlying124 hi1 hz11 hz21 hz31 rfl (by decide) vK stk.length (vlV stk) rfl (bB H0.out.stk af) ⟨_,0,none⟩ 1 1 [.int .i64 (y.dim),.bool (y.yes),.int .i64 (y.n),.int .i64 (y.d)] rfl rfl (ax _ [.int .i64 (y.dim),.bool (y.yes),.int .i64 (y.n),.int .i64 (y.d)] _ _ (by simp)) (by intro u hu;simp at hu;rcases hu with rfl|rfl|rfl|rfl<;>rfl) (by decide) (by unfold maxLen;have:=HS.out;omega) (by have:=HS.out;omega) (by have:=H0.out.bW;simp;omega) _ rfl ?_;intro g4 c4 w4 hown hgrow hgg hgl;have h4:=H0.out.push ⟨y.dim,y.yes,y.n,y.d⟩ (n:=stk.length+1) rfl af hgrow hgg (by simp<;>omega) hown;have H4:=Lib.hid h4;clear hown hgrow hgg hgl h4))
 (apply hQ;exact HT;exact H4;exact Lib.hid (by first|rfl|(push_cast;omega)|omega))):p:=h
theorem Qf{p:Prop}(h:p:=by
 intro v3 w3 hown3 hgrow3;have HB3:=Lib.hid (HB2.out.grown hgrow3 HB2.out.size (fun k hk=>(HO2.out.lt k hk).1));have HO3:=Lib.hid hown3;clear hown3 hgrow3;refine TG.go hK1 ?_ (fun hS=>?_);focus exact(HB3.out.cell (p:=⟨b,off+k,none⟩) hbw).trans x0
 clear hK1 K1
 (try simp only [nS])
 refine TG.one (i:=14) (by kernel_rfl) rfl (fun K1 hK1=>?_)
 go_simp
 refine hK1 _ _ (fun h=>absurd rfl h) (TG.done (by kernel_rfl) ?_);clear hK1 K1 hS
 (try simp only [nS])
 go_wp2_with fail
 go_roundw
 case rel=>
  have ho:=HO3.out;have hl2:a0+1+(k-a0)=k+1:=by have:=HEQ.out;omega
  rw [hl2]at ho;refine⟨k+1,v3,rfl,HKL.out,by go_num,fun h=>by omega,HB.out.trans (HB3.out.mono hsW), ?_⟩;rw [HI2.out];have ho2:=kQ ho hsW;simpa using ho2
 case measure=>simp [intOf];have:=HKL.out;omega):p:=h
theorem R5{p:Prop}(h:p:=by
 rcases g3 with ⟨rfl,rfl,g5⟩|⟨rfl,rfl,g5⟩|⟨rfl,rfl,g5⟩|⟨rfl,rfl,g5⟩|⟨rfl,rfl,g5⟩
 ·have g7:=Lib.hid (qX s (r / 1000) (by omega) (by omega));have g8:=Lib.hid (Az 3 r 1000 s g0)
  go_wp2_with fail
  go_quiet (fail)
  go_wp2_with fail
  go_roundw
  case rel=>exact⟨3,_,_,_,rfl,rfl,rfl,by omega,by rw [g7.out];omega,by simp;omega,Lib.hid (by rw [←g4.out,g8.out];rfl),.of_below au⟩
  case measure=>simp [intOf]
 ·have g7:=Lib.hid (qX s (r / 100) (by omega) (by omega));have g8:=Lib.hid (Az 2 r 100 s g0)
  go_wp2_with fail
  go_quiet (fail)
  go_wp2_with fail
  go_roundw
  case rel=>exact⟨2,_,_,_,rfl,rfl,rfl,by omega,by rw [g7.out];omega,by simp;omega,Lib.hid (by rw [←g4.out,g8.out];rfl),.of_below au⟩
  case measure=>simp [intOf]
 ·have g7:=Lib.hid (qX s (r / 10) (by omega) (by omega));have g8:=Lib.hid (Az 1 r 10 s g0)
  go_wp2_with fail
  go_quiet (fail)
  go_wp2_with fail
  go_roundw
  case rel=>exact⟨1,_,_,_,rfl,rfl,rfl,by omega,by rw [g7.out];omega,by simp;omega,Lib.hid (by rw [←g4.out,g8.out];rfl),.of_below au⟩
  case measure=>simp [intOf]
 ·have g7:=Lib.hid (qX s r (by omega) (by omega));have g8:Hid (kG 1 r 1 s=kG 0 0 0 (s++oq.extract r.toNat (r+1).toNat)):=Lib.hid (by simp [kG,g0])
  go_wp2_with fail
  go_quiet (fail)
  go_wp2_with fail
  go_roundw
  case rel=>exact⟨0,_,_,_,rfl,rfl,rfl,by omega,by rw [g7.out];omega,by simp,Lib.hid (by rw [←g4.out,g8.out];rfl),.of_below au⟩
  case measure=>simp [intOf]
 ·omega):p:=h
theorem R4{p:Prop}(h:p:=by
 refine TS.go HK1.out af (fun hS=>?_);clear HK1 K1
 (try simp only [nS])
 obtain⟨jj,rfl⟩:∃k:Nat,jz=(k:Int):=⟨jz.toNat,by omega⟩;obtain⟨qq,rfl⟩:∃k:Nat,q=(k:Int):=⟨q.toNat,by omega⟩;have HJ:Hid (jj<M):=Lib.hid (by omega);obtain⟨⟨u0,y0⟩,yf⟩:=H0.out.c.cellS HM.out.symm jj (by have:=HM.out;have:=HJ.out;omega);have hq4:qq=0∨qq=1∨qq=2∨qq=3:=by omega
 refine kq 19 hS ?_;obtain⟨s,hsd⟩:∃s,spN qq=s:=⟨_,rfl⟩;have HSD:Hid (s.size≤10):=Lib.hid (by rw [←hsd];rcases hq4 with rfl|rfl|rfl|rfl<;>decide);refine TS.narrow (S':=fun wS=>W0.Grows wS∧wS.cell? ⟨W0.heap.size,qq,none⟩=some (.string s)) (fun _ h=>h.1) ⟨hS, ?_⟩ (fun hS=>?_);focus(rw [←hsd];rcases hq4 with rfl|rfl|rfl|rfl<;>simp [go_sem,spN])
 clear hq4 hsd;refine TS.takeV (i:=20) (v:=?_) rfl (by kernel_rfl) (by kernel_rfl) (by kernel_rfl) (by decide) (fun _ _ _ h=>hpan _ _ _ _ _ h) rfl hS ?_ ?_
 rotate_left
 focus
  intro wS hSw
  (try dsimp only at hSw)
  go_simp
  rfl
 (try simp only [nS])
 refine TS.takeV (i:=21) (v:=?_) rfl (by kernel_rfl) (by kernel_rfl) (by kernel_rfl) (by decide) (fun _ _ _ h=>hpan _ _ _ _ _ h) rfl hS ?_ ?_
 rotate_left
 focus
  intro wS hSw
  (try dsimp only at hSw)
  go_simp
  rfl
 (try simp only [nS])
 refine TS.weB 22 ?_;clear y0 yf
 go_wp2_with fail
 (apply hQ;exact Lib.hid ((HMK.out jj _ HSD.out W0 (World.Grows.refl _)).grows af))):p:=h
theorem RZ{p:Prop}(h:p:=by
 intros
 rename_i Q hpan hQ hR
 have HT:Hid (aN sl v x i stk slots st= .inl (x.a.toNat,stk,slots,st)):=Lib.hid (by unfold aN;simp [ho]);have hw:IntKind.i64.wrap (x.a-1)=x.a-1:=IntWalk.i64_in _ (by omega);have HA:=Lib.hid ha;have q1:(x.op==1)=false:=by simp;omega
 have q2:(x.op==2)=false:=by simp;omega
 have q3:(x.op==3)=false:=by simp;omega
 have q4:(x.op==4)=false:=by simp;omega
 have q5:(x.op==5)=false:=by simp;omega
 have q23:(x.op==23)=false:=by simp;omega
 have q24:(x.op==24)=false:=by simp;omega
 have q21:(x.op==21)=true:=by simpa using ho
 have q22:(x.op==22)=false:=by simp;omega
 clear ho;obtain⟨i1,hi1,hz11,hz21,hz31⟩:=info_parts dV;obtain⟨ty,hxb⟩:=HX.out;have v0:=cell_of_row W0 _ 0 _ _ _ hxb;have v1:=cell_of_row W0 _ 1 _ _ _ hxb;have v2:=cell_of_row W0 _ 2 _ _ _ hxb;have v3:=cell_of_row W0 _ 3 _ _ _ hxb;have hXB:=(Array.getElem?_eq_some_iff.1 hxb).1;have HXB:=Lib.hid hXB;clear hxb
 conv=>arg 2;whnf
 go_wp2_with fail
 (apply hQ;exact HT;exact H0;exact Lib.hid (by have:=HA.out;simp only;omega))):p:=h
theorem Nf{p:Prop}(h:p:=by
 go_wp2_with fail
 go_returns
 exact⟨rfl,rfl⟩):p:=h
theorem qO{p:Prop}(h:p:=by
 go_returns
 exact⟨rfl,.of_below au⟩):p:=h
theorem Qe{p:Prop}(h:p:=by
 go_wp2_with fail
 go_returns
 exact⟨av HF.out.symm,.of_below au⟩):p:=h
theorem RY{p:Prop}(h:p:=by
 clear hdk;have HBD:Hid (¬(0≤dk∧dk≤73049)→v.ok=false):=Lib.hid (fun h=>HB.out k HKL.out (by rw [HDK.out];unfold dR;exact decide_eq_false h));by_cases q1:dk<0
 ·go_wp2_with fail
  go_returns
  exact⟨av (HBD.out (by omega)).symm,World.Grows.trans HG2.out (.of_below au)⟩
 ·by_cases q2:dk > 73049
  ·go_wp2_with fail
   go_returns
   exact⟨av (HBD.out (by omega)).symm,World.Grows.trans HG2.out (.of_below au)⟩
  ·go_wp2_with fail
   go_roundw
   case rel=>exact⟨k+1,HKL.out,by go_num,Lib.hid (fun j hj=>by
    by_cases ej:j=k
    ·subst ej;rw [HDK.out];unfold dR;exact decide_eq_true (by omega)
    ·exact hno.out j (by omega)),(by first|rfl|trivial)⟩
   case measure=>simp [intOf];have:=HKL.out;omega):p:=h
theorem RX{p:Prop}(h:p:=by
 by_cases cd:d=1
 focus
  subst cd
  go_enter Tryz.func151,Tryz.ntmps151
 rotate_left
 focus
  go_enter Tryz.func151,Tryz.ntmps151
 rotate_left
 all_goals
  go_wp2_with ((first|(go_at_call 97;(with_reducible refine gvq (bP _ _ _ (by omega) (by omega) (by omega) (by omega)) ?_);intro bs dr;simp only [hv])|(go_at_call 93;(with_reducible refine gw (fD _ _ (by omega) (by omega)) ?_))|(go_at_call 203;(with_reducible refine gw (qI _ _ (by omega) (by omega)) ?_))))
  go_returns
  exact⟨FC (by simp [wO, *]<;>(intro _;omega)),.of_below au⟩):p:=h
theorem Qd{p:Prop}(h:p:=by
 clear HR;have HR:=Lib.hid hR;have HX:=Lib.hid hX;clear hR hX
 go_enter Tryz.func157,Tryz.ntmps157
 by_cases e1:x=1
 focus
  subst e1
 rotate_left
 focus
  have f1:(x==1)=false:=by simpa using e1
  have g1:(1==x)=false:=by simpa using fun h=>e1 h.symm
 rotate_left
 all_goals
  exact rz0):p:=h
theorem Qc{p:Prop}(h:p:=by
 clear HR;have HR:=Lib.hid hR;have HX:=Lib.hid hX;clear hR hX
 go_enter Tryz.func90,Tryz.ntmps90
 by_cases e1:x=1
 focus
  subst e1
 rotate_left
 focus
  have f1:(x==1)=false:=by simpa using e1
  have g1:(1==x)=false:=by simpa using fun h=>e1 h.symm
 rotate_left
 all_goals
  exact rz1):p:=h
theorem GG{p:Prop}(h:p:=by
 go_wp2
 go_returns
 exact⟨av (by first|rfl|(simp;done)|(simp;omega)),.of_below au⟩):p:=h
theorem RV{p:Prop}(h:p:=by
 intro e' u hu;refine(hu.mono' (S':=fun b=>(base≤b∧v.ownBlock≠some b)∧g≠b) ?_|>.keep hg.size ?_).mono ?_
 ·rintro b ⟨h1,h2⟩ hlt;refine⟨⟨h1,h2⟩, ?_⟩;rcases hat with hat|hat
  ·intro e;exact h2 (by rw [hat,e])
  ·omega
 ·rintro b o ⟨⟨_,h2⟩,_⟩ hlt;exact World.cell?_of_block (hg.block b hlt (Ne.symm h2))
 ·rintro b ⟨⟨h1,_⟩,h3⟩
  exact⟨h1,by simpa [Value.ownBlock]using h3⟩):p:=h
theorem GD{p:Prop}(h:p:=by
 clear h;obtain⟨a,n,c,rfl⟩:=hy;unfold vwV
 go_enter Tryz.func41,Tryz.ntmps41
 exact Qe):p:=h
theorem GA{p:Prop}(h:p:=by
 clear h;obtain⟨a,n,c,rfl⟩:=hy;unfold vwV
 go_enter Tryz.func67,Tryz.ntmps67
 exact Qe):p:=h
theorem Kh{p:Prop}(h:p:=by
 go_enter Tryz.func61,Tryz.ntmps61
 go_wp2
 go_returns
 exact⟨ret_int (by simp [aY];omega),rfl⟩):p:=h
theorem RU{p:Prop}(h:p:=by
 have HP:Hid (∀w',w.Grows w'→LC a w (.returned (.tuple #[.int .i64 0,.bool false])) w'):=Lib.hid (fun w' hg=>⟨by unfold II;rw [if_neg (by omega),decide_eq_false (by omega)],hg⟩)
 go_enter Tryz.func113,Tryz.ntmps113
 go_wp2_with (go_at_call 58;refine gw (iH _) ?_)
 go_returns
 exact HP.out _ af):p:=h
theorem Kg{p:Prop}(h:p:=by
 rw [World.cell?_of_block (hg0.below.block _ (by simp)),World.cell?_alloc_at _ _ _ _ rfl];rfl):p:=h
theorem RS{p:Prop}(h:p:=by
 refine⟨?_, ?_, ?_, ?_⟩
 ·rw [hh _ (by omega) (by omega)];exact HM.out.nm
 ·rw [Below.heap_setCell _ _ _ _ (by show w.heap.size+1≠w.heap.size+2;omega)];exact Joins.block_setCell HM.out.res _
 ·exact Joins.block_setCell ((Below.heap_setCell _ _ _ _ (by show w.heap.size+2≠w.heap.size+1;omega)).trans HM.out.ok) _
 ·simp;omega):p:=h
theorem RQ{p:Prop}(h:p:=by
 go_enter Tryz.func167,Tryz.ntmps167
 go_wp2_with ((first|(go_at_call 210;(with_reducible refine gw (eX _ _) ?_);simp only [hL])|(go_at_call 211;(with_reducible refine gw (iR _ _) ?_);simp only [hI])))
 go_ret
 exact⟨av hw.symm,rfl⟩):p:=h
theorem RP{p:Prop}(h:p:=by
 refine TS.one (i:=10) (by kernel_rfl) rfl (fun K1 hK1=>?_);have HK1:=Lib.hid hK1;clear hK1 hS;dsimp only [List.getElem_toArray,List.getElem_cons_succ,List.getElem_cons_zero]
 go_simp
 refine TS.go HK1.out af (fun hS=>?_);clear HK1 K1
 (try simp only [nS])
 refine TS.weB 11 ?_
 exact rz4):p:=h
theorem Nc{p:Prop}(h:p:=by
 rw [List.take_succ_eq_append_getElem hk,List.getD_eq_getElem?_getD,List.getElem?_eq_getElem hk];rfl):p:=h
theorem uD{p:Prop}(h:p:=by
 go_wp2_with fail
 exact qO):p:=h
theorem RO{p:Prop}(h:p:=by
 have HT:Hid (aN sl v x i stk slots st= .inr rc):=Lib.hid (by rw [HF.out,if_neg hrc]);have hrb:(rc !=0)=true:=by simpa using hrc
 clear HF hrv
 go_wp2_with fail
 (apply hR;exact HT;exact Lib.hid (H0.out.gr.trans' (.of_below au)))):p:=h
theorem Nb{p:Prop}(h:p:=by
 (apply hQ;exact HT;exact H4;exact Lib.hid (by first|rfl|(push_cast;omega)|omega))):p:=h
theorem RN{p:Prop}(h:p:=by
 go_enter Tryz.func57,Tryz.ntmps57
 go_wp2_with (first
  |(go_at_call 45;refine gw (HI.out _) ?_)
  |(go_at_call 41;refine gvq (HV.out _ (HG.out _ _)) ?_;intro bs d))
 exact qO):p:=h
theorem DV{p:Prop}(h:p:=by
 go_enter Tryz.func71,Tryz.ntmps71
 exact Nf):p:=h
theorem DU{p:Prop}(h:p:=by
 go_enter Tryz.func60,Tryz.ntmps60
 exact Nf):p:=h
theorem Qb{p:Prop}(h:p:=by
 clear HR;have HR:=Lib.hid hR;have HX:=Lib.hid hX;clear hR hX
 go_enter Tryz.func157,Tryz.ntmps157
 exact rz0):p:=h
theorem Qa{p:Prop}(h:p:=by
 clear HR;have HR:=Lib.hid hR;have HX:=Lib.hid hX;clear hR hX
 go_enter Tryz.func90,Tryz.ntmps90
 exact rz1):p:=h
theorem RL{p:Prop}(h:p:=by
 simp only [World.src,World.setCell]
 congr 1
 apply Array.ext_getElem?;intro k;simp only [Array.getElem?_modify,Array.getElem?_setIfInBounds];by_cases hk:s=k
 ·subst hk;simp [h]
 ·simp [hk]):p:=h
theorem RJ{p:Prop}(h:p:=by
 have:=h.dm k (.int .i64 (dims.getD k 0)) (by rw [List.getElem?_map,List.getD_eq_getElem?_getD,List.getElem?_eq_getElem (by omega:k<dims.length)];rfl)
 rw [Nat.zero_add]at this;exact this):p:=h
theorem Na{p:Prop}(h:p:=by
 rw [List.getD_eq_getElem?_getD,List.getElem?_replicate];split<;>rfl):p:=h
theorem M9{p:Prop}(h:p:=by
 go_wp2
 go_returns
 exact⟨av (by simp [sP];omega),rfl⟩):p:=h
theorem M8{p:Prop}(h:p:=by
 go_wp2
 go_returns
 exact⟨av (by simp [Ay];omega),rfl⟩):p:=h
theorem RI{p:Prop}(h:p:=by
 unfold eH at hr;refine⟨?_,hr.frozenAt _⟩;have:=hr.cellAt (i*4+1) (by omega);rw [this,List.getElem?_eq_getElem (by rw [kD];omega)]
 exact⟨_,rfl⟩):p:=h
theorem Ke{p:Prop}(h:p:=by
 go_enter Tryz.func122,Tryz.ntmps122
 exact Nf):p:=h
theorem P7{p:Prop}(h:p:=by
 by_cases h:j<k
 ·rw [if_pos h,if_pos (by omega)]
 ·rw [if_neg h,if_neg (by omega)]):p:=h
theorem Kc{p:Prop}(h:p:=by
 go_enter Tryz.func65,Tryz.ntmps65
 exact uD):p:=h
theorem RH{p:Prop}(h:p:=by
 have:=h.st j hj
 cases ht:T.getD j none with
 |none=>rw [ht]at this;exact bu.same this c
 |some t=>rw [ht]at this;exact bu.same this c):p:=h
theorem RG{p:Prop}(h:p:=by
 split at hr<;>rename_i c1
 ·rw [if_pos c1];omega
 ·rw [if_neg c1]
  split at hr<;>rename_i c2
  ·rw [if_pos c2];omega
  ·exact absurd rfl hr):p:=h
theorem RF{p:Prop}(h:p:=by
 cases k with
 |zero=>exact absurd rfl hk
 |succ k=>rw [List.getD_cons_succ,List.getD_eq_getElem?_getD,List.getElem?_replicate];split<;>rfl):p:=h
theorem RD{p:Prop}(h:p:=by
 go_wp2
 all_goals first
  |(exfalso;simp_all;done)
  |(go_returns
    exact⟨GK (by simp_all [bE]) (by simp_all [bE]),rfl⟩)):p:=h
theorem RB{p:Prop}(h:p:=by
 obtain⟨h0,h1|⟨g,cap,cur,hv,hbg,hr⟩⟩:=h
 ·exact⟨h0,.inl h1⟩
 ·exact⟨h0,.inr ⟨g,cap,cur,hv,Nat.le_trans hb hbg,hr⟩⟩):p:=h
theorem RA{p:Prop}(h:p:=by
 go_returns
 exact⟨av (by unfold eF;rw [decide_eq_true (by omega),decide_eq_true (by omega)];rfl),.of_below au⟩):p:=h
theorem Rz{p:Prop}(h:p:=by
 unfold iU;simp only [hsi,hap,if_neg h24,if_neg (show ¬x.op=21 by omega),hp,if_pos (show x.op=21∨x.op=22 by omega),hp2]):p:=h
theorem Ry{p:Prop}(h:p:=by
 clear hd c hr
 go_enter Tryz.func154,Tryz.ntmps154
 go_wp2_with fail
 go_returns
 exact⟨by rw [HR.out];rfl,.of_below au⟩):p:=h
theorem Rx{p:Prop}(h:p:=by
 go_returns
 exact⟨av (by unfold eF;rw [decide_eq_false (show ¬e.depth≤10 by omega)];simp),.of_below au⟩):p:=h
theorem Rw{p:Prop}(h:p:=by
 split
 ·exact .inl ⟨rfl,Val.num_ok (by omega) h1.2.2.2,rfl⟩
 ·exact .inl ⟨rfl,Val.num_ok (by omega) h2.2.2.2,rfl⟩):p:=h
theorem Rv{p:Prop}(h:p:=by
 go_returns
 exact⟨av (by unfold eF;rw [decide_eq_false (show ¬e.size≤60 by omega)];simp),.of_below au⟩):p:=h
theorem Ru{p:Prop}(h:p:=by
 rw [List.getD_eq_getElem?_getD]
 cases hk:d[k]? with
 |none=>simp
 |some z=>have:=hd z (List.mem_of_getElem? hk);simp;omega):p:=h
theorem Rt{p:Prop}(h:p:=by
 go_wp2_with fail
 go_returns
 exact⟨av (HBAD.out k HKL.out (by rw [HDK.out];omega)).symm,(by first|rfl|trivial)⟩):p:=h
theorem Rq{p:Prop}(h:p:=by
 go_wp2_with (go_at_call 40;refine gvq (HM.out _ HBB.out.1 HBB.out.2 _) ?_;intro bs4 d4)
 exact qO):p:=h
theorem Rp{p:Prop}(h:p:=by
 go_wp2
 all_goals first
  |(exfalso;simp_all;done)
  |(go_returns
    exact⟨av (by simp_all [Oo,SA]),rfl⟩)):p:=h
theorem Ro{p:Prop}(h:p:=by
 rw [nm2,aX,eu,if_neg (by decide),if_neg (by decide),if_pos rfl,dQ,if_neg (by rw [h];simp)]
 simp [eP]):p:=h
theorem M7{p:Prop}(h:p:=by
 go_enter Tryz.func72,Tryz.ntmps72
 exact Nf):p:=h
theorem Rn{p:Prop}(h:p:=by
 rcases fU h with ⟨e1,e2⟩|⟨g,cap,e1,-⟩
 ·exact⟨none,0,by rw [e2];exact e1⟩
 ·exact⟨_,_,e1⟩):p:=h
theorem Rm{p:Prop}(h:p:=by
 rcases h.own.2 with ⟨rfl,h0⟩|⟨g,cap,cur,rfl,_⟩
 ·exact⟨none,0,by rw [h0]⟩
 ·exact⟨_,cap,rfl⟩):p:=h
theorem Rk{p:Prop}(h:p:=by
 simp only [intOf]
 rw [show({data:=#[48,49,50,51,52,53,54,55,56,57]}:ByteArray)=oq from rfl,hpc.out];omega):p:=h
theorem P6{p:Prop}(h:p:=by
 rw [List.map_append,h,List.range_succ,List.map_append];rfl):p:=h
theorem Rj{p:Prop}(h:p:=by
 cases l with
 |nil=>exact absurd rfl h
 |cons a r=>rw [List.getLastD_cons];exact List.getLastD_mem_cons ..):p:=h
theorem Ri{p:Prop}(h:p:=by
 clear y0 yf
 go_wp2_with fail
 (apply hQ;exact Lib.hid ((hmk W0 (World.Grows.refl _)).grows aj))):p:=h
theorem Rh{p:Prop}(h:p:=by
 apply Nat.lt_of_not_le;intro hc
 rw [List.getD_eq_getElem?_getD,List.getElem?_eq_none hc]at h;cases h):p:=h
theorem Rf{p:Prop}(h:p:=by
 rw [show(stk.length:Int)-(ar:Int)=(m:Int)by omega];exact IntWalk.i64_in _ (by have:=HS.out;omega)):p:=h
end Go
