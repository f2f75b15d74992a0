import Derived.Test.YtblkcgceefjmjaaGreatDoorSBase
import Derived.Laws.AppendOwnNone
import Derived.Deep.CutBlock
import Derived.Deep.CutRange
import Derived.Deep.DeepCutAuto
import Derived.Deep.Matrix
import Derived.Deep.Fields
import Derived.OpenShut
import Derived.Deep.AppendLies
import Derived.Laws.OwnMore
import Derived.JoinedOf
set_option linter.all false
set_option maxHeartbeats 16000000
set_option maxRecDepth 1000000
namespace Go
theorem zf{p:Prop}(h:p:=by simp):p:=h
theorem zb{p:Prop}(h:p:=by omega):p:=h
theorem ze{p:Prop}(h:p:=by decide):p:=h
theorem zd{p:Prop}(h:p:=by kernel_rfl):p:=h
theorem zi{p:Prop}(h:p:=by simp;omega):p:=h
theorem zg{p:Prop}(h:p:=by simp<;>omega):p:=h
theorem zz{p:Prop}(h:p:=by rw [HLC.out]):p:=h
theorem zk{p:Prop}(h:p:=by simp [go_sem]):p:=h
theorem zr{p:Prop}(h:p:=by decide+kernel):p:=h
theorem zq{p:Prop}(h:p:=by have:=HR.n;omega):p:=h
theorem zo{p:Prop}(h:p:=by have:=HN.out;omega):p:=h
theorem zp{p:Prop}(h:p:=by have:=HS.out;omega):p:=h
theorem zw{p:Prop}(h:p:=by have:=HNN.out;omega):p:=h
theorem zy{p:Prop}(h:p:=by have:=HKK.out;omega):p:=h
theorem zN{p:Prop}(h:p:=by rw [HM2.out];exact hlt):p:=h
theorem zO{p:Prop}(h:p:=by rw [HN2.out];exact hlt):p:=h
theorem zE{p:Prop}(h:p:=by show w.heap.size<_;omega):p:=h
theorem zM{p:Prop}(h:p:=by rw [HX.out];exact HT.out):p:=h
theorem zn{p:Prop}(h:p:=by have:=H0.out.bW;simp;omega):p:=h
theorem zJ{p:Prop}(h:p:=by have:=H3.out.bW;simp;omega):p:=h
theorem zK{p:Prop}(h:p:=by have:=H5.out.bW;simp;omega):p:=h
theorem zL{p:Prop}(h:p:=by have:=H7.out.bW;simp;omega):p:=h
theorem zv{p:Prop}(h:p:=by show w.heap.size+1+1<_;omega):p:=h
theorem zI{p:Prop}(h:p:=by have:=HA.out;simp only;omega):p:=h
theorem zD{p:Prop}(h:p:=by unfold maxLen;have:=HR.n;omega):p:=h
theorem zm{p:Prop}(h:p:=by unfold maxLen;have:=HN.out;omega):p:=h
theorem zu{p:Prop}(h:p:=by unfold maxLen;have:=HS.out;omega):p:=h
theorem zx{p:Prop}(h:p:=by unfold maxLen;have:=HKK.out;omega):p:=h
theorem zB{p:Prop}(h:p:=by intro u hu;simp at hu;subst hu;rfl):p:=h
theorem zt{p:Prop}(h:p:=by unfold VwR.d;rw [if_pos (by omega)]):p:=h
theorem zA{p:Prop}(h:p:=by show wc.heap.size<wc.heap.size+1;omega):p:=h
theorem zC{p:Prop}(h:p:=by first|exact grows_drew|exact .of_below belB):p:=h
theorem zH{p:Prop}(h:p:=by have h:=H7.out.enr;rw [envM_len]at h;exact h):p:=h
theorem zG{p:Prop}(h:p:=by have h:=H5.out.slr;rw [names_len]at h;exact h):p:=h
theorem zY{p:Prop}(h:p:=by have:=pick_bd R.base 1000000 (by omega);omega):p:=h
theorem zF{p:Prop}(h:p:=by intro u hu;simp at hu;rcases hu with rfl|rfl<;>rfl):p:=h
theorem zX{p:Prop}(h:p:=by unfold shI;rw [if_neg (by omega),if_pos (by omega)]):p:=h
theorem zV{p:Prop}(h:p:=by rw [a2 _ (by omega)];exact hn _ (by omega) (by omega)):p:=h
theorem zW{p:Prop}(h:p:=by unfold stepF;rw [gV hm,ja hm,hy];simp [ho,hyb]):p:=h
theorem zj{p:Prop}(h:p:=by intro u hu;simp at hu;rcases hu with rfl|rfl|rfl|rfl<;>rfl):p:=h
theorem zU{p:Prop}(h:p:=by rw [List.take_zero,List.map_nil,List.append_nil];exact H0.out):p:=h
theorem zT{p:Prop}(h:p:=by have:=(wf_rest HWF.out (by omega)).2.2.1 (by omega);have:=HN.out;omega):p:=h
theorem zS{p:Prop}(h:p:=by have:=(wf_rest HWF.out (by omega)).2.2.2.2.1 (by omega);have:=HN.out;omega):p:=h
theorem zR{p:Prop}(h:p:=by first|exact⟨_,_,World.grow_grow _ _ _ _ _⟩|exact⟨_,_,rfl⟩|exact .of_below belB):p:=h
theorem zQ{p:Prop}(h:p:=by rw [getD_setI,if_neg (by omega),a2 _ (by omega)];exact hn _ (by omega) (by omega)):p:=h
theorem zP{p:Prop}(h:p:=by rw [←HGO.out];exact di (gL HSI.out HAP2.out H24.out HO.out.1 (by rw [HQ.out];exact hp))):p:=h
theorem zh{P:Prop}(h:P):RowKit.Hid P:=h
theorem vz0{p:Prop}(h:p:=by
 refine TS.one (i:=10) (by kernel_rfl) rfl (fun K1 hK1=>?_);have HK1:=Lib.hid hK1;clear hK1 hS;dsimp only [List.getElem_toArray,List.getElem_cons_succ,List.getElem_cons_zero]
 go_simp
 refine TS.go HK1.out growsR (fun hS=>?_);clear HK1 K1
 (try simp only [nS])
 refine TS.weB 11 ?_
 go_wp2_with ((at_builtin;refine wpList_append_lies _ rfl _ _ 143 rfl base 41 i1 _ 4 32 Tryz.underlying143 hi1 hz11 hz21 hz31 rfl (by decide) vK stk.length (vlV stk) rfl (own_grow9 H0.out.stk growsR) ⟨_,0,none⟩ 1 1 [.int .i64 (z.dim),.bool (z.yes),.int .i64 (z.n),.int .i64 (z.d)] rfl rfl (news_cells _ [.int .i64 (z.dim),.bool (z.yes),.int .i64 (z.n),.int .i64 (z.d)] _ _ (by simp)) (by intro u hu;simp at hu;rcases hu with rfl|rfl|rfl|rfl<;>rfl) (by decide) (by unfold maxLen;have:=HS.out;omega) (by have:=HS.out;omega) (by have:=H0.out.bW;simp;omega) _ rfl ?_;intro g4 c4 w4 hown hgrow hgg hgl;have h4:=H0.out.push ⟨z.dim,z.yes,z.n,z.d⟩ (n:=stk.length+1) rfl growsR hgrow hgg (by simp<;>omega) hown;have H4:=Lib.hid h4;clear hown hgrow hgg hgl h4))
 (apply hQ;exact HT;exact H4;exact Lib.hid (by first|rfl|(push_cast;omega)|omega))):p:=h
theorem vz1{p:Prop}(h:p:=by
 match xs,hlen with
 | [a,b],_=>exact⟨a,b,rfl⟩
 | [],h=>simp [argsN]at h
 | [_],h=>simp [argsN]at h
 |_::_::_::_,h=>simp [argsN]at h;omega):p:=h
theorem vz2{p:Prop}(h:p:=by
 (apply hQ;exact HT;exact H4;exact Lib.hid (by first|rfl|(push_cast;omega)|omega))):p:=h
theorem vz3{p:Prop}(h:p:=by
 match xs,hlen with
 | [a,b,c],_=>exact⟨a,b,c,rfl⟩
 | [],h=>simp [argsN]at h
 | [_],h=>simp [argsN]at h
 | [_,_],h=>simp [argsN]at h
 |_::_::_::_::_,h=>simp [argsN]at h;omega):p:=h
theorem vz4{p:Prop}(h:p:=by
 unfold rndA;simp only [hsi,hap,if_neg h24,if_neg (show ¬x.op=21 by omega),hp,if_pos (show x.op=21∨x.op=22 by omega),hp2]):p:=h
end Go
