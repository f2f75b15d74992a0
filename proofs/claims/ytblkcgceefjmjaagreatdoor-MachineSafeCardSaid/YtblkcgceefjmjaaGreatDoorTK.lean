import Derived.Test.YtblkcgceefjmjaaGreatDoorSBase
import Derived.JoinedOf
set_option linter.all false
set_option maxHeartbeats 16000000
set_option maxRecDepth 1000000
namespace Go
theorem tz0{p:Prop}(h:p:=by
 refine TS.one (i:=10) (by kernel_rfl) rfl (fun K1 hK1=>?_)
 have HK1:=Lib.hid hK1
 clear hK1 hS
 dsimp only [List.getElem_toArray,List.getElem_cons_succ,List.getElem_cons_zero]
 go_simp
 refine TS.go HK1.out growsR (fun hS=>?_)
 clear HK1 K1
 (try simp only [nS])
 refine TS.weB 11 ?_
 go_wp2_with ((at_builtin;refine wpList_append_lies _ rfl _ _ 143 rfl base 41 i1 _ 4 32 Tryz.underlying143 hi1 hz11 hz21 hz31 rfl (by decide) vK stk.length (vlV stk) rfl (own_grow9 H0.out.stk growsR) ⟨_,0,none⟩ 1 1 [.int .i64 (z.dim),.bool (z.yes),.int .i64 (z.n),.int .i64 (z.d)] rfl rfl (news_cells _ [.int .i64 (z.dim),.bool (z.yes),.int .i64 (z.n),.int .i64 (z.d)] _ _ (by simp)) (by intro u hu;simp at hu;rcases hu with rfl|rfl|rfl|rfl<;>rfl) (by decide) (by unfold maxLen;have:=HS.out;omega) (by have:=HS.out;omega) (by have:=H0.out.bW;simp;omega) _ rfl ?_;intro g4 c4 w4 hown hgrow hgg hgl;have h4:=H0.out.push ⟨z.dim,z.yes,z.n,z.d⟩ (n:=stk.length+1) rfl growsR hgrow hgg (by simp<;>omega) hown;have H4:=Lib.hid h4;clear hown hgrow hgg hgl h4))
 (apply hQ;exact HT;exact H4;exact Lib.hid (by first|rfl|(push_cast;omega)|omega))):p:=h
theorem tz1{p:Prop}(h:p:=by
 (apply hQ;exact HT;exact H4;exact Lib.hid (by first|rfl|(push_cast;omega)|omega))):p:=h
end Go
