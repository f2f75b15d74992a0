import Derived.Test.YtaghhncnicbedaaGreatDoorBBase
import Derived.Deep.AppendLies
import Derived.Maps.Range
import Derived.Laws.AppendOwnNone
import Derived.Ground.Names2Prog
import Derived.Deep.OwnRows
import Derived.Deep.Slices
import Derived.SliceStrings
set_option linter.all false
set_option maxHeartbeats 16000000
set_option maxRecDepth 1000000
namespace Go
theorem mz0{p:Prop}(h:p:=by
 go_wp2_with fail
 go_returns
 exact⟨rfl,rfl⟩):p:=h
theorem mz1{p:Prop}(h:p:=by
 rw [World.cell?_of_block (hg0.below.block _ (by simp)),World.cell?_alloc_at _ _ _ _ rfl];rfl):p:=h
theorem mz2{p:Prop}(h:p:=by
 have HP:Hid (∀w',w.Grows w'→idmP a w (.returned (.tuple #[.int .i64 0,.bool false])) w'):=Lib.hid (fun w' hg=>⟨by unfold idmF;rw [if_neg (by omega),decide_eq_false (by omega)],hg⟩)
 go_enter Tryz.func96,Tryz.ntmps96
 go_wp2_with (go_at_call 28;refine(Names_any _).mono ?_;rintro e' w' ⟨rfl,rfl⟩)
 go_returns
 exact HP.out _ growsR):p:=h
theorem mz3{p:Prop}(h:p:=by
 go_enter Tryz.func52,Tryz.ntmps52
 exact mz0):p:=h
theorem mz4{p:Prop}(h:p:=by
 go_enter Tryz.func57,Tryz.ntmps57
 exact mz0):p:=h
theorem mz5{p:Prop}(h:p:=by
 rw [List.take_succ_eq_append_getElem hk,List.getD_eq_getElem?_getD,List.getElem?_eq_getElem hk];rfl):p:=h
theorem mz6{p:Prop}(h:p:=by
 have:=h.dm k (.int .i64 (dims.getD k 0)) (by rw [List.getElem?_map,List.getD_eq_getElem?_getD,List.getElem?_eq_getElem (by omega:k<dims.length)];rfl)
 rw [Nat.zero_add]at this;exact this):p:=h
theorem mz7{p:Prop}(h:p:=by
 by_cases h:j<k
 ·rw [if_pos h,if_pos (by omega)]
 ·rw [if_neg h,if_neg (by omega)]):p:=h
theorem mz8{p:Prop}(h:p:=by
 have:=h.st j hj
 cases ht:T.getD j none with
 |none=>rw [ht]at this;exact CellsAt.same this c
 |some t=>rw [ht]at this;exact CellsAt.same this c):p:=h
theorem mz9{p:Prop}(h:p:=by
 unfold rndA;simp only [hsi,hap,if_neg h24,if_neg (show ¬x.op=21 by omega),hp,if_pos (show x.op=21∨x.op=22 by omega),hp2]):p:=h
theorem mz10{p:Prop}(h:p:=by
 rw [List.getD_eq_getElem?_getD]
 cases hk:d[k]? with
 |none=>simp
 |some z=>have:=hd z (List.mem_of_getElem? hk);simp;omega):p:=h
theorem mz11{p:Prop}(h:p:=by
 rw [nm2,inferF,infNode,if_neg (by decide),if_neg (by decide),if_pos rfl,inferN,if_neg (by rw [h];simp)]
 simp [lastN]):p:=h
theorem mz12{p:Prop}(h:p:=by
 rcases row_frm h with ⟨e1,e2⟩|⟨g,cap,e1,-⟩
 ·exact⟨none,0,by rw [e2];exact e1⟩
 ·exact⟨_,_,e1⟩):p:=h
theorem mz13{p:Prop}(h:p:=by
 go_enter Tryz.func53,Tryz.ntmps53
 exact mz0):p:=h
theorem mz14{p:Prop}(h:p:=by
 cases l with
 |nil=>exact absurd rfl h
 |cons a r=>rw [List.getLastD_cons];exact List.getLastD_mem_cons ..):p:=h
end Go
