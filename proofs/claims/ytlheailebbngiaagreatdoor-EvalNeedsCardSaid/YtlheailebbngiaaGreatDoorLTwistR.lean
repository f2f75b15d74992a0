import Derived.Test.YtlheailebbngiaaGreatDoorLVer
import Derived.Test.YtlheailebbngiaaGreatDoorLTyL
import Derived.Lib.Hide
import Derived.Deep.CutBlock
import Derived.ProofKit
import Derived.SizedLaws
import Derived.Deep.Matrix
import Derived.Deep.Fields
import Derived.OpenShut
set_option linter.all false
set_option maxHeartbeats 16000000
set_option maxRecDepth 1000000
namespace Go.Proofs.YtlheailebbngiaaGreatDoor
open Go.RowKit
theorem tw1_yes(g gg N cap:Nat)(b0:Int)(w:World)(hc:w.cell? ⟨g,6,none⟩=some (.slice (some ⟨gg,0,none⟩) N cap))
 (hN:2≤N) (hm:N≤140737488355328) (hc0:w.cell? ⟨gg,0,none⟩=some (.int .i64 b0)) (u:Value) (hu:w.cell? ⟨gg,13,none⟩=some u) (hf:w.frozen? ⟨gg,13,none⟩=false) :
 Calls Tryz.prog 73 #[.pointer (some ⟨g,0,none⟩),.int .i64 1] w fun e w'=>e= .returned (.tuple #[])∧w'=(w.setCell ⟨gg,13,none⟩ (.int .i64 b0)).drew:=by
 have hN1:(1:Int)<(N:Int):=by omega
 have hN0:(0:Int)<(N:Int):=by omega
 have hN2:0<N:=by omega
 have hN3:1<N:=by omega
 go_enter Tryz.func73,Tryz.ntmps73
 go_wp2_with fail
 refine TG.begin 13 (fun w'=>w'.cell? ⟨g,6,none⟩=some (.slice (some ⟨gg,0,none⟩) N cap)∧w'.cell? ⟨gg,0,none⟩=some (.int .i64 b0)) (by kernel_rfl) (by kernel_rfl) ?_ (fun hS=>?_)
 focus exact⟨hc,hc0⟩
 refine TG.tkB 0 hS ?_
 refine TG.tkB 1 hS ?_
 refine TG.tkB 2 hS ?_
 refine TG.tkB 3 hS ?_
 refine TG.tkB 4 hS ?_
 refine TG.tkB 5 hS ?_
 refine TG.tkB 6 hS ?_
 refine TG.tkB 7 hS ?_
 refine TG.tkB 8 hS ?_
 refine TG.tkB 9 hS ?_
 refine TG.tkB 10 hS ?_
 refine TG.tkB 11 hS ?_
 refine TG.tkB 12 hS ?_
 refine TG.one (i:=13) (by kernel_rfl) rfl (fun K1 hK1=>?_)
 go_simp
 refine hK1 _ _ (fun h=>absurd rfl h) (TG.done (by kernel_rfl) ?_)
 clear hK1 K1 hS
 (try simp only [nS])
 go_wp2_with fail
 go_returns
 exact⟨rfl,rfl⟩
theorem tw2_yes(g gg N cap:Nat)(b0:ByteArray)(w:World)(hc:w.cell? ⟨g,5,none⟩=some (.slice (some ⟨gg,0,none⟩) N cap))
 (hN:2≤N) (hm:N≤140737488355328) (hc0:w.cell? ⟨gg,0,none⟩=some (.string b0)) (u:Value) (hu:w.cell? ⟨gg,7,none⟩=some u) (hf:w.frozen? ⟨gg,7,none⟩=false) :
 Calls Tryz.prog 73 #[.pointer (some ⟨g,0,none⟩),.int .i64 2] w fun e w'=>e= .returned (.tuple #[])∧w'=(w.setCell ⟨gg,7,none⟩ (.string b0)).drew:=by
 have hN1:(1:Int)<(N:Int):=by omega
 have hN0:(0:Int)<(N:Int):=by omega
 have hN2:0<N:=by omega
 have hN3:1<N:=by omega
 go_enter Tryz.func73,Tryz.ntmps73
 go_wp2_with fail
 refine TG.begin 13 (fun w'=>w'.cell? ⟨g,5,none⟩=some (.slice (some ⟨gg,0,none⟩) N cap)∧w'.cell? ⟨gg,0,none⟩=some (.string b0)) (by kernel_rfl) (by kernel_rfl) ?_ (fun hS=>?_)
 focus exact⟨hc,hc0⟩
 refine TG.tkB 0 hS ?_
 refine TG.tkB 1 hS ?_
 refine TG.tkB 2 hS ?_
 refine TG.tkB 3 hS ?_
 refine TG.tkB 4 hS ?_
 refine TG.tkB 5 hS ?_
 refine TG.tkB 6 hS ?_
 refine TG.tkB 7 hS ?_
 refine TG.tkB 8 hS ?_
 refine TG.tkB 9 hS ?_
 refine TG.tkB 10 hS ?_
 refine TG.tkB 11 hS ?_
 refine TG.tkB 12 hS ?_
 refine TG.one (i:=13) (by kernel_rfl) rfl (fun K1 hK1=>?_)
 go_simp
 refine hK1 _ _ (fun h=>absurd rfl h) (TG.done (by kernel_rfl) ?_)
 clear hK1 K1 hS
 (try simp only [nS])
 go_wp2_with fail
 go_returns
 exact⟨rfl,rfl⟩
theorem tw4_yes(g gg N cap:Nat)(b0:Int)(w:World)(hc:w.cell? ⟨g,4,none⟩=some (.slice (some ⟨gg,0,none⟩) N cap))
 (hN:2≤N) (hm:N≤140737488355328) (hc0:w.cell? ⟨gg,0,none⟩=some (.int .i64 b0)) (u:Value) (hu:w.cell? ⟨gg,3,none⟩=some u) (hf:w.frozen? ⟨gg,3,none⟩=false) :
 Calls Tryz.prog 73 #[.pointer (some ⟨g,0,none⟩),.int .i64 4] w fun e w'=>e= .returned (.tuple #[])∧w'=(w.setCell ⟨gg,3,none⟩ (.int .i64 b0)).drew:=by
 have hN1:(1:Int)<(N:Int):=by omega
 have hN0:(0:Int)<(N:Int):=by omega
 have hN2:0<N:=by omega
 have hN3:1<N:=by omega
 go_enter Tryz.func73,Tryz.ntmps73
 go_wp2_with fail
 refine TG.begin 13 (fun w'=>w'.cell? ⟨g,4,none⟩=some (.slice (some ⟨gg,0,none⟩) N cap)∧w'.cell? ⟨gg,0,none⟩=some (.int .i64 b0)) (by kernel_rfl) (by kernel_rfl) ?_ (fun hS=>?_)
 focus exact⟨hc,hc0⟩
 refine TG.tkB 0 hS ?_
 refine TG.tkB 1 hS ?_
 refine TG.tkB 2 hS ?_
 refine TG.tkB 3 hS ?_
 refine TG.tkB 4 hS ?_
 refine TG.tkB 5 hS ?_
 refine TG.tkB 6 hS ?_
 refine TG.tkB 7 hS ?_
 refine TG.tkB 8 hS ?_
 refine TG.tkB 9 hS ?_
 refine TG.tkB 10 hS ?_
 refine TG.tkB 11 hS ?_
 refine TG.tkB 12 hS ?_
 refine TG.one (i:=13) (by kernel_rfl) rfl (fun K1 hK1=>?_)
 go_simp
 refine hK1 _ _ (fun h=>absurd rfl h) (TG.done (by kernel_rfl) ?_)
 clear hK1 K1 hS
 (try simp only [nS])
 go_wp2_with fail
 go_returns
 exact⟨rfl,rfl⟩
theorem tw5_yes(g gg N cap:Nat)(b0:Int)(w:World)(hc:w.cell? ⟨g,3,none⟩=some (.slice (some ⟨gg,0,none⟩) N cap))
 (hN:2≤N) (hm:N≤140737488355328) (hc0:w.cell? ⟨gg,0,none⟩=some (.int .i64 b0)) (u:Value) (hu:w.cell? ⟨gg,2,none⟩=some u) (hf:w.frozen? ⟨gg,2,none⟩=false) :
 Calls Tryz.prog 73 #[.pointer (some ⟨g,0,none⟩),.int .i64 5] w fun e w'=>e= .returned (.tuple #[])∧w'=(w.setCell ⟨gg,2,none⟩ (.int .i64 b0)).drew:=by
 have hN1:(1:Int)<(N:Int):=by omega
 have hN0:(0:Int)<(N:Int):=by omega
 have hN2:0<N:=by omega
 have hN3:1<N:=by omega
 go_enter Tryz.func73,Tryz.ntmps73
 go_wp2_with fail
 refine TG.begin 13 (fun w'=>w'.cell? ⟨g,3,none⟩=some (.slice (some ⟨gg,0,none⟩) N cap)∧w'.cell? ⟨gg,0,none⟩=some (.int .i64 b0)) (by kernel_rfl) (by kernel_rfl) ?_ (fun hS=>?_)
 focus exact⟨hc,hc0⟩
 refine TG.tkB 0 hS ?_
 refine TG.tkB 1 hS ?_
 refine TG.tkB 2 hS ?_
 refine TG.tkB 3 hS ?_
 refine TG.tkB 4 hS ?_
 refine TG.tkB 5 hS ?_
 refine TG.tkB 6 hS ?_
 refine TG.tkB 7 hS ?_
 refine TG.tkB 8 hS ?_
 refine TG.tkB 9 hS ?_
 refine TG.tkB 10 hS ?_
 refine TG.tkB 11 hS ?_
 refine TG.tkB 12 hS ?_
 refine TG.one (i:=13) (by kernel_rfl) rfl (fun K1 hK1=>?_)
 go_simp
 refine hK1 _ _ (fun h=>absurd rfl h) (TG.done (by kernel_rfl) ?_)
 clear hK1 K1 hS
 (try simp only [nS])
 go_wp2_with fail
 go_returns
 exact⟨rfl,rfl⟩
theorem tw0_yes(g gg N cap:Nat)(o nu de di:Int)(na:ByteArray)(va:Option Addr)(vn vc:Nat)(w:World)(hc:w.cell? ⟨g,6,none⟩=some (.slice (some ⟨gg,0,none⟩) N cap))
 (hN:1≤N) (hm:N≤140737488355328) (k1:w.cell? ⟨gg,1,none⟩=some (.int .i64 o)) (k2:w.cell? ⟨gg,2,none⟩=some (.int .i64 nu)) (k3:w.cell? ⟨gg,3,none⟩=some (.int .i64 de)) (k4:w.cell? ⟨gg,4,none⟩=some (.int .i64 di)) (k5:w.cell? ⟨gg,5,none⟩=some (.string na)) (k6:w.cell? ⟨gg,6,none⟩=some (.slice va vn vc))
 (u1 u2 u3 u4 u5 u6:Value) (j1:w.cell? ⟨gg,7,none⟩=some u1) (j2:w.cell? ⟨gg,8,none⟩=some u2) (j3:w.cell? ⟨gg,9,none⟩=some u3) (j4:w.cell? ⟨gg,10,none⟩=some u4) (j5:w.cell? ⟨gg,11,none⟩=some u5) (j6:w.cell? ⟨gg,12,none⟩=some u6)
 (hf:∀i,w.frozen? ⟨gg,i,none⟩=false) :
 Calls Tryz.prog 73 #[.pointer (some ⟨g,0,none⟩),.int .i64 0] w fun e w'=>e= .returned (.tuple #[])∧
  w'=((((((w.setCell ⟨gg,7,none⟩ (.int .i64 o)).setCell ⟨gg,8,none⟩ (.int .i64 nu)).setCell ⟨gg,9,none⟩ (.int .i64 de)).setCell ⟨gg,10,none⟩ (.int .i64 di)).setCell ⟨gg,11,none⟩ (.string na)).setCell ⟨gg,12,none⟩ (.slice va vn vc)).drew:=by
 have hN0:(0:Int)<(N:Int):=by omega
 have hN2:0<N:=by omega
 go_enter Tryz.func73,Tryz.ntmps73
 go_wp2_with fail
 refine TG.begin 13 (fun w'=>w'.cell? ⟨g,6,none⟩=some (.slice (some ⟨gg,0,none⟩) N cap)∧w'.cell? ⟨gg,1,none⟩=some (.int .i64 o)∧w'.cell? ⟨gg,2,none⟩=some (.int .i64 nu)∧w'.cell? ⟨gg,3,none⟩=some (.int .i64 de)∧w'.cell? ⟨gg,4,none⟩=some (.int .i64 di)∧w'.cell? ⟨gg,5,none⟩=some (.string na)∧w'.cell? ⟨gg,6,none⟩=some (.slice va vn vc)) (by kernel_rfl) (by kernel_rfl) ?_ (fun hS=>?_)
 focus exact⟨hc,k1,k2,k3,k4,k5,k6⟩
 refine TG.tkB 0 hS ?_
 refine TG.tkB 1 hS ?_
 refine TG.tkB 2 hS ?_
 refine TG.tkB 3 hS ?_
 refine TG.tkB 4 hS ?_
 refine TG.tkB 5 hS ?_
 refine TG.tkB 6 hS ?_
 refine TG.tkB 7 hS ?_
 refine TG.tkB 8 hS ?_
 refine TG.tkB 9 hS ?_
 refine TG.tkB 10 hS ?_
 refine TG.tkB 11 hS ?_
 refine TG.tkB 12 hS ?_
 refine TG.one (i:=13) (by kernel_rfl) rfl (fun K1 hK1=>?_)
 go_simp
 refine hK1 _ _ (fun h=>absurd rfl h) (TG.done (by kernel_rfl) ?_)
 clear hK1 K1 hS
 (try simp only [nS])
 go_wp2_with fail
 go_returns
 exact⟨rfl,rfl⟩
theorem tw3_yes(g gg N cap:Nat)(w:World)(hc:w.cell? ⟨g,5,none⟩=some (.slice (some ⟨gg,0,none⟩) N cap))
 (hN:1≤N) (hm:N≤140737488355328) (u1 u2 u3 u4 u5 u6:Value) (j1:w.cell? ⟨gg,1,none⟩=some u1) (j2:w.cell? ⟨gg,2,none⟩=some u2) (j3:w.cell? ⟨gg,3,none⟩=some u3) (j4:w.cell? ⟨gg,4,none⟩=some u4) (j5:w.cell? ⟨gg,5,none⟩=some u5) (j6:w.cell? ⟨gg,6,none⟩=some u6)
 (hf:∀i,w.frozen? ⟨gg,i,none⟩=false) :
 Calls Tryz.prog 73 #[.pointer (some ⟨g,0,none⟩),.int .i64 3] w fun e w'=>e= .returned (.tuple #[])∧
  w'=(((((w.setCell ⟨gg,1,none⟩ (.int .i64 2)).setCell ⟨gg,2,none⟩ (.int .i64 0)).setCell ⟨gg,3,none⟩ (.int .i64 0)).setCell ⟨gg,4,none⟩ (.int .i64 0)).setCell ⟨gg,5,none⟩ (.string ⟨#[108,97,116,101,114]⟩)).setCell ⟨gg,6,none⟩ (.slice none 0 0):=by
 have hN0:(0:Int)<(N:Int):=by omega
 have hN2:0<N:=by omega
 go_enter Tryz.func73,Tryz.ntmps73
 go_wp2_with fail
 go_returns
 exact⟨rfl,rfl⟩
theorem tw6_yes(g gg N cap:Nat)(w:World)(hc:w.cell? ⟨g,5,none⟩=some (.slice (some ⟨gg,0,none⟩) N cap))
 (hN:1≤N) (hm:N≤140737488355328) (u1:Value) (j1:w.cell? ⟨gg,0,none⟩=some u1) (hf:w.frozen? ⟨gg,0,none⟩=false) :
 Calls Tryz.prog 73 #[.pointer (some ⟨g,0,none⟩),.int .i64 6] w fun e w'=>e= .returned (.tuple #[])∧w'=w.setCell ⟨gg,0,none⟩ (.string ⟨#[97,103,101]⟩):=by
 have hN0:(0:Int)<(N:Int):=by omega
 have hN2:0<N:=by omega
 go_enter Tryz.func73,Tryz.ntmps73
 go_wp2_with fail
 go_returns
 exact⟨rfl,rfl⟩
theorem tw0_no(g N cap:Nat)(a:Option Addr)(w:World)(hc:w.cell? ⟨g,6,none⟩=some (.slice a N cap))(hN:N<1) :
 Calls Tryz.prog 73 #[.pointer (some ⟨g,0,none⟩),.int .i64 0] w fun e w'=>e= .returned (.tuple #[])∧w=w':=by
 have hN0:¬(1:Int)-1<(N:Int):=by omega
 have hN1:(N:Int)<1:=by omega
 go_enter Tryz.func73,Tryz.ntmps73
 go_wp2_with fail
 all_goals first|(exfalso;omega)|skip
 go_returns
 exact⟨rfl,rfl⟩
theorem tw1_no(g N cap:Nat)(a:Option Addr)(w:World)(hc:w.cell? ⟨g,6,none⟩=some (.slice a N cap))(hN:N<2) :
 Calls Tryz.prog 73 #[.pointer (some ⟨g,0,none⟩),.int .i64 1] w fun e w'=>e= .returned (.tuple #[])∧w=w':=by
 have hN0:¬(2:Int)-1<(N:Int):=by omega
 have hN1:(N:Int)<2:=by omega
 go_enter Tryz.func73,Tryz.ntmps73
 go_wp2_with fail
 all_goals first|(exfalso;omega)|skip
 go_returns
 exact⟨rfl,rfl⟩
theorem tw2_no(g N cap:Nat)(a:Option Addr)(w:World)(hc:w.cell? ⟨g,5,none⟩=some (.slice a N cap))(hN:N<2) :
 Calls Tryz.prog 73 #[.pointer (some ⟨g,0,none⟩),.int .i64 2] w fun e w'=>e= .returned (.tuple #[])∧w=w':=by
 have hN0:¬(2:Int)-1<(N:Int):=by omega
 have hN1:(N:Int)<2:=by omega
 go_enter Tryz.func73,Tryz.ntmps73
 go_wp2_with fail
 all_goals first|(exfalso;omega)|skip
 go_returns
 exact⟨rfl,rfl⟩
theorem tw3_no(g N cap:Nat)(a:Option Addr)(w:World)(hc:w.cell? ⟨g,5,none⟩=some (.slice a N cap))(hN:N<1) :
 Calls Tryz.prog 73 #[.pointer (some ⟨g,0,none⟩),.int .i64 3] w fun e w'=>e= .returned (.tuple #[])∧w=w':=by
 have hN0:¬(1:Int)-1<(N:Int):=by omega
 have hN1:(N:Int)<1:=by omega
 go_enter Tryz.func73,Tryz.ntmps73
 go_wp2_with fail
 all_goals first|(exfalso;omega)|skip
 go_returns
 exact⟨rfl,rfl⟩
theorem tw4_no(g N cap:Nat)(a:Option Addr)(w:World)(hc:w.cell? ⟨g,4,none⟩=some (.slice a N cap))(hN:N<2) :
 Calls Tryz.prog 73 #[.pointer (some ⟨g,0,none⟩),.int .i64 4] w fun e w'=>e= .returned (.tuple #[])∧w=w':=by
 have hN0:¬(2:Int)-1<(N:Int):=by omega
 have hN1:(N:Int)<2:=by omega
 go_enter Tryz.func73,Tryz.ntmps73
 go_wp2_with fail
 all_goals first|(exfalso;omega)|skip
 go_returns
 exact⟨rfl,rfl⟩
theorem tw5_no(g N cap:Nat)(a:Option Addr)(w:World)(hc:w.cell? ⟨g,3,none⟩=some (.slice a N cap))(hN:N<2) :
 Calls Tryz.prog 73 #[.pointer (some ⟨g,0,none⟩),.int .i64 5] w fun e w'=>e= .returned (.tuple #[])∧w=w':=by
 have hN0:¬(2:Int)-1<(N:Int):=by omega
 have hN1:(N:Int)<2:=by omega
 go_enter Tryz.func73,Tryz.ntmps73
 go_wp2_with fail
 all_goals first|(exfalso;omega)|skip
 go_returns
 exact⟨rfl,rfl⟩
theorem tw6_no(g N cap:Nat)(a:Option Addr)(w:World)(hc:w.cell? ⟨g,5,none⟩=some (.slice a N cap))(hN:N<1) :
 Calls Tryz.prog 73 #[.pointer (some ⟨g,0,none⟩),.int .i64 6] w fun e w'=>e= .returned (.tuple #[])∧w=w':=by
 have hN0:¬(1:Int)-1<(N:Int):=by omega
 have hN1:(N:Int)<1:=by omega
 go_enter Tryz.func73,Tryz.ntmps73
 go_wp2_with fail
 all_goals first|(exfalso;omega)|skip
 go_returns
 exact⟨rfl,rfl⟩
end Go.Proofs.YtlheailebbngiaaGreatDoor
namespace Go.Proofs.YtlheailebbngiaaGreatDoor
mutual
def mentB(s:ByteArray):Ex→Bool
 | .mk op _ _ _ nm l=>(decide (op=2)&&decide (nm=s)) || mentsB s l
def mentsB(s:ByteArray):List Ex→Bool
 | []=>false
 |e::r=>mentB s e || mentsB s r
end
theorem mentB_eq(s:ByteArray)(e:Ex):mentB s e=((decide (e.op=2)&&decide (e.name=s)) || mentsB s e.args):=by cases e;rw [mentB];rfl
theorem mentsB_take(s:ByteArray)(l:List Ex)(k:Nat)(h:k<l.length):mentsB s (l.take (k+1))=(mentsB s (l.take k) || mentB s (l.getD k default)):=by
 induction l generalizing k with
 |nil=>simp at h
 |cons e r ih=>
  cases k with
  |zero=>simp [mentsB]
  |succ k=>simp only [List.take_succ_cons,mentsB,List.getD_cons_succ];rw [ih k (by simpa using h),Bool.or_assoc]
theorem mentsB_yes(s:ByteArray)(l:List Ex)(k:Nat)(h:k<l.length)(hf:mentB s (l.getD k default)=true):mentsB s l=true:=by
 induction l generalizing k with
 |nil=>simp at h
 |cons e r ih=>
  cases k with
  |zero=>simp only [List.getD_cons_zero]at hf;simp [mentsB,hf]
  |succ k=>simp only [List.getD_cons_succ]at hf;simp [mentsB,ih k (by simpa using h) hf]
def needB(e:Ex)(ls:List (ByteArray × Ex))(i:Nat)(u:List Nat):Bool:=
 mentB (ls.getD i default).1 e || u.any fun k=>mentB (ls.getD i default).1 (ls.getD k default).2
def usesG(e:Ex)(ls:List (ByteArray × Ex)):Nat→List Nat
 |0=>[]
 |f+1=>if needB e ls (ls.length-(f+1)) (usesG e ls f)then(ls.length-(f+1))::usesG e ls f else usesG e ls f
def usesL(e:Ex)(ls:List (ByteArray × Ex)):List Nat:=usesG e ls ls.length
theorem usesG_mem{e:Ex}{ls:List (ByteArray × Ex)}:∀(f:Nat),f≤ls.length→∀i∈usesG e ls f,ls.length-f≤i∧i<ls.length
 |0,_,i,h=>by simp [usesG]at h
 |f+1,hf,i,h=>by
  rw [usesG]at h
  split at h
  ·rcases List.mem_cons.1 h with rfl|h
   ·omega
   ·have:=usesG_mem f (by omega) i h;omega
  ·have:=usesG_mem f (by omega) i h;omega
theorem usesG_asc{e:Ex}{ls:List (ByteArray × Ex)}:∀(f:Nat),f≤ls.length→(usesG e ls f).Pairwise (· < ·)
 |0,_=>by simp [usesG]
 |f+1,hf=>by
  rw [usesG]
  split
  ·exact List.pairwise_cons.2 ⟨fun i hi=>by have:=usesG_mem f (by omega) i hi;omega,usesG_asc f (by omega)⟩
  ·exact usesG_asc f (by omega)
theorem usesG_length{e:Ex}{ls:List (ByteArray × Ex)}:∀(f:Nat),(usesG e ls f).length≤f
 |0=>by simp [usesG]
 |f+1=>by
  rw [usesG]
  have:=usesG_length (e:=e) (ls:=ls) f
  split<;>simp<;>omega
theorem usesG_contains{e:Ex}{ls:List (ByteArray × Ex)}(f:Nat)(hf:f+1≤ls.length):(usesG e ls (f+1)).contains (ls.length-(f+1))=needB e ls (ls.length-(f+1)) (usesG e ls f):=by
 rw [usesG]
 split<;>rename_i h
 ·simp [h]
 ·rw [Bool.eq_false_iff.2 h]
  rw [Bool.eq_false_iff]
  intro hc
  have:=usesG_mem f (by omega) _ (List.contains_iff_mem.1 hc)
  omega
theorem usesG_sub{e:Ex}{ls:List (ByteArray × Ex)}{i:Nat}:∀(f g:Nat),f+g≤ls.length→ls.length-f≤i→i<ls.length→(i∈usesG e ls (f+g)↔i∈usesG e ls f)
 |f,0,_,_,_=>Iff.rfl
 |f,g+1,h,h1,h2=>by
  have ih:=usesG_sub (e:=e) f g (by omega) h1 h2
  show i∈usesG e ls (f+g+1)↔_
  rw [usesG]
  split
  ·rw [List.mem_cons,ih]
   constructor
   ·rintro(h3|h3)
    ·omega
    ·exact h3
   ·exact .inr
  ·exact ih
end Go.Proofs.YtlheailebbngiaaGreatDoor
namespace Go.Proofs.YtlheailebbngiaaGreatDoor
open Go.RowKit Go.ChangeShapes Go.WideShapes Go.Deep
section
variable {H : Type} {enc : TypeId × Value → H} {P : Program} {w : World}
theorem RowsAt.of_trod{t e q:TypeId}{fuel:Nat}{v:Value}{x:DataW H × List MemPlace}(ht:P.underlying t=some (.slice e))(he:P.underlying e=some (.slice q))(hq:P.underlying q=some (.int .i64))(ce:P.cellsOf e=1)(cq:P.cellsOf q=1)(be:P.bytesOf e=24)(bq:P.bytesOf q=8)
 (h:DataW.trod enc P w 0 (fun _=>true) true fuel t [v]=some x) (hf:fits P t x.1):∃zss,RowsAt w v zss:=by
 rcases open_int_rows ht he hq ce cq h with ⟨hcs,_⟩|⟨a,len,cap,A,L,C,Z,hcs,_,hl,hm,hx,hr⟩
 ·simp at hcs
  subst hcs
  exact⟨[],by simp,none,0,rfl,.inl rfl⟩
 ·simp at hcs
  subst hcs
  have h8:len≤140737488355328:=by
   have h9:=hf ((len+(cap-len))*24) (by rw [hx];simp [DataW.weights,ht,be])
   omega
  have hrow:∀r,r<len→IntsAt w (.slice (A r) (L r) (C r)) ((Z r).take (L r)):=by
   intro r hrl
   obtain⟨h1,h2,h3,h4,h5,h6,h7⟩:=hr r (by omega)
   refine IntsAt.of_cells h2 h4 h5 ?_ (fun e=>by have:=h6 e;omega) (fun x' hx' i hi=>(h7 x' hx').2 i hi)
   cases hA:A r with
   |none=>have:=h6 hA;omega
   |some y=>
    have h9:=hf ((L r+(C r-L r))*8) (by
     rw [hx]
     simp only [DataW.weights,ht,List.mem_cons,List.mem_append]
     right;left
     have key:∀(l:List Nat),r∈l→(L r+(C r-L r))*8∈DataW.weightsAll P e (l.map fun r=>(intRow (H:=H) .i64 (A r) (L r) (Z r))):=by
      intro l
      induction l with
      |nil=>intro h;cases h
      |cons y' l ih=>
       intro h
       simp only [List.map_cons,DataW.weightsAll,List.mem_append]
       rcases List.mem_cons.1 h with rfl|h
       ·left;simp [intRow,hA,DataW.weights,he,lits,bq,h4,Nat.min_eq_left h2]
       ·exact .inr (ih h)
     exact key _ (List.mem_range.2 hrl))
    omega
  refine⟨(List.range len).map fun r=>(Z r).take (L r),by simpa using h8,some a,cap,by simp, ?_⟩
  by_cases h0:len=0
  ·left;simp [h0]
  ·right
   obtain⟨b,off,spot⟩:=a
   have h1:=(hr 0 (by omega)).1
   have hspot:spot=none:=by simpa [Addr.add]using World.cell?_spot h1
   subst hspot
   have h2:∀i,i<cap→w.cell? ⟨b,off+i,none⟩=some (.slice (A i) (L i) (C i)):=fun i hi=>by
    rw [←add_at'];exact(hr i hi).1
   refine⟨b,off,rfl,cell_lt (h2 0 (by omega)),fun i hi=>?_⟩
   have hi':i<len:=by simpa using hi
   refine⟨_,h2 i (by omega), ?_⟩
   have:((List.range len).map fun r=>(Z r).take (L r)).getD i []=(Z i).take (L i):=by simp [List.getD_eq_getElem?_getD,hi']
   rw [this]
   exact hrow i hi'
end
theorem array10{α:Type}{cs:Array α}(h:cs.size=10):∃c0 c1 c2 c3 c4 c5 c6 c7 c8 c9,cs=#[c0,c1,c2,c3,c4,c5,c6,c7,c8,c9]:=by
 obtain⟨l⟩:=cs
 match l,h with
 | [c0,c1,c2,c3,c4,c5,c6,c7,c8,c9],_=>exact⟨c0,c1,c2,c3,c4,c5,c6,c7,c8,c9,rfl⟩
theorem c25:(Tryz.prog).cellsOf 72=10:=by kernel_rfl
theorem c23:(Tryz.prog).cellsOf 70=1:=by kernel_rfl
theorem RawAt.of_trod{H:Type}{enc:TypeId × Value→H}{w:World}{r:Reach}{b0:Nat}{v:Value}{d:DataW H}{p:List MemPlace}(hv:Value.okWide Tryz.prog w r b0 72 v)
 (h:DataW.Trod enc Tryz.prog w 0 (fun _=>true) true 72 v d p) (hf:fits Tryz.prog 72 d) :
 ∃R cs,v= .agg cs∧RawAt w cs.toList R:=by
 have ht:=Tryz.underlying72
 obtain⟨cs,rfl,hsz⟩:=okWide_struct ht hv
 obtain⟨c0,c1,c2,c3',c4,c5,c6,c7,c8,c9,rfl⟩:=array10 (hsz.trans c25)
 obtain⟨fuel,h⟩:=h
 obtain⟨xs,n,_,hx,_,hlen,hF⟩:=DataW.trod_struct ht h
 simp only [Prod.mk.injEq]at hx
 obtain⟨rfl,-⟩:=hx
 have k0:=hF 0 _ rfl
 have k1:=hF 1 _ rfl
 have k2:=hF 2 _ rfl
 have k3:=hF 3 _ rfl
 have k4:=hF 4 _ rfl
 have k5:=hF 5 _ rfl
 have k6:=hF 6 _ rfl
 have k7:=hF 7 _ rfl
 have k8:=hF 8 _ rfl
 have k9:=hF 9 _ rfl
 simp only [Value.cells,List.drop_zero,List.drop_succ_cons,List.take_succ_cons,List.take_zero]at k0 k1 k2 k3 k4 k5 k6 k7 k8 k9
 match xs,hlen with
 | [y0,y1,y2,y3,y4,y5,y6,y7,y8,y9],_=>
   obtain⟨n0,rfl,w0⟩:=int_of_trod k0
   obtain⟨n1,rfl,w1⟩:=int_of_trod k1
   obtain⟨n2,rfl,w2⟩:=int_of_trod k2
   obtain⟨n9,rfl,w9⟩:=int_of_trod k9
   obtain⟨z3,w3⟩:=IntsAt.of_trod Tryz.underlying24 Tryz.underlying3 c3 b3 k3 (fits_part ht hf (i:=3) rfl rfl)
   obtain⟨z4,w4⟩:=IntsAt.of_trod Tryz.underlying24 Tryz.underlying3 c3 b3 k4 (fits_part ht hf (i:=4) rfl rfl)
   obtain⟨z5,w5⟩:=RowsAt.of_trod Tryz.underlying70 Tryz.underlying24 Tryz.underlying3 c22 c3 b22 b3 k5 (fits_part ht hf (i:=5) rfl rfl)
   obtain⟨z6,w6⟩:=RowsAt.of_trod Tryz.underlying70 Tryz.underlying24 Tryz.underlying3 c22 c3 b22 b3 k6 (fits_part ht hf (i:=6) rfl rfl)
   obtain⟨z7,w7⟩:=RowsAt.of_trod Tryz.underlying70 Tryz.underlying24 Tryz.underlying3 c22 c3 b22 b3 k7 (fits_part ht hf (i:=7) rfl rfl)
   obtain⟨z8,w8⟩:=RowsAt.of_trod Tryz.underlying70 Tryz.underlying24 Tryz.underlying3 c22 c3 b22 b3 k8 (fits_part ht hf (i:=8) rfl rfl)
   exact⟨⟨n0,n1,n2,z3,z4,z5,z6,z7,z8,n9⟩,_,rfl,w0,w1,w2,w9,c3',c4,c5,c6,c7,c8,rfl,w3,w4,w5,w6,w7,w8⟩
end Go.Proofs.YtlheailebbngiaaGreatDoor
