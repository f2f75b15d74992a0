import Derived.Test.YtfoefpoaomepbaaGreatDoorFEvP
import Derived.Lib.Hide
import Derived.Deep.CutBlock
set_option linter.all false
set_option maxHeartbeats 16000000
set_option maxRecDepth 1000000
namespace Go.Proofs.YtfoefpoaomepbaaGreatDoor
mutual
def mentB(s:ByteArray):Ex→Bool
 | .mk op _ _ _ nm l=>(decide (op=2)&&decide (nm=s)) || mentsB s l
def mentsB(s:ByteArray):List Ex→Bool
 | []=>false
 |e::r=>mentB s e || mentsB s r
end
theorem mentB_eq(s:ByteArray)(e:Ex):mentB s e=((decide (e.op=2)&&decide (e.name=s)) || mentsB s e.args):=by cases e;rw [mentB];rfl
def needB(e:Ex)(ls:List (ByteArray × Ex))(i:Nat)(u:List Nat):Bool:=
 mentB (ls.getD i default).1 e || u.any fun k=>mentB (ls.getD i default).1 (ls.getD k default).2
def usesG(e:Ex)(ls:List (ByteArray × Ex)):Nat→List Nat
 |0=>[]
 |f+1=>if needB e ls (ls.length-(f+1)) (usesG e ls f)then(ls.length-(f+1))::usesG e ls f else usesG e ls f
def usesL(e:Ex)(ls:List (ByteArray × Ex)):List Nat:=usesG e ls ls.length
theorem usesG_mem{e:Ex}{ls:List (ByteArray × Ex)}:∀(f:Nat),f≤ls.length→∀i∈usesG e ls f,ls.length-f≤i∧i<ls.length
 |0,_,i,h=>by simp [usesG]at h
 |f+1,hf,i,h=>by
  rw [usesG]at h
  split at h
  ·rcases List.mem_cons.1 h with rfl|h
   ·omega
   ·have:=usesG_mem f (by omega) i h;omega
  ·have:=usesG_mem f (by omega) i h;omega
theorem usesG_asc{e:Ex}{ls:List (ByteArray × Ex)}:∀(f:Nat),f≤ls.length→(usesG e ls f).Pairwise (· < ·)
 |0,_=>by simp [usesG]
 |f+1,hf=>by
  rw [usesG]
  split
  ·exact List.pairwise_cons.2 ⟨fun i hi=>by have:=usesG_mem f (by omega) i hi;omega,usesG_asc f (by omega)⟩
  ·exact usesG_asc f (by omega)
theorem usesG_length{e:Ex}{ls:List (ByteArray × Ex)}:∀(f:Nat),(usesG e ls f).length≤f
 |0=>by simp [usesG]
 |f+1=>by
  rw [usesG]
  have:=usesG_length (e:=e) (ls:=ls) f
  split<;>simp<;>omega
theorem usesG_contains{e:Ex}{ls:List (ByteArray × Ex)}(f:Nat)(hf:f+1≤ls.length):(usesG e ls (f+1)).contains (ls.length-(f+1))=needB e ls (ls.length-(f+1)) (usesG e ls f):=by
 rw [usesG]
 split<;>rename_i h
 ·simp [h]
 ·rw [Bool.eq_false_iff.2 h]
  rw [Bool.eq_false_iff]
  intro hc
  have:=usesG_mem f (by omega) _ (List.contains_iff_mem.1 hc)
  omega
theorem usesG_sub{e:Ex}{ls:List (ByteArray × Ex)}{i:Nat}:∀(f g:Nat),f+g≤ls.length→ls.length-f≤i→i<ls.length→(i∈usesG e ls (f+g)↔i∈usesG e ls f)
 |f,0,_,_,_=>Iff.rfl
 |f,g+1,h,h1,h2=>by
  have ih:=usesG_sub (e:=e) f g (by omega) h1 h2
  show i∈usesG e ls (f+g+1)↔_
  rw [usesG]
  split
  ·rw [List.mem_cons,ih]
   constructor
   ·rintro(h3|h3)
    ·omega
    ·exact h3
   ·exact .inr
  ·exact ih
end Go.Proofs.YtfoefpoaomepbaaGreatDoor
namespace Go.Proofs.YtfoefpoaomepbaaGreatDoor
open Go.RowKit
theorem tw1_yes(g gg N cap:Nat)(b0:Int)(w:World)(hc:w.cell? ⟨g,6,none⟩=some (.slice (some ⟨gg,0,none⟩) N cap))
 (hN:2≤N) (hm:N≤140737488355328) (hc0:w.cell? ⟨gg,0,none⟩=some (.int .i64 b0)) (u:Value) (hu:w.cell? ⟨gg,13,none⟩=some u) (hf:w.frozen? ⟨gg,13,none⟩=false) :
 Calls Tryz.prog 63 #[.pointer (some ⟨g,0,none⟩),.int .i64 1] w fun e w'=>e= .returned (.tuple #[])∧w'=(w.setCell ⟨gg,13,none⟩ (.int .i64 b0)).drew:=by
 have hN1:(1:Int)<(N:Int):=by omega
 have hN0:(0:Int)<(N:Int):=by omega
 have hN2:0<N:=by omega
 have hN3:1<N:=by omega
 go_enter Tryz.func63,Tryz.ntmps63
 go_wp2_with fail
 refine TG.begin 13 (fun w'=>w'.cell? ⟨g,6,none⟩=some (.slice (some ⟨gg,0,none⟩) N cap)∧w'.cell? ⟨gg,0,none⟩=some (.int .i64 b0)) (by kernel_rfl) (by kernel_rfl) ?_ (fun hS=>?_)
 focus exact⟨hc,hc0⟩
 refine TG.tkB 0 hS ?_
 refine TG.tkB 1 hS ?_
 refine TG.tkB 2 hS ?_
 refine TG.tkB 3 hS ?_
 refine TG.tkB 4 hS ?_
 refine TG.tkB 5 hS ?_
 refine TG.tkB 6 hS ?_
 refine TG.tkB 7 hS ?_
 refine TG.tkB 8 hS ?_
 refine TG.tkB 9 hS ?_
 refine TG.tkB 10 hS ?_
 refine TG.tkB 11 hS ?_
 refine TG.tkB 12 hS ?_
 refine TG.one (i:=13) (by kernel_rfl) rfl (fun K1 hK1=>?_)
 go_simp
 refine hK1 _ _ (fun h=>absurd rfl h) (TG.done (by kernel_rfl) ?_)
 clear hK1 K1 hS
 (try simp only [nS])
 go_wp2_with fail
 go_returns
 exact⟨rfl,rfl⟩
theorem tw2_yes(g gg N cap:Nat)(b0:ByteArray)(w:World)(hc:w.cell? ⟨g,5,none⟩=some (.slice (some ⟨gg,0,none⟩) N cap))
 (hN:2≤N) (hm:N≤140737488355328) (hc0:w.cell? ⟨gg,0,none⟩=some (.string b0)) (u:Value) (hu:w.cell? ⟨gg,7,none⟩=some u) (hf:w.frozen? ⟨gg,7,none⟩=false) :
 Calls Tryz.prog 63 #[.pointer (some ⟨g,0,none⟩),.int .i64 2] w fun e w'=>e= .returned (.tuple #[])∧w'=(w.setCell ⟨gg,7,none⟩ (.string b0)).drew:=by
 have hN1:(1:Int)<(N:Int):=by omega
 have hN0:(0:Int)<(N:Int):=by omega
 have hN2:0<N:=by omega
 have hN3:1<N:=by omega
 go_enter Tryz.func63,Tryz.ntmps63
 go_wp2_with fail
 refine TG.begin 13 (fun w'=>w'.cell? ⟨g,5,none⟩=some (.slice (some ⟨gg,0,none⟩) N cap)∧w'.cell? ⟨gg,0,none⟩=some (.string b0)) (by kernel_rfl) (by kernel_rfl) ?_ (fun hS=>?_)
 focus exact⟨hc,hc0⟩
 refine TG.tkB 0 hS ?_
 refine TG.tkB 1 hS ?_
 refine TG.tkB 2 hS ?_
 refine TG.tkB 3 hS ?_
 refine TG.tkB 4 hS ?_
 refine TG.tkB 5 hS ?_
 refine TG.tkB 6 hS ?_
 refine TG.tkB 7 hS ?_
 refine TG.tkB 8 hS ?_
 refine TG.tkB 9 hS ?_
 refine TG.tkB 10 hS ?_
 refine TG.tkB 11 hS ?_
 refine TG.tkB 12 hS ?_
 refine TG.one (i:=13) (by kernel_rfl) rfl (fun K1 hK1=>?_)
 go_simp
 refine hK1 _ _ (fun h=>absurd rfl h) (TG.done (by kernel_rfl) ?_)
 clear hK1 K1 hS
 (try simp only [nS])
 go_wp2_with fail
 go_returns
 exact⟨rfl,rfl⟩
theorem tw4_yes(g gg N cap:Nat)(b0:Int)(w:World)(hc:w.cell? ⟨g,4,none⟩=some (.slice (some ⟨gg,0,none⟩) N cap))
 (hN:2≤N) (hm:N≤140737488355328) (hc0:w.cell? ⟨gg,0,none⟩=some (.int .i64 b0)) (u:Value) (hu:w.cell? ⟨gg,3,none⟩=some u) (hf:w.frozen? ⟨gg,3,none⟩=false) :
 Calls Tryz.prog 63 #[.pointer (some ⟨g,0,none⟩),.int .i64 4] w fun e w'=>e= .returned (.tuple #[])∧w'=(w.setCell ⟨gg,3,none⟩ (.int .i64 b0)).drew:=by
 have hN1:(1:Int)<(N:Int):=by omega
 have hN0:(0:Int)<(N:Int):=by omega
 have hN2:0<N:=by omega
 have hN3:1<N:=by omega
 go_enter Tryz.func63,Tryz.ntmps63
 go_wp2_with fail
 refine TG.begin 13 (fun w'=>w'.cell? ⟨g,4,none⟩=some (.slice (some ⟨gg,0,none⟩) N cap)∧w'.cell? ⟨gg,0,none⟩=some (.int .i64 b0)) (by kernel_rfl) (by kernel_rfl) ?_ (fun hS=>?_)
 focus exact⟨hc,hc0⟩
 refine TG.tkB 0 hS ?_
 refine TG.tkB 1 hS ?_
 refine TG.tkB 2 hS ?_
 refine TG.tkB 3 hS ?_
 refine TG.tkB 4 hS ?_
 refine TG.tkB 5 hS ?_
 refine TG.tkB 6 hS ?_
 refine TG.tkB 7 hS ?_
 refine TG.tkB 8 hS ?_
 refine TG.tkB 9 hS ?_
 refine TG.tkB 10 hS ?_
 refine TG.tkB 11 hS ?_
 refine TG.tkB 12 hS ?_
 refine TG.one (i:=13) (by kernel_rfl) rfl (fun K1 hK1=>?_)
 go_simp
 refine hK1 _ _ (fun h=>absurd rfl h) (TG.done (by kernel_rfl) ?_)
 clear hK1 K1 hS
 (try simp only [nS])
 go_wp2_with fail
 go_returns
 exact⟨rfl,rfl⟩
theorem tw5_yes(g gg N cap:Nat)(b0:Int)(w:World)(hc:w.cell? ⟨g,3,none⟩=some (.slice (some ⟨gg,0,none⟩) N cap))
 (hN:2≤N) (hm:N≤140737488355328) (hc0:w.cell? ⟨gg,0,none⟩=some (.int .i64 b0)) (u:Value) (hu:w.cell? ⟨gg,2,none⟩=some u) (hf:w.frozen? ⟨gg,2,none⟩=false) :
 Calls Tryz.prog 63 #[.pointer (some ⟨g,0,none⟩),.int .i64 5] w fun e w'=>e= .returned (.tuple #[])∧w'=(w.setCell ⟨gg,2,none⟩ (.int .i64 b0)).drew:=by
 have hN1:(1:Int)<(N:Int):=by omega
 have hN0:(0:Int)<(N:Int):=by omega
 have hN2:0<N:=by omega
 have hN3:1<N:=by omega
 go_enter Tryz.func63,Tryz.ntmps63
 go_wp2_with fail
 refine TG.begin 13 (fun w'=>w'.cell? ⟨g,3,none⟩=some (.slice (some ⟨gg,0,none⟩) N cap)∧w'.cell? ⟨gg,0,none⟩=some (.int .i64 b0)) (by kernel_rfl) (by kernel_rfl) ?_ (fun hS=>?_)
 focus exact⟨hc,hc0⟩
 refine TG.tkB 0 hS ?_
 refine TG.tkB 1 hS ?_
 refine TG.tkB 2 hS ?_
 refine TG.tkB 3 hS ?_
 refine TG.tkB 4 hS ?_
 refine TG.tkB 5 hS ?_
 refine TG.tkB 6 hS ?_
 refine TG.tkB 7 hS ?_
 refine TG.tkB 8 hS ?_
 refine TG.tkB 9 hS ?_
 refine TG.tkB 10 hS ?_
 refine TG.tkB 11 hS ?_
 refine TG.tkB 12 hS ?_
 refine TG.one (i:=13) (by kernel_rfl) rfl (fun K1 hK1=>?_)
 go_simp
 refine hK1 _ _ (fun h=>absurd rfl h) (TG.done (by kernel_rfl) ?_)
 clear hK1 K1 hS
 (try simp only [nS])
 go_wp2_with fail
 go_returns
 exact⟨rfl,rfl⟩
theorem tw0_yes(g gg N cap:Nat)(o nu de di:Int)(na:ByteArray)(va:Option Addr)(vn vc:Nat)(w:World)(hc:w.cell? ⟨g,6,none⟩=some (.slice (some ⟨gg,0,none⟩) N cap))
 (hN:1≤N) (hm:N≤140737488355328) (k1:w.cell? ⟨gg,1,none⟩=some (.int .i64 o)) (k2:w.cell? ⟨gg,2,none⟩=some (.int .i64 nu)) (k3:w.cell? ⟨gg,3,none⟩=some (.int .i64 de)) (k4:w.cell? ⟨gg,4,none⟩=some (.int .i64 di)) (k5:w.cell? ⟨gg,5,none⟩=some (.string na)) (k6:w.cell? ⟨gg,6,none⟩=some (.slice va vn vc))
 (u1 u2 u3 u4 u5 u6:Value) (j1:w.cell? ⟨gg,7,none⟩=some u1) (j2:w.cell? ⟨gg,8,none⟩=some u2) (j3:w.cell? ⟨gg,9,none⟩=some u3) (j4:w.cell? ⟨gg,10,none⟩=some u4) (j5:w.cell? ⟨gg,11,none⟩=some u5) (j6:w.cell? ⟨gg,12,none⟩=some u6)
 (hf:∀i,w.frozen? ⟨gg,i,none⟩=false) :
 Calls Tryz.prog 63 #[.pointer (some ⟨g,0,none⟩),.int .i64 0] w fun e w'=>e= .returned (.tuple #[])∧
  w'=((((((w.setCell ⟨gg,7,none⟩ (.int .i64 o)).setCell ⟨gg,8,none⟩ (.int .i64 nu)).setCell ⟨gg,9,none⟩ (.int .i64 de)).setCell ⟨gg,10,none⟩ (.int .i64 di)).setCell ⟨gg,11,none⟩ (.string na)).setCell ⟨gg,12,none⟩ (.slice va vn vc)).drew:=by
 have hN0:(0:Int)<(N:Int):=by omega
 have hN2:0<N:=by omega
 go_enter Tryz.func63,Tryz.ntmps63
 go_wp2_with fail
 refine TG.begin 13 (fun w'=>w'.cell? ⟨g,6,none⟩=some (.slice (some ⟨gg,0,none⟩) N cap)∧w'.cell? ⟨gg,1,none⟩=some (.int .i64 o)∧w'.cell? ⟨gg,2,none⟩=some (.int .i64 nu)∧w'.cell? ⟨gg,3,none⟩=some (.int .i64 de)∧w'.cell? ⟨gg,4,none⟩=some (.int .i64 di)∧w'.cell? ⟨gg,5,none⟩=some (.string na)∧w'.cell? ⟨gg,6,none⟩=some (.slice va vn vc)) (by kernel_rfl) (by kernel_rfl) ?_ (fun hS=>?_)
 focus exact⟨hc,k1,k2,k3,k4,k5,k6⟩
 refine TG.tkB 0 hS ?_
 refine TG.tkB 1 hS ?_
 refine TG.tkB 2 hS ?_
 refine TG.tkB 3 hS ?_
 refine TG.tkB 4 hS ?_
 refine TG.tkB 5 hS ?_
 refine TG.tkB 6 hS ?_
 refine TG.tkB 7 hS ?_
 refine TG.tkB 8 hS ?_
 refine TG.tkB 9 hS ?_
 refine TG.tkB 10 hS ?_
 refine TG.tkB 11 hS ?_
 refine TG.tkB 12 hS ?_
 refine TG.one (i:=13) (by kernel_rfl) rfl (fun K1 hK1=>?_)
 go_simp
 refine hK1 _ _ (fun h=>absurd rfl h) (TG.done (by kernel_rfl) ?_)
 clear hK1 K1 hS
 (try simp only [nS])
 go_wp2_with fail
 go_returns
 exact⟨rfl,rfl⟩
theorem tw3_yes(g gg N cap:Nat)(w:World)(hc:w.cell? ⟨g,5,none⟩=some (.slice (some ⟨gg,0,none⟩) N cap))
 (hN:1≤N) (hm:N≤140737488355328) (u1 u2 u3 u4 u5 u6:Value) (j1:w.cell? ⟨gg,1,none⟩=some u1) (j2:w.cell? ⟨gg,2,none⟩=some u2) (j3:w.cell? ⟨gg,3,none⟩=some u3) (j4:w.cell? ⟨gg,4,none⟩=some u4) (j5:w.cell? ⟨gg,5,none⟩=some u5) (j6:w.cell? ⟨gg,6,none⟩=some u6)
 (hf:∀i,w.frozen? ⟨gg,i,none⟩=false) :
 Calls Tryz.prog 63 #[.pointer (some ⟨g,0,none⟩),.int .i64 3] w fun e w'=>e= .returned (.tuple #[])∧
  w'=(((((w.setCell ⟨gg,1,none⟩ (.int .i64 2)).setCell ⟨gg,2,none⟩ (.int .i64 0)).setCell ⟨gg,3,none⟩ (.int .i64 0)).setCell ⟨gg,4,none⟩ (.int .i64 0)).setCell ⟨gg,5,none⟩ (.string ⟨#[108,97,116,101,114]⟩)).setCell ⟨gg,6,none⟩ (.slice none 0 0):=by
 have hN0:(0:Int)<(N:Int):=by omega
 have hN2:0<N:=by omega
 go_enter Tryz.func63,Tryz.ntmps63
 go_wp2_with fail
 go_returns
 exact⟨rfl,rfl⟩
theorem tw6_yes(g gg N cap:Nat)(w:World)(hc:w.cell? ⟨g,5,none⟩=some (.slice (some ⟨gg,0,none⟩) N cap))
 (hN:1≤N) (hm:N≤140737488355328) (u1:Value) (j1:w.cell? ⟨gg,0,none⟩=some u1) (hf:w.frozen? ⟨gg,0,none⟩=false) :
 Calls Tryz.prog 63 #[.pointer (some ⟨g,0,none⟩),.int .i64 6] w fun e w'=>e= .returned (.tuple #[])∧w'=w.setCell ⟨gg,0,none⟩ (.string ⟨#[97,103,101]⟩):=by
 have hN0:(0:Int)<(N:Int):=by omega
 have hN2:0<N:=by omega
 go_enter Tryz.func63,Tryz.ntmps63
 go_wp2_with fail
 go_returns
 exact⟨rfl,rfl⟩
theorem tw0_no(g N cap:Nat)(a:Option Addr)(w:World)(hc:w.cell? ⟨g,6,none⟩=some (.slice a N cap))(hN:N<1) :
 Calls Tryz.prog 63 #[.pointer (some ⟨g,0,none⟩),.int .i64 0] w fun e w'=>e= .returned (.tuple #[])∧w=w':=by
 have hN0:¬(1:Int)-1<(N:Int):=by omega
 have hN1:(N:Int)<1:=by omega
 go_enter Tryz.func63,Tryz.ntmps63
 go_wp2_with fail
 all_goals first|(exfalso;omega)|skip
 go_returns
 exact⟨rfl,rfl⟩
theorem tw1_no(g N cap:Nat)(a:Option Addr)(w:World)(hc:w.cell? ⟨g,6,none⟩=some (.slice a N cap))(hN:N<2) :
 Calls Tryz.prog 63 #[.pointer (some ⟨g,0,none⟩),.int .i64 1] w fun e w'=>e= .returned (.tuple #[])∧w=w':=by
 have hN0:¬(2:Int)-1<(N:Int):=by omega
 have hN1:(N:Int)<2:=by omega
 go_enter Tryz.func63,Tryz.ntmps63
 go_wp2_with fail
 all_goals first|(exfalso;omega)|skip
 go_returns
 exact⟨rfl,rfl⟩
theorem tw2_no(g N cap:Nat)(a:Option Addr)(w:World)(hc:w.cell? ⟨g,5,none⟩=some (.slice a N cap))(hN:N<2) :
 Calls Tryz.prog 63 #[.pointer (some ⟨g,0,none⟩),.int .i64 2] w fun e w'=>e= .returned (.tuple #[])∧w=w':=by
 have hN0:¬(2:Int)-1<(N:Int):=by omega
 have hN1:(N:Int)<2:=by omega
 go_enter Tryz.func63,Tryz.ntmps63
 go_wp2_with fail
 all_goals first|(exfalso;omega)|skip
 go_returns
 exact⟨rfl,rfl⟩
theorem tw3_no(g N cap:Nat)(a:Option Addr)(w:World)(hc:w.cell? ⟨g,5,none⟩=some (.slice a N cap))(hN:N<1) :
 Calls Tryz.prog 63 #[.pointer (some ⟨g,0,none⟩),.int .i64 3] w fun e w'=>e= .returned (.tuple #[])∧w=w':=by
 have hN0:¬(1:Int)-1<(N:Int):=by omega
 have hN1:(N:Int)<1:=by omega
 go_enter Tryz.func63,Tryz.ntmps63
 go_wp2_with fail
 all_goals first|(exfalso;omega)|skip
 go_returns
 exact⟨rfl,rfl⟩
theorem tw4_no(g N cap:Nat)(a:Option Addr)(w:World)(hc:w.cell? ⟨g,4,none⟩=some (.slice a N cap))(hN:N<2) :
 Calls Tryz.prog 63 #[.pointer (some ⟨g,0,none⟩),.int .i64 4] w fun e w'=>e= .returned (.tuple #[])∧w=w':=by
 have hN0:¬(2:Int)-1<(N:Int):=by omega
 have hN1:(N:Int)<2:=by omega
 go_enter Tryz.func63,Tryz.ntmps63
 go_wp2_with fail
 all_goals first|(exfalso;omega)|skip
 go_returns
 exact⟨rfl,rfl⟩
theorem tw5_no(g N cap:Nat)(a:Option Addr)(w:World)(hc:w.cell? ⟨g,3,none⟩=some (.slice a N cap))(hN:N<2) :
 Calls Tryz.prog 63 #[.pointer (some ⟨g,0,none⟩),.int .i64 5] w fun e w'=>e= .returned (.tuple #[])∧w=w':=by
 have hN0:¬(2:Int)-1<(N:Int):=by omega
 have hN1:(N:Int)<2:=by omega
 go_enter Tryz.func63,Tryz.ntmps63
 go_wp2_with fail
 all_goals first|(exfalso;omega)|skip
 go_returns
 exact⟨rfl,rfl⟩
theorem tw6_no(g N cap:Nat)(a:Option Addr)(w:World)(hc:w.cell? ⟨g,5,none⟩=some (.slice a N cap))(hN:N<1) :
 Calls Tryz.prog 63 #[.pointer (some ⟨g,0,none⟩),.int .i64 6] w fun e w'=>e= .returned (.tuple #[])∧w=w':=by
 have hN0:¬(1:Int)-1<(N:Int):=by omega
 have hN1:(N:Int)<1:=by omega
 go_enter Tryz.func63,Tryz.ntmps63
 go_wp2_with fail
 all_goals first|(exfalso;omega)|skip
 go_returns
 exact⟨rfl,rfl⟩
end Go.Proofs.YtfoefpoaomepbaaGreatDoor
