import Derived.Test.YthionhbjmheimaaDoorLBase
import Derived.Lib.Hide
import Derived.Deep.CutBlock
set_option linter.all false
set_option maxHeartbeats 16000000
set_option maxRecDepth 1000000
namespace Go.Proofs.YthionhbjmheimaaDoor
open Go.RowKit

def pick(n k:Int):Int:=if k<1 then 0 else n % k

theorem tmod_bd(n k:Int)(hk:1≤k):-k<n.tmod k∧n.tmod k<k:=by
 have h1:=Int.tmod_lt_of_pos n (show 0<k by omega)
 have h2:=Int.tmod_lt_of_pos (-n) (show 0<k by omega)
 rw [Int.neg_tmod]at h2
 omega

theorem pick_bd(n k:Int)(hk:1≤k):0≤pick n k∧pick n k<k:=by
 unfold pick
 rw [if_neg (by omega)]
 exact⟨Int.emod_nonneg _ (by omega),Int.emod_lt_of_pos _ (by omega)⟩

theorem tmod_emod(n k:Int):n.tmod k % k=n % k:=by
 have h:=Int.mul_tdiv_add_tmod n k
 have h2:n.tmod k=n+k*(-(n.tdiv k)):=by rw [Int.mul_neg];omega
 rw [h2,Int.add_mul_emod_self_left]

theorem Pick_any(n k:Int)(w:World)(h1:k≤4611686018427387904) :
 Calls Tryd.prog 6 #[.int .i64 n,.int .i64 k] w fun e w'=>e= .returned (.int .i64 (pick n k))∧w=w':=by
 by_cases hk:k<1
 ·go_enter Tryd.func6,Tryd.ntmps6
  go_wp2
  go_ret
  exact⟨by simp [pick,hk],rfl⟩
 ·have hm:=tmod_bd n k (by omega)
  have hm1:=hm.1
  have hm2:=hm.2
  clear hm
  go_enter Tryd.func6,Tryd.ntmps6
  go_wp2
  go_ret
  exact⟨by simp [pick,tmod_emod,show ¬k<1 by omega],rfl⟩

end Go.Proofs.YthionhbjmheimaaDoor
namespace Go
theorem Code.abs{c:Code}{P:Program}{Q:Exit→Act→World→Prop}{a:Act}{w:World}(h:∀W,w=W→c.wp P Q a W):c.wp P Q a w:=h w rfl
theorem Calls.quietM3{P:Program}{f:FuncId}{args:Array Value}{w:World}{B bs cs:Array Obj}{d:Nat}{v:Value}
 (h:Calls P f args (w.grow (B++(bs++cs)) d) fun e w'=>e= .returned v∧(w.grow (B++(bs++cs)) d).Grows w'):Calls P f args (w.grow (B++(bs++cs)) d) fun e w''=>e= .returned v∧∃g:Growth,w''=w.grow (B++(bs++g.bs)) g.d:=
 h.mono fun _ _ ⟨he,bs',d',hw⟩=>⟨he,⟨cs++bs',d'⟩,by rw [hw,World.grow_grow,Array.append_assoc,Array.append_assoc]⟩
theorem Calls.quietMS3{P:Program}{f:FuncId}{args:Array Value}{w:World}{B bs cs:Array Obj}{d:Nat}{v:Value}
 (h:Calls P f args (w.grow (B++(bs++cs)) d) fun e w'=>e= .returned v∧(w.grow (B++(bs++cs)) d)=w'):Calls P f args (w.grow (B++(bs++cs)) d) fun e w''=>e= .returned v∧∃g:Growth,w''=w.grow (B++(bs++g.bs)) g.d:=
 h.mono fun _ _ ⟨he,hw⟩=>⟨he,⟨cs,d⟩,hw.symm⟩
end Go
namespace Go
section
variable {P : Program} {l : List Oper} {Q : Exit → Act → World → Prop} {a afin : Act} {w : World} {id : Nat}
theorem wp_region_made2b(n:Nat)(x y:Nat × Tmp × Obj)(hm:P.follows .mixedOrders=true)(hB:Region.madeB l n [(x.1,x.2.1),(y.1,y.2.1)]=true)
 (hrx:∀o,l[x.1]? =some o→∀ρ w,(execOp ρ o).run P w= .ok (.value (.pointer (some ⟨w.heap.size,0,none⟩))) (w.alloc x.2.2))
 (hry:∀o,l[y.1]? =some o→∀ρ w,(execOp ρ o).run P w= .ok (.value (.pointer (some ⟨w.heap.size,0,none⟩))) (w.alloc y.2.2))
 (h1:∀bs d,wpQuiet P ((l.take n).map Oper.mask).toArray (fun w'=>∃g:Growth,w'=(w.grow bs d).grow g.bs g.d) (· =afin) ((l.take n).map Oper.mask) a)
 (h2:∀gb1 gd1 gb2 gd2 gb gd,wpList P l.toArray Q (l.drop n) ((afin.put (some x.2.1) (.pointer (some ⟨(w.grow gb1 gd1).heap.size,0,none⟩))).put (some y.2.1) (.pointer (some ⟨(((w.grow gb1 gd1).alloc x.2.2).grow gb2 gd2).heap.size,0,none⟩))) (((((w.grow gb1 gd1).alloc x.2.2).grow gb2 gd2).alloc y.2.2).grow gb gd))
 (h3:∀gb1 gd1 gb2 gd2 gb gd,wpList P l.toArray Q (l.drop n) ((afin.put (some y.2.1) (.pointer (some ⟨(w.grow gb1 gd1).heap.size,0,none⟩))).put (some x.2.1) (.pointer (some ⟨(((w.grow gb1 gd1).alloc y.2.2).grow gb2 gd2).heap.size,0,none⟩))) (((((w.grow gb1 gd1).alloc y.2.2).grow gb2 gd2).alloc x.2.2).grow gb gd)):(Code.region id l.toArray true).wp P Q a w:=
 wp_region_made2 n x y hm hB hrx hry h1
  (fun gb1 gd1 gb2 gd2 gb gd=>by have:=h2 gb1 gd1 gb2 gd2 gb gd;simpa only [World.size_grow,World.size_alloc]using this)
  (fun gb1 gd1 gb2 gd2 gb gd=>by have:=h3 gb1 gd1 gb2 gd2 gb gd;simpa only [World.size_grow,World.size_alloc]using this)
end
end Go
namespace Go
theorem grows_drew{w:World}{bs:Array Obj}{d:Nat}:World.Grows w (w.grow bs d).drew:=⟨bs,d+1,rfl⟩
theorem grows_drew0{w:World}:World.Grows w w.drew:=⟨#[],w.drawn+1,by simp only [World.grow,Array.append_empty];rfl⟩
end Go
namespace Go.Proofs.YthionhbjmheimaaDoor
open Go.RowKit
theorem tw1_yes(g gg N cap:Nat)(b0:Int)(w:World)(hc:w.cell? ⟨g,6,none⟩=some (.slice (some ⟨gg,0,none⟩) N cap))
 (hN:2≤N) (hm:N≤140737488355328) (hc0:w.cell? ⟨gg,0,none⟩=some (.int .i64 b0)) (u:Value) (hu:w.cell? ⟨gg,13,none⟩=some u) (hf:w.frozen? ⟨gg,13,none⟩=false) :
 Calls Tryd.prog 18 #[.pointer (some ⟨g,0,none⟩),.int .i64 1] w fun e w'=>e= .returned (.tuple #[])∧w'=(w.setCell ⟨gg,13,none⟩ (.int .i64 b0)).drew:=by
 have hN1:(1:Int)<(N:Int):=by omega
 have hN0:(0:Int)<(N:Int):=by omega
 have hN2:0<N:=by omega
 have hN3:1<N:=by omega
 go_enter Tryd.func18,Tryd.ntmps18
 go_wp2_with fail
 refine TG.begin 13 (fun w'=>w'.cell? ⟨g,6,none⟩=some (.slice (some ⟨gg,0,none⟩) N cap)∧w'.cell? ⟨gg,0,none⟩=some (.int .i64 b0)) (by kernel_rfl) (by kernel_rfl) ?_ (fun hS=>?_)
 focus exact⟨hc,hc0⟩
 refine TG.tkB 0 hS ?_
 refine TG.tkB 1 hS ?_
 refine TG.tkB 2 hS ?_
 refine TG.tkB 3 hS ?_
 refine TG.tkB 4 hS ?_
 refine TG.tkB 5 hS ?_
 refine TG.tkB 6 hS ?_
 refine TG.tkB 7 hS ?_
 refine TG.tkB 8 hS ?_
 refine TG.tkB 9 hS ?_
 refine TG.tkB 10 hS ?_
 refine TG.tkB 11 hS ?_
 refine TG.tkB 12 hS ?_
 refine TG.one (i:=13) (by kernel_rfl) rfl (fun K1 hK1=>?_)
 go_simp
 refine hK1 _ _ (fun h=>absurd rfl h) (TG.done (by kernel_rfl) ?_)
 clear hK1 K1 hS
 (try simp only [nS])
 go_wp2_with fail
 go_returns
 exact⟨rfl,rfl⟩
theorem tw2_yes(g gg N cap:Nat)(b0:ByteArray)(w:World)(hc:w.cell? ⟨g,5,none⟩=some (.slice (some ⟨gg,0,none⟩) N cap))
 (hN:2≤N) (hm:N≤140737488355328) (hc0:w.cell? ⟨gg,0,none⟩=some (.string b0)) (u:Value) (hu:w.cell? ⟨gg,7,none⟩=some u) (hf:w.frozen? ⟨gg,7,none⟩=false) :
 Calls Tryd.prog 18 #[.pointer (some ⟨g,0,none⟩),.int .i64 2] w fun e w'=>e= .returned (.tuple #[])∧w'=(w.setCell ⟨gg,7,none⟩ (.string b0)).drew:=by
 have hN1:(1:Int)<(N:Int):=by omega
 have hN0:(0:Int)<(N:Int):=by omega
 have hN2:0<N:=by omega
 have hN3:1<N:=by omega
 go_enter Tryd.func18,Tryd.ntmps18
 go_wp2_with fail
 refine TG.begin 13 (fun w'=>w'.cell? ⟨g,5,none⟩=some (.slice (some ⟨gg,0,none⟩) N cap)∧w'.cell? ⟨gg,0,none⟩=some (.string b0)) (by kernel_rfl) (by kernel_rfl) ?_ (fun hS=>?_)
 focus exact⟨hc,hc0⟩
 refine TG.tkB 0 hS ?_
 refine TG.tkB 1 hS ?_
 refine TG.tkB 2 hS ?_
 refine TG.tkB 3 hS ?_
 refine TG.tkB 4 hS ?_
 refine TG.tkB 5 hS ?_
 refine TG.tkB 6 hS ?_
 refine TG.tkB 7 hS ?_
 refine TG.tkB 8 hS ?_
 refine TG.tkB 9 hS ?_
 refine TG.tkB 10 hS ?_
 refine TG.tkB 11 hS ?_
 refine TG.tkB 12 hS ?_
 refine TG.one (i:=13) (by kernel_rfl) rfl (fun K1 hK1=>?_)
 go_simp
 refine hK1 _ _ (fun h=>absurd rfl h) (TG.done (by kernel_rfl) ?_)
 clear hK1 K1 hS
 (try simp only [nS])
 go_wp2_with fail
 go_returns
 exact⟨rfl,rfl⟩
theorem tw4_yes(g gg N cap:Nat)(b0:Int)(w:World)(hc:w.cell? ⟨g,4,none⟩=some (.slice (some ⟨gg,0,none⟩) N cap))
 (hN:2≤N) (hm:N≤140737488355328) (hc0:w.cell? ⟨gg,0,none⟩=some (.int .i64 b0)) (u:Value) (hu:w.cell? ⟨gg,3,none⟩=some u) (hf:w.frozen? ⟨gg,3,none⟩=false) :
 Calls Tryd.prog 18 #[.pointer (some ⟨g,0,none⟩),.int .i64 4] w fun e w'=>e= .returned (.tuple #[])∧w'=(w.setCell ⟨gg,3,none⟩ (.int .i64 b0)).drew:=by
 have hN1:(1:Int)<(N:Int):=by omega
 have hN0:(0:Int)<(N:Int):=by omega
 have hN2:0<N:=by omega
 have hN3:1<N:=by omega
 go_enter Tryd.func18,Tryd.ntmps18
 go_wp2_with fail
 refine TG.begin 13 (fun w'=>w'.cell? ⟨g,4,none⟩=some (.slice (some ⟨gg,0,none⟩) N cap)∧w'.cell? ⟨gg,0,none⟩=some (.int .i64 b0)) (by kernel_rfl) (by kernel_rfl) ?_ (fun hS=>?_)
 focus exact⟨hc,hc0⟩
 refine TG.tkB 0 hS ?_
 refine TG.tkB 1 hS ?_
 refine TG.tkB 2 hS ?_
 refine TG.tkB 3 hS ?_
 refine TG.tkB 4 hS ?_
 refine TG.tkB 5 hS ?_
 refine TG.tkB 6 hS ?_
 refine TG.tkB 7 hS ?_
 refine TG.tkB 8 hS ?_
 refine TG.tkB 9 hS ?_
 refine TG.tkB 10 hS ?_
 refine TG.tkB 11 hS ?_
 refine TG.tkB 12 hS ?_
 refine TG.one (i:=13) (by kernel_rfl) rfl (fun K1 hK1=>?_)
 go_simp
 refine hK1 _ _ (fun h=>absurd rfl h) (TG.done (by kernel_rfl) ?_)
 clear hK1 K1 hS
 (try simp only [nS])
 go_wp2_with fail
 go_returns
 exact⟨rfl,rfl⟩
theorem tw5_yes(g gg N cap:Nat)(b0:Int)(w:World)(hc:w.cell? ⟨g,3,none⟩=some (.slice (some ⟨gg,0,none⟩) N cap))
 (hN:2≤N) (hm:N≤140737488355328) (hc0:w.cell? ⟨gg,0,none⟩=some (.int .i64 b0)) (u:Value) (hu:w.cell? ⟨gg,2,none⟩=some u) (hf:w.frozen? ⟨gg,2,none⟩=false) :
 Calls Tryd.prog 18 #[.pointer (some ⟨g,0,none⟩),.int .i64 5] w fun e w'=>e= .returned (.tuple #[])∧w'=(w.setCell ⟨gg,2,none⟩ (.int .i64 b0)).drew:=by
 have hN1:(1:Int)<(N:Int):=by omega
 have hN0:(0:Int)<(N:Int):=by omega
 have hN2:0<N:=by omega
 have hN3:1<N:=by omega
 go_enter Tryd.func18,Tryd.ntmps18
 go_wp2_with fail
 refine TG.begin 13 (fun w'=>w'.cell? ⟨g,3,none⟩=some (.slice (some ⟨gg,0,none⟩) N cap)∧w'.cell? ⟨gg,0,none⟩=some (.int .i64 b0)) (by kernel_rfl) (by kernel_rfl) ?_ (fun hS=>?_)
 focus exact⟨hc,hc0⟩
 refine TG.tkB 0 hS ?_
 refine TG.tkB 1 hS ?_
 refine TG.tkB 2 hS ?_
 refine TG.tkB 3 hS ?_
 refine TG.tkB 4 hS ?_
 refine TG.tkB 5 hS ?_
 refine TG.tkB 6 hS ?_
 refine TG.tkB 7 hS ?_
 refine TG.tkB 8 hS ?_
 refine TG.tkB 9 hS ?_
 refine TG.tkB 10 hS ?_
 refine TG.tkB 11 hS ?_
 refine TG.tkB 12 hS ?_
 refine TG.one (i:=13) (by kernel_rfl) rfl (fun K1 hK1=>?_)
 go_simp
 refine hK1 _ _ (fun h=>absurd rfl h) (TG.done (by kernel_rfl) ?_)
 clear hK1 K1 hS
 (try simp only [nS])
 go_wp2_with fail
 go_returns
 exact⟨rfl,rfl⟩
theorem tw0_yes(g gg N cap:Nat)(o nu de di:Int)(na:ByteArray)(va:Option Addr)(vn vc:Nat)(w:World)(hc:w.cell? ⟨g,6,none⟩=some (.slice (some ⟨gg,0,none⟩) N cap))
 (hN:1≤N) (hm:N≤140737488355328) (k1:w.cell? ⟨gg,1,none⟩=some (.int .i64 o)) (k2:w.cell? ⟨gg,2,none⟩=some (.int .i64 nu)) (k3:w.cell? ⟨gg,3,none⟩=some (.int .i64 de)) (k4:w.cell? ⟨gg,4,none⟩=some (.int .i64 di)) (k5:w.cell? ⟨gg,5,none⟩=some (.string na)) (k6:w.cell? ⟨gg,6,none⟩=some (.slice va vn vc))
 (u1 u2 u3 u4 u5 u6:Value) (j1:w.cell? ⟨gg,7,none⟩=some u1) (j2:w.cell? ⟨gg,8,none⟩=some u2) (j3:w.cell? ⟨gg,9,none⟩=some u3) (j4:w.cell? ⟨gg,10,none⟩=some u4) (j5:w.cell? ⟨gg,11,none⟩=some u5) (j6:w.cell? ⟨gg,12,none⟩=some u6)
 (hf:∀i,w.frozen? ⟨gg,i,none⟩=false) :
 Calls Tryd.prog 18 #[.pointer (some ⟨g,0,none⟩),.int .i64 0] w fun e w'=>e= .returned (.tuple #[])∧
  w'=((((((w.setCell ⟨gg,7,none⟩ (.int .i64 o)).setCell ⟨gg,8,none⟩ (.int .i64 nu)).setCell ⟨gg,9,none⟩ (.int .i64 de)).setCell ⟨gg,10,none⟩ (.int .i64 di)).setCell ⟨gg,11,none⟩ (.string na)).setCell ⟨gg,12,none⟩ (.slice va vn vc)).drew:=by
 have hN0:(0:Int)<(N:Int):=by omega
 have hN2:0<N:=by omega
 go_enter Tryd.func18,Tryd.ntmps18
 go_wp2_with fail
 refine TG.begin 13 (fun w'=>w'.cell? ⟨g,6,none⟩=some (.slice (some ⟨gg,0,none⟩) N cap)∧w'.cell? ⟨gg,1,none⟩=some (.int .i64 o)∧w'.cell? ⟨gg,2,none⟩=some (.int .i64 nu)∧w'.cell? ⟨gg,3,none⟩=some (.int .i64 de)∧w'.cell? ⟨gg,4,none⟩=some (.int .i64 di)∧w'.cell? ⟨gg,5,none⟩=some (.string na)∧w'.cell? ⟨gg,6,none⟩=some (.slice va vn vc)) (by kernel_rfl) (by kernel_rfl) ?_ (fun hS=>?_)
 focus exact⟨hc,k1,k2,k3,k4,k5,k6⟩
 refine TG.tkB 0 hS ?_
 refine TG.tkB 1 hS ?_
 refine TG.tkB 2 hS ?_
 refine TG.tkB 3 hS ?_
 refine TG.tkB 4 hS ?_
 refine TG.tkB 5 hS ?_
 refine TG.tkB 6 hS ?_
 refine TG.tkB 7 hS ?_
 refine TG.tkB 8 hS ?_
 refine TG.tkB 9 hS ?_
 refine TG.tkB 10 hS ?_
 refine TG.tkB 11 hS ?_
 refine TG.tkB 12 hS ?_
 refine TG.one (i:=13) (by kernel_rfl) rfl (fun K1 hK1=>?_)
 go_simp
 refine hK1 _ _ (fun h=>absurd rfl h) (TG.done (by kernel_rfl) ?_)
 clear hK1 K1 hS
 (try simp only [nS])
 go_wp2_with fail
 go_returns
 exact⟨rfl,rfl⟩
theorem tw3_yes(g gg N cap:Nat)(w:World)(hc:w.cell? ⟨g,5,none⟩=some (.slice (some ⟨gg,0,none⟩) N cap))
 (hN:1≤N) (hm:N≤140737488355328) (u1 u2 u3 u4 u5 u6:Value) (j1:w.cell? ⟨gg,1,none⟩=some u1) (j2:w.cell? ⟨gg,2,none⟩=some u2) (j3:w.cell? ⟨gg,3,none⟩=some u3) (j4:w.cell? ⟨gg,4,none⟩=some u4) (j5:w.cell? ⟨gg,5,none⟩=some u5) (j6:w.cell? ⟨gg,6,none⟩=some u6)
 (hf:∀i,w.frozen? ⟨gg,i,none⟩=false) :
 Calls Tryd.prog 18 #[.pointer (some ⟨g,0,none⟩),.int .i64 3] w fun e w'=>e= .returned (.tuple #[])∧
  w'=(((((w.setCell ⟨gg,1,none⟩ (.int .i64 2)).setCell ⟨gg,2,none⟩ (.int .i64 0)).setCell ⟨gg,3,none⟩ (.int .i64 0)).setCell ⟨gg,4,none⟩ (.int .i64 0)).setCell ⟨gg,5,none⟩ (.string ⟨#[108,97,116,101,114]⟩)).setCell ⟨gg,6,none⟩ (.slice none 0 0):=by
 have hN0:(0:Int)<(N:Int):=by omega
 have hN2:0<N:=by omega
 go_enter Tryd.func18,Tryd.ntmps18
 go_wp2_with fail
 go_returns
 exact⟨rfl,rfl⟩
theorem tw6_yes(g gg N cap:Nat)(w:World)(hc:w.cell? ⟨g,5,none⟩=some (.slice (some ⟨gg,0,none⟩) N cap))
 (hN:1≤N) (hm:N≤140737488355328) (u1:Value) (j1:w.cell? ⟨gg,0,none⟩=some u1) (hf:w.frozen? ⟨gg,0,none⟩=false) :
 Calls Tryd.prog 18 #[.pointer (some ⟨g,0,none⟩),.int .i64 6] w fun e w'=>e= .returned (.tuple #[])∧w'=w.setCell ⟨gg,0,none⟩ (.string ⟨#[97,103,101]⟩):=by
 have hN0:(0:Int)<(N:Int):=by omega
 have hN2:0<N:=by omega
 go_enter Tryd.func18,Tryd.ntmps18
 go_wp2_with fail
 go_returns
 exact⟨rfl,rfl⟩
theorem tw0_no(g N cap:Nat)(a:Option Addr)(w:World)(hc:w.cell? ⟨g,6,none⟩=some (.slice a N cap))(hN:N<1) :
 Calls Tryd.prog 18 #[.pointer (some ⟨g,0,none⟩),.int .i64 0] w fun e w'=>e= .returned (.tuple #[])∧w=w':=by
 have hN0:¬(1:Int)-1<(N:Int):=by omega
 have hN1:(N:Int)<1:=by omega
 go_enter Tryd.func18,Tryd.ntmps18
 go_wp2_with fail
 all_goals first|(exfalso;omega)|skip
 go_returns
 exact⟨rfl,rfl⟩
theorem tw1_no(g N cap:Nat)(a:Option Addr)(w:World)(hc:w.cell? ⟨g,6,none⟩=some (.slice a N cap))(hN:N<2) :
 Calls Tryd.prog 18 #[.pointer (some ⟨g,0,none⟩),.int .i64 1] w fun e w'=>e= .returned (.tuple #[])∧w=w':=by
 have hN0:¬(2:Int)-1<(N:Int):=by omega
 have hN1:(N:Int)<2:=by omega
 go_enter Tryd.func18,Tryd.ntmps18
 go_wp2_with fail
 all_goals first|(exfalso;omega)|skip
 go_returns
 exact⟨rfl,rfl⟩
theorem tw2_no(g N cap:Nat)(a:Option Addr)(w:World)(hc:w.cell? ⟨g,5,none⟩=some (.slice a N cap))(hN:N<2) :
 Calls Tryd.prog 18 #[.pointer (some ⟨g,0,none⟩),.int .i64 2] w fun e w'=>e= .returned (.tuple #[])∧w=w':=by
 have hN0:¬(2:Int)-1<(N:Int):=by omega
 have hN1:(N:Int)<2:=by omega
 go_enter Tryd.func18,Tryd.ntmps18
 go_wp2_with fail
 all_goals first|(exfalso;omega)|skip
 go_returns
 exact⟨rfl,rfl⟩
theorem tw3_no(g N cap:Nat)(a:Option Addr)(w:World)(hc:w.cell? ⟨g,5,none⟩=some (.slice a N cap))(hN:N<1) :
 Calls Tryd.prog 18 #[.pointer (some ⟨g,0,none⟩),.int .i64 3] w fun e w'=>e= .returned (.tuple #[])∧w=w':=by
 have hN0:¬(1:Int)-1<(N:Int):=by omega
 have hN1:(N:Int)<1:=by omega
 go_enter Tryd.func18,Tryd.ntmps18
 go_wp2_with fail
 all_goals first|(exfalso;omega)|skip
 go_returns
 exact⟨rfl,rfl⟩
theorem tw4_no(g N cap:Nat)(a:Option Addr)(w:World)(hc:w.cell? ⟨g,4,none⟩=some (.slice a N cap))(hN:N<2) :
 Calls Tryd.prog 18 #[.pointer (some ⟨g,0,none⟩),.int .i64 4] w fun e w'=>e= .returned (.tuple #[])∧w=w':=by
 have hN0:¬(2:Int)-1<(N:Int):=by omega
 have hN1:(N:Int)<2:=by omega
 go_enter Tryd.func18,Tryd.ntmps18
 go_wp2_with fail
 all_goals first|(exfalso;omega)|skip
 go_returns
 exact⟨rfl,rfl⟩
theorem tw5_no(g N cap:Nat)(a:Option Addr)(w:World)(hc:w.cell? ⟨g,3,none⟩=some (.slice a N cap))(hN:N<2) :
 Calls Tryd.prog 18 #[.pointer (some ⟨g,0,none⟩),.int .i64 5] w fun e w'=>e= .returned (.tuple #[])∧w=w':=by
 have hN0:¬(2:Int)-1<(N:Int):=by omega
 have hN1:(N:Int)<2:=by omega
 go_enter Tryd.func18,Tryd.ntmps18
 go_wp2_with fail
 all_goals first|(exfalso;omega)|skip
 go_returns
 exact⟨rfl,rfl⟩
theorem tw6_no(g N cap:Nat)(a:Option Addr)(w:World)(hc:w.cell? ⟨g,5,none⟩=some (.slice a N cap))(hN:N<1) :
 Calls Tryd.prog 18 #[.pointer (some ⟨g,0,none⟩),.int .i64 6] w fun e w'=>e= .returned (.tuple #[])∧w=w':=by
 have hN0:¬(1:Int)-1<(N:Int):=by omega
 have hN1:(N:Int)<1:=by omega
 go_enter Tryd.func18,Tryd.ntmps18
 go_wp2_with fail
 all_goals first|(exfalso;omega)|skip
 go_returns
 exact⟨rfl,rfl⟩
end Go.Proofs.YthionhbjmheimaaDoor
