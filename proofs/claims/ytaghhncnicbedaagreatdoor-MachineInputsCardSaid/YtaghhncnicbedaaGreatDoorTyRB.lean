/- The dimension of an operation's result, in the reference and in the program; the inputs' dimensions in the program. -/
import Derived.Test.YtaghhncnicbedaaGreatDoorBEvP
import Derived.Test.YtaghhncnicbedaaGreatDoorBK
set_option linter.all false
set_option maxHeartbeats 16000000
set_option maxRecDepth 1000000
namespace Go.Proofs.YtaghhncnicbedaaGreatDoor
open Go.RowKit
theorem Input2_any(s:ByteArray)(w:World):Calls Tryz.prog 89 #[.string s] w fun e w'=>e= .returned (.tuple #[.int .i64 (inpD s.toList),.bool (decide (inpD s.toList≠0))])∧w=w':=by
 go_enter Tryz.func89,Tryz.ntmps89
 exact bz39
theorem ret_int{a b:Int}(h:a=b):Ending.returned (.int .i64 a)= .returned (.int .i64 b):=by rw [h]
def Res2P(r:Int)(w:World)(e:Ending)(w':World):Prop:=(∃m,e= .returned (.tuple #[.int .i64 m,.bool (decide (r≠0))])∧(r≠0→m=r))∧w.Grows w'
def Res5P(r:Int)(w:World)(e:Ending)(w':World):Prop:=e= .returned (.int .i64 r)∧w.Grows w'
theorem res2P{m r:Int}{q:Bool}{w w':World}(h1:q=decide (r≠0))(h2:r≠0→m=r)(hg:w.Grows w'):Res2P r w (.returned (.tuple #[.int .i64 m,.bool q])) w':=⟨⟨m,by rw [h1],h2⟩,hg⟩
theorem res5P{m r:Int}{w w':World}(h:m=r)(hg:w.Grows w'):Res5P r w (.returned (.int .i64 m)) w':=⟨by rw [h],hg⟩

theorem res2_4(x:Int)(b off cap:Nat)(w:World)(c0:w.cell? ⟨b,off,none⟩=some (.int .i64 x))(hX:1≤x):Calls Tryz.prog 206 #[.int .i64 4,.slice (some ⟨b,off,none⟩) 1 cap] w (Res2P (resD 4 [x]) w):=by
 have HR:Hid (resD 4 [x]=resD 4 [x]):=Lib.hid rfl
 generalize hR:resD 4 [x]=R at HR ⊢
 exact bz28
theorem res2_5(x:Int)(b off cap:Nat)(w:World)(c0:w.cell? ⟨b,off,none⟩=some (.int .i64 x))(hX:1≤x):Calls Tryz.prog 206 #[.int .i64 5,.slice (some ⟨b,off,none⟩) 1 cap] w (Res2P (resD 5 [x]) w):=by
 have HR:Hid (resD 5 [x]=resD 5 [x]):=Lib.hid rfl
 generalize hR:resD 5 [x]=R at HR ⊢
 exact bz28
theorem res2_6(x:Int)(b off cap:Nat)(w:World)(c0:w.cell? ⟨b,off,none⟩=some (.int .i64 x))(hX:1≤x):Calls Tryz.prog 206 #[.int .i64 6,.slice (some ⟨b,off,none⟩) 1 cap] w (Res2P (resD 6 [x]) w):=by
 have HR:Hid (resD 6 [x]=resD 6 [x]):=Lib.hid rfl
 generalize hR:resD 6 [x]=R at HR ⊢
 exact bz28
theorem res2_7(x y:Int)(b off cap:Nat)(w:World)(c0:w.cell? ⟨b,off,none⟩=some (.int .i64 x))(c1:w.cell? ⟨b,off+1,none⟩=some (.int .i64 y))(hX:1≤x∧1≤y):Calls Tryz.prog 206 #[.int .i64 7,.slice (some ⟨b,off,none⟩) 2 cap] w (Res2P (resD 7 [x,y]) w):=by
 have HR:Hid (resD 7 [x,y]=resD 7 [x,y]):=Lib.hid rfl
 generalize hR:resD 7 [x,y]=R at HR ⊢
 exact bz2
theorem res2_8(x y:Int)(b off cap:Nat)(w:World)(c0:w.cell? ⟨b,off,none⟩=some (.int .i64 x))(c1:w.cell? ⟨b,off+1,none⟩=some (.int .i64 y))(hX:1≤x∧1≤y):Calls Tryz.prog 206 #[.int .i64 8,.slice (some ⟨b,off,none⟩) 2 cap] w (Res2P (resD 8 [x,y]) w):=by
 have HR:Hid (resD 8 [x,y]=resD 8 [x,y]):=Lib.hid rfl
 generalize hR:resD 8 [x,y]=R at HR ⊢
 exact bz2
theorem res2_9(x y:Int)(b off cap:Nat)(w:World)(c0:w.cell? ⟨b,off,none⟩=some (.int .i64 x))(c1:w.cell? ⟨b,off+1,none⟩=some (.int .i64 y))(hX:1≤x∧1≤y):Calls Tryz.prog 206 #[.int .i64 9,.slice (some ⟨b,off,none⟩) 2 cap] w (Res2P (resD 9 [x,y]) w):=by
 have HR:Hid (resD 9 [x,y]=resD 9 [x,y]):=Lib.hid rfl
 generalize hR:resD 9 [x,y]=R at HR ⊢
 clear HR
 have HR:=Lib.hid hR
 have HX:=Lib.hid hX
 clear hR hX
 go_enter Tryz.func206,Tryz.ntmps206
 by_cases e1:x=2
 focus
  subst e1
 rotate_left
 focus
  have f1:(x==2)=false:=by simpa using e1
  have g1:(2==x)=false:=by simpa using fun h=>e1 h.symm
 rotate_left
 all_goals
  by_cases e2:y=2
  focus
   subst e2
  rotate_left
  focus
   have f2:(y==2)=false:=by simpa using e2
   have g2:(2==y)=false:=by simpa using fun h=>e2 h.symm
  rotate_left
  all_goals
   exact bz0
theorem res2_10(x y:Int)(b off cap:Nat)(w:World)(c0:w.cell? ⟨b,off,none⟩=some (.int .i64 x))(c1:w.cell? ⟨b,off+1,none⟩=some (.int .i64 y))(hX:1≤x∧1≤y):Calls Tryz.prog 206 #[.int .i64 10,.slice (some ⟨b,off,none⟩) 2 cap] w (Res2P (resD 10 [x,y]) w):=by
 have HR:Hid (resD 10 [x,y]=resD 10 [x,y]):=Lib.hid rfl
 generalize hR:resD 10 [x,y]=R at HR ⊢
 clear HR
 have HR:=Lib.hid hR
 have HX:=Lib.hid hX
 clear hR hX
 go_enter Tryz.func206,Tryz.ntmps206
 by_cases e1:y=2
 ·subst e1
  by_cases e2:x=2
  focus
   subst e2
  rotate_left
  focus
   have f2:(x==2)=false:=by simpa using e2
   have g2:(2==x)=false:=by simpa using fun h=>e2 h.symm
  rotate_left
  all_goals
   exact bz0
 ·have f1:(y==2)=false:=by simpa using e1
  have g1:(2==y)=false:=by simpa using fun h=>e1 h.symm
  by_cases e2:x=y
  focus
   subst e2
  rotate_left
  focus
   have f2:(x==y)=false:=by simpa using e2
   have g2:(y==x)=false:=by simpa using fun h=>e2 h.symm
  rotate_left
  all_goals
   exact bz0
theorem res2_11(x y:Int)(b off cap:Nat)(w:World)(c0:w.cell? ⟨b,off,none⟩=some (.int .i64 x))(c1:w.cell? ⟨b,off+1,none⟩=some (.int .i64 y))(hX:1≤x∧1≤y):Calls Tryz.prog 206 #[.int .i64 11,.slice (some ⟨b,off,none⟩) 2 cap] w (Res2P (resD 11 [x,y]) w):=by
 have HR:Hid (resD 11 [x,y]=resD 11 [x,y]):=Lib.hid rfl
 generalize hR:resD 11 [x,y]=R at HR ⊢
 exact bz2
theorem res2_12(x y:Int)(b off cap:Nat)(w:World)(c0:w.cell? ⟨b,off,none⟩=some (.int .i64 x))(c1:w.cell? ⟨b,off+1,none⟩=some (.int .i64 y))(hX:1≤x∧1≤y):Calls Tryz.prog 206 #[.int .i64 12,.slice (some ⟨b,off,none⟩) 2 cap] w (Res2P (resD 12 [x,y]) w):=by
 have HR:Hid (resD 12 [x,y]=resD 12 [x,y]):=Lib.hid rfl
 generalize hR:resD 12 [x,y]=R at HR ⊢
 exact bz2
theorem res2_13(x y:Int)(b off cap:Nat)(w:World)(c0:w.cell? ⟨b,off,none⟩=some (.int .i64 x))(c1:w.cell? ⟨b,off+1,none⟩=some (.int .i64 y))(hX:1≤x∧1≤y):Calls Tryz.prog 206 #[.int .i64 13,.slice (some ⟨b,off,none⟩) 2 cap] w (Res2P (resD 13 [x,y]) w):=by
 have HR:Hid (resD 13 [x,y]=resD 13 [x,y]):=Lib.hid rfl
 generalize hR:resD 13 [x,y]=R at HR ⊢
 exact bz2
theorem res2_14(x y:Int)(b off cap:Nat)(w:World)(c0:w.cell? ⟨b,off,none⟩=some (.int .i64 x))(c1:w.cell? ⟨b,off+1,none⟩=some (.int .i64 y))(hX:1≤x∧1≤y):Calls Tryz.prog 206 #[.int .i64 14,.slice (some ⟨b,off,none⟩) 2 cap] w (Res2P (resD 14 [x,y]) w):=by
 have HR:Hid (resD 14 [x,y]=resD 14 [x,y]):=Lib.hid rfl
 generalize hR:resD 14 [x,y]=R at HR ⊢
 exact bz2
theorem res2_15(x y:Int)(b off cap:Nat)(w:World)(c0:w.cell? ⟨b,off,none⟩=some (.int .i64 x))(c1:w.cell? ⟨b,off+1,none⟩=some (.int .i64 y))(hX:1≤x∧1≤y):Calls Tryz.prog 206 #[.int .i64 15,.slice (some ⟨b,off,none⟩) 2 cap] w (Res2P (resD 15 [x,y]) w):=by
 have HR:Hid (resD 15 [x,y]=resD 15 [x,y]):=Lib.hid rfl
 generalize hR:resD 15 [x,y]=R at HR ⊢
 exact bz2
theorem res2_16(x y:Int)(b off cap:Nat)(w:World)(c0:w.cell? ⟨b,off,none⟩=some (.int .i64 x))(c1:w.cell? ⟨b,off+1,none⟩=some (.int .i64 y))(hX:1≤x∧1≤y):Calls Tryz.prog 206 #[.int .i64 16,.slice (some ⟨b,off,none⟩) 2 cap] w (Res2P (resD 16 [x,y]) w):=by
 have HR:Hid (resD 16 [x,y]=resD 16 [x,y]):=Lib.hid rfl
 generalize hR:resD 16 [x,y]=R at HR ⊢
 exact bz2
theorem res2_17(x y:Int)(b off cap:Nat)(w:World)(c0:w.cell? ⟨b,off,none⟩=some (.int .i64 x))(c1:w.cell? ⟨b,off+1,none⟩=some (.int .i64 y))(hX:1≤x∧1≤y):Calls Tryz.prog 206 #[.int .i64 17,.slice (some ⟨b,off,none⟩) 2 cap] w (Res2P (resD 17 [x,y]) w):=by
 have HR:Hid (resD 17 [x,y]=resD 17 [x,y]):=Lib.hid rfl
 generalize hR:resD 17 [x,y]=R at HR ⊢
 exact bz14
theorem res2_18(x y:Int)(b off cap:Nat)(w:World)(c0:w.cell? ⟨b,off,none⟩=some (.int .i64 x))(c1:w.cell? ⟨b,off+1,none⟩=some (.int .i64 y))(hX:1≤x∧1≤y):Calls Tryz.prog 206 #[.int .i64 18,.slice (some ⟨b,off,none⟩) 2 cap] w (Res2P (resD 18 [x,y]) w):=by
 have HR:Hid (resD 18 [x,y]=resD 18 [x,y]):=Lib.hid rfl
 generalize hR:resD 18 [x,y]=R at HR ⊢
 exact bz14
theorem res2_19(x y:Int)(b off cap:Nat)(w:World)(c0:w.cell? ⟨b,off,none⟩=some (.int .i64 x))(c1:w.cell? ⟨b,off+1,none⟩=some (.int .i64 y))(hX:1≤x∧1≤y):Calls Tryz.prog 206 #[.int .i64 19,.slice (some ⟨b,off,none⟩) 2 cap] w (Res2P (resD 19 [x,y]) w):=by
 have HR:Hid (resD 19 [x,y]=resD 19 [x,y]):=Lib.hid rfl
 generalize hR:resD 19 [x,y]=R at HR ⊢
 exact bz2
theorem res2_20(x y:Int)(b off cap:Nat)(w:World)(c0:w.cell? ⟨b,off,none⟩=some (.int .i64 x))(c1:w.cell? ⟨b,off+1,none⟩=some (.int .i64 y))(hX:1≤x∧1≤y):Calls Tryz.prog 206 #[.int .i64 20,.slice (some ⟨b,off,none⟩) 2 cap] w (Res2P (resD 20 [x,y]) w):=by
 have HR:Hid (resD 20 [x,y]=resD 20 [x,y]):=Lib.hid rfl
 generalize hR:resD 20 [x,y]=R at HR ⊢
 exact bz2
theorem res2_21(x y z:Int)(b off cap:Nat)(w:World)(c0:w.cell? ⟨b,off,none⟩=some (.int .i64 x))(c1:w.cell? ⟨b,off+1,none⟩=some (.int .i64 y))(c2:w.cell? ⟨b,off+2,none⟩=some (.int .i64 z))(hX:1≤x∧1≤y∧1≤z):Calls Tryz.prog 206 #[.int .i64 21,.slice (some ⟨b,off,none⟩) 3 cap] w (Res2P (resD 21 [x,y,z]) w):=by
 have HR:Hid (resD 21 [x,y,z]=resD 21 [x,y,z]):=Lib.hid rfl
 generalize hR:resD 21 [x,y,z]=R at HR ⊢
 exact bz14
end Go.Proofs.YtaghhncnicbedaaGreatDoor
