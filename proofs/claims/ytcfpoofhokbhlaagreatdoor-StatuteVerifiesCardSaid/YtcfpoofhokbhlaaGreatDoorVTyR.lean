import Derived.Test.YtcfpoofhokbhlaaGreatDoorVEvP
import Derived.Test.YtcfpoofhokbhlaaGreatDoorVAbs
set_option linter.all false
set_option maxHeartbeats 16000000
set_option maxRecDepth 1000000
namespace Go.Proofs.YtcfpoofhokbhlaaGreatDoor
open Tryz List
open Go.RowKit
theorem jQ(s:ByteArray)(w:World):Calls prog 114 #[.string s] w fun e w'=>e= .returned (.tuple #[.int .i64 (bQ s.toList),.bool (decide (bQ s.toList≠0))])/\w=w':=by
 go_enter func114,ntmps114
 exact RA
theorem ret_int{a b:Int}(h:a=b):Ending.returned (.int .i64 a)= .returned (.int .i64 b):=by rw [h]
def gy(r:Int)(w:World)(e:Ending)(w':World):Prop:=(∃m,e= .returned (.tuple #[.int .i64 m,.bool (decide (r≠0))])/\(r≠0->m=r))/\w.Grows w'
def fK(r:Int)(w:World)(e:Ending)(w':World):Prop:=e= .returned (.int .i64 r)/\w.Grows w'
theorem Sm{m r:Int}{q:Bool}{w w':World}(h1:q=decide (r≠0))(h2:r≠0->m=r)(hg:w.Grows w'):gy r w (.returned (.tuple #[.int .i64 m,.bool q])) w':=⟨⟨m,by rw [h1],h2⟩,hg⟩
theorem Sl{m r:Int}{w w':World}(h:m=r)(hg:w.Grows w'):fK r w (.returned (.int .i64 m)) w':=⟨by rw [h],hg⟩

theorem QQ(x:Int)(b off cap:Nat)(w:World)(c0:w.cell? ⟨b,off,none⟩=some (.int .i64 x))(hX:1<=x):Calls prog 163 #[.int .i64 4,.slice (some ⟨b,off,none⟩) 1 cap] w (gy (av 4 [x]) w):=by
 have HR:Hid (av 4 [x]=av 4 [x]):=yq rfl;generalize hR:av 4 [x]=R at HR ⊢;exact Ql
theorem QP(x:Int)(b off cap:Nat)(w:World)(c0:w.cell? ⟨b,off,none⟩=some (.int .i64 x))(hX:1<=x):Calls prog 163 #[.int .i64 5,.slice (some ⟨b,off,none⟩) 1 cap] w (gy (av 5 [x]) w):=by
 have HR:Hid (av 5 [x]=av 5 [x]):=yq rfl;generalize hR:av 5 [x]=R at HR ⊢;exact Ql
theorem QO(x:Int)(b off cap:Nat)(w:World)(c0:w.cell? ⟨b,off,none⟩=some (.int .i64 x))(hX:1<=x):Calls prog 163 #[.int .i64 6,.slice (some ⟨b,off,none⟩) 1 cap] w (gy (av 6 [x]) w):=by
 have HR:Hid (av 6 [x]=av 6 [x]):=yq rfl;generalize hR:av 6 [x]=R at HR ⊢;exact Ql
theorem QN(x y:Int)(b off cap:Nat)(w:World)(c0:w.cell? ⟨b,off,none⟩=some (.int .i64 x))(c1:w.cell? ⟨b,off+1,none⟩=some (.int .i64 y))(hX:1<=x/\1<=y):Calls prog 163 #[.int .i64 7,.slice (some ⟨b,off,none⟩) 2 cap] w (gy (av 7 [x,y]) w):=by
 have HR:Hid (av 7 [x,y]=av 7 [x,y]):=yq rfl;generalize hR:av 7 [x,y]=R at HR ⊢;exact vz3
theorem QM(x y:Int)(b off cap:Nat)(w:World)(c0:w.cell? ⟨b,off,none⟩=some (.int .i64 x))(c1:w.cell? ⟨b,off+1,none⟩=some (.int .i64 y))(hX:1<=x/\1<=y):Calls prog 163 #[.int .i64 8,.slice (some ⟨b,off,none⟩) 2 cap] w (gy (av 8 [x,y]) w):=by
 have HR:Hid (av 8 [x,y]=av 8 [x,y]):=yq rfl;generalize hR:av 8 [x,y]=R at HR ⊢;exact vz3
theorem QL(x y:Int)(b off cap:Nat)(w:World)(c0:w.cell? ⟨b,off,none⟩=some (.int .i64 x))(c1:w.cell? ⟨b,off+1,none⟩=some (.int .i64 y))(hX:1<=x/\1<=y):Calls prog 163 #[.int .i64 9,.slice (some ⟨b,off,none⟩) 2 cap] w (gy (av 9 [x,y]) w):=by
 have HR:Hid (av 9 [x,y]=av 9 [x,y]):=yq rfl;generalize hR:av 9 [x,y]=R at HR ⊢;clear HR;have HR:=yq hR;have HX:=yq hX;clear hR hX
 go_enter func163,ntmps163
 by_cases e1:x=2
 focus
  subst e1
 rotate_left
 focus
  have f1:(x==2)=false:=by simpa using e1
  have g1:(2==x)=false:=by simpa using fun h=>e1 h.symm
 rotate_left
 all_goals
  by_cases e2:y=2
  focus
   subst e2
  rotate_left
  focus
   have f2:(y==2)=false:=by simpa using e2
   have g2:(2==y)=false:=by simpa using fun h=>e2 h.symm
  rotate_left
  all_goals
   exact vz0
theorem Om(x y:Int)(b off cap:Nat)(w:World)(c0:w.cell? ⟨b,off,none⟩=some (.int .i64 x))(c1:w.cell? ⟨b,off+1,none⟩=some (.int .i64 y))(hX:1<=x/\1<=y):Calls prog 163 #[.int .i64 10,.slice (some ⟨b,off,none⟩) 2 cap] w (gy (av 10 [x,y]) w):=by
 have HR:Hid (av 10 [x,y]=av 10 [x,y]):=yq rfl;generalize hR:av 10 [x,y]=R at HR ⊢;clear HR;have HR:=yq hR;have HX:=yq hX;clear hR hX
 go_enter func163,ntmps163
 by_cases e1:y=2
 ·subst e1;by_cases e2:x=2
  focus
   subst e2
  rotate_left
  focus
   have f2:(x==2)=false:=by simpa using e2
   have g2:(2==x)=false:=by simpa using fun h=>e2 h.symm
  rotate_left
  all_goals
   exact vz0
 ·have f1:(y==2)=false:=by simpa using e1
  have g1:(2==y)=false:=by simpa using fun h=>e1 h.symm
  by_cases e2:x=y
  focus
   subst e2
  rotate_left
  focus
   have f2:(x==y)=false:=by simpa using e2
   have g2:(y==x)=false:=by simpa using fun h=>e2 h.symm
  rotate_left
  all_goals
   exact vz0
theorem Ol(x y:Int)(b off cap:Nat)(w:World)(c0:w.cell? ⟨b,off,none⟩=some (.int .i64 x))(c1:w.cell? ⟨b,off+1,none⟩=some (.int .i64 y))(hX:1<=x/\1<=y):Calls prog 163 #[.int .i64 11,.slice (some ⟨b,off,none⟩) 2 cap] w (gy (av 11 [x,y]) w):=by
 have HR:Hid (av 11 [x,y]=av 11 [x,y]):=yq rfl;generalize hR:av 11 [x,y]=R at HR ⊢;exact vz3
theorem Oj(x y:Int)(b off cap:Nat)(w:World)(c0:w.cell? ⟨b,off,none⟩=some (.int .i64 x))(c1:w.cell? ⟨b,off+1,none⟩=some (.int .i64 y))(hX:1<=x/\1<=y):Calls prog 163 #[.int .i64 12,.slice (some ⟨b,off,none⟩) 2 cap] w (gy (av 12 [x,y]) w):=by
 have HR:Hid (av 12 [x,y]=av 12 [x,y]):=yq rfl;generalize hR:av 12 [x,y]=R at HR ⊢;exact vz3
theorem Oi(x y:Int)(b off cap:Nat)(w:World)(c0:w.cell? ⟨b,off,none⟩=some (.int .i64 x))(c1:w.cell? ⟨b,off+1,none⟩=some (.int .i64 y))(hX:1<=x/\1<=y):Calls prog 163 #[.int .i64 13,.slice (some ⟨b,off,none⟩) 2 cap] w (gy (av 13 [x,y]) w):=by
 have HR:Hid (av 13 [x,y]=av 13 [x,y]):=yq rfl;generalize hR:av 13 [x,y]=R at HR ⊢;exact vz3
theorem Oh(x y:Int)(b off cap:Nat)(w:World)(c0:w.cell? ⟨b,off,none⟩=some (.int .i64 x))(c1:w.cell? ⟨b,off+1,none⟩=some (.int .i64 y))(hX:1<=x/\1<=y):Calls prog 163 #[.int .i64 14,.slice (some ⟨b,off,none⟩) 2 cap] w (gy (av 14 [x,y]) w):=by
 have HR:Hid (av 14 [x,y]=av 14 [x,y]):=yq rfl;generalize hR:av 14 [x,y]=R at HR ⊢;exact vz3
theorem Og(x y:Int)(b off cap:Nat)(w:World)(c0:w.cell? ⟨b,off,none⟩=some (.int .i64 x))(c1:w.cell? ⟨b,off+1,none⟩=some (.int .i64 y))(hX:1<=x/\1<=y):Calls prog 163 #[.int .i64 15,.slice (some ⟨b,off,none⟩) 2 cap] w (gy (av 15 [x,y]) w):=by
 have HR:Hid (av 15 [x,y]=av 15 [x,y]):=yq rfl;generalize hR:av 15 [x,y]=R at HR ⊢;exact vz3
theorem Oe(x y:Int)(b off cap:Nat)(w:World)(c0:w.cell? ⟨b,off,none⟩=some (.int .i64 x))(c1:w.cell? ⟨b,off+1,none⟩=some (.int .i64 y))(hX:1<=x/\1<=y):Calls prog 163 #[.int .i64 16,.slice (some ⟨b,off,none⟩) 2 cap] w (gy (av 16 [x,y]) w):=by
 have HR:Hid (av 16 [x,y]=av 16 [x,y]):=yq rfl;generalize hR:av 16 [x,y]=R at HR ⊢;exact vz3
theorem Od(x y:Int)(b off cap:Nat)(w:World)(c0:w.cell? ⟨b,off,none⟩=some (.int .i64 x))(c1:w.cell? ⟨b,off+1,none⟩=some (.int .i64 y))(hX:1<=x/\1<=y):Calls prog 163 #[.int .i64 17,.slice (some ⟨b,off,none⟩) 2 cap] w (gy (av 17 [x,y]) w):=by
 have HR:Hid (av 17 [x,y]=av 17 [x,y]):=yq rfl;generalize hR:av 17 [x,y]=R at HR ⊢;exact Qq
theorem Oc(x y:Int)(b off cap:Nat)(w:World)(c0:w.cell? ⟨b,off,none⟩=some (.int .i64 x))(c1:w.cell? ⟨b,off+1,none⟩=some (.int .i64 y))(hX:1<=x/\1<=y):Calls prog 163 #[.int .i64 18,.slice (some ⟨b,off,none⟩) 2 cap] w (gy (av 18 [x,y]) w):=by
 have HR:Hid (av 18 [x,y]=av 18 [x,y]):=yq rfl;generalize hR:av 18 [x,y]=R at HR ⊢;exact Qq
theorem Ob(x y:Int)(b off cap:Nat)(w:World)(c0:w.cell? ⟨b,off,none⟩=some (.int .i64 x))(c1:w.cell? ⟨b,off+1,none⟩=some (.int .i64 y))(hX:1<=x/\1<=y):Calls prog 163 #[.int .i64 19,.slice (some ⟨b,off,none⟩) 2 cap] w (gy (av 19 [x,y]) w):=by
 have HR:Hid (av 19 [x,y]=av 19 [x,y]):=yq rfl;generalize hR:av 19 [x,y]=R at HR ⊢;exact vz3
theorem Oa(x y:Int)(b off cap:Nat)(w:World)(c0:w.cell? ⟨b,off,none⟩=some (.int .i64 x))(c1:w.cell? ⟨b,off+1,none⟩=some (.int .i64 y))(hX:1<=x/\1<=y):Calls prog 163 #[.int .i64 20,.slice (some ⟨b,off,none⟩) 2 cap] w (gy (av 20 [x,y]) w):=by
 have HR:Hid (av 20 [x,y]=av 20 [x,y]):=yq rfl;generalize hR:av 20 [x,y]=R at HR ⊢;exact vz3
theorem N9(x y z:Int)(b off cap:Nat)(w:World)(c0:w.cell? ⟨b,off,none⟩=some (.int .i64 x))(c1:w.cell? ⟨b,off+1,none⟩=some (.int .i64 y))(c2:w.cell? ⟨b,off+2,none⟩=some (.int .i64 z))(hX:1<=x/\1<=y/\1<=z):Calls prog 163 #[.int .i64 21,.slice (some ⟨b,off,none⟩) 3 cap] w (gy (av 21 [x,y,z]) w):=by
 have HR:Hid (av 21 [x,y,z]=av 21 [x,y,z]):=yq rfl;generalize hR:av 21 [x,y,z]=R at HR ⊢;exact Qq
theorem QK(x:Int)(b off cap:Nat)(w:World)(c0:w.cell? ⟨b,off,none⟩=some (.int .i64 x))(hX:1<=x):Calls prog 105 #[.int .i64 4,.slice (some ⟨b,off,none⟩) 1 cap] w (fK (av 4 [x]) w):=by
 have HR:Hid (av 4 [x]=av 4 [x]):=yq rfl;generalize hR:av 4 [x]=R at HR ⊢;exact Qk
theorem QJ(x:Int)(b off cap:Nat)(w:World)(c0:w.cell? ⟨b,off,none⟩=some (.int .i64 x))(hX:1<=x):Calls prog 105 #[.int .i64 5,.slice (some ⟨b,off,none⟩) 1 cap] w (fK (av 5 [x]) w):=by
 have HR:Hid (av 5 [x]=av 5 [x]):=yq rfl;generalize hR:av 5 [x]=R at HR ⊢;exact Qk
theorem QI(x:Int)(b off cap:Nat)(w:World)(c0:w.cell? ⟨b,off,none⟩=some (.int .i64 x))(hX:1<=x):Calls prog 105 #[.int .i64 6,.slice (some ⟨b,off,none⟩) 1 cap] w (fK (av 6 [x]) w):=by
 have HR:Hid (av 6 [x]=av 6 [x]):=yq rfl;generalize hR:av 6 [x]=R at HR ⊢;exact Qk
theorem QH(x y:Int)(b off cap:Nat)(w:World)(c0:w.cell? ⟨b,off,none⟩=some (.int .i64 x))(c1:w.cell? ⟨b,off+1,none⟩=some (.int .i64 y))(hX:1<=x/\1<=y):Calls prog 105 #[.int .i64 7,.slice (some ⟨b,off,none⟩) 2 cap] w (fK (av 7 [x,y]) w):=by
 have HR:Hid (av 7 [x,y]=av 7 [x,y]):=yq rfl;generalize hR:av 7 [x,y]=R at HR ⊢;exact vz4
theorem QG(x y:Int)(b off cap:Nat)(w:World)(c0:w.cell? ⟨b,off,none⟩=some (.int .i64 x))(c1:w.cell? ⟨b,off+1,none⟩=some (.int .i64 y))(hX:1<=x/\1<=y):Calls prog 105 #[.int .i64 8,.slice (some ⟨b,off,none⟩) 2 cap] w (fK (av 8 [x,y]) w):=by
 have HR:Hid (av 8 [x,y]=av 8 [x,y]):=yq rfl;generalize hR:av 8 [x,y]=R at HR ⊢;exact vz4
theorem QF(x y:Int)(b off cap:Nat)(w:World)(c0:w.cell? ⟨b,off,none⟩=some (.int .i64 x))(c1:w.cell? ⟨b,off+1,none⟩=some (.int .i64 y))(hX:1<=x/\1<=y):Calls prog 105 #[.int .i64 9,.slice (some ⟨b,off,none⟩) 2 cap] w (fK (av 9 [x,y]) w):=by
 have HR:Hid (av 9 [x,y]=av 9 [x,y]):=yq rfl;generalize hR:av 9 [x,y]=R at HR ⊢;clear HR;have HR:=yq hR;have HX:=yq hX;clear hR hX
 go_enter func105,ntmps105
 by_cases e1:x=2
 focus
  subst e1
 rotate_left
 focus
  have f1:(x==2)=false:=by simpa using e1
  have g1:(2==x)=false:=by simpa using fun h=>e1 h.symm
 rotate_left
 all_goals
  by_cases e2:y=2
  focus
   subst e2
  rotate_left
  focus
   have f2:(y==2)=false:=by simpa using e2
   have g2:(2==y)=false:=by simpa using fun h=>e2 h.symm
  rotate_left
  all_goals
   exact vz1
theorem N8(x y:Int)(b off cap:Nat)(w:World)(c0:w.cell? ⟨b,off,none⟩=some (.int .i64 x))(c1:w.cell? ⟨b,off+1,none⟩=some (.int .i64 y))(hX:1<=x/\1<=y):Calls prog 105 #[.int .i64 10,.slice (some ⟨b,off,none⟩) 2 cap] w (fK (av 10 [x,y]) w):=by
 have HR:Hid (av 10 [x,y]=av 10 [x,y]):=yq rfl;generalize hR:av 10 [x,y]=R at HR ⊢;clear HR;have HR:=yq hR;have HX:=yq hX;clear hR hX
 go_enter func105,ntmps105
 by_cases e1:y=2
 ·subst e1;by_cases e2:x=2
  focus
   subst e2
  rotate_left
  focus
   have f2:(x==2)=false:=by simpa using e2
   have g2:(2==x)=false:=by simpa using fun h=>e2 h.symm
  rotate_left
  all_goals
   exact vz1
 ·have f1:(y==2)=false:=by simpa using e1
  have g1:(2==y)=false:=by simpa using fun h=>e1 h.symm
  by_cases e2:x=y
  focus
   subst e2
  rotate_left
  focus
   have f2:(x==y)=false:=by simpa using e2
   have g2:(y==x)=false:=by simpa using fun h=>e2 h.symm
  rotate_left
  all_goals
   exact vz1
theorem N7(x y:Int)(b off cap:Nat)(w:World)(c0:w.cell? ⟨b,off,none⟩=some (.int .i64 x))(c1:w.cell? ⟨b,off+1,none⟩=some (.int .i64 y))(hX:1<=x/\1<=y):Calls prog 105 #[.int .i64 11,.slice (some ⟨b,off,none⟩) 2 cap] w (fK (av 11 [x,y]) w):=by
 have HR:Hid (av 11 [x,y]=av 11 [x,y]):=yq rfl;generalize hR:av 11 [x,y]=R at HR ⊢;exact vz4
theorem NZ(x y:Int)(b off cap:Nat)(w:World)(c0:w.cell? ⟨b,off,none⟩=some (.int .i64 x))(c1:w.cell? ⟨b,off+1,none⟩=some (.int .i64 y))(hX:1<=x/\1<=y):Calls prog 105 #[.int .i64 12,.slice (some ⟨b,off,none⟩) 2 cap] w (fK (av 12 [x,y]) w):=by
 have HR:Hid (av 12 [x,y]=av 12 [x,y]):=yq rfl;generalize hR:av 12 [x,y]=R at HR ⊢;exact vz4
theorem NY(x y:Int)(b off cap:Nat)(w:World)(c0:w.cell? ⟨b,off,none⟩=some (.int .i64 x))(c1:w.cell? ⟨b,off+1,none⟩=some (.int .i64 y))(hX:1<=x/\1<=y):Calls prog 105 #[.int .i64 13,.slice (some ⟨b,off,none⟩) 2 cap] w (fK (av 13 [x,y]) w):=by
 have HR:Hid (av 13 [x,y]=av 13 [x,y]):=yq rfl;generalize hR:av 13 [x,y]=R at HR ⊢;exact vz4
theorem NW(x y:Int)(b off cap:Nat)(w:World)(c0:w.cell? ⟨b,off,none⟩=some (.int .i64 x))(c1:w.cell? ⟨b,off+1,none⟩=some (.int .i64 y))(hX:1<=x/\1<=y):Calls prog 105 #[.int .i64 14,.slice (some ⟨b,off,none⟩) 2 cap] w (fK (av 14 [x,y]) w):=by
 have HR:Hid (av 14 [x,y]=av 14 [x,y]):=yq rfl;generalize hR:av 14 [x,y]=R at HR ⊢;exact vz4
theorem NV(x y:Int)(b off cap:Nat)(w:World)(c0:w.cell? ⟨b,off,none⟩=some (.int .i64 x))(c1:w.cell? ⟨b,off+1,none⟩=some (.int .i64 y))(hX:1<=x/\1<=y):Calls prog 105 #[.int .i64 15,.slice (some ⟨b,off,none⟩) 2 cap] w (fK (av 15 [x,y]) w):=by
 have HR:Hid (av 15 [x,y]=av 15 [x,y]):=yq rfl;generalize hR:av 15 [x,y]=R at HR ⊢;exact vz4
theorem NU(x y:Int)(b off cap:Nat)(w:World)(c0:w.cell? ⟨b,off,none⟩=some (.int .i64 x))(c1:w.cell? ⟨b,off+1,none⟩=some (.int .i64 y))(hX:1<=x/\1<=y):Calls prog 105 #[.int .i64 16,.slice (some ⟨b,off,none⟩) 2 cap] w (fK (av 16 [x,y]) w):=by
 have HR:Hid (av 16 [x,y]=av 16 [x,y]):=yq rfl;generalize hR:av 16 [x,y]=R at HR ⊢;exact vz4
theorem NT(x y:Int)(b off cap:Nat)(w:World)(c0:w.cell? ⟨b,off,none⟩=some (.int .i64 x))(c1:w.cell? ⟨b,off+1,none⟩=some (.int .i64 y))(hX:1<=x/\1<=y):Calls prog 105 #[.int .i64 17,.slice (some ⟨b,off,none⟩) 2 cap] w (fK (av 17 [x,y]) w):=by
 have HR:Hid (av 17 [x,y]=av 17 [x,y]):=yq rfl;generalize hR:av 17 [x,y]=R at HR ⊢;exact Qp
theorem NS(x y:Int)(b off cap:Nat)(w:World)(c0:w.cell? ⟨b,off,none⟩=some (.int .i64 x))(c1:w.cell? ⟨b,off+1,none⟩=some (.int .i64 y))(hX:1<=x/\1<=y):Calls prog 105 #[.int .i64 18,.slice (some ⟨b,off,none⟩) 2 cap] w (fK (av 18 [x,y]) w):=by
 have HR:Hid (av 18 [x,y]=av 18 [x,y]):=yq rfl;generalize hR:av 18 [x,y]=R at HR ⊢;exact Qp
theorem NR(x y:Int)(b off cap:Nat)(w:World)(c0:w.cell? ⟨b,off,none⟩=some (.int .i64 x))(c1:w.cell? ⟨b,off+1,none⟩=some (.int .i64 y))(hX:1<=x/\1<=y):Calls prog 105 #[.int .i64 19,.slice (some ⟨b,off,none⟩) 2 cap] w (fK (av 19 [x,y]) w):=by
 have HR:Hid (av 19 [x,y]=av 19 [x,y]):=yq rfl;generalize hR:av 19 [x,y]=R at HR ⊢;exact vz4
theorem NQ(x y:Int)(b off cap:Nat)(w:World)(c0:w.cell? ⟨b,off,none⟩=some (.int .i64 x))(c1:w.cell? ⟨b,off+1,none⟩=some (.int .i64 y))(hX:1<=x/\1<=y):Calls prog 105 #[.int .i64 20,.slice (some ⟨b,off,none⟩) 2 cap] w (fK (av 20 [x,y]) w):=by
 have HR:Hid (av 20 [x,y]=av 20 [x,y]):=yq rfl;generalize hR:av 20 [x,y]=R at HR ⊢;exact vz4
theorem NP(x y z:Int)(b off cap:Nat)(w:World)(c0:w.cell? ⟨b,off,none⟩=some (.int .i64 x))(c1:w.cell? ⟨b,off+1,none⟩=some (.int .i64 y))(c2:w.cell? ⟨b,off+2,none⟩=some (.int .i64 z))(hX:1<=x/\1<=y/\1<=z):Calls prog 105 #[.int .i64 21,.slice (some ⟨b,off,none⟩) 3 cap] w (fK (av 21 [x,y,z]) w):=by
 have HR:Hid (av 21 [x,y,z]=av 21 [x,y,z]):=yq rfl;generalize hR:av 21 [x,y,z]=R at HR ⊢;exact Qp
theorem NN{op:Int}{d:List Int}(h:∀x∈d,1<=x/\x<=4)(hr:av op d≠0):1<=av op d/\av op d<=4:=by
 have g:∀k,d.getD k 0=0\/(1<=d.getD k 0/\d.getD k 0<=4):=fun k=>by
  by_cases hk:k<d.length
  ·rw [getD_eq_getElem?_getD,getElem?_eq_getElem hk];exact .inr (h _ (getElem_mem hk))
  ·rw [getD_eq_getElem?_getD,getElem?_eq_none ze];exact .inl rfl
 have g0:=g 0;have g1:=g 1;unfold av at hr ⊢;dsimp only at hr ⊢;generalize d.getD 0 0=a at *;generalize d.getD 1 0=b at *;generalize d.getD 2 0=c at *;clear h g
 (repeat' split)<;>(repeat' split at hr)<;>omega
theorem E9{env:List (ByteArray × Int)}(h:gm env=true){p:ByteArray × Int}(hp:p∈env):1<=p.2/\p.2<=4:=by
 have:=all_eq_true.1 h p hp;simpa using this
theorem Lj{α:Type}{env:List (ByteArray × α)}{s:ByteArray}{x:α}(h:dK env s=some x):∃p∈env,p.2=x:=by
 exact Rz
mutual
theorem qB{env:List (ByteArray × Int)}(hE:gm env=true):∀e:Ex,aN e=true->(aD env e).2=0->1<=(aD env e).1/\(aD env e).1<=4
 | .mk op n d m s l=>by
   intro hf hi;rw [aN,Bool.and_eq_true,decide_eq_true_eq]at hf;rw [aD]at hi ⊢;obtain⟨ha,hf⟩:=hf;unfold fw at hi ⊢;by_cases c1:op=1
   ·subst c1;rw [if_pos rfl]at hf;simp only [Bool.and_eq_true]at hf;have:=CZ hf.1;exact⟨by show 1<=m;omega,by show m<=4;omega⟩
   rw [if_neg c1]at hi hf ⊢;by_cases c3:op=3
   ·rw [if_pos c3];exact⟨by show(1:Int)<=4;omega,by show(4:Int)<=4;omega⟩
   rw [if_neg c3]at hi ⊢;by_cases c2:op=2
   ·rw [if_pos c2]at hi ⊢;unfold eu at hi ⊢;by_cases cd:bQ s.toList≠0
    ·rw [if_pos cd];have:=F6 s.toList;exact⟨by show 1<=bQ s.toList;omega,by show bQ s.toList<=4;omega⟩
    ·rw [if_neg cd]at hi ⊢
     cases hl:dK env s with
     |none=>rw [hl]at hi;simp at hi
     |some x=>
      obtain⟨p,hp,rfl⟩:=Lj hl;exact E9 hE hp
   rw [if_neg c2,if_neg c3]at hf;rw [if_neg c2]at hi ⊢;simp only [Bool.and_eq_true]at hf
   split at hi<;>rename_i c4
   ·exact absurd hi c4
   rw [if_neg c4]
   split at hi<;>rename_i c5
   ·simp at hi
   rw [if_neg c5];exact NN (uJ hE l hf.1 ze) c5
theorem uJ{env:List (ByteArray × Int)}(hE:gm env=true):∀l:List Ex,aX l=true->(aW env l).2=0->∀x∈(aW env l).1,1<=x/\x<=4
 | []=>by intro _ _ x hx;simp [aW]at hx
 |e::r=>by
  intro hf h x hx;rw [aX,Bool.and_eq_true]at hf;rw [aW]at h hx
  split at h<;>rename_i c1
  ·exact absurd h c1
  split at h<;>rename_i c2
  ·exact absurd h c2
  rw [if_neg c1,if_neg c2]at hx;rcases mem_cons.1 hx with rfl|hx
  ·exact qB hE e hf.1 ze
  ·exact uJ hE r hf.2 ze x hx
end
theorem uK(env:List (ByteArray × Int)):∀(l:List Ex) (k:Nat),k<l.length->(∀j,j<k->(aD env (l.getD j default)).2=0)->(aD env (l.getD k default)).2≠0->
 (aW env l).2=(aD env (l.getD k default)).2
 | [],k,hk,_,_=>by simp at hk
 |e::r,0,_,_,h=>by
  rw [aW,if_pos zF];rfl
 |e::r,k+1,hk,hj,h=>by
  have h0:(aD env e).2=0:=hj 0 ze;have hr:=uK env r k yp (fun j hjk=>hj (j+1) ze) h;have hne:(aW env r).2≠0:=by rw [hr];exact h
  rw [aW,if_neg ze,if_pos hne];exact hr
theorem wV(env:List (ByteArray × Int)):∀l:List Ex,(∀j,j<l.length->(aD env (l.getD j default)).2=0)->aW env l=(l.map fun e=>(aD env e).1,0)
 | [],_=>by rw [aW];rfl
 |e::r,h=>by
  have h0:(aD env e).2=0:=h 0 zg;have hr:=wV env r (fun j hj=>h (j+1) yH);rw [aW,if_neg ze,hr,if_neg zg];rfl
theorem IK{d:List Int}(h:(d.length:Int)=1):∃x,d= [x]:=length_eq_one_iff.1 ze
theorem iw{d:List Int}(h:(d.length:Int)=2):∃x y,d= [x,y]:=by
 match d,(show d.length=2 by omega)with
 | [a,b],_=>exact⟨a,b,rfl⟩
theorem Su{d:List Int}(h:(d.length:Int)=3):∃x y z,d= [x,y,z]:=by
 match d,(show d.length=3 by omega)with
 | [a,b,c],_=>exact⟨a,b,c,rfl⟩
theorem Bz{w:World}{base g cap:Nat}{d:List Int}(h:w.ownsRow base 3 1 (.slice (some ⟨g,0,none⟩) d.length cap) d.length (d.map (Value.int .i64)))(k:Nat)(hk:k<d.length):w.cell? ⟨g,0+k,none⟩=some (.int .i64 (d.getD k 0)):=by
 have:=World.ownsRow.cells (g:=g) h rfl k (.int .i64 (d.getD k 0)) xb;rw [addr_add]at this;rw [Nat.zero_add];exact this
theorem KQ(op:Int)(d:List Int)(base g cap:Nat)(w:World)(h4:4<=op)(h21:op<=21)(hl:(d.length:Int)=aU op)(hx:∀x∈d,1<=x)(h:w.ownsRow base 3 1 (.slice (some ⟨g,0,none⟩) d.length cap) d.length (d.map (Value.int .i64))) :
 Calls prog 163 #[.int .i64 op,.slice (some ⟨g,0,none⟩) d.length cap] w (gy (av op d) w):=by
 have hc:=Bz h;clear h;rcases(show op=4\/op=5\/op=6\/op=7\/op=8\/op=9\/op=10\/op=11\/op=12\/op=13\/op=14\/op=15\/op=16\/op=17\/op=18\/op=19\/op=20\/op=21 by omega)with rfl|rfl|rfl|rfl|rfl|rfl|rfl|rfl|rfl|rfl|rfl|rfl|rfl|rfl|rfl|rfl|rfl|rfl
 ·obtain⟨x,rfl⟩:=IK (d:=d) zw;exact QQ x g 0 cap w (hc 0 zg) (hx _ zg)
 ·obtain⟨x,rfl⟩:=IK (d:=d) zw;exact QP x g 0 cap w (hc 0 zg) (hx _ zg)
 ·obtain⟨x,rfl⟩:=IK (d:=d) zw;exact QO x g 0 cap w (hc 0 zg) (hx _ zg)
 ·obtain⟨x,y,rfl⟩:=iw (d:=d) zw;exact QN x y g 0 cap w (hc 0 zg) (hc 1 zg) ⟨hx _ zg,hx _ zg⟩
 ·obtain⟨x,y,rfl⟩:=iw (d:=d) zw;exact QM x y g 0 cap w (hc 0 zg) (hc 1 zg) ⟨hx _ zg,hx _ zg⟩
 ·obtain⟨x,y,rfl⟩:=iw (d:=d) zw;exact QL x y g 0 cap w (hc 0 zg) (hc 1 zg) ⟨hx _ zg,hx _ zg⟩
 ·obtain⟨x,y,rfl⟩:=iw (d:=d) zw;exact Om x y g 0 cap w (hc 0 zg) (hc 1 zg) ⟨hx _ zg,hx _ zg⟩
 ·obtain⟨x,y,rfl⟩:=iw (d:=d) zw;exact Ol x y g 0 cap w (hc 0 zg) (hc 1 zg) ⟨hx _ zg,hx _ zg⟩
 ·obtain⟨x,y,rfl⟩:=iw (d:=d) zw;exact Oj x y g 0 cap w (hc 0 zg) (hc 1 zg) ⟨hx _ zg,hx _ zg⟩
 ·obtain⟨x,y,rfl⟩:=iw (d:=d) zw;exact Oi x y g 0 cap w (hc 0 zg) (hc 1 zg) ⟨hx _ zg,hx _ zg⟩
 ·obtain⟨x,y,rfl⟩:=iw (d:=d) zw;exact Oh x y g 0 cap w (hc 0 zg) (hc 1 zg) ⟨hx _ zg,hx _ zg⟩
 ·obtain⟨x,y,rfl⟩:=iw (d:=d) zw;exact Og x y g 0 cap w (hc 0 zg) (hc 1 zg) ⟨hx _ zg,hx _ zg⟩
 ·obtain⟨x,y,rfl⟩:=iw (d:=d) zw;exact Oe x y g 0 cap w (hc 0 zg) (hc 1 zg) ⟨hx _ zg,hx _ zg⟩
 ·obtain⟨x,y,rfl⟩:=iw (d:=d) zw;exact Od x y g 0 cap w (hc 0 zg) (hc 1 zg) ⟨hx _ zg,hx _ zg⟩
 ·obtain⟨x,y,rfl⟩:=iw (d:=d) zw;exact Oc x y g 0 cap w (hc 0 zg) (hc 1 zg) ⟨hx _ zg,hx _ zg⟩
 ·obtain⟨x,y,rfl⟩:=iw (d:=d) zw;exact Ob x y g 0 cap w (hc 0 zg) (hc 1 zg) ⟨hx _ zg,hx _ zg⟩
 ·obtain⟨x,y,rfl⟩:=iw (d:=d) zw;exact Oa x y g 0 cap w (hc 0 zg) (hc 1 zg) ⟨hx _ zg,hx _ zg⟩
 ·obtain⟨x,y,z,rfl⟩:=Su (d:=d) zw;exact N9 x y z g 0 cap w (hc 0 zg) (hc 1 zg) (hc 2 zg) ⟨hx _ zg,hx _ zg,hx _ zg⟩
theorem tO(op:Int)(d:List Int)(base g cap:Nat)(w:World)(h4:4<=op)(h21:op<=21)(hl:(d.length:Int)=aU op)(hx:∀x∈d,1<=x)(h:w.ownsRow base 3 1 (.slice (some ⟨g,0,none⟩) d.length cap) d.length (d.map (Value.int .i64))) :
 Calls prog 105 #[.int .i64 op,.slice (some ⟨g,0,none⟩) d.length cap] w (fK (av op d) w):=by
 have hc:=Bz h;clear h;rcases(show op=4\/op=5\/op=6\/op=7\/op=8\/op=9\/op=10\/op=11\/op=12\/op=13\/op=14\/op=15\/op=16\/op=17\/op=18\/op=19\/op=20\/op=21 by omega)with rfl|rfl|rfl|rfl|rfl|rfl|rfl|rfl|rfl|rfl|rfl|rfl|rfl|rfl|rfl|rfl|rfl|rfl
 ·obtain⟨x,rfl⟩:=IK (d:=d) zw;exact QK x g 0 cap w (hc 0 zg) (hx _ zg)
 ·obtain⟨x,rfl⟩:=IK (d:=d) zw;exact QJ x g 0 cap w (hc 0 zg) (hx _ zg)
 ·obtain⟨x,rfl⟩:=IK (d:=d) zw;exact QI x g 0 cap w (hc 0 zg) (hx _ zg)
 ·obtain⟨x,y,rfl⟩:=iw (d:=d) zw;exact QH x y g 0 cap w (hc 0 zg) (hc 1 zg) ⟨hx _ zg,hx _ zg⟩
 ·obtain⟨x,y,rfl⟩:=iw (d:=d) zw;exact QG x y g 0 cap w (hc 0 zg) (hc 1 zg) ⟨hx _ zg,hx _ zg⟩
 ·obtain⟨x,y,rfl⟩:=iw (d:=d) zw;exact QF x y g 0 cap w (hc 0 zg) (hc 1 zg) ⟨hx _ zg,hx _ zg⟩
 ·obtain⟨x,y,rfl⟩:=iw (d:=d) zw;exact N8 x y g 0 cap w (hc 0 zg) (hc 1 zg) ⟨hx _ zg,hx _ zg⟩
 ·obtain⟨x,y,rfl⟩:=iw (d:=d) zw;exact N7 x y g 0 cap w (hc 0 zg) (hc 1 zg) ⟨hx _ zg,hx _ zg⟩
 ·obtain⟨x,y,rfl⟩:=iw (d:=d) zw;exact NZ x y g 0 cap w (hc 0 zg) (hc 1 zg) ⟨hx _ zg,hx _ zg⟩
 ·obtain⟨x,y,rfl⟩:=iw (d:=d) zw;exact NY x y g 0 cap w (hc 0 zg) (hc 1 zg) ⟨hx _ zg,hx _ zg⟩
 ·obtain⟨x,y,rfl⟩:=iw (d:=d) zw;exact NW x y g 0 cap w (hc 0 zg) (hc 1 zg) ⟨hx _ zg,hx _ zg⟩
 ·obtain⟨x,y,rfl⟩:=iw (d:=d) zw;exact NV x y g 0 cap w (hc 0 zg) (hc 1 zg) ⟨hx _ zg,hx _ zg⟩
 ·obtain⟨x,y,rfl⟩:=iw (d:=d) zw;exact NU x y g 0 cap w (hc 0 zg) (hc 1 zg) ⟨hx _ zg,hx _ zg⟩
 ·obtain⟨x,y,rfl⟩:=iw (d:=d) zw;exact NT x y g 0 cap w (hc 0 zg) (hc 1 zg) ⟨hx _ zg,hx _ zg⟩
 ·obtain⟨x,y,rfl⟩:=iw (d:=d) zw;exact NS x y g 0 cap w (hc 0 zg) (hc 1 zg) ⟨hx _ zg,hx _ zg⟩
 ·obtain⟨x,y,rfl⟩:=iw (d:=d) zw;exact NR x y g 0 cap w (hc 0 zg) (hc 1 zg) ⟨hx _ zg,hx _ zg⟩
 ·obtain⟨x,y,rfl⟩:=iw (d:=d) zw;exact NQ x y g 0 cap w (hc 0 zg) (hc 1 zg) ⟨hx _ zg,hx _ zg⟩
 ·obtain⟨x,y,z,rfl⟩:=Su (d:=d) zw;exact NP x y z g 0 cap w (hc 0 zg) (hc 1 zg) (hc 2 zg) ⟨hx _ zg,hx _ zg,hx _ zg⟩
open Go.RowKit Go.Shelf
attribute [local go_sem] Oper.semAt_some
theorem toList_inj{a b:ByteArray}(h:a.toList=b.toList):a=b:=by
 rw [ByteArray.toList_eq,ByteArray.toList_eq]at h;exact ByteArray.ext (Array.ext' h)
theorem jC{α:Type}(env:List (ByteArray × α))(s:ByteArray)(i:Nat)(d:ByteArray × α)(hi:i<env.length)(he:(env.getD i d).1=s)(hl:∀j,i<j->j<env.length->(env.getD j d).1≠s):dK env s=some (env.getD i d).2:=by
 have h1:env=env.take i++env.getD i d::env.drop (i+1):=by
  rw [getD_eq_getElem?_getD,getElem?_eq_getElem hi,Option.getD_some,getElem_cons_drop,take_append_drop]
 have h2:(env.drop (i+1)).reverse.find? (fun p=>decide (p.1=s))=none:=by
  rw [find?_eq_none];intro x hx;obtain⟨k,hk,rfl⟩:=getElem_of_mem (mem_reverse.1 hx);have hk2:i+1+k<env.length:=by rw [length_drop]at hk;omega
  have:=hl (i+1+k) ze hk2;rw [getD_eq_getElem?_getD,getElem?_eq_getElem hk2,Option.getD_some]at this;rw [getElem_drop];simpa using this
 unfold dK;generalize hz:env.getD i d=z at *;rw [h1,reverse_append,reverse_cons,append_assoc,find?_append,h2];simp [he]
theorem jD{α:Type}(env:List (ByteArray × α))(s:ByteArray)(d:ByteArray × α)(hl:∀j,j<env.length->(env.getD j d).1≠s):dK env s=none:=by
 unfold dK;rw [Option.map_eq_none_iff,find?_eq_none];intro x hx;obtain⟨k,hk,rfl⟩:=getElem_of_mem (mem_reverse.1 hx);have:=hl k hk;rw [getD_eq_getElem?_getD,getElem?_eq_getElem hk,Option.getD_some]at this;simpa using this
def l9(env:List (ByteArray × Int))(s:ByteArray):Int × Bool:=if bQ s.toList≠0 then(bQ s.toList,true)else match dK env s with|some m=>(m,true)|none=>(0,false)
theorem BL(env:List (ByteArray × Int))(s:ByteArray):eu env s=if(l9 env s).2=true then((l9 env s).1,0)else(0,5):=by
 unfold eu l9;by_cases h:bQ s.toList≠0
 ·rw [if_pos h,if_pos h];simp
 ·rw [if_neg h,if_neg h];cases dK env s<;>simp
def LkP(env:List (ByteArray × Int))(s:ByteArray)(w:World)(e:Ending)(w':World):Prop:=e= .returned (.tuple #[.int .i64 (l9 env s).1,.bool (l9 env s).2])/\w.Grows w'
structure mK(B:Nat)(s:ByteArray)(m:Int)(q:Bool)(W:World):Prop where
 nm:W.heap[B]? =some (.cells #[.string s] 9 (0,0))
 res:W.heap[B+1]? =some (.cells #[.int .i64 m] 3 (0,0))
 ok:W.heap[B+2]? =some (.cells #[.bool q] 4 (0,0))
 size:B+4<=W.heap.size
theorem mK.own{B:Nat}{s:ByteArray}{m:Int}{q:Bool}{X Y:World}{row:Option Nat}(h:mK B s m q X)(hg:X.grownBy Y row)(hr:∀r,row=some r->∃o:Obj,X.heap[r]? =some o/\o.isCells=false):mK B s m q Y:=
 ⟨(grownBy_keeps_cells hg hr h.nm rfl).trans h.nm,(grownBy_keeps_cells hg hr h.res rfl).trans h.res,(grownBy_keeps_cells hg hr h.ok rfl).trans h.ok,Nat.le_trans h.size hg.size⟩
theorem mK.alloc{B:Nat}{s:ByteArray}{m:Int}{q:Bool}{X:World}(h:mK B s m q X)(o:Obj):mK B s m q (X.alloc o):=h.own (World.grownBy_alloc X o none) (fun r e=>by cases e)
def Rj(B:Nat)(s:ByteArray)(L:List (ByteArray × Int))(w:World)(c:Code)(pre:List (Fin L.length))(W:World):Prop:=
 (c= .ret/\∃ini i,pre=ini++[i]/\(∀j∈ini,bdN L j.1≠s)/\bdN L i.1=s/\mK B s (bdD L i.1) true W)/\Below w.heap.size w W
theorem Iw(s:ByteArray)(L:List (ByteArray × Int))(v:Value)(w:World)(h:aT w v L)(hs:bQ s.toList≠0):Calls prog 162 #[.string s,v] w (LkP L s w):=by
 obtain⟨-,a,cap,rfl,-⟩:=h;have HF:Hid (l9 L s=(bQ s.toList,true)):=yq (by unfold l9;rw [if_pos hs]);have HI:Hid (∀w,Calls prog 114 #[.string s] w fun e w'=>e= .returned (.tuple #[.int .i64 (bQ s.toList),.bool true])/\w=w'):=yq (fun w=>(jQ s w).mono (by rintro e w' ⟨rfl,rfl⟩;rw [decide_eq_true hs];exact⟨rfl,rfl⟩));clear hs;generalize bQ s.toList=D at *
 go_enter func162,ntmps162
 go_wp2_with (go_at_call 114;refine gw (HI.out _) ?_)
 go_returns
 unfold LkP;rw [HF.out];exact⟨rfl,.of_below af⟩
theorem Iu(s:ByteArray)(L:List (ByteArray × Int))(v:Value)(w:World)(h:aT w v L)(hs:bQ s.toList=0):Calls prog 162 #[.string s,v] w (LkP L s w):=by
 have HV:=yq h;obtain⟨-,a,cap,rfl,-⟩:=h;have HS:Hid (l9 L s=match dK L s with|some m=>(m,true)|none=>(0,false)):=yq (by unfold l9;rw [if_neg ze]);have HI:Hid (∀w,Calls prog 114 #[.string s] w fun e w'=>e= .returned (.tuple #[.int .i64 0,.bool false])/\w=w'):=yq (fun w=>(jQ s w).mono (by rintro e w' ⟨rfl,rfl⟩;rw [hs];exact⟨rfl,rfl⟩));clear hs;refine(callsIn_wide (n:=6)).1 ?_;refine callsIn_of_wp_marks func162 rfl trivial ?_ rfl;simp only [ntmps162,size_toArray,length_cons,length_nil,Nat.reduceAdd,Nat.reduceSub,Array.replicate_succ,Array.replicate_zero,push_toArray,append_toArray,nil_append,cons_append]
 gi_wp2_with (first
  |(refine⟨trivial, ?_⟩;gi_at_call 114;refine(callsIn_wide.2 (HI.out _)).mono ?_;rintro e w' ⟨rfl,rfl⟩)
  |(refine⟨trivial, ?_⟩;gi_at_call 169;refine(MB Fence.wide _ trivial rfl _ _ _ _).mono ?_;rintro e w' ⟨rfl,rfl⟩))
 obtain⟨W0,hW0⟩:∃W0,(((w.alloc (.cells #[.string s] 9)).alloc (.cells #[.int .i64 0] 3)).alloc (.cells #[.bool false] 4)).alloc (.cells #[.slice a L.length cap] 65)=W0:=⟨_,rfl⟩;have hsz:W0.heap.size=w.heap.size+4:=by rw [<-hW0];simp
 have hB0:Below w.heap.size w W0:=by rw [<-hW0];(exact af)
 have hm0:mK w.heap.size s 0 false W0:=by rw [<-hW0];exact⟨by(repeat(first|(rw [aA,if_pos zH];done)|(rw [aA,if_neg zp])|(rw [aA,if_neg zH]))),by(repeat(first|(rw [aA,if_pos zH];done)|(rw [aA,if_neg zp])|(rw [aA,if_neg zH]))),by(repeat(first|(rw [aA,if_pos zH];done)|(rw [aA,if_neg zp])|(rw [aA,if_neg zH]))),by simp⟩
 have hbk:W0.cell? ⟨w.heap.size+3,0,none⟩=some (.slice a L.length cap):=by rw [<-hW0,World.cell?_alloc_at _ _ _ _ zg];rfl
 rw [hW0];clear hW0;have HB0:=yq hB0;have HM0:=yq hm0;have HVW:=yq (HV.out.below (Nat.le_refl _) hB0)
 refine wpIn_rangeFunc_ownH (F:=Fence.wide) rfl ze (gf:=183) (lb:=#[.pointer (some ⟨w.heap.size+3,0,none⟩)]) rfl trivial (enters_of func183 zf rfl)
  (Dj Fence.wide 5 trivial rfl ze (w.heap.size+3) W0.heap.size (.slice a L.length cap) L L.length W0 ze (Nat.le_refl _) hbk HVW.out.lies) belowK_t (belowK_b (Nat.le_refl _)) (Below.refl _ _) (fun _=>rfl)
  (fun pre W=>(mK w.heap.size s 0 false W/\∀j∈pre,bdN L j.1≠s)/\Below w.heap.size w W)
  (Rj w.heap.size s L w)
  (OwnFrom.and (Own.from (fun s A B row hs hg hr=>⟨hs.1.own hg hr,hs.2⟩) _) (ownFrom_below (Nat.le_refl _) ze))
  (fun c=>OwnFrom.and (Own.from (fun s A B row hs hg hr=>by obtain⟨h1,ini,i,h2,h3,h5,h4⟩:=hs;exact⟨h1,ini,i,h2,h3,h5,h4.own hg hr⟩) _) (ownFrom_below (Nat.le_refl _) ze))
  ⟨⟨hm0,fun j hj=>by cases hj⟩,hB0⟩
  (fun i a' W=>∃Bx,w.heap.size+3<Bx/\W.heap[Bx]? =some (.cells #[.string (bdN L i.1),.int .i64 (bdD L i.1)] 74 (0,0))/\
   a'= {tmps:=#[.string s,.slice a L.length cap,.pointer (some ⟨w.heap.size,0,none⟩),undef,.pointer (some ⟨w.heap.size+1,0,none⟩),.pointer (some ⟨w.heap.size+1+1,0,none⟩),.int .i64 0,.bool false,undef,.pointer (some ⟨Bx,0,none⟩),.tuple #[.int .i64 0,.bool false],.string s,.tuple #[.int .i64 0,.bool false],.int .i64 0,.bool false,.bool false,undef,.slice a L.length cap,.func (.func 183) #[] #[.pointer (some ⟨w.heap.size+1+1+1,0,none⟩)],.int .i64 ((i.1:Nat):Int),oI.el L i.1,undef,undef,undef,undef,undef,undef],defers:=[]})
  (fun i a' _ X Y row hs hg hr=>by obtain⟨Bx,h1,h2,h3⟩:=hs;exact⟨Bx,h1,(grownBy_keeps_cells hg (fun r e=>(hr r e).2) h2 rfl).trans h2,h3⟩)
  ?assign ?body ?done ?stop
 case assign=>
  rintro l pre i W K ⟨⟨hm,hpre⟩,hB1⟩ hK;unfold oI.el
  gi_wp2
  have hs1:=hm.size;refine hK _ _ ((KeepsOthers.alloc _ _).from _) ((Below.refl _ W).alloc ze _) ⟨⟨hm.alloc _,hpre⟩,hB1.alloc hB1.size _⟩ ⟨W.heap.size,by omega,heap_alloc_new _ _,rfl⟩
 case body=>
  rintro l pre i a' W hl ⟨r,hr⟩ ⟨⟨hm,hpre⟩,hB1⟩ ⟨Bx,hBx,hbx,rfl⟩ hlt;have HM:=yq hm;have HB1:=yq hB1;have HP:=yq hpre;have q0:W.cell? ⟨Bx,0,none⟩=some (.string (bdN L i.1)):=cell_of_row _ _ _ _ _ _ hbx;have q1:W.cell? ⟨Bx,1,none⟩=some (.int .i64 (bdD L i.1)):=cell_of_row _ _ _ _ _ _ hbx;have qn:W.cell? ⟨w.heap.size,0,none⟩=some (.string s):=cell_of_row _ _ _ _ _ _ hm.nm;have r0:W.cell? ⟨w.heap.size+1,0,none⟩=some (.int .i64 0):=cell_of_row _ _ _ _ _ _ hm.res;have rk:W.cell? ⟨w.heap.size+1+1,0,none⟩=some (.bool false):=cell_of_row _ _ _ _ _ _ hm.ok;have rf:∀j,W.frozen? ⟨w.heap.size+1,j,none⟩=false:=fun j=>Joins.unfrozen_of_block hm.res j;have rg:∀j,W.frozen? ⟨w.heap.size+1+1,j,none⟩=false:=fun j=>Joins.unfrozen_of_block hm.ok j;unfold oI.el;generalize hN:bdN L i.1=nk at *;generalize hD:bdD L i.1=dk at *;have HN:=yq hN;have HD:=yq hD;clear hm hpre hB1 hbx hN hD;by_cases he:nk=s
  ·have HE:=yq he;have he2:(nk.toList==s.toList)=true:=by rw [he];simp
   clear he
   gi_wp2
   have hs1:=HM.out.size;have hh:∀k,k≠w.heap.size+1->k≠w.heap.size+2->((W.setCell ⟨w.heap.size+1,0,none⟩ (.int .i64 dk)).setCell ⟨w.heap.size+2,0,none⟩ (.bool true)).heap[k]? =W.heap[k]?:=fun k hk hk2=>(Below.heap_setCell _ _ _ _ hk2).trans (Below.heap_setCell _ _ _ _ hk)
   have key:mK w.heap.size s dk true ((W.setCell ⟨w.heap.size+1,0,none⟩ (.int .i64 dk)).setCell ⟨w.heap.size+2,0,none⟩ (.bool true)):=by
    exact RQ
   have kf:KeepsFrom W0.heap.size W ((W.setCell ⟨w.heap.size+1,0,none⟩ (.int .i64 dk)).setCell ⟨w.heap.size+2,0,none⟩ (.bool true)):=⟨by simp,fun k o hBk hk _=>by
    rw [hh _ ze ze];exact hk⟩
   have bl:Below w.heap.size w ((W.setCell ⟨w.heap.size+1,0,none⟩ (.int .i64 dk)).setCell ⟨w.heap.size+2,0,none⟩ (.bool true)):=
    (HB1.out.setCell (by show w.heap.size<=w.heap.size+1;omega) _).setCell (by show w.heap.size<=w.heap.size+2;omega) _
   exact⟨kf,⟨rfl,pre,i,rfl,HP.out,by rw [HN.out];exact HE.out,by rw [HD.out];exact key⟩,bl⟩
  ·have HE:=yq he
   have he2:(nk.toList==s.toList)=false:=by
    rw [beq_eq_false_iff_ne];exact fun h=>he (toList_inj h)
   clear he
   gi_wp2
   refine⟨KeepsFrom.refl _ _,Below.refl _ _,⟨⟨HM.out,fun j hj=>?_⟩,HB1.out⟩⟩;rcases mem_append.1 hj with h1|h1
   ·exact HP.out j h1
   ·obtain rfl:j=i:=by simpa using h1
    rw [HN.out];exact HE.out
 case done=>
  rintro D xs W hD rfl ⟨⟨hm,hpre⟩,hB1⟩ hK;have HM:=yq hm;have HB1:=yq hB1;have HP:=yq hpre;have r0:W.cell? ⟨w.heap.size+1,0,none⟩=some (.int .i64 0):=cell_of_row _ _ _ _ _ _ hm.res;have rk:W.cell? ⟨w.heap.size+1+1,0,none⟩=some (.bool false):=cell_of_row _ _ _ _ _ _ hm.ok;have rf:∀j,W.frozen? ⟨w.heap.size+1,j,none⟩=false:=fun j=>Joins.unfrozen_of_block hm.res j;have rg:∀j,W.frozen? ⟨w.heap.size+1+1,j,none⟩=false:=fun j=>Joins.unfrozen_of_block hm.ok j;clear hm hB1 hpre
  gi_wp2
  have hDW:=(Array.getElem?_eq_some_iff.1 hK).1;have hs1:=HM.out.size;have hh:∀k,k≠w.heap.size+1->k≠w.heap.size+2->((W.setCell ⟨w.heap.size+1,0,none⟩ (.int .i64 0)).setCell ⟨w.heap.size+2,0,none⟩ (.bool false)).heap[k]? =W.heap[k]?:=fun k hk hk2=>(Below.heap_setCell _ _ _ _ hk2).trans (Below.heap_setCell _ _ _ _ hk)
  have m2:mK w.heap.size s 0 false ((W.setCell ⟨w.heap.size+1,0,none⟩ (.int .i64 0)).setCell ⟨w.heap.size+2,0,none⟩ (.bool false)):=by
   exact RQ
  have bl:Below w.heap.size w ((W.setCell ⟨w.heap.size+1,0,none⟩ (.int .i64 0)).setCell ⟨w.heap.size+2,0,none⟩ (.bool false)):=
   (HB1.out.setCell (by show w.heap.size<=w.heap.size+1;omega) _).setCell (by show w.heap.size<=w.heap.size+2;omega) _
  have hK':((W.setCell ⟨w.heap.size+1,0,none⟩ (.int .i64 0)).setCell ⟨w.heap.size+2,0,none⟩ (.bool false)).heap[D]? =some (.deferred (some [])):=by rw [hh _ ze ze];exact hK
  refine⟨by simp,.inl ⟨_,_,rfl,run_takeDeferred hK', ?_⟩⟩;have m3:=m2.own (grownBy_putObj' _ D (.deferred none)) (fun r e=>by cases e;exact⟨_,hK',rfl⟩);have bl3:=bl.trans (belowK_b (w:=w) (Nat.le_refl _) _ D _ (.deferred none) ze hK' rfl rfl);show LeavesInM Fence.wide 6 prog f162 _ _ _ _ (((W.setCell ⟨w.heap.size+1,0,none⟩ (.int .i64 0)).setCell ⟨w.heap.size+2,0,none⟩ (.bool false)).putObj D (.deferred none));generalize(((W.setCell ⟨w.heap.size+1,0,none⟩ (.int .i64 0)).setCell ⟨w.heap.size+2,0,none⟩ (.bool false)).putObj D (.deferred none))=W9 at m3 bl3 ⊢;have e0:W9.cell? ⟨w.heap.size+1,0,none⟩=some (.int .i64 0):=cell_of_row _ _ _ _ _ _ m3.res;have ek:W9.cell? ⟨w.heap.size+1+1,0,none⟩=some (.bool false):=cell_of_row _ _ _ _ _ _ m3.ok;have hn:dK L s=none:=jD L s (ByteArray.empty,0) fun j hj=>HP.out ⟨j,hj⟩ (jm _ zg);refine⟨.tuple #[.int .i64 0,.bool false], ?_, ?_,.of_below bl3⟩
  ·simp [results,f162,go_sem,e0,ek]
  ·rw [HS.out,hn]
 case stop=>
  rintro D c pre W hD ⟨k,hk,rfl⟩ ⟨⟨rfl,ini,i,hin,hini,hsi,hm1⟩,hB1⟩ hK;have hm:=hm1.own (grownBy_putObj' W D (.deferred none)) (fun r e=>by cases e;exact⟨_,hK,rfl⟩);have bl3:=hB1.trans (belowK_b (w:=w) (Nat.le_refl _) W D _ (.deferred none) ze hK rfl rfl)
  gi_wp2
  refine⟨by simp,.inl ⟨_,_,rfl,run_takeDeferred hK, ?_⟩⟩;generalize W.putObj D (.deferred none)=W9 at hm bl3 ⊢;have e0:W9.cell? ⟨w.heap.size+1,0,none⟩=some (.int .i64 (bdD L i.1)):=cell_of_row _ _ _ _ _ _ hm.res;have ek:W9.cell? ⟨w.heap.size+1+1,0,none⟩=some (.bool true):=cell_of_row _ _ _ _ _ _ hm.ok;have hii:L.length-1-k<L.length:=by omega
  rw [gH _ _ ⟨L.length-1-k,hii⟩ hk rfl]at hin;obtain⟨h1,h2⟩:=append_inj' hin rfl;subst h1;obtain rfl:(⟨L.length-1-k,hii⟩:Fin L.length)=i:=by simpa using h2
  have hn:dK L s=some (bdD L (L.length-1-k)):=jC L s (L.length-1-k) (ByteArray.empty,0) hii hsi fun j hj hjl=>hini ⟨j,hjl⟩ (jm _ zp);refine⟨.tuple #[.int .i64 (bdD L (L.length-1-k)),.bool true], ?_, ?_,.of_below bl3⟩
  ·simp [results,f162,go_sem,e0,ek]
  ·rw [HS.out,hn]
theorem Ey(s:ByteArray)(L:List (ByteArray × Int))(v:Value)(w:World)(h:aT w v L):Calls prog 162 #[.string s,v] w (LkP L s w):=by
 by_cases hs:bQ s.toList=0
 ·exact Iu s L v w h hs
 ·exact Iw s L v w h hs
end Go.Proofs.YtcfpoofhokbhlaaGreatDoor
