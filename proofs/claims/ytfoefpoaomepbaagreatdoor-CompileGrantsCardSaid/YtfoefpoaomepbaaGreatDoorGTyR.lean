import Derived.Test.YtfoefpoaomepbaaGreatDoorGEvP
set_option linter.all false
set_option maxHeartbeats 16000000
set_option maxRecDepth 1000000
namespace Go.Proofs.YtfoefpoaomepbaaGreatDoor
open Tryz List
open Go.RowKit
theorem oM(s:ByteArray)(w:World):Calls prog 99 #[.string s] w fun e w'=>e= .returned (.tuple #[.int .i64 (df s.toList),.bool (decide (df s.toList≠0))])/\w=w':=by
 go_enter func99,ntmps99
 exact Ti
theorem ret_int{a b:Int}(h:a=b):Ending.returned (.int .i64 a)= .returned (.int .i64 b):=by rw [h]
def fD(r:Int)(w:World)(e:Ending)(w':World):Prop:=(∃m,e= .returned (.tuple #[.int .i64 m,.bool (decide (r≠0))])/\(r≠0->m=r))/\w.Grows w'
def eH(r:Int)(w:World)(e:Ending)(w':World):Prop:=e= .returned (.int .i64 r)/\w.Grows w'
theorem Sv{m r:Int}{q:Bool}{w w':World}(h1:q=decide (r≠0))(h2:r≠0->m=r)(hg:w.Grows w'):fD r w (.returned (.tuple #[.int .i64 m,.bool q])) w':=⟨⟨m,by rw [h1],h2⟩,hg⟩
theorem Su{m r:Int}{w w':World}(h:m=r)(hg:w.Grows w'):eH r w (.returned (.int .i64 m)) w':=⟨by rw [h],hg⟩

theorem Q4(x:Int)(b off cap:Nat)(w:World)(c0:w.cell? ⟨b,off,none⟩=some (.int .i64 x))(hX:1<=x):Calls prog 151 #[.int .i64 4,.slice (some ⟨b,off,none⟩) 1 cap] w (fD (ag 4 [x]) w):=by
 have HR:Hid (ag 4 [x]=ag 4 [x]):=yq rfl;generalize hR:ag 4 [x]=R at HR ⊢;exact Ru
theorem Q3(x:Int)(b off cap:Nat)(w:World)(c0:w.cell? ⟨b,off,none⟩=some (.int .i64 x))(hX:1<=x):Calls prog 151 #[.int .i64 5,.slice (some ⟨b,off,none⟩) 1 cap] w (fD (ag 5 [x]) w):=by
 have HR:Hid (ag 5 [x]=ag 5 [x]):=yq rfl;generalize hR:ag 5 [x]=R at HR ⊢;exact Ru
theorem Q0(x:Int)(b off cap:Nat)(w:World)(c0:w.cell? ⟨b,off,none⟩=some (.int .i64 x))(hX:1<=x):Calls prog 151 #[.int .i64 6,.slice (some ⟨b,off,none⟩) 1 cap] w (fD (ag 6 [x]) w):=by
 have HR:Hid (ag 6 [x]=ag 6 [x]):=yq rfl;generalize hR:ag 6 [x]=R at HR ⊢;exact Ru
theorem QZ(x y:Int)(b off cap:Nat)(w:World)(c0:w.cell? ⟨b,off,none⟩=some (.int .i64 x))(c1:w.cell? ⟨b,off+1,none⟩=some (.int .i64 y))(hX:1<=x/\1<=y):Calls prog 151 #[.int .i64 7,.slice (some ⟨b,off,none⟩) 2 cap] w (fD (ag 7 [x,y]) w):=by
 have HR:Hid (ag 7 [x,y]=ag 7 [x,y]):=yq rfl;generalize hR:ag 7 [x,y]=R at HR ⊢;exact gz3
theorem QY(x y:Int)(b off cap:Nat)(w:World)(c0:w.cell? ⟨b,off,none⟩=some (.int .i64 x))(c1:w.cell? ⟨b,off+1,none⟩=some (.int .i64 y))(hX:1<=x/\1<=y):Calls prog 151 #[.int .i64 8,.slice (some ⟨b,off,none⟩) 2 cap] w (fD (ag 8 [x,y]) w):=by
 have HR:Hid (ag 8 [x,y]=ag 8 [x,y]):=yq rfl;generalize hR:ag 8 [x,y]=R at HR ⊢;exact gz3
theorem QX(x y:Int)(b off cap:Nat)(w:World)(c0:w.cell? ⟨b,off,none⟩=some (.int .i64 x))(c1:w.cell? ⟨b,off+1,none⟩=some (.int .i64 y))(hX:1<=x/\1<=y):Calls prog 151 #[.int .i64 9,.slice (some ⟨b,off,none⟩) 2 cap] w (fD (ag 9 [x,y]) w):=by
 have HR:Hid (ag 9 [x,y]=ag 9 [x,y]):=yq rfl;generalize hR:ag 9 [x,y]=R at HR ⊢;clear HR;have HR:=yq hR;have HX:=yq hX;clear hR hX
 go_enter func151,ntmps151
 by_cases e1:x=2
 focus
  subst e1
 rotate_left
 focus
  have f1:(x==2)=false:=by simpa using e1
  have g1:(2==x)=false:=by simpa using fun h=>e1 h.symm
 rotate_left
 all_goals
  by_cases e2:y=2
  focus
   subst e2
  rotate_left
  focus
   have f2:(y==2)=false:=by simpa using e2
   have g2:(2==y)=false:=by simpa using fun h=>e2 h.symm
  rotate_left
  all_goals
   exact gz0
theorem OL(x y:Int)(b off cap:Nat)(w:World)(c0:w.cell? ⟨b,off,none⟩=some (.int .i64 x))(c1:w.cell? ⟨b,off+1,none⟩=some (.int .i64 y))(hX:1<=x/\1<=y):Calls prog 151 #[.int .i64 10,.slice (some ⟨b,off,none⟩) 2 cap] w (fD (ag 10 [x,y]) w):=by
 have HR:Hid (ag 10 [x,y]=ag 10 [x,y]):=yq rfl;generalize hR:ag 10 [x,y]=R at HR ⊢;clear HR;have HR:=yq hR;have HX:=yq hX;clear hR hX
 go_enter func151,ntmps151
 by_cases e1:y=2
 ·subst e1;by_cases e2:x=2
  focus
   subst e2
  rotate_left
  focus
   have f2:(x==2)=false:=by simpa using e2
   have g2:(2==x)=false:=by simpa using fun h=>e2 h.symm
  rotate_left
  all_goals
   exact gz0
 ·have f1:(y==2)=false:=by simpa using e1
  have g1:(2==y)=false:=by simpa using fun h=>e1 h.symm
  by_cases e2:x=y
  focus
   subst e2
  rotate_left
  focus
   have f2:(x==y)=false:=by simpa using e2
   have g2:(y==x)=false:=by simpa using fun h=>e2 h.symm
  rotate_left
  all_goals
   exact gz0
theorem OJ(x y:Int)(b off cap:Nat)(w:World)(c0:w.cell? ⟨b,off,none⟩=some (.int .i64 x))(c1:w.cell? ⟨b,off+1,none⟩=some (.int .i64 y))(hX:1<=x/\1<=y):Calls prog 151 #[.int .i64 11,.slice (some ⟨b,off,none⟩) 2 cap] w (fD (ag 11 [x,y]) w):=by
 have HR:Hid (ag 11 [x,y]=ag 11 [x,y]):=yq rfl;generalize hR:ag 11 [x,y]=R at HR ⊢;exact gz3
theorem OI(x y:Int)(b off cap:Nat)(w:World)(c0:w.cell? ⟨b,off,none⟩=some (.int .i64 x))(c1:w.cell? ⟨b,off+1,none⟩=some (.int .i64 y))(hX:1<=x/\1<=y):Calls prog 151 #[.int .i64 12,.slice (some ⟨b,off,none⟩) 2 cap] w (fD (ag 12 [x,y]) w):=by
 have HR:Hid (ag 12 [x,y]=ag 12 [x,y]):=yq rfl;generalize hR:ag 12 [x,y]=R at HR ⊢;exact gz3
theorem OH(x y:Int)(b off cap:Nat)(w:World)(c0:w.cell? ⟨b,off,none⟩=some (.int .i64 x))(c1:w.cell? ⟨b,off+1,none⟩=some (.int .i64 y))(hX:1<=x/\1<=y):Calls prog 151 #[.int .i64 13,.slice (some ⟨b,off,none⟩) 2 cap] w (fD (ag 13 [x,y]) w):=by
 have HR:Hid (ag 13 [x,y]=ag 13 [x,y]):=yq rfl;generalize hR:ag 13 [x,y]=R at HR ⊢;exact gz3
theorem OG(x y:Int)(b off cap:Nat)(w:World)(c0:w.cell? ⟨b,off,none⟩=some (.int .i64 x))(c1:w.cell? ⟨b,off+1,none⟩=some (.int .i64 y))(hX:1<=x/\1<=y):Calls prog 151 #[.int .i64 14,.slice (some ⟨b,off,none⟩) 2 cap] w (fD (ag 14 [x,y]) w):=by
 have HR:Hid (ag 14 [x,y]=ag 14 [x,y]):=yq rfl;generalize hR:ag 14 [x,y]=R at HR ⊢;exact gz3
theorem OE(x y:Int)(b off cap:Nat)(w:World)(c0:w.cell? ⟨b,off,none⟩=some (.int .i64 x))(c1:w.cell? ⟨b,off+1,none⟩=some (.int .i64 y))(hX:1<=x/\1<=y):Calls prog 151 #[.int .i64 15,.slice (some ⟨b,off,none⟩) 2 cap] w (fD (ag 15 [x,y]) w):=by
 have HR:Hid (ag 15 [x,y]=ag 15 [x,y]):=yq rfl;generalize hR:ag 15 [x,y]=R at HR ⊢;exact gz3
theorem OD(x y:Int)(b off cap:Nat)(w:World)(c0:w.cell? ⟨b,off,none⟩=some (.int .i64 x))(c1:w.cell? ⟨b,off+1,none⟩=some (.int .i64 y))(hX:1<=x/\1<=y):Calls prog 151 #[.int .i64 16,.slice (some ⟨b,off,none⟩) 2 cap] w (fD (ag 16 [x,y]) w):=by
 have HR:Hid (ag 16 [x,y]=ag 16 [x,y]):=yq rfl;generalize hR:ag 16 [x,y]=R at HR ⊢;exact gz3
theorem OC(x y:Int)(b off cap:Nat)(w:World)(c0:w.cell? ⟨b,off,none⟩=some (.int .i64 x))(c1:w.cell? ⟨b,off+1,none⟩=some (.int .i64 y))(hX:1<=x/\1<=y):Calls prog 151 #[.int .i64 17,.slice (some ⟨b,off,none⟩) 2 cap] w (fD (ag 17 [x,y]) w):=by
 have HR:Hid (ag 17 [x,y]=ag 17 [x,y]):=yq rfl;generalize hR:ag 17 [x,y]=R at HR ⊢;exact RA
theorem OB(x y:Int)(b off cap:Nat)(w:World)(c0:w.cell? ⟨b,off,none⟩=some (.int .i64 x))(c1:w.cell? ⟨b,off+1,none⟩=some (.int .i64 y))(hX:1<=x/\1<=y):Calls prog 151 #[.int .i64 18,.slice (some ⟨b,off,none⟩) 2 cap] w (fD (ag 18 [x,y]) w):=by
 have HR:Hid (ag 18 [x,y]=ag 18 [x,y]):=yq rfl;generalize hR:ag 18 [x,y]=R at HR ⊢;exact RA
theorem OA(x y:Int)(b off cap:Nat)(w:World)(c0:w.cell? ⟨b,off,none⟩=some (.int .i64 x))(c1:w.cell? ⟨b,off+1,none⟩=some (.int .i64 y))(hX:1<=x/\1<=y):Calls prog 151 #[.int .i64 19,.slice (some ⟨b,off,none⟩) 2 cap] w (fD (ag 19 [x,y]) w):=by
 have HR:Hid (ag 19 [x,y]=ag 19 [x,y]):=yq rfl;generalize hR:ag 19 [x,y]=R at HR ⊢;exact gz3
theorem Oz(x y:Int)(b off cap:Nat)(w:World)(c0:w.cell? ⟨b,off,none⟩=some (.int .i64 x))(c1:w.cell? ⟨b,off+1,none⟩=some (.int .i64 y))(hX:1<=x/\1<=y):Calls prog 151 #[.int .i64 20,.slice (some ⟨b,off,none⟩) 2 cap] w (fD (ag 20 [x,y]) w):=by
 have HR:Hid (ag 20 [x,y]=ag 20 [x,y]):=yq rfl;generalize hR:ag 20 [x,y]=R at HR ⊢;exact gz3
theorem Oy(x y z:Int)(b off cap:Nat)(w:World)(c0:w.cell? ⟨b,off,none⟩=some (.int .i64 x))(c1:w.cell? ⟨b,off+1,none⟩=some (.int .i64 y))(c2:w.cell? ⟨b,off+2,none⟩=some (.int .i64 z))(hX:1<=x/\1<=y/\1<=z):Calls prog 151 #[.int .i64 21,.slice (some ⟨b,off,none⟩) 3 cap] w (fD (ag 21 [x,y,z]) w):=by
 have HR:Hid (ag 21 [x,y,z]=ag 21 [x,y,z]):=yq rfl;generalize hR:ag 21 [x,y,z]=R at HR ⊢;exact RA
theorem Le(x:Int)(b off cap:Nat)(w:World)(c0:w.cell? ⟨b,off,none⟩=some (.int .i64 x))(hX:1<=x):Calls prog 90 #[.int .i64 4,.slice (some ⟨b,off,none⟩) 1 cap] w (eH (ag 4 [x]) w):=by
 have HR:Hid (ag 4 [x]=ag 4 [x]):=yq rfl;generalize hR:ag 4 [x]=R at HR ⊢;exact Rt
theorem Ld(x:Int)(b off cap:Nat)(w:World)(c0:w.cell? ⟨b,off,none⟩=some (.int .i64 x))(hX:1<=x):Calls prog 90 #[.int .i64 5,.slice (some ⟨b,off,none⟩) 1 cap] w (eH (ag 5 [x]) w):=by
 have HR:Hid (ag 5 [x]=ag 5 [x]):=yq rfl;generalize hR:ag 5 [x]=R at HR ⊢;exact Rt
theorem Lc(x:Int)(b off cap:Nat)(w:World)(c0:w.cell? ⟨b,off,none⟩=some (.int .i64 x))(hX:1<=x):Calls prog 90 #[.int .i64 6,.slice (some ⟨b,off,none⟩) 1 cap] w (eH (ag 6 [x]) w):=by
 have HR:Hid (ag 6 [x]=ag 6 [x]):=yq rfl;generalize hR:ag 6 [x]=R at HR ⊢;exact Rt
theorem K9(x y:Int)(b off cap:Nat)(w:World)(c0:w.cell? ⟨b,off,none⟩=some (.int .i64 x))(c1:w.cell? ⟨b,off+1,none⟩=some (.int .i64 y))(hX:1<=x/\1<=y):Calls prog 90 #[.int .i64 7,.slice (some ⟨b,off,none⟩) 2 cap] w (eH (ag 7 [x,y]) w):=by
 have HR:Hid (ag 7 [x,y]=ag 7 [x,y]):=yq rfl;generalize hR:ag 7 [x,y]=R at HR ⊢;exact gz4
theorem KZ(x y:Int)(b off cap:Nat)(w:World)(c0:w.cell? ⟨b,off,none⟩=some (.int .i64 x))(c1:w.cell? ⟨b,off+1,none⟩=some (.int .i64 y))(hX:1<=x/\1<=y):Calls prog 90 #[.int .i64 8,.slice (some ⟨b,off,none⟩) 2 cap] w (eH (ag 8 [x,y]) w):=by
 have HR:Hid (ag 8 [x,y]=ag 8 [x,y]):=yq rfl;generalize hR:ag 8 [x,y]=R at HR ⊢;exact gz4
theorem KY(x y:Int)(b off cap:Nat)(w:World)(c0:w.cell? ⟨b,off,none⟩=some (.int .i64 x))(c1:w.cell? ⟨b,off+1,none⟩=some (.int .i64 y))(hX:1<=x/\1<=y):Calls prog 90 #[.int .i64 9,.slice (some ⟨b,off,none⟩) 2 cap] w (eH (ag 9 [x,y]) w):=by
 have HR:Hid (ag 9 [x,y]=ag 9 [x,y]):=yq rfl;generalize hR:ag 9 [x,y]=R at HR ⊢;clear HR;have HR:=yq hR;have HX:=yq hX;clear hR hX
 go_enter func90,ntmps90
 by_cases e1:x=2
 focus
  subst e1
 rotate_left
 focus
  have f1:(x==2)=false:=by simpa using e1
  have g1:(2==x)=false:=by simpa using fun h=>e1 h.symm
 rotate_left
 all_goals
  by_cases e2:y=2
  focus
   subst e2
  rotate_left
  focus
   have f2:(y==2)=false:=by simpa using e2
   have g2:(2==y)=false:=by simpa using fun h=>e2 h.symm
  rotate_left
  all_goals
   exact gz1
theorem Ga(x y:Int)(b off cap:Nat)(w:World)(c0:w.cell? ⟨b,off,none⟩=some (.int .i64 x))(c1:w.cell? ⟨b,off+1,none⟩=some (.int .i64 y))(hX:1<=x/\1<=y):Calls prog 90 #[.int .i64 10,.slice (some ⟨b,off,none⟩) 2 cap] w (eH (ag 10 [x,y]) w):=by
 have HR:Hid (ag 10 [x,y]=ag 10 [x,y]):=yq rfl;generalize hR:ag 10 [x,y]=R at HR ⊢;clear HR;have HR:=yq hR;have HX:=yq hX;clear hR hX
 go_enter func90,ntmps90
 by_cases e1:y=2
 ·subst e1;by_cases e2:x=2
  focus
   subst e2
  rotate_left
  focus
   have f2:(x==2)=false:=by simpa using e2
   have g2:(2==x)=false:=by simpa using fun h=>e2 h.symm
  rotate_left
  all_goals
   exact gz1
 ·have f1:(y==2)=false:=by simpa using e1
  have g1:(2==y)=false:=by simpa using fun h=>e1 h.symm
  by_cases e2:x=y
  focus
   subst e2
  rotate_left
  focus
   have f2:(x==y)=false:=by simpa using e2
   have g2:(y==x)=false:=by simpa using fun h=>e2 h.symm
  rotate_left
  all_goals
   exact gz1
theorem F9(x y:Int)(b off cap:Nat)(w:World)(c0:w.cell? ⟨b,off,none⟩=some (.int .i64 x))(c1:w.cell? ⟨b,off+1,none⟩=some (.int .i64 y))(hX:1<=x/\1<=y):Calls prog 90 #[.int .i64 11,.slice (some ⟨b,off,none⟩) 2 cap] w (eH (ag 11 [x,y]) w):=by
 have HR:Hid (ag 11 [x,y]=ag 11 [x,y]):=yq rfl;generalize hR:ag 11 [x,y]=R at HR ⊢;exact gz4
theorem F8(x y:Int)(b off cap:Nat)(w:World)(c0:w.cell? ⟨b,off,none⟩=some (.int .i64 x))(c1:w.cell? ⟨b,off+1,none⟩=some (.int .i64 y))(hX:1<=x/\1<=y):Calls prog 90 #[.int .i64 12,.slice (some ⟨b,off,none⟩) 2 cap] w (eH (ag 12 [x,y]) w):=by
 have HR:Hid (ag 12 [x,y]=ag 12 [x,y]):=yq rfl;generalize hR:ag 12 [x,y]=R at HR ⊢;exact gz4
theorem F7(x y:Int)(b off cap:Nat)(w:World)(c0:w.cell? ⟨b,off,none⟩=some (.int .i64 x))(c1:w.cell? ⟨b,off+1,none⟩=some (.int .i64 y))(hX:1<=x/\1<=y):Calls prog 90 #[.int .i64 13,.slice (some ⟨b,off,none⟩) 2 cap] w (eH (ag 13 [x,y]) w):=by
 have HR:Hid (ag 13 [x,y]=ag 13 [x,y]):=yq rfl;generalize hR:ag 13 [x,y]=R at HR ⊢;exact gz4
theorem F6(x y:Int)(b off cap:Nat)(w:World)(c0:w.cell? ⟨b,off,none⟩=some (.int .i64 x))(c1:w.cell? ⟨b,off+1,none⟩=some (.int .i64 y))(hX:1<=x/\1<=y):Calls prog 90 #[.int .i64 14,.slice (some ⟨b,off,none⟩) 2 cap] w (eH (ag 14 [x,y]) w):=by
 have HR:Hid (ag 14 [x,y]=ag 14 [x,y]):=yq rfl;generalize hR:ag 14 [x,y]=R at HR ⊢;exact gz4
theorem F5(x y:Int)(b off cap:Nat)(w:World)(c0:w.cell? ⟨b,off,none⟩=some (.int .i64 x))(c1:w.cell? ⟨b,off+1,none⟩=some (.int .i64 y))(hX:1<=x/\1<=y):Calls prog 90 #[.int .i64 15,.slice (some ⟨b,off,none⟩) 2 cap] w (eH (ag 15 [x,y]) w):=by
 have HR:Hid (ag 15 [x,y]=ag 15 [x,y]):=yq rfl;generalize hR:ag 15 [x,y]=R at HR ⊢;exact gz4
theorem F4(x y:Int)(b off cap:Nat)(w:World)(c0:w.cell? ⟨b,off,none⟩=some (.int .i64 x))(c1:w.cell? ⟨b,off+1,none⟩=some (.int .i64 y))(hX:1<=x/\1<=y):Calls prog 90 #[.int .i64 16,.slice (some ⟨b,off,none⟩) 2 cap] w (eH (ag 16 [x,y]) w):=by
 have HR:Hid (ag 16 [x,y]=ag 16 [x,y]):=yq rfl;generalize hR:ag 16 [x,y]=R at HR ⊢;exact gz4
theorem F3(x y:Int)(b off cap:Nat)(w:World)(c0:w.cell? ⟨b,off,none⟩=some (.int .i64 x))(c1:w.cell? ⟨b,off+1,none⟩=some (.int .i64 y))(hX:1<=x/\1<=y):Calls prog 90 #[.int .i64 17,.slice (some ⟨b,off,none⟩) 2 cap] w (eH (ag 17 [x,y]) w):=by
 have HR:Hid (ag 17 [x,y]=ag 17 [x,y]):=yq rfl;generalize hR:ag 17 [x,y]=R at HR ⊢;exact Rz
theorem FZ(x y:Int)(b off cap:Nat)(w:World)(c0:w.cell? ⟨b,off,none⟩=some (.int .i64 x))(c1:w.cell? ⟨b,off+1,none⟩=some (.int .i64 y))(hX:1<=x/\1<=y):Calls prog 90 #[.int .i64 18,.slice (some ⟨b,off,none⟩) 2 cap] w (eH (ag 18 [x,y]) w):=by
 have HR:Hid (ag 18 [x,y]=ag 18 [x,y]):=yq rfl;generalize hR:ag 18 [x,y]=R at HR ⊢;exact Rz
theorem FY(x y:Int)(b off cap:Nat)(w:World)(c0:w.cell? ⟨b,off,none⟩=some (.int .i64 x))(c1:w.cell? ⟨b,off+1,none⟩=some (.int .i64 y))(hX:1<=x/\1<=y):Calls prog 90 #[.int .i64 19,.slice (some ⟨b,off,none⟩) 2 cap] w (eH (ag 19 [x,y]) w):=by
 have HR:Hid (ag 19 [x,y]=ag 19 [x,y]):=yq rfl;generalize hR:ag 19 [x,y]=R at HR ⊢;exact gz4
theorem FX(x y:Int)(b off cap:Nat)(w:World)(c0:w.cell? ⟨b,off,none⟩=some (.int .i64 x))(c1:w.cell? ⟨b,off+1,none⟩=some (.int .i64 y))(hX:1<=x/\1<=y):Calls prog 90 #[.int .i64 20,.slice (some ⟨b,off,none⟩) 2 cap] w (eH (ag 20 [x,y]) w):=by
 have HR:Hid (ag 20 [x,y]=ag 20 [x,y]):=yq rfl;generalize hR:ag 20 [x,y]=R at HR ⊢;exact gz4
theorem Ox(x y z:Int)(b off cap:Nat)(w:World)(c0:w.cell? ⟨b,off,none⟩=some (.int .i64 x))(c1:w.cell? ⟨b,off+1,none⟩=some (.int .i64 y))(c2:w.cell? ⟨b,off+2,none⟩=some (.int .i64 z))(hX:1<=x/\1<=y/\1<=z):Calls prog 90 #[.int .i64 21,.slice (some ⟨b,off,none⟩) 3 cap] w (eH (ag 21 [x,y,z]) w):=by
 have HR:Hid (ag 21 [x,y,z]=ag 21 [x,y,z]):=yq rfl;generalize hR:ag 21 [x,y,z]=R at HR ⊢;exact Rz
theorem Ow{op:Int}{d:List Int}(h:∀x∈d,1<=x/\x<=4)(hr:ag op d≠0):1<=ag op d/\ag op d<=4:=by
 have g:∀k,d.getD k 0=0\/(1<=d.getD k 0/\d.getD k 0<=4):=fun k=>by
  by_cases hk:k<d.length
  ·rw [getD_eq_getElem?_getD,getElem?_eq_getElem hk];exact .inr (h _ (getElem_mem hk))
  ·rw [getD_eq_getElem?_getD,getElem?_eq_none zb];exact .inl rfl
 have g0:=g 0;have g1:=g 1;unfold ag at hr ⊢;dsimp only at hr ⊢;generalize d.getD 0 0=a at *;generalize d.getD 1 0=b at *;generalize d.getD 2 0=c at *;clear h g
 (repeat' split)<;>(repeat' split at hr)<;>omega
theorem Fh{env:List (ByteArray × Int)}(h:gI env=true){p:ByteArray × Int}(hp:p∈env):1<=p.2/\p.2<=4:=by
 have:=all_eq_true.1 h p hp;simpa using this
theorem LV{α:Type}{env:List (ByteArray × α)}{s:ByteArray}{x:α}(h:gF env s=some x):∃p∈env,p.2=x:=by
 unfold gF at h;obtain⟨p,hp,rfl⟩:=Option.map_eq_some_iff.1 h;exact⟨p,mem_reverse.1 (mem_of_find?_eq_some hp),rfl⟩
mutual
theorem qE{env:List (ByteArray × Int)}(hE:gI env=true):∀e:Ex,ay e=true->(az env e).2=0->1<=(az env e).1/\(az env e).1<=4
 | .mk op n d m s l=>by
   intro hf hi;rw [ay,Bool.and_eq_true,decide_eq_true_eq]at hf;rw [az]at hi ⊢;obtain⟨ha,hf⟩:=hf;unfold fo at hi ⊢;by_cases c1:op=1
   ·subst c1;rw [if_pos rfl]at hf;simp only [Bool.and_eq_true]at hf;have:=kG hf.1;exact⟨by show 1<=m;omega,by show m<=4;omega⟩
   rw [if_neg c1]at hi hf ⊢;by_cases c3:op=3
   ·rw [if_pos c3];exact⟨by show(1:Int)<=4;omega,by show(4:Int)<=4;omega⟩
   rw [if_neg c3]at hi ⊢;by_cases c2:op=2
   ·rw [if_pos c2]at hi ⊢;unfold fB at hi ⊢;by_cases cd:df s.toList≠0
    ·rw [if_pos cd];have:=Ph s.toList;exact⟨by show 1<=df s.toList;omega,by show df s.toList<=4;omega⟩
    ·rw [if_neg cd]at hi ⊢
     cases hl:gF env s with
     |none=>rw [hl]at hi;simp at hi
     |some x=>
      obtain⟨p,hp,rfl⟩:=LV hl;exact Fh hE hp
   rw [if_neg c2,if_neg c3]at hf;rw [if_neg c2]at hi ⊢;simp only [Bool.and_eq_true]at hf
   split at hi<;>rename_i c4
   ·exact absurd hi c4
   rw [if_neg c4]
   split at hi<;>rename_i c5
   ·simp at hi
   rw [if_neg c5];exact Ow (uD hE l hf.1 zb) c5
theorem uD{env:List (ByteArray × Int)}(hE:gI env=true):∀l:List Ex,aC l=true->(aW env l).2=0->∀x∈(aW env l).1,1<=x/\x<=4
 | []=>by intro _ _ x hx;simp [aW]at hx
 |e::r=>by
  intro hf h x hx;rw [aC,Bool.and_eq_true]at hf;rw [aW]at h hx
  split at h<;>rename_i c1
  ·exact absurd h c1
  split at h<;>rename_i c2
  ·exact absurd h c2
  rw [if_neg c1,if_neg c2]at hx;rcases mem_cons.1 hx with rfl|hx
  ·exact qE hE e hf.1 zb
  ·exact uD hE r hf.2 zb x hx
end
theorem uE(env:List (ByteArray × Int)):∀(l:List Ex) (k:Nat),k<l.length->(∀j,j<k->(az env (l.getD j default)).2=0)->(az env (l.getD k default)).2≠0->
 (aW env l).2=(az env (l.getD k default)).2
 | [],k,hk,_,_=>by simp at hk
 |e::r,0,_,_,h=>by
  rw [aW,if_pos zy];rfl
 |e::r,k+1,hk,hj,h=>by
  have h0:(az env e).2=0:=hj 0 zb;have hr:=uE env r k (by simpa using hk) (fun j hjk=>hj (j+1) zb) h;have hne:(aW env r).2≠0:=by rw [hr];exact h
  rw [aW,if_neg zb,if_pos hne];exact hr
theorem xm(env:List (ByteArray × Int)):∀l:List Ex,(∀j,j<l.length->(az env (l.getD j default)).2=0)->aW env l=(l.map fun e=>(az env e).1,0)
 | [],_=>by rw [aW];rfl
 |e::r,h=>by
  have h0:(az env e).2=0:=h 0 zd;have hr:=xm env r (fun j hj=>h (j+1) ye);rw [aW,if_neg zb,hr,if_neg zd];rfl
theorem Ay{d:List Int}(h:(d.length:Int)=1):∃x,d= [x]:=length_eq_one_iff.1 zb
theorem dN{d:List Int}(h:(d.length:Int)=2):∃x y,d= [x,y]:=by
 match d,(show d.length=2 by omega)with
 | [a,b],_=>exact⟨a,b,rfl⟩
theorem SF{d:List Int}(h:(d.length:Int)=3):∃x y z,d= [x,y,z]:=by
 match d,(show d.length=3 by omega)with
 | [a,b,c],_=>exact⟨a,b,c,rfl⟩
theorem BL{w:World}{base g cap:Nat}{d:List Int}(h:w.ownsRow base 3 1 (.slice (some ⟨g,0,none⟩) d.length cap) d.length (d.map (Value.int .i64)))(k:Nat)(hk:k<d.length):w.cell? ⟨g,0+k,none⟩=some (.int .i64 (d.getD k 0)):=by
 have:=World.ownsRow.cells (g:=g) h rfl k (.int .i64 (d.getD k 0)) yK;rw [addr_add]at this;rw [Nat.zero_add];exact this
theorem Lf(op:Int)(d:List Int)(base g cap:Nat)(w:World)(h4:4<=op)(h21:op<=21)(hl:(d.length:Int)=aJ op)(hx:∀x∈d,1<=x)(h:w.ownsRow base 3 1 (.slice (some ⟨g,0,none⟩) d.length cap) d.length (d.map (Value.int .i64))) :
 Calls prog 151 #[.int .i64 op,.slice (some ⟨g,0,none⟩) d.length cap] w (fD (ag op d) w):=by
 have hc:=BL h;clear h;rcases(show op=4\/op=5\/op=6\/op=7\/op=8\/op=9\/op=10\/op=11\/op=12\/op=13\/op=14\/op=15\/op=16\/op=17\/op=18\/op=19\/op=20\/op=21 by omega)with rfl|rfl|rfl|rfl|rfl|rfl|rfl|rfl|rfl|rfl|rfl|rfl|rfl|rfl|rfl|rfl|rfl|rfl
 ·obtain⟨x,rfl⟩:=Ay (d:=d) zo;exact Q4 x g 0 cap w (hc 0 zd) (hx _ zd)
 ·obtain⟨x,rfl⟩:=Ay (d:=d) zo;exact Q3 x g 0 cap w (hc 0 zd) (hx _ zd)
 ·obtain⟨x,rfl⟩:=Ay (d:=d) zo;exact Q0 x g 0 cap w (hc 0 zd) (hx _ zd)
 ·obtain⟨x,y,rfl⟩:=dN (d:=d) zo;exact QZ x y g 0 cap w (hc 0 zd) (hc 1 zd) ⟨hx _ zd,hx _ zd⟩
 ·obtain⟨x,y,rfl⟩:=dN (d:=d) zo;exact QY x y g 0 cap w (hc 0 zd) (hc 1 zd) ⟨hx _ zd,hx _ zd⟩
 ·obtain⟨x,y,rfl⟩:=dN (d:=d) zo;exact QX x y g 0 cap w (hc 0 zd) (hc 1 zd) ⟨hx _ zd,hx _ zd⟩
 ·obtain⟨x,y,rfl⟩:=dN (d:=d) zo;exact OL x y g 0 cap w (hc 0 zd) (hc 1 zd) ⟨hx _ zd,hx _ zd⟩
 ·obtain⟨x,y,rfl⟩:=dN (d:=d) zo;exact OJ x y g 0 cap w (hc 0 zd) (hc 1 zd) ⟨hx _ zd,hx _ zd⟩
 ·obtain⟨x,y,rfl⟩:=dN (d:=d) zo;exact OI x y g 0 cap w (hc 0 zd) (hc 1 zd) ⟨hx _ zd,hx _ zd⟩
 ·obtain⟨x,y,rfl⟩:=dN (d:=d) zo;exact OH x y g 0 cap w (hc 0 zd) (hc 1 zd) ⟨hx _ zd,hx _ zd⟩
 ·obtain⟨x,y,rfl⟩:=dN (d:=d) zo;exact OG x y g 0 cap w (hc 0 zd) (hc 1 zd) ⟨hx _ zd,hx _ zd⟩
 ·obtain⟨x,y,rfl⟩:=dN (d:=d) zo;exact OE x y g 0 cap w (hc 0 zd) (hc 1 zd) ⟨hx _ zd,hx _ zd⟩
 ·obtain⟨x,y,rfl⟩:=dN (d:=d) zo;exact OD x y g 0 cap w (hc 0 zd) (hc 1 zd) ⟨hx _ zd,hx _ zd⟩
 ·obtain⟨x,y,rfl⟩:=dN (d:=d) zo;exact OC x y g 0 cap w (hc 0 zd) (hc 1 zd) ⟨hx _ zd,hx _ zd⟩
 ·obtain⟨x,y,rfl⟩:=dN (d:=d) zo;exact OB x y g 0 cap w (hc 0 zd) (hc 1 zd) ⟨hx _ zd,hx _ zd⟩
 ·obtain⟨x,y,rfl⟩:=dN (d:=d) zo;exact OA x y g 0 cap w (hc 0 zd) (hc 1 zd) ⟨hx _ zd,hx _ zd⟩
 ·obtain⟨x,y,rfl⟩:=dN (d:=d) zo;exact Oz x y g 0 cap w (hc 0 zd) (hc 1 zd) ⟨hx _ zd,hx _ zd⟩
 ·obtain⟨x,y,z,rfl⟩:=SF (d:=d) zo;exact Oy x y z g 0 cap w (hc 0 zd) (hc 1 zd) (hc 2 zd) ⟨hx _ zd,hx _ zd,hx _ zd⟩
theorem KX(op:Int)(d:List Int)(base g cap:Nat)(w:World)(h4:4<=op)(h21:op<=21)(hl:(d.length:Int)=aJ op)(hx:∀x∈d,1<=x)(h:w.ownsRow base 3 1 (.slice (some ⟨g,0,none⟩) d.length cap) d.length (d.map (Value.int .i64))) :
 Calls prog 90 #[.int .i64 op,.slice (some ⟨g,0,none⟩) d.length cap] w (eH (ag op d) w):=by
 have hc:=BL h;clear h;rcases(show op=4\/op=5\/op=6\/op=7\/op=8\/op=9\/op=10\/op=11\/op=12\/op=13\/op=14\/op=15\/op=16\/op=17\/op=18\/op=19\/op=20\/op=21 by omega)with rfl|rfl|rfl|rfl|rfl|rfl|rfl|rfl|rfl|rfl|rfl|rfl|rfl|rfl|rfl|rfl|rfl|rfl
 ·obtain⟨x,rfl⟩:=Ay (d:=d) zo;exact Le x g 0 cap w (hc 0 zd) (hx _ zd)
 ·obtain⟨x,rfl⟩:=Ay (d:=d) zo;exact Ld x g 0 cap w (hc 0 zd) (hx _ zd)
 ·obtain⟨x,rfl⟩:=Ay (d:=d) zo;exact Lc x g 0 cap w (hc 0 zd) (hx _ zd)
 ·obtain⟨x,y,rfl⟩:=dN (d:=d) zo;exact K9 x y g 0 cap w (hc 0 zd) (hc 1 zd) ⟨hx _ zd,hx _ zd⟩
 ·obtain⟨x,y,rfl⟩:=dN (d:=d) zo;exact KZ x y g 0 cap w (hc 0 zd) (hc 1 zd) ⟨hx _ zd,hx _ zd⟩
 ·obtain⟨x,y,rfl⟩:=dN (d:=d) zo;exact KY x y g 0 cap w (hc 0 zd) (hc 1 zd) ⟨hx _ zd,hx _ zd⟩
 ·obtain⟨x,y,rfl⟩:=dN (d:=d) zo;exact Ga x y g 0 cap w (hc 0 zd) (hc 1 zd) ⟨hx _ zd,hx _ zd⟩
 ·obtain⟨x,y,rfl⟩:=dN (d:=d) zo;exact F9 x y g 0 cap w (hc 0 zd) (hc 1 zd) ⟨hx _ zd,hx _ zd⟩
 ·obtain⟨x,y,rfl⟩:=dN (d:=d) zo;exact F8 x y g 0 cap w (hc 0 zd) (hc 1 zd) ⟨hx _ zd,hx _ zd⟩
 ·obtain⟨x,y,rfl⟩:=dN (d:=d) zo;exact F7 x y g 0 cap w (hc 0 zd) (hc 1 zd) ⟨hx _ zd,hx _ zd⟩
 ·obtain⟨x,y,rfl⟩:=dN (d:=d) zo;exact F6 x y g 0 cap w (hc 0 zd) (hc 1 zd) ⟨hx _ zd,hx _ zd⟩
 ·obtain⟨x,y,rfl⟩:=dN (d:=d) zo;exact F5 x y g 0 cap w (hc 0 zd) (hc 1 zd) ⟨hx _ zd,hx _ zd⟩
 ·obtain⟨x,y,rfl⟩:=dN (d:=d) zo;exact F4 x y g 0 cap w (hc 0 zd) (hc 1 zd) ⟨hx _ zd,hx _ zd⟩
 ·obtain⟨x,y,rfl⟩:=dN (d:=d) zo;exact F3 x y g 0 cap w (hc 0 zd) (hc 1 zd) ⟨hx _ zd,hx _ zd⟩
 ·obtain⟨x,y,rfl⟩:=dN (d:=d) zo;exact FZ x y g 0 cap w (hc 0 zd) (hc 1 zd) ⟨hx _ zd,hx _ zd⟩
 ·obtain⟨x,y,rfl⟩:=dN (d:=d) zo;exact FY x y g 0 cap w (hc 0 zd) (hc 1 zd) ⟨hx _ zd,hx _ zd⟩
 ·obtain⟨x,y,rfl⟩:=dN (d:=d) zo;exact FX x y g 0 cap w (hc 0 zd) (hc 1 zd) ⟨hx _ zd,hx _ zd⟩
 ·obtain⟨x,y,z,rfl⟩:=SF (d:=d) zo;exact Ox x y z g 0 cap w (hc 0 zd) (hc 1 zd) (hc 2 zd) ⟨hx _ zd,hx _ zd,hx _ zd⟩
abbrev bdN(l:List (ByteArray × Int))(i:Nat):ByteArray:=(l.getD i (ByteArray.empty,0)).1
abbrev bdD(l:List (ByteArray × Int))(i:Nat):Int:=(l.getD i (ByteArray.empty,0)).2
def aR(w:World)(v:Value)(l:List (ByteArray × Int)):Prop:=
 l.length<=1000/\∃a cap,v= .slice a l.length cap/\(l.length=0\/∃b off,a=some ⟨b,off,none⟩/\b<w.heap.size/\∀i,i<l.length->w.cell? ⟨b,off+i*2,none⟩=some (.string (bdN l i))/\w.cell? ⟨b,off+i*2+1,none⟩=some (.int .i64 (bdD l i)))
theorem aR.below{w w':World}{v:Value}{l:List (ByteArray × Int)}{n:Nat}(h:aR w v l)(hn:w.heap.size<=n)(hb:Below n w w'):aR w' v l:=by
 obtain⟨h0,a,cap,hv,h1⟩:=h;refine⟨h0,a,cap,hv,h1.imp id ?_⟩;rintro⟨b,off,ha,hlt,hc⟩;refine⟨b,off,ha,Nat.lt_of_lt_of_le hlt hb.size,fun i hi=>?_⟩;rw [hb.cell (p:=⟨b,off+i*2,none⟩) (Nat.lt_of_lt_of_le hlt hn),hb.cell (p:=⟨b,off+i*2+1,none⟩) (Nat.lt_of_lt_of_le hlt hn)];exact hc i hi
theorem aR.grows{w w':World}{v:Value}{l:List (ByteArray × Int)}(h:aR w v l)(hg:w.Grows w'):aR w' v l:=h.below (Nat.le_refl _) hg.below
theorem aR.grow{w:World}{v:Value}{l:List (ByteArray × Int)}(h:aR w v l)(bs:Array Obj)(d:Nat):aR (w.grow bs d) v l:=h.grows ⟨bs,d,rfl⟩
theorem aR.alloc{w:World}{v:Value}{l:List (ByteArray × Int)}(h:aR w v l)(o:Obj):aR (w.alloc o) v l:=h.below (Nat.le_refl _) ((Below.refl _ _).alloc (Nat.le_refl _) _)
def QP(g:FuncId)(lb:Array Value)(l:List (ByteArray × Int))(p:Nat->Bool)(w:World):Prop:=
 ∀k,k<l.length->∀w',w.Grows w'->Calls prog g (#[.agg #[.string (bdN l k),.int .i64 (bdD l k)]]++lb) w' fun r w''=>r= .returned (.bool (p k))/\w'.Grows w''
theorem Ml(g:FuncId)(lb:Array Value)(eg:∀args w,(callFunc g args).run prog w= .ok (.enter g args) w)(l:List (ByteArray × Int))(v:Value)(p:Nat->Bool)(w:World)(h:aR w v l)(hp:Hid (QP g lb l p w)) :
 Calls prog 149 #[v,.func (.func g) #[] lb] w fun r w'=>(∃z,r= .returned (.int .i64 z)/\FE l.length p z)/\w.Grows w':=by
 obtain⟨hlen,a,cap,rfl,hc⟩:=h;have Hc:=yq hc;clear hc
 go_enter func149,ntmps149
 go_wp2_with fail
 go_loopw [5,8] (fun _ v8 wr=>∃k:Nat,k<=l.length/\v8= .int .i64 k/\Hid (∀j,j<k->p j=false)/\w.Grows wr) (fun _ v8 _=>l.length-(intOf v8).toNat)
 case atStart=>exact⟨0,by omega,rfl,yq (fun j hj=>by omega),.refl _⟩
 case round=>
  obtain⟨k,hk,rfl,hno,hgr⟩:=hrel;have HG:=yq hgr;by_cases hlt2:k<l.length
  ·rcases Hc.out with h0|⟨b,off,rfl,hbw,hx⟩
   ·omega
   ·obtain⟨x0,x1⟩:=hx k hlt2;have y0:wr.cell? ⟨b,off+k*2,none⟩=some (.string (bdN l k)):=by rw [hgr.below.cell (p:=⟨b,off+k*2,none⟩) hbw];exact x0
    have y1:wr.cell? ⟨b,off+k*2+1,none⟩=some (.int .i64 (bdD l k)):=by rw [hgr.below.cell (p:=⟨b,off+k*2+1,none⟩) hbw];exact x1
    clear hx x0 x1;have d1:(k:Int)<(l.length:Int):=by omega
    have hcall:=hp.out k hlt2 _ hgr;generalize bdN l k=nk at *;generalize bdD l k=dk at *;have HLT:=yq hlt2;clear hgr
    cases hq:p k with
    |true=>
     rw [hq]at hcall;have HQ:=yq hq;clear hq;have HCL:=yq hcall;clear hcall
     go_wp2_with (go_at_fn g;refine HCL.out.mono ?_;rintro e' w' ⟨rfl,hg2⟩;have HG2:=yq hg2;clear hg2)
     go_returns
     exact⟨⟨_,rfl,.inr ⟨k,HLT.out,rfl,HQ.out⟩⟩,World.Grows.trans HG.out HG2.out⟩
    |false=>
     rw [hq]at hcall;have HQ:=yq hq;clear hq;have HCL:=yq hcall;clear hcall
     go_wp2_with (go_at_fn g;refine HCL.out.mono ?_;rintro e' w' ⟨rfl,hg2⟩;have HG2:=yq hg2;clear hg2)
     go_roundw
     case rel=>exact⟨k+1,by omega,by go_num,yq (fun j hj=>by
      by_cases ej:j=k
      ·subst ej;exact HQ.out
      ·exact hno.out j zb),World.Grows.trans HG.out HG2.out⟩
     case measure=>simp [intOf];omega
  ·obtain rfl:k=l.length:=by omega
   clear hgr
   go_wp2_with fail
   go_returns
   exact⟨⟨_,rfl,.inl ⟨rfl,hno.out⟩⟩,HG.out⟩
theorem nP(g:FuncId)(lb:Array Value)(eg:∀args w,(callFunc g args).run prog w= .ok (.enter g args) w)(l:List (ByteArray × Int))(v:Value)(p:Nat->Bool)(w:World)(h:aR w v l)(hp:Hid (QP g lb l p w)) :
 Calls prog 101 #[v,.func (.func g) #[] lb] w fun r w'=>r= .returned (.bool ((List.range l.length).any p))/\w.Grows w':=by
 have HI:=yq (Ml g lb eg l v p w h hp);obtain⟨-,a,cap,rfl,-⟩:=h;clear hp;generalize hX:(List.range l.length).any p=X;have HX:=yq hX;clear hX
 go_enter func101,ntmps101
 go_wp2_with (go_at_call 149;refine HI.out.mono ?_;rintro e' w' ⟨⟨z,rfl,hz⟩,bs2,d2,rfl⟩;have HZ:=yq hz.any;clear hz)
 go_returns
 exact⟨av zZ,.of_below af⟩
theorem J4:∀args w,(callFunc 103 args).run prog w= .ok (.enter 103 args) w:=enters_of func103 ze rfl
theorem Ng(n:ByteArray)(d:Int)(w:World):Calls prog 103 #[.agg #[.string n,.int .i64 d]] w fun r w'=>r= .returned (.bool (!decide (1<=d/\d<=4)))/\w.Grows w':=by
 by_cases h1:d<1
 ·exact Rx
 ·by_cases h2:d > 4
  ·exact Rx
  ·exact Rx
open Go.RowKit Go.Shelf
attribute [local go_sem] Oper.semAt_some
def lF(n k:Nat):List (Fin n):=(finRange n).reverse.take k
theorem oH(n k:Nat)(i:Fin n)(hk:k<n)(hi:n-1-k=i.1):lF n (k+1)=lF n k++[i]:=by
 have hl:k<(finRange n).reverse.length:=by simpa using hk
 unfold lF;rw [take_succ_eq_append_getElem hl]
 congr 2
 apply Fin.ext;rw [getElem_reverse];simp;omega
theorem A9(n k:Nat)(hk:k<=n):(lF n k).length=k:=by simp [lF,hk]
theorem xS{n k:Nat}(i:Fin n)(hk:n<=i.1+k):i∈lF n k:=by
 unfold lF;have hl:n-1-i.1<(finRange n).reverse.length:=by simp;omega
 have he:(finRange n).reverse[n-1-i.1]=i:=by
  apply Fin.ext;rw [getElem_reverse];simp;omega
 rw [mem_take_iff_getElem];exact⟨n-1-i.1,by simp;omega,he⟩
abbrev oN:=List (ByteArray × Int)
def oN.el(x:oN)(i:Nat):Value:=.agg #[.string (bdN x i),.int .i64 (bdD x i)]
def oN.Lies(x:oN)(n₀:Nat)(W:World)(v:Value)(n:Nat):Prop:=
 n<=1000/\∃a cap,v= .slice a n cap/\(n=0\/∃b off,a=some ⟨b,off,none⟩/\b<n₀/\∀i,i<n->W.cell? ⟨b,off+i*2,none⟩=some (.string (bdN x i))/\W.cell? ⟨b,off+i*2+1,none⟩=some (.int .i64 (bdD x i)))
theorem oN.Lies.below{x:oN}{n₀ n:Nat}{W W':World}{v:Value}(h:oN.Lies x n₀ W v n)(hb:Below n₀ W W'):oN.Lies x n₀ W' v n:=by
 obtain⟨h0,a,cap,hv,h1⟩:=h;refine⟨h0,a,cap,hv,h1.imp id ?_⟩;rintro⟨b,off,ha,hlt,hc⟩;refine⟨b,off,ha,hlt,fun i hi=>?_⟩;rw [hb.cell (p:=⟨b,off+i*2,none⟩) hlt,hb.cell (p:=⟨b,off+i*2+1,none⟩) hlt];exact hc i hi
theorem aR.lies{W:World}{v:Value}{l:List (ByteArray × Int)}(h:aR W v l):oN.Lies l W.heap.size W v l.length:=h
theorem J5(F:Fence)(n:Nat)(hf:F.fn 206)(hro:F.round=none)(hn:1<=n)(l Bs n₀ len:Nat)(x:oN)(v:Value)(J Jx:List (Fin len)->World->Prop)
 (hY:∀pre (i:Fin len) W,J pre W->pre.length<len->YieldAt F (n-1) prog l #[.int .i64 ((i.1:Nat):Int),x.el i.1] W fun e W'=>
  (e= .returned (.bool true)/\J (pre++[i]) W'/\Below n₀ W W')\/(e= .returned (.bool false)/\Jx (pre++[i]) W'))
 (W:World) (hBs:W.cell? ⟨Bs,0,none⟩=some v) (hBl:Bs<n₀) (hL:x.Lies n₀ W v len) (h0:J [] W) :
 CallsIn F n prog 206 #[.func (.yield l) #[] #[],.pointer (some ⟨Bs,0,none⟩)] W fun e W'=>(∃v,e= .returned v)/\
  ((∃ys,ys=lF len len/\J ys W')\/(∃pre,(∃k,k<len/\pre=lF len (k+1))/\Jx pre W')):=by
 have HL:=yq hL;obtain⟨h1000,a,cap,rfl,-⟩:=hL;refine callsIn_of_wp func206 rfl hf ?_ hro;simp only [ntmps206,size_toArray,length_cons,length_nil,Nat.reduceAdd,Nat.reduceSub,Array.replicate_succ,Array.replicate_zero,push_toArray,append_toArray,nil_append,cons_append]
 gi_wp2
 gi_loopw [3] (fun vi wr=>∃k:Nat,k<=len/\vi= .int .i64 ((len:Int)-1-k)/\J (lF len k) wr/\Below n₀ W wr) (fun vi _=>(intOf vi+1).toNat)
 case atStart=>exact⟨0,Nat.zero_le _,by simp,h0,Below.refl _ _⟩
 case round=>
  obtain⟨k,hk,rfl,hJs,hnx⟩:=hrel;by_cases hlt:k<len
  ·have hcs:=(hnx.cell (p:=⟨Bs,0,none⟩) hBl).trans hBs;have hLr:=HL.out.below hnx;obtain⟨-,a',cap',hv,hx⟩:=hLr;simp only [Value.slice.injEq,true_and]at hv;obtain⟨rfl,rfl⟩:=hv;rcases hx with hx|⟨b,off,rfl,hb,hx⟩
   ·omega
   obtain⟨i,hi⟩:∃i:Nat,(len:Int)-1-k=i:=⟨len-1-k,by omega⟩;have hii:i<len:=by omega
   have hik:len-1-k=i:=by omega
   obtain⟨q0,q1⟩:=hx i hii;obtain⟨fn,tmps,assign,body,hy,hR⟩:=hY _ ⟨i,hii⟩ wr hJs (by rw [A9 _ _ hk];exact hlt);simp only at hy;unfold oN.el at hy;unfold bdN at hy q0;unfold bdD at hy q1;generalize(x.getD i (ByteArray.empty,0)).1=z0 at *;generalize(x.getD i (ByteArray.empty,0)).2=z1 at *;have d1:(i:Int)<(len:Int):=by omega
   have d0:(0:Int)<=(i:Int):=by omega
   have hlen1:(len:Int)<=1000:=by omega
   rw [hi];have HI:=yq hi;have HIK:=yq hik;clear hx hi hik hBs h0
   gi_wp2
   refine hR.mono ?_;rintro e W3 (⟨rfl,hJ3,hk3⟩|⟨rfl,hJx3⟩)
   ·gi_wp2
    go_roundw
    case rel=>exact⟨k+1,by omega,by have:=HI.out;first|(congr 1;omega)|(simp;omega),by rw [oH _ _ ⟨i,hii⟩ hlt HIK.out];exact hJ3,hnx.trans hk3⟩
    case measure=>first|(simp [intOf];done)|(simp [intOf];omega)
   ·gi_wp2
    refine bodyPost_ret (results_none rfl _ _ _) rfl ?_;exact⟨⟨_,rfl⟩,.inr ⟨_,⟨k,hlt,by rw [oH _ _ ⟨i,hii⟩ hlt HIK.out]⟩,hJx3⟩⟩
  ·obtain rfl:k=len:=by omega
   have hz:(k:Int)-1-k= -1:=by omega
   rw [hz];clear hz
   gi_wp2
   go_end0
   exact⟨⟨_,rfl⟩,.inl ⟨_,rfl,hJs⟩⟩
theorem Nh(F:Fence)(n:Nat)(hf:F.fn 190)(hro:F.round=none)(a:Option Addr)(len cap:Nat)(w:World) :
 CallsIn F n prog 190 #[.slice a len cap] w fun e w'=>e= .returned (.func (.func 206) #[] #[.pointer (some ⟨w.heap.size,0,none⟩)])/\w'=w.alloc (.cells #[.slice a len cap] 52):=by
 refine callsIn_of_wp func190 rfl hf ?_ hro;simp only [ntmps190,size_toArray,length_cons,length_nil,Nat.reduceAdd,Nat.reduceSub,Array.replicate_succ,Array.replicate_zero,push_toArray,append_toArray,nil_append,cons_append]
 gi_wp2
 go_ret
 exact⟨rfl,rfl⟩
theorem Du(F:Fence)(n:Nat)(hf:F.fn 206)(hro:F.round=none)(hn:1<=n)(Bs n₀:Nat)(v:Value)(x:oN)(len:Nat)(w:World)(hBs:Bs<n₀)(hn₀:n₀<=w.heap.size)
 (hc:w.cell? ⟨Bs,0,none⟩=some v) (hL:x.Lies n₀ w v len) :
 SeqStopsK F n prog 206 #[.pointer (some ⟨Bs,0,none⟩)] (fun i:Fin len=>#[Value.int .i64 ((i.1:Nat):Int),x.el i.1]) (Below n₀) (fun ys=>ys=lF len len)
  (fun pre=>∃k,k<len/\pre=lF len (k+1)) len w:=fun l J Jx W hW _ _ hY h0=>
 J5 F n hf hro hn l Bs n₀ len x v J Jx hY W ((hW.cell (p:=⟨Bs,0,none⟩) (by show Bs<w.heap.size;omega)).trans hc) hBs (hL.below (hW.mono hn₀)) h0
open Go.RowKit Go.Shelf
attribute [local go_sem] Oper.semAt_some
abbrev wm:=List (ByteArray × Val)
abbrev stN(l:List (ByteArray × Val))(i:Nat):ByteArray:=(l.getD i (ByteArray.empty,Val.zero)).1
abbrev stV(l:List (ByteArray × Val))(i:Nat):Val:=(l.getD i (ByteArray.empty,Val.zero)).2
structure Bf(W:World)(b o:Nat)(n:ByteArray)(x:Val):Prop where
 p0:W.cell? ⟨b,o,none⟩=some (.string n)
 p1:W.cell? ⟨b,o+1,none⟩=some (.int .i64 x.dim)
 p2:W.cell? ⟨b,o+2,none⟩=some (.bool x.yes)
 p3:W.cell? ⟨b,o+3,none⟩=some (.int .i64 x.n)
 p4:W.cell? ⟨b,o+4,none⟩=some (.int .i64 x.d)
theorem Bf.same{W W':World}{b o:Nat}{n:ByteArray}{x:Val}(h:Bf W b o n x)(hw:∀o,W'.cell? ⟨b,o,none⟩=W.cell? ⟨b,o,none⟩):Bf W' b o n x:=
 ⟨by rw [hw];exact h.p0,by rw [hw];exact h.p1,by rw [hw];exact h.p2,by rw [hw];exact h.p3,by rw [hw];exact h.p4⟩
def wm.el(x:wm)(i:Nat):Value:=.agg #[.string (stN x i),.int .i64 (stV x i).dim,.bool (stV x i).yes,.int .i64 (stV x i).n,.int .i64 (stV x i).d]
def wm.Lies(x:wm)(n₀:Nat)(W:World)(v:Value)(n:Nat):Prop:=
 n<=1000/\∃a cap,v= .slice a n cap/\(n=0\/∃b off,a=some ⟨b,off,none⟩/\b<n₀/\∀i,i<n->Bf W b (off+i*5) (stN x i) (stV x i))
theorem wm.Lies.below{x:wm}{n₀ n:Nat}{W W':World}{v:Value}(h:wm.Lies x n₀ W v n)(hb:Below n₀ W W'):wm.Lies x n₀ W' v n:=by
 obtain⟨h0,a,cap,hv,h1⟩:=h;refine⟨h0,a,cap,hv,h1.imp id ?_⟩;rintro⟨b,off,ha,hlt,hc⟩;exact⟨b,off,ha,hlt,fun i hi=>(hc i hi).same fun o=>hb.cell (p:=⟨b,o,none⟩) hlt⟩
def nV(c:Int):Prop:=c≠10/\c≠35/\c≠9/\c≠13/\c≠32
theorem KQ(s:ByteArray)(p q:Nat)(w:World)(hs:s.size<=maxLen)(hq:q<=s.size)(hpq:q=p\/(q=p+1/\byt s p=32))(hend:q=s.size\/(q<s.size/\nV (byt s q))):Calls prog 195 #[.string s,.int .i64 p] w fun e w'=>e= .returned (.int .i64 q)/\w=w':=by
 unfold maxLen at hs
 go_enter func195,ntmps195
 go_wp2
 go_loop [1,5] (fun v1 v5=>∃k:Nat,(k=p\/k=q)/\v1= .int .i64 k/\v5= .bool false) (fun v1 _=>s.size-(intOf v1).toNat)
 case atStart=>exact⟨p,.inl rfl,rfl,rfl⟩
 case round=>
  obtain⟨k,hk,rfl,rfl⟩:=hrel;by_cases hkq:k=q
  ·subst hkq;rcases hend with h|⟨h,hp⟩
   ·have h1:¬(k:Int)<(s.size:Int):=by omega
    go_wp2
    go_ret
    exact⟨rfl,rfl⟩
   ·obtain⟨h1,h2,h3,h4,h5⟩:=hp;rw [fH s k h]at h1 h2 h3 h4 h5;have g1:((s[k].toNat:Int)==10)=false:=by simpa using h1
    have g2:((s[k].toNat:Int)==35)=false:=by simpa using h2
    have g3:((s[k].toNat:Int)!=9)=true:=by simpa using h3
    have g4:((s[k].toNat:Int)!=13)=true:=by simpa using h4
    have g5:((s[k].toNat:Int)!=32)=true:=by simpa using h5
    go_wp2
    go_ret
    exact⟨rfl,rfl⟩
  ·have hkp:k=p:=by omega
   subst hkp;have hq1:q=k+1:=by omega
   have hb:byt s k=32:=by omega
   have hlt:k<s.size:=by omega
   rw [fH s k hlt]at hb;have g5:((s[k].toNat:Int)!=32)=false:=by simp [hb]
   go_wp2
   go_round
   case rel=>exact⟨k+1,by omega,by go_num,rfl⟩
   case measure=>simp [intOf];omega
def FP(c:Int):Bool:=nI c || iI c
theorem tF(s:ByteArray)(p m:Nat)(pt:Bool)(w:World)(hs:s.size<=maxLen)(hm:p+m<=s.size)(hin:∀k,k<m->FP (byt s (p+k))=true)(hend:p+m=s.size\/(FP (byt s (p+m))=false/\byt s (p+m)≠95/\byt s (p+m)≠46)) :
 Calls prog 196 #[.string s,.int .i64 p,.bool pt] w fun e w'=>e= .returned (.int .i64 m)/\w=w':=by
 unfold maxLen at hs
 go_enter func196,ntmps196
 go_wp2
 go_loop [7] (fun v7=>∃k:Nat,k<=m/\v7= .int .i64 k) (fun v7=>m-(intOf v7).toNat)
 case atStart=>exact⟨0,Nat.zero_le _,rfl⟩
 case round=>
  obtain⟨k,hk,rfl⟩:=hrel;by_cases hkm:k=m
  ·subst hkm;rcases hend with h|⟨h,h95,h46⟩
   ·have h1:¬((p:Int)+(k:Int)<(s.size:Int)):=by omega
    go_wp2
    go_ret
    exact⟨rfl,rfl⟩
   ·by_cases hlt:p+k<s.size
    ·rw [fH s (p+k) hlt]at h h95 h46;unfold FP at h;rw [Bool.or_eq_false_iff]at h;have hL:=h.1;have hD:=h.2;have h1:((p:Int)+(k:Int)<(s.size:Int)):=by omega
     have g1:((s[p+k].toNat:Int)==95)=false:=by simpa using h95
     have g2:((s[p+k].toNat:Int)==46)=false:=by simpa using h46
     cases pt
     all_goals
      go_wp2_with (first|((go_at_call 108;(with_reducible refine gw (cO _ _) ?_);simp only [hL]))|((go_at_call 109;(with_reducible refine gw (dW _ _) ?_);simp only [hD])))
      go_ret
      exact⟨rfl,rfl⟩
    ·have h1:¬((p:Int)+(k:Int)<(s.size:Int)):=by omega
     go_wp2
     go_ret
     exact⟨rfl,rfl⟩
  ·have hlt:p+k<s.size:=by omega
   have h1:((p:Int)+(k:Int)<(s.size:Int)):=by omega
   have hr:=hin k zb;rw [fH s (p+k) hlt]at hr;unfold FP at hr;cases hL:nI (s[p+k].toNat:Int)
   ·rw [hL,Bool.false_or]at hr;have hD:=hr
    go_wp2_with (first|((go_at_call 108;(with_reducible refine gw (cO _ _) ?_);simp only [hL]))|((go_at_call 109;(with_reducible refine gw (dW _ _) ?_);simp only [hD])))
    go_round
    case rel=>exact⟨k+1,by omega,by go_num⟩
    case measure=>simp [intOf];omega
   ·go_wp2_with (first|((go_at_call 108;(with_reducible refine gw (cO _ _) ?_);simp only [hL]))|((go_at_call 109;(with_reducible refine gw (dW _ _) ?_);simp only [hD])))
    go_round
    case rel=>exact⟨k+1,by omega,by go_num⟩
    case measure=>simp [intOf];omega
theorem Bw(s:ByteArray)(p:Nat)(w:World)(hs:s.size<=maxLen)(hp:p+1<s.size)(hc:byt s p=42\/byt s p=43)(t1:((s.extract p (p+2)).toList== [60,61])=false)(t2:((s.extract p (p+2)).toList== [62,61])=false)(t3:((s.extract p (p+2)).toList== [60,62])=false):Calls prog 199 #[.string s,.int .i64 p] w fun e w'=>e= .returned (.int .i64 1)/\w=w':=by
 unfold maxLen at hs;have hlt:p<s.size:=by omega
 have h1:((p:Int)+1<(s.size:Int)):=by omega
 rw [fH s p hlt]at hc;rcases hc with hc|hc
 all_goals
  have g1:((s[p].toNat:Int)==60)=false:=by simp [hc]
  have g2:((s[p].toNat:Int)==62)=false:=by simp [hc]
  have g3:((s[p].toNat:Int)==61)=false:=by simp [hc]
  go_enter func199,ntmps199
  go_wp2
  go_returns
  exact⟨rfl,rfl⟩
theorem mZ(t:ByteArray)(w:World)(hz:t.size=1)(hD0:iI (byt t 0)=true)(hex:t.extract 0 1=t)(hap:t++(⟨#[]⟩:ByteArray)=t):Calls prog 197 #[.string t] w fun e w'=>e= .returned (.tuple #[.string t,.string ⟨#[]⟩,.int .i64 2,.bool true])/\w=w':=by
 have hlt:0<t.size:=by omega
 have hb:=hD0;rw [fH t 0 hlt]at hb;have hD:=hb;have e100:((t[0].toNat:Int)==100)=false:=by unfold iI at hb;simp only [Bool.and_eq_true,decide_eq_true_eq]at hb;simp;omega
 have e109:((t[0].toNat:Int)==109)=false:=by unfold iI at hb;simp only [Bool.and_eq_true,decide_eq_true_eq]at hb;simp;omega
 have e46:((t[0].toNat:Int)==46)=false:=by unfold iI at hb;simp only [Bool.and_eq_true,decide_eq_true_eq]at hb;simp;omega
 unfold iI at hb;simp only [Bool.and_eq_true,decide_eq_true_eq]at hb
 go_enter func197,ntmps197
 go_wp2_with fail
 go_loop [8,9] (fun v8 v9=>v8= .int .i64 1/\(v9= .int .i64 0\/v9= .int .i64 (-1))) (fun _ v9=>(intOf v9+1).toNat)
 case atStart=>exact⟨rfl,.inl rfl⟩
 case round=>
  obtain⟨rfl,hrel⟩:=hrel;rcases hrel with rfl|rfl
  ·go_wp2_with fail
   go_round
   case rel=>exact⟨rfl,.inr rfl⟩
   case measure=>simp [intOf]
  ·go_wp2_with fail
   have hfl:(9223372036854775807<t.size+0)=False:=by simp [hz]
   go_loop [12] (fun v12=>v12= .int .i64 0\/v12= .int .i64 1) (fun v12=>(1-intOf v12).toNat)
   case atStart=>exact .inl rfl
   case round=>
    rcases hrel with rfl|rfl
    ·go_wp2_with ((go_at_call 109;(with_reducible refine gw (dW _ _) ?_);simp only [hD]))
     go_round
     case rel=>exact .inr rfl
     case measure=>simp [intOf]
    ·exact Jq
theorem Dk(t:ByteArray)(n:Int)(w:World)(hz:t.size=1)(hn:byt t 0=48+n)(h0:0<=n/\n<=9)(hex:t.extract 0 1=t)(hap:t++(⟨#[]⟩:ByteArray)=t)(HM:Hid (∀w,Calls prog 39 #[.int .i64 n,.int .i64 1] w fun e w'=>e= .returned (.tuple #[.agg #[.int .i64 n,.int .i64 1],.int .i64 0])/\w.Grows w')):Calls prog 167 #[.string t] w fun e w'=>e= .returned (.tuple #[.agg #[.int .i64 n,.int .i64 1],.int .i64 2,.bool true])/\w.Grows w':=by
 have hlt:0<t.size:=by omega
 have hD0:iI (byt t 0)=true:=by rw [hn];unfold iI;simp;omega
 rw [fH t 0 hlt]at hn;have hfl:(9223372036854775807<t.size+0)=False:=by simp [hz]
 go_enter func167,ntmps167
 go_wp2_with ((first|(go_at_call 197;refine gw (mZ t _ hz hD0 hex hap) ?_)|(go_at_call 39;refine gv (HM.out _) ?_;intro bs d)))
 go_loopw [9,10,11] (fun v9 v10 v11 wr=>((v9= .int .i64 0/\v11= .int .i64 0)\/(v9= .int .i64 n/\v11= .int .i64 1))/\v10= .int .i64 1/\wr=w.alloc (.cells #[.int .i64 0,.int .i64 0] 24)) (fun _ _ v11 _=>(1-intOf v11).toNat)
 case atStart=>exact⟨.inl ⟨rfl,rfl⟩,rfl,rfl⟩
 case round=>
  obtain⟨hrel,rfl,rfl⟩:=hrel;rcases hrel with ⟨rfl,rfl⟩|⟨rfl,rfl⟩
  ·have hw8:IntKind.u8.wrap ((t[0].toNat:Int)-48)=n:=by rw [hn];unfold IntKind.wrap;simp [IntKind.bits,IntKind.signed];omega
   go_wp2_with fail
   go_roundw
   case rel=>exact⟨.inr ⟨by go_num,rfl⟩,by simp⟩
   case measure=>simp [intOf]
  ·go_wp2_with ((first|(go_at_call 197;refine gw (mZ t _ hz hD0 hex hap) ?_)|(go_at_call 39;refine gv (HM.out _) ?_;intro bs d)))
   exact uH
def NxP(s:ByteArray)(p:Nat)(kind:Int)(t:ByteArray)(q r:Nat):Prop:=∀w,Calls prog 163 #[.string s,.int .i64 p] w fun e w'=>e= .returned (.tuple #[.agg #[.int .i64 kind,.string t,.int .i64 q],.int .i64 r,.int .i64 0])/\w.Grows w'
theorem LA(s:ByteArray)(p:Nat)(hs:s.size<=maxLen)(hp:p<=s.size)(HSK:Hid (∀w,Calls prog 195 #[.string s,.int .i64 p] w fun e w'=>e= .returned (.int .i64 s.size)/\w=w')):NxP s p 0 ⟨#[]⟩ s.size s.size:=by
 intro w;unfold maxLen at hs;have h0:¬(p:Int)<0:=by omega
 have h1:¬(s.size:Int)<(p:Int):=by omega
 go_enter func163,ntmps163
 go_wp2_with ((go_at_call 195;refine gw (HSK.out _) ?_))
 exact uH
theorem IK(s:ByteArray)(p q n:Nat)(hs:s.size<=maxLen)(hp:p<=s.size)(hq:q+n<=s.size)(hn:0<n/\n<=12)(HSK:Hid (∀w,Calls prog 195 #[.string s,.int .i64 p] w fun e w'=>e= .returned (.int .i64 q)/\w=w'))(hl:nI (byt s q)=true)(HRN:Hid (∀w,Calls prog 196 #[.string s,.int .i64 q,.bool false] w fun e w'=>e= .returned (.int .i64 n)/\w=w')):NxP s p 1 (s.extract q (q+n)) q (q+n):=by
 intro w;unfold maxLen at hs;have h0:¬(p:Int)<0:=by omega
 have h1:¬(s.size:Int)<(p:Int):=by omega
 have hlt:q<s.size:=by omega
 have h2:((q:Int)==(s.size:Int))=false:=by simp;omega
 have h3:(n:Int)<=12:=by omega
 rw [fH s q hlt]at hl;have hL:=hl
 go_enter func163,ntmps163
 go_wp2_with (first|((go_at_call 195;refine gw (HSK.out _) ?_))|((go_at_call 108;(with_reducible refine gw (cO _ _) ?_);simp only [hL]))|((go_at_call 196;refine gw (HRN.out _) ?_)))
 go_returns
 exact⟨by rw [Int.natCast_add],growsR⟩
theorem BS(s:ByteArray)(p q:Nat)(hs:s.size<=maxLen)(hp:p<=s.size)(hq:q+1<=s.size)(HSK:Hid (∀w,Calls prog 195 #[.string s,.int .i64 p] w fun e w'=>e= .returned (.int .i64 q)/\w=w'))(hl:nI (byt s q)=false)(hd:iI (byt s q)=true)(HRN:Hid (∀w,Calls prog 196 #[.string s,.int .i64 q,.bool true] w fun e w'=>e= .returned (.int .i64 1)/\w=w'))
 (HPT:Hid (∀w,Calls prog 197 #[.string (s.extract q (q+1))] w fun e w'=>e= .returned (.tuple #[.string (s.extract q (q+1)),.string ⟨#[]⟩,.int .i64 2,.bool true])/\w=w')):NxP s p 2 (s.extract q (q+1)) q (q+1):=by
 intro w;unfold maxLen at hs;have h0:¬(p:Int)<0:=by omega
 have h1:¬(s.size:Int)<(p:Int):=by omega
 have hlt:q<s.size:=by omega
 have h2:((q:Int)==(s.size:Int))=false:=by simp;omega
 rw [fH s q hlt]at hl hd;have hL:=hl;have hD:=hd
 go_enter func163,ntmps163
 go_wp2_with (first|((go_at_call 195;refine gw (HSK.out _) ?_))|((go_at_call 108;(with_reducible refine gw (cO _ _) ?_);simp only [hL]))|((go_at_call 109;(with_reducible refine gw (dW _ _) ?_);simp only [hD]))|((go_at_call 196;refine gw (HRN.out _) ?_))|(go_at_call 197;refine gw (HPT.out _) ?_))
 go_returns
 exact⟨by rw [Int.natCast_add];rfl,growsR⟩
theorem wT(s:ByteArray)(p q:Nat)(hs:s.size<=maxLen)(hp:p<=s.size)(hq:q+1<=s.size)(HSK:Hid (∀w,Calls prog 195 #[.string s,.int .i64 p] w fun e w'=>e= .returned (.int .i64 q)/\w=w'))(hl:nI (byt s q)=false)(hd:iI (byt s q)=false)(h64:byt s q≠64)
 (HSG:Hid (∀w,Calls prog 199 #[.string s,.int .i64 q] w fun e w'=>e= .returned (.int .i64 1)/\w=w')):NxP s p 4 (s.extract q (q+1)) q (q+1):=by
 intro w;unfold maxLen at hs;have h0:¬(p:Int)<0:=by omega
 have h1:¬(s.size:Int)<(p:Int):=by omega
 have hlt:q<s.size:=by omega
 have h2:((q:Int)==(s.size:Int))=false:=by simp;omega
 rw [fH s q hlt]at hl hd h64;have hL:=hl;have hD:=hd;have h3:((s[q].toNat:Int)==64)=false:=by simpa using h64
 go_enter func163,ntmps163
 go_wp2_with (first|((go_at_call 195;refine gw (HSK.out _) ?_))|((go_at_call 108;(with_reducible refine gw (cO _ _) ?_);simp only [hL]))|((go_at_call 109;(with_reducible refine gw (dW _ _) ?_);simp only [hD]))|(go_at_call 199;refine gw (HSG.out _) ?_))
 go_returns
 exact⟨by rw [Int.natCast_add];rfl,growsR⟩
end Go.Proofs.YtfoefpoaomepbaaGreatDoor
