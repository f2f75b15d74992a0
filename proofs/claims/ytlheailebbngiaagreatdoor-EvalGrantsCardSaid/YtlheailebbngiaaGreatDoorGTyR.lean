import Derived.Test.YtlheailebbngiaaGreatDoorGGen
set_option linter.all false
set_option maxHeartbeats 16000000
set_option maxRecDepth 1000000
namespace Go.Proofs.YtlheailebbngiaaGreatDoor
open Tryz List
open Go.RowKit
theorem jO(s:ByteArray)(w:World):Calls prog 47 #[.string s] w fun e w'=>e= .returned (.tuple #[.int .i64 (bT s.toList),.bool (decide (bT s.toList≠0))])/\w=w':=by
 go_enter func47,ntmps47
 exact Qv
theorem ret_int{a b:Int}(h:a=b):Ending.returned (.int .i64 a)= .returned (.int .i64 b):=by rw [h]
def gq(r:Int)(w:World)(e:Ending)(w':World):Prop:=(∃m,e= .returned (.tuple #[.int .i64 m,.bool (decide (r≠0))])/\(r≠0->m=r))/\w.Grows w'
def fJ(r:Int)(w:World)(e:Ending)(w':World):Prop:=e= .returned (.int .i64 r)/\w.Grows w'
theorem P9{m r:Int}{q:Bool}{w w':World}(h1:q=decide (r≠0))(h2:r≠0->m=r)(hg:w.Grows w'):gq r w (.returned (.tuple #[.int .i64 m,.bool q])) w':=⟨⟨m,by rw [h1],h2⟩,hg⟩
theorem P8{m r:Int}{w w':World}(h:m=r)(hg:w.Grows w'):fJ r w (.returned (.int .i64 m)) w':=⟨by rw [h],hg⟩

theorem O8(x:Int)(b off cap:Nat)(w:World)(c0:w.cell? ⟨b,off,none⟩=some (.int .i64 x))(hX:1<=x):Calls prog 139 #[.int .i64 4,.slice (some ⟨b,off,none⟩) 1 cap] w (gq (ax 4 [x]) w):=by
 have HR:Hid (ax 4 [x]=ax 4 [x]):=zh rfl;generalize hR:ax 4 [x]=R at HR ⊢;exact Px
theorem O7(x:Int)(b off cap:Nat)(w:World)(c0:w.cell? ⟨b,off,none⟩=some (.int .i64 x))(hX:1<=x):Calls prog 139 #[.int .i64 5,.slice (some ⟨b,off,none⟩) 1 cap] w (gq (ax 5 [x]) w):=by
 have HR:Hid (ax 5 [x]=ax 5 [x]):=zh rfl;generalize hR:ax 5 [x]=R at HR ⊢;exact Px
theorem O6(x:Int)(b off cap:Nat)(w:World)(c0:w.cell? ⟨b,off,none⟩=some (.int .i64 x))(hX:1<=x):Calls prog 139 #[.int .i64 6,.slice (some ⟨b,off,none⟩) 1 cap] w (gq (ax 6 [x]) w):=by
 have HR:Hid (ax 6 [x]=ax 6 [x]):=zh rfl;generalize hR:ax 6 [x]=R at HR ⊢;exact Px
theorem O5(x y:Int)(b off cap:Nat)(w:World)(c0:w.cell? ⟨b,off,none⟩=some (.int .i64 x))(c1:w.cell? ⟨b,off+1,none⟩=some (.int .i64 y))(hX:1<=x/\1<=y):Calls prog 139 #[.int .i64 7,.slice (some ⟨b,off,none⟩) 2 cap] w (gq (ax 7 [x,y]) w):=by
 have HR:Hid (ax 7 [x,y]=ax 7 [x,y]):=zh rfl;generalize hR:ax 7 [x,y]=R at HR ⊢;exact gz2
theorem O4(x y:Int)(b off cap:Nat)(w:World)(c0:w.cell? ⟨b,off,none⟩=some (.int .i64 x))(c1:w.cell? ⟨b,off+1,none⟩=some (.int .i64 y))(hX:1<=x/\1<=y):Calls prog 139 #[.int .i64 8,.slice (some ⟨b,off,none⟩) 2 cap] w (gq (ax 8 [x,y]) w):=by
 have HR:Hid (ax 8 [x,y]=ax 8 [x,y]):=zh rfl;generalize hR:ax 8 [x,y]=R at HR ⊢;exact gz2
theorem O0(x y:Int)(b off cap:Nat)(w:World)(c0:w.cell? ⟨b,off,none⟩=some (.int .i64 x))(c1:w.cell? ⟨b,off+1,none⟩=some (.int .i64 y))(hX:1<=x/\1<=y):Calls prog 139 #[.int .i64 9,.slice (some ⟨b,off,none⟩) 2 cap] w (gq (ax 9 [x,y]) w):=by
 have HR:Hid (ax 9 [x,y]=ax 9 [x,y]):=zh rfl;generalize hR:ax 9 [x,y]=R at HR ⊢;clear HR;have HR:=zh hR;have HX:=zh hX;clear hR hX
 go_enter func139,ntmps139
 by_cases e1:x=2
 focus
  subst e1
 rotate_left
 focus
  have f1:(x==2)=false:=by simpa using e1
  have g1:(2==x)=false:=by simpa using fun h=>e1 h.symm
 rotate_left
 all_goals
  by_cases e2:y=2
  focus
   subst e2
  rotate_left
  focus
   have f2:(y==2)=false:=by simpa using e2
   have g2:(2==y)=false:=by simpa using fun h=>e2 h.symm
  rotate_left
  all_goals
   exact gz0
theorem MO(x y:Int)(b off cap:Nat)(w:World)(c0:w.cell? ⟨b,off,none⟩=some (.int .i64 x))(c1:w.cell? ⟨b,off+1,none⟩=some (.int .i64 y))(hX:1<=x/\1<=y):Calls prog 139 #[.int .i64 10,.slice (some ⟨b,off,none⟩) 2 cap] w (gq (ax 10 [x,y]) w):=by
 have HR:Hid (ax 10 [x,y]=ax 10 [x,y]):=zh rfl;generalize hR:ax 10 [x,y]=R at HR ⊢;clear HR;have HR:=zh hR;have HX:=zh hX;clear hR hX
 go_enter func139,ntmps139
 by_cases e1:y=2
 ·subst e1;by_cases e2:x=2
  focus
   subst e2
  rotate_left
  focus
   have f2:(x==2)=false:=by simpa using e2
   have g2:(2==x)=false:=by simpa using fun h=>e2 h.symm
  rotate_left
  all_goals
   exact gz0
 ·have f1:(y==2)=false:=by simpa using e1
  have g1:(2==y)=false:=by simpa using fun h=>e1 h.symm
  by_cases e2:x=y
  focus
   subst e2
  rotate_left
  focus
   have f2:(x==y)=false:=by simpa using e2
   have g2:(y==x)=false:=by simpa using fun h=>e2 h.symm
  rotate_left
  all_goals
   exact gz0
theorem MN(x y:Int)(b off cap:Nat)(w:World)(c0:w.cell? ⟨b,off,none⟩=some (.int .i64 x))(c1:w.cell? ⟨b,off+1,none⟩=some (.int .i64 y))(hX:1<=x/\1<=y):Calls prog 139 #[.int .i64 11,.slice (some ⟨b,off,none⟩) 2 cap] w (gq (ax 11 [x,y]) w):=by
 have HR:Hid (ax 11 [x,y]=ax 11 [x,y]):=zh rfl;generalize hR:ax 11 [x,y]=R at HR ⊢;exact gz2
theorem MM(x y:Int)(b off cap:Nat)(w:World)(c0:w.cell? ⟨b,off,none⟩=some (.int .i64 x))(c1:w.cell? ⟨b,off+1,none⟩=some (.int .i64 y))(hX:1<=x/\1<=y):Calls prog 139 #[.int .i64 12,.slice (some ⟨b,off,none⟩) 2 cap] w (gq (ax 12 [x,y]) w):=by
 have HR:Hid (ax 12 [x,y]=ax 12 [x,y]):=zh rfl;generalize hR:ax 12 [x,y]=R at HR ⊢;exact gz2
theorem ML(x y:Int)(b off cap:Nat)(w:World)(c0:w.cell? ⟨b,off,none⟩=some (.int .i64 x))(c1:w.cell? ⟨b,off+1,none⟩=some (.int .i64 y))(hX:1<=x/\1<=y):Calls prog 139 #[.int .i64 13,.slice (some ⟨b,off,none⟩) 2 cap] w (gq (ax 13 [x,y]) w):=by
 have HR:Hid (ax 13 [x,y]=ax 13 [x,y]):=zh rfl;generalize hR:ax 13 [x,y]=R at HR ⊢;exact gz2
theorem MK(x y:Int)(b off cap:Nat)(w:World)(c0:w.cell? ⟨b,off,none⟩=some (.int .i64 x))(c1:w.cell? ⟨b,off+1,none⟩=some (.int .i64 y))(hX:1<=x/\1<=y):Calls prog 139 #[.int .i64 14,.slice (some ⟨b,off,none⟩) 2 cap] w (gq (ax 14 [x,y]) w):=by
 have HR:Hid (ax 14 [x,y]=ax 14 [x,y]):=zh rfl;generalize hR:ax 14 [x,y]=R at HR ⊢;exact gz2
theorem MJ(x y:Int)(b off cap:Nat)(w:World)(c0:w.cell? ⟨b,off,none⟩=some (.int .i64 x))(c1:w.cell? ⟨b,off+1,none⟩=some (.int .i64 y))(hX:1<=x/\1<=y):Calls prog 139 #[.int .i64 15,.slice (some ⟨b,off,none⟩) 2 cap] w (gq (ax 15 [x,y]) w):=by
 have HR:Hid (ax 15 [x,y]=ax 15 [x,y]):=zh rfl;generalize hR:ax 15 [x,y]=R at HR ⊢;exact gz2
theorem MI(x y:Int)(b off cap:Nat)(w:World)(c0:w.cell? ⟨b,off,none⟩=some (.int .i64 x))(c1:w.cell? ⟨b,off+1,none⟩=some (.int .i64 y))(hX:1<=x/\1<=y):Calls prog 139 #[.int .i64 16,.slice (some ⟨b,off,none⟩) 2 cap] w (gq (ax 16 [x,y]) w):=by
 have HR:Hid (ax 16 [x,y]=ax 16 [x,y]):=zh rfl;generalize hR:ax 16 [x,y]=R at HR ⊢;exact gz2
theorem MH(x y:Int)(b off cap:Nat)(w:World)(c0:w.cell? ⟨b,off,none⟩=some (.int .i64 x))(c1:w.cell? ⟨b,off+1,none⟩=some (.int .i64 y))(hX:1<=x/\1<=y):Calls prog 139 #[.int .i64 17,.slice (some ⟨b,off,none⟩) 2 cap] w (gq (ax 17 [x,y]) w):=by
 have HR:Hid (ax 17 [x,y]=ax 17 [x,y]):=zh rfl;generalize hR:ax 17 [x,y]=R at HR ⊢;exact PG
theorem MG(x y:Int)(b off cap:Nat)(w:World)(c0:w.cell? ⟨b,off,none⟩=some (.int .i64 x))(c1:w.cell? ⟨b,off+1,none⟩=some (.int .i64 y))(hX:1<=x/\1<=y):Calls prog 139 #[.int .i64 18,.slice (some ⟨b,off,none⟩) 2 cap] w (gq (ax 18 [x,y]) w):=by
 have HR:Hid (ax 18 [x,y]=ax 18 [x,y]):=zh rfl;generalize hR:ax 18 [x,y]=R at HR ⊢;exact PG
theorem MF(x y:Int)(b off cap:Nat)(w:World)(c0:w.cell? ⟨b,off,none⟩=some (.int .i64 x))(c1:w.cell? ⟨b,off+1,none⟩=some (.int .i64 y))(hX:1<=x/\1<=y):Calls prog 139 #[.int .i64 19,.slice (some ⟨b,off,none⟩) 2 cap] w (gq (ax 19 [x,y]) w):=by
 have HR:Hid (ax 19 [x,y]=ax 19 [x,y]):=zh rfl;generalize hR:ax 19 [x,y]=R at HR ⊢;exact gz2
theorem ME(x y:Int)(b off cap:Nat)(w:World)(c0:w.cell? ⟨b,off,none⟩=some (.int .i64 x))(c1:w.cell? ⟨b,off+1,none⟩=some (.int .i64 y))(hX:1<=x/\1<=y):Calls prog 139 #[.int .i64 20,.slice (some ⟨b,off,none⟩) 2 cap] w (gq (ax 20 [x,y]) w):=by
 have HR:Hid (ax 20 [x,y]=ax 20 [x,y]):=zh rfl;generalize hR:ax 20 [x,y]=R at HR ⊢;exact gz2
theorem MC(x y z:Int)(b off cap:Nat)(w:World)(c0:w.cell? ⟨b,off,none⟩=some (.int .i64 x))(c1:w.cell? ⟨b,off+1,none⟩=some (.int .i64 y))(c2:w.cell? ⟨b,off+2,none⟩=some (.int .i64 z))(hX:1<=x/\1<=y/\1<=z):Calls prog 139 #[.int .i64 21,.slice (some ⟨b,off,none⟩) 3 cap] w (gq (ax 21 [x,y,z]) w):=by
 have HR:Hid (ax 21 [x,y,z]=ax 21 [x,y,z]):=zh rfl;generalize hR:ax 21 [x,y,z]=R at HR ⊢;exact PG
theorem OZ(x:Int)(b off cap:Nat)(w:World)(c0:w.cell? ⟨b,off,none⟩=some (.int .i64 x))(hX:1<=x):Calls prog 148 #[.int .i64 4,.slice (some ⟨b,off,none⟩) 1 cap] w (fJ (ax 4 [x]) w):=by
 have HR:Hid (ax 4 [x]=ax 4 [x]):=zh rfl;generalize hR:ax 4 [x]=R at HR ⊢;exact Pw
theorem OY(x:Int)(b off cap:Nat)(w:World)(c0:w.cell? ⟨b,off,none⟩=some (.int .i64 x))(hX:1<=x):Calls prog 148 #[.int .i64 5,.slice (some ⟨b,off,none⟩) 1 cap] w (fJ (ax 5 [x]) w):=by
 have HR:Hid (ax 5 [x]=ax 5 [x]):=zh rfl;generalize hR:ax 5 [x]=R at HR ⊢;exact Pw
theorem OX(x:Int)(b off cap:Nat)(w:World)(c0:w.cell? ⟨b,off,none⟩=some (.int .i64 x))(hX:1<=x):Calls prog 148 #[.int .i64 6,.slice (some ⟨b,off,none⟩) 1 cap] w (fJ (ax 6 [x]) w):=by
 have HR:Hid (ax 6 [x]=ax 6 [x]):=zh rfl;generalize hR:ax 6 [x]=R at HR ⊢;exact Pw
theorem OW(x y:Int)(b off cap:Nat)(w:World)(c0:w.cell? ⟨b,off,none⟩=some (.int .i64 x))(c1:w.cell? ⟨b,off+1,none⟩=some (.int .i64 y))(hX:1<=x/\1<=y):Calls prog 148 #[.int .i64 7,.slice (some ⟨b,off,none⟩) 2 cap] w (fJ (ax 7 [x,y]) w):=by
 have HR:Hid (ax 7 [x,y]=ax 7 [x,y]):=zh rfl;generalize hR:ax 7 [x,y]=R at HR ⊢;exact gz3
theorem OV(x y:Int)(b off cap:Nat)(w:World)(c0:w.cell? ⟨b,off,none⟩=some (.int .i64 x))(c1:w.cell? ⟨b,off+1,none⟩=some (.int .i64 y))(hX:1<=x/\1<=y):Calls prog 148 #[.int .i64 8,.slice (some ⟨b,off,none⟩) 2 cap] w (fJ (ax 8 [x,y]) w):=by
 have HR:Hid (ax 8 [x,y]=ax 8 [x,y]):=zh rfl;generalize hR:ax 8 [x,y]=R at HR ⊢;exact gz3
theorem OU(x y:Int)(b off cap:Nat)(w:World)(c0:w.cell? ⟨b,off,none⟩=some (.int .i64 x))(c1:w.cell? ⟨b,off+1,none⟩=some (.int .i64 y))(hX:1<=x/\1<=y):Calls prog 148 #[.int .i64 9,.slice (some ⟨b,off,none⟩) 2 cap] w (fJ (ax 9 [x,y]) w):=by
 have HR:Hid (ax 9 [x,y]=ax 9 [x,y]):=zh rfl;generalize hR:ax 9 [x,y]=R at HR ⊢;clear HR;have HR:=zh hR;have HX:=zh hX;clear hR hX
 go_enter func148,ntmps148
 by_cases e1:x=2
 focus
  subst e1
 rotate_left
 focus
  have f1:(x==2)=false:=by simpa using e1
  have g1:(2==x)=false:=by simpa using fun h=>e1 h.symm
 rotate_left
 all_goals
  by_cases e2:y=2
  focus
   subst e2
  rotate_left
  focus
   have f2:(y==2)=false:=by simpa using e2
   have g2:(2==y)=false:=by simpa using fun h=>e2 h.symm
  rotate_left
  all_goals
   exact gz1
theorem MB(x y:Int)(b off cap:Nat)(w:World)(c0:w.cell? ⟨b,off,none⟩=some (.int .i64 x))(c1:w.cell? ⟨b,off+1,none⟩=some (.int .i64 y))(hX:1<=x/\1<=y):Calls prog 148 #[.int .i64 10,.slice (some ⟨b,off,none⟩) 2 cap] w (fJ (ax 10 [x,y]) w):=by
 have HR:Hid (ax 10 [x,y]=ax 10 [x,y]):=zh rfl;generalize hR:ax 10 [x,y]=R at HR ⊢;clear HR;have HR:=zh hR;have HX:=zh hX;clear hR hX
 go_enter func148,ntmps148
 by_cases e1:y=2
 ·subst e1;by_cases e2:x=2
  focus
   subst e2
  rotate_left
  focus
   have f2:(x==2)=false:=by simpa using e2
   have g2:(2==x)=false:=by simpa using fun h=>e2 h.symm
  rotate_left
  all_goals
   exact gz1
 ·have f1:(y==2)=false:=by simpa using e1
  have g1:(2==y)=false:=by simpa using fun h=>e1 h.symm
  by_cases e2:x=y
  focus
   subst e2
  rotate_left
  focus
   have f2:(x==y)=false:=by simpa using e2
   have g2:(y==x)=false:=by simpa using fun h=>e2 h.symm
  rotate_left
  all_goals
   exact gz1
theorem Mx(x y:Int)(b off cap:Nat)(w:World)(c0:w.cell? ⟨b,off,none⟩=some (.int .i64 x))(c1:w.cell? ⟨b,off+1,none⟩=some (.int .i64 y))(hX:1<=x/\1<=y):Calls prog 148 #[.int .i64 11,.slice (some ⟨b,off,none⟩) 2 cap] w (fJ (ax 11 [x,y]) w):=by
 have HR:Hid (ax 11 [x,y]=ax 11 [x,y]):=zh rfl;generalize hR:ax 11 [x,y]=R at HR ⊢;exact gz3
theorem Mw(x y:Int)(b off cap:Nat)(w:World)(c0:w.cell? ⟨b,off,none⟩=some (.int .i64 x))(c1:w.cell? ⟨b,off+1,none⟩=some (.int .i64 y))(hX:1<=x/\1<=y):Calls prog 148 #[.int .i64 12,.slice (some ⟨b,off,none⟩) 2 cap] w (fJ (ax 12 [x,y]) w):=by
 have HR:Hid (ax 12 [x,y]=ax 12 [x,y]):=zh rfl;generalize hR:ax 12 [x,y]=R at HR ⊢;exact gz3
theorem Mv(x y:Int)(b off cap:Nat)(w:World)(c0:w.cell? ⟨b,off,none⟩=some (.int .i64 x))(c1:w.cell? ⟨b,off+1,none⟩=some (.int .i64 y))(hX:1<=x/\1<=y):Calls prog 148 #[.int .i64 13,.slice (some ⟨b,off,none⟩) 2 cap] w (fJ (ax 13 [x,y]) w):=by
 have HR:Hid (ax 13 [x,y]=ax 13 [x,y]):=zh rfl;generalize hR:ax 13 [x,y]=R at HR ⊢;exact gz3
theorem Mt(x y:Int)(b off cap:Nat)(w:World)(c0:w.cell? ⟨b,off,none⟩=some (.int .i64 x))(c1:w.cell? ⟨b,off+1,none⟩=some (.int .i64 y))(hX:1<=x/\1<=y):Calls prog 148 #[.int .i64 14,.slice (some ⟨b,off,none⟩) 2 cap] w (fJ (ax 14 [x,y]) w):=by
 have HR:Hid (ax 14 [x,y]=ax 14 [x,y]):=zh rfl;generalize hR:ax 14 [x,y]=R at HR ⊢;exact gz3
theorem Ms(x y:Int)(b off cap:Nat)(w:World)(c0:w.cell? ⟨b,off,none⟩=some (.int .i64 x))(c1:w.cell? ⟨b,off+1,none⟩=some (.int .i64 y))(hX:1<=x/\1<=y):Calls prog 148 #[.int .i64 15,.slice (some ⟨b,off,none⟩) 2 cap] w (fJ (ax 15 [x,y]) w):=by
 have HR:Hid (ax 15 [x,y]=ax 15 [x,y]):=zh rfl;generalize hR:ax 15 [x,y]=R at HR ⊢;exact gz3
theorem Mr(x y:Int)(b off cap:Nat)(w:World)(c0:w.cell? ⟨b,off,none⟩=some (.int .i64 x))(c1:w.cell? ⟨b,off+1,none⟩=some (.int .i64 y))(hX:1<=x/\1<=y):Calls prog 148 #[.int .i64 16,.slice (some ⟨b,off,none⟩) 2 cap] w (fJ (ax 16 [x,y]) w):=by
 have HR:Hid (ax 16 [x,y]=ax 16 [x,y]):=zh rfl;generalize hR:ax 16 [x,y]=R at HR ⊢;exact gz3
theorem Mq(x y:Int)(b off cap:Nat)(w:World)(c0:w.cell? ⟨b,off,none⟩=some (.int .i64 x))(c1:w.cell? ⟨b,off+1,none⟩=some (.int .i64 y))(hX:1<=x/\1<=y):Calls prog 148 #[.int .i64 17,.slice (some ⟨b,off,none⟩) 2 cap] w (fJ (ax 17 [x,y]) w):=by
 have HR:Hid (ax 17 [x,y]=ax 17 [x,y]):=zh rfl;generalize hR:ax 17 [x,y]=R at HR ⊢;exact PE
theorem Mo(x y:Int)(b off cap:Nat)(w:World)(c0:w.cell? ⟨b,off,none⟩=some (.int .i64 x))(c1:w.cell? ⟨b,off+1,none⟩=some (.int .i64 y))(hX:1<=x/\1<=y):Calls prog 148 #[.int .i64 18,.slice (some ⟨b,off,none⟩) 2 cap] w (fJ (ax 18 [x,y]) w):=by
 have HR:Hid (ax 18 [x,y]=ax 18 [x,y]):=zh rfl;generalize hR:ax 18 [x,y]=R at HR ⊢;exact PE
theorem Mm(x y:Int)(b off cap:Nat)(w:World)(c0:w.cell? ⟨b,off,none⟩=some (.int .i64 x))(c1:w.cell? ⟨b,off+1,none⟩=some (.int .i64 y))(hX:1<=x/\1<=y):Calls prog 148 #[.int .i64 19,.slice (some ⟨b,off,none⟩) 2 cap] w (fJ (ax 19 [x,y]) w):=by
 have HR:Hid (ax 19 [x,y]=ax 19 [x,y]):=zh rfl;generalize hR:ax 19 [x,y]=R at HR ⊢;exact gz3
theorem Ml(x y:Int)(b off cap:Nat)(w:World)(c0:w.cell? ⟨b,off,none⟩=some (.int .i64 x))(c1:w.cell? ⟨b,off+1,none⟩=some (.int .i64 y))(hX:1<=x/\1<=y):Calls prog 148 #[.int .i64 20,.slice (some ⟨b,off,none⟩) 2 cap] w (fJ (ax 20 [x,y]) w):=by
 have HR:Hid (ax 20 [x,y]=ax 20 [x,y]):=zh rfl;generalize hR:ax 20 [x,y]=R at HR ⊢;exact gz3
theorem Mk(x y z:Int)(b off cap:Nat)(w:World)(c0:w.cell? ⟨b,off,none⟩=some (.int .i64 x))(c1:w.cell? ⟨b,off+1,none⟩=some (.int .i64 y))(c2:w.cell? ⟨b,off+2,none⟩=some (.int .i64 z))(hX:1<=x/\1<=y/\1<=z):Calls prog 148 #[.int .i64 21,.slice (some ⟨b,off,none⟩) 3 cap] w (fJ (ax 21 [x,y,z]) w):=by
 have HR:Hid (ax 21 [x,y,z]=ax 21 [x,y,z]):=zh rfl;generalize hR:ax 21 [x,y,z]=R at HR ⊢;exact PE
end Go.Proofs.YtlheailebbngiaaGreatDoor
