import Derived.Test.YtlheailebbngiaaGreatDoorREvP
set_option linter.all false
set_option maxHeartbeats 16000000
set_option maxRecDepth 1000000
namespace Go.Proofs.YtlheailebbngiaaGreatDoor
open Tryz List
open Go.RowKit
theorem jT(s:ByteArray)(w:World):Calls prog 47 #[.string s] w fun e w'=>e= .returned (.tuple #[.int .i64 (bV s.toList),.bool (decide (bV s.toList≠0))])/\w=w':=by
 go_enter func47,ntmps47
 exact QM
theorem ret_int{a b:Int}(h:a=b):Ending.returned (.int .i64 a)= .returned (.int .i64 b):=by rw [h]
def gq(r:Int)(w:World)(e:Ending)(w':World):Prop:=(∃m,e= .returned (.tuple #[.int .i64 m,.bool (decide (r≠0))])/\(r≠0->m=r))/\w.Grows w'
def fM(r:Int)(w:World)(e:Ending)(w':World):Prop:=e= .returned (.int .i64 r)/\w.Grows w'
theorem Q8{m r:Int}{q:Bool}{w w':World}(h1:q=decide (r≠0))(h2:r≠0->m=r)(hg:w.Grows w'):gq r w (.returned (.tuple #[.int .i64 m,.bool q])) w':=⟨⟨m,by rw [h1],h2⟩,hg⟩
theorem Q7{m r:Int}{w w':World}(h:m=r)(hg:w.Grows w'):fM r w (.returned (.int .i64 m)) w':=⟨by rw [h],hg⟩

theorem PU(x:Int)(b off cap:Nat)(w:World)(c0:w.cell? ⟨b,off,none⟩=some (.int .i64 x))(hX:1<=x):Calls prog 139 #[.int .i64 4,.slice (some ⟨b,off,none⟩) 1 cap] w (gq (ax 4 [x]) w):=by
 have HR:Hid (ax 4 [x]=ax 4 [x]):=zh rfl;generalize hR:ax 4 [x]=R at HR ⊢;exact Px
theorem PT(x:Int)(b off cap:Nat)(w:World)(c0:w.cell? ⟨b,off,none⟩=some (.int .i64 x))(hX:1<=x):Calls prog 139 #[.int .i64 5,.slice (some ⟨b,off,none⟩) 1 cap] w (gq (ax 5 [x]) w):=by
 have HR:Hid (ax 5 [x]=ax 5 [x]):=zh rfl;generalize hR:ax 5 [x]=R at HR ⊢;exact Px
theorem PS(x:Int)(b off cap:Nat)(w:World)(c0:w.cell? ⟨b,off,none⟩=some (.int .i64 x))(hX:1<=x):Calls prog 139 #[.int .i64 6,.slice (some ⟨b,off,none⟩) 1 cap] w (gq (ax 6 [x]) w):=by
 have HR:Hid (ax 6 [x]=ax 6 [x]):=zh rfl;generalize hR:ax 6 [x]=R at HR ⊢;exact Px
theorem PR(x y:Int)(b off cap:Nat)(w:World)(c0:w.cell? ⟨b,off,none⟩=some (.int .i64 x))(c1:w.cell? ⟨b,off+1,none⟩=some (.int .i64 y))(hX:1<=x/\1<=y):Calls prog 139 #[.int .i64 7,.slice (some ⟨b,off,none⟩) 2 cap] w (gq (ax 7 [x,y]) w):=by
 have HR:Hid (ax 7 [x,y]=ax 7 [x,y]):=zh rfl;generalize hR:ax 7 [x,y]=R at HR ⊢;exact rz2
theorem PQ(x y:Int)(b off cap:Nat)(w:World)(c0:w.cell? ⟨b,off,none⟩=some (.int .i64 x))(c1:w.cell? ⟨b,off+1,none⟩=some (.int .i64 y))(hX:1<=x/\1<=y):Calls prog 139 #[.int .i64 8,.slice (some ⟨b,off,none⟩) 2 cap] w (gq (ax 8 [x,y]) w):=by
 have HR:Hid (ax 8 [x,y]=ax 8 [x,y]):=zh rfl;generalize hR:ax 8 [x,y]=R at HR ⊢;exact rz2
theorem PP(x y:Int)(b off cap:Nat)(w:World)(c0:w.cell? ⟨b,off,none⟩=some (.int .i64 x))(c1:w.cell? ⟨b,off+1,none⟩=some (.int .i64 y))(hX:1<=x/\1<=y):Calls prog 139 #[.int .i64 9,.slice (some ⟨b,off,none⟩) 2 cap] w (gq (ax 9 [x,y]) w):=by
 have HR:Hid (ax 9 [x,y]=ax 9 [x,y]):=zh rfl;generalize hR:ax 9 [x,y]=R at HR ⊢;clear HR;have HR:=zh hR;have HX:=zh hX;clear hR hX
 go_enter func139,ntmps139
 by_cases e1:x=2
 focus
  subst e1
 rotate_left
 focus
  have f1:(x==2)=false:=by simpa using e1
  have g1:(2==x)=false:=by simpa using fun h=>e1 h.symm
 rotate_left
 all_goals
  by_cases e2:y=2
  focus
   subst e2
  rotate_left
  focus
   have f2:(y==2)=false:=by simpa using e2
   have g2:(2==y)=false:=by simpa using fun h=>e2 h.symm
  rotate_left
  all_goals
   exact rz0
theorem Nn(x y:Int)(b off cap:Nat)(w:World)(c0:w.cell? ⟨b,off,none⟩=some (.int .i64 x))(c1:w.cell? ⟨b,off+1,none⟩=some (.int .i64 y))(hX:1<=x/\1<=y):Calls prog 139 #[.int .i64 10,.slice (some ⟨b,off,none⟩) 2 cap] w (gq (ax 10 [x,y]) w):=by
 have HR:Hid (ax 10 [x,y]=ax 10 [x,y]):=zh rfl;generalize hR:ax 10 [x,y]=R at HR ⊢;clear HR;have HR:=zh hR;have HX:=zh hX;clear hR hX
 go_enter func139,ntmps139
 by_cases e1:y=2
 ·subst e1;by_cases e2:x=2
  focus
   subst e2
  rotate_left
  focus
   have f2:(x==2)=false:=by simpa using e2
   have g2:(2==x)=false:=by simpa using fun h=>e2 h.symm
  rotate_left
  all_goals
   exact rz0
 ·have f1:(y==2)=false:=by simpa using e1
  have g1:(2==y)=false:=by simpa using fun h=>e1 h.symm
  by_cases e2:x=y
  focus
   subst e2
  rotate_left
  focus
   have f2:(x==y)=false:=by simpa using e2
   have g2:(y==x)=false:=by simpa using fun h=>e2 h.symm
  rotate_left
  all_goals
   exact rz0
theorem Nl(x y:Int)(b off cap:Nat)(w:World)(c0:w.cell? ⟨b,off,none⟩=some (.int .i64 x))(c1:w.cell? ⟨b,off+1,none⟩=some (.int .i64 y))(hX:1<=x/\1<=y):Calls prog 139 #[.int .i64 11,.slice (some ⟨b,off,none⟩) 2 cap] w (gq (ax 11 [x,y]) w):=by
 have HR:Hid (ax 11 [x,y]=ax 11 [x,y]):=zh rfl;generalize hR:ax 11 [x,y]=R at HR ⊢;exact rz2
theorem Nk(x y:Int)(b off cap:Nat)(w:World)(c0:w.cell? ⟨b,off,none⟩=some (.int .i64 x))(c1:w.cell? ⟨b,off+1,none⟩=some (.int .i64 y))(hX:1<=x/\1<=y):Calls prog 139 #[.int .i64 12,.slice (some ⟨b,off,none⟩) 2 cap] w (gq (ax 12 [x,y]) w):=by
 have HR:Hid (ax 12 [x,y]=ax 12 [x,y]):=zh rfl;generalize hR:ax 12 [x,y]=R at HR ⊢;exact rz2
theorem Nj(x y:Int)(b off cap:Nat)(w:World)(c0:w.cell? ⟨b,off,none⟩=some (.int .i64 x))(c1:w.cell? ⟨b,off+1,none⟩=some (.int .i64 y))(hX:1<=x/\1<=y):Calls prog 139 #[.int .i64 13,.slice (some ⟨b,off,none⟩) 2 cap] w (gq (ax 13 [x,y]) w):=by
 have HR:Hid (ax 13 [x,y]=ax 13 [x,y]):=zh rfl;generalize hR:ax 13 [x,y]=R at HR ⊢;exact rz2
theorem Ni(x y:Int)(b off cap:Nat)(w:World)(c0:w.cell? ⟨b,off,none⟩=some (.int .i64 x))(c1:w.cell? ⟨b,off+1,none⟩=some (.int .i64 y))(hX:1<=x/\1<=y):Calls prog 139 #[.int .i64 14,.slice (some ⟨b,off,none⟩) 2 cap] w (gq (ax 14 [x,y]) w):=by
 have HR:Hid (ax 14 [x,y]=ax 14 [x,y]):=zh rfl;generalize hR:ax 14 [x,y]=R at HR ⊢;exact rz2
theorem Nh(x y:Int)(b off cap:Nat)(w:World)(c0:w.cell? ⟨b,off,none⟩=some (.int .i64 x))(c1:w.cell? ⟨b,off+1,none⟩=some (.int .i64 y))(hX:1<=x/\1<=y):Calls prog 139 #[.int .i64 15,.slice (some ⟨b,off,none⟩) 2 cap] w (gq (ax 15 [x,y]) w):=by
 have HR:Hid (ax 15 [x,y]=ax 15 [x,y]):=zh rfl;generalize hR:ax 15 [x,y]=R at HR ⊢;exact rz2
theorem Ng(x y:Int)(b off cap:Nat)(w:World)(c0:w.cell? ⟨b,off,none⟩=some (.int .i64 x))(c1:w.cell? ⟨b,off+1,none⟩=some (.int .i64 y))(hX:1<=x/\1<=y):Calls prog 139 #[.int .i64 16,.slice (some ⟨b,off,none⟩) 2 cap] w (gq (ax 16 [x,y]) w):=by
 have HR:Hid (ax 16 [x,y]=ax 16 [x,y]):=zh rfl;generalize hR:ax 16 [x,y]=R at HR ⊢;exact rz2
theorem Nf(x y:Int)(b off cap:Nat)(w:World)(c0:w.cell? ⟨b,off,none⟩=some (.int .i64 x))(c1:w.cell? ⟨b,off+1,none⟩=some (.int .i64 y))(hX:1<=x/\1<=y):Calls prog 139 #[.int .i64 17,.slice (some ⟨b,off,none⟩) 2 cap] w (gq (ax 17 [x,y]) w):=by
 have HR:Hid (ax 17 [x,y]=ax 17 [x,y]):=zh rfl;generalize hR:ax 17 [x,y]=R at HR ⊢;exact PG
theorem Nc(x y:Int)(b off cap:Nat)(w:World)(c0:w.cell? ⟨b,off,none⟩=some (.int .i64 x))(c1:w.cell? ⟨b,off+1,none⟩=some (.int .i64 y))(hX:1<=x/\1<=y):Calls prog 139 #[.int .i64 18,.slice (some ⟨b,off,none⟩) 2 cap] w (gq (ax 18 [x,y]) w):=by
 have HR:Hid (ax 18 [x,y]=ax 18 [x,y]):=zh rfl;generalize hR:ax 18 [x,y]=R at HR ⊢;exact PG
theorem Nb(x y:Int)(b off cap:Nat)(w:World)(c0:w.cell? ⟨b,off,none⟩=some (.int .i64 x))(c1:w.cell? ⟨b,off+1,none⟩=some (.int .i64 y))(hX:1<=x/\1<=y):Calls prog 139 #[.int .i64 19,.slice (some ⟨b,off,none⟩) 2 cap] w (gq (ax 19 [x,y]) w):=by
 have HR:Hid (ax 19 [x,y]=ax 19 [x,y]):=zh rfl;generalize hR:ax 19 [x,y]=R at HR ⊢;exact rz2
theorem Na(x y:Int)(b off cap:Nat)(w:World)(c0:w.cell? ⟨b,off,none⟩=some (.int .i64 x))(c1:w.cell? ⟨b,off+1,none⟩=some (.int .i64 y))(hX:1<=x/\1<=y):Calls prog 139 #[.int .i64 20,.slice (some ⟨b,off,none⟩) 2 cap] w (gq (ax 20 [x,y]) w):=by
 have HR:Hid (ax 20 [x,y]=ax 20 [x,y]):=zh rfl;generalize hR:ax 20 [x,y]=R at HR ⊢;exact rz2
theorem M9(x y z:Int)(b off cap:Nat)(w:World)(c0:w.cell? ⟨b,off,none⟩=some (.int .i64 x))(c1:w.cell? ⟨b,off+1,none⟩=some (.int .i64 y))(c2:w.cell? ⟨b,off+2,none⟩=some (.int .i64 z))(hX:1<=x/\1<=y/\1<=z):Calls prog 139 #[.int .i64 21,.slice (some ⟨b,off,none⟩) 3 cap] w (gq (ax 21 [x,y,z]) w):=by
 have HR:Hid (ax 21 [x,y,z]=ax 21 [x,y,z]):=zh rfl;generalize hR:ax 21 [x,y,z]=R at HR ⊢;exact PG
theorem PO(x:Int)(b off cap:Nat)(w:World)(c0:w.cell? ⟨b,off,none⟩=some (.int .i64 x))(hX:1<=x):Calls prog 148 #[.int .i64 4,.slice (some ⟨b,off,none⟩) 1 cap] w (fM (ax 4 [x]) w):=by
 have HR:Hid (ax 4 [x]=ax 4 [x]):=zh rfl;generalize hR:ax 4 [x]=R at HR ⊢;exact Pw
theorem PN(x:Int)(b off cap:Nat)(w:World)(c0:w.cell? ⟨b,off,none⟩=some (.int .i64 x))(hX:1<=x):Calls prog 148 #[.int .i64 5,.slice (some ⟨b,off,none⟩) 1 cap] w (fM (ax 5 [x]) w):=by
 have HR:Hid (ax 5 [x]=ax 5 [x]):=zh rfl;generalize hR:ax 5 [x]=R at HR ⊢;exact Pw
theorem PM(x:Int)(b off cap:Nat)(w:World)(c0:w.cell? ⟨b,off,none⟩=some (.int .i64 x))(hX:1<=x):Calls prog 148 #[.int .i64 6,.slice (some ⟨b,off,none⟩) 1 cap] w (fM (ax 6 [x]) w):=by
 have HR:Hid (ax 6 [x]=ax 6 [x]):=zh rfl;generalize hR:ax 6 [x]=R at HR ⊢;exact Pw
theorem PL(x y:Int)(b off cap:Nat)(w:World)(c0:w.cell? ⟨b,off,none⟩=some (.int .i64 x))(c1:w.cell? ⟨b,off+1,none⟩=some (.int .i64 y))(hX:1<=x/\1<=y):Calls prog 148 #[.int .i64 7,.slice (some ⟨b,off,none⟩) 2 cap] w (fM (ax 7 [x,y]) w):=by
 have HR:Hid (ax 7 [x,y]=ax 7 [x,y]):=zh rfl;generalize hR:ax 7 [x,y]=R at HR ⊢;exact rz3
theorem PK(x y:Int)(b off cap:Nat)(w:World)(c0:w.cell? ⟨b,off,none⟩=some (.int .i64 x))(c1:w.cell? ⟨b,off+1,none⟩=some (.int .i64 y))(hX:1<=x/\1<=y):Calls prog 148 #[.int .i64 8,.slice (some ⟨b,off,none⟩) 2 cap] w (fM (ax 8 [x,y]) w):=by
 have HR:Hid (ax 8 [x,y]=ax 8 [x,y]):=zh rfl;generalize hR:ax 8 [x,y]=R at HR ⊢;exact rz3
theorem PI(x y:Int)(b off cap:Nat)(w:World)(c0:w.cell? ⟨b,off,none⟩=some (.int .i64 x))(c1:w.cell? ⟨b,off+1,none⟩=some (.int .i64 y))(hX:1<=x/\1<=y):Calls prog 148 #[.int .i64 9,.slice (some ⟨b,off,none⟩) 2 cap] w (fM (ax 9 [x,y]) w):=by
 have HR:Hid (ax 9 [x,y]=ax 9 [x,y]):=zh rfl;generalize hR:ax 9 [x,y]=R at HR ⊢;clear HR;have HR:=zh hR;have HX:=zh hX;clear hR hX
 go_enter func148,ntmps148
 by_cases e1:x=2
 focus
  subst e1
 rotate_left
 focus
  have f1:(x==2)=false:=by simpa using e1
  have g1:(2==x)=false:=by simpa using fun h=>e1 h.symm
 rotate_left
 all_goals
  by_cases e2:y=2
  focus
   subst e2
  rotate_left
  focus
   have f2:(y==2)=false:=by simpa using e2
   have g2:(2==y)=false:=by simpa using fun h=>e2 h.symm
  rotate_left
  all_goals
   exact rz1
theorem M8(x y:Int)(b off cap:Nat)(w:World)(c0:w.cell? ⟨b,off,none⟩=some (.int .i64 x))(c1:w.cell? ⟨b,off+1,none⟩=some (.int .i64 y))(hX:1<=x/\1<=y):Calls prog 148 #[.int .i64 10,.slice (some ⟨b,off,none⟩) 2 cap] w (fM (ax 10 [x,y]) w):=by
 have HR:Hid (ax 10 [x,y]=ax 10 [x,y]):=zh rfl;generalize hR:ax 10 [x,y]=R at HR ⊢;clear HR;have HR:=zh hR;have HX:=zh hX;clear hR hX
 go_enter func148,ntmps148
 by_cases e1:y=2
 ·subst e1;by_cases e2:x=2
  focus
   subst e2
  rotate_left
  focus
   have f2:(x==2)=false:=by simpa using e2
   have g2:(2==x)=false:=by simpa using fun h=>e2 h.symm
  rotate_left
  all_goals
   exact rz1
 ·have f1:(y==2)=false:=by simpa using e1
  have g1:(2==y)=false:=by simpa using fun h=>e1 h.symm
  by_cases e2:x=y
  focus
   subst e2
  rotate_left
  focus
   have f2:(x==y)=false:=by simpa using e2
   have g2:(y==x)=false:=by simpa using fun h=>e2 h.symm
  rotate_left
  all_goals
   exact rz1
theorem M7(x y:Int)(b off cap:Nat)(w:World)(c0:w.cell? ⟨b,off,none⟩=some (.int .i64 x))(c1:w.cell? ⟨b,off+1,none⟩=some (.int .i64 y))(hX:1<=x/\1<=y):Calls prog 148 #[.int .i64 11,.slice (some ⟨b,off,none⟩) 2 cap] w (fM (ax 11 [x,y]) w):=by
 have HR:Hid (ax 11 [x,y]=ax 11 [x,y]):=zh rfl;generalize hR:ax 11 [x,y]=R at HR ⊢;exact rz3
theorem M5(x y:Int)(b off cap:Nat)(w:World)(c0:w.cell? ⟨b,off,none⟩=some (.int .i64 x))(c1:w.cell? ⟨b,off+1,none⟩=some (.int .i64 y))(hX:1<=x/\1<=y):Calls prog 148 #[.int .i64 12,.slice (some ⟨b,off,none⟩) 2 cap] w (fM (ax 12 [x,y]) w):=by
 have HR:Hid (ax 12 [x,y]=ax 12 [x,y]):=zh rfl;generalize hR:ax 12 [x,y]=R at HR ⊢;exact rz3
theorem M4(x y:Int)(b off cap:Nat)(w:World)(c0:w.cell? ⟨b,off,none⟩=some (.int .i64 x))(c1:w.cell? ⟨b,off+1,none⟩=some (.int .i64 y))(hX:1<=x/\1<=y):Calls prog 148 #[.int .i64 13,.slice (some ⟨b,off,none⟩) 2 cap] w (fM (ax 13 [x,y]) w):=by
 have HR:Hid (ax 13 [x,y]=ax 13 [x,y]):=zh rfl;generalize hR:ax 13 [x,y]=R at HR ⊢;exact rz3
theorem M3(x y:Int)(b off cap:Nat)(w:World)(c0:w.cell? ⟨b,off,none⟩=some (.int .i64 x))(c1:w.cell? ⟨b,off+1,none⟩=some (.int .i64 y))(hX:1<=x/\1<=y):Calls prog 148 #[.int .i64 14,.slice (some ⟨b,off,none⟩) 2 cap] w (fM (ax 14 [x,y]) w):=by
 have HR:Hid (ax 14 [x,y]=ax 14 [x,y]):=zh rfl;generalize hR:ax 14 [x,y]=R at HR ⊢;exact rz3
theorem M0(x y:Int)(b off cap:Nat)(w:World)(c0:w.cell? ⟨b,off,none⟩=some (.int .i64 x))(c1:w.cell? ⟨b,off+1,none⟩=some (.int .i64 y))(hX:1<=x/\1<=y):Calls prog 148 #[.int .i64 15,.slice (some ⟨b,off,none⟩) 2 cap] w (fM (ax 15 [x,y]) w):=by
 have HR:Hid (ax 15 [x,y]=ax 15 [x,y]):=zh rfl;generalize hR:ax 15 [x,y]=R at HR ⊢;exact rz3
theorem MZ(x y:Int)(b off cap:Nat)(w:World)(c0:w.cell? ⟨b,off,none⟩=some (.int .i64 x))(c1:w.cell? ⟨b,off+1,none⟩=some (.int .i64 y))(hX:1<=x/\1<=y):Calls prog 148 #[.int .i64 16,.slice (some ⟨b,off,none⟩) 2 cap] w (fM (ax 16 [x,y]) w):=by
 have HR:Hid (ax 16 [x,y]=ax 16 [x,y]):=zh rfl;generalize hR:ax 16 [x,y]=R at HR ⊢;exact rz3
theorem MX(x y:Int)(b off cap:Nat)(w:World)(c0:w.cell? ⟨b,off,none⟩=some (.int .i64 x))(c1:w.cell? ⟨b,off+1,none⟩=some (.int .i64 y))(hX:1<=x/\1<=y):Calls prog 148 #[.int .i64 17,.slice (some ⟨b,off,none⟩) 2 cap] w (fM (ax 17 [x,y]) w):=by
 have HR:Hid (ax 17 [x,y]=ax 17 [x,y]):=zh rfl;generalize hR:ax 17 [x,y]=R at HR ⊢;exact PE
theorem MW(x y:Int)(b off cap:Nat)(w:World)(c0:w.cell? ⟨b,off,none⟩=some (.int .i64 x))(c1:w.cell? ⟨b,off+1,none⟩=some (.int .i64 y))(hX:1<=x/\1<=y):Calls prog 148 #[.int .i64 18,.slice (some ⟨b,off,none⟩) 2 cap] w (fM (ax 18 [x,y]) w):=by
 have HR:Hid (ax 18 [x,y]=ax 18 [x,y]):=zh rfl;generalize hR:ax 18 [x,y]=R at HR ⊢;exact PE
theorem MV(x y:Int)(b off cap:Nat)(w:World)(c0:w.cell? ⟨b,off,none⟩=some (.int .i64 x))(c1:w.cell? ⟨b,off+1,none⟩=some (.int .i64 y))(hX:1<=x/\1<=y):Calls prog 148 #[.int .i64 19,.slice (some ⟨b,off,none⟩) 2 cap] w (fM (ax 19 [x,y]) w):=by
 have HR:Hid (ax 19 [x,y]=ax 19 [x,y]):=zh rfl;generalize hR:ax 19 [x,y]=R at HR ⊢;exact rz3
theorem MU(x y:Int)(b off cap:Nat)(w:World)(c0:w.cell? ⟨b,off,none⟩=some (.int .i64 x))(c1:w.cell? ⟨b,off+1,none⟩=some (.int .i64 y))(hX:1<=x/\1<=y):Calls prog 148 #[.int .i64 20,.slice (some ⟨b,off,none⟩) 2 cap] w (fM (ax 20 [x,y]) w):=by
 have HR:Hid (ax 20 [x,y]=ax 20 [x,y]):=zh rfl;generalize hR:ax 20 [x,y]=R at HR ⊢;exact rz3
theorem MS(x y z:Int)(b off cap:Nat)(w:World)(c0:w.cell? ⟨b,off,none⟩=some (.int .i64 x))(c1:w.cell? ⟨b,off+1,none⟩=some (.int .i64 y))(c2:w.cell? ⟨b,off+2,none⟩=some (.int .i64 z))(hX:1<=x/\1<=y/\1<=z):Calls prog 148 #[.int .i64 21,.slice (some ⟨b,off,none⟩) 3 cap] w (fM (ax 21 [x,y,z]) w):=by
 have HR:Hid (ax 21 [x,y,z]=ax 21 [x,y,z]):=zh rfl;generalize hR:ax 21 [x,y,z]=R at HR ⊢;exact PE
theorem MR{op:Int}{d:List Int}(h:∀x∈d,1<=x/\x<=4)(hr:ax op d≠0):1<=ax op d/\ax op d<=4:=by
 have g:∀k,d.getD k 0=0\/(1<=d.getD k 0/\d.getD k 0<=4):=fun k=>by
  by_cases hk:k<d.length
  ·rw [getD_eq_getElem?_getD,getElem?_eq_getElem hk];exact .inr (h _ (getElem_mem hk))
  ·rw [getD_eq_getElem?_getD,getElem?_eq_none ze];exact .inl rfl
 have g0:=g 0;have g1:=g 1;unfold ax at hr ⊢;dsimp only at hr ⊢;generalize d.getD 0 0=a at *;generalize d.getD 1 0=b at *;generalize d.getD 2 0=c at *;clear h g
 (repeat' split)<;>(repeat' split at hr)<;>omega
theorem Eu{env:List (ByteArray × Int)}(h:gm env=true){p:ByteArray × Int}(hp:p∈env):1<=p.2/\p.2<=4:=by
 have:=all_eq_true.1 h p hp;simpa using this
theorem Kl{α:Type}{env:List (ByteArray × α)}{s:ByteArray}{x:α}(h:dP env s=some x):∃p∈env,p.2=x:=by
 exact QL
mutual
theorem qD{env:List (ByteArray × Int)}(hE:gm env=true):∀e:Ex,aN e=true->(aD env e).2=0->1<=(aD env e).1/\(aD env e).1<=4
 | .mk op n d m s l=>by
   intro hf hi;rw [aN,Bool.and_eq_true,decide_eq_true_eq]at hf;rw [aD]at hi ⊢;obtain⟨ha,hf⟩:=hf;unfold fA at hi ⊢;by_cases c1:op=1
   ·subst c1;rw [if_pos rfl]at hf;simp only [Bool.and_eq_true]at hf;have:=Co hf.1;exact⟨by show 1<=m;omega,by show m<=4;omega⟩
   rw [if_neg c1]at hi hf ⊢;by_cases c3:op=3
   ·rw [if_pos c3];exact⟨by show(1:Int)<=4;omega,by show(4:Int)<=4;omega⟩
   rw [if_neg c3]at hi ⊢;by_cases c2:op=2
   ·rw [if_pos c2]at hi ⊢;unfold eH at hi ⊢;by_cases cd:bV s.toList≠0
    ·rw [if_pos cd];have:=Fg s.toList;exact⟨by show 1<=bV s.toList;omega,by show bV s.toList<=4;omega⟩
    ·rw [if_neg cd]at hi ⊢
     cases hl:dP env s with
     |none=>rw [hl]at hi;simp at hi
     |some x=>
      obtain⟨p,hp,rfl⟩:=Kl hl;exact Eu hE hp
   rw [if_neg c2,if_neg c3]at hf;rw [if_neg c2]at hi ⊢;simp only [Bool.and_eq_true]at hf
   split at hi<;>rename_i c4
   ·exact absurd hi c4
   rw [if_neg c4]
   split at hi<;>rename_i c5
   ·simp at hi
   rw [if_neg c5];exact MR (uI hE l hf.1 ze) c5
theorem uI{env:List (ByteArray × Int)}(hE:gm env=true):∀l:List Ex,aZ l=true->(bf env l).2=0->∀x∈(bf env l).1,1<=x/\x<=4
 | []=>by intro _ _ x hx;simp [bf]at hx
 |e::r=>by
  intro hf h x hx;rw [aZ,Bool.and_eq_true]at hf;rw [bf]at h hx
  split at h<;>rename_i c1
  ·exact absurd h c1
  split at h<;>rename_i c2
  ·exact absurd h c2
  rw [if_neg c1,if_neg c2]at hx;rcases mem_cons.1 hx with rfl|hx
  ·exact qD hE e hf.1 ze
  ·exact uI hE r hf.2 ze x hx
end
theorem uJ(env:List (ByteArray × Int)):∀(l:List Ex) (k:Nat),k<l.length->(∀j,j<k->(aD env (l.getD j default)).2=0)->(aD env (l.getD k default)).2≠0->
 (bf env l).2=(aD env (l.getD k default)).2
 | [],k,hk,_,_=>by simp at hk
 |e::r,0,_,_,h=>by
  rw [bf,if_pos zI];rfl
 |e::r,k+1,hk,hj,h=>by
  have h0:(aD env e).2=0:=hj 0 ze;have hr:=uJ env r k (by simpa using hk) (fun j hjk=>hj (j+1) ze) h;have hne:(bf env r).2≠0:=by rw [hr];exact h
  rw [bf,if_neg ze,if_pos hne];exact hr
theorem wX(env:List (ByteArray × Int)):∀l:List Ex,(∀j,j<l.length->(aD env (l.getD j default)).2=0)->bf env l=(l.map fun e=>(aD env e).1,0)
 | [],_=>by rw [bf];rfl
 |e::r,h=>by
  have h0:(aD env e).2=0:=h 0 zg;have hr:=wX env r (fun j hj=>h (j+1) (by simpa using hj));rw [bf,if_neg ze,hr,if_neg zg];rfl
theorem G7{d:List Int}(h:(d.length:Int)=1):∃x,d= [x]:=length_eq_one_iff.1 ze
theorem iA{d:List Int}(h:(d.length:Int)=2):∃x y,d= [x,y]:=by
 match d,(show d.length=2 by omega)with
 | [a,b],_=>exact⟨a,b,rfl⟩
theorem Ri{d:List Int}(h:(d.length:Int)=3):∃x y z,d= [x,y,z]:=by
 match d,(show d.length=3 by omega)with
 | [a,b,c],_=>exact⟨a,b,c,rfl⟩
theorem AQ{w:World}{base g cap:Nat}{d:List Int}(h:w.ownsRow base 3 1 (.slice (some ⟨g,0,none⟩) d.length cap) d.length (d.map (Value.int .i64)))(k:Nat)(hk:k<d.length):w.cell? ⟨g,0+k,none⟩=some (.int .i64 (d.getD k 0)):=by
 have:=World.ownsRow.cells (g:=g) h rfl k (.int .i64 (d.getD k 0)) yJ;rw [addr_add]at this;rw [Nat.zero_add];exact this
theorem JW(op:Int)(d:List Int)(base g cap:Nat)(w:World)(h4:4<=op)(h21:op<=21)(hl:(d.length:Int)=bi op)(hx:∀x∈d,1<=x)(h:w.ownsRow base 3 1 (.slice (some ⟨g,0,none⟩) d.length cap) d.length (d.map (Value.int .i64))) :
 Calls prog 139 #[.int .i64 op,.slice (some ⟨g,0,none⟩) d.length cap] w (gq (ax op d) w):=by
 have hc:=AQ h;clear h;rcases(show op=4\/op=5\/op=6\/op=7\/op=8\/op=9\/op=10\/op=11\/op=12\/op=13\/op=14\/op=15\/op=16\/op=17\/op=18\/op=19\/op=20\/op=21 by omega)with rfl|rfl|rfl|rfl|rfl|rfl|rfl|rfl|rfl|rfl|rfl|rfl|rfl|rfl|rfl|rfl|rfl|rfl
 ·obtain⟨x,rfl⟩:=G7 (d:=d) zw;exact PU x g 0 cap w (hc 0 zg) (hx _ zg)
 ·obtain⟨x,rfl⟩:=G7 (d:=d) zw;exact PT x g 0 cap w (hc 0 zg) (hx _ zg)
 ·obtain⟨x,rfl⟩:=G7 (d:=d) zw;exact PS x g 0 cap w (hc 0 zg) (hx _ zg)
 ·obtain⟨x,y,rfl⟩:=iA (d:=d) zw;exact PR x y g 0 cap w (hc 0 zg) (hc 1 zg) ⟨hx _ zg,hx _ zg⟩
 ·obtain⟨x,y,rfl⟩:=iA (d:=d) zw;exact PQ x y g 0 cap w (hc 0 zg) (hc 1 zg) ⟨hx _ zg,hx _ zg⟩
 ·obtain⟨x,y,rfl⟩:=iA (d:=d) zw;exact PP x y g 0 cap w (hc 0 zg) (hc 1 zg) ⟨hx _ zg,hx _ zg⟩
 ·obtain⟨x,y,rfl⟩:=iA (d:=d) zw;exact Nn x y g 0 cap w (hc 0 zg) (hc 1 zg) ⟨hx _ zg,hx _ zg⟩
 ·obtain⟨x,y,rfl⟩:=iA (d:=d) zw;exact Nl x y g 0 cap w (hc 0 zg) (hc 1 zg) ⟨hx _ zg,hx _ zg⟩
 ·obtain⟨x,y,rfl⟩:=iA (d:=d) zw;exact Nk x y g 0 cap w (hc 0 zg) (hc 1 zg) ⟨hx _ zg,hx _ zg⟩
 ·obtain⟨x,y,rfl⟩:=iA (d:=d) zw;exact Nj x y g 0 cap w (hc 0 zg) (hc 1 zg) ⟨hx _ zg,hx _ zg⟩
 ·obtain⟨x,y,rfl⟩:=iA (d:=d) zw;exact Ni x y g 0 cap w (hc 0 zg) (hc 1 zg) ⟨hx _ zg,hx _ zg⟩
 ·obtain⟨x,y,rfl⟩:=iA (d:=d) zw;exact Nh x y g 0 cap w (hc 0 zg) (hc 1 zg) ⟨hx _ zg,hx _ zg⟩
 ·obtain⟨x,y,rfl⟩:=iA (d:=d) zw;exact Ng x y g 0 cap w (hc 0 zg) (hc 1 zg) ⟨hx _ zg,hx _ zg⟩
 ·obtain⟨x,y,rfl⟩:=iA (d:=d) zw;exact Nf x y g 0 cap w (hc 0 zg) (hc 1 zg) ⟨hx _ zg,hx _ zg⟩
 ·obtain⟨x,y,rfl⟩:=iA (d:=d) zw;exact Nc x y g 0 cap w (hc 0 zg) (hc 1 zg) ⟨hx _ zg,hx _ zg⟩
 ·obtain⟨x,y,rfl⟩:=iA (d:=d) zw;exact Nb x y g 0 cap w (hc 0 zg) (hc 1 zg) ⟨hx _ zg,hx _ zg⟩
 ·obtain⟨x,y,rfl⟩:=iA (d:=d) zw;exact Na x y g 0 cap w (hc 0 zg) (hc 1 zg) ⟨hx _ zg,hx _ zg⟩
 ·obtain⟨x,y,z,rfl⟩:=Ri (d:=d) zw;exact M9 x y z g 0 cap w (hc 0 zg) (hc 1 zg) (hc 2 zg) ⟨hx _ zg,hx _ zg,hx _ zg⟩
theorem tO(op:Int)(d:List Int)(base g cap:Nat)(w:World)(h4:4<=op)(h21:op<=21)(hl:(d.length:Int)=bi op)(hx:∀x∈d,1<=x)(h:w.ownsRow base 3 1 (.slice (some ⟨g,0,none⟩) d.length cap) d.length (d.map (Value.int .i64))) :
 Calls prog 148 #[.int .i64 op,.slice (some ⟨g,0,none⟩) d.length cap] w (fM (ax op d) w):=by
 have hc:=AQ h;clear h;rcases(show op=4\/op=5\/op=6\/op=7\/op=8\/op=9\/op=10\/op=11\/op=12\/op=13\/op=14\/op=15\/op=16\/op=17\/op=18\/op=19\/op=20\/op=21 by omega)with rfl|rfl|rfl|rfl|rfl|rfl|rfl|rfl|rfl|rfl|rfl|rfl|rfl|rfl|rfl|rfl|rfl|rfl
 ·obtain⟨x,rfl⟩:=G7 (d:=d) zw;exact PO x g 0 cap w (hc 0 zg) (hx _ zg)
 ·obtain⟨x,rfl⟩:=G7 (d:=d) zw;exact PN x g 0 cap w (hc 0 zg) (hx _ zg)
 ·obtain⟨x,rfl⟩:=G7 (d:=d) zw;exact PM x g 0 cap w (hc 0 zg) (hx _ zg)
 ·obtain⟨x,y,rfl⟩:=iA (d:=d) zw;exact PL x y g 0 cap w (hc 0 zg) (hc 1 zg) ⟨hx _ zg,hx _ zg⟩
 ·obtain⟨x,y,rfl⟩:=iA (d:=d) zw;exact PK x y g 0 cap w (hc 0 zg) (hc 1 zg) ⟨hx _ zg,hx _ zg⟩
 ·obtain⟨x,y,rfl⟩:=iA (d:=d) zw;exact PI x y g 0 cap w (hc 0 zg) (hc 1 zg) ⟨hx _ zg,hx _ zg⟩
 ·obtain⟨x,y,rfl⟩:=iA (d:=d) zw;exact M8 x y g 0 cap w (hc 0 zg) (hc 1 zg) ⟨hx _ zg,hx _ zg⟩
 ·obtain⟨x,y,rfl⟩:=iA (d:=d) zw;exact M7 x y g 0 cap w (hc 0 zg) (hc 1 zg) ⟨hx _ zg,hx _ zg⟩
 ·obtain⟨x,y,rfl⟩:=iA (d:=d) zw;exact M5 x y g 0 cap w (hc 0 zg) (hc 1 zg) ⟨hx _ zg,hx _ zg⟩
 ·obtain⟨x,y,rfl⟩:=iA (d:=d) zw;exact M4 x y g 0 cap w (hc 0 zg) (hc 1 zg) ⟨hx _ zg,hx _ zg⟩
 ·obtain⟨x,y,rfl⟩:=iA (d:=d) zw;exact M3 x y g 0 cap w (hc 0 zg) (hc 1 zg) ⟨hx _ zg,hx _ zg⟩
 ·obtain⟨x,y,rfl⟩:=iA (d:=d) zw;exact M0 x y g 0 cap w (hc 0 zg) (hc 1 zg) ⟨hx _ zg,hx _ zg⟩
 ·obtain⟨x,y,rfl⟩:=iA (d:=d) zw;exact MZ x y g 0 cap w (hc 0 zg) (hc 1 zg) ⟨hx _ zg,hx _ zg⟩
 ·obtain⟨x,y,rfl⟩:=iA (d:=d) zw;exact MX x y g 0 cap w (hc 0 zg) (hc 1 zg) ⟨hx _ zg,hx _ zg⟩
 ·obtain⟨x,y,rfl⟩:=iA (d:=d) zw;exact MW x y g 0 cap w (hc 0 zg) (hc 1 zg) ⟨hx _ zg,hx _ zg⟩
 ·obtain⟨x,y,rfl⟩:=iA (d:=d) zw;exact MV x y g 0 cap w (hc 0 zg) (hc 1 zg) ⟨hx _ zg,hx _ zg⟩
 ·obtain⟨x,y,rfl⟩:=iA (d:=d) zw;exact MU x y g 0 cap w (hc 0 zg) (hc 1 zg) ⟨hx _ zg,hx _ zg⟩
 ·obtain⟨x,y,z,rfl⟩:=Ri (d:=d) zw;exact MS x y z g 0 cap w (hc 0 zg) (hc 1 zg) (hc 2 zg) ⟨hx _ zg,hx _ zg,hx _ zg⟩
open Go.RowKit Go.Shelf
attribute [local go_sem] Oper.semAt_some
theorem toList_inj{a b:ByteArray}(h:a.toList=b.toList):a=b:=by
 rw [ByteArray.toList_eq,ByteArray.toList_eq]at h;exact ByteArray.ext (Array.ext' h)
theorem jG{α:Type}(env:List (ByteArray × α))(s:ByteArray)(i:Nat)(d:ByteArray × α)(hi:i<env.length)(he:(env.getD i d).1=s)(hl:∀j,i<j->j<env.length->(env.getD j d).1≠s):dP env s=some (env.getD i d).2:=by
 have h1:env=env.take i++env.getD i d::env.drop (i+1):=by
  rw [getD_eq_getElem?_getD,getElem?_eq_getElem hi,Option.getD_some,getElem_cons_drop,take_append_drop]
 have h2:(env.drop (i+1)).reverse.find? (fun p=>decide (p.1=s))=none:=by
  rw [find?_eq_none];intro x hx;obtain⟨k,hk,rfl⟩:=getElem_of_mem (mem_reverse.1 hx);have hk2:i+1+k<env.length:=by rw [length_drop]at hk;omega
  have:=hl (i+1+k) ze hk2;rw [getD_eq_getElem?_getD,getElem?_eq_getElem hk2,Option.getD_some]at this;rw [getElem_drop];simpa using this
 unfold dP;generalize hz:env.getD i d=z at *;rw [h1,reverse_append,reverse_cons,append_assoc,find?_append,h2];simp [he]
theorem jH{α:Type}(env:List (ByteArray × α))(s:ByteArray)(d:ByteArray × α)(hl:∀j,j<env.length->(env.getD j d).1≠s):dP env s=none:=by
 unfold dP;rw [Option.map_eq_none_iff,find?_eq_none];intro x hx;obtain⟨k,hk,rfl⟩:=getElem_of_mem (mem_reverse.1 hx);have:=hl k hk;rw [getD_eq_getElem?_getD,getElem?_eq_getElem hk,Option.getD_some]at this;simpa using this
def mg(env:List (ByteArray × Int))(s:ByteArray):Int × Bool:=if bV s.toList≠0 then(bV s.toList,true)else match dP env s with|some m=>(m,true)|none=>(0,false)
theorem Bb(env:List (ByteArray × Int))(s:ByteArray):eH env s=if(mg env s).2=true then((mg env s).1,0)else(0,5):=by
 unfold eH mg;by_cases h:bV s.toList≠0
 ·rw [if_pos h,if_pos h];simp
 ·rw [if_neg h,if_neg h];cases dP env s<;>simp
def LkP(env:List (ByteArray × Int))(s:ByteArray)(w:World)(e:Ending)(w':World):Prop:=e= .returned (.tuple #[.int .i64 (mg env s).1,.bool (mg env s).2])/\w.Grows w'
structure mV(B:Nat)(s:ByteArray)(m:Int)(q:Bool)(W:World):Prop where
 nm:W.heap[B]? =some (.cells #[.string s] 9 (0,0))
 res:W.heap[B+1]? =some (.cells #[.int .i64 m] 3 (0,0))
 ok:W.heap[B+2]? =some (.cells #[.bool q] 4 (0,0))
 size:B+4<=W.heap.size
theorem mV.own{B:Nat}{s:ByteArray}{m:Int}{q:Bool}{X Y:World}{row:Option Nat}(h:mV B s m q X)(hg:X.grownBy Y row)(hr:∀r,row=some r->∃o:Obj,X.heap[r]? =some o/\o.isCells=false):mV B s m q Y:=
 ⟨(grownBy_keeps_cells hg hr h.nm rfl).trans h.nm,(grownBy_keeps_cells hg hr h.res rfl).trans h.res,(grownBy_keeps_cells hg hr h.ok rfl).trans h.ok,Nat.le_trans h.size hg.size⟩
theorem mV.alloc{B:Nat}{s:ByteArray}{m:Int}{q:Bool}{X:World}(h:mV B s m q X)(o:Obj):mV B s m q (X.alloc o):=h.own (World.grownBy_alloc X o none) (fun r e=>by cases e)
def Qv(B:Nat)(s:ByteArray)(L:List (ByteArray × Int))(w:World)(c:Code)(pre:List (Fin L.length))(W:World):Prop:=
 (c= .ret/\∃ini i,pre=ini++[i]/\(∀j∈ini,bdN L j.1≠s)/\bdN L i.1=s/\mV B s (bdD L i.1) true W)/\Below w.heap.size w W
theorem GM(s:ByteArray)(L:List (ByteArray × Int))(v:Value)(w:World)(h:aW w v L)(hs:bV s.toList≠0):Calls prog 138 #[.string s,v] w (LkP L s w):=by
 obtain⟨-,a,cap,rfl,-⟩:=h;have HF:Hid (mg L s=(bV s.toList,true)):=zh (by unfold mg;rw [if_pos hs]);have HI:Hid (∀w,Calls prog 47 #[.string s] w fun e w'=>e= .returned (.tuple #[.int .i64 (bV s.toList),.bool true])/\w=w'):=zh (fun w=>(jT s w).mono (by rintro e w' ⟨rfl,rfl⟩;rw [decide_eq_true hs];exact⟨rfl,rfl⟩));clear hs;generalize bV s.toList=D at *
 go_enter func138,ntmps138
 go_wp2_with (go_at_call 47;refine(HI.out _).mono ?_;rintro e w' ⟨rfl,rfl⟩)
 go_returns
 unfold LkP;rw [HF.out];exact⟨rfl,.of_below ag⟩
theorem GL(s:ByteArray)(L:List (ByteArray × Int))(v:Value)(w:World)(h:aW w v L)(hs:bV s.toList=0):Calls prog 138 #[.string s,v] w (LkP L s w):=by
 have HV:=zh h;obtain⟨-,a,cap,rfl,-⟩:=h;have HS:Hid (mg L s=match dP L s with|some m=>(m,true)|none=>(0,false)):=zh (by unfold mg;rw [if_neg ze]);have HI:Hid (∀w,Calls prog 47 #[.string s] w fun e w'=>e= .returned (.tuple #[.int .i64 0,.bool false])/\w=w'):=zh (fun w=>(jT s w).mono (by rintro e w' ⟨rfl,rfl⟩;rw [hs];exact⟨rfl,rfl⟩));clear hs;refine(callsIn_wide (n:=6)).1 ?_;refine callsIn_of_wp_marks func138 rfl trivial ?_ rfl;simp only [ntmps138,size_toArray,length_cons,length_nil,Nat.reduceAdd,Nat.reduceSub,Array.replicate_succ,Array.replicate_zero,push_toArray,append_toArray,nil_append,cons_append]
 gi_wp2_with (first
  |(refine⟨trivial, ?_⟩;gi_at_call 47;refine(callsIn_wide.2 (HI.out _)).mono ?_;rintro e w' ⟨rfl,rfl⟩)
  |(refine⟨trivial, ?_⟩;gi_at_call 181;refine(Lj Fence.wide _ trivial rfl _ _ _ _).mono ?_;rintro e w' ⟨rfl,rfl⟩))
 obtain⟨W0,hW0⟩:∃W0,(((w.alloc (.cells #[.string s] 9)).alloc (.cells #[.int .i64 0] 3)).alloc (.cells #[.bool false] 4)).alloc (.cells #[.slice a L.length cap] 54)=W0:=⟨_,rfl⟩;have hsz:W0.heap.size=w.heap.size+4:=by rw [<-hW0];simp
 have hB0:Below w.heap.size w W0:=by rw [<-hW0];(exact ag)
 have hm0:mV w.heap.size s 0 false W0:=by rw [<-hW0];exact⟨by(repeat(first|(rw [aB,if_pos zH];done)|(rw [aB,if_neg zp])|(rw [aB,if_neg zH]))),by(repeat(first|(rw [aB,if_pos zH];done)|(rw [aB,if_neg zp])|(rw [aB,if_neg zH]))),by(repeat(first|(rw [aB,if_pos zH];done)|(rw [aB,if_neg zp])|(rw [aB,if_neg zH]))),by simp⟩
 have hbk:W0.cell? ⟨w.heap.size+3,0,none⟩=some (.slice a L.length cap):=by rw [<-hW0,World.cell?_alloc_at _ _ _ _ zg];rfl
 rw [hW0];clear hW0;have HB0:=zh hB0;have HM0:=zh hm0;have HVW:=zh (HV.out.below (Nat.le_refl _) hB0)
 refine wpIn_rangeFunc_ownH (F:=Fence.wide) rfl ze (gf:=207) (lb:=#[.pointer (some ⟨w.heap.size+3,0,none⟩)]) rfl trivial (enters_of func207 zf rfl)
  (Cy Fence.wide 5 trivial rfl ze (w.heap.size+3) W0.heap.size (.slice a L.length cap) L L.length W0 ze (Nat.le_refl _) hbk HVW.out.lies) belowK_t (belowK_b (Nat.le_refl _)) (Below.refl _ _) (fun _=>rfl)
  (fun pre W=>(mV w.heap.size s 0 false W/\∀j∈pre,bdN L j.1≠s)/\Below w.heap.size w W)
  (Qv w.heap.size s L w)
  (OwnFrom.and (Own.from (fun s A B row hs hg hr=>⟨hs.1.own hg hr,hs.2⟩) _) (ownFrom_below (Nat.le_refl _) ze))
  (fun c=>OwnFrom.and (Own.from (fun s A B row hs hg hr=>by obtain⟨h1,ini,i,h2,h3,h5,h4⟩:=hs;exact⟨h1,ini,i,h2,h3,h5,h4.own hg hr⟩) _) (ownFrom_below (Nat.le_refl _) ze))
  ⟨⟨hm0,fun j hj=>by cases hj⟩,hB0⟩
  (fun i a' W=>∃Bx,w.heap.size+3<Bx/\W.heap[Bx]? =some (.cells #[.string (bdN L i.1),.int .i64 (bdD L i.1)] 64 (0,0))/\
   a'= {tmps:=#[.string s,.slice a L.length cap,.pointer (some ⟨w.heap.size,0,none⟩),undef,.pointer (some ⟨w.heap.size+1,0,none⟩),.pointer (some ⟨w.heap.size+1+1,0,none⟩),.int .i64 0,.bool false,undef,.pointer (some ⟨Bx,0,none⟩),.tuple #[.int .i64 0,.bool false],.string s,.tuple #[.int .i64 0,.bool false],.int .i64 0,.bool false,.bool false,undef,.slice a L.length cap,.func (.func 207) #[] #[.pointer (some ⟨w.heap.size+1+1+1,0,none⟩)],.int .i64 ((i.1:Nat):Int),oN.el L i.1,undef,undef,undef,undef,undef,undef],defers:=[]})
  (fun i a' _ X Y row hs hg hr=>by obtain⟨Bx,h1,h2,h3⟩:=hs;exact⟨Bx,h1,(grownBy_keeps_cells hg (fun r e=>(hr r e).2) h2 rfl).trans h2,h3⟩)
  ?assign ?body ?done ?stop
 case assign=>
  rintro l pre i W K ⟨⟨hm,hpre⟩,hB1⟩ hK;unfold oN.el
  gi_wp2
  have hs1:=hm.size;refine hK _ _ ((KeepsOthers.alloc _ _).from _) ((Below.refl _ W).alloc ze _) ⟨⟨hm.alloc _,hpre⟩,hB1.alloc hB1.size _⟩ ⟨W.heap.size,by omega,heap_alloc_new _ _,rfl⟩
 case body=>
  rintro l pre i a' W hl ⟨r,hr⟩ ⟨⟨hm,hpre⟩,hB1⟩ ⟨Bx,hBx,hbx,rfl⟩ hlt;have HM:=zh hm;have HB1:=zh hB1;have HP:=zh hpre;have q0:W.cell? ⟨Bx,0,none⟩=some (.string (bdN L i.1)):=cell_of_row _ _ _ _ _ _ hbx;have q1:W.cell? ⟨Bx,1,none⟩=some (.int .i64 (bdD L i.1)):=cell_of_row _ _ _ _ _ _ hbx;have qn:W.cell? ⟨w.heap.size,0,none⟩=some (.string s):=cell_of_row _ _ _ _ _ _ hm.nm;have r0:W.cell? ⟨w.heap.size+1,0,none⟩=some (.int .i64 0):=cell_of_row _ _ _ _ _ _ hm.res;have rk:W.cell? ⟨w.heap.size+1+1,0,none⟩=some (.bool false):=cell_of_row _ _ _ _ _ _ hm.ok;have rf:∀j,W.frozen? ⟨w.heap.size+1,j,none⟩=false:=fun j=>Joins.unfrozen_of_block hm.res j;have rg:∀j,W.frozen? ⟨w.heap.size+1+1,j,none⟩=false:=fun j=>Joins.unfrozen_of_block hm.ok j;unfold oN.el;generalize hN:bdN L i.1=nk at *;generalize hD:bdD L i.1=dk at *;have HN:=zh hN;have HD:=zh hD;clear hm hpre hB1 hbx hN hD;by_cases he:nk=s
  ·have HE:=zh he;have he2:(nk.toList==s.toList)=true:=by rw [he];simp
   clear he
   gi_wp2
   have hs1:=HM.out.size;have hh:∀k,k≠w.heap.size+1->k≠w.heap.size+2->((W.setCell ⟨w.heap.size+1,0,none⟩ (.int .i64 dk)).setCell ⟨w.heap.size+2,0,none⟩ (.bool true)).heap[k]? =W.heap[k]?:=fun k hk hk2=>(Below.heap_setCell _ _ _ _ hk2).trans (Below.heap_setCell _ _ _ _ hk)
   have key:mV w.heap.size s dk true ((W.setCell ⟨w.heap.size+1,0,none⟩ (.int .i64 dk)).setCell ⟨w.heap.size+2,0,none⟩ (.bool true)):=by
    exact QY
   have kf:KeepsFrom W0.heap.size W ((W.setCell ⟨w.heap.size+1,0,none⟩ (.int .i64 dk)).setCell ⟨w.heap.size+2,0,none⟩ (.bool true)):=⟨by simp,fun k o hBk hk _=>by
    rw [hh _ ze ze];exact hk⟩
   have bl:Below w.heap.size w ((W.setCell ⟨w.heap.size+1,0,none⟩ (.int .i64 dk)).setCell ⟨w.heap.size+2,0,none⟩ (.bool true)):=
    (HB1.out.setCell (by show w.heap.size<=w.heap.size+1;omega) _).setCell (by show w.heap.size<=w.heap.size+2;omega) _
   exact⟨kf,⟨rfl,pre,i,rfl,HP.out,by rw [HN.out];exact HE.out,by rw [HD.out];exact key⟩,bl⟩
  ·have HE:=zh he
   have he2:(nk.toList==s.toList)=false:=by
    rw [beq_eq_false_iff_ne];exact fun h=>he (toList_inj h)
   clear he
   gi_wp2
   refine⟨KeepsFrom.refl _ _,Below.refl _ _,⟨⟨HM.out,fun j hj=>?_⟩,HB1.out⟩⟩;rcases mem_append.1 hj with h1|h1
   ·exact HP.out j h1
   ·obtain rfl:j=i:=by simpa using h1
    rw [HN.out];exact HE.out
 case done=>
  rintro D xs W hD rfl ⟨⟨hm,hpre⟩,hB1⟩ hK;have HM:=zh hm;have HB1:=zh hB1;have HP:=zh hpre;have r0:W.cell? ⟨w.heap.size+1,0,none⟩=some (.int .i64 0):=cell_of_row _ _ _ _ _ _ hm.res;have rk:W.cell? ⟨w.heap.size+1+1,0,none⟩=some (.bool false):=cell_of_row _ _ _ _ _ _ hm.ok;have rf:∀j,W.frozen? ⟨w.heap.size+1,j,none⟩=false:=fun j=>Joins.unfrozen_of_block hm.res j;have rg:∀j,W.frozen? ⟨w.heap.size+1+1,j,none⟩=false:=fun j=>Joins.unfrozen_of_block hm.ok j;clear hm hB1 hpre
  gi_wp2
  have hDW:=(Array.getElem?_eq_some_iff.1 hK).1;have hs1:=HM.out.size;have hh:∀k,k≠w.heap.size+1->k≠w.heap.size+2->((W.setCell ⟨w.heap.size+1,0,none⟩ (.int .i64 0)).setCell ⟨w.heap.size+2,0,none⟩ (.bool false)).heap[k]? =W.heap[k]?:=fun k hk hk2=>(Below.heap_setCell _ _ _ _ hk2).trans (Below.heap_setCell _ _ _ _ hk)
  have m2:mV w.heap.size s 0 false ((W.setCell ⟨w.heap.size+1,0,none⟩ (.int .i64 0)).setCell ⟨w.heap.size+2,0,none⟩ (.bool false)):=by
   exact QY
  have bl:Below w.heap.size w ((W.setCell ⟨w.heap.size+1,0,none⟩ (.int .i64 0)).setCell ⟨w.heap.size+2,0,none⟩ (.bool false)):=
   (HB1.out.setCell (by show w.heap.size<=w.heap.size+1;omega) _).setCell (by show w.heap.size<=w.heap.size+2;omega) _
  have hK':((W.setCell ⟨w.heap.size+1,0,none⟩ (.int .i64 0)).setCell ⟨w.heap.size+2,0,none⟩ (.bool false)).heap[D]? =some (.deferred (some [])):=by rw [hh _ ze ze];exact hK
  refine⟨by simp,.inl ⟨_,_,rfl,run_takeDeferred hK', ?_⟩⟩;have m3:=m2.own (grownBy_putObj' _ D (.deferred none)) (fun r e=>by cases e;exact⟨_,hK',rfl⟩);have bl3:=bl.trans (belowK_b (w:=w) (Nat.le_refl _) _ D _ (.deferred none) ze hK' rfl rfl);show LeavesInM Fence.wide 6 prog f138 _ _ _ _ (((W.setCell ⟨w.heap.size+1,0,none⟩ (.int .i64 0)).setCell ⟨w.heap.size+2,0,none⟩ (.bool false)).putObj D (.deferred none));generalize(((W.setCell ⟨w.heap.size+1,0,none⟩ (.int .i64 0)).setCell ⟨w.heap.size+2,0,none⟩ (.bool false)).putObj D (.deferred none))=W9 at m3 bl3 ⊢;have e0:W9.cell? ⟨w.heap.size+1,0,none⟩=some (.int .i64 0):=cell_of_row _ _ _ _ _ _ m3.res;have ek:W9.cell? ⟨w.heap.size+1+1,0,none⟩=some (.bool false):=cell_of_row _ _ _ _ _ _ m3.ok;have hn:dP L s=none:=jH L s (ByteArray.empty,0) fun j hj=>HP.out ⟨j,hj⟩ (jr _ zg);refine⟨.tuple #[.int .i64 0,.bool false], ?_, ?_,.of_below bl3⟩
  ·simp [results,f138,go_sem,e0,ek]
  ·rw [HS.out,hn]
 case stop=>
  rintro D c pre W hD ⟨k,hk,rfl⟩ ⟨⟨rfl,ini,i,hin,hini,hsi,hm1⟩,hB1⟩ hK;have hm:=hm1.own (grownBy_putObj' W D (.deferred none)) (fun r e=>by cases e;exact⟨_,hK,rfl⟩);have bl3:=hB1.trans (belowK_b (w:=w) (Nat.le_refl _) W D _ (.deferred none) ze hK rfl rfl)
  gi_wp2
  refine⟨by simp,.inl ⟨_,_,rfl,run_takeDeferred hK, ?_⟩⟩;generalize W.putObj D (.deferred none)=W9 at hm bl3 ⊢;have e0:W9.cell? ⟨w.heap.size+1,0,none⟩=some (.int .i64 (bdD L i.1)):=cell_of_row _ _ _ _ _ _ hm.res;have ek:W9.cell? ⟨w.heap.size+1+1,0,none⟩=some (.bool true):=cell_of_row _ _ _ _ _ _ hm.ok;have hii:L.length-1-k<L.length:=by omega
  rw [gK _ _ ⟨L.length-1-k,hii⟩ hk rfl]at hin;obtain⟨h1,h2⟩:=append_inj' hin rfl;subst h1;obtain rfl:(⟨L.length-1-k,hii⟩:Fin L.length)=i:=by simpa using h2
  have hn:dP L s=some (bdD L (L.length-1-k)):=jG L s (L.length-1-k) (ByteArray.empty,0) hii hsi fun j hj hjl=>hini ⟨j,hjl⟩ (jr _ zp);refine⟨.tuple #[.int .i64 (bdD L (L.length-1-k)),.bool true], ?_, ?_,.of_below bl3⟩
  ·simp [results,f138,go_sem,e0,ek]
  ·rw [HS.out,hn]
theorem DR(s:ByteArray)(L:List (ByteArray × Int))(v:Value)(w:World)(h:aW w v L):Calls prog 138 #[.string s,v] w (LkP L s w):=by
 by_cases hs:bV s.toList=0
 ·exact GL s L v w h hs
 ·exact GM s L v w h hs
end Go.Proofs.YtlheailebbngiaaGreatDoor
