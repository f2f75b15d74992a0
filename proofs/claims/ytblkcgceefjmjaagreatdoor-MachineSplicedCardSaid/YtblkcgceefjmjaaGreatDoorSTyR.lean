import Derived.Test.YtblkcgceefjmjaaGreatDoorSEvP
import Derived.Test.YtblkcgceefjmjaaGreatDoorSK
import Derived.Laws.Strings
set_option linter.all false
set_option maxHeartbeats 16000000
set_option maxRecDepth 1000000
namespace Go.Proofs.YtblkcgceefjmjaaGreatDoor
open Go.RowKit
theorem Input2_any(s:ByteArray)(w:World):Calls Tryz.prog 137 #[.string s] w fun e w'=>e= .returned (.tuple #[.int .i64 (inpD s.toList),.bool (decide (inpD s.toList≠0))])∧w=w':=by
 go_enter Tryz.func137,Tryz.ntmps137
 exact sz40
theorem ret_int{a b:Int}(h:a=b):Ending.returned (.int .i64 a)= .returned (.int .i64 b):=by rw [h]
def Res2P(r:Int)(w:World)(e:Ending)(w':World):Prop:=(∃m,e= .returned (.tuple #[.int .i64 m,.bool (decide (r≠0))])∧(r≠0→m=r))∧w.Grows w'
theorem res2P{m r:Int}{q:Bool}{w w':World}(h1:q=decide (r≠0))(h2:r≠0→m=r)(hg:w.Grows w'):Res2P r w (.returned (.tuple #[.int .i64 m,.bool q])) w':=⟨⟨m,by rw [h1],h2⟩,hg⟩
theorem res2_4(x:Int)(b off cap:Nat)(w:World)(c0:w.cell? ⟨b,off,none⟩=some (.int .i64 x))(hX:1≤x):Calls Tryz.prog 216 #[.int .i64 4,.slice (some ⟨b,off,none⟩) 1 cap] w (Res2P (resD 4 [x]) w):=by
 have HR:Hid (resD 4 [x]=resD 4 [x]):=Lib.hid rfl
 generalize hR:resD 4 [x]=R at HR ⊢
 exact sz27
theorem res2_5(x:Int)(b off cap:Nat)(w:World)(c0:w.cell? ⟨b,off,none⟩=some (.int .i64 x))(hX:1≤x):Calls Tryz.prog 216 #[.int .i64 5,.slice (some ⟨b,off,none⟩) 1 cap] w (Res2P (resD 5 [x]) w):=by
 have HR:Hid (resD 5 [x]=resD 5 [x]):=Lib.hid rfl
 generalize hR:resD 5 [x]=R at HR ⊢
 exact sz27
theorem res2_6(x:Int)(b off cap:Nat)(w:World)(c0:w.cell? ⟨b,off,none⟩=some (.int .i64 x))(hX:1≤x):Calls Tryz.prog 216 #[.int .i64 6,.slice (some ⟨b,off,none⟩) 1 cap] w (Res2P (resD 6 [x]) w):=by
 have HR:Hid (resD 6 [x]=resD 6 [x]):=Lib.hid rfl
 generalize hR:resD 6 [x]=R at HR ⊢
 exact sz27
theorem res2_7(x y:Int)(b off cap:Nat)(w:World)(c0:w.cell? ⟨b,off,none⟩=some (.int .i64 x))(c1:w.cell? ⟨b,off+1,none⟩=some (.int .i64 y))(hX:1≤x∧1≤y):Calls Tryz.prog 216 #[.int .i64 7,.slice (some ⟨b,off,none⟩) 2 cap] w (Res2P (resD 7 [x,y]) w):=by
 have HR:Hid (resD 7 [x,y]=resD 7 [x,y]):=Lib.hid rfl
 generalize hR:resD 7 [x,y]=R at HR ⊢
 exact sz1
theorem res2_8(x y:Int)(b off cap:Nat)(w:World)(c0:w.cell? ⟨b,off,none⟩=some (.int .i64 x))(c1:w.cell? ⟨b,off+1,none⟩=some (.int .i64 y))(hX:1≤x∧1≤y):Calls Tryz.prog 216 #[.int .i64 8,.slice (some ⟨b,off,none⟩) 2 cap] w (Res2P (resD 8 [x,y]) w):=by
 have HR:Hid (resD 8 [x,y]=resD 8 [x,y]):=Lib.hid rfl
 generalize hR:resD 8 [x,y]=R at HR ⊢
 exact sz1
theorem res2_9(x y:Int)(b off cap:Nat)(w:World)(c0:w.cell? ⟨b,off,none⟩=some (.int .i64 x))(c1:w.cell? ⟨b,off+1,none⟩=some (.int .i64 y))(hX:1≤x∧1≤y):Calls Tryz.prog 216 #[.int .i64 9,.slice (some ⟨b,off,none⟩) 2 cap] w (Res2P (resD 9 [x,y]) w):=by
 have HR:Hid (resD 9 [x,y]=resD 9 [x,y]):=Lib.hid rfl
 generalize hR:resD 9 [x,y]=R at HR ⊢
 clear HR
 have HR:=Lib.hid hR
 have HX:=Lib.hid hX
 clear hR hX
 go_enter Tryz.func216,Tryz.ntmps216
 by_cases e1:x=2
 focus
  subst e1
 rotate_left
 focus
  have f1:(x==2)=false:=by simpa using e1
  have g1:(2==x)=false:=by simpa using fun h=>e1 h.symm
 rotate_left
 all_goals
  by_cases e2:y=2
  focus
   subst e2
  rotate_left
  focus
   have f2:(y==2)=false:=by simpa using e2
   have g2:(2==y)=false:=by simpa using fun h=>e2 h.symm
  rotate_left
  all_goals
   exact sz0
theorem res2_10(x y:Int)(b off cap:Nat)(w:World)(c0:w.cell? ⟨b,off,none⟩=some (.int .i64 x))(c1:w.cell? ⟨b,off+1,none⟩=some (.int .i64 y))(hX:1≤x∧1≤y):Calls Tryz.prog 216 #[.int .i64 10,.slice (some ⟨b,off,none⟩) 2 cap] w (Res2P (resD 10 [x,y]) w):=by
 have HR:Hid (resD 10 [x,y]=resD 10 [x,y]):=Lib.hid rfl
 generalize hR:resD 10 [x,y]=R at HR ⊢
 clear HR
 have HR:=Lib.hid hR
 have HX:=Lib.hid hX
 clear hR hX
 go_enter Tryz.func216,Tryz.ntmps216
 by_cases e1:y=2
 ·subst e1
  by_cases e2:x=2
  focus
   subst e2
  rotate_left
  focus
   have f2:(x==2)=false:=by simpa using e2
   have g2:(2==x)=false:=by simpa using fun h=>e2 h.symm
  rotate_left
  all_goals
   exact sz0
 ·have f1:(y==2)=false:=by simpa using e1
  have g1:(2==y)=false:=by simpa using fun h=>e1 h.symm
  by_cases e2:x=y
  focus
   subst e2
  rotate_left
  focus
   have f2:(x==y)=false:=by simpa using e2
   have g2:(y==x)=false:=by simpa using fun h=>e2 h.symm
  rotate_left
  all_goals
   exact sz0
theorem res2_11(x y:Int)(b off cap:Nat)(w:World)(c0:w.cell? ⟨b,off,none⟩=some (.int .i64 x))(c1:w.cell? ⟨b,off+1,none⟩=some (.int .i64 y))(hX:1≤x∧1≤y):Calls Tryz.prog 216 #[.int .i64 11,.slice (some ⟨b,off,none⟩) 2 cap] w (Res2P (resD 11 [x,y]) w):=by
 have HR:Hid (resD 11 [x,y]=resD 11 [x,y]):=Lib.hid rfl
 generalize hR:resD 11 [x,y]=R at HR ⊢
 exact sz1
theorem res2_12(x y:Int)(b off cap:Nat)(w:World)(c0:w.cell? ⟨b,off,none⟩=some (.int .i64 x))(c1:w.cell? ⟨b,off+1,none⟩=some (.int .i64 y))(hX:1≤x∧1≤y):Calls Tryz.prog 216 #[.int .i64 12,.slice (some ⟨b,off,none⟩) 2 cap] w (Res2P (resD 12 [x,y]) w):=by
 have HR:Hid (resD 12 [x,y]=resD 12 [x,y]):=Lib.hid rfl
 generalize hR:resD 12 [x,y]=R at HR ⊢
 exact sz1
theorem res2_13(x y:Int)(b off cap:Nat)(w:World)(c0:w.cell? ⟨b,off,none⟩=some (.int .i64 x))(c1:w.cell? ⟨b,off+1,none⟩=some (.int .i64 y))(hX:1≤x∧1≤y):Calls Tryz.prog 216 #[.int .i64 13,.slice (some ⟨b,off,none⟩) 2 cap] w (Res2P (resD 13 [x,y]) w):=by
 have HR:Hid (resD 13 [x,y]=resD 13 [x,y]):=Lib.hid rfl
 generalize hR:resD 13 [x,y]=R at HR ⊢
 exact sz1
theorem res2_14(x y:Int)(b off cap:Nat)(w:World)(c0:w.cell? ⟨b,off,none⟩=some (.int .i64 x))(c1:w.cell? ⟨b,off+1,none⟩=some (.int .i64 y))(hX:1≤x∧1≤y):Calls Tryz.prog 216 #[.int .i64 14,.slice (some ⟨b,off,none⟩) 2 cap] w (Res2P (resD 14 [x,y]) w):=by
 have HR:Hid (resD 14 [x,y]=resD 14 [x,y]):=Lib.hid rfl
 generalize hR:resD 14 [x,y]=R at HR ⊢
 exact sz1
theorem res2_15(x y:Int)(b off cap:Nat)(w:World)(c0:w.cell? ⟨b,off,none⟩=some (.int .i64 x))(c1:w.cell? ⟨b,off+1,none⟩=some (.int .i64 y))(hX:1≤x∧1≤y):Calls Tryz.prog 216 #[.int .i64 15,.slice (some ⟨b,off,none⟩) 2 cap] w (Res2P (resD 15 [x,y]) w):=by
 have HR:Hid (resD 15 [x,y]=resD 15 [x,y]):=Lib.hid rfl
 generalize hR:resD 15 [x,y]=R at HR ⊢
 exact sz1
theorem res2_16(x y:Int)(b off cap:Nat)(w:World)(c0:w.cell? ⟨b,off,none⟩=some (.int .i64 x))(c1:w.cell? ⟨b,off+1,none⟩=some (.int .i64 y))(hX:1≤x∧1≤y):Calls Tryz.prog 216 #[.int .i64 16,.slice (some ⟨b,off,none⟩) 2 cap] w (Res2P (resD 16 [x,y]) w):=by
 have HR:Hid (resD 16 [x,y]=resD 16 [x,y]):=Lib.hid rfl
 generalize hR:resD 16 [x,y]=R at HR ⊢
 exact sz1
theorem res2_17(x y:Int)(b off cap:Nat)(w:World)(c0:w.cell? ⟨b,off,none⟩=some (.int .i64 x))(c1:w.cell? ⟨b,off+1,none⟩=some (.int .i64 y))(hX:1≤x∧1≤y):Calls Tryz.prog 216 #[.int .i64 17,.slice (some ⟨b,off,none⟩) 2 cap] w (Res2P (resD 17 [x,y]) w):=by
 have HR:Hid (resD 17 [x,y]=resD 17 [x,y]):=Lib.hid rfl
 generalize hR:resD 17 [x,y]=R at HR ⊢
 exact sz12
theorem res2_18(x y:Int)(b off cap:Nat)(w:World)(c0:w.cell? ⟨b,off,none⟩=some (.int .i64 x))(c1:w.cell? ⟨b,off+1,none⟩=some (.int .i64 y))(hX:1≤x∧1≤y):Calls Tryz.prog 216 #[.int .i64 18,.slice (some ⟨b,off,none⟩) 2 cap] w (Res2P (resD 18 [x,y]) w):=by
 have HR:Hid (resD 18 [x,y]=resD 18 [x,y]):=Lib.hid rfl
 generalize hR:resD 18 [x,y]=R at HR ⊢
 exact sz12
theorem res2_19(x y:Int)(b off cap:Nat)(w:World)(c0:w.cell? ⟨b,off,none⟩=some (.int .i64 x))(c1:w.cell? ⟨b,off+1,none⟩=some (.int .i64 y))(hX:1≤x∧1≤y):Calls Tryz.prog 216 #[.int .i64 19,.slice (some ⟨b,off,none⟩) 2 cap] w (Res2P (resD 19 [x,y]) w):=by
 have HR:Hid (resD 19 [x,y]=resD 19 [x,y]):=Lib.hid rfl
 generalize hR:resD 19 [x,y]=R at HR ⊢
 exact sz1
theorem res2_20(x y:Int)(b off cap:Nat)(w:World)(c0:w.cell? ⟨b,off,none⟩=some (.int .i64 x))(c1:w.cell? ⟨b,off+1,none⟩=some (.int .i64 y))(hX:1≤x∧1≤y):Calls Tryz.prog 216 #[.int .i64 20,.slice (some ⟨b,off,none⟩) 2 cap] w (Res2P (resD 20 [x,y]) w):=by
 have HR:Hid (resD 20 [x,y]=resD 20 [x,y]):=Lib.hid rfl
 generalize hR:resD 20 [x,y]=R at HR ⊢
 exact sz1
theorem res2_21(x y z:Int)(b off cap:Nat)(w:World)(c0:w.cell? ⟨b,off,none⟩=some (.int .i64 x))(c1:w.cell? ⟨b,off+1,none⟩=some (.int .i64 y))(c2:w.cell? ⟨b,off+2,none⟩=some (.int .i64 z))(hX:1≤x∧1≤y∧1≤z):Calls Tryz.prog 216 #[.int .i64 21,.slice (some ⟨b,off,none⟩) 3 cap] w (Res2P (resD 21 [x,y,z]) w):=by
 have HR:Hid (resD 21 [x,y,z]=resD 21 [x,y,z]):=Lib.hid rfl
 generalize hR:resD 21 [x,y,z]=R at HR ⊢
 exact sz12
end Go.Proofs.YtblkcgceefjmjaaGreatDoor
namespace Go.Proofs.YtblkcgceefjmjaaGreatDoor
open Go.RowKit Go.Shelf
attribute [local go_sem] Oper.semAt_some
theorem toList_inj{a b:ByteArray}(h:a.toList=b.toList):a=b:=by
 rw [ByteArray.toList_eq,ByteArray.toList_eq]at h
 exact ByteArray.ext (Array.ext' h)
theorem lastN_some{α:Type}(env:List (ByteArray × α))(s:ByteArray)(i:Nat)(d:ByteArray × α)(hi:i<env.length)(he:(env.getD i d).1=s)(hl:∀j,i<j→j<env.length→(env.getD j d).1≠s):lastN env s=some (env.getD i d).2:=by
 have h1:env=env.take i++env.getD i d::env.drop (i+1):=by
  rw [List.getD_eq_getElem?_getD,List.getElem?_eq_getElem hi,Option.getD_some,List.getElem_cons_drop,List.take_append_drop]
 have h2:(env.drop (i+1)).reverse.find? (fun p=>decide (p.1=s))=none:=by
  rw [List.find?_eq_none]
  intro x hx
  obtain⟨k,hk,rfl⟩:=List.getElem_of_mem (List.mem_reverse.1 hx)
  have hk2:i+1+k<env.length:=by rw [List.length_drop]at hk;omega
  have:=hl (i+1+k) (by omega) hk2
  rw [List.getD_eq_getElem?_getD,List.getElem?_eq_getElem hk2,Option.getD_some]at this
  rw [List.getElem_drop]
  simpa using this
 unfold lastN
 generalize hz:env.getD i d=z at *
 rw [h1,List.reverse_append,List.reverse_cons,List.append_assoc,List.find?_append,h2]
 simp [he]
theorem lastN_none{α:Type}(env:List (ByteArray × α))(s:ByteArray)(d:ByteArray × α)(hl:∀j,j<env.length→(env.getD j d).1≠s):lastN env s=none:=by
 unfold lastN
 rw [Option.map_eq_none_iff,List.find?_eq_none]
 intro x hx
 obtain⟨k,hk,rfl⟩:=List.getElem_of_mem (List.mem_reverse.1 hx)
 have:=hl k hk
 rw [List.getD_eq_getElem?_getD,List.getElem?_eq_getElem hk,Option.getD_some]at this
 simpa using this
def lookV(env:List (ByteArray × Int))(s:ByteArray):Int × Bool:=if inpD s.toList≠0 then(inpD s.toList,true)else match lastN env s with|some m=>(m,true)|none=>(0,false)
theorem lookV_infer(env:List (ByteArray × Int))(s:ByteArray):inferN env s=if(lookV env s).2=true then((lookV env s).1,0)else(0,5):=by
 unfold inferN lookV
 by_cases h:inpD s.toList≠0
 ·rw [if_pos h,if_pos h];simp
 ·rw [if_neg h,if_neg h]
  cases lastN env s<;>simp
def LkP(env:List (ByteArray × Int))(s:ByteArray)(w:World)(e:Ending)(w':World):Prop:=e= .returned (.tuple #[.int .i64 (lookV env s).1,.bool (lookV env s).2])∧w.Grows w'
structure LkMem(B:Nat)(s:ByteArray)(m:Int)(q:Bool)(W:World):Prop where
 nm:W.heap[B]? =some (.cells #[.string s] 9 (0,0))
 res:W.heap[B+1]? =some (.cells #[.int .i64 m] 3 (0,0))
 ok:W.heap[B+2]? =some (.cells #[.bool q] 4 (0,0))
 size:B+4≤W.heap.size
theorem LkMem.own{B:Nat}{s:ByteArray}{m:Int}{q:Bool}{X Y:World}{row:Option Nat}(h:LkMem B s m q X)(hg:X.grownBy Y row)(hr:∀r,row=some r→∃o:Obj,X.heap[r]? =some o∧o.isCells=false):LkMem B s m q Y:=
 ⟨(grownBy_keeps_cells hg hr h.nm rfl).trans h.nm,(grownBy_keeps_cells hg hr h.res rfl).trans h.res,(grownBy_keeps_cells hg hr h.ok rfl).trans h.ok,Nat.le_trans h.size hg.size⟩
theorem LkMem.alloc{B:Nat}{s:ByteArray}{m:Int}{q:Bool}{X:World}(h:LkMem B s m q X)(o:Obj):LkMem B s m q (X.alloc o):=h.own (World.grownBy_alloc X o none) (fun r e=>by cases e)
def LkBody(B:Nat)(s:ByteArray)(L:List (ByteArray × Int))(w:World)(c:Code)(pre:List (Fin L.length))(W:World):Prop:=
 (c= .ret∧∃ini i,pre=ini++[i]∧(∀j∈ini,bdN L j.1≠s)∧bdN L i.1=s∧LkMem B s (bdD L i.1) true W)∧Below w.heap.size w W
theorem lookup_in(s:ByteArray)(L:List (ByteArray × Int))(v:Value)(w:World)(h:BindAt w v L)(hs:inpD s.toList≠0):Calls Tryz.prog 215 #[.string s,v] w (LkP L s w):=by
 obtain⟨-,a,cap,rfl,-⟩:=h
 have HF:Hid (lookV L s=(inpD s.toList,true)):=Lib.hid (by unfold lookV;rw [if_pos hs])
 have HI:Hid (∀w,Calls Tryz.prog 137 #[.string s] w fun e w'=>e= .returned (.tuple #[.int .i64 (inpD s.toList),.bool true])∧w=w'):=Lib.hid (fun w=>(Input2_any s w).mono (by rintro e w' ⟨rfl,rfl⟩;rw [decide_eq_true hs];exact⟨rfl,rfl⟩))
 clear hs
 generalize inpD s.toList=D at *
 go_enter Tryz.func215,Tryz.ntmps215
 go_wp2_with (go_at_call 137;refine(HI.out _).mono ?_;rintro e w' ⟨rfl,rfl⟩)
 go_returns
 unfold LkP
 rw [HF.out]
 exact⟨rfl,.of_below belB⟩
theorem lookup_no(s:ByteArray)(L:List (ByteArray × Int))(v:Value)(w:World)(h:BindAt w v L)(hs:inpD s.toList=0):Calls Tryz.prog 215 #[.string s,v] w (LkP L s w):=by
 have HV:=Lib.hid h
 obtain⟨-,a,cap,rfl,-⟩:=h
 have HS:Hid (lookV L s=match lastN L s with|some m=>(m,true)|none=>(0,false)):=Lib.hid (by unfold lookV;rw [if_neg (by omega)])
 have HI:Hid (∀w,Calls Tryz.prog 137 #[.string s] w fun e w'=>e= .returned (.tuple #[.int .i64 0,.bool false])∧w=w'):=Lib.hid (fun w=>(Input2_any s w).mono (by rintro e w' ⟨rfl,rfl⟩;rw [hs];exact⟨rfl,rfl⟩))
 clear hs
 refine(callsIn_wide (n:=6)).1 ?_
 refine callsIn_of_wp_marks Tryz.func215 rfl trivial ?_ rfl
 simp only [Tryz.ntmps215,List.size_toArray,List.length_cons,List.length_nil,Nat.reduceAdd,Nat.reduceSub,Array.replicate_succ,Array.replicate_zero,List.push_toArray,List.append_toArray,List.nil_append,List.cons_append]
 gi_wp2_with (first
  |(refine⟨trivial, ?_⟩;gi_at_call 137;refine(callsIn_wide.2 (HI.out _)).mono ?_;rintro e w' ⟨rfl,rfl⟩)
  |(refine⟨trivial, ?_⟩;gi_at_call 260;refine(backB_in Fence.wide _ trivial rfl _ _ _ _).mono ?_;rintro e w' ⟨rfl,rfl⟩))
 obtain⟨W0,hW0⟩:∃W0,(((w.alloc (.cells #[.string s] 9)).alloc (.cells #[.int .i64 0] 3)).alloc (.cells #[.bool false] 4)).alloc (.cells #[.slice a L.length cap] 52)=W0:=⟨_,rfl⟩
 have hsz:W0.heap.size=w.heap.size+4:=by rw [←hW0];simp
 have hB0:Below w.heap.size w W0:=by rw [←hW0];(exact belB)
 have hm0:LkMem w.heap.size s 0 false W0:=by rw [←hW0];exact⟨by(repeat(first|(rw [heap_alloc_if,if_pos (by simp;done)];done)|(rw [heap_alloc_if,if_neg (by simp;omega)])|(rw [heap_alloc_if,if_neg (by simp;done)]))),by(repeat(first|(rw [heap_alloc_if,if_pos (by simp;done)];done)|(rw [heap_alloc_if,if_neg (by simp;omega)])|(rw [heap_alloc_if,if_neg (by simp;done)]))),by(repeat(first|(rw [heap_alloc_if,if_pos (by simp;done)];done)|(rw [heap_alloc_if,if_neg (by simp;omega)])|(rw [heap_alloc_if,if_neg (by simp;done)]))),by simp⟩
 have hbk:W0.cell? ⟨w.heap.size+3,0,none⟩=some (.slice a L.length cap):=by rw [←hW0,World.cell?_alloc_at _ _ _ _ (by simp)];rfl
 rw [hW0]
 clear hW0
 have HB0:=Lib.hid hB0
 have HM0:=Lib.hid hm0
 have HVW:=Lib.hid (HV.out.below (Nat.le_refl _) hB0)
 refine wpIn_rangeFunc_ownH (F:=Fence.wide) rfl (by omega) (gf:=284) (lb:=#[.pointer (some ⟨w.heap.size+3,0,none⟩)]) rfl trivial (enters_of Tryz.func284 (by kernel_rfl) rfl)
  (backB_stops Fence.wide 5 trivial rfl (by omega) (w.heap.size+3) W0.heap.size (.slice a L.length cap) L L.length W0 (by omega) (Nat.le_refl _) hbk HVW.out.lies) belowK_t (belowK_b (Nat.le_refl _)) (Below.refl _ _) (fun _=>rfl)
  (fun pre W=>(LkMem w.heap.size s 0 false W∧∀j∈pre,bdN L j.1≠s)∧Below w.heap.size w W)
  (LkBody w.heap.size s L w)
  (OwnFrom.and (Own.from (fun s A B row hs hg hr=>⟨hs.1.own hg hr,hs.2⟩) _) (ownFrom_below (Nat.le_refl _) (by omega)))
  (fun c=>OwnFrom.and (Own.from (fun s A B row hs hg hr=>by obtain⟨h1,ini,i,h2,h3,h5,h4⟩:=hs;exact⟨h1,ini,i,h2,h3,h5,h4.own hg hr⟩) _) (ownFrom_below (Nat.le_refl _) (by omega)))
  ⟨⟨hm0,fun j hj=>by cases hj⟩,hB0⟩
  (fun i a' W=>∃Bx,w.heap.size+3<Bx∧W.heap[Bx]? =some (.cells #[.string (bdN L i.1),.int .i64 (bdD L i.1)] 126 (0,0))∧
   a'= {tmps:=#[.string s,.slice a L.length cap,.pointer (some ⟨w.heap.size,0,none⟩),undef,.pointer (some ⟨w.heap.size+1,0,none⟩),.pointer (some ⟨w.heap.size+1+1,0,none⟩),.int .i64 0,.bool false,undef,.pointer (some ⟨Bx,0,none⟩),.tuple #[.int .i64 0,.bool false],.string s,.tuple #[.int .i64 0,.bool false],.int .i64 0,.bool false,.bool false,undef,.slice a L.length cap,.func (.func 284) #[] #[.pointer (some ⟨w.heap.size+1+1+1,0,none⟩)],.int .i64 ((i.1:Nat):Int),BRow.el L i.1,undef,undef,undef,undef,undef,undef],defers:=[]})
  (fun i a' _ X Y row hs hg hr=>by obtain⟨Bx,h1,h2,h3⟩:=hs;exact⟨Bx,h1,(grownBy_keeps_cells hg (fun r e=>(hr r e).2) h2 rfl).trans h2,h3⟩)
  ?assign ?body ?done ?stop
 case assign=>
  rintro l pre i W K ⟨⟨hm,hpre⟩,hB1⟩ hK
  unfold BRow.el
  gi_wp2
  have hs1:=hm.size
  refine hK _ _ ((KeepsOthers.alloc _ _).from _) ((Below.refl _ W).alloc (by omega) _) ⟨⟨hm.alloc _,hpre⟩,hB1.alloc hB1.size _⟩ ⟨W.heap.size,by omega,heap_alloc_new _ _,rfl⟩
 case body=>
  rintro l pre i a' W hl ⟨r,hr⟩ ⟨⟨hm,hpre⟩,hB1⟩ ⟨Bx,hBx,hbx,rfl⟩ hlt
  have HM:=Lib.hid hm
  have HB1:=Lib.hid hB1
  have HP:=Lib.hid hpre
  have q0:W.cell? ⟨Bx,0,none⟩=some (.string (bdN L i.1)):=cell_of_row _ _ _ _ _ _ hbx
  have q1:W.cell? ⟨Bx,1,none⟩=some (.int .i64 (bdD L i.1)):=cell_of_row _ _ _ _ _ _ hbx
  have qn:W.cell? ⟨w.heap.size,0,none⟩=some (.string s):=cell_of_row _ _ _ _ _ _ hm.nm
  have r0:W.cell? ⟨w.heap.size+1,0,none⟩=some (.int .i64 0):=cell_of_row _ _ _ _ _ _ hm.res
  have rk:W.cell? ⟨w.heap.size+1+1,0,none⟩=some (.bool false):=cell_of_row _ _ _ _ _ _ hm.ok
  have rf:∀j,W.frozen? ⟨w.heap.size+1,j,none⟩=false:=fun j=>Joins.unfrozen_of_block hm.res j
  have rg:∀j,W.frozen? ⟨w.heap.size+1+1,j,none⟩=false:=fun j=>Joins.unfrozen_of_block hm.ok j
  unfold BRow.el
  generalize hN:bdN L i.1=nk at *
  generalize hD:bdD L i.1=dk at *
  have HN:=Lib.hid hN
  have HD:=Lib.hid hD
  clear hm hpre hB1 hbx hN hD
  by_cases he:nk=s
  ·have HE:=Lib.hid he
   have he2:(nk.toList==s.toList)=true:=by rw [he];simp
   clear he
   gi_wp2
   have hs1:=HM.out.size
   have hh:∀k,k≠w.heap.size+1→k≠w.heap.size+2→((W.setCell ⟨w.heap.size+1,0,none⟩ (.int .i64 dk)).setCell ⟨w.heap.size+2,0,none⟩ (.bool true)).heap[k]? =W.heap[k]?:=fun k hk hk2=>(Below.heap_setCell _ _ _ _ hk2).trans (Below.heap_setCell _ _ _ _ hk)
   have key:LkMem w.heap.size s dk true ((W.setCell ⟨w.heap.size+1,0,none⟩ (.int .i64 dk)).setCell ⟨w.heap.size+2,0,none⟩ (.bool true)):=by
    exact sz20
   have kf:KeepsFrom W0.heap.size W ((W.setCell ⟨w.heap.size+1,0,none⟩ (.int .i64 dk)).setCell ⟨w.heap.size+2,0,none⟩ (.bool true)):=⟨by simp,fun k o hBk hk _=>by
    rw [hh _ (by omega) (by omega)];exact hk⟩
   have bl:Below w.heap.size w ((W.setCell ⟨w.heap.size+1,0,none⟩ (.int .i64 dk)).setCell ⟨w.heap.size+2,0,none⟩ (.bool true)):=
    (HB1.out.setCell (by show w.heap.size≤w.heap.size+1;omega) _).setCell (by show w.heap.size≤w.heap.size+2;omega) _
   exact⟨kf,⟨rfl,pre,i,rfl,HP.out,by rw [HN.out];exact HE.out,by rw [HD.out];exact key⟩,bl⟩
  ·have HE:=Lib.hid he
   have he2:(nk.toList==s.toList)=false:=by
    rw [beq_eq_false_iff_ne];exact fun h=>he (toList_inj h)
   clear he
   gi_wp2
   refine⟨KeepsFrom.refl _ _,Below.refl _ _,⟨⟨HM.out,fun j hj=>?_⟩,HB1.out⟩⟩
   rcases List.mem_append.1 hj with h1|h1
   ·exact HP.out j h1
   ·obtain rfl:j=i:=by simpa using h1
    rw [HN.out];exact HE.out
 case done=>
  rintro D xs W hD rfl ⟨⟨hm,hpre⟩,hB1⟩ hK
  have HM:=Lib.hid hm
  have HB1:=Lib.hid hB1
  have HP:=Lib.hid hpre
  have r0:W.cell? ⟨w.heap.size+1,0,none⟩=some (.int .i64 0):=cell_of_row _ _ _ _ _ _ hm.res
  have rk:W.cell? ⟨w.heap.size+1+1,0,none⟩=some (.bool false):=cell_of_row _ _ _ _ _ _ hm.ok
  have rf:∀j,W.frozen? ⟨w.heap.size+1,j,none⟩=false:=fun j=>Joins.unfrozen_of_block hm.res j
  have rg:∀j,W.frozen? ⟨w.heap.size+1+1,j,none⟩=false:=fun j=>Joins.unfrozen_of_block hm.ok j
  clear hm hB1 hpre
  gi_wp2
  have hDW:=(Array.getElem?_eq_some_iff.1 hK).1
  have hs1:=HM.out.size
  have hh:∀k,k≠w.heap.size+1→k≠w.heap.size+2→((W.setCell ⟨w.heap.size+1,0,none⟩ (.int .i64 0)).setCell ⟨w.heap.size+2,0,none⟩ (.bool false)).heap[k]? =W.heap[k]?:=fun k hk hk2=>(Below.heap_setCell _ _ _ _ hk2).trans (Below.heap_setCell _ _ _ _ hk)
  have m2:LkMem w.heap.size s 0 false ((W.setCell ⟨w.heap.size+1,0,none⟩ (.int .i64 0)).setCell ⟨w.heap.size+2,0,none⟩ (.bool false)):=by
   exact sz20
  have bl:Below w.heap.size w ((W.setCell ⟨w.heap.size+1,0,none⟩ (.int .i64 0)).setCell ⟨w.heap.size+2,0,none⟩ (.bool false)):=
   (HB1.out.setCell (by show w.heap.size≤w.heap.size+1;omega) _).setCell (by show w.heap.size≤w.heap.size+2;omega) _
  have hK':((W.setCell ⟨w.heap.size+1,0,none⟩ (.int .i64 0)).setCell ⟨w.heap.size+2,0,none⟩ (.bool false)).heap[D]? =some (.deferred (some [])):=by rw [hh _ (by omega) (by omega)];exact hK
  refine⟨by simp,.inl ⟨_,_,rfl,run_takeDeferred hK', ?_⟩⟩
  have m3:=m2.own (grownBy_putObj' _ D (.deferred none)) (fun r e=>by cases e;exact⟨_,hK',rfl⟩)
  have bl3:=bl.trans (belowK_b (w:=w) (Nat.le_refl _) _ D _ (.deferred none) (by omega) hK' rfl rfl)
  show LeavesInM Fence.wide 6 Tryz.prog Tryz.f215 _ _ _ _ (((W.setCell ⟨w.heap.size+1,0,none⟩ (.int .i64 0)).setCell ⟨w.heap.size+2,0,none⟩ (.bool false)).putObj D (.deferred none))
  generalize(((W.setCell ⟨w.heap.size+1,0,none⟩ (.int .i64 0)).setCell ⟨w.heap.size+2,0,none⟩ (.bool false)).putObj D (.deferred none))=W9 at m3 bl3 ⊢
  have e0:W9.cell? ⟨w.heap.size+1,0,none⟩=some (.int .i64 0):=cell_of_row _ _ _ _ _ _ m3.res
  have ek:W9.cell? ⟨w.heap.size+1+1,0,none⟩=some (.bool false):=cell_of_row _ _ _ _ _ _ m3.ok
  have hn:lastN L s=none:=lastN_none L s (ByteArray.empty,0) fun j hj=>HP.out ⟨j,hj⟩ (backs_mem _ (by simp))
  refine⟨.tuple #[.int .i64 0,.bool false], ?_, ?_,.of_below bl3⟩
  ·simp [results,Tryz.f215,go_sem,e0,ek]
  ·rw [HS.out,hn]
 case stop=>
  rintro D c pre W hD ⟨k,hk,rfl⟩ ⟨⟨rfl,ini,i,hin,hini,hsi,hm1⟩,hB1⟩ hK
  have hm:=hm1.own (grownBy_putObj' W D (.deferred none)) (fun r e=>by cases e;exact⟨_,hK,rfl⟩)
  have bl3:=hB1.trans (belowK_b (w:=w) (Nat.le_refl _) W D _ (.deferred none) (by omega) hK rfl rfl)
  gi_wp2
  refine⟨by simp,.inl ⟨_,_,rfl,run_takeDeferred hK, ?_⟩⟩
  generalize W.putObj D (.deferred none)=W9 at hm bl3 ⊢
  have e0:W9.cell? ⟨w.heap.size+1,0,none⟩=some (.int .i64 (bdD L i.1)):=cell_of_row _ _ _ _ _ _ hm.res
  have ek:W9.cell? ⟨w.heap.size+1+1,0,none⟩=some (.bool true):=cell_of_row _ _ _ _ _ _ hm.ok
  have hii:L.length-1-k<L.length:=by omega
  rw [backs_succ _ _ ⟨L.length-1-k,hii⟩ hk rfl]at hin
  obtain⟨h1,h2⟩:=List.append_inj' hin rfl
  subst h1
  obtain rfl:(⟨L.length-1-k,hii⟩:Fin L.length)=i:=by simpa using h2
  have hn:lastN L s=some (bdD L (L.length-1-k)):=lastN_some L s (L.length-1-k) (ByteArray.empty,0) hii hsi fun j hj hjl=>hini ⟨j,hjl⟩ (backs_mem _ (by simp;omega))
  refine⟨.tuple #[.int .i64 (bdD L (L.length-1-k)),.bool true], ?_, ?_,.of_below bl3⟩
  ·simp [results,Tryz.f215,go_sem,e0,ek]
  ·rw [HS.out,hn]
theorem lookup_any(s:ByteArray)(L:List (ByteArray × Int))(v:Value)(w:World)(h:BindAt w v L):Calls Tryz.prog 215 #[.string s,v] w (LkP L s w):=by
 by_cases hs:inpD s.toList=0
 ·exact lookup_no s L v w h hs
 ·exact lookup_in s L v w h hs
end Go.Proofs.YtblkcgceefjmjaaGreatDoor
namespace Go.Proofs.YtblkcgceefjmjaaGreatDoor
def inVal(v:Vw)(k:Nat):Val:=(inputV v (inpNm k)).getD .zero
def opV(op:Int)(l:List Val):Val × Int:=if op≤6 then op1 op (l.getD 0 .zero)else op2 op (l.getD 0 .zero) (l.getD 1 .zero)
def runF(l:List Ins)(sl:List ByteArray)(v:Vw):Nat→Nat→List Val→List Val→List (ByteArray × Val)→List (ByteArray × Val) × Int
 |0,_,_,_,st=>(st,0)
 |f+1,i,stk,slots,st=>
  if l.length≤i then(st,0)
  else if(l.getD i default).op=1 then runF l sl v f (i+1) (stk++[⟨(l.getD i default).a,false,(l.getD i default).n,(l.getD i default).d⟩]) slots st
  else if(l.getD i default).op=2 then runF l sl v f (i+1) (stk++[inVal v (l.getD i default).a.toNat]) slots st
  else if(l.getD i default).op=3 then runF l sl v f (i+1) (stk++[slots.getD (l.getD i default).a.toNat .zero]) slots st
  else if(l.getD i default).op=4 then runF l sl v f (i+1) stk.dropLast (slots.set (l.getD i default).a.toNat (stk.getLastD .zero)) (st++[(sl.getD (l.getD i default).a.toNat ByteArray.empty,stk.getLastD .zero)])
  else if(l.getD i default).op=5 then(if(bestF v.years (l.getD i default).a).2.2=0 then runF l sl v f (i+1) (stk++[.num 4 (bestF v.years (l.getD i default).a).1 (bestF v.years (l.getD i default).a).2.1]) slots st else([],(bestF v.years (l.getD i default).a).2.2))
  else if(l.getD i default).op=23∨(l.getD i default).op=24 then runF l sl v f (i+1) (stk++[.truth (decide ((l.getD i default).op=23))]) slots st
  else if(l.getD i default).op=21 then runF l sl v f (l.getD i default).a.toNat stk slots st
  else if(l.getD i default).op=22 then runF l sl v f (if(stk.getLastD .zero).yes=true then i+1 else(l.getD i default).a.toNat) stk.dropLast slots st
  else if(opV (opF (l.getD i default).op) (stk.drop (stk.length-ariF (opF (l.getD i default).op)))).2=0 then
   runF l sl v f (i+1) (stk.take (stk.length-ariF (opF (l.getD i default).op))++[(opV (opF (l.getD i default).op) (stk.drop (stk.length-ariF (opF (l.getD i default).op)))).1]) slots st
  else([],(opV (opF (l.getD i default).op) (stk.drop (stk.length-ariF (opF (l.getD i default).op)))).2)
structure Fits(D:List Int)(s:List Int × List Bool)(stk slots:List Val):Prop where
 dims:stk.map Val.dim=s.1
 ok:∀x∈stk,x.ok=true
 slot:∀k,s.2.getD k false=true→(slots.getD k .zero).ok=true∧(slots.getD k .zero).dim=D.getD k 0
def At(F:List (Option (List Int × List Bool)))(D:List Int)(i:Nat)(stk slots:List Val):Prop:=∃s,F.getD i none=some s∧Fits D s stk slots
theorem Fits.to{F:List (Option (List Int × List Bool))}{D:List Int}{s:List Int × List Bool}{stk slots:List Val}{i:Nat}(h:Fits D s stk slots)(g:SubS s (F.getD i none)):At F D i stk slots:=by
 cases e:F.getD i none with
 |none=>rw [e]at g;exact g.elim
 |some t=>
  rw [e]at g
  exact⟨t,e,h.dims.trans g.1.symm,h.ok,fun k hk=>h.slot k (g.2 k hk)⟩
section
variable {l : List Ins} {m : Nat} {F : List (Option (List Int × List Bool))} {D : List Int} {i : Nat} {stk slots : List Val} {s : List Int × List Bool}
theorem Fits.push(h:Fits D s stk slots){x:Val}(hx:x.ok=true):Fits D (s.1++[x.dim],s.2) (stk++[x]) slots:=
 ⟨by rw [List.map_append,h.dims];rfl,fun y hy=>by
  rcases List.mem_append.1 hy with hy|hy
  ·exact h.ok y hy
  ·obtain rfl:y=x:=by simpa using hy
   exact hx,h.slot⟩
theorem Fits.len(h:Fits D s stk slots):stk.length=s.1.length:=by rw [←h.dims,List.length_map]
theorem last_map{l:List Val}(h:l≠[]):(l.map Val.dim).getLastD 0=(l.getLastD .zero).dim:=by
 rw [List.getLastD_eq_getLast?,List.getLastD_eq_getLast?,List.getLast?_map]
 cases e:l.getLast? with
 |none=>exact absurd (List.getLast?_eq_none_iff.1 e) h
 |some x=>rfl
theorem last_in{l:List Val}(h:l≠[]):l.getLastD .zero∈l:=by
 exact sz57
theorem Fits.pop(h:Fits D s stk slots):Fits D (s.1.dropLast,s.2) stk.dropLast slots:=
 ⟨by rw [←h.dims,List.map_dropLast],fun y hy=>h.ok y (List.dropLast_subset _ hy),h.slot⟩
theorem Cert.at(C:Cert l m F D)(hi:i<l.length)(h:At F D i stk slots):∃s s',Fits D s stk slots∧appA (l.getD i default) s D=some (s',D)∧s'.1.length≤24∧
 ((l.getD i default).op≠21→SubS s' (F.getD (i+1) none))∧((l.getD i default).op=21∨(l.getD i default).op=22→SubS s' (F.getD (l.getD i default).a.toNat none)):=by
 obtain⟨s,e,hf⟩:=h
 obtain⟨s0,s',e0,h1,h2,h3,h4⟩:=C.step i hi
 rw [e]at e0
 obtain rfl:=Option.some.inj e0
 exact⟨s,s',hf,h1,h2,h3,h4⟩
theorem wf_lit{n:Nat}{x:Ins}(h:wfF m n i x=true)(h1:x.op=1):2≤x.a∧x.a≤4∧vfrac x.n x.d=true:=by
 unfold wfF at h
 rw [if_pos h1]at h
 simp only [Bool.and_eq_true,decide_eq_true_eq]at h
 exact⟨by omega,by omega,h.2⟩
theorem wf_rest{n:Nat}{x:Ins}(h:wfF m n i x=true)(h1:x.op≠1):(x.n=0∧x.d=0)∧(x.op=2→0≤x.a∧x.a<11)∧(x.op=3∨x.op=4→0≤x.a∧x.a<m)∧(x.op=5→1≤x.a∧x.a≤45)∧
 (x.op=21∨x.op=22→(i:Int)<x.a∧x.a≤n)∧(x.op≠2→x.op≠3→x.op≠4→x.op≠5→x.op≠21→x.op≠22→x.op≠23→x.op≠24→opF x.op≠0):=by
 unfold wfF at h
 rw [if_neg h1]at h
 by_cases hz:¬(x.n=0∧x.d=0)
 ·rw [if_pos hz]at h;cases h
 rw [if_neg hz]at h
 refine⟨by omega,fun c=>?_,fun c=>?_,fun c=>?_,fun c=>?_,fun c2 c3 c4 c5 c21 c22 c23 c24=>?_⟩
 ·rw [if_pos c]at h;simpa using h
 ·rw [if_neg (by omega),if_pos c]at h;simpa using h
 ·rw [if_neg (by omega),if_neg (by omega),if_pos c]at h;simpa using h
 ·rw [if_neg (by omega),if_neg (by omega),if_neg (by omega),if_pos c]at h;simpa using h
 ·rw [if_neg (by omega),if_neg (by omega),if_neg (by omega),if_neg (by omega),if_neg (by omega)]at h
  simp only [decide_eq_true_eq]at h
  exact h.1
theorem step1(C:Cert l m F D)(hi:i<l.length)(h:At F D i stk slots)(o:(l.getD i default).op=1):At F D (i+1) (stk++[⟨(l.getD i default).a,false,(l.getD i default).n,(l.getD i default).d⟩]) slots:=by
 obtain⟨s,s',hf,h1,-,h3,-⟩:=C.at hi h
 have hw:=wf_lit (C.wf i hi) o
 unfold appA at h1
 rw [if_pos o]at h1
 obtain⟨rfl,-⟩:=Prod.mk.inj (Option.some.inj h1)
 exact(hf.push (x:=⟨(l.getD i default).a,false,(l.getD i default).n,(l.getD i default).d⟩) (Val.num_ok ⟨hw.1,hw.2.1⟩ hw.2.2)).to (h3 (by omega))
theorem inVal_ok{v:Vw}(hv:v.ok=true){k:Nat}(hk:k<11):(inVal v k).ok=true∧(inVal v k).dim=inDs.getD k 0:=by
 have key:∀k,k<11→inpD (inpNm k).toList=inDs.getD k 0∧inpD (inpNm k).toList≠0:=by decide+kernel
 obtain⟨k1,k2⟩:=key k hk
 unfold inVal
 cases e:inputV v (inpNm k)with
 |none=>exact absurd (inputV_none hv e) k2
 |some x=>
  obtain⟨a,b,-⟩:=inputV_some e
  exact⟨a,b.trans k1⟩
theorem step2{v:Vw}(hv:v.ok=true)(C:Cert l m F D)(hi:i<l.length)(h:At F D i stk slots)(o:(l.getD i default).op=2):At F D (i+1) (stk++[inVal v (l.getD i default).a.toNat]) slots:=by
 obtain⟨s,s',hf,h1,-,h3,-⟩:=C.at hi h
 have hw:=(wf_rest (C.wf i hi) (by omega)).2.1 o
 have hx:=inVal_ok hv (k:=(l.getD i default).a.toNat) (by omega)
 unfold appA at h1
 rw [if_neg (by omega),if_pos o]at h1
 obtain⟨rfl,-⟩:=Prod.mk.inj (Option.some.inj h1)
 have:=hf.push hx.1
 rw [hx.2]at this
 exact this.to (h3 (by omega))
theorem step3(C:Cert l m F D)(hi:i<l.length)(h:At F D i stk slots)(o:(l.getD i default).op=3):At F D (i+1) (stk++[slots.getD (l.getD i default).a.toNat .zero]) slots:=by
 obtain⟨s,s',hf,h1,-,h3,-⟩:=C.at hi h
 unfold appA at h1
 rw [if_neg (by omega),if_neg (by omega),if_neg (by omega),if_neg (by omega),if_pos o]at h1
 by_cases hb:s.2.getD (l.getD i default).a.toNat false=true
 ·rw [if_pos hb]at h1
  obtain⟨rfl,-⟩:=Prod.mk.inj (Option.some.inj h1)
  have hx:=hf.slot _ hb
  have:=hf.push hx.1
  rw [hx.2]at this
  exact this.to (h3 (by omega))
 ·rw [if_neg hb]at h1;cases h1
theorem step4(C:Cert l m F D)(hi:i<l.length)(h:At F D i stk slots)(hs:m≤slots.length)(o:(l.getD i default).op=4) :
 stk≠[]∧(stk.getLastD .zero).ok=true∧At F D (i+1) stk.dropLast (slots.set (l.getD i default).a.toNat (stk.getLastD .zero)):=by
 obtain⟨s,s',hf,h1,-,h3,-⟩:=C.at hi h
 have hw:=(wf_rest (C.wf i hi) (by omega)).2.2.1 (.inr o)
 unfold appA at h1
 rw [if_neg (by omega),if_neg (by omega),if_neg (by omega),if_neg (by omega),if_neg (by omega),if_pos o]at h1
 by_cases he:s.1= []
 ·rw [if_pos he]at h1;cases h1
 rw [if_neg he]at h1
 have hne:stk≠[]:=fun e=>he (by rw [←hf.dims,e];rfl)
 obtain⟨rfl,hD⟩:=Prod.mk.inj (Option.some.inj h1)
 have hlast:=hf.ok _ (last_in hne)
 refine⟨hne,hlast, ?_⟩
 have hp:=hf.pop
 have hdim:(stk.getLastD .zero).dim=(D.set (l.getD i default).a.toNat (s.1.getLastD 0)).getD (l.getD i default).a.toNat 0:=by
  rw [getD_setI,←hf.dims,last_map hne]
  split
  ·rfl
  ·rename_i c
   exact absurd ⟨rfl,by rw [C.dlen];have:=C.m12;omega⟩ c
 refine Fits.to (s:=(s.1.dropLast,s.2.set (l.getD i default).a.toNat true)) ⟨hp.dims,hp.ok,fun k hk=>?_⟩ (h3 (by omega))
 rw [getD_setI]
 by_cases e:(l.getD i default).a.toNat=k
 ·subst e
  rw [if_pos ⟨rfl,by omega⟩]
  rw [hD]at hdim
  exact⟨hlast,hdim⟩
 ·rw [if_neg (fun c=>e c.1)]
  rw [getD_setI,if_neg (fun c=>e c.1)]at hk
  exact hf.slot k hk
theorem step5(C:Cert l m F D)(hi:i<l.length)(h:At F D i stk slots)(o:(l.getD i default).op=5){n d:Int}(hv:vfrac n d=true):At F D (i+1) (stk++[.num 4 n d]) slots:=by
 obtain⟨s,s',hf,h1,-,h3,-⟩:=C.at hi h
 unfold appA at h1
 rw [if_neg (by omega),if_neg (by omega),if_pos o]at h1
 obtain⟨rfl,-⟩:=Prod.mk.inj (Option.some.inj h1)
 exact(hf.push (x:=.num 4 n d) (Val.num_ok (by omega) hv)).to (h3 (by omega))
theorem step23(C:Cert l m F D)(hi:i<l.length)(h:At F D i stk slots)(o:(l.getD i default).op=23∨(l.getD i default).op=24)(b:Bool):At F D (i+1) (stk++[.truth b]) slots:=by
 obtain⟨s,s',hf,h1,-,h3,-⟩:=C.at hi h
 unfold appA at h1
 rw [if_neg (by omega),if_neg (by omega),if_neg (by omega),if_pos o]at h1
 obtain⟨rfl,-⟩:=Prod.mk.inj (Option.some.inj h1)
 exact(hf.push (x:=.truth b) (by simp [Val.ok,Val.truth])).to (h3 (by omega))
theorem step21(C:Cert l m F D)(hi:i<l.length)(h:At F D i stk slots)(o:(l.getD i default).op=21):At F D (l.getD i default).a.toNat stk slots:=by
 obtain⟨s,s',hf,h1,-,-,h4⟩:=C.at hi h
 unfold appA at h1
 rw [if_neg (by omega),if_neg (by omega),if_neg (by omega),if_neg (by omega),if_neg (by omega),if_neg (by omega),if_neg (by omega),if_pos o]at h1
 obtain⟨rfl,-⟩:=Prod.mk.inj (Option.some.inj h1)
 exact hf.to (h4 (.inl o))
theorem step22(C:Cert l m F D)(hi:i<l.length)(h:At F D i stk slots)(o:(l.getD i default).op=22):stk≠[]∧At F D (i+1) stk.dropLast slots∧At F D (l.getD i default).a.toNat stk.dropLast slots:=by
 obtain⟨s,s',hf,h1,-,h3,h4⟩:=C.at hi h
 unfold appA at h1
 rw [if_neg (by omega),if_neg (by omega),if_neg (by omega),if_neg (by omega),if_neg (by omega),if_neg (by omega),if_pos o]at h1
 by_cases he:s.1= []∨s.1.getLastD 0≠1
 ·rw [if_pos he]at h1;cases h1
 rw [if_neg he]at h1
 obtain⟨rfl,-⟩:=Prod.mk.inj (Option.some.inj h1)
 exact⟨fun e=>he (.inl (by rw [←hf.dims,e];rfl)),hf.pop.to (h3 (by omega)),hf.pop.to (h4 (.inr o))⟩
theorem opF_bd(op:Int)(h:opF op≠0):4≤opF op∧opF op≤20∧opF op≠17∧opF op≠18:=by
 unfold opF at *
 repeat' split at h
 all_goals simp_all
 all_goals omega
theorem stepO(C:Cert l m F D)(hi:i<l.length)(h:At F D i stk slots)(o:(l.getD i default).op≠1∧(l.getD i default).op≠2∧(l.getD i default).op≠3∧(l.getD i default).op≠4∧(l.getD i default).op≠5∧(l.getD i default).op≠21∧(l.getD i default).op≠22∧(l.getD i default).op≠23∧(l.getD i default).op≠24) :
 ariF (opF (l.getD i default).op)≤stk.length∧okR (resD (opF (l.getD i default).op) ((stk.drop (stk.length-ariF (opF (l.getD i default).op))).map Val.dim)) (opV (opF (l.getD i default).op) (stk.drop (stk.length-ariF (opF (l.getD i default).op))))∧
  resD (opF (l.getD i default).op) ((stk.drop (stk.length-ariF (opF (l.getD i default).op))).map Val.dim)≠0∧
  ∀x:Val,x.ok=true→x.dim=resD (opF (l.getD i default).op) ((stk.drop (stk.length-ariF (opF (l.getD i default).op))).map Val.dim)→At F D (i+1) (stk.take (stk.length-ariF (opF (l.getD i default).op))++[x]) slots:=by
 obtain⟨s,s',hf,h1,-,h3,-⟩:=C.at hi h
 have hop:=(wf_rest (C.wf i hi) o.1).2.2.2.2.2 (by omega) (by omega) (by omega) (by omega) (by omega) (by omega) (by omega) (by omega)
 have hbd:=opF_bd _ hop
 unfold appA at h1
 rw [if_neg (by omega),if_neg (by omega),if_neg (by omega),if_neg (by omega),if_neg (by omega),if_neg (by omega),if_neg (by omega),if_neg (by omega)]at h1
 have hlen:=hf.len
 have h3':=h3 (by omega)
 generalize opF (l.getD i default).op=op at *
 by_cases hn:s.1.length<ariF op
 ·rw [if_pos hn]at h1;cases h1
 rw [if_neg hn]at h1
 rw [hlen]
 have hdr:(stk.drop (s.1.length-ariF op)).map Val.dim=s.1.drop (s.1.length-ariF op):=by rw [List.map_drop,hf.dims]
 rw [hdr]
 by_cases hr:resD op (s.1.drop (s.1.length-ariF op))=0
 ·rw [if_pos hr]at h1;cases h1
 rw [if_neg hr]at h1
 obtain⟨rfl,-⟩:=Prod.mk.inj (Option.some.inj h1)
 refine⟨by omega, ?_,hr,fun x hx hd=>?_⟩
 ·have hl:(stk.drop (s.1.length-ariF op)).length=ariF op:=by rw [List.length_drop];omega
  have hok:∀y∈stk.drop (s.1.length-ariF op),y.ok=true:=fun y hy=>hf.ok y (List.mem_of_mem_drop hy)
  rw [←hdr]at hr ⊢
  generalize stk.drop (s.1.length-ariF op)=L at *
  by_cases h6:op≤6
  ·have ha:ariF op=1:=by unfold ariF;rw [if_pos (by omega)]
   rw [ha]at hl
   obtain⟨a,rfl⟩:=List.length_eq_one_iff.1 hl
   unfold opV
   rw [if_pos h6]
   exact op1_ok (hok a (by simp)) hbd.1 h6 hr
  ·have ha:ariF op=2:=by unfold ariF;rw [if_neg (by omega)]
   rw [ha]at hl
   obtain⟨a,b,rfl⟩:∃a b,L= [a,b]:=by
    match L,hl with
    | [a,b],_=>exact⟨a,b,rfl⟩
   unfold opV
   rw [if_neg h6]
   exact op2_ok (hok a (by simp)) (hok b (by simp)) (by omega) hbd.2.1 hbd.2.2.1 hbd.2.2.2 hr
 ·have hp:Fits D (s.1.take (s.1.length-ariF op),s.2) (stk.take (s.1.length-ariF op)) slots:=⟨by rw [List.map_take,hf.dims],fun y hy=>hf.ok y (List.mem_of_mem_take hy),hf.slot⟩
  have:=hp.push hx
  rw [hd]at this
  exact this.to h3'
end
end Go.Proofs.YtblkcgceefjmjaaGreatDoor
namespace Go.Proofs.YtblkcgceefjmjaaGreatDoor
open Go.RowKit
def YrAt(w:World)(v:Value)(l:List Int):Prop:=
 l.length≤1000∧∃a cap,v= .slice a l.length cap∧(l.length=0∨∃b off,a=some ⟨b,off,none⟩∧b<w.heap.size∧∀i,i<l.length→w.cell? ⟨b,off+i,none⟩=some (.int .i64 (l.getD i 0)))
theorem YrAt.below{w w':World}{v:Value}{l:List Int}{n:Nat}(h:YrAt w v l)(hn:w.heap.size≤n)(hb:Below n w w'):YrAt w' v l:=by
 obtain⟨h0,a,cap,hv,h1⟩:=h
 refine⟨h0,a,cap,hv,h1.imp id ?_⟩
 rintro⟨b,off,ha,hlt,hc⟩
 refine⟨b,off,ha,Nat.lt_of_lt_of_le hlt hb.size,fun i hi=>?_⟩
 rw [hb.cell (p:=⟨b,off+i,none⟩) (Nat.lt_of_lt_of_le hlt hn)]
 exact hc i hi
theorem YrAt.grows{w w':World}{v:Value}{l:List Int}(h:YrAt w v l)(hg:w.Grows w'):YrAt w' v l:=h.below (Nat.le_refl _) hg.below
theorem YrAt.grow{w:World}{v:Value}{l:List Int}(h:YrAt w v l)(bs:Array Obj)(d:Nat):YrAt (w.grow bs d) v l:=h.grows ⟨bs,d,rfl⟩
theorem YrAt.alloc{w:World}{v:Value}{l:List Int}(h:YrAt w v l)(o:Obj):YrAt (w.alloc o) v l:=h.below (Nat.le_refl _) ((Below.refl _ _).alloc (Nat.le_refl _) _)
theorem years_any(l:List Int):(List.range l.length).any (fun k=>!decide (0≤l.getD k 0∧l.getD k 0≤1000000000000))=!l.all fun x=>decide (0≤x∧x≤1000000000000):=by
 induction l with
 |nil=>rfl
 |cons p r ih=>
  rw [List.length_cons,List.range_succ_eq_map,List.any_cons,List.any_map,List.all_cons,Bool.not_and,←ih]
  rfl
def PredI(g:FuncId)(lb:Array Value)(l:List Int)(p:Nat→Bool)(w:World):Prop:=
 ∀k,k<l.length→∀w',w.Grows w'→Calls Tryz.prog g (#[.int .i64 (l.getD k 0)]++lb) w' fun r w''=>r= .returned (.bool (p k))∧w'.Grows w''
theorem idxI_any(g:FuncId)(lb:Array Value)(eg:∀args w,(callFunc g args).run Tryz.prog w= .ok (.enter g args) w)(l:List Int)(v:Value)(p:Nat→Bool)(w:World)(h:YrAt w v l)(hp:Hid (PredI g lb l p w)) :
 Calls Tryz.prog 163 #[v,.func (.func g) #[] lb] w fun r w'=>(∃z,r= .returned (.int .i64 z)∧IdxE l.length p z)∧w.Grows w':=by
 obtain⟨hlen,a,cap,rfl,hc⟩:=h
 have Hc:=Lib.hid hc
 clear hc
 go_enter Tryz.func163,Tryz.ntmps163
 go_wp2_with fail
 go_loopw [5,8] (fun _ v8 wr=>∃k:Nat,k≤l.length∧v8= .int .i64 k∧Hid (∀j,j<k→p j=false)∧w.Grows wr) (fun _ v8 _=>l.length-(intOf v8).toNat)
 case atStart=>exact⟨0,by omega,rfl,Lib.hid (fun j hj=>by omega),.refl _⟩
 case round=>
  obtain⟨k,hk,rfl,hno,hgr⟩:=hrel
  have HG:=Lib.hid hgr
  by_cases hlt2:k<l.length
  ·rcases Hc.out with h0|⟨b,off,rfl,hbw,hx⟩
   ·omega
   ·have y0:wr.cell? ⟨b,off+k,none⟩=some (.int .i64 (l.getD k 0)):=by rw [hgr.below.cell (p:=⟨b,off+k,none⟩) hbw];exact hx k hlt2
    clear hx
    have d1:(k:Int)<(l.length:Int):=by omega
    have hcall:=hp.out k hlt2 _ hgr
    generalize l.getD k 0=dk at *
    have HLT:=Lib.hid hlt2
    clear hgr
    cases hq:p k with
    |true=>
     rw [hq]at hcall
     have HQ:=Lib.hid hq
     clear hq
     have HCL:=Lib.hid hcall
     clear hcall
     go_wp2_with (go_at_fn g;refine HCL.out.mono ?_;rintro e' w' ⟨rfl,hg2⟩;have HG2:=Lib.hid hg2;clear hg2)
     go_returns
     exact⟨⟨_,rfl,.inr ⟨k,HLT.out,rfl,HQ.out⟩⟩,World.Grows.trans HG.out HG2.out⟩
    |false=>
     rw [hq]at hcall
     have HQ:=Lib.hid hq
     clear hq
     have HCL:=Lib.hid hcall
     clear hcall
     go_wp2_with (go_at_fn g;refine HCL.out.mono ?_;rintro e' w' ⟨rfl,hg2⟩;have HG2:=Lib.hid hg2;clear hg2)
     go_roundw
     case rel=>exact⟨k+1,by omega,by go_num,Lib.hid (fun j hj=>by
      by_cases ej:j=k
      ·subst ej;exact HQ.out
      ·exact hno.out j (by omega)),World.Grows.trans HG.out HG2.out⟩
     case measure=>simp [intOf];omega
  ·obtain rfl:k=l.length:=by omega
   clear hgr
   go_wp2_with fail
   go_returns
   exact⟨⟨_,rfl,.inl ⟨rfl,hno.out⟩⟩,HG.out⟩
theorem containsI_any(g:FuncId)(lb:Array Value)(eg:∀args w,(callFunc g args).run Tryz.prog w= .ok (.enter g args) w)(l:List Int)(v:Value)(p:Nat→Bool)(w:World)(h:YrAt w v l)(hp:Hid (PredI g lb l p w)) :
 Calls Tryz.prog 228 #[v,.func (.func g) #[] lb] w fun r w'=>r= .returned (.bool ((List.range l.length).any p))∧w.Grows w':=by
 have HI:=Lib.hid (idxI_any g lb eg l v p w h hp)
 obtain⟨-,a,cap,rfl,-⟩:=h
 clear hp
 generalize hX:(List.range l.length).any p=X
 have HX:=Lib.hid hX
 clear hX
 go_enter Tryz.func228,Tryz.ntmps228
 go_wp2_with (go_at_call 163;refine HI.out.mono ?_;rintro e' w' ⟨⟨z,rfl,hz⟩,bs2,d2,rfl⟩;have HZ:=Lib.hid hz.any;clear hz)
 go_returns
 exact⟨ret_bool (by rw [←HX.out,←HZ.out]),.of_below belB⟩
theorem badY_clos:∀args w,(callFunc 229 args).run Tryz.prog w= .ok (.enter 229 args) w:=enters_of Tryz.func229 (by kernel_rfl) rfl
theorem badY_one(d:Int)(w:World):Calls Tryz.prog 229 #[.int .i64 d] w fun r w'=>r= .returned (.bool (!decide (0≤d∧d≤1000000000000)))∧w.Grows w':=by
 by_cases h1:d<0
 ·go_enter Tryz.func229,Tryz.ntmps229
  exact sz16
 ·by_cases h2:d > 1000000000000
  ·go_enter Tryz.func229,Tryz.ntmps229
   exact sz16
  ·go_enter Tryz.func229,Tryz.ntmps229
   exact sz16
theorem validYears_any(l:List Int)(v:Value)(w:World)(h:YrAt w v l):Calls Tryz.prog 176 #[v] w fun r w'=>r= .returned (.bool (yearsOk l))∧w.Grows w':=by
 have HV:=Lib.hid h
 have HCB:Hid (∀w',w.Grows w'→Calls Tryz.prog 228 #[v,.func (.func 229) #[] #[]] w' fun r w''=>r= .returned (.bool (!l.all fun x=>decide (0≤x∧x≤1000000000000)))∧w'.Grows w''):=
  Lib.hid (fun w' hg=>by
   have:=containsI_any 229 #[] badY_clos l v (fun k=>!decide (0≤l.getD k 0∧l.getD k 0≤1000000000000)) w' (HV.out.grows hg) (Lib.hid (fun k hk w2 h2=>badY_one _ w2))
   rw [years_any]at this
   exact this)
 obtain⟨h1000,a,cap,rfl,-⟩:=h
 have HF:Hid (yearsOk l=(decide (l.length≤200)&&l.all fun x=>decide (0≤x∧x≤1000000000000))):=Lib.hid rfl
 generalize(l.all fun x=>decide (0≤x∧x≤1000000000000))=Q at HCB HF
 by_cases hn:(l.length:Int)≤200
 ·cases Q
  all_goals
   go_enter Tryz.func176,Tryz.ntmps176
   go_wp2_with (go_at_call 228;refine(HCB.out _ (.of_below belB)).mono ?_;rintro e' w' ⟨rfl,bs2,d2,rfl⟩)
   go_returns
   exact⟨ret_bool (by rw [HF.out];simp;try omega),.of_below belB⟩
 ·go_enter Tryz.func176,Tryz.ntmps176
  go_wp2_with fail
  go_returns
  exact⟨ret_bool (by rw [HF.out,decide_eq_false (by omega)];rfl),.of_below belB⟩
end Go.Proofs.YtblkcgceefjmjaaGreatDoor
namespace Go.Proofs.YtblkcgceefjmjaaGreatDoor
def mopF(op:Int):Int:=if op=4 then 6 else if op=5 then 7 else if op=6 then 8 else if op=19 then 19 else if op=20 then 20 else op+2
def inpK(s:ByteArray):Option Nat:=inpN.findIdx? fun p=>decide (p.1=s)
def slK(sl:List ByteArray)(s:ByteArray):Nat:=(sl.findIdx? fun x=>decide (x=s)).getD 0
def nameI(κ:ByteArray→Nat)(s:ByteArray):Ins:=match inpK s with|some k=>⟨2,k,0,0⟩|none=>⟨3,κ s,0,0⟩
def seqC:List (Nat→List Ins)→Nat→List Ins
 | [],_=>[]
 |f::r,i=>f i++seqC r (i+(f i).length)
def brC(A B C:Nat→List Ins)(i:Nat):List Ins:=
 A i++⟨22,((i+(A i).length+1+(B (i+(A i).length+1)).length+1:Nat):Int),0,0⟩::(B (i+(A i).length+1)++
  ⟨21,((i+(A i).length+1+(B (i+(A i).length+1)).length+1+(C (i+(A i).length+1+(B (i+(A i).length+1)).length+1)).length:Nat):Int),0,0⟩::C (i+(A i).length+1+(B (i+(A i).length+1)).length+1))
def codeNode(κ:ByteArray→Nat)(op n d m:Int)(s:ByteArray)(fs:List (Nat→List Ins))(i:Nat):List Ins:=
 if op=1 then [⟨1,m,n,d⟩]else if op=2 then [nameI κ s]else if op=3 then [⟨5,n,0,0⟩]
 else if op=17 then brC (fs.getD 0 fun _=>[]) (fs.getD 1 fun _=>[]) (fun _=>[⟨24,0,0,0⟩]) i
 else if op=18 then brC (fs.getD 0 fun _=>[]) (fun _=>[⟨23,0,0,0⟩]) (fs.getD 1 fun _=>[]) i
 else if op=21 then brC (fs.getD 0 fun _=>[]) (fs.getD 1 fun _=>[]) (fs.getD 2 fun _=>[]) i
 else seqC fs i++[⟨mopF op,0,0,0⟩]
mutual
def codeF(κ:ByteArray→Nat):Ex→Nat→List Ins
 | .mk op n d m s l=>codeNode κ op n d m s (codesF κ l)
def codesF(κ:ByteArray→Nat):List Ex→List (Nat→List Ins)
 | []=>[]
 |e::r=>codeF κ e::codesF κ r
end
def Lies(l:List Ins)(i:Nat)(c:List Ins):Prop:=i+c.length≤l.length∧∀k,k<c.length→l.getD (i+k) default=c.getD k default
theorem Lies.left{l:List Ins}{i:Nat}{a b:List Ins}(h:Lies l i (a++b)):Lies l i a:=by
 obtain⟨h1,h2⟩:=h
 rw [List.length_append]at h1
 refine⟨by omega,fun k hk=>?_⟩
 rw [h2 k (by rw [List.length_append];omega)]
 simp [List.getD_eq_getElem?_getD,List.getElem?_append_left hk]
theorem Lies.right{l:List Ins}{i:Nat}{a b:List Ins}(h:Lies l i (a++b)):Lies l (i+a.length) b:=by
 obtain⟨h1,h2⟩:=h
 rw [List.length_append]at h1
 refine⟨by omega,fun k hk=>?_⟩
 have:=h2 (a.length+k) (by rw [List.length_append];omega)
 rw [Nat.add_assoc,this]
 simp [List.getD_eq_getElem?_getD,List.getElem?_append_right (Nat.le_add_right a.length k)]
theorem Lies.head{l:List Ins}{i:Nat}{x:Ins}{b:List Ins}(h:Lies l i (x::b)):i<l.length∧l.getD i default=x∧Lies l (i+1) b:=by
 have hl:=Lies.left (a:=[x]) (b:=b) h
 have hr:=Lies.right (a:=[x]) (b:=b) h
 obtain⟨h1,h2⟩:=hl
 have:=h2 0 (by simp)
 exact⟨by simp at h1;omega,this,hr⟩
section
variable (l : List Ins) (sl : List ByteArray) (v : Vw) (slots : List Val) (st : List (ByteArray × Val))
def To(i:Nat)(stk:List Val)(j:Nat)(stk':List Val):Prop:=∀f,l.length≤f+i→∃g,l.length≤g+j∧runF l sl v f i stk slots st=runF l sl v g j stk' slots st
def Errs(i:Nat)(stk:List Val)(c:Int):Prop:=∀f,l.length≤f+i→runF l sl v f i stk slots st=([],c)
def Gives(i:Nat)(stk:List Val)(j:Nat)(r:Val × Int):Prop:=if r.2=0 then To l sl v slots st i stk j (stk++[r.1])else Errs l sl v slots st i stk r.2
variable {l sl v slots st} {i j k : Nat} {stk s1 s2 : List Val} {c : Int}
theorem To.refl:To l sl v slots st i stk i stk:=fun f hf=>⟨f,hf,rfl⟩
theorem To.trans(h:To l sl v slots st i stk j s1)(g:To l sl v slots st j s1 k s2):To l sl v slots st i stk k s2:=fun f hf=>by
 obtain⟨f1,h1,e1⟩:=h f hf
 obtain⟨f2,h2,e2⟩:=g f1 h1
 exact⟨f2,h2,e1.trans e2⟩
theorem To.one{n:Nat}{s':List Val}(hi:i<l.length)(hn:i<n)(h:∀f,runF l sl v (f+1) i stk slots st=runF l sl v f n s' slots st):To l sl v slots st i stk n s':=fun f hf=>by
 cases f with
 |zero=>omega
 |succ f=>exact⟨f,by omega,h f⟩
theorem Errs.one(hi:i<l.length)(h:∀f,runF l sl v (f+1) i stk slots st=([],c)):Errs l sl v slots st i stk c:=fun f hf=>by
 cases f with
 |zero=>omega
 |succ f=>exact h f
end
theorem inpK_some{s:ByteArray}{k:Nat}(h:inpK s=some k):k<11∧inpNm k=s:=by
 unfold inpK at h
 obtain⟨h1,h2,-⟩:=List.findIdx?_eq_some_iff_getElem.1 h
 have hl:inpN.length=11:=rfl
 refine⟨by omega, ?_⟩
 have h3:(inpN[k]).1=s:=by simpa using h2
 unfold inpNm
 rw [List.getD_eq_getElem?_getD,List.getElem?_eq_getElem h1]
 exact h3
theorem inpK_none{s:ByteArray}(h:inpK s=none):inpD s.toList=0:=by
 have hne:∀p∈inpN,p.1≠s:=fun p hp=>by
  have:=List.findIdx?_eq_none_iff.1 h p hp
  simpa using this
 have back:∀t:List UInt8,s.toList=t→s=⟨t.toArray⟩:=fun t ht=>by
  apply ByteArray.ext
  rw [←ht,ByteArray.toList_eq]
 unfold inpD
 (repeat' split)<;>first
  |rfl
  |(exfalso
    rename_i hs
    rcases hs with hs|hs|hs|hs|hs|hs|hs<;>(obtain rfl:=back _ hs;exact absurd h (by decide+kernel)))
  |(exfalso
    rename_i hs
    rcases hs with hs|hs|hs<;>(obtain rfl:=back _ hs;exact absurd h (by decide+kernel)))
  |(exfalso
    rename_i hs
    obtain rfl:=back _ hs
    exact absurd h (by decide+kernel))
theorem formeds_all:∀{l:List Ex},formedsB l=true→∀a∈l,formedB a=true
 |e::r,h,a,ha=>by
  rw [formedsB,Bool.and_eq_true]at h
  rcases List.mem_cons.1 ha with rfl|ha
  ·exact h.1
  ·exact formeds_all h.2 a ha
theorem ments_of{s:ByteArray}:∀{l:List Ex} {a:Ex},a∈l→mentB s a=true→mentsB s l=true
 |e::r,a,ha,h=>by
  rw [mentsB,Bool.or_eq_true]
  rcases List.mem_cons.1 ha with rfl|ha
  ·exact .inl h
  ·exact .inr (ments_of ha h)
section
variable {v : Vw} {env : List (ByteArray × Val)} {κ : ByteArray → Nat} {sl : List ByteArray} {slots : List Val}
end
end Go.Proofs.YtblkcgceefjmjaaGreatDoor
namespace Go.Proofs.YtblkcgceefjmjaaGreatDoor
open Go.RowKit
theorem operM_any(op:Int)(h:0≤op∧op≤100)(w:World):Calls Tryz.prog 175 #[.int .i64 op] w fun e w'=>e= .returned (.int .i64 (mopF op))∧w=w':=by
 have HM:=Lib.hid (show mopF op=_ from rfl)
 by_cases h4:op=4
 ·subst h4
  exact sz37
 by_cases h5:op=5
 ·subst h5
  exact sz37
 by_cases h6:op=6
 ·subst h6
  exact sz37
 by_cases h19:op=19
 ·subst h19
  exact sz37
 by_cases h20:op=20
 ·subst h20
  exact sz37
 have b4:(op==4)=false:=by simpa using h4
 have b5:(op==5)=false:=by simpa using h5
 have b6:(op==6)=false:=by simpa using h6
 have b19:(op==19)=false:=by simpa using h19
 have b20:(op==20)=false:=by simpa using h20
 have HE:=Lib.hid (show mopF op=op-7+9 by unfold mopF;rw [if_neg h4,if_neg h5,if_neg h6,if_neg h19,if_neg h20];omega)
 clear h4 h5 h6 h19 h20 HM
 have w1:IntKind.i64.wrap (op-7)=op-7:=IntWalk.i64_in _ (by omega)
 have w2:IntKind.i64.wrap (op-7+9)=op-7+9:=IntWalk.i64_in _ (by omega)
 go_enter Tryz.func175,Tryz.ntmps175
 go_wp2_with fail
 go_returns
 exact⟨by rw [HE.out];rfl,rfl⟩
def inpI(s:ByteArray):Int:=match inpK s with|some k=>(k:Int)|none=>-1
theorem inpK_not{s:ByteArray}(h:∀j,j<11→inpNm j≠s):inpK s=none:=by
 cases hk:inpK s with
 |none=>rfl
 |some k=>exact absurd (inpK_some hk).2 (h k (inpK_some hk).1)
theorem inpK_at{s:ByteArray}{k:Nat}(hk:k<11)(hs:inpNm k=s):inpK s=some k:=by
 subst hs
 have key:∀k,k<11→inpK (inpNm k)=some k:=by decide+kernel
 exact key k hk
theorem inpI_at{s:ByteArray}{k:Nat}(hk:k<11)(hs:inpNm k=s):inpI s=k:=by unfold inpI;rw [inpK_at hk hs]
theorem inpI_not{s:ByteArray}(h:∀j,j<11→inpNm j≠s):inpI s= -1:=by unfold inpI;rw [inpK_not h]
theorem inputM_any(s:ByteArray)(w:World):Calls Tryz.prog 174 #[.string s] w fun e w'=>e= .returned (.int .i64 (inpI s))∧w.Grows w':=by
 go_enter Tryz.func174,Tryz.ntmps174
 go_wp2_with (go_at_call 76;refine(Names_any _).mono ?_;rintro e' w' ⟨rfl,rfl⟩)
 go_loopw [4] (fun v4 wr=>∃k:Nat,k≤11∧v4= .int .i64 k∧Hid (∀j,j<k→inpNm j≠s)∧World.Grows (w.alloc (.cells inpA 9)) wr) (fun v4 _=>11-(intOf v4).toNat)
 case atStart=>exact⟨0,by omega,rfl,Lib.hid (fun j hj=>by omega),growsR⟩
 case round=>
  obtain⟨k,hk,rfl,HN,hg⟩:=hrel
  have HG:=Lib.hid hg
  have hb:=(hg.below.block w.heap.size (by simp)).trans (heap_alloc_new _ _)
  have hl:=(Array.getElem?_eq_some_iff.1 hb).1
  by_cases hlt:k<11
  ·have c:=(cell_of_row wr _ k _ _ _ hb).trans (inpA_get k hlt)
   have d1:(k:Int)<11:=by omega
   have HLT:=Lib.hid hlt
   by_cases he:inpNm k=s
   ·have HI:=Lib.hid (inpI_at hlt he)
    rw [he]at c
    clear hb hg hlt hk he HN
    go_wp2_with fail
    go_returns
    exact⟨by rw [HI.out];rfl,World.Grows.trans' growsR HG.out⟩
   ·have HNN:Hid (∀j,j<k+1→inpNm j≠s):=Lib.hid (fun j hj=>by
     by_cases e:j=k
     ·subst e;exact he
     ·exact HN.out j (by omega))
    have q:((inpNm k).toList==s.toList)=false:=by
     have back:∀x:ByteArray,x=⟨x.toList.toArray⟩:=fun x=>by apply ByteArray.ext;rw [ByteArray.toList_eq]
     rw [beq_eq_false_iff_ne]
     exact fun e=>he ((back _).trans ((congrArg (fun l:List UInt8=>(⟨l.toArray⟩:ByteArray)) e).trans (back _).symm))
    generalize inpNm k=nm at *
    clear hb hg hlt hk he HN
    go_wp2_with fail
    go_roundw
    case rel=>exact⟨k+1,HLT.out,by go_num,HNN,World.Grows.trans' HG.out growsR⟩
    case measure=>simp [intOf];have:=HLT.out;omega
  ·obtain rfl:k=11:=by omega
   have HI:=Lib.hid (inpI_not HN.out)
   clear hb hg hlt hk
   go_wp2_with fail
   go_returns
   exact⟨by rw [HI.out];rfl,World.Grows.trans' growsR HG.out⟩
end Go.Proofs.YtblkcgceefjmjaaGreatDoor
namespace Go.Proofs.YtblkcgceefjmjaaGreatDoor
theorem zip_self(s:List Bool):List.zipWith (· && ·) s s=s:=by
 induction s with
 |nil=>rfl
 |cons b r ih=>rw [List.zipWith_cons_cons,ih];simp
def Ver(set:List Bool)(dims:List Int)(c:List Ins)(i:Nat)(t t':List Int):Prop:=
 ∀(S:List (Option (List Int × List Bool))) (dep:Nat),i+c.length<S.length→S.getD i none=some (t,set)→(∀j,i<j→j<i+c.length→S.getD j none=none)→
  (S.getD (i+c.length) none=none∨S.getD (i+c.length) none=some (t',set))→
  ∃S' dep',S'.length=S.length∧(∀j,i+c.length<j→S'.getD j none=S.getD j none)∧S'.getD (i+c.length) none=some (t',set)∧∀r,goA (c++r) i S dims dep=goA r (i+c.length) S' dims dep'
section
variable {set : List Bool} {dims : List Int} {i : Nat} {t t' t2 : List Int}
theorem putA_free{S:List (Option (List Int × List Bool))}{k:Nat}(h:S.getD k none=none∨S.getD k none=some (t,set)):putA S k (t,set)=some (S.set k (some (t,set))):=by
 unfold putA
 rcases h with h|h
 ·rw [h]
 ·rw [h];simp only [if_true];rw [zip_self]
theorem Ver.one{x:Ins}(h:appA x (t,set) dims=some ((t',set),dims))(hl:t'.length≤24)(h1:x.op≠21)(h2:x.op≠22):Ver set dims [x] i t t':=by
 intro S dep hi h0 _ hf
 have hp:=putA_free hf
 refine⟨S.set (i+1) (some (t',set)),max dep t'.length,List.length_set ..,fun j hj=>?_, ?_,fun r=>?_⟩
 ·simp only [List.length_singleton]at hj
  rw [getD_setI,if_neg (by omega)]
 ·simp only [List.length_singleton]at hi ⊢
  rw [getD_setI,if_pos ⟨rfl,hi⟩]
 ·show goA (x::r) i S dims dep=_
  rw [goA]
  have e:rndA S x i dims dep=some (S.set (i+1) (some (t',set)),dims,max dep t'.length):=by
   unfold rndA
   rw [h0]
   simp only [h]
   rw [if_neg (by show ¬24<t'.length;omega)]
   simp only [if_neg h1,if_neg (show ¬(x.op=21∨x.op=22)by omega)]
   simp only [List.length_singleton]at hp
   rw [hp]
  rw [e];rfl
theorem Ver.seq{a b:List Ins}(h:Ver set dims a i t t')(g:Ver set dims b (i+a.length) t' t2)(ha:a≠[])(hb:b≠[]):Ver set dims (a++b) i t t2:=by
 intro S dep hi h0 hn hf
 have la:0<a.length:=List.length_pos_iff.2 ha
 have lb:0<b.length:=List.length_pos_iff.2 hb
 rw [List.length_append]at hi hn hf ⊢
 obtain⟨S1,d1,k1,k2,k3,k4⟩:=h S dep (by omega) h0 (fun j h1 h2=>hn j h1 (by omega)) (.inl (hn _ (by omega) (by omega)))
 obtain⟨S2,d2,q1,q2,q3,q4⟩:=g S1 d1 (by omega) k3 (fun j h1 h2=>by rw [k2 j h1];exact hn j (by omega) (by omega)) (by rw [k2 _ (by omega),Nat.add_assoc];exact hf)
 refine⟨S2,d2,by omega,fun j hj=>?_,by rw [←Nat.add_assoc];exact q3,fun r=>?_⟩
 ·rw [q2 j (by omega),k2 j (by omega)]
 ·rw [List.append_assoc,k4,q4,Nat.add_assoc]
end
section
variable {env : List (ByteArray × Int)} {κ : ByteArray → Nat} {set : List Bool} {dims : List Int}
end
end Go.Proofs.YtblkcgceefjmjaaGreatDoor
