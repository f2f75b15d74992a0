import Derived.Test.YthionhbjmheimaaDoorLEvP
import Derived.Test.YthionhbjmheimaaDoorLK
import Derived.Laws.Strings
set_option linter.all false
set_option maxHeartbeats 16000000
set_option maxRecDepth 1000000
namespace Go.Proofs.YthionhbjmheimaaDoor
open Go.RowKit
theorem ret_int{a b:Int}(h:a=b):Ending.returned (.int .i64 a)= .returned (.int .i64 b):=by rw [h]
def Res5P(r:Int)(w:World)(e:Ending)(w':World):Prop:=e= .returned (.int .i64 r)∧w.Grows w'
theorem res5P{m r:Int}{w w':World}(h:m=r)(hg:w.Grows w'):Res5P r w (.returned (.int .i64 m)) w':=⟨by rw [h],hg⟩

theorem res5_4(x:Int)(b off cap:Nat)(w:World)(c0:w.cell? ⟨b,off,none⟩=some (.int .i64 x))(hX:1≤x):Calls Tryd.prog 79 #[.int .i64 4,.slice (some ⟨b,off,none⟩) 1 cap] w (Res5P (resD 4 [x]) w):=by
 have HR:Hid (resD 4 [x]=resD 4 [x]):=Lib.hid rfl
 generalize hR:resD 4 [x]=R at HR ⊢
 exact lz16
theorem res5_5(x:Int)(b off cap:Nat)(w:World)(c0:w.cell? ⟨b,off,none⟩=some (.int .i64 x))(hX:1≤x):Calls Tryd.prog 79 #[.int .i64 5,.slice (some ⟨b,off,none⟩) 1 cap] w (Res5P (resD 5 [x]) w):=by
 have HR:Hid (resD 5 [x]=resD 5 [x]):=Lib.hid rfl
 generalize hR:resD 5 [x]=R at HR ⊢
 exact lz16
theorem res5_6(x:Int)(b off cap:Nat)(w:World)(c0:w.cell? ⟨b,off,none⟩=some (.int .i64 x))(hX:1≤x):Calls Tryd.prog 79 #[.int .i64 6,.slice (some ⟨b,off,none⟩) 1 cap] w (Res5P (resD 6 [x]) w):=by
 have HR:Hid (resD 6 [x]=resD 6 [x]):=Lib.hid rfl
 generalize hR:resD 6 [x]=R at HR ⊢
 exact lz16
theorem res5_7(x y:Int)(b off cap:Nat)(w:World)(c0:w.cell? ⟨b,off,none⟩=some (.int .i64 x))(c1:w.cell? ⟨b,off+1,none⟩=some (.int .i64 y))(hX:1≤x∧1≤y):Calls Tryd.prog 79 #[.int .i64 7,.slice (some ⟨b,off,none⟩) 2 cap] w (Res5P (resD 7 [x,y]) w):=by
 have HR:Hid (resD 7 [x,y]=resD 7 [x,y]):=Lib.hid rfl
 generalize hR:resD 7 [x,y]=R at HR ⊢
 exact lz1
theorem res5_8(x y:Int)(b off cap:Nat)(w:World)(c0:w.cell? ⟨b,off,none⟩=some (.int .i64 x))(c1:w.cell? ⟨b,off+1,none⟩=some (.int .i64 y))(hX:1≤x∧1≤y):Calls Tryd.prog 79 #[.int .i64 8,.slice (some ⟨b,off,none⟩) 2 cap] w (Res5P (resD 8 [x,y]) w):=by
 have HR:Hid (resD 8 [x,y]=resD 8 [x,y]):=Lib.hid rfl
 generalize hR:resD 8 [x,y]=R at HR ⊢
 exact lz1
theorem res5_9(x y:Int)(b off cap:Nat)(w:World)(c0:w.cell? ⟨b,off,none⟩=some (.int .i64 x))(c1:w.cell? ⟨b,off+1,none⟩=some (.int .i64 y))(hX:1≤x∧1≤y):Calls Tryd.prog 79 #[.int .i64 9,.slice (some ⟨b,off,none⟩) 2 cap] w (Res5P (resD 9 [x,y]) w):=by
 have HR:Hid (resD 9 [x,y]=resD 9 [x,y]):=Lib.hid rfl
 generalize hR:resD 9 [x,y]=R at HR ⊢
 clear HR
 have HR:=Lib.hid hR
 have HX:=Lib.hid hX
 clear hR hX
 go_enter Tryd.func79,Tryd.ntmps79
 by_cases e1:x=2
 focus
  subst e1
 rotate_left
 focus
  have f1:(x==2)=false:=by simpa using e1
  have g1:(2==x)=false:=by simpa using fun h=>e1 h.symm
 rotate_left
 all_goals
  by_cases e2:y=2
  focus
   subst e2
  rotate_left
  focus
   have f2:(y==2)=false:=by simpa using e2
   have g2:(2==y)=false:=by simpa using fun h=>e2 h.symm
  rotate_left
  all_goals
   exact lz0
theorem res5_10(x y:Int)(b off cap:Nat)(w:World)(c0:w.cell? ⟨b,off,none⟩=some (.int .i64 x))(c1:w.cell? ⟨b,off+1,none⟩=some (.int .i64 y))(hX:1≤x∧1≤y):Calls Tryd.prog 79 #[.int .i64 10,.slice (some ⟨b,off,none⟩) 2 cap] w (Res5P (resD 10 [x,y]) w):=by
 have HR:Hid (resD 10 [x,y]=resD 10 [x,y]):=Lib.hid rfl
 generalize hR:resD 10 [x,y]=R at HR ⊢
 clear HR
 have HR:=Lib.hid hR
 have HX:=Lib.hid hX
 clear hR hX
 go_enter Tryd.func79,Tryd.ntmps79
 by_cases e1:y=2
 ·subst e1
  by_cases e2:x=2
  focus
   subst e2
  rotate_left
  focus
   have f2:(x==2)=false:=by simpa using e2
   have g2:(2==x)=false:=by simpa using fun h=>e2 h.symm
  rotate_left
  all_goals
   exact lz0
 ·have f1:(y==2)=false:=by simpa using e1
  have g1:(2==y)=false:=by simpa using fun h=>e1 h.symm
  by_cases e2:x=y
  focus
   subst e2
  rotate_left
  focus
   have f2:(x==y)=false:=by simpa using e2
   have g2:(y==x)=false:=by simpa using fun h=>e2 h.symm
  rotate_left
  all_goals
   exact lz0
theorem res5_11(x y:Int)(b off cap:Nat)(w:World)(c0:w.cell? ⟨b,off,none⟩=some (.int .i64 x))(c1:w.cell? ⟨b,off+1,none⟩=some (.int .i64 y))(hX:1≤x∧1≤y):Calls Tryd.prog 79 #[.int .i64 11,.slice (some ⟨b,off,none⟩) 2 cap] w (Res5P (resD 11 [x,y]) w):=by
 have HR:Hid (resD 11 [x,y]=resD 11 [x,y]):=Lib.hid rfl
 generalize hR:resD 11 [x,y]=R at HR ⊢
 exact lz1
theorem res5_12(x y:Int)(b off cap:Nat)(w:World)(c0:w.cell? ⟨b,off,none⟩=some (.int .i64 x))(c1:w.cell? ⟨b,off+1,none⟩=some (.int .i64 y))(hX:1≤x∧1≤y):Calls Tryd.prog 79 #[.int .i64 12,.slice (some ⟨b,off,none⟩) 2 cap] w (Res5P (resD 12 [x,y]) w):=by
 have HR:Hid (resD 12 [x,y]=resD 12 [x,y]):=Lib.hid rfl
 generalize hR:resD 12 [x,y]=R at HR ⊢
 exact lz1
theorem res5_13(x y:Int)(b off cap:Nat)(w:World)(c0:w.cell? ⟨b,off,none⟩=some (.int .i64 x))(c1:w.cell? ⟨b,off+1,none⟩=some (.int .i64 y))(hX:1≤x∧1≤y):Calls Tryd.prog 79 #[.int .i64 13,.slice (some ⟨b,off,none⟩) 2 cap] w (Res5P (resD 13 [x,y]) w):=by
 have HR:Hid (resD 13 [x,y]=resD 13 [x,y]):=Lib.hid rfl
 generalize hR:resD 13 [x,y]=R at HR ⊢
 exact lz1
theorem res5_14(x y:Int)(b off cap:Nat)(w:World)(c0:w.cell? ⟨b,off,none⟩=some (.int .i64 x))(c1:w.cell? ⟨b,off+1,none⟩=some (.int .i64 y))(hX:1≤x∧1≤y):Calls Tryd.prog 79 #[.int .i64 14,.slice (some ⟨b,off,none⟩) 2 cap] w (Res5P (resD 14 [x,y]) w):=by
 have HR:Hid (resD 14 [x,y]=resD 14 [x,y]):=Lib.hid rfl
 generalize hR:resD 14 [x,y]=R at HR ⊢
 exact lz1
theorem res5_15(x y:Int)(b off cap:Nat)(w:World)(c0:w.cell? ⟨b,off,none⟩=some (.int .i64 x))(c1:w.cell? ⟨b,off+1,none⟩=some (.int .i64 y))(hX:1≤x∧1≤y):Calls Tryd.prog 79 #[.int .i64 15,.slice (some ⟨b,off,none⟩) 2 cap] w (Res5P (resD 15 [x,y]) w):=by
 have HR:Hid (resD 15 [x,y]=resD 15 [x,y]):=Lib.hid rfl
 generalize hR:resD 15 [x,y]=R at HR ⊢
 exact lz1
theorem res5_16(x y:Int)(b off cap:Nat)(w:World)(c0:w.cell? ⟨b,off,none⟩=some (.int .i64 x))(c1:w.cell? ⟨b,off+1,none⟩=some (.int .i64 y))(hX:1≤x∧1≤y):Calls Tryd.prog 79 #[.int .i64 16,.slice (some ⟨b,off,none⟩) 2 cap] w (Res5P (resD 16 [x,y]) w):=by
 have HR:Hid (resD 16 [x,y]=resD 16 [x,y]):=Lib.hid rfl
 generalize hR:resD 16 [x,y]=R at HR ⊢
 exact lz1
theorem res5_17(x y:Int)(b off cap:Nat)(w:World)(c0:w.cell? ⟨b,off,none⟩=some (.int .i64 x))(c1:w.cell? ⟨b,off+1,none⟩=some (.int .i64 y))(hX:1≤x∧1≤y):Calls Tryd.prog 79 #[.int .i64 17,.slice (some ⟨b,off,none⟩) 2 cap] w (Res5P (resD 17 [x,y]) w):=by
 have HR:Hid (resD 17 [x,y]=resD 17 [x,y]):=Lib.hid rfl
 generalize hR:resD 17 [x,y]=R at HR ⊢
 exact lz8
theorem res5_18(x y:Int)(b off cap:Nat)(w:World)(c0:w.cell? ⟨b,off,none⟩=some (.int .i64 x))(c1:w.cell? ⟨b,off+1,none⟩=some (.int .i64 y))(hX:1≤x∧1≤y):Calls Tryd.prog 79 #[.int .i64 18,.slice (some ⟨b,off,none⟩) 2 cap] w (Res5P (resD 18 [x,y]) w):=by
 have HR:Hid (resD 18 [x,y]=resD 18 [x,y]):=Lib.hid rfl
 generalize hR:resD 18 [x,y]=R at HR ⊢
 exact lz8
theorem res5_19(x y:Int)(b off cap:Nat)(w:World)(c0:w.cell? ⟨b,off,none⟩=some (.int .i64 x))(c1:w.cell? ⟨b,off+1,none⟩=some (.int .i64 y))(hX:1≤x∧1≤y):Calls Tryd.prog 79 #[.int .i64 19,.slice (some ⟨b,off,none⟩) 2 cap] w (Res5P (resD 19 [x,y]) w):=by
 have HR:Hid (resD 19 [x,y]=resD 19 [x,y]):=Lib.hid rfl
 generalize hR:resD 19 [x,y]=R at HR ⊢
 exact lz1
theorem res5_20(x y:Int)(b off cap:Nat)(w:World)(c0:w.cell? ⟨b,off,none⟩=some (.int .i64 x))(c1:w.cell? ⟨b,off+1,none⟩=some (.int .i64 y))(hX:1≤x∧1≤y):Calls Tryd.prog 79 #[.int .i64 20,.slice (some ⟨b,off,none⟩) 2 cap] w (Res5P (resD 20 [x,y]) w):=by
 have HR:Hid (resD 20 [x,y]=resD 20 [x,y]):=Lib.hid rfl
 generalize hR:resD 20 [x,y]=R at HR ⊢
 exact lz1
theorem res5_21(x y z:Int)(b off cap:Nat)(w:World)(c0:w.cell? ⟨b,off,none⟩=some (.int .i64 x))(c1:w.cell? ⟨b,off+1,none⟩=some (.int .i64 y))(c2:w.cell? ⟨b,off+2,none⟩=some (.int .i64 z))(hX:1≤x∧1≤y∧1≤z):Calls Tryd.prog 79 #[.int .i64 21,.slice (some ⟨b,off,none⟩) 3 cap] w (Res5P (resD 21 [x,y,z]) w):=by
 have HR:Hid (resD 21 [x,y,z]=resD 21 [x,y,z]):=Lib.hid rfl
 generalize hR:resD 21 [x,y,z]=R at HR ⊢
 exact lz8
theorem resD_bd{op:Int}{d:List Int}(h:∀x∈d,1≤x∧x≤4)(hr:resD op d≠0):1≤resD op d∧resD op d≤4:=by
 have g:∀k,d.getD k 0=0∨(1≤d.getD k 0∧d.getD k 0≤4):=fun k=>by
  by_cases hk:k<d.length
  ·rw [List.getD_eq_getElem?_getD,List.getElem?_eq_getElem hk];exact .inr (h _ (List.getElem_mem hk))
  ·rw [List.getD_eq_getElem?_getD,List.getElem?_eq_none (by omega)];exact .inl rfl
 have g0:=g 0
 have g1:=g 1
 unfold resD at hr ⊢
 dsimp only at hr ⊢
 generalize d.getD 0 0=a at *
 generalize d.getD 1 0=b at *
 generalize d.getD 2 0=c at *
 clear h g
 (repeat' split)<;>(repeat' split at hr)<;>omega
theorem dimsOk_mem{env:List (ByteArray × Int)}(h:dimsOk env=true){p:ByteArray × Int}(hp:p∈env):1≤p.2∧p.2≤4:=by
 have:=List.all_eq_true.1 h p hp
 simpa using this
theorem lastN_in{α:Type}{env:List (ByteArray × α)}{s:ByteArray}{x:α}(h:lastN env s=some x):∃p∈env,p.2=x:=by
 exact lz26
mutual
theorem infer_dim{env:List (ByteArray × Int)}(hE:dimsOk env=true):∀e:Ex,formedB e=true→(inferF env e).2=0→1≤(inferF env e).1∧(inferF env e).1≤4
 | .mk op n d m s l=>by
   intro hf hi
   rw [formedB,Bool.and_eq_true,decide_eq_true_eq]at hf
   rw [inferF]at hi ⊢
   obtain⟨ha,hf⟩:=hf
   unfold infNode at hi ⊢
   by_cases c1:op=1
   ·subst c1
    rw [if_pos rfl]at hf
    simp only [Bool.and_eq_true]at hf
    have:=decOk_bd hf.1
    exact⟨by show 1≤m;omega,by show m≤4;omega⟩
   rw [if_neg c1]at hi hf ⊢
   by_cases c3:op=3
   ·rw [if_pos c3];exact⟨by show(1:Int)≤4;omega,by show(4:Int)≤4;omega⟩
   rw [if_neg c3]at hi ⊢
   by_cases c2:op=2
   ·rw [if_pos c2]at hi ⊢
    unfold inferN at hi ⊢
    by_cases cd:inpD s.toList≠0
    ·rw [if_pos cd]
     have:=inpD_bd s.toList
     exact⟨by show 1≤inpD s.toList;omega,by show inpD s.toList≤4;omega⟩
    ·rw [if_neg cd]at hi ⊢
     cases hl:lastN env s with
     |none=>rw [hl]at hi;simp at hi
     |some x=>
      obtain⟨p,hp,rfl⟩:=lastN_in hl
      exact dimsOk_mem hE hp
   rw [if_neg c2,if_neg c3]at hf
   rw [if_neg c2]at hi ⊢
   simp only [Bool.and_eq_true]at hf
   split at hi<;>rename_i c4
   ·exact absurd hi c4
   rw [if_neg c4]
   split at hi<;>rename_i c5
   ·simp at hi
   rw [if_neg c5]
   exact resD_bd (infers_dim hE l hf.1 (by omega)) c5
theorem infers_dim{env:List (ByteArray × Int)}(hE:dimsOk env=true):∀l:List Ex,formedsB l=true→(infersF env l).2=0→∀x∈(infersF env l).1,1≤x∧x≤4
 | []=>by intro _ _ x hx;simp [infersF]at hx
 |e::r=>by
  intro hf h x hx
  rw [formedsB,Bool.and_eq_true]at hf
  rw [infersF]at h hx
  split at h<;>rename_i c1
  ·exact absurd h c1
  split at h<;>rename_i c2
  ·exact absurd h c2
  rw [if_neg c1,if_neg c2]at hx
  rcases List.mem_cons.1 hx with rfl|hx
  ·exact infer_dim hE e hf.1 (by omega)
  ·exact infers_dim hE r hf.2 (by omega) x hx
end
theorem infers_bad(env:List (ByteArray × Int)):∀(l:List Ex) (k:Nat),k<l.length→(∀j,j<k→(inferF env (l.getD j default)).2=0)→(inferF env (l.getD k default)).2≠0→
 (infersF env l).2=(inferF env (l.getD k default)).2
 | [],k,hk,_,_=>by simp at hk
 |e::r,0,_,_,h=>by
  rw [infersF,if_pos (by simpa using h)];rfl
 |e::r,k+1,hk,hj,h=>by
  have h0:(inferF env e).2=0:=hj 0 (by omega)
  have hr:=infers_bad env r k (by simpa using hk) (fun j hjk=>hj (j+1) (by omega)) h
  have hne:(infersF env r).2≠0:=by rw [hr];exact h
  rw [infersF,if_neg (by omega),if_pos hne]
  exact hr
theorem infers_ok(env:List (ByteArray × Int)):∀l:List Ex,(∀j,j<l.length→(inferF env (l.getD j default)).2=0)→infersF env l=(l.map fun e=>(inferF env e).1,0)
 | [],_=>by rw [infersF];rfl
 |e::r,h=>by
  have h0:(inferF env e).2=0:=h 0 (by simp)
  have hr:=infers_ok env r (fun j hj=>h (j+1) (by simpa using hj))
  rw [infersF,if_neg (by omega),hr,if_neg (by simp)]
  rfl
theorem len1{d:List Int}(h:(d.length:Int)=1):∃x,d= [x]:=List.length_eq_one_iff.1 (by omega)
theorem len2{d:List Int}(h:(d.length:Int)=2):∃x y,d= [x,y]:=by
 match d,(show d.length=2 by omega)with
 | [a,b],_=>exact⟨a,b,rfl⟩
theorem len3{d:List Int}(h:(d.length:Int)=3):∃x y z,d= [x,y,z]:=by
 match d,(show d.length=3 by omega)with
 | [a,b,c],_=>exact⟨a,b,c,rfl⟩
theorem own_cell{w:World}{base g cap:Nat}{d:List Int}(h:w.ownsRow base 3 1 (.slice (some ⟨g,0,none⟩) d.length cap) d.length (d.map (Value.int .i64)))(k:Nat)(hk:k<d.length):w.cell? ⟨g,0+k,none⟩=some (.int .i64 (d.getD k 0)):=by
 have:=World.ownsRow.cells (g:=g) h rfl k (.int .i64 (d.getD k 0)) (by rw [List.getElem?_map,List.getD_eq_getElem?_getD,List.getElem?_eq_getElem hk];rfl)
 rw [addr_add]at this
 rw [Nat.zero_add];exact this
theorem res5_all(op:Int)(d:List Int)(base g cap:Nat)(w:World)(h4:4≤op)(h21:op≤21)(hl:(d.length:Int)=argsN op)(hx:∀x∈d,1≤x)(h:w.ownsRow base 3 1 (.slice (some ⟨g,0,none⟩) d.length cap) d.length (d.map (Value.int .i64))) :
 Calls Tryd.prog 79 #[.int .i64 op,.slice (some ⟨g,0,none⟩) d.length cap] w (Res5P (resD op d) w):=by
 have hc:=own_cell h
 clear h
 rcases(show op=4∨op=5∨op=6∨op=7∨op=8∨op=9∨op=10∨op=11∨op=12∨op=13∨op=14∨op=15∨op=16∨op=17∨op=18∨op=19∨op=20∨op=21 by omega)with rfl|rfl|rfl|rfl|rfl|rfl|rfl|rfl|rfl|rfl|rfl|rfl|rfl|rfl|rfl|rfl|rfl|rfl
 ·obtain⟨x,rfl⟩:=len1 (d:=d) (by rw [hl];rfl)
  exact res5_4 x g 0 cap w (hc 0 (by simp)) (hx _ (by simp))
 ·obtain⟨x,rfl⟩:=len1 (d:=d) (by rw [hl];rfl)
  exact res5_5 x g 0 cap w (hc 0 (by simp)) (hx _ (by simp))
 ·obtain⟨x,rfl⟩:=len1 (d:=d) (by rw [hl];rfl)
  exact res5_6 x g 0 cap w (hc 0 (by simp)) (hx _ (by simp))
 ·obtain⟨x,y,rfl⟩:=len2 (d:=d) (by rw [hl];rfl)
  exact res5_7 x y g 0 cap w (hc 0 (by simp)) (hc 1 (by simp)) ⟨hx _ (by simp),hx _ (by simp)⟩
 ·obtain⟨x,y,rfl⟩:=len2 (d:=d) (by rw [hl];rfl)
  exact res5_8 x y g 0 cap w (hc 0 (by simp)) (hc 1 (by simp)) ⟨hx _ (by simp),hx _ (by simp)⟩
 ·obtain⟨x,y,rfl⟩:=len2 (d:=d) (by rw [hl];rfl)
  exact res5_9 x y g 0 cap w (hc 0 (by simp)) (hc 1 (by simp)) ⟨hx _ (by simp),hx _ (by simp)⟩
 ·obtain⟨x,y,rfl⟩:=len2 (d:=d) (by rw [hl];rfl)
  exact res5_10 x y g 0 cap w (hc 0 (by simp)) (hc 1 (by simp)) ⟨hx _ (by simp),hx _ (by simp)⟩
 ·obtain⟨x,y,rfl⟩:=len2 (d:=d) (by rw [hl];rfl)
  exact res5_11 x y g 0 cap w (hc 0 (by simp)) (hc 1 (by simp)) ⟨hx _ (by simp),hx _ (by simp)⟩
 ·obtain⟨x,y,rfl⟩:=len2 (d:=d) (by rw [hl];rfl)
  exact res5_12 x y g 0 cap w (hc 0 (by simp)) (hc 1 (by simp)) ⟨hx _ (by simp),hx _ (by simp)⟩
 ·obtain⟨x,y,rfl⟩:=len2 (d:=d) (by rw [hl];rfl)
  exact res5_13 x y g 0 cap w (hc 0 (by simp)) (hc 1 (by simp)) ⟨hx _ (by simp),hx _ (by simp)⟩
 ·obtain⟨x,y,rfl⟩:=len2 (d:=d) (by rw [hl];rfl)
  exact res5_14 x y g 0 cap w (hc 0 (by simp)) (hc 1 (by simp)) ⟨hx _ (by simp),hx _ (by simp)⟩
 ·obtain⟨x,y,rfl⟩:=len2 (d:=d) (by rw [hl];rfl)
  exact res5_15 x y g 0 cap w (hc 0 (by simp)) (hc 1 (by simp)) ⟨hx _ (by simp),hx _ (by simp)⟩
 ·obtain⟨x,y,rfl⟩:=len2 (d:=d) (by rw [hl];rfl)
  exact res5_16 x y g 0 cap w (hc 0 (by simp)) (hc 1 (by simp)) ⟨hx _ (by simp),hx _ (by simp)⟩
 ·obtain⟨x,y,rfl⟩:=len2 (d:=d) (by rw [hl];rfl)
  exact res5_17 x y g 0 cap w (hc 0 (by simp)) (hc 1 (by simp)) ⟨hx _ (by simp),hx _ (by simp)⟩
 ·obtain⟨x,y,rfl⟩:=len2 (d:=d) (by rw [hl];rfl)
  exact res5_18 x y g 0 cap w (hc 0 (by simp)) (hc 1 (by simp)) ⟨hx _ (by simp),hx _ (by simp)⟩
 ·obtain⟨x,y,rfl⟩:=len2 (d:=d) (by rw [hl];rfl)
  exact res5_19 x y g 0 cap w (hc 0 (by simp)) (hc 1 (by simp)) ⟨hx _ (by simp),hx _ (by simp)⟩
 ·obtain⟨x,y,rfl⟩:=len2 (d:=d) (by rw [hl];rfl)
  exact res5_20 x y g 0 cap w (hc 0 (by simp)) (hc 1 (by simp)) ⟨hx _ (by simp),hx _ (by simp)⟩
 ·obtain⟨x,y,z,rfl⟩:=len3 (d:=d) (by rw [hl];rfl)
  exact res5_21 x y z g 0 cap w (hc 0 (by simp)) (hc 1 (by simp)) (hc 2 (by simp)) ⟨hx _ (by simp),hx _ (by simp),hx _ (by simp)⟩
end Go.Proofs.YthionhbjmheimaaDoor
namespace Go.Proofs.YthionhbjmheimaaDoor
open Go.RowKit Go.Shelf
attribute [local go_sem] Oper.semAt_some
theorem toList_inj{a b:ByteArray}(h:a.toList=b.toList):a=b:=by
 rw [ByteArray.toList_eq,ByteArray.toList_eq]at h
 exact ByteArray.ext (Array.ext' h)
theorem lastN_some{α:Type}(env:List (ByteArray × α))(s:ByteArray)(i:Nat)(d:ByteArray × α)(hi:i<env.length)(he:(env.getD i d).1=s)(hl:∀j,i<j→j<env.length→(env.getD j d).1≠s):lastN env s=some (env.getD i d).2:=by
 have h1:env=env.take i++env.getD i d::env.drop (i+1):=by
  rw [List.getD_eq_getElem?_getD,List.getElem?_eq_getElem hi,Option.getD_some,List.getElem_cons_drop,List.take_append_drop]
 have h2:(env.drop (i+1)).reverse.find? (fun p=>decide (p.1=s))=none:=by
  rw [List.find?_eq_none]
  intro x hx
  obtain⟨k,hk,rfl⟩:=List.getElem_of_mem (List.mem_reverse.1 hx)
  have hk2:i+1+k<env.length:=by rw [List.length_drop]at hk;omega
  have:=hl (i+1+k) (by omega) hk2
  rw [List.getD_eq_getElem?_getD,List.getElem?_eq_getElem hk2,Option.getD_some]at this
  rw [List.getElem_drop]
  simpa using this
 unfold lastN
 generalize hz:env.getD i d=z at *
 rw [h1,List.reverse_append,List.reverse_cons,List.append_assoc,List.find?_append,h2]
 simp [he]
theorem lastN_none{α:Type}(env:List (ByteArray × α))(s:ByteArray)(d:ByteArray × α)(hl:∀j,j<env.length→(env.getD j d).1≠s):lastN env s=none:=by
 unfold lastN
 rw [Option.map_eq_none_iff,List.find?_eq_none]
 intro x hx
 obtain⟨k,hk,rfl⟩:=List.getElem_of_mem (List.mem_reverse.1 hx)
 have:=hl k hk
 rw [List.getD_eq_getElem?_getD,List.getElem?_eq_getElem hk,Option.getD_some]at this
 simpa using this
structure LkMem(B:Nat)(s:ByteArray)(m:Int)(q:Bool)(W:World):Prop where
 nm:W.heap[B]? =some (.cells #[.string s] 9 (0,0))
 res:W.heap[B+1]? =some (.cells #[.int .i64 m] 3 (0,0))
 ok:W.heap[B+2]? =some (.cells #[.bool q] 4 (0,0))
 size:B+4≤W.heap.size
theorem LkMem.own{B:Nat}{s:ByteArray}{m:Int}{q:Bool}{X Y:World}{row:Option Nat}(h:LkMem B s m q X)(hg:X.grownBy Y row)(hr:∀r,row=some r→∃o:Obj,X.heap[r]? =some o∧o.isCells=false):LkMem B s m q Y:=
 ⟨(grownBy_keeps_cells hg hr h.nm rfl).trans h.nm,(grownBy_keeps_cells hg hr h.res rfl).trans h.res,(grownBy_keeps_cells hg hr h.ok rfl).trans h.ok,Nat.le_trans h.size hg.size⟩
theorem LkMem.alloc{B:Nat}{s:ByteArray}{m:Int}{q:Bool}{X:World}(h:LkMem B s m q X)(o:Obj):LkMem B s m q (X.alloc o):=h.own (World.grownBy_alloc X o none) (fun r e=>by cases e)
end Go.Proofs.YthionhbjmheimaaDoor
namespace Go.Proofs.YthionhbjmheimaaDoor
open Go.RowKit
def usableB(n d:Int):Bool:=vfrac n d&&decide (0<n∧n≤10000000000000∧d≤10000)
theorem usableB_no{n d:Int}(h:vfrac n d=false):usableB n d=false:=by simp [usableB,h]
theorem usableB_yes{n d:Int}(h:vfrac n d=true):usableB n d=decide (0<n∧n≤10000000000000∧d≤10000):=by simp [usableB,h]
theorem usableB_bd{n d:Int}(h:usableB n d=true):0<n∧n≤10000000000000∧1≤d∧d≤10000:=by
 simp only [usableB,Bool.and_eq_true,decide_eq_true_eq]at h
 have:=vfrac_bd h.1
 omega

theorem usable2_any(n d:Int)(w:World)(h1:-9223372036854775808≤n)(h2:n≤9223372036854775807)(h3:-9223372036854775808≤d)(h4:d≤9223372036854775807) :
 Calls Tryd.prog 40 #[.agg #[.int .i64 n,.int .i64 d]] w fun e w'=>e= .returned (.bool (usableB n d))∧w.Grows w':=by
 have hv:=Lib.hid (fun w=>Valid2_any n d w h1 h2 h3 h4)
 generalize hx:vfrac n d=b at *
 cases b
 ·have hu:=Lib.hid (usableB_no hx)
  clear hx
  go_enter Tryd.func40,Tryd.ntmps40
  go_wp2_with fail
  refine(hv.out _).mono ?_
  rintro e w' ⟨rfl,bs,dr,rfl⟩
  clear hv
  go_wp2_with fail
  go_returns
  exact⟨ret_bool (by rw [hu.out]),.of_below belB⟩
 ·have hu:Hid (usableB n d=decide (0<n∧n≤10000000000000∧d≤10000)):=usableB_yes hx
  clear hx
  by_cases c1:0<n
  ·by_cases c2:n≤10000000000000
   ·by_cases c3:d≤10000
    focus
     have hu:Hid (usableB n d=true):=by rw [Hid,hu.out];simp;omega
    rotate_left
    focus
     have hu:Hid (usableB n d=false):=by rw [Hid,hu.out];simp;omega
     have d3:decide (d≤10000)=false:=by simpa using c3
    rotate_left
    all_goals
     go_enter Tryd.func40,Tryd.ntmps40
     go_wp2_with fail
     refine(hv.out _).mono ?_
     rintro e w' ⟨rfl,bs,dr,rfl⟩
     clear hv
     go_wp2_with fail
     go_returns
     exact⟨ret_bool (by rw [hu.out]),.of_below belB⟩
   ·have hu:Hid (usableB n d=false):=by rw [Hid,hu.out];simp;omega
    have d3:decide (n≤10000000000000)=false:=by simpa using c2
    go_enter Tryd.func40,Tryd.ntmps40
    go_wp2_with fail
    refine(hv.out _).mono ?_
    rintro e w' ⟨rfl,bs,dr,rfl⟩
    clear hv
    go_wp2_with fail
    go_returns
    exact⟨ret_bool (by rw [hu.out]),.of_below belB⟩
  ·have hu:Hid (usableB n d=false):=by rw [Hid,hu.out];simp;omega
   have d3:decide (0<n)=false:=by simpa using c1
   go_enter Tryd.func40,Tryd.ntmps40
   go_wp2_with fail
   refine(hv.out _).mono ?_
   rintro e w' ⟨rfl,bs,dr,rfl⟩
   clear hv
   go_wp2_with fail
   go_returns
   exact⟨ret_bool (by rw [hu.out]),.of_below belB⟩

def bestTo(y:Nat→Int)(year:Int):Nat→Int
 |0=>-1
 |k+1=>if y k≤year∧(bestTo y year k<0∨y (bestTo y year k).toNat<y k)then(k:Int)else bestTo y year k

theorem bestTo_bd(y:Nat→Int)(year:Int)(k:Nat):-1≤bestTo y year k∧bestTo y year k<k:=by
 induction k with
 |zero=>simp [bestTo]
 |succ k ih=>unfold bestTo;split<;>omega

def SeriesAt(w:World)(v:Value)(n:Nat)(y nu de:Nat→Int):Prop:=
 n≤140737488355328∧∃a cap,v= .slice a n cap∧(n=0∨∃b off,a=some ⟨b,off,none⟩∧b<w.heap.size∧∀i,i<n→
  w.cell? ⟨b,off+i*3,none⟩=some (.int .i64 (y i))∧w.cell? ⟨b,off+i*3+1,none⟩=some (.int .i64 (nu i))∧w.cell? ⟨b,off+i*3+2,none⟩=some (.int .i64 (de i)))

theorem SeriesAt.grow{w:World}{v:Value}{n:Nat}{y nu de:Nat→Int}(h:SeriesAt w v n y nu de)(bs:Array Obj)(d:Nat):SeriesAt (w.grow bs d) v n y nu de:=by
 obtain⟨h0,a,cap,hv,h1⟩:=h
 refine⟨h0,a,cap,hv,h1.imp id ?_⟩
 rintro⟨b,off,ha,hb,hc⟩
 refine⟨b,off,ha,by simp;omega,fun i hi=>?_⟩
 rw [World.cell?_grow _ _ _ hb,World.cell?_grow _ _ _ hb,World.cell?_grow _ _ _ hb]
 exact hc i hi

def facN(y nu:Nat→Int)(year:Int)(n:Nat):Int:=if bestTo y year n<0 then 1 else nu (bestTo y year n).toNat

theorem bestTo_no1{y:Nat→Int}{year:Int}{k:Nat}(h:¬y k≤year):bestTo y year (k+1)=bestTo y year k:=by rw [bestTo,if_neg (by intro h1;exact h h1.1)]
theorem bestTo_no2{y:Nat→Int}{year:Int}{k m:Nat}(hm:bestTo y year k=m)(h:¬y m<y k):bestTo y year (k+1)=m:=by
 rw [bestTo,if_neg (by rw [hm];simp;omega),hm]
theorem bestTo_yes1{y:Nat→Int}{year:Int}{k:Nat}(h:y k≤year)(hb:bestTo y year k= -1):bestTo y year (k+1)=k:=by rw [bestTo,if_pos ⟨h,.inl (by omega)⟩]
theorem bestTo_yes2{y:Nat→Int}{year:Int}{k m:Nat}(h:y k≤year)(hm:bestTo y year k=m)(h2:y m<y k):bestTo y year (k+1)=k:=by
 rw [bestTo,if_pos ⟨h,.inr (by rw [hm];simpa using h2)⟩]


theorem Factor2_zero(c0 c1 c2 c3 c5 c6 c7:Value)(a:Option Addr)(cap:Nat)(year:Int)(w:World) :
 Calls Tryd.prog 39 #[.agg #[c0,c1,c2,c3,.slice a 0 cap,c5,c6,c7],.int .i64 year] w fun e w'=>e= .returned (.agg #[.int .i64 1,.int .i64 1])∧w.Grows w':=by
 go_enter Tryd.func39,Tryd.ntmps39
 go_wp2_with fail
 refine wp_loop_rounds 1 ?_
 rw [rounds_succ]
 go_wp2_with fail
 go_returns
 exact⟨rfl,.of_below belB⟩

theorem Factor2_some(c0 c1 c2 c3 c5 c6 c7:Value)(b off n cap:Nat)(y nu de:Nat→Int)(year:Int)(w:World)(h0:0<n)(hn:n≤140737488355328)(hb:b<w.heap.size)
 (hcs:Hid (∀i,i<n→w.cell? ⟨b,off+i*3,none⟩=some (.int .i64 (y i))∧w.cell? ⟨b,off+i*3+1,none⟩=some (.int .i64 (nu i))∧w.cell? ⟨b,off+i*3+2,none⟩=some (.int .i64 (de i)))) :
 Calls Tryd.prog 39 #[.agg #[c0,c1,c2,c3,.slice (some ⟨b,off,none⟩) n cap,c5,c6,c7],.int .i64 year] w fun e w'=>e= .returned (.agg #[.int .i64 (facN y nu year n),.int .i64 (facN y de year n)])∧w.Grows w':=by
 have hcs2:=hcs
 go_enter Tryd.func39,Tryd.ntmps39
 go_wp2_with fail
 go_loopw [5,11] (fun v5 v11 wr=>∃k:Nat,k≤n∧v5= .int .i64 (bestTo y year k)∧v11= .int .i64 k∧
  World.Grows ((w.alloc (.cells #[c0,c1,c2,c3,.slice (some ⟨b,off,none⟩) n cap,c5,c6,c7] 44)).alloc (.cells #[.int .i64 0,.int .i64 0] 29)) wr) (fun _ v11 _=>n-(intOf v11).toNat)
 case atStart=>exact⟨0,by omega,rfl,rfl,.refl _⟩
 case round=>
  obtain⟨k,hk,rfl,rfl,bs,d,rfl⟩:=hrel
  have hbd:=bestTo_bd y year k
  have hbn:=bestTo_bd y year n
  generalize hB:bestTo y year k=B at *
  have HB:=Lib.hid hB
  clear hB
  by_cases hlt:k<n
  ·obtain⟨q0,q1,q2⟩:=hcs.out k hlt
   by_cases t1:y k≤year
   ·by_cases t2:B<0
    ·obtain rfl:B= -1:=by omega
     have HN:=Lib.hid (bestTo_yes1 t1 HB.out)
     go_wp2_with fail
     go_quiet (fail)
     go_wp2_with fail
     go_roundw
     case rel=>exact⟨k+1,by omega,by rw [HN.out],by go_num,.of_below belB⟩
     case measure=>simp [intOf];omega
    ·obtain⟨m,rfl⟩:=Int.eq_ofNat_of_zero_le (show 0≤B by omega)
     obtain⟨p0,p1,p2⟩:=hcs.out m (by omega)
     have hm0:(0:Int)≤(m:Int):=by omega
     have hm1:(m:Int)<(n:Int):=by omega
     have d2:decide ((m:Int)<0)=false:=by simp;try omega
     by_cases t3:y m<y k
     ·have HN:=Lib.hid (bestTo_yes2 t1 HB.out t3)
      go_wp2_with fail
      go_quiet (fail)
      go_wp2_with fail
      go_roundw
      case rel=>exact⟨k+1,by omega,by rw [HN.out],by go_num,.of_below belB⟩
      case measure=>simp [intOf];omega
     ·have HN:=Lib.hid (bestTo_no2 HB.out t3)
      have d3:decide (y m<y k)=false:=by simpa using t3
      go_wp2_with fail
      go_quiet (fail)
      go_wp2_with fail
      go_roundw
      case rel=>exact⟨k+1,by omega,by rw [HN.out],by go_num,.of_below belB⟩
      case measure=>simp [intOf];omega
   ·have HN:=Lib.hid ((bestTo_no1 t1).trans HB.out)
    have d1:decide (y k≤year)=false:=by simpa using t1
    go_wp2_with fail
    go_quiet (fail)
    go_wp2_with fail
    go_roundw
    case rel=>exact⟨k+1,by omega,by rw [HN.out],by go_num,.of_below belB⟩
    case measure=>simp [intOf];omega
  ·obtain rfl:k=n:=by omega
   clear hcs2
   by_cases t2:B<0
   ·obtain rfl:B= -1:=by omega
    go_wp2_with fail
    go_returns
    exact⟨by simp only [facN,HB.out];rfl,.of_below belB⟩
   ·obtain⟨m,rfl⟩:=Int.eq_ofNat_of_zero_le (show 0≤B by omega)
    obtain⟨p0,p1,p2⟩:=hcs.out m (by omega)
    have hm0:(0:Int)≤(m:Int):=by omega
    have hm1:(m:Int)<(k:Int):=by omega
    have d2:decide ((m:Int)<0)=false:=by simp;try omega
    go_wp2_with fail
    go_returns
    exact⟨by simp only [facN,HB.out];rfl,.of_below belB⟩

theorem Factor2_any(c0 c1 c2 c3 c4 c5 c6 c7:Value)(n:Nat)(y nu de:Nat→Int)(year:Int)(w:World)(h:SeriesAt w c4 n y nu de) :
 Calls Tryd.prog 39 #[.agg #[c0,c1,c2,c3,c4,c5,c6,c7],.int .i64 year] w fun e w'=>e= .returned (.agg #[.int .i64 (facN y nu year n),.int .i64 (facN y de year n)])∧w.Grows w':=by
 obtain⟨hn,a,cap,rfl,h0|⟨b,off,rfl,hb,hc⟩⟩:=h
 ·subst h0;have e:∀z:Nat→Int,facN y z year 0=1:=fun z=>by simp [facN,bestTo]
  rw [e,e];exact Factor2_zero c0 c1 c2 c3 c5 c6 c7 _ cap year w
 ·by_cases h0:n=0
  ·subst h0;have e:∀z:Nat→Int,facN y z year 0=1:=fun z=>by simp [facN,bestTo]
   rw [e,e];exact Factor2_zero c0 c1 c2 c3 c5 c6 c7 _ cap year w
  ·exact Factor2_some _ _ _ _ _ _ _ b off n cap y nu de year w (by omega) hn hb hc


def idxQ(amount tn td fn fd:Int):Int:=(amount*(tn*fd)) / (td*fn)
def idxOk(amount tn td fn fd:Int):Bool:=decide (0≤amount∧amount≤1000000000000)&&usableB tn td&&usableB fn fd
def idxN(amount tn td fn fd:Int):Int:=if idxOk amount tn td fn fd=true then(if 1000000000000<idxQ amount tn td fn fd then 0 else idxQ amount tn td fn fd)else 0
def idxE(amount tn td fn fd:Int):Int:=if idxOk amount tn td fn fd=true then(if 1000000000000<idxQ amount tn td fn fd then 2 else 0)else 1

theorem idxn_no{amount tn td fn fd:Int}(h:idxOk amount tn td fn fd=false):idxN amount tn td fn fd=0∧idxE amount tn td fn fd=1:=by simp [idxN,idxE,h]
theorem idx_big{amount tn td fn fd:Int}(h:idxOk amount tn td fn fd=true)(h2:1000000000000<idxQ amount tn td fn fd):idxN amount tn td fn fd=0∧idxE amount tn td fn fd=2:=by simp only [idxN,idxE,h,h2,if_true,and_self]
theorem idx_yes{amount tn td fn fd:Int}(h:idxOk amount tn td fn fd=true)(h2:¬1000000000000<idxQ amount tn td fn fd):idxN amount tn td fn fd=idxQ amount tn td fn fd∧idxE amount tn td fn fd=0:=by simp only [idxN,idxE,h,h2,if_true,if_false,and_self]
def idxV(Y h q:Int):Value:=if Y≤h∨1000000000000<q then .tuple #[.int .i64 0,.int .i64 2]else .tuple #[.int .i64 q,.int .i64 0]

theorem Indexed2_no(c0 c1 c2 c3 c4 c5 c6 c7:Value)(amount year ref tn td fn fd:Int)(ut uf:Bool)(w:World)(hno:amount<0∨1000000000000<amount∨ut=false∨uf=false)
 (HT:Hid (∀w':World,w.Grows w'→Calls Tryd.prog 39 #[.agg #[c0,c1,c2,c3,c4,c5,c6,c7],.int .i64 ref] w' fun e w''=>e= .returned (.agg #[.int .i64 tn,.int .i64 td])∧w'.Grows w''))
 (HF:Hid (∀w':World,w.Grows w'→Calls Tryd.prog 39 #[.agg #[c0,c1,c2,c3,c4,c5,c6,c7],.int .i64 year] w' fun e w''=>e= .returned (.agg #[.int .i64 fn,.int .i64 fd])∧w'.Grows w''))
 (HU:Hid (∀w':World,Calls Tryd.prog 40 #[.agg #[.int .i64 tn,.int .i64 td]] w' fun e w''=>e= .returned (.bool ut)∧w'.Grows w''))
 (HV:Hid (∀w':World,Calls Tryd.prog 40 #[.agg #[.int .i64 fn,.int .i64 fd]] w' fun e w''=>e= .returned (.bool uf)∧w'.Grows w''))
 :
 Calls Tryd.prog 21 #[.agg #[c0,c1,c2,c3,c4,c5,c6,c7],.int .i64 amount,.int .i64 year,.int .i64 ref] w fun e w'=>e= .returned (.tuple #[.int .i64 0,.int .i64 1])∧w.Grows w':=by
 by_cases d1:amount<0
 ·clear hno
  go_enter Tryd.func21,Tryd.ntmps21
  go_wp2_with fail
  apply wp_region_made2 8 (6,10,.cells #[.int .i64 0,.int .i64 0] 29) (7,11,.cells #[.int .i64 0,.int .i64 0] 29) (by kernel_rfl) (by kernel_rfl)
  case hrx=>
   intro o ho ρ w
   obtain rfl:=Option.some.inj ho
   simp [go_sem]
  case hry=>
   intro o ho ρ w
   obtain rfl:=Option.some.inj ho
   simp [go_sem]
  case h1=>
   intro bs d
   simp only [List.take_succ_cons,List.take_zero,List.map_cons,List.map_nil,Oper.mask]
   repeat(go_big_quiet_step ((go_at_call 39;first|(with_reducible exact Calls.quietM (HT.out _ (.of_below belB)))|(with_reducible exact Calls.quietM (HF.out _ (.of_below belB))))))
   exact wpQuiet_nil rfl
  all_goals
   intro gb1 gd1 gb2 gd2 gb gd
   simp only [List.drop_succ_cons,List.drop_zero,Act.put,List.setIfInBounds_toArray,List.set_cons_zero,List.set_cons_succ]
  all_goals
   clear HT HF
   go_wp2_with (first|(go_at_call 40;(with_reducible refine(HU.out _).mono ?_);rintro e w' ⟨rfl,bs,dr,rfl⟩)|(go_at_call 40;(with_reducible refine(HV.out _).mono ?_);rintro e w' ⟨rfl,bs,dr,rfl⟩)|(go_at_call 41;(with_reducible refine(HM.out _).mono ?_);rintro e w' ⟨rfl,rfl⟩)|(go_at_call 42;(with_reducible refine(HD.out _).mono ?_);rintro e w' ⟨rfl,bs,dr,rfl⟩)|(go_at_call 99999;(with_reducible refine(HQ.out _).mono ?_);rintro e w' ⟨rfl,bs,dr,rfl⟩))
   go_returns
   first
    |exact⟨rfl,.of_below belB⟩
    |(refine⟨?_,.of_below belB⟩
      unfold idxV
      split<;>first|rfl|(exfalso;omega))
 ·by_cases d2:(1000000000000:Int)<amount
  ·clear hno
   go_enter Tryd.func21,Tryd.ntmps21
   go_wp2_with fail
   apply wp_region_made2 8 (6,10,.cells #[.int .i64 0,.int .i64 0] 29) (7,11,.cells #[.int .i64 0,.int .i64 0] 29) (by kernel_rfl) (by kernel_rfl)
   case hrx=>
    intro o ho ρ w
    obtain rfl:=Option.some.inj ho
    simp [go_sem]
   case hry=>
    intro o ho ρ w
    obtain rfl:=Option.some.inj ho
    simp [go_sem]
   case h1=>
    intro bs d
    simp only [List.take_succ_cons,List.take_zero,List.map_cons,List.map_nil,Oper.mask]
    repeat(go_big_quiet_step ((go_at_call 39;first|(with_reducible exact Calls.quietM (HT.out _ (.of_below belB)))|(with_reducible exact Calls.quietM (HF.out _ (.of_below belB))))))
    exact wpQuiet_nil rfl
   all_goals
    intro gb1 gd1 gb2 gd2 gb gd
    simp only [List.drop_succ_cons,List.drop_zero,Act.put,List.setIfInBounds_toArray,List.set_cons_zero,List.set_cons_succ]
   all_goals
    clear HT HF
    go_wp2_with (first|(go_at_call 40;(with_reducible refine(HU.out _).mono ?_);rintro e w' ⟨rfl,bs,dr,rfl⟩)|(go_at_call 40;(with_reducible refine(HV.out _).mono ?_);rintro e w' ⟨rfl,bs,dr,rfl⟩)|(go_at_call 41;(with_reducible refine(HM.out _).mono ?_);rintro e w' ⟨rfl,rfl⟩)|(go_at_call 42;(with_reducible refine(HD.out _).mono ?_);rintro e w' ⟨rfl,bs,dr,rfl⟩)|(go_at_call 99999;(with_reducible refine(HQ.out _).mono ?_);rintro e w' ⟨rfl,bs,dr,rfl⟩))
    go_returns
    first
     |exact⟨rfl,.of_below belB⟩
     |(refine⟨?_,.of_below belB⟩
       unfold idxV
       split<;>first|rfl|(exfalso;omega))
  ·have d1':decide (amount<0)=false:=by simpa using d1
   have d2':decide ((1000000000000:Int)<amount)=false:=by simpa using d2
   cases ut
   focus
    clear hno
   rotate_left
   focus
    obtain rfl:uf=false:=by rcases hno with h|h|h|h<;>first|exact h|omega|cases h
   rotate_left
   all_goals
    go_enter Tryd.func21,Tryd.ntmps21
    go_wp2_with fail
    apply wp_region_made2 8 (6,10,.cells #[.int .i64 0,.int .i64 0] 29) (7,11,.cells #[.int .i64 0,.int .i64 0] 29) (by kernel_rfl) (by kernel_rfl)
    case hrx=>
     intro o ho ρ w
     obtain rfl:=Option.some.inj ho
     simp [go_sem]
    case hry=>
     intro o ho ρ w
     obtain rfl:=Option.some.inj ho
     simp [go_sem]
    case h1=>
     intro bs d
     simp only [List.take_succ_cons,List.take_zero,List.map_cons,List.map_nil,Oper.mask]
     repeat(go_big_quiet_step ((go_at_call 39;first|(with_reducible exact Calls.quietM (HT.out _ (.of_below belB)))|(with_reducible exact Calls.quietM (HF.out _ (.of_below belB))))))
     exact wpQuiet_nil rfl
    all_goals
     intro gb1 gd1 gb2 gd2 gb gd
     simp only [List.drop_succ_cons,List.drop_zero,Act.put,List.setIfInBounds_toArray,List.set_cons_zero,List.set_cons_succ]
    all_goals
     clear HT HF
     go_wp2_with (first|(go_at_call 40;(with_reducible refine(HU.out _).mono ?_);rintro e w' ⟨rfl,bs,dr,rfl⟩)|(go_at_call 40;(with_reducible refine(HV.out _).mono ?_);rintro e w' ⟨rfl,bs,dr,rfl⟩)|(go_at_call 41;(with_reducible refine(HM.out _).mono ?_);rintro e w' ⟨rfl,rfl⟩)|(go_at_call 42;(with_reducible refine(HD.out _).mono ?_);rintro e w' ⟨rfl,bs,dr,rfl⟩)|(go_at_call 99999;(with_reducible refine(HQ.out _).mono ?_);rintro e w' ⟨rfl,bs,dr,rfl⟩))
     go_returns
     first
      |exact⟨rfl,.of_below belB⟩
      |(refine⟨?_,.of_below belB⟩
        unfold idxV
        split<;>first|rfl|(exfalso;omega))
theorem Indexed2_yes(c0 c1 c2 c3 c4 c5 c6 c7:Value)(amount year ref tn td fn fd X Y h l q r:Int)(ut uf:Bool)(w:World)(hut:ut=true)(huf:uf=true)
 (b1:0≤amount) (b2:amount≤1000000000000) (b3:0<tn) (b4:tn≤10000000000000) (b5:1≤td) (b6:td≤10000) (b7:0<fn) (b8:fn≤10000000000000) (b9:1≤fd) (b10:fd≤10000)
 (e1:IntKind.u64.wrap (tn*fd)=X) (e2:IntKind.u64.wrap (td*fn)=Y) (hq0:0≤q)
 (HT:Hid (∀w':World,w.Grows w'→Calls Tryd.prog 39 #[.agg #[c0,c1,c2,c3,c4,c5,c6,c7],.int .i64 ref] w' fun e w''=>e= .returned (.agg #[.int .i64 tn,.int .i64 td])∧w'.Grows w''))
 (HF:Hid (∀w':World,w.Grows w'→Calls Tryd.prog 39 #[.agg #[c0,c1,c2,c3,c4,c5,c6,c7],.int .i64 year] w' fun e w''=>e= .returned (.agg #[.int .i64 fn,.int .i64 fd])∧w'.Grows w''))
 (HU:Hid (∀w':World,Calls Tryd.prog 40 #[.agg #[.int .i64 tn,.int .i64 td]] w' fun e w''=>e= .returned (.bool ut)∧w'.Grows w''))
 (HV:Hid (∀w':World,Calls Tryd.prog 40 #[.agg #[.int .i64 fn,.int .i64 fd]] w' fun e w''=>e= .returned (.bool uf)∧w'.Grows w''))
 (HM:Hid (∀w':World,Calls Tryd.prog 41 #[.int .u64 amount,.int .u64 X] w' fun e w''=>e= .returned (.tuple #[.int .u64 h,.int .u64 l])∧w'=w''))
 (HD:Hid (h<Y→∀w':World,Calls Tryd.prog 42 #[.int .u64 h,.int .u64 l,.int .u64 Y] w' fun e w''=>e= .returned (.tuple #[.int .u64 q,.int .u64 r])∧w'.Grows w''))
 :
 Calls Tryd.prog 21 #[.agg #[c0,c1,c2,c3,c4,c5,c6,c7],.int .i64 amount,.int .i64 year,.int .i64 ref] w fun e w'=>e= .returned (idxV Y h q)∧w.Grows w':=by
 subst hut huf
 have d1':decide (amount<0)=false:=by simp;omega
 have d2':decide ((1000000000000:Int)<amount)=false:=by simp;omega
 by_cases g1:Y≤h
 ·have g1':¬h<Y:=by omega
  clear HD
  go_enter Tryd.func21,Tryd.ntmps21
  go_wp2_with fail
  apply wp_region_made2 8 (6,10,.cells #[.int .i64 0,.int .i64 0] 29) (7,11,.cells #[.int .i64 0,.int .i64 0] 29) (by kernel_rfl) (by kernel_rfl)
  case hrx=>
   intro o ho ρ w
   obtain rfl:=Option.some.inj ho
   simp [go_sem]
  case hry=>
   intro o ho ρ w
   obtain rfl:=Option.some.inj ho
   simp [go_sem]
  case h1=>
   intro bs d
   simp only [List.take_succ_cons,List.take_zero,List.map_cons,List.map_nil,Oper.mask]
   repeat(go_big_quiet_step ((go_at_call 39;first|(with_reducible exact Calls.quietM (HT.out _ (.of_below belB)))|(with_reducible exact Calls.quietM (HF.out _ (.of_below belB))))))
   exact wpQuiet_nil rfl
  all_goals
   intro gb1 gd1 gb2 gd2 gb gd
   simp only [List.drop_succ_cons,List.drop_zero,Act.put,List.setIfInBounds_toArray,List.set_cons_zero,List.set_cons_succ]
  all_goals
   clear HT HF
   go_wp2_with (first|(go_at_call 40;(with_reducible refine(HU.out _).mono ?_);rintro e w' ⟨rfl,bs,dr,rfl⟩)|(go_at_call 40;(with_reducible refine(HV.out _).mono ?_);rintro e w' ⟨rfl,bs,dr,rfl⟩)|(go_at_call 41;(with_reducible refine(HM.out _).mono ?_);rintro e w' ⟨rfl,rfl⟩)|(go_at_call 42;(with_reducible refine(HD.out _).mono ?_);rintro e w' ⟨rfl,bs,dr,rfl⟩)|(go_at_call 99999;(with_reducible refine(HQ.out _).mono ?_);rintro e w' ⟨rfl,bs,dr,rfl⟩))
   go_returns
   first
    |exact⟨rfl,.of_below belB⟩
    |(refine⟨?_,.of_below belB⟩
      unfold idxV
      split<;>first|rfl|(exfalso;omega))
 ·have g1':h<Y:=by omega
  have HD:=Lib.hid (HD.out g1')
  by_cases g2:1000000000000<q
  focus
   go_enter Tryd.func21,Tryd.ntmps21
  rotate_left
  focus
   go_enter Tryd.func21,Tryd.ntmps21
  rotate_left
  all_goals
   go_wp2_with fail
   apply wp_region_made2 8 (6,10,.cells #[.int .i64 0,.int .i64 0] 29) (7,11,.cells #[.int .i64 0,.int .i64 0] 29) (by kernel_rfl) (by kernel_rfl)
   case hrx=>
    intro o ho ρ w
    obtain rfl:=Option.some.inj ho
    simp [go_sem]
   case hry=>
    intro o ho ρ w
    obtain rfl:=Option.some.inj ho
    simp [go_sem]
   case h1=>
    intro bs d
    simp only [List.take_succ_cons,List.take_zero,List.map_cons,List.map_nil,Oper.mask]
    repeat(go_big_quiet_step ((go_at_call 39;first|(with_reducible exact Calls.quietM (HT.out _ (.of_below belB)))|(with_reducible exact Calls.quietM (HF.out _ (.of_below belB))))))
    exact wpQuiet_nil rfl
   all_goals
    intro gb1 gd1 gb2 gd2 gb gd
    simp only [List.drop_succ_cons,List.drop_zero,Act.put,List.setIfInBounds_toArray,List.set_cons_zero,List.set_cons_succ]
   all_goals
    clear HT HF
    go_wp2_with (first|(go_at_call 40;(with_reducible refine(HU.out _).mono ?_);rintro e w' ⟨rfl,bs,dr,rfl⟩)|(go_at_call 40;(with_reducible refine(HV.out _).mono ?_);rintro e w' ⟨rfl,bs,dr,rfl⟩)|(go_at_call 41;(with_reducible refine(HM.out _).mono ?_);rintro e w' ⟨rfl,rfl⟩)|(go_at_call 42;(with_reducible refine(HD.out _).mono ?_);rintro e w' ⟨rfl,bs,dr,rfl⟩)|(go_at_call 99999;(with_reducible refine(HQ.out _).mono ?_);rintro e w' ⟨rfl,bs,dr,rfl⟩))
    go_returns
    first
     |exact⟨rfl,.of_below belB⟩
     |(refine⟨?_,.of_below belB⟩
       unfold idxV
       split<;>first|rfl|(exfalso;omega))
end Go.Proofs.YthionhbjmheimaaDoor
