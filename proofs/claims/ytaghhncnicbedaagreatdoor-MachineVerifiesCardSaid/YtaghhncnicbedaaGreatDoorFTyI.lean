import Derived.Test.YtaghhncnicbedaaGreatDoorFTyS
import Derived.Test.YtaghhncnicbedaaGreatDoorFBestI
import Derived.Test.YtaghhncnicbedaaGreatDoorFK
import Derived.Laws.Strings
import Derived.Shelf.Spec.BitsCarry
set_option linter.all false
set_option maxHeartbeats 16000000
set_option maxRecDepth 1000000
namespace Go.Proofs.YtaghhncnicbedaaGreatDoor
open Go.RowKit
theorem resD_bd{op:Int}{d:List Int}(h:∀x∈d,1≤x∧x≤4)(hr:resD op d≠0):1≤resD op d∧resD op d≤4:=by
 have g:∀k,d.getD k 0=0∨(1≤d.getD k 0∧d.getD k 0≤4):=fun k=>by
  by_cases hk:k<d.length
  ·rw [List.getD_eq_getElem?_getD,List.getElem?_eq_getElem hk];exact .inr (h _ (List.getElem_mem hk))
  ·rw [List.getD_eq_getElem?_getD,List.getElem?_eq_none (by omega)];exact .inl rfl
 have g0:=g 0
 have g1:=g 1
 unfold resD at hr ⊢
 dsimp only at hr ⊢
 generalize d.getD 0 0=a at *
 generalize d.getD 1 0=b at *
 generalize d.getD 2 0=c at *
 clear h g
 (repeat' split)<;>(repeat' split at hr)<;>omega
theorem dimsOk_mem{env:List (ByteArray × Int)}(h:dimsOk env=true){p:ByteArray × Int}(hp:p∈env):1≤p.2∧p.2≤4:=by
 have:=List.all_eq_true.1 h p hp
 simpa using this
theorem lastN_in{α:Type}{env:List (ByteArray × α)}{s:ByteArray}{x:α}(h:lastN env s=some x):∃p∈env,p.2=x:=by
 unfold lastN at h
 obtain⟨p,hp,rfl⟩:=Option.map_eq_some_iff.1 h
 exact⟨p,List.mem_reverse.1 (List.mem_of_find?_eq_some hp),rfl⟩
mutual
theorem infer_dim{env:List (ByteArray × Int)}(hE:dimsOk env=true):∀e:Ex,formedB e=true→(inferF env e).2=0→1≤(inferF env e).1∧(inferF env e).1≤4
 | .mk op n d m s l=>by
   intro hf hi
   rw [formedB,Bool.and_eq_true,decide_eq_true_eq]at hf
   rw [inferF]at hi ⊢
   obtain⟨ha,hf⟩:=hf
   unfold infNode at hi ⊢
   by_cases c1:op=1
   ·subst c1
    rw [if_pos rfl]at hf
    simp only [Bool.and_eq_true]at hf
    have:=decOk_bd hf.1
    exact⟨by show 1≤m;omega,by show m≤4;omega⟩
   rw [if_neg c1]at hi hf ⊢
   by_cases c3:op=3
   ·rw [if_pos c3];exact⟨by show(1:Int)≤4;omega,by show(4:Int)≤4;omega⟩
   rw [if_neg c3]at hi ⊢
   by_cases c2:op=2
   ·rw [if_pos c2]at hi ⊢
    unfold inferN at hi ⊢
    by_cases cd:inpD s.toList≠0
    ·rw [if_pos cd]
     have:=inpD_bd s.toList
     exact⟨by show 1≤inpD s.toList;omega,by show inpD s.toList≤4;omega⟩
    ·rw [if_neg cd]at hi ⊢
     cases hl:lastN env s with
     |none=>rw [hl]at hi;simp at hi
     |some x=>
      obtain⟨p,hp,rfl⟩:=lastN_in hl
      exact dimsOk_mem hE hp
   rw [if_neg c2,if_neg c3]at hf
   rw [if_neg c2]at hi ⊢
   simp only [Bool.and_eq_true]at hf
   split at hi<;>rename_i c4
   ·exact absurd hi c4
   rw [if_neg c4]
   split at hi<;>rename_i c5
   ·simp at hi
   rw [if_neg c5]
   exact resD_bd (infers_dim hE l hf.1 (by omega)) c5
theorem infers_dim{env:List (ByteArray × Int)}(hE:dimsOk env=true):∀l:List Ex,formedsB l=true→(infersF env l).2=0→∀x∈(infersF env l).1,1≤x∧x≤4
 | []=>by intro _ _ x hx;simp [infersF]at hx
 |e::r=>by
  intro hf h x hx
  rw [formedsB,Bool.and_eq_true]at hf
  rw [infersF]at h hx
  split at h<;>rename_i c1
  ·exact absurd h c1
  split at h<;>rename_i c2
  ·exact absurd h c2
  rw [if_neg c1,if_neg c2]at hx
  rcases List.mem_cons.1 hx with rfl|hx
  ·exact infer_dim hE e hf.1 (by omega)
  ·exact infers_dim hE r hf.2 (by omega) x hx
end
theorem infers_bad(env:List (ByteArray × Int)):∀(l:List Ex) (k:Nat),k<l.length→(∀j,j<k→(inferF env (l.getD j default)).2=0)→(inferF env (l.getD k default)).2≠0→
 (infersF env l).2=(inferF env (l.getD k default)).2
 | [],k,hk,_,_=>by simp at hk
 |e::r,0,_,_,h=>by
  rw [infersF,if_pos (by simpa using h)];rfl
 |e::r,k+1,hk,hj,h=>by
  have h0:(inferF env e).2=0:=hj 0 (by omega)
  have hr:=infers_bad env r k (by simpa using hk) (fun j hjk=>hj (j+1) (by omega)) h
  have hne:(infersF env r).2≠0:=by rw [hr];exact h
  rw [infersF,if_neg (by omega),if_pos hne]
  exact hr
theorem infers_ok(env:List (ByteArray × Int)):∀l:List Ex,(∀j,j<l.length→(inferF env (l.getD j default)).2=0)→infersF env l=(l.map fun e=>(inferF env e).1,0)
 | [],_=>by rw [infersF];rfl
 |e::r,h=>by
  have h0:(inferF env e).2=0:=h 0 (by simp)
  have hr:=infers_ok env r (fun j hj=>h (j+1) (by simpa using hj))
  rw [infersF,if_neg (by omega),hr,if_neg (by simp)]
  rfl
theorem len1{d:List Int}(h:(d.length:Int)=1):∃x,d= [x]:=List.length_eq_one_iff.1 (by omega)
theorem len2{d:List Int}(h:(d.length:Int)=2):∃x y,d= [x,y]:=by
 match d,(show d.length=2 by omega)with
 | [a,b],_=>exact⟨a,b,rfl⟩
theorem len3{d:List Int}(h:(d.length:Int)=3):∃x y z,d= [x,y,z]:=by
 match d,(show d.length=3 by omega)with
 | [a,b,c],_=>exact⟨a,b,c,rfl⟩
theorem own_cell{w:World}{base g cap:Nat}{d:List Int}(h:w.ownsRow base 3 1 (.slice (some ⟨g,0,none⟩) d.length cap) d.length (d.map (Value.int .i64)))(k:Nat)(hk:k<d.length):w.cell? ⟨g,0+k,none⟩=some (.int .i64 (d.getD k 0)):=by
 have:=World.ownsRow.cells (g:=g) h rfl k (.int .i64 (d.getD k 0)) (by rw [List.getElem?_map,List.getD_eq_getElem?_getD,List.getElem?_eq_getElem hk];rfl)
 rw [addr_add]at this
 rw [Nat.zero_add];exact this
theorem res2_all(op:Int)(d:List Int)(base g cap:Nat)(w:World)(h4:4≤op)(h21:op≤21)(hl:(d.length:Int)=argsN op)(hx:∀x∈d,1≤x)(h:w.ownsRow base 3 1 (.slice (some ⟨g,0,none⟩) d.length cap) d.length (d.map (Value.int .i64))) :
 Calls Tryz.prog 206 #[.int .i64 op,.slice (some ⟨g,0,none⟩) d.length cap] w (Res2P (resD op d) w):=by
 have hc:=own_cell h
 clear h
 rcases(show op=4∨op=5∨op=6∨op=7∨op=8∨op=9∨op=10∨op=11∨op=12∨op=13∨op=14∨op=15∨op=16∨op=17∨op=18∨op=19∨op=20∨op=21 by omega)with rfl|rfl|rfl|rfl|rfl|rfl|rfl|rfl|rfl|rfl|rfl|rfl|rfl|rfl|rfl|rfl|rfl|rfl
 ·obtain⟨x,rfl⟩:=len1 (d:=d) (by rw [hl];rfl)
  exact res2_4 x g 0 cap w (hc 0 (by simp)) (hx _ (by simp))
 ·obtain⟨x,rfl⟩:=len1 (d:=d) (by rw [hl];rfl)
  exact res2_5 x g 0 cap w (hc 0 (by simp)) (hx _ (by simp))
 ·obtain⟨x,rfl⟩:=len1 (d:=d) (by rw [hl];rfl)
  exact res2_6 x g 0 cap w (hc 0 (by simp)) (hx _ (by simp))
 ·obtain⟨x,y,rfl⟩:=len2 (d:=d) (by rw [hl];rfl)
  exact res2_7 x y g 0 cap w (hc 0 (by simp)) (hc 1 (by simp)) ⟨hx _ (by simp),hx _ (by simp)⟩
 ·obtain⟨x,y,rfl⟩:=len2 (d:=d) (by rw [hl];rfl)
  exact res2_8 x y g 0 cap w (hc 0 (by simp)) (hc 1 (by simp)) ⟨hx _ (by simp),hx _ (by simp)⟩
 ·obtain⟨x,y,rfl⟩:=len2 (d:=d) (by rw [hl];rfl)
  exact res2_9 x y g 0 cap w (hc 0 (by simp)) (hc 1 (by simp)) ⟨hx _ (by simp),hx _ (by simp)⟩
 ·obtain⟨x,y,rfl⟩:=len2 (d:=d) (by rw [hl];rfl)
  exact res2_10 x y g 0 cap w (hc 0 (by simp)) (hc 1 (by simp)) ⟨hx _ (by simp),hx _ (by simp)⟩
 ·obtain⟨x,y,rfl⟩:=len2 (d:=d) (by rw [hl];rfl)
  exact res2_11 x y g 0 cap w (hc 0 (by simp)) (hc 1 (by simp)) ⟨hx _ (by simp),hx _ (by simp)⟩
 ·obtain⟨x,y,rfl⟩:=len2 (d:=d) (by rw [hl];rfl)
  exact res2_12 x y g 0 cap w (hc 0 (by simp)) (hc 1 (by simp)) ⟨hx _ (by simp),hx _ (by simp)⟩
 ·obtain⟨x,y,rfl⟩:=len2 (d:=d) (by rw [hl];rfl)
  exact res2_13 x y g 0 cap w (hc 0 (by simp)) (hc 1 (by simp)) ⟨hx _ (by simp),hx _ (by simp)⟩
 ·obtain⟨x,y,rfl⟩:=len2 (d:=d) (by rw [hl];rfl)
  exact res2_14 x y g 0 cap w (hc 0 (by simp)) (hc 1 (by simp)) ⟨hx _ (by simp),hx _ (by simp)⟩
 ·obtain⟨x,y,rfl⟩:=len2 (d:=d) (by rw [hl];rfl)
  exact res2_15 x y g 0 cap w (hc 0 (by simp)) (hc 1 (by simp)) ⟨hx _ (by simp),hx _ (by simp)⟩
 ·obtain⟨x,y,rfl⟩:=len2 (d:=d) (by rw [hl];rfl)
  exact res2_16 x y g 0 cap w (hc 0 (by simp)) (hc 1 (by simp)) ⟨hx _ (by simp),hx _ (by simp)⟩
 ·obtain⟨x,y,rfl⟩:=len2 (d:=d) (by rw [hl];rfl)
  exact res2_17 x y g 0 cap w (hc 0 (by simp)) (hc 1 (by simp)) ⟨hx _ (by simp),hx _ (by simp)⟩
 ·obtain⟨x,y,rfl⟩:=len2 (d:=d) (by rw [hl];rfl)
  exact res2_18 x y g 0 cap w (hc 0 (by simp)) (hc 1 (by simp)) ⟨hx _ (by simp),hx _ (by simp)⟩
 ·obtain⟨x,y,rfl⟩:=len2 (d:=d) (by rw [hl];rfl)
  exact res2_19 x y g 0 cap w (hc 0 (by simp)) (hc 1 (by simp)) ⟨hx _ (by simp),hx _ (by simp)⟩
 ·obtain⟨x,y,rfl⟩:=len2 (d:=d) (by rw [hl];rfl)
  exact res2_20 x y g 0 cap w (hc 0 (by simp)) (hc 1 (by simp)) ⟨hx _ (by simp),hx _ (by simp)⟩
 ·obtain⟨x,y,z,rfl⟩:=len3 (d:=d) (by rw [hl];rfl)
  exact res2_21 x y z g 0 cap w (hc 0 (by simp)) (hc 1 (by simp)) (hc 2 (by simp)) ⟨hx _ (by simp),hx _ (by simp),hx _ (by simp)⟩
end Go.Proofs.YtaghhncnicbedaaGreatDoor
namespace Go.Proofs.YtaghhncnicbedaaGreatDoor
open Go.RowKit Go.Shelf
attribute [local go_sem] Oper.semAt_some
theorem toList_inj{a b:ByteArray}(h:a.toList=b.toList):a=b:=by
 rw [ByteArray.toList_eq,ByteArray.toList_eq]at h
 exact ByteArray.ext (Array.ext' h)
theorem lastN_some{α:Type}(env:List (ByteArray × α))(s:ByteArray)(i:Nat)(d:ByteArray × α)(hi:i<env.length)(he:(env.getD i d).1=s)(hl:∀j,i<j→j<env.length→(env.getD j d).1≠s):lastN env s=some (env.getD i d).2:=by
 have h1:env=env.take i++env.getD i d::env.drop (i+1):=by
  rw [List.getD_eq_getElem?_getD,List.getElem?_eq_getElem hi,Option.getD_some,List.getElem_cons_drop,List.take_append_drop]
 have h2:(env.drop (i+1)).reverse.find? (fun p=>decide (p.1=s))=none:=by
  rw [List.find?_eq_none]
  intro x hx
  obtain⟨k,hk,rfl⟩:=List.getElem_of_mem (List.mem_reverse.1 hx)
  have hk2:i+1+k<env.length:=by rw [List.length_drop]at hk;omega
  have:=hl (i+1+k) (by omega) hk2
  rw [List.getD_eq_getElem?_getD,List.getElem?_eq_getElem hk2,Option.getD_some]at this
  rw [List.getElem_drop]
  simpa using this
 unfold lastN
 generalize hz:env.getD i d=z at *
 rw [h1,List.reverse_append,List.reverse_cons,List.append_assoc,List.find?_append,h2]
 simp [he]
theorem lastN_none{α:Type}(env:List (ByteArray × α))(s:ByteArray)(d:ByteArray × α)(hl:∀j,j<env.length→(env.getD j d).1≠s):lastN env s=none:=by
 unfold lastN
 rw [Option.map_eq_none_iff,List.find?_eq_none]
 intro x hx
 obtain⟨k,hk,rfl⟩:=List.getElem_of_mem (List.mem_reverse.1 hx)
 have:=hl k hk
 rw [List.getD_eq_getElem?_getD,List.getElem?_eq_getElem hk,Option.getD_some]at this
 simpa using this
def lookV(env:List (ByteArray × Int))(s:ByteArray):Int × Bool:=if inpD s.toList≠0 then(inpD s.toList,true)else match lastN env s with|some m=>(m,true)|none=>(0,false)
theorem lookV_infer(env:List (ByteArray × Int))(s:ByteArray):inferN env s=if(lookV env s).2=true then((lookV env s).1,0)else(0,5):=by
 unfold inferN lookV
 by_cases h:inpD s.toList≠0
 ·rw [if_pos h,if_pos h];simp
 ·rw [if_neg h,if_neg h]
  cases lastN env s<;>simp
def LkP(env:List (ByteArray × Int))(s:ByteArray)(w:World)(e:Ending)(w':World):Prop:=e= .returned (.tuple #[.int .i64 (lookV env s).1,.bool (lookV env s).2])∧w.Grows w'
structure LkMem(B:Nat)(s:ByteArray)(m:Int)(q:Bool)(W:World):Prop where
 nm:W.heap[B]? =some (.cells #[.string s] 9 (0,0))
 res:W.heap[B+1]? =some (.cells #[.int .i64 m] 3 (0,0))
 ok:W.heap[B+2]? =some (.cells #[.bool q] 4 (0,0))
 size:B+4≤W.heap.size
theorem LkMem.own{B:Nat}{s:ByteArray}{m:Int}{q:Bool}{X Y:World}{row:Option Nat}(h:LkMem B s m q X)(hg:X.grownBy Y row)(hr:∀r,row=some r→∃o:Obj,X.heap[r]? =some o∧o.isCells=false):LkMem B s m q Y:=
 ⟨(grownBy_keeps_cells hg hr h.nm rfl).trans h.nm,(grownBy_keeps_cells hg hr h.res rfl).trans h.res,(grownBy_keeps_cells hg hr h.ok rfl).trans h.ok,Nat.le_trans h.size hg.size⟩
theorem LkMem.alloc{B:Nat}{s:ByteArray}{m:Int}{q:Bool}{X:World}(h:LkMem B s m q X)(o:Obj):LkMem B s m q (X.alloc o):=h.own (World.grownBy_alloc X o none) (fun r e=>by cases e)
def LkBody(B:Nat)(s:ByteArray)(L:List (ByteArray × Int))(w:World)(c:Code)(pre:List (Fin L.length))(W:World):Prop:=
 (c= .ret∧∃ini i,pre=ini++[i]∧(∀j∈ini,bdN L j.1≠s)∧bdN L i.1=s∧LkMem B s (bdD L i.1) true W)∧Below w.heap.size w W
theorem lookup_in(s:ByteArray)(L:List (ByteArray × Int))(v:Value)(w:World)(h:BindAt w v L)(hs:inpD s.toList≠0):Calls Tryz.prog 205 #[.string s,v] w (LkP L s w):=by
 obtain⟨-,a,cap,rfl,-⟩:=h
 have HF:Hid (lookV L s=(inpD s.toList,true)):=Lib.hid (by unfold lookV;rw [if_pos hs])
 have HI:Hid (∀w,Calls Tryz.prog 89 #[.string s] w fun e w'=>e= .returned (.tuple #[.int .i64 (inpD s.toList),.bool true])∧w=w'):=Lib.hid (fun w=>(Input2_any s w).mono (by rintro e w' ⟨rfl,rfl⟩;rw [decide_eq_true hs];exact⟨rfl,rfl⟩))
 clear hs
 generalize inpD s.toList=D at *
 go_enter Tryz.func205,Tryz.ntmps205
 go_wp2_with (go_at_call 89;refine(HI.out _).mono ?_;rintro e w' ⟨rfl,rfl⟩)
 go_returns
 unfold LkP
 rw [HF.out]
 exact⟨rfl,.of_below belB⟩
theorem lookup_no(s:ByteArray)(L:List (ByteArray × Int))(v:Value)(w:World)(h:BindAt w v L)(hs:inpD s.toList=0):Calls Tryz.prog 205 #[.string s,v] w (LkP L s w):=by
 have HV:=Lib.hid h
 obtain⟨-,a,cap,rfl,-⟩:=h
 have HS:Hid (lookV L s=match lastN L s with|some m=>(m,true)|none=>(0,false)):=Lib.hid (by unfold lookV;rw [if_neg (by omega)])
 have HI:Hid (∀w,Calls Tryz.prog 89 #[.string s] w fun e w'=>e= .returned (.tuple #[.int .i64 0,.bool false])∧w=w'):=Lib.hid (fun w=>(Input2_any s w).mono (by rintro e w' ⟨rfl,rfl⟩;rw [hs];exact⟨rfl,rfl⟩))
 clear hs
 refine(callsIn_wide (n:=6)).1 ?_
 refine callsIn_of_wp_marks Tryz.func205 rfl trivial ?_ rfl
 simp only [Tryz.ntmps205,List.size_toArray,List.length_cons,List.length_nil,Nat.reduceAdd,Nat.reduceSub,Array.replicate_succ,Array.replicate_zero,List.push_toArray,List.append_toArray,List.nil_append,List.cons_append]
 gi_wp2_with (first
  |(refine⟨trivial, ?_⟩;gi_at_call 89;refine(callsIn_wide.2 (HI.out _)).mono ?_;rintro e w' ⟨rfl,rfl⟩)
  |(refine⟨trivial, ?_⟩;gi_at_call 222;refine(backB_in Fence.wide _ trivial rfl _ _ _ _).mono ?_;rintro e w' ⟨rfl,rfl⟩))
 obtain⟨W0,hW0⟩:∃W0,(((w.alloc (.cells #[.string s] 9)).alloc (.cells #[.int .i64 0] 3)).alloc (.cells #[.bool false] 4)).alloc (.cells #[.slice a L.length cap] 87)=W0:=⟨_,rfl⟩
 have hsz:W0.heap.size=w.heap.size+4:=by rw [←hW0];simp
 have hB0:Below w.heap.size w W0:=by rw [←hW0];(exact belB)
 have hm0:LkMem w.heap.size s 0 false W0:=by rw [←hW0];exact⟨by(repeat(first|(rw [heap_alloc_if,if_pos (by simp;done)];done)|(rw [heap_alloc_if,if_neg (by simp;omega)])|(rw [heap_alloc_if,if_neg (by simp;done)]))),by(repeat(first|(rw [heap_alloc_if,if_pos (by simp;done)];done)|(rw [heap_alloc_if,if_neg (by simp;omega)])|(rw [heap_alloc_if,if_neg (by simp;done)]))),by(repeat(first|(rw [heap_alloc_if,if_pos (by simp;done)];done)|(rw [heap_alloc_if,if_neg (by simp;omega)])|(rw [heap_alloc_if,if_neg (by simp;done)]))),by simp⟩
 have hbk:W0.cell? ⟨w.heap.size+3,0,none⟩=some (.slice a L.length cap):=by rw [←hW0,World.cell?_alloc_at _ _ _ _ (by simp)];rfl
 rw [hW0]
 clear hW0
 have HB0:=Lib.hid hB0
 have HM0:=Lib.hid hm0
 have HVW:=Lib.hid (HV.out.below (Nat.le_refl _) hB0)
 refine wpIn_rangeFunc_ownH (F:=Fence.wide) rfl (by omega) (gf:=232) (lb:=#[.pointer (some ⟨w.heap.size+3,0,none⟩)]) rfl trivial (enters_of Tryz.func232 (by kernel_rfl) rfl)
  (backB_stops Fence.wide 5 trivial rfl (by omega) (w.heap.size+3) W0.heap.size (.slice a L.length cap) L L.length W0 (by omega) (Nat.le_refl _) hbk HVW.out.lies) belowK_t (belowK_b (Nat.le_refl _)) (Below.refl _ _) (fun _=>rfl)
  (fun pre W=>(LkMem w.heap.size s 0 false W∧∀j∈pre,bdN L j.1≠s)∧Below w.heap.size w W)
  (LkBody w.heap.size s L w)
  (OwnFrom.and (Own.from (fun s A B row hs hg hr=>⟨hs.1.own hg hr,hs.2⟩) _) (ownFrom_below (Nat.le_refl _) (by omega)))
  (fun c=>OwnFrom.and (Own.from (fun s A B row hs hg hr=>by obtain⟨h1,ini,i,h2,h3,h5,h4⟩:=hs;exact⟨h1,ini,i,h2,h3,h5,h4.own hg hr⟩) _) (ownFrom_below (Nat.le_refl _) (by omega)))
  ⟨⟨hm0,fun j hj=>by cases hj⟩,hB0⟩
  (fun i a' W=>∃Bx,w.heap.size+3<Bx∧W.heap[Bx]? =some (.cells #[.string (bdN L i.1),.int .i64 (bdD L i.1)] 96 (0,0))∧
   a'= {tmps:=#[.string s,.slice a L.length cap,.pointer (some ⟨w.heap.size,0,none⟩),undef,.pointer (some ⟨w.heap.size+1,0,none⟩),.pointer (some ⟨w.heap.size+1+1,0,none⟩),.int .i64 0,.bool false,undef,.pointer (some ⟨Bx,0,none⟩),.tuple #[.int .i64 0,.bool false],.string s,.tuple #[.int .i64 0,.bool false],.int .i64 0,.bool false,.bool false,undef,.slice a L.length cap,.func (.func 232) #[] #[.pointer (some ⟨w.heap.size+1+1+1,0,none⟩)],.int .i64 ((i.1:Nat):Int),BRow.el L i.1,undef,undef,undef,undef,undef,undef],defers:=[]})
  (fun i a' _ X Y row hs hg hr=>by obtain⟨Bx,h1,h2,h3⟩:=hs;exact⟨Bx,h1,(grownBy_keeps_cells hg (fun r e=>(hr r e).2) h2 rfl).trans h2,h3⟩)
  ?assign ?body ?done ?stop
 case assign=>
  rintro l pre i W K ⟨⟨hm,hpre⟩,hB1⟩ hK
  unfold BRow.el
  gi_wp2
  have hs1:=hm.size
  refine hK _ _ ((KeepsOthers.alloc _ _).from _) ((Below.refl _ W).alloc (by omega) _) ⟨⟨hm.alloc _,hpre⟩,hB1.alloc hB1.size _⟩ ⟨W.heap.size,by omega,heap_alloc_new _ _,rfl⟩
 case body=>
  rintro l pre i a' W hl ⟨r,hr⟩ ⟨⟨hm,hpre⟩,hB1⟩ ⟨Bx,hBx,hbx,rfl⟩ hlt
  have HM:=Lib.hid hm
  have HB1:=Lib.hid hB1
  have HP:=Lib.hid hpre
  have q0:W.cell? ⟨Bx,0,none⟩=some (.string (bdN L i.1)):=cell_of_row _ _ _ _ _ _ hbx
  have q1:W.cell? ⟨Bx,1,none⟩=some (.int .i64 (bdD L i.1)):=cell_of_row _ _ _ _ _ _ hbx
  have qn:W.cell? ⟨w.heap.size,0,none⟩=some (.string s):=cell_of_row _ _ _ _ _ _ hm.nm
  have r0:W.cell? ⟨w.heap.size+1,0,none⟩=some (.int .i64 0):=cell_of_row _ _ _ _ _ _ hm.res
  have rk:W.cell? ⟨w.heap.size+1+1,0,none⟩=some (.bool false):=cell_of_row _ _ _ _ _ _ hm.ok
  have rf:∀j,W.frozen? ⟨w.heap.size+1,j,none⟩=false:=fun j=>Joins.unfrozen_of_block hm.res j
  have rg:∀j,W.frozen? ⟨w.heap.size+1+1,j,none⟩=false:=fun j=>Joins.unfrozen_of_block hm.ok j
  unfold BRow.el
  generalize hN:bdN L i.1=nk at *
  generalize hD:bdD L i.1=dk at *
  have HN:=Lib.hid hN
  have HD:=Lib.hid hD
  clear hm hpre hB1 hbx hN hD
  by_cases he:nk=s
  ·have HE:=Lib.hid he
   have he2:(nk.toList==s.toList)=true:=by rw [he];simp
   clear he
   gi_wp2
   have hs1:=HM.out.size
   have hh:∀k,k≠w.heap.size+1→k≠w.heap.size+2→((W.setCell ⟨w.heap.size+1,0,none⟩ (.int .i64 dk)).setCell ⟨w.heap.size+2,0,none⟩ (.bool true)).heap[k]? =W.heap[k]?:=fun k hk hk2=>(Below.heap_setCell _ _ _ _ hk2).trans (Below.heap_setCell _ _ _ _ hk)
   have key:LkMem w.heap.size s dk true ((W.setCell ⟨w.heap.size+1,0,none⟩ (.int .i64 dk)).setCell ⟨w.heap.size+2,0,none⟩ (.bool true)):=by
    exact fz22
   have kf:KeepsFrom W0.heap.size W ((W.setCell ⟨w.heap.size+1,0,none⟩ (.int .i64 dk)).setCell ⟨w.heap.size+2,0,none⟩ (.bool true)):=⟨by simp,fun k o hBk hk _=>by
    rw [hh _ (by omega) (by omega)];exact hk⟩
   have bl:Below w.heap.size w ((W.setCell ⟨w.heap.size+1,0,none⟩ (.int .i64 dk)).setCell ⟨w.heap.size+2,0,none⟩ (.bool true)):=
    (HB1.out.setCell (by show w.heap.size≤w.heap.size+1;omega) _).setCell (by show w.heap.size≤w.heap.size+2;omega) _
   exact⟨kf,⟨rfl,pre,i,rfl,HP.out,by rw [HN.out];exact HE.out,by rw [HD.out];exact key⟩,bl⟩
  ·have HE:=Lib.hid he
   have he2:(nk.toList==s.toList)=false:=by
    rw [beq_eq_false_iff_ne];exact fun h=>he (toList_inj h)
   clear he
   gi_wp2
   refine⟨KeepsFrom.refl _ _,Below.refl _ _,⟨⟨HM.out,fun j hj=>?_⟩,HB1.out⟩⟩
   rcases List.mem_append.1 hj with h1|h1
   ·exact HP.out j h1
   ·obtain rfl:j=i:=by simpa using h1
    rw [HN.out];exact HE.out
 case done=>
  rintro D xs W hD rfl ⟨⟨hm,hpre⟩,hB1⟩ hK
  have HM:=Lib.hid hm
  have HB1:=Lib.hid hB1
  have HP:=Lib.hid hpre
  have r0:W.cell? ⟨w.heap.size+1,0,none⟩=some (.int .i64 0):=cell_of_row _ _ _ _ _ _ hm.res
  have rk:W.cell? ⟨w.heap.size+1+1,0,none⟩=some (.bool false):=cell_of_row _ _ _ _ _ _ hm.ok
  have rf:∀j,W.frozen? ⟨w.heap.size+1,j,none⟩=false:=fun j=>Joins.unfrozen_of_block hm.res j
  have rg:∀j,W.frozen? ⟨w.heap.size+1+1,j,none⟩=false:=fun j=>Joins.unfrozen_of_block hm.ok j
  clear hm hB1 hpre
  gi_wp2
  have hDW:=(Array.getElem?_eq_some_iff.1 hK).1
  have hs1:=HM.out.size
  have hh:∀k,k≠w.heap.size+1→k≠w.heap.size+2→((W.setCell ⟨w.heap.size+1,0,none⟩ (.int .i64 0)).setCell ⟨w.heap.size+2,0,none⟩ (.bool false)).heap[k]? =W.heap[k]?:=fun k hk hk2=>(Below.heap_setCell _ _ _ _ hk2).trans (Below.heap_setCell _ _ _ _ hk)
  have m2:LkMem w.heap.size s 0 false ((W.setCell ⟨w.heap.size+1,0,none⟩ (.int .i64 0)).setCell ⟨w.heap.size+2,0,none⟩ (.bool false)):=by
   exact fz22
  have bl:Below w.heap.size w ((W.setCell ⟨w.heap.size+1,0,none⟩ (.int .i64 0)).setCell ⟨w.heap.size+2,0,none⟩ (.bool false)):=
   (HB1.out.setCell (by show w.heap.size≤w.heap.size+1;omega) _).setCell (by show w.heap.size≤w.heap.size+2;omega) _
  have hK':((W.setCell ⟨w.heap.size+1,0,none⟩ (.int .i64 0)).setCell ⟨w.heap.size+2,0,none⟩ (.bool false)).heap[D]? =some (.deferred (some [])):=by rw [hh _ (by omega) (by omega)];exact hK
  refine⟨by simp,.inl ⟨_,_,rfl,run_takeDeferred hK', ?_⟩⟩
  have m3:=m2.own (grownBy_putObj' _ D (.deferred none)) (fun r e=>by cases e;exact⟨_,hK',rfl⟩)
  have bl3:=bl.trans (belowK_b (w:=w) (Nat.le_refl _) _ D _ (.deferred none) (by omega) hK' rfl rfl)
  show LeavesInM Fence.wide 6 Tryz.prog Tryz.f205 _ _ _ _ (((W.setCell ⟨w.heap.size+1,0,none⟩ (.int .i64 0)).setCell ⟨w.heap.size+2,0,none⟩ (.bool false)).putObj D (.deferred none))
  generalize(((W.setCell ⟨w.heap.size+1,0,none⟩ (.int .i64 0)).setCell ⟨w.heap.size+2,0,none⟩ (.bool false)).putObj D (.deferred none))=W9 at m3 bl3 ⊢
  have e0:W9.cell? ⟨w.heap.size+1,0,none⟩=some (.int .i64 0):=cell_of_row _ _ _ _ _ _ m3.res
  have ek:W9.cell? ⟨w.heap.size+1+1,0,none⟩=some (.bool false):=cell_of_row _ _ _ _ _ _ m3.ok
  have hn:lastN L s=none:=lastN_none L s (ByteArray.empty,0) fun j hj=>HP.out ⟨j,hj⟩ (backs_mem _ (by simp))
  refine⟨.tuple #[.int .i64 0,.bool false], ?_, ?_,.of_below bl3⟩
  ·simp [results,Tryz.f205,go_sem,e0,ek]
  ·rw [HS.out,hn]
 case stop=>
  rintro D c pre W hD ⟨k,hk,rfl⟩ ⟨⟨rfl,ini,i,hin,hini,hsi,hm1⟩,hB1⟩ hK
  have hm:=hm1.own (grownBy_putObj' W D (.deferred none)) (fun r e=>by cases e;exact⟨_,hK,rfl⟩)
  have bl3:=hB1.trans (belowK_b (w:=w) (Nat.le_refl _) W D _ (.deferred none) (by omega) hK rfl rfl)
  gi_wp2
  refine⟨by simp,.inl ⟨_,_,rfl,run_takeDeferred hK, ?_⟩⟩
  generalize W.putObj D (.deferred none)=W9 at hm bl3 ⊢
  have e0:W9.cell? ⟨w.heap.size+1,0,none⟩=some (.int .i64 (bdD L i.1)):=cell_of_row _ _ _ _ _ _ hm.res
  have ek:W9.cell? ⟨w.heap.size+1+1,0,none⟩=some (.bool true):=cell_of_row _ _ _ _ _ _ hm.ok
  have hii:L.length-1-k<L.length:=by omega
  rw [backs_succ _ _ ⟨L.length-1-k,hii⟩ hk rfl]at hin
  obtain⟨h1,h2⟩:=List.append_inj' hin rfl
  subst h1
  obtain rfl:(⟨L.length-1-k,hii⟩:Fin L.length)=i:=by simpa using h2
  have hn:lastN L s=some (bdD L (L.length-1-k)):=lastN_some L s (L.length-1-k) (ByteArray.empty,0) hii hsi fun j hj hjl=>hini ⟨j,hjl⟩ (backs_mem _ (by simp;omega))
  refine⟨.tuple #[.int .i64 (bdD L (L.length-1-k)),.bool true], ?_, ?_,.of_below bl3⟩
  ·simp [results,Tryz.f205,go_sem,e0,ek]
  ·rw [HS.out,hn]
theorem lookup_any(s:ByteArray)(L:List (ByteArray × Int))(v:Value)(w:World)(h:BindAt w v L):Calls Tryz.prog 205 #[.string s,v] w (LkP L s w):=by
 by_cases hs:inpD s.toList=0
 ·exact lookup_no s L v w h hs
 ·exact lookup_in s L v w h hs
end Go.Proofs.YtaghhncnicbedaaGreatDoor
namespace Go.Proofs.YtaghhncnicbedaaGreatDoor
open Go.RowKit

theorem times2_any(a b:Nat)(w:World)(h1:a<18446744073709551616)(h2:b<18446744073709551616) :
 Calls Tryz.prog 148 #[.int .u64 a,.int .u64 b] w fun e w'=>e= .returned (.agg #[.int .u64 (hiW (a*b)),.int .u64 (loW (a*b))])∧w.Grows w':=by
 have H:Hid (∀w,Calls Tryz.prog 76 #[.int .u64 a,.int .u64 b] w fun e w'=>e= .returned (.tuple #[.int .u64 (hiW (a*b)),.int .u64 (loW (a*b))])∧w'=w):=Tryz.bits_Mul64 a b h1 h2
 generalize a*b=n at *
 go_enter Tryz.func148,Tryz.ntmps148
 go_wp2_with fail
 refine(H.out _).mono ?_
 rintro e w' ⟨rfl,rfl⟩
 clear H
 go_wp2_with fail
 go_returns
 exact⟨rfl,.of_below belB⟩
theorem add64_nat(x y c:Nat)(hc:c≤1)(w:World):(callFunc 191 #[.int .u64 x,.int .u64 y,.int .u64 c]).run Tryz.prog w=
 .ok (.value (.tuple #[.int .u64 (((x+y+c) % 18446744073709551616:Nat):Int),.int .u64 (((x+y+c) / 18446744073709551616:Nat):Int)])) w:=by
 rw [run_callFunc_extern Tryz.func191 (by kernel_rfl) (by kernel_rfl) (by kernel_rfl) (e:=add64Entry) (by kernel_rfl),run_add64 x y c (by omega) (by omega) (by omega) (by omega)]
 simp only [Result.andThen]
 congr 5<;>omega
theorem sub64_nat(x y b:Nat)(hb:b≤1)(w:World):(callFunc 192 #[.int .u64 x,.int .u64 y,.int .u64 b]).run Tryz.prog w=
 .ok (.value (.tuple #[.int .u64 (((x+18446744073709551616-y-b) % 18446744073709551616:Nat):Int),.int .u64 ((if x<y+b then 1 else 0:Nat):Int)])) w:=by
 rw [run_callFunc_extern Tryz.func192 (by kernel_rfl) (by kernel_rfl) (by kernel_rfl) (e:=sub64Entry) (by kernel_rfl),run_sub64 x y b hb]
 rfl
def hiN(n:Nat):Nat:=n / 18446744073709551616
def loN(n:Nat):Nat:=n % 18446744073709551616
theorem add_words(a b:Nat)(h:a+b<340282366920938463463374607431768211456) :
 (loN a+loN b+0) % 18446744073709551616=loN (a+b)∧(loN a+loN b+0) / 18446744073709551616≤1∧(hiN a+hiN b+(loN a+loN b+0) / 18446744073709551616) % 18446744073709551616=hiN (a+b):=by
 unfold loN hiN;omega
theorem sub_words(a b:Nat)(h:b≤a)(ha:a<340282366920938463463374607431768211456) :
 (loN a+18446744073709551616-loN b-0) % 18446744073709551616=loN (a-b)∧(if loN a<loN b+0 then 1 else 0)≤1∧(hiN a+18446744073709551616-hiN b-(if loN a<loN b+0 then 1 else 0)) % 18446744073709551616=hiN (a-b):=by
 unfold loN hiN;split<;>omega
theorem plus2_any(a b:Nat)(w:World)(h:a+b<340282366920938463463374607431768211456) :
 Calls Tryz.prog 149 #[.agg #[.int .u64 (hiW a),.int .u64 (loW a)],.agg #[.int .u64 (hiW b),.int .u64 (loW b)]] w fun e w'=>e= .returned (.agg #[.int .u64 (hiW (a+b)),.int .u64 (loW (a+b))])∧w.Grows w':=by
 obtain⟨e1,e2,e3⟩:=add_words a b h
 obtain⟨c,hc⟩:∃c,(loN a+loN b+0) / 18446744073709551616=c:=⟨_,rfl⟩
 have ha:∀w,(callFunc 191 #[.int .u64 (loW a),.int .u64 (loW b),.int .u64 0]).run Tryz.prog w= .ok (.value (.tuple #[.int .u64 (loW (a+b)),.int .u64 (c:Int)])) w:=by
  intro w;have:=add64_nat (loN a) (loN b) 0 (by omega) w;rw [e1,hc]at this;exact this
 have hb:∀w,(callFunc 191 #[.int .u64 (hiW a),.int .u64 (hiW b),.int .u64 (c:Int)]).run Tryz.prog w= .ok (.value (.tuple #[.int .u64 (hiW (a+b)),.int .u64 ((hiN a+hiN b+c) / 18446744073709551616:Nat)])) w:=by
  intro w;have:=add64_nat (hiN a) (hiN b) c (by omega) w;rw [←hc,e3,hc]at this;exact this
 generalize(((hiN a+hiN b+c) / 18446744073709551616:Nat):Int)=z at *
 generalize(c:Int)=c' at *
 clear e1 e2 e3 hc h
 generalize hiW a=A at *
 generalize hiW b=B at *
 generalize loW a=La at *
 generalize loW b=Lb at *
 generalize hiW (a+b)=S at *
 generalize loW (a+b)=T at *
 go_enter Tryz.func149,Tryz.ntmps149
 go_wp2_with fail
 go_returns
 exact⟨rfl,.of_below belB⟩
theorem minus2_any(a b:Nat)(w:World)(h:b≤a)(h2:a<340282366920938463463374607431768211456) :
 Calls Tryz.prog 151 #[.agg #[.int .u64 (hiW a),.int .u64 (loW a)],.agg #[.int .u64 (hiW b),.int .u64 (loW b)]] w fun e w'=>e= .returned (.agg #[.int .u64 (hiW (a-b)),.int .u64 (loW (a-b))])∧w.Grows w':=by
 obtain⟨e1,e2,e3⟩:=sub_words a b h h2
 obtain⟨c,hc⟩:∃c,(if loN a<loN b+0 then 1 else 0)=c:=⟨_,rfl⟩
 have ha:∀w,(callFunc 192 #[.int .u64 (loW a),.int .u64 (loW b),.int .u64 0]).run Tryz.prog w= .ok (.value (.tuple #[.int .u64 (loW (a-b)),.int .u64 (c:Int)])) w:=by
  intro w;have:=sub64_nat (loN a) (loN b) 0 (by omega) w;rw [e1,hc]at this;exact this
 have hb:∀w,(callFunc 192 #[.int .u64 (hiW a),.int .u64 (hiW b),.int .u64 (c:Int)]).run Tryz.prog w= .ok (.value (.tuple #[.int .u64 (hiW (a-b)),.int .u64 ((if hiN a<hiN b+c then 1 else 0:Nat):Int)])) w:=by
  intro w;have:=sub64_nat (hiN a) (hiN b) c (by omega) w;rw [←hc,e3,hc]at this;exact this
 generalize((if hiN a<hiN b+c then 1 else 0:Nat):Int)=z at *
 generalize(c:Int)=c' at *
 clear e1 e2 e3 hc h h2
 generalize hiW a=A at *
 generalize hiW b=B at *
 generalize loW a=La at *
 generalize loW b=Lb at *
 generalize hiW (a-b)=S at *
 generalize loW (a-b)=T at *
 go_enter Tryz.func151,Tryz.ntmps151
 go_wp2_with fail
 go_returns
 exact⟨rfl,.of_below belB⟩
def wless(ah al bh bl:Int):Bool:=decide (ah<bh) || ((ah==bh)&&decide (al<bl))
theorem wless_nat(a b:Nat):wless (hiW a) (loW a) (hiW b) (loW b)=decide (a<b):=by
 unfold wless
 rw [Bool.eq_iff_iff]
 simp only [Bool.or_eq_true,Bool.and_eq_true,decide_eq_true_eq,beq_iff_eq]
 unfold hiW loW
 omega
theorem less2_any(ah al bh bl:Int)(w:World) :
 Calls Tryz.prog 150 #[.agg #[.int .u64 ah,.int .u64 al],.agg #[.int .u64 bh,.int .u64 bl]] w fun e w'=>e= .returned (.bool (wless ah al bh bl))∧w.Grows w':=by
 by_cases c1:ah<bh
 ·go_enter Tryz.func150,Tryz.ntmps150
  go_wp2_with fail
  go_returns
  exact⟨ret_bool (by simp [wless,c1]),.of_below belB⟩
 ·by_cases c2:ah=bh
  ·subst c2
   go_enter Tryz.func150,Tryz.ntmps150
   go_wp2_with fail
   go_returns
   exact⟨ret_bool (by simp [wless]),.of_below belB⟩
  ·have c3:(ah==bh)=false:=by simpa using c2
   go_enter Tryz.func150,Tryz.ntmps150
   go_wp2_with fail
   go_returns
   exact⟨ret_bool (by simp [wless,c1,c3]),.of_below belB⟩
theorem over2_core(H L d q r Q:Int)(w:World)(a1:(d==0)=false)(a2:1≤d)(h0:0≤H)
 (a3:IntKind.u64.wrap (H.tdiv d)=Q)
 (HD:Hid (∀w,Calls Tryz.prog 77 #[.int .u64 (H % d),.int .u64 L,.int .u64 d] w fun e w'=>e= .returned (.tuple #[.int .u64 q,.int .u64 r])∧w.Grows w')) :
 Calls Tryz.prog 153 #[.agg #[.int .u64 H,.int .u64 L],.int .u64 d] w fun e w'=>e= .returned (.agg #[.int .u64 Q,.int .u64 q])∧w.Grows w':=by
 go_enter Tryz.func153,Tryz.ntmps153
 go_wp2_with fail
 go_region
 go_wp2_with fail
 refine(HD.out _).mono ?_
 rintro e w' ⟨rfl,bs,dr,rfl⟩
 clear HD
 go_wp2_with fail
 go_returns
 exact⟨rfl,.of_below belB⟩
theorem over2_any(n d:Nat)(w:World)(h1:n<340282366920938463463374607431768211456)(h2:d<18446744073709551616)(h0:0<d) :
 Calls Tryz.prog 153 #[.agg #[.int .u64 (hiW n),.int .u64 (loW n)],.int .u64 d] w fun e w'=>e= .returned (.agg #[.int .u64 (hiW (n / d)),.int .u64 (loW (n / d))])∧w.Grows w':=by
 obtain⟨e1,e2,e3⟩:=over_nat n d h0 h2
 have hh:=hiW_bd n h1
 refine over2_core _ _ _ _ (remI n d) _ w (by simp;omega) (by omega) hh.1 ?_ ?_
 ·have:(hiW n).tdiv d=((n / 18446744073709551616 / d:Nat):Int):=by
   rw [Int.tdiv_eq_ediv_of_nonneg hh.1];unfold hiW;simp
  rw [this,←e1]
  have h3:n / d≤n:=Nat.div_le_self _ _
  unfold hiW
  generalize n / d=m at *
  exact IntWalk.u64_in _ (by omega)
 ·intro w
  have:=Div64_any (n / 18446744073709551616 % d) (n % 18446744073709551616) d w (Nat.mod_lt _ h0) (Nat.mod_lt _ (by omega)) h2
  rw [←e2,←e3]at this
  simpa [hiW,loW,remI]using this
theorem rem_core(H L d q r:Int)(w:World)(a1:(d==0)=false)(a2:1≤d)(h0:0≤H)
 (HD:Hid (∀w,Calls Tryz.prog 77 #[.int .u64 (H % d),.int .u64 L,.int .u64 d] w fun e w'=>e= .returned (.tuple #[.int .u64 q,.int .u64 r])∧w.Grows w')) :
 Calls Tryz.prog 152 #[.int .u64 H,.int .u64 L,.int .u64 d] w fun e w'=>e= .returned (.int .u64 r)∧w.Grows w':=by
 go_enter Tryz.func152,Tryz.ntmps152
 go_wp2_with fail
 refine(HD.out _).mono ?_
 rintro e w' ⟨rfl,bs,dr,rfl⟩
 clear HD
 go_wp2_with fail
 go_returns
 exact⟨rfl,.of_below belB⟩
theorem Rem64_any(n d:Nat)(w:World)(h1:n<340282366920938463463374607431768211456)(h2:d<18446744073709551616)(h0:0<d) :
 Calls Tryz.prog 152 #[.int .u64 (hiW n),.int .u64 (loW n),.int .u64 d] w fun e w'=>e= .returned (.int .u64 (remI n d))∧w.Grows w':=by
 obtain⟨e1,e2,e3⟩:=over_nat n d h0 h2
 have hh:=hiW_bd n h1
 refine rem_core _ _ _ (loW (n / d)) _ w (by simp;omega) (by omega) hh.1 ?_
 intro w
 have:=Div64_any (n / 18446744073709551616 % d) (n % 18446744073709551616) d w (Nat.mod_lt _ h0) (Nat.mod_lt _ (by omega)) h2
 rw [←e2,←e3]at this
 simpa [hiW,loW,remI]using this
def witV(neg:Bool)(h l k d:Int):Value:=if(h !=0)=true∨1000000000000000<l∨(k !=0)=true∨1000000000<d then .tuple #[.agg #[.int .i64 0,.int .i64 0],.int .i64 2]else .tuple #[.agg #[.int .i64 (if neg then -l else l),.int .i64 d],.int .i64 0]
theorem within2_any(neg:Bool)(h l k d:Int)(w:World)(hl0:0≤l)(hd0:0≤d) :
 Calls Tryz.prog 147 #[.bool neg,.agg #[.int .u64 h,.int .u64 l],.agg #[.int .u64 k,.int .u64 d]] w fun e w'=>e= .returned (witV neg h l k d)∧w.Grows w':=by
 by_cases c1:(h !=0)=true
 ·go_enter Tryz.func147,Tryz.ntmps147
  go_wp2_with fail
  go_returns
  exact⟨by rw [witV,if_pos (.inl c1)],.of_below belB⟩
 ·have c1':(h !=0)=false:=by simpa using c1
  by_cases c2:(1000000000000000:Int)<l
  ·clear c1
   go_enter Tryz.func147,Tryz.ntmps147
   go_wp2_with fail
   go_returns
   exact⟨by rw [witV,if_pos (.inr (.inl c2))],.of_below belB⟩
  ·have c2':decide ((1000000000000000:Int)<l)=false:=by simpa using c2
   by_cases c3:(k !=0)=true
   ·clear c1
    go_enter Tryz.func147,Tryz.ntmps147
    go_wp2_with fail
    go_returns
    exact⟨by rw [witV,if_pos (.inr (.inr (.inl c3)))],.of_below belB⟩
   ·have c3':(k !=0)=false:=by simpa using c3
    by_cases c4:(1000000000:Int)<d
    ·clear c1 c3
     go_enter Tryz.func147,Tryz.ntmps147
     go_wp2_with fail
     go_returns
     exact⟨by rw [witV,if_pos (.inr (.inr (.inr c4)))],.of_below belB⟩
    ·have c4':decide ((1000000000:Int)<d)=false:=by simpa using c4
     have Hn:=Lib.hid (show ¬((h !=0)=true∨1000000000000000<l∨(k !=0)=true∨1000000000<d)by
      rintro(x|x|x|x)
      ·exact c1 x
      ·exact c2 x
      ·exact c3 x
      ·exact c4 x)
     clear c1 c3
     cases neg
     ·go_enter Tryz.func147,Tryz.ntmps147
      go_wp2_with fail
      go_returns
      exact⟨by rw [witV,if_neg Hn.out];rfl,.of_below belB⟩
     ·go_enter Tryz.func147,Tryz.ntmps147
      go_wp2_with fail
      go_returns
      exact⟨by rw [witV,if_neg Hn.out];rfl,.of_below belB⟩
def frV(r:Int × Int × Int):Value:=.tuple #[.agg #[.int .i64 r.1,.int .i64 r.2.1],.int .i64 r.2.2]
theorem frV_wit(b:Bool)(p q:Nat):witV b (hiW p) (loW p) (hiW q) (loW q)=frV (if 1000000000000000<p∨1000000000<q then(0,0,2)else(if b then -(p:Int)else p,q,0)):=by
 unfold witV hiW loW
 by_cases c:1000000000000000<p∨1000000000<q
 ·rw [if_pos c,if_pos (by
   by_cases ha:p / 18446744073709551616=0
   ·by_cases hb:q / 18446744073709551616=0
    ·omega
    ·right;right;left;simp;omega
   ·left;simp;omega)]
  rfl
 ·have ha:p / 18446744073709551616=0:=by omega
  have hb:q / 18446744073709551616=0:=by omega
  have hc:p % 18446744073709551616=p:=by omega
  have hd:q % 18446744073709551616=q:=by omega
  rw [if_neg c,if_neg (by rw [ha,hb,hc,hd];simp;omega),hc,hd]
  rfl
theorem quo_u64{a g:Int}(h0:0≤a)(h1:a<18446744073709551616)(hg:1≤g):IntKind.u64.wrap (a.tdiv g)=a / g:=by
 rw [Int.tdiv_eq_ediv_of_nonneg h0]
 have h2:=Int.ediv_nonneg h0 (show 0≤g by omega)
 have h3:a / g≤a:=Int.ediv_le_self g h0
 exact IntWalk.u64_in _ (by omega)
theorem ediv_nat(a b:Nat):(a:Int) / (b:Int)=((a / b:Nat):Int):=by simp
end Go.Proofs.YtaghhncnicbedaaGreatDoor
