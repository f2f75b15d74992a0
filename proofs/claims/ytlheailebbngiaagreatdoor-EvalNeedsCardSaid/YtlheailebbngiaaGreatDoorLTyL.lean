import Derived.Test.YtlheailebbngiaaGreatDoorLBkB
import Derived.Test.YtlheailebbngiaaGreatDoorLFrWd
import Derived.Test.YtlheailebbngiaaGreatDoorLK
import Derived.Laws.Strings
import Derived.ProofKit
import Derived.SizedLaws
import Derived.Deep.Matrix
import Derived.Deep.Fields
import Derived.OpenShut
set_option linter.all false
set_option maxHeartbeats 16000000
set_option maxRecDepth 1000000
namespace Go.Proofs.YtlheailebbngiaaGreatDoor
open Go.RowKit Go.Shelf
attribute [local go_sem] Oper.semAt_some
theorem toList_inj{a b:ByteArray}(h:a.toList=b.toList):a=b:=by
 rw [ByteArray.toList_eq,ByteArray.toList_eq]at h
 exact ByteArray.ext (Array.ext' h)
theorem lastN_some{α:Type}(env:List (ByteArray × α))(s:ByteArray)(i:Nat)(d:ByteArray × α)(hi:i<env.length)(he:(env.getD i d).1=s)(hl:∀j,i<j→j<env.length→(env.getD j d).1≠s):lastN env s=some (env.getD i d).2:=by
 have h1:env=env.take i++env.getD i d::env.drop (i+1):=by
  rw [List.getD_eq_getElem?_getD,List.getElem?_eq_getElem hi,Option.getD_some,List.getElem_cons_drop,List.take_append_drop]
 have h2:(env.drop (i+1)).reverse.find? (fun p=>decide (p.1=s))=none:=by
  rw [List.find?_eq_none]
  intro x hx
  obtain⟨k,hk,rfl⟩:=List.getElem_of_mem (List.mem_reverse.1 hx)
  have hk2:i+1+k<env.length:=by rw [List.length_drop]at hk;omega
  have:=hl (i+1+k) (by omega) hk2
  rw [List.getD_eq_getElem?_getD,List.getElem?_eq_getElem hk2,Option.getD_some]at this
  rw [List.getElem_drop]
  simpa using this
 unfold lastN
 generalize hz:env.getD i d=z at *
 rw [h1,List.reverse_append,List.reverse_cons,List.append_assoc,List.find?_append,h2]
 simp [he]
theorem lastN_none{α:Type}(env:List (ByteArray × α))(s:ByteArray)(d:ByteArray × α)(hl:∀j,j<env.length→(env.getD j d).1≠s):lastN env s=none:=by
 unfold lastN
 rw [Option.map_eq_none_iff,List.find?_eq_none]
 intro x hx
 obtain⟨k,hk,rfl⟩:=List.getElem_of_mem (List.mem_reverse.1 hx)
 have:=hl k hk
 rw [List.getD_eq_getElem?_getD,List.getElem?_eq_getElem hk,Option.getD_some]at this
 simpa using this
def lookV(env:List (ByteArray × Int))(s:ByteArray):Int × Bool:=if inpD s.toList≠0 then(inpD s.toList,true)else match lastN env s with|some m=>(m,true)|none=>(0,false)
theorem lookV_infer(env:List (ByteArray × Int))(s:ByteArray):inferN env s=if(lookV env s).2=true then((lookV env s).1,0)else(0,5):=by
 unfold inferN lookV
 by_cases h:inpD s.toList≠0
 ·rw [if_pos h,if_pos h];simp
 ·rw [if_neg h,if_neg h]
  cases lastN env s<;>simp
def LkP(env:List (ByteArray × Int))(s:ByteArray)(w:World)(e:Ending)(w':World):Prop:=e= .returned (.tuple #[.int .i64 (lookV env s).1,.bool (lookV env s).2])∧w.Grows w'
structure LkMem(B:Nat)(s:ByteArray)(m:Int)(q:Bool)(W:World):Prop where
 nm:W.heap[B]? =some (.cells #[.string s] 9 (0,0))
 res:W.heap[B+1]? =some (.cells #[.int .i64 m] 3 (0,0))
 ok:W.heap[B+2]? =some (.cells #[.bool q] 4 (0,0))
 size:B+4≤W.heap.size
theorem LkMem.own{B:Nat}{s:ByteArray}{m:Int}{q:Bool}{X Y:World}{row:Option Nat}(h:LkMem B s m q X)(hg:X.grownBy Y row)(hr:∀r,row=some r→∃o:Obj,X.heap[r]? =some o∧o.isCells=false):LkMem B s m q Y:=
 ⟨(grownBy_keeps_cells hg hr h.nm rfl).trans h.nm,(grownBy_keeps_cells hg hr h.res rfl).trans h.res,(grownBy_keeps_cells hg hr h.ok rfl).trans h.ok,Nat.le_trans h.size hg.size⟩
theorem LkMem.alloc{B:Nat}{s:ByteArray}{m:Int}{q:Bool}{X:World}(h:LkMem B s m q X)(o:Obj):LkMem B s m q (X.alloc o):=h.own (World.grownBy_alloc X o none) (fun r e=>by cases e)
def LkBody(B:Nat)(s:ByteArray)(L:List (ByteArray × Int))(w:World)(c:Code)(pre:List (Fin L.length))(W:World):Prop:=
 (c= .ret∧∃ini i,pre=ini++[i]∧(∀j∈ini,bdN L j.1≠s)∧bdN L i.1=s∧LkMem B s (bdD L i.1) true W)∧Below w.heap.size w W
theorem lookup_in(s:ByteArray)(L:List (ByteArray × Int))(v:Value)(w:World)(h:BindAt w v L)(hs:inpD s.toList≠0):Calls Tryz.prog 138 #[.string s,v] w (LkP L s w):=by
 obtain⟨-,a,cap,rfl,-⟩:=h
 have HF:Hid (lookV L s=(inpD s.toList,true)):=Lib.hid (by unfold lookV;rw [if_pos hs])
 have HI:Hid (∀w,Calls Tryz.prog 47 #[.string s] w fun e w'=>e= .returned (.tuple #[.int .i64 (inpD s.toList),.bool true])∧w=w'):=Lib.hid (fun w=>(Input2_any s w).mono (by rintro e w' ⟨rfl,rfl⟩;rw [decide_eq_true hs];exact⟨rfl,rfl⟩))
 clear hs
 generalize inpD s.toList=D at *
 go_enter Tryz.func138,Tryz.ntmps138
 go_wp2_with (go_at_call 47;refine(HI.out _).mono ?_;rintro e w' ⟨rfl,rfl⟩)
 go_returns
 unfold LkP
 rw [HF.out]
 exact⟨rfl,.of_below belB⟩
theorem lookup_no(s:ByteArray)(L:List (ByteArray × Int))(v:Value)(w:World)(h:BindAt w v L)(hs:inpD s.toList=0):Calls Tryz.prog 138 #[.string s,v] w (LkP L s w):=by
 have HV:=Lib.hid h
 obtain⟨-,a,cap,rfl,-⟩:=h
 have HS:Hid (lookV L s=match lastN L s with|some m=>(m,true)|none=>(0,false)):=Lib.hid (by unfold lookV;rw [if_neg (by omega)])
 have HI:Hid (∀w,Calls Tryz.prog 47 #[.string s] w fun e w'=>e= .returned (.tuple #[.int .i64 0,.bool false])∧w=w'):=Lib.hid (fun w=>(Input2_any s w).mono (by rintro e w' ⟨rfl,rfl⟩;rw [hs];exact⟨rfl,rfl⟩))
 clear hs
 refine(callsIn_wide (n:=6)).1 ?_
 refine callsIn_of_wp_marks Tryz.func138 rfl trivial ?_ rfl
 simp only [Tryz.ntmps138,List.size_toArray,List.length_cons,List.length_nil,Nat.reduceAdd,Nat.reduceSub,Array.replicate_succ,Array.replicate_zero,List.push_toArray,List.append_toArray,List.nil_append,List.cons_append]
 gi_wp2_with (first
  |(refine⟨trivial, ?_⟩;gi_at_call 47;refine(callsIn_wide.2 (HI.out _)).mono ?_;rintro e w' ⟨rfl,rfl⟩)
  |(refine⟨trivial, ?_⟩;gi_at_call 181;refine(backB_in Fence.wide _ trivial rfl _ _ _ _).mono ?_;rintro e w' ⟨rfl,rfl⟩))
 obtain⟨W0,hW0⟩:∃W0,(((w.alloc (.cells #[.string s] 9)).alloc (.cells #[.int .i64 0] 3)).alloc (.cells #[.bool false] 4)).alloc (.cells #[.slice a L.length cap] 54)=W0:=⟨_,rfl⟩
 have hsz:W0.heap.size=w.heap.size+4:=by rw [←hW0];simp
 have hB0:Below w.heap.size w W0:=by rw [←hW0];(exact belB)
 have hm0:LkMem w.heap.size s 0 false W0:=by rw [←hW0];exact⟨by(repeat(first|(rw [heap_alloc_if,if_pos (by simp;done)];done)|(rw [heap_alloc_if,if_neg (by simp;omega)])|(rw [heap_alloc_if,if_neg (by simp;done)]))),by(repeat(first|(rw [heap_alloc_if,if_pos (by simp;done)];done)|(rw [heap_alloc_if,if_neg (by simp;omega)])|(rw [heap_alloc_if,if_neg (by simp;done)]))),by(repeat(first|(rw [heap_alloc_if,if_pos (by simp;done)];done)|(rw [heap_alloc_if,if_neg (by simp;omega)])|(rw [heap_alloc_if,if_neg (by simp;done)]))),by simp⟩
 have hbk:W0.cell? ⟨w.heap.size+3,0,none⟩=some (.slice a L.length cap):=by rw [←hW0,World.cell?_alloc_at _ _ _ _ (by simp)];rfl
 rw [hW0]
 clear hW0
 have HB0:=Lib.hid hB0
 have HM0:=Lib.hid hm0
 have HVW:=Lib.hid (HV.out.below (Nat.le_refl _) hB0)
 refine wpIn_rangeFunc_ownH (F:=Fence.wide) rfl (by omega) (gf:=207) (lb:=#[.pointer (some ⟨w.heap.size+3,0,none⟩)]) rfl trivial (enters_of Tryz.func207 (by kernel_rfl) rfl)
  (backB_stops Fence.wide 5 trivial rfl (by omega) (w.heap.size+3) W0.heap.size (.slice a L.length cap) L L.length W0 (by omega) (Nat.le_refl _) hbk HVW.out.lies) belowK_t (belowK_b (Nat.le_refl _)) (Below.refl _ _) (fun _=>rfl)
  (fun pre W=>(LkMem w.heap.size s 0 false W∧∀j∈pre,bdN L j.1≠s)∧Below w.heap.size w W)
  (LkBody w.heap.size s L w)
  (OwnFrom.and (Own.from (fun s A B row hs hg hr=>⟨hs.1.own hg hr,hs.2⟩) _) (ownFrom_below (Nat.le_refl _) (by omega)))
  (fun c=>OwnFrom.and (Own.from (fun s A B row hs hg hr=>by obtain⟨h1,ini,i,h2,h3,h5,h4⟩:=hs;exact⟨h1,ini,i,h2,h3,h5,h4.own hg hr⟩) _) (ownFrom_below (Nat.le_refl _) (by omega)))
  ⟨⟨hm0,fun j hj=>by cases hj⟩,hB0⟩
  (fun i a' W=>∃Bx,w.heap.size+3<Bx∧W.heap[Bx]? =some (.cells #[.string (bdN L i.1),.int .i64 (bdD L i.1)] 64 (0,0))∧
   a'= {tmps:=#[.string s,.slice a L.length cap,.pointer (some ⟨w.heap.size,0,none⟩),undef,.pointer (some ⟨w.heap.size+1,0,none⟩),.pointer (some ⟨w.heap.size+1+1,0,none⟩),.int .i64 0,.bool false,undef,.pointer (some ⟨Bx,0,none⟩),.tuple #[.int .i64 0,.bool false],.string s,.tuple #[.int .i64 0,.bool false],.int .i64 0,.bool false,.bool false,undef,.slice a L.length cap,.func (.func 207) #[] #[.pointer (some ⟨w.heap.size+1+1+1,0,none⟩)],.int .i64 ((i.1:Nat):Int),BRow.el L i.1,undef,undef,undef,undef,undef,undef],defers:=[]})
  (fun i a' _ X Y row hs hg hr=>by obtain⟨Bx,h1,h2,h3⟩:=hs;exact⟨Bx,h1,(grownBy_keeps_cells hg (fun r e=>(hr r e).2) h2 rfl).trans h2,h3⟩)
  ?assign ?body ?done ?stop
 case assign=>
  rintro l pre i W K ⟨⟨hm,hpre⟩,hB1⟩ hK
  unfold BRow.el
  gi_wp2
  have hs1:=hm.size
  refine hK _ _ ((KeepsOthers.alloc _ _).from _) ((Below.refl _ W).alloc (by omega) _) ⟨⟨hm.alloc _,hpre⟩,hB1.alloc hB1.size _⟩ ⟨W.heap.size,by omega,heap_alloc_new _ _,rfl⟩
 case body=>
  rintro l pre i a' W hl ⟨r,hr⟩ ⟨⟨hm,hpre⟩,hB1⟩ ⟨Bx,hBx,hbx,rfl⟩ hlt
  have HM:=Lib.hid hm
  have HB1:=Lib.hid hB1
  have HP:=Lib.hid hpre
  have q0:W.cell? ⟨Bx,0,none⟩=some (.string (bdN L i.1)):=cell_of_row _ _ _ _ _ _ hbx
  have q1:W.cell? ⟨Bx,1,none⟩=some (.int .i64 (bdD L i.1)):=cell_of_row _ _ _ _ _ _ hbx
  have qn:W.cell? ⟨w.heap.size,0,none⟩=some (.string s):=cell_of_row _ _ _ _ _ _ hm.nm
  have r0:W.cell? ⟨w.heap.size+1,0,none⟩=some (.int .i64 0):=cell_of_row _ _ _ _ _ _ hm.res
  have rk:W.cell? ⟨w.heap.size+1+1,0,none⟩=some (.bool false):=cell_of_row _ _ _ _ _ _ hm.ok
  have rf:∀j,W.frozen? ⟨w.heap.size+1,j,none⟩=false:=fun j=>Joins.unfrozen_of_block hm.res j
  have rg:∀j,W.frozen? ⟨w.heap.size+1+1,j,none⟩=false:=fun j=>Joins.unfrozen_of_block hm.ok j
  unfold BRow.el
  generalize hN:bdN L i.1=nk at *
  generalize hD:bdD L i.1=dk at *
  have HN:=Lib.hid hN
  have HD:=Lib.hid hD
  clear hm hpre hB1 hbx hN hD
  by_cases he:nk=s
  ·have HE:=Lib.hid he
   have he2:(nk.toList==s.toList)=true:=by rw [he];simp
   clear he
   gi_wp2
   have hs1:=HM.out.size
   have hh:∀k,k≠w.heap.size+1→k≠w.heap.size+2→((W.setCell ⟨w.heap.size+1,0,none⟩ (.int .i64 dk)).setCell ⟨w.heap.size+2,0,none⟩ (.bool true)).heap[k]? =W.heap[k]?:=fun k hk hk2=>(Below.heap_setCell _ _ _ _ hk2).trans (Below.heap_setCell _ _ _ _ hk)
   have key:LkMem w.heap.size s dk true ((W.setCell ⟨w.heap.size+1,0,none⟩ (.int .i64 dk)).setCell ⟨w.heap.size+2,0,none⟩ (.bool true)):=by
    exact lz29
   have kf:KeepsFrom W0.heap.size W ((W.setCell ⟨w.heap.size+1,0,none⟩ (.int .i64 dk)).setCell ⟨w.heap.size+2,0,none⟩ (.bool true)):=⟨by simp,fun k o hBk hk _=>by
    rw [hh _ (by omega) (by omega)];exact hk⟩
   have bl:Below w.heap.size w ((W.setCell ⟨w.heap.size+1,0,none⟩ (.int .i64 dk)).setCell ⟨w.heap.size+2,0,none⟩ (.bool true)):=
    (HB1.out.setCell (by show w.heap.size≤w.heap.size+1;omega) _).setCell (by show w.heap.size≤w.heap.size+2;omega) _
   exact⟨kf,⟨rfl,pre,i,rfl,HP.out,by rw [HN.out];exact HE.out,by rw [HD.out];exact key⟩,bl⟩
  ·have HE:=Lib.hid he
   have he2:(nk.toList==s.toList)=false:=by
    rw [beq_eq_false_iff_ne];exact fun h=>he (toList_inj h)
   clear he
   gi_wp2
   refine⟨KeepsFrom.refl _ _,Below.refl _ _,⟨⟨HM.out,fun j hj=>?_⟩,HB1.out⟩⟩
   rcases List.mem_append.1 hj with h1|h1
   ·exact HP.out j h1
   ·obtain rfl:j=i:=by simpa using h1
    rw [HN.out];exact HE.out
 case done=>
  rintro D xs W hD rfl ⟨⟨hm,hpre⟩,hB1⟩ hK
  have HM:=Lib.hid hm
  have HB1:=Lib.hid hB1
  have HP:=Lib.hid hpre
  have r0:W.cell? ⟨w.heap.size+1,0,none⟩=some (.int .i64 0):=cell_of_row _ _ _ _ _ _ hm.res
  have rk:W.cell? ⟨w.heap.size+1+1,0,none⟩=some (.bool false):=cell_of_row _ _ _ _ _ _ hm.ok
  have rf:∀j,W.frozen? ⟨w.heap.size+1,j,none⟩=false:=fun j=>Joins.unfrozen_of_block hm.res j
  have rg:∀j,W.frozen? ⟨w.heap.size+1+1,j,none⟩=false:=fun j=>Joins.unfrozen_of_block hm.ok j
  clear hm hB1 hpre
  gi_wp2
  have hDW:=(Array.getElem?_eq_some_iff.1 hK).1
  have hs1:=HM.out.size
  have hh:∀k,k≠w.heap.size+1→k≠w.heap.size+2→((W.setCell ⟨w.heap.size+1,0,none⟩ (.int .i64 0)).setCell ⟨w.heap.size+2,0,none⟩ (.bool false)).heap[k]? =W.heap[k]?:=fun k hk hk2=>(Below.heap_setCell _ _ _ _ hk2).trans (Below.heap_setCell _ _ _ _ hk)
  have m2:LkMem w.heap.size s 0 false ((W.setCell ⟨w.heap.size+1,0,none⟩ (.int .i64 0)).setCell ⟨w.heap.size+2,0,none⟩ (.bool false)):=by
   exact lz29
  have bl:Below w.heap.size w ((W.setCell ⟨w.heap.size+1,0,none⟩ (.int .i64 0)).setCell ⟨w.heap.size+2,0,none⟩ (.bool false)):=
   (HB1.out.setCell (by show w.heap.size≤w.heap.size+1;omega) _).setCell (by show w.heap.size≤w.heap.size+2;omega) _
  have hK':((W.setCell ⟨w.heap.size+1,0,none⟩ (.int .i64 0)).setCell ⟨w.heap.size+2,0,none⟩ (.bool false)).heap[D]? =some (.deferred (some [])):=by rw [hh _ (by omega) (by omega)];exact hK
  refine⟨by simp,.inl ⟨_,_,rfl,run_takeDeferred hK', ?_⟩⟩
  have m3:=m2.own (grownBy_putObj' _ D (.deferred none)) (fun r e=>by cases e;exact⟨_,hK',rfl⟩)
  have bl3:=bl.trans (belowK_b (w:=w) (Nat.le_refl _) _ D _ (.deferred none) (by omega) hK' rfl rfl)
  show LeavesInM Fence.wide 6 Tryz.prog Tryz.f138 _ _ _ _ (((W.setCell ⟨w.heap.size+1,0,none⟩ (.int .i64 0)).setCell ⟨w.heap.size+2,0,none⟩ (.bool false)).putObj D (.deferred none))
  generalize(((W.setCell ⟨w.heap.size+1,0,none⟩ (.int .i64 0)).setCell ⟨w.heap.size+2,0,none⟩ (.bool false)).putObj D (.deferred none))=W9 at m3 bl3 ⊢
  have e0:W9.cell? ⟨w.heap.size+1,0,none⟩=some (.int .i64 0):=cell_of_row _ _ _ _ _ _ m3.res
  have ek:W9.cell? ⟨w.heap.size+1+1,0,none⟩=some (.bool false):=cell_of_row _ _ _ _ _ _ m3.ok
  have hn:lastN L s=none:=lastN_none L s (ByteArray.empty,0) fun j hj=>HP.out ⟨j,hj⟩ (backs_mem _ (by simp))
  refine⟨.tuple #[.int .i64 0,.bool false], ?_, ?_,.of_below bl3⟩
  ·simp [results,Tryz.f138,go_sem,e0,ek]
  ·rw [HS.out,hn]
 case stop=>
  rintro D c pre W hD ⟨k,hk,rfl⟩ ⟨⟨rfl,ini,i,hin,hini,hsi,hm1⟩,hB1⟩ hK
  have hm:=hm1.own (grownBy_putObj' W D (.deferred none)) (fun r e=>by cases e;exact⟨_,hK,rfl⟩)
  have bl3:=hB1.trans (belowK_b (w:=w) (Nat.le_refl _) W D _ (.deferred none) (by omega) hK rfl rfl)
  gi_wp2
  refine⟨by simp,.inl ⟨_,_,rfl,run_takeDeferred hK, ?_⟩⟩
  generalize W.putObj D (.deferred none)=W9 at hm bl3 ⊢
  have e0:W9.cell? ⟨w.heap.size+1,0,none⟩=some (.int .i64 (bdD L i.1)):=cell_of_row _ _ _ _ _ _ hm.res
  have ek:W9.cell? ⟨w.heap.size+1+1,0,none⟩=some (.bool true):=cell_of_row _ _ _ _ _ _ hm.ok
  have hii:L.length-1-k<L.length:=by omega
  rw [backs_succ _ _ ⟨L.length-1-k,hii⟩ hk rfl]at hin
  obtain⟨h1,h2⟩:=List.append_inj' hin rfl
  subst h1
  obtain rfl:(⟨L.length-1-k,hii⟩:Fin L.length)=i:=by simpa using h2
  have hn:lastN L s=some (bdD L (L.length-1-k)):=lastN_some L s (L.length-1-k) (ByteArray.empty,0) hii hsi fun j hj hjl=>hini ⟨j,hjl⟩ (backs_mem _ (by simp;omega))
  refine⟨.tuple #[.int .i64 (bdD L (L.length-1-k)),.bool true], ?_, ?_,.of_below bl3⟩
  ·simp [results,Tryz.f138,go_sem,e0,ek]
  ·rw [HS.out,hn]
theorem lookup_any(s:ByteArray)(L:List (ByteArray × Int))(v:Value)(w:World)(h:BindAt w v L):Calls Tryz.prog 138 #[.string s,v] w (LkP L s w):=by
 by_cases hs:inpD s.toList=0
 ·exact lookup_no s L v w h hs
 ·exact lookup_in s L v w h hs
end Go.Proofs.YtlheailebbngiaaGreatDoor
namespace Go.Proofs.YtlheailebbngiaaGreatDoor
open Go.RowKit
theorem lower2_any(c:Int)(w:World):Calls Tryz.prog 218 #[.int .u8 c] w fun e w'=>e= .returned (.bool (lowc c))∧w=w':=by
 by_cases c1:97≤c
 ·by_cases c2:c≤122
  ·go_enter Tryz.func218,Tryz.ntmps218
   go_wp2
   go_returns
   exact⟨ret_bool (by simp [lowc,c1,c2]),rfl⟩
  ·go_enter Tryz.func218,Tryz.ntmps218
   exact lz48
 ·go_enter Tryz.func218,Tryz.ntmps218
  exact lz48
theorem digit2_any(c:Int)(w:World):Calls Tryz.prog 222 #[.int .u8 c] w fun e w'=>e= .returned (.bool (digc c))∧w=w':=by
 by_cases c1:48≤c
 ·by_cases c2:c≤57
  ·go_enter Tryz.func222,Tryz.ntmps222
   go_wp2
   go_returns
   exact⟨ret_bool (by simp [digc,c1,c2]),rfl⟩
  ·go_enter Tryz.func222,Tryz.ntmps222
   exact lz49
 ·go_enter Tryz.func222,Tryz.ntmps222
  exact lz49
def inwC(c:Int):Bool:=lowc c || (digc c || decide (c=95))
theorem inWord2_any(c:Int)(w:World):Calls Tryz.prog 219 #[.int .u8 c] w fun e w'=>e= .returned (.bool (inwC c))∧w=w':=by
 cases hL:lowc c
 ·cases hD:digc c
  ·by_cases hU:c=95
   ·subst hU
    go_enter Tryz.func219,Tryz.ntmps219
    go_wp2_with ((first|(go_at_call 218;(with_reducible refine(lower2_any _ _).mono ?_);rintro e w' ⟨rfl,rfl⟩;simp only [hL])|(go_at_call 222;(with_reducible refine(digit2_any _ _).mono ?_);rintro e w' ⟨rfl,rfl⟩;simp only [hD])))
    go_returns
    exact⟨ret_bool (by simp [inwC]),rfl⟩
   ·have hU2:(c==95)=false:=by simpa using hU
    go_enter Tryz.func219,Tryz.ntmps219
    go_wp2_with ((first|(go_at_call 218;(with_reducible refine(lower2_any _ _).mono ?_);rintro e w' ⟨rfl,rfl⟩;simp only [hL])|(go_at_call 222;(with_reducible refine(digit2_any _ _).mono ?_);rintro e w' ⟨rfl,rfl⟩;simp only [hD])))
    go_returns
    exact⟨ret_bool (by simp [inwC,hL,hD,hU]),rfl⟩
  ·go_enter Tryz.func219,Tryz.ntmps219
   go_wp2_with ((first|(go_at_call 218;(with_reducible refine(lower2_any _ _).mono ?_);rintro e w' ⟨rfl,rfl⟩;simp only [hL])|(go_at_call 222;(with_reducible refine(digit2_any _ _).mono ?_);rintro e w' ⟨rfl,rfl⟩;simp only [hD])))
   go_returns
   exact⟨ret_bool (by simp [inwC,hD]),rfl⟩
 ·go_enter Tryz.func219,Tryz.ntmps219
  go_wp2_with ((first|(go_at_call 218;(with_reducible refine(lower2_any _ _).mono ?_);rintro e w' ⟨rfl,rfl⟩;simp only [hL])|(go_at_call 222;(with_reducible refine(digit2_any _ _).mono ?_);rintro e w' ⟨rfl,rfl⟩;simp only [hD])))
  go_returns
  exact⟨ret_bool (by simp [inwC,hL]),rfl⟩
theorem wordC_in{k:Nat}{c:Int}(h:inwC c=false):wordC k c=false:=by
 simp only [inwC,Bool.or_eq_false_iff]at h
 simp [wordC,h.1,h.2.1,h.2.2]
theorem wordC_of{k:Nat}{c:Int}(h:inwC c=true)(h0:k=0→lowc c=true):wordC k c=true:=by
 unfold wordC
 by_cases e:k=0
 ·simp [h0 e]
 ·have:(k !=0)=true:=by simpa using e
  rw [this,Bool.true_and];exact h
theorem IsWord2_any(s:ByteArray)(w:World)(hs:s.size≤maxLen):Calls Tryz.prog 213 #[.string s] w fun e w'=>e= .returned (.bool (isWord s))∧w=w':=by
 unfold maxLen at hs
 have hI:True:=trivial
 by_cases c1:1≤s.size
 ·by_cases c2:s.size≤12
  ·have c3:0<s.size:=by omega
   cases hL:lowc (s[0].toNat:Int)
   ·go_enter Tryz.func213,Tryz.ntmps213
    go_wp2_with ((first|(go_at_call 218;(with_reducible refine(lower2_any _ _).mono ?_);rintro e w' ⟨rfl,rfl⟩;simp only [hL])|(go_at_call 219;(with_reducible refine(inWord2_any _ _).mono ?_);rintro e w' ⟨rfl,rfl⟩;simp only [hI])))
    go_ret
    exact⟨ret_bool (isWord_no s 0 (by omega) (by simp [wordC,hL])).symm,rfl⟩
   ·go_enter Tryz.func213,Tryz.ntmps213
    go_wp2_with ((first|(go_at_call 218;(with_reducible refine(lower2_any _ _).mono ?_);rintro e w' ⟨rfl,rfl⟩;simp only [hL])|(go_at_call 219;(with_reducible refine(inWord2_any _ _).mono ?_);rintro e w' ⟨rfl,rfl⟩;simp only [hI])))
    go_loop [3] (fun i=>∃k:Nat,k≤s.size∧i= .int .i64 k∧∀j,j<k→wordC j (byt s j)=true) (fun i=>s.size-(intOf i).toNat)
    case atStart=>exact⟨0,Nat.zero_le _,rfl,fun j hj=>absurd hj (Nat.not_lt_zero _)⟩
    case round=>
     obtain⟨k,hk,rfl,hall⟩:=hrel
     by_cases hk2:k<s.size
     ·clear hI
      cases hI:inwC (s[k].toNat:Int)
      ·go_wp2_with ((first|(go_at_call 218;(with_reducible refine(lower2_any _ _).mono ?_);rintro e w' ⟨rfl,rfl⟩;simp only [hL])|(go_at_call 219;(with_reducible refine(inWord2_any _ _).mono ?_);rintro e w' ⟨rfl,rfl⟩;simp only [hI])))
       go_ret
       exact⟨ret_bool (isWord_no s k hk2 (wordC_in hI)).symm,rfl⟩
      ·go_wp2_with ((first|(go_at_call 218;(with_reducible refine(lower2_any _ _).mono ?_);rintro e w' ⟨rfl,rfl⟩;simp only [hL])|(go_at_call 219;(with_reducible refine(inWord2_any _ _).mono ?_);rintro e w' ⟨rfl,rfl⟩;simp only [hI])))
       go_round
       case rel=>exact⟨k+1,by omega,by go_num,fun i hi=>by
        by_cases e:i=k
        ·subst e;rw [byt_eq s i hk2];exact wordC_of hI (fun e0=>by subst e0;exact hL)
        ·exact hall i (by omega)⟩
       case measure=>simp [intOf];omega
     ·have:k=s.size:=by omega
      subst this
      go_wp2_with fail
      go_ret
      exact⟨ret_bool (by rw [isWord_all s hall];simp [c1,c2]),rfl⟩
  ·have hL:True:=trivial
   have hw:isWord s=false:=by unfold isWord;rw [decide_eq_false c2,Bool.and_false]
   have c4:12<(s.size:Int):=by omega
   exact lz30
 ·have hL:True:=trivial
  have hw:isWord s=false:=by unfold isWord;rw [decide_eq_false c1,Bool.and_false,Bool.false_and]
  have c4:(s.size:Int)<1:=by omega
  exact lz30
theorem keyword2_any(s:ByteArray)(w:World):Calls Tryz.prog 214 #[.string s] w fun e w'=>e= .returned (.bool (keyB s))∧w=w':=by
 go_enter Tryz.func214,Tryz.ntmps214
 exact lz65
theorem isName2_any(s:ByteArray)(w:World)(hs:s.size≤maxLen):Calls Tryz.prog 206 #[.string s] w fun e w'=>e= .returned (.bool (nameB s))∧w=w':=by
 cases hW:isWord s<;>
 ·go_enter Tryz.func206,Tryz.ntmps206
  go_wp2_with (first|(go_at_call 213;(with_reducible refine(IsWord2_any _ _ (by assumption)).mono ?_);rintro e w' ⟨rfl,rfl⟩;simp only [hW])|(go_at_call 214;(with_reducible refine(keyword2_any _ _).mono ?_);rintro e w' ⟨rfl,rfl⟩))
  go_returns
  exact⟨ret_bool (by simp [nameB,hW]),rfl⟩
theorem arity2_any(op:Int)(w:World):Calls Tryz.prog 204 #[.int .i64 op] w fun e w'=>e= .returned (.int .i64 (argsN op))∧w=w':=by
 go_enter Tryz.func204,Tryz.ntmps204
 go_wp2
 all_goals
  go_returns
  exact⟨ret_int (by unfold argsN;(repeat' split)<;>first|omega|(simp_all;done)|(simp_all;omega)),rfl⟩
def bfrom(s:ByteArray)(k:Nat):List UInt8:=s.data.toList.drop k
theorem bfrom_step{s:ByteArray}{k:Nat}(h:k<s.size):bfrom s k=s[k]::bfrom s (k+1):=by
 unfold bfrom
 have h2:k<s.data.toList.length:=by simpa using h
 rw [List.drop_eq_getElem_cons h2]
 congr 1
theorem bfrom_end{s:ByteArray}{k:Nat}(h:s.size≤k):bfrom s k= []:=by
 unfold bfrom
 exact List.drop_eq_nil_of_le (by simpa using h)
def natV(r:Option Int):Value:=match r with|some x=>.tuple #[.int .i64 x,.bool true]|none=>.tuple #[.int .i64 0,.bool false]
theorem natG_bd:∀(l:List UInt8) (x y:Int),0≤x→natG x l=some y→x≤y∧y≤(x+1)*10 ^ l.length-1
 | [],x,y,h0,h=>by simp [natG]at h;subst h;simp
 |c::r,x,y,h0,h=>by
  simp only [natG]at h
  split at h
  ·rename_i hd
   simp only [digc,Bool.and_eq_true,decide_eq_true_eq]at hd
   have ih:=natG_bd r _ y (by omega) h
   refine⟨by omega,Int.le_trans ih.2 ?_⟩
   have hp:(0:Int)<10 ^ r.length:=Int.pow_pos (by omega)
   have e:(x+1)*10 ^ (c::r).length=((x+1)*10)*10 ^ r.length:=by rw [List.length_cons,Int.pow_succ,Int.mul_comm (10 ^ r.length) 10,Int.mul_assoc]
   rw [e]
   have:=Int.mul_le_mul_of_nonneg_right (show 10*x+((c.toNat:Int)-48)+1≤(x+1)*10 by omega) (Int.le_of_lt hp)
   omega
  ·cases h
theorem natural2_any(s:ByteArray)(w:World)(hs:s.size≤9):Calls Tryz.prog 217 #[.string s] w fun e w'=>e= .returned (natV (natG 0 s.data.toList))∧w=w':=by
 have h00:s.data.toList=bfrom s 0:=rfl
 rw [h00]
 clear h00
 go_enter Tryz.func217,Tryz.ntmps217
 go_wp2
 go_loop [2,4] (fun v2 v4=>∃k:Nat,∃x:Int,k≤s.size∧v4= .int .i64 k∧v2= .int .i64 x∧0≤x∧x<10 ^ k∧Hid (natG x (bfrom s k)=natG 0 (bfrom s 0))) (fun _ v4=>s.size-(intOf v4).toNat)
 case atStart=>exact⟨0,0,Nat.zero_le _,rfl,rfl,by omega,by simp,Lib.hid rfl⟩
 case round=>
  obtain⟨k,x,hk,rfl,rfl,hx0,hx1,hg⟩:=hrel
  have hb:(10:Int) ^ k≤1000000000:=by
   have:=Nat.pow_le_pow_right (show 1≤10 by omega) (show k≤9 by omega)
   have h2:((10 ^ k:Nat):Int)≤((10 ^ 9:Nat):Int):=by exact_mod_cast this
   simpa using h2
  have hx2:x≤1000000000:=by omega
  have HX:=Lib.hid hx1
  clear hx1 hb
  by_cases hk2:k<s.size
  ·have hst:=bfrom_step hk2
   cases hD:digc (s[k].toNat:Int)
   ·have HG:Hid (natG 0 (bfrom s 0)=none):=Lib.hid (by rw [←hg.out,hst];simp only [natG];rw [hD];rfl)
    clear hst hg
    go_wp2_with (go_at_call 222;(with_reducible refine(digit2_any _ _).mono ?_);rintro e w' ⟨rfl,rfl⟩;simp only [hD])
    go_returns
    exact⟨by rw [HG.out];rfl,rfl⟩
   ·have hd:48≤(s[k].toNat:Int)∧(s[k].toNat:Int)≤57:=by simpa [digc]using hD
    have HG:Hid (natG (10*x+((s[k].toNat:Int)-48)) (bfrom s (k+1))=natG 0 (bfrom s 0)):=Lib.hid (by rw [←hg.out,hst];simp only [natG];rw [hD];rfl)
    clear hst hg
    obtain⟨d,hdd⟩:∃d:Int,(s[k].toNat:Int)=d:=⟨_,rfl⟩
    rw [hdd]at hd hD HG
    obtain⟨hd1,hd2⟩:=hd
    have hw:IntKind.u8.wrap (d-48)=d-48:=by simp only [IntKind.wrap_u8];omega
    go_wp2_with (go_at_call 222;(with_reducible refine(digit2_any _ _).mono ?_);rintro e w' ⟨rfl,rfl⟩;simp only [hD,hdd])
    go_round
    case rel=>exact⟨k+1,_,by omega,by go_num,rfl,by omega,by rw [Int.pow_succ];have:=HX.out;omega,HG⟩
    case measure=>simp [intOf];omega
  ·have HG:Hid (natG 0 (bfrom s 0)=some x):=Lib.hid (by rw [←hg.out,bfrom_end (by omega)];rfl)
   clear hg
   obtain rfl:k=s.size:=by omega
   go_wp2_with fail
   go_returns
   exact⟨by rw [HG.out];rfl,rfl⟩
end Go.Proofs.YtlheailebbngiaaGreatDoor
namespace Go.Proofs.YtlheailebbngiaaGreatDoor
open Go.RowKit Go.ChangeShapes Go.WideShapes Go.Deep
section
variable {H : Type} {enc : TypeId × Value → H} {P : Program} {w : World}
def fits(P:Program)(t:TypeId)(d:DataW H):Prop:=∀n∈d.weights P t,n≤140737488351232

theorem add_at'(b off i:Nat):(⟨b,off,none⟩:Addr).add i=⟨b,off+i,none⟩:=by unfold Addr.add;split<;>simp_all
theorem cell_lt{w:World}{b o:Nat}{v:Value}(h:w.cell? ⟨b,o,none⟩=some v):b<w.heap.size:=by
 rcases Nat.lt_or_ge b w.heap.size with h1|h1
 ·exact h1
 ·simp [World.cell?,Array.getElem?_eq_none h1]at h
theorem i64_of_wf{n:Int}(h:(Lit.int .i64 n).wf=true):I64 n:=bounds_i64 h
theorem IntsAt.of_cells{a:Option Addr}{len cap:Nat}{zs:List Int}(hl:len≤cap)(hz:zs.length=cap)(hw:∀n∈zs,(Lit.int .i64 n).wf=true)(hb:len≤140737488355328)(ha:a=none→len=0)
 (hc:∀x,a=some x→∀i,i<cap→w.cell? (x.add i)=some (.int .i64 (zs.getD i 0))):IntsAt w (.slice a len cap) (zs.take len):=by
 have hlen:(zs.take len).length=len:=by rw [List.length_take];omega
 refine⟨by omega,fun z hz2=>i64_of_wf (hw z (List.mem_of_mem_take hz2)),a,cap,by rw [hlen], ?_⟩
 rw [hlen]
 by_cases h0:len=0
 ·exact .inl h0
 ·cases a with
  |none=>exact .inl (ha rfl)
  |some x=>
   obtain⟨b,off,spot⟩:=x
   have h1:=hc _ rfl 0 (by omega)
   have hspot:spot=none:=by simpa [Addr.add]using World.cell?_spot h1
   subst hspot
   have h2:∀i,i<cap→w.cell? ⟨b,off+i,none⟩=some (.int .i64 (zs.getD i 0)):=fun i hi=>by
    rw [←add_at'];exact hc _ rfl i hi
   refine .inr ⟨b,off,rfl,cell_lt (h2 0 (by omega)),fun i hi=>?_⟩
   rw [h2 i (by omega)]
   simp [List.getD_eq_getElem?_getD,hi]
theorem IntsAt.of_trod{t e:TypeId}{fuel:Nat}{v:Value}{x:DataW H × List MemPlace}(ht:P.underlying t=some (.slice e))(he:P.underlying e=some (.int .i64))(hc:P.cellsOf e=1)(hb:P.bytesOf e=8)
 (h:DataW.trod enc P w 0 (fun _=>true) true fuel t [v]=some x) (hf:fits P t x.1):∃zs,IntsAt w v zs:=by
 rcases open_ints ht he hc h with ⟨hcs,_⟩|⟨a,l,c,zs,hcs,_,hl,hm,hz,hx,hcell,hwz⟩
 ·simp at hcs
  subst hcs
  exact⟨[],by simp,by simp,none,0,rfl,.inl rfl⟩
 ·simp at hcs
  subst hcs
  simp only [if_true]at hz
  have h8:l≤140737488355328:=by
   have h9:=hf ((l+(c-l))*8) (by rw [hx];simp [DataW.weights,ht,lits,hb,hz,Nat.min_eq_left hl])
   omega
  exact⟨zs.take l,IntsAt.of_cells hl hz hwz h8 (fun e=>by cases e) fun x' hx' i hi=>by cases hx';exact hcell i (by omega)⟩
end
theorem c3:(Tryz.prog).cellsOf 3=1:=by kernel_rfl
theorem c22:(Tryz.prog).cellsOf 24=1:=by kernel_rfl
theorem b3:(Tryz.prog).bytesOf 3=8:=by kernel_rfl
theorem b22:(Tryz.prog).bytesOf 24=24:=by kernel_rfl
theorem fits_part{H:Type}{P:Program}{t:TypeId}{fs:Array Field}{l:List (DataW H)}{i:Nat}{f:Field}{d:DataW H}(ht:P.underlying t=some (.struct fs))(h:fits P t (.agg l))(hf:fs[i]? =some f)(hd:l[i]? =some d):fits P f.type d:=by
 intro n hn
 refine h n ?_
 simp only [DataW.weights,ht]
 exact DataW.weights_mem_each (j:=i) (by simp [hf]) hd n hn
theorem int_of_trod{H:Type}{enc:TypeId × Value→H}{w:World}{fuel:Nat}{v:Value}{x:DataW H × List MemPlace}(h:DataW.trod enc Tryz.prog w 0 (fun _=>true) true fuel 3 [v]=some x):∃n,v= .int .i64 n∧I64 n:=by
 obtain⟨n,hcs,_,hw⟩:=DataW.trod_int Tryz.underlying3 h
 exact⟨n,by simpa using hcs,i64_of_wf hw⟩
end Go.Proofs.YtlheailebbngiaaGreatDoor
