import Derived.Test.YteildlpchhlchaaGreatDoorRCodM
set_option linter.all false
set_option maxHeartbeats 16000000
set_option maxRecDepth 1000000
namespace Go.Proofs.YteildlpchhlchaaGreatDoor
open Tryz List
open Go.RowKit Go.Shelf
attribute [local go_sem] Oper.semAt_some
theorem toList_inj{a b:ByteArray}(h:a.toList=b.toList):a=b:=by
 rw [ByteArray.toList_eq,ByteArray.toList_eq]at h;exact ByteArray.ext (Array.ext' h)
theorem Ew{α:Type}(env:List (ByteArray × α))(s:ByteArray)(i:Nat)(d:ByteArray × α)(hi:i<env.length)(he:(env.getD i d).1=s)(hl:∀j,i<j->j<env.length->(env.getD j d).1≠s):eP env s=some (env.getD i d).2:=by
 have h1:env=env.take i++env.getD i d::env.drop (i+1):=by
  rw [getD_eq_getElem?_getD,getElem?_eq_getElem hi,Option.getD_some,getElem_cons_drop,take_append_drop]
 have h2:(env.drop (i+1)).reverse.find? (fun p=>decide (p.1=s))=none:=by
  rw [find?_eq_none];intro x hx;obtain⟨k,hk,rfl⟩:=getElem_of_mem (mem_reverse.1 hx);have hk2:i+1+k<env.length:=by rw [length_drop]at hk;omega
  have:=hl (i+1+k) zb hk2;rw [getD_eq_getElem?_getD,getElem?_eq_getElem hk2,Option.getD_some]at this;rw [getElem_drop];simpa using this
 unfold eP;generalize hz:env.getD i d=z at *;rw [h1,reverse_append,reverse_cons,append_assoc,find?_append,h2];simp [he]
theorem Ey{α:Type}(env:List (ByteArray × α))(s:ByteArray)(d:ByteArray × α)(hl:∀j,j<env.length->(env.getD j d).1≠s):eP env s=none:=by
 unfold eP;rw [Option.map_eq_none_iff,find?_eq_none];intro x hx;obtain⟨k,hk,rfl⟩:=getElem_of_mem (mem_reverse.1 hx);have:=hl k hk;rw [getD_eq_getElem?_getD,getElem?_eq_getElem hk,Option.getD_some]at this;simpa using this
def lS(env:List (ByteArray × Int))(s:ByteArray):Int × Bool:=if bE s.toList≠0 then(bE s.toList,true)else match eP env s with|some m=>(m,true)|none=>(0,false)
theorem BV(env:List (ByteArray × Int))(s:ByteArray):dQ env s=if(lS env s).2=true then((lS env s).1,0)else(0,5):=by
 unfold dQ lS;by_cases h:bE s.toList≠0
 ·rw [if_pos h,if_pos h];simp
 ·rw [if_neg h,if_neg h];cases eP env s<;>simp
def LkP(env:List (ByteArray × Int))(s:ByteArray)(w:World)(e:Ending)(w':World):Prop:=e= .returned (.tuple #[.int .i64 (lS env s).1,.bool (lS env s).2])/\w.Grows w'
structure mh(B:Nat)(s:ByteArray)(m:Int)(q:Bool)(W:World):Prop where
 nm:W.heap[B]? =some (.cells #[.string s] 9 (0,0))
 res:W.heap[B+1]? =some (.cells #[.int .i64 m] 3 (0,0))
 ok:W.heap[B+2]? =some (.cells #[.bool q] 4 (0,0))
 size:B+4<=W.heap.size
theorem mh.own{B:Nat}{s:ByteArray}{m:Int}{q:Bool}{X Y:World}{row:Option Nat}(h:mh B s m q X)(hg:X.grownBy Y row)(hr:∀r,row=some r->∃o:Obj,X.heap[r]? =some o/\o.isCells=false):mh B s m q Y:=
 ⟨(grownBy_keeps_cells hg hr h.nm rfl).trans h.nm,(grownBy_keeps_cells hg hr h.res rfl).trans h.res,(grownBy_keeps_cells hg hr h.ok rfl).trans h.ok,Nat.le_trans h.size hg.size⟩
theorem mh.alloc{B:Nat}{s:ByteArray}{m:Int}{q:Bool}{X:World}(h:mh B s m q X)(o:Obj):mh B s m q (X.alloc o):=h.own (World.grownBy_alloc X o none) (fun r e=>by cases e)
def Q9(B:Nat)(s:ByteArray)(L:List (ByteArray × Int))(w:World)(c:Code)(pre:List (Fin L.length))(W:World):Prop:=
 (c= .ret/\∃ini i,pre=ini++[i]/\(∀j∈ini,bdN L j.1≠s)/\bdN L i.1=s/\mh B s (bdD L i.1) true W)/\Below w.heap.size w W
theorem Io(s:ByteArray)(L:List (ByteArray × Int))(v:Value)(w:World)(h:dx w v L)(hs:bE s.toList≠0):Calls prog 156 #[.string s,v] w (LkP L s w):=by
 obtain⟨-,a,cap,rfl,-⟩:=h;have HF:Hid (lS L s=(bE s.toList,true)):=yq (by unfold lS;rw [if_pos hs]);have HI:Hid (∀w,Calls prog 100 #[.string s] w fun e w'=>e= .returned (.tuple #[.int .i64 (bE s.toList),.bool true])/\w=w'):=yq (fun w=>(lg s w).mono (by rintro e w' ⟨rfl,rfl⟩;rw [decide_eq_true hs];exact⟨rfl,rfl⟩));clear hs;generalize bE s.toList=D at *
 go_enter func156,ntmps156
 go_wp2_with (go_at_call 100;refine gw (HI.out _) ?_)
 go_returns
 unfold LkP;rw [HF.out];exact⟨rfl,.of_below au⟩
theorem Im(s:ByteArray)(L:List (ByteArray × Int))(v:Value)(w:World)(h:dx w v L)(hs:bE s.toList=0):Calls prog 156 #[.string s,v] w (LkP L s w):=by
 have HV:=yq h;obtain⟨-,a,cap,rfl,-⟩:=h;have HS:Hid (lS L s=match eP L s with|some m=>(m,true)|none=>(0,false)):=yq (by unfold lS;rw [if_neg zb]);have HI:Hid (∀w,Calls prog 100 #[.string s] w fun e w'=>e= .returned (.tuple #[.int .i64 0,.bool false])/\w=w'):=yq (fun w=>(lg s w).mono (by rintro e w' ⟨rfl,rfl⟩;rw [hs];exact⟨rfl,rfl⟩));clear hs;refine(callsIn_wide (n:=6)).1 ?_;refine callsIn_of_wp_marks func156 rfl trivial ?_ rfl;simp only [ntmps156,size_toArray,length_cons,length_nil,Nat.reduceAdd,Nat.reduceSub,Array.replicate_succ,Array.replicate_zero,push_toArray,append_toArray,nil_append,cons_append]
 gi_wp2_with (first
  |(refine⟨trivial, ?_⟩;gi_at_call 100;refine(callsIn_wide.2 (HI.out _)).mono ?_;rintro e w' ⟨rfl,rfl⟩)
  |(refine⟨trivial, ?_⟩;gi_at_call 205;refine(Ml Fence.wide _ trivial rfl _ _ _ _).mono ?_;rintro e w' ⟨rfl,rfl⟩))
 obtain⟨W0,hW0⟩:∃W0,(((w.alloc (.cells #[.string s] 9)).alloc (.cells #[.int .i64 0] 3)).alloc (.cells #[.bool false] 4)).alloc (.cells #[.slice a L.length cap] 52)=W0:=⟨_,rfl⟩;have hsz:W0.heap.size=w.heap.size+4:=by rw [<-hW0];simp
 have hB0:Below w.heap.size w W0:=by rw [<-hW0];(exact au)
 have hm0:mh w.heap.size s 0 false W0:=by rw [<-hW0];exact⟨by(repeat(first|(rw [dB,if_pos zY];done)|(rw [dB,if_neg zg])|(rw [dB,if_neg zY]))),by(repeat(first|(rw [dB,if_pos zY];done)|(rw [dB,if_neg zg])|(rw [dB,if_neg zY]))),by(repeat(first|(rw [dB,if_pos zY];done)|(rw [dB,if_neg zg])|(rw [dB,if_neg zY]))),by simp⟩
 have hbk:W0.cell? ⟨w.heap.size+3,0,none⟩=some (.slice a L.length cap):=by rw [<-hW0,World.cell?_alloc_at _ _ _ _ ze];rfl
 rw [hW0];clear hW0;have HB0:=yq hB0;have HM0:=yq hm0;have HVW:=yq (HV.out.below (Nat.le_refl _) hB0)
 refine wpIn_rangeFunc_ownH (F:=Fence.wide) rfl zb (gf:=226) (lb:=#[.pointer (some ⟨w.heap.size+3,0,none⟩)]) rfl trivial (enters_of func226 zd rfl)
  (CY Fence.wide 5 trivial rfl zb (w.heap.size+3) W0.heap.size (.slice a L.length cap) L L.length W0 zb (Nat.le_refl _) hbk HVW.out.lies) belowK_t (belowK_b (Nat.le_refl _)) (Below.refl _ _) (fun _=>rfl)
  (fun pre W=>(mh w.heap.size s 0 false W/\∀j∈pre,bdN L j.1≠s)/\Below w.heap.size w W)
  (Q9 w.heap.size s L w)
  (OwnFrom.and (Own.from (fun s A B row hs hg hr=>⟨hs.1.own hg hr,hs.2⟩) _) (ownFrom_below (Nat.le_refl _) zb))
  (fun c=>OwnFrom.and (Own.from (fun s A B row hs hg hr=>by obtain⟨h1,ini,i,h2,h3,h5,h4⟩:=hs;exact⟨h1,ini,i,h2,h3,h5,h4.own hg hr⟩) _) (ownFrom_below (Nat.le_refl _) zb))
  ⟨⟨hm0,fun j hj=>by cases hj⟩,hB0⟩
  (fun i a' W=>∃Bx,w.heap.size+3<Bx/\W.heap[Bx]? =some (.cells #[.string (bdN L i.1),.int .i64 (bdD L i.1)] 96 (0,0))/\
   a'= {tmps:=#[.string s,.slice a L.length cap,.pointer (some ⟨w.heap.size,0,none⟩),undef,.pointer (some ⟨w.heap.size+1,0,none⟩),.pointer (some ⟨w.heap.size+1+1,0,none⟩),.int .i64 0,.bool false,undef,.pointer (some ⟨Bx,0,none⟩),.tuple #[.int .i64 0,.bool false],.string s,.tuple #[.int .i64 0,.bool false],.int .i64 0,.bool false,.bool false,undef,.slice a L.length cap,.func (.func 226) #[] #[.pointer (some ⟨w.heap.size+1+1+1,0,none⟩)],.int .i64 ((i.1:Nat):Int),nW.el L i.1,undef,undef,undef,undef,undef,undef],defers:=[]})
  (fun i a' _ X Y row hs hg hr=>by obtain⟨Bx,h1,h2,h3⟩:=hs;exact⟨Bx,h1,(grownBy_keeps_cells hg (fun r e=>(hr r e).2) h2 rfl).trans h2,h3⟩)
  ?assign ?body ?done ?stop
 case assign=>
  rintro l pre i W K ⟨⟨hm,hpre⟩,hB1⟩ hK;unfold nW.el
  gi_wp2
  have hs1:=hm.size;refine hK _ _ ((KeepsOthers.alloc _ _).from _) ((Below.refl _ W).alloc zb _) ⟨⟨hm.alloc _,hpre⟩,hB1.alloc hB1.size _⟩ ⟨W.heap.size,by omega,heap_alloc_new _ _,rfl⟩
 case body=>
  rintro l pre i a' W hl ⟨r,hr⟩ ⟨⟨hm,hpre⟩,hB1⟩ ⟨Bx,hBx,hbx,rfl⟩ hlt;have HM:=yq hm;have HB1:=yq hB1;have HP:=yq hpre;have q0:W.cell? ⟨Bx,0,none⟩=some (.string (bdN L i.1)):=cell_of_row _ _ _ _ _ _ hbx;have q1:W.cell? ⟨Bx,1,none⟩=some (.int .i64 (bdD L i.1)):=cell_of_row _ _ _ _ _ _ hbx;have qn:W.cell? ⟨w.heap.size,0,none⟩=some (.string s):=cell_of_row _ _ _ _ _ _ hm.nm;have r0:W.cell? ⟨w.heap.size+1,0,none⟩=some (.int .i64 0):=cell_of_row _ _ _ _ _ _ hm.res;have rk:W.cell? ⟨w.heap.size+1+1,0,none⟩=some (.bool false):=cell_of_row _ _ _ _ _ _ hm.ok;have rf:∀j,W.frozen? ⟨w.heap.size+1,j,none⟩=false:=fun j=>Joins.unfrozen_of_block hm.res j;have rg:∀j,W.frozen? ⟨w.heap.size+1+1,j,none⟩=false:=fun j=>Joins.unfrozen_of_block hm.ok j;unfold nW.el;generalize hN:bdN L i.1=nk at *;generalize hD:bdD L i.1=dk at *;have HN:=yq hN;have HD:=yq hD;clear hm hpre hB1 hbx hN hD;by_cases he:nk=s
  ·have HE:=yq he;have he2:(nk.toList==s.toList)=true:=by rw [he];simp
   clear he
   gi_wp2
   have hs1:=HM.out.size;have hh:∀k,k≠w.heap.size+1->k≠w.heap.size+2->((W.setCell ⟨w.heap.size+1,0,none⟩ (.int .i64 dk)).setCell ⟨w.heap.size+2,0,none⟩ (.bool true)).heap[k]? =W.heap[k]?:=fun k hk hk2=>(Below.heap_setCell _ _ _ _ hk2).trans (Below.heap_setCell _ _ _ _ hk)
   have key:mh w.heap.size s dk true ((W.setCell ⟨w.heap.size+1,0,none⟩ (.int .i64 dk)).setCell ⟨w.heap.size+2,0,none⟩ (.bool true)):=by
    exact RS
   have kf:KeepsFrom W0.heap.size W ((W.setCell ⟨w.heap.size+1,0,none⟩ (.int .i64 dk)).setCell ⟨w.heap.size+2,0,none⟩ (.bool true)):=⟨by simp,fun k o hBk hk _=>by
    rw [hh _ zb zb];exact hk⟩
   have bl:Below w.heap.size w ((W.setCell ⟨w.heap.size+1,0,none⟩ (.int .i64 dk)).setCell ⟨w.heap.size+2,0,none⟩ (.bool true)):=
    (HB1.out.setCell (by show w.heap.size<=w.heap.size+1;omega) _).setCell (by show w.heap.size<=w.heap.size+2;omega) _
   exact⟨kf,⟨rfl,pre,i,rfl,HP.out,by rw [HN.out];exact HE.out,by rw [HD.out];exact key⟩,bl⟩
  ·have HE:=yq he
   have he2:(nk.toList==s.toList)=false:=by
    rw [beq_eq_false_iff_ne];exact fun h=>he (toList_inj h)
   clear he
   gi_wp2
   refine⟨KeepsFrom.refl _ _,Below.refl _ _,⟨⟨HM.out,fun j hj=>?_⟩,HB1.out⟩⟩;rcases mem_append.1 hj with h1|h1
   ·exact HP.out j h1
   ·obtain rfl:j=i:=by simpa using h1
    rw [HN.out];exact HE.out
 case done=>
  rintro D xs W hD rfl ⟨⟨hm,hpre⟩,hB1⟩ hK;have HM:=yq hm;have HB1:=yq hB1;have HP:=yq hpre;have r0:W.cell? ⟨w.heap.size+1,0,none⟩=some (.int .i64 0):=cell_of_row _ _ _ _ _ _ hm.res;have rk:W.cell? ⟨w.heap.size+1+1,0,none⟩=some (.bool false):=cell_of_row _ _ _ _ _ _ hm.ok;have rf:∀j,W.frozen? ⟨w.heap.size+1,j,none⟩=false:=fun j=>Joins.unfrozen_of_block hm.res j;have rg:∀j,W.frozen? ⟨w.heap.size+1+1,j,none⟩=false:=fun j=>Joins.unfrozen_of_block hm.ok j;clear hm hB1 hpre
  gi_wp2
  have hDW:=(Array.getElem?_eq_some_iff.1 hK).1;have hs1:=HM.out.size;have hh:∀k,k≠w.heap.size+1->k≠w.heap.size+2->((W.setCell ⟨w.heap.size+1,0,none⟩ (.int .i64 0)).setCell ⟨w.heap.size+2,0,none⟩ (.bool false)).heap[k]? =W.heap[k]?:=fun k hk hk2=>(Below.heap_setCell _ _ _ _ hk2).trans (Below.heap_setCell _ _ _ _ hk)
  have m2:mh w.heap.size s 0 false ((W.setCell ⟨w.heap.size+1,0,none⟩ (.int .i64 0)).setCell ⟨w.heap.size+2,0,none⟩ (.bool false)):=by
   exact RS
  have bl:Below w.heap.size w ((W.setCell ⟨w.heap.size+1,0,none⟩ (.int .i64 0)).setCell ⟨w.heap.size+2,0,none⟩ (.bool false)):=
   (HB1.out.setCell (by show w.heap.size<=w.heap.size+1;omega) _).setCell (by show w.heap.size<=w.heap.size+2;omega) _
  have hK':((W.setCell ⟨w.heap.size+1,0,none⟩ (.int .i64 0)).setCell ⟨w.heap.size+2,0,none⟩ (.bool false)).heap[D]? =some (.deferred (some [])):=by rw [hh _ zb zb];exact hK
  refine⟨by simp,.inl ⟨_,_,rfl,run_takeDeferred hK', ?_⟩⟩;have m3:=m2.own (grownBy_putObj' _ D (.deferred none)) (fun r e=>by cases e;exact⟨_,hK',rfl⟩);have bl3:=bl.trans (belowK_b (w:=w) (Nat.le_refl _) _ D _ (.deferred none) zb hK' rfl rfl);show LeavesInM Fence.wide 6 prog f156 _ _ _ _ (((W.setCell ⟨w.heap.size+1,0,none⟩ (.int .i64 0)).setCell ⟨w.heap.size+2,0,none⟩ (.bool false)).putObj D (.deferred none));generalize(((W.setCell ⟨w.heap.size+1,0,none⟩ (.int .i64 0)).setCell ⟨w.heap.size+2,0,none⟩ (.bool false)).putObj D (.deferred none))=W9 at m3 bl3 ⊢;have e0:W9.cell? ⟨w.heap.size+1,0,none⟩=some (.int .i64 0):=cell_of_row _ _ _ _ _ _ m3.res;have ek:W9.cell? ⟨w.heap.size+1+1,0,none⟩=some (.bool false):=cell_of_row _ _ _ _ _ _ m3.ok;have hn:eP L s=none:=Ey L s (ByteArray.empty,0) fun j hj=>HP.out ⟨j,hj⟩ (xP _ ze);refine⟨.tuple #[.int .i64 0,.bool false], ?_, ?_,.of_below bl3⟩
  ·simp [results,f156,go_sem,e0,ek]
  ·rw [HS.out,hn]
 case stop=>
  rintro D c pre W hD ⟨k,hk,rfl⟩ ⟨⟨rfl,ini,i,hin,hini,hsi,hm1⟩,hB1⟩ hK;have hm:=hm1.own (grownBy_putObj' W D (.deferred none)) (fun r e=>by cases e;exact⟨_,hK,rfl⟩);have bl3:=hB1.trans (belowK_b (w:=w) (Nat.le_refl _) W D _ (.deferred none) zb hK rfl rfl)
  gi_wp2
  refine⟨by simp,.inl ⟨_,_,rfl,run_takeDeferred hK, ?_⟩⟩;generalize W.putObj D (.deferred none)=W9 at hm bl3 ⊢;have e0:W9.cell? ⟨w.heap.size+1,0,none⟩=some (.int .i64 (bdD L i.1)):=cell_of_row _ _ _ _ _ _ hm.res;have ek:W9.cell? ⟨w.heap.size+1+1,0,none⟩=some (.bool true):=cell_of_row _ _ _ _ _ _ hm.ok;have hii:L.length-1-k<L.length:=by omega
  rw [nP _ _ ⟨L.length-1-k,hii⟩ hk rfl]at hin;obtain⟨h1,h2⟩:=append_inj' hin rfl;subst h1;obtain rfl:(⟨L.length-1-k,hii⟩:Fin L.length)=i:=by simpa using h2
  have hn:eP L s=some (bdD L (L.length-1-k)):=Ew L s (L.length-1-k) (ByteArray.empty,0) hii hsi fun j hj hjl=>hini ⟨j,hjl⟩ (xP _ zg);refine⟨.tuple #[.int .i64 (bdD L (L.length-1-k)),.bool true], ?_, ?_,.of_below bl3⟩
  ·simp [results,f156,go_sem,e0,ek]
  ·rw [HS.out,hn]
theorem Em(s:ByteArray)(L:List (ByteArray × Int))(v:Value)(w:World)(h:dx w v L):Calls prog 156 #[.string s,v] w (LkP L s w):=by
 by_cases hs:bE s.toList=0
 ·exact Im s L v w h hs
 ·exact Io s L v w h hs
open Go.RowKit
def uS(r:Int × Int)(w:World)(e:Ending)(w':World):Prop:=e= .returned (.tuple #[.int .i64 r.1,.int .i64 r.2])/\w.Grows w'
theorem Aq{r:Int × Int}{a b:Int}{w w':World}(h:r=(a,b))(hg:w.Grows w'):uS r w (.returned (.tuple #[.int .i64 a,.int .i64 b])) w':=by subst h;exact⟨rfl,hg⟩
theorem qE{l:List Ex}(h:aW l=true)(k:Nat)(hk:k<l.length):aM (l.getD k default)=true:=by
 by_cases hf:aM (l.getD k default)=true
 ·exact hf
 ·rw [qG l k hk (by simpa using hf)]at h;cases h
theorem IK{e:Ex}(h:aM e=true)(h1:¬e.op=1)(h2:¬e.op=2)(h3:¬e.op=3):(e.args.length:Int)=aY e.op/\4<=e.op/\e.op<=21/\aW e.args=true:=by
 rw [dn,Bool.and_eq_true,decide_eq_true_eq,if_neg h1,if_neg h2,if_neg h3,Bool.and_eq_true]at h;have hop:4<=e.op/\e.op<=21:=by have ha:=h.1;unfold aY at ha;(repeat' split at ha)<;>omega
 exact⟨h.1,hop.1,hop.2,h.2.1⟩
abbrev IG(env:List (ByteArray × Int))(e:Ex):Int:=(aX env e).1
abbrev Cs(env:List (ByteArray × Int))(e:Ex):Int:=(aX env e).2
abbrev lh(env:List (ByteArray × Int))(e:Ex)(k:Nat):List Int:=(e.args.take k).map (IG env)
theorem EP(env:List (ByteArray × Int))(e:Ex)(k:Nat)(hk:k<e.args.length):lh env e (k+1)=lh env e k++[IG env (e.arg k)]:=by
 unfold lh;rw [take_succ_eq_append_getElem hk,map_append]
 congr 1
 show [IG env e.args[k]]= [IG env (e.args.getD k default)];rw [getD_eq_getElem?_getD,getElem?_eq_getElem hk];rfl
theorem QR(env:List (ByteArray × Int))(e:Ex)(h1:¬e.op=1)(h2:¬e.op=2)(h3:¬e.op=3)(hok:∀j,j<e.args.length->Cs env (e.arg j)=0) :
 aX env e=if ag e.op (lh env e e.args.length)=0 then(0,6)else(ag e.op (lh env e e.args.length),0):=by
 rw [iE,wD env e.args hok];unfold eu lh;rw [if_neg h1,if_neg h3,if_neg h2,if_neg ze,take_length]
theorem Oy(env:List (ByteArray × Int))(e:Ex)(h1:¬e.op=1)(h2:¬e.op=2)(h3:¬e.op=3)(k:Nat)(hk:k<e.args.length)(hj:∀j,j<k->Cs env (e.arg j)=0)(hb:Cs env (e.arg k)≠0):aX env e=(0,Cs env (e.arg k)):=by
 have:=tq env e.args k hk hj hb;rw [iE];unfold eu;have hb2:(bf env e.args).2≠0:=by rw [this];exact hb
 rw [if_neg h1,if_neg h3,if_neg h2,if_pos hb2,this];rfl
theorem rZ{w:World}{base:Nat}{e:TypeId}{size:Nat}{v:Value}{n:Nat}{xs:List Value}(h:w.ownsRow base e size v n xs){w':World}(hg:w.Grows w'):w'.ownsRow base e size v n xs:=
 kP h fun k _ hk=>hg.below.block k hk
theorem SB:(prog.info? 3).map (fun i=>(i.zero,i.size,i.bytes))=some (some (.int .i64 0),1,8):=by kernel_rfl
theorem lY(env:List (ByteArray × Int))(e:Ex)(a:Option Addr)(cap:Nat)(ve:Value)(w:World)(hv:dx w ve env)(ho:e.op=1\/e.op=2\/e.op=3):(Calls prog 105 #[exV e (.slice a e.args.length cap),ve] w (uS (aX env e) w)):=by
 have HV:=yq hv;obtain⟨-,ae,ce,rfl,-⟩:=hv;have HF:=yq (iE env e);unfold eu at HF;have HL:=yq (BV env e.name);have HC:Hid (∀w',w.Grows w'->Calls prog 156 #[.string e.name,.slice ae env.length ce] w' (LkP env e.name w')):=yq (fun w' hg=>Em e.name env _ w' (HV.out.grows hg));unfold LkP at HC;rcases ho with ho|ho|ho
 ·go_enter func105,ntmps105
  go_wp2_with fail
  go_returns
  exact Aq (by rw [HF.out,if_pos ho]) (.of_below au)
 ·cases hb:(lS env e.name).2
  all_goals
   rw [hb]at HC;have HB:=yq hb;clear hb;generalize hm:(lS env e.name).1=m at HC;have HM:=yq hm;clear hm
   go_enter func105,ntmps105
   go_wp2_with (go_at_call 156;refine gvq (HC.out _ (.of_below au)) ?_;intro bs d)
   go_returns
   exact Aq (by rw [HF.out,if_neg zb,if_neg zb,if_pos ho,HL.out,HB.out];first|(rw [if_pos rfl,HM.out];done)|(rw [if_neg ze];done)) (.of_below au)
 ·go_enter func105,ntmps105
  go_wp2_with fail
  go_returns
  exact Aq (by rw [HF.out,if_neg zb,if_pos ho]) (.of_below au)
theorem Cr(S:Nat->Prop)(env:List (ByteArray × Int))(hE:gm env=true)(n:Nat):∀(e:Ex),e.size<=n->aM e=true->∀(v ve:Value) (w:World),aT S w e v->dx w ve env->
 Calls prog 105 #[exV e v,ve] w (uS (aX env e) w):=by
 induction n with
 |zero=>intro e he;have:=e.size_pos;omega
 |succ n ih=>
  intro e he hf v ve w h hv;have HR:=yq h;have HV:=yq hv;have hrng:=h.rng;obtain⟨a,cap,rfl⟩:=h.form0;by_cases h1:e.op=1
  ·exact lY env e a cap ve w hv (.inl h1)
  by_cases h2:e.op=2
  ·exact lY env e a cap ve w hv (.inr (.inl h2))
  by_cases h3:e.op=3
  ·exact lY env e a cap ve w hv (.inr (.inr h3))
  obtain⟨hal,ho4,ho21,hfs⟩:=IK hf h1 h2 h3;have hn3:e.args.length<=3/\1<=e.args.length:=by unfold aY at hal;(repeat' split at hal)<;>omega
  have HOK:=yq (QR env e h1 h2 h3);have HBAD:=yq (Oy env e h1 h2 h3);have HOP:=yq (And.intro hal (And.intro ho4 ho21))
  have IH:Hid (∀k,k<e.args.length->∀ak ck w',w.Grows w'->aT S w' (e.arg k) (.slice ak (e.arg k).args.length ck)->Calls prog 105 #[exV (e.arg k) (.slice ak (e.arg k).args.length ck),ve] w' (uS (aX env (e.arg k)) w')):=
   yq (fun k hk ak ck w' hg hr=>by
    have hsm:=e.size_arg k hk
    exact ih (e.arg k) zb (qE hfs k hk) _ ve w' hr (HV.out.grows hg))
  have HDM:Hid (∀k,k<e.args.length->Cs env (e.arg k)=0->1<=IG env (e.arg k)):=yq (fun k hk hc=>(wE hE (e.arg k) (qE hfs k hk) hc).1);unfold uS at IH;obtain⟨-,ae,ce,rfl,-⟩:=hv;have p1:(e.op==1)=false:=by simpa using h1
  have p2:(e.op==2)=false:=by simpa using h2
  have p3:(e.op==3)=false:=by simpa using h3
  clear h ih hE hf hfs hal ho4 ho21 he h1 h2 h3;obtain⟨i0,hi,hz0,hz1,hz2⟩:=info_parts SB
  go_enter func105,ntmps105
  go_wp2_with fail
  go_loopw [8,38] (fun v8 v38 wr=>∃k:Nat,k<=e.args.length/\v38= .int .i64 k/\Hid (∀j,j<k->Cs env (e.arg j)=0)/\Below (w.heap.size+1) (w.alloc (.cells #[.int .i64 e.op,.int .i64 e.num,.int .i64 e.den,.int .i64 e.dim,.string e.name,.slice a e.args.length cap] 27)) wr/\wr.ownsRow (w.heap.size+1) 3 1 v8 k ((lh env e k).map (Value.int .i64))) (fun _ v38 _=>e.args.length-(intOf v38).toNat)
  case atStart=>exact⟨0,by omega,rfl,yq (fun j hj=>by omega),.refl _ _,World.ownsRow_nil _ _ _ _⟩
  case round=>
   obtain⟨k,hk,rfl,hno,hB,hown⟩:=hrel;have hsW:w.heap.size+1<=wr.heap.size:=by have:=hB.size;simpa using this
   have hbox:wr.cell? ⟨w.heap.size,0,none⟩=some (.int .i64 e.op):=by
    rw [hB.cell (p:=⟨w.heap.size,0,none⟩) ze,World.cell?_alloc_at _ _ _ _ rfl];rfl
   have hG:w.Grows wr:=.of_below ((((Below.refl _ _).alloc (Nat.le_refl _) _)).trans (hB.mono zb));have HB:=yq hB;have HO:=yq hown;have HG:=yq hG;by_cases hlt:k<e.args.length
   ·have hRk:=HR.out.grows hG
    cases hRk with
    |mk _ _ _ vs hr hc hs=>
     rcases hc with h0|⟨b,off,rfl,-,hbw,hx⟩
     ·omega
     ·have hR:=hs k hlt;obtain⟨x0,x1,x2,x3,x4,x5⟩:=hx k hlt;obtain⟨ak,ck,hvk⟩:=hR.form0;rw [hvk]at x5 hR;have HRK:=yq hR;have hcall:=fun w' hg hg2=>IH.out k hlt ak ck w' hg (HRK.out.grows hg2);have HNX:=yq (EP env e k hlt);have HKL:=yq hlt;have HBK:=yq (fun hj hb=>HBAD.out k hlt hj hb);have d1:(k:Int)<(e.args.length:Int):=by omega
      clear hx hs hr hvk hG hB hown hR;unfold exV at hcall;obtain⟨x,hxe⟩:∃x,e.arg k=x:=⟨_,rfl⟩;rw [hxe]at hcall x0 x1 x2 x3 x4 x5 HNX HBK;have HXE:=yq hxe;clear hxe;have HCL:=yq hcall;clear hcall;obtain⟨q,hq⟩:∃q,aX env x=q:=⟨_,rfl⟩;unfold Cs at HBK;unfold IG at HNX;rw [hq]at HCL HBK HNX;have HQ:=yq hq;clear hq;obtain⟨qd,qc⟩:=q;dsimp only at HCL HBK HNX;by_cases hqc:qc=0
      ·subst hqc
       go_wp2_with (first
        |(go_at_call 105;refine gvq (HCL.out _ (World.Grows.trans HG.out (.of_below au)) (.of_below au)) ?_;intro bs d)
        |(at_builtin;refine wpList_append_own _ rfl _ _ 22 rfl (w.heap.size+1) 3 i0 (.int .i64 0) 1 8 underlying22 hi hz0 hz1 hz2 rfl zf _ _ _ rfl ((rZ (HO.out.alloc _) ⟨bs,d,rfl⟩).alloc _) ⟨wr.heap.size+1+bs.size,0,none⟩ 1 1 [.int .i64 qd] rfl rfl ?c1 ?c2 ?c3 ?c4 ?c5 ?_))
       case c1=>exact ax _ [.int .i64 qd] _ _ ze
       case c2=>intro u hu;simp at hu;subst hu;rfl
       case c3=>unfold maxLen;omega
       case c4=>omega
       case c5=>simp;omega
       intro v' w1 hown' hgrow _;have HB1:=yq ((show Below (w.heap.size+1) (w.alloc (.cells #[.int .i64 e.op,.int .i64 e.num,.int .i64 e.den,.int .i64 e.dim,.string e.name,.slice (some ⟨b,off,none⟩) e.args.length cap] 27)) _ from by have:=HB.out;(exact au)).grown hgrow zg (fun k hk=>(HO.out.lt k hk).1));have HO1:=yq hown';clear hown' hgrow
       go_wp2_with fail
       go_roundw
       case rel=>exact⟨k+1,HKL.out,by go_num,yq (fun j hj=>by
        by_cases ej:j=k
        ·subst ej;unfold Cs;rw [HXE.out,HQ.out]
        ·exact hno.out j zb),HB1.out,by rw [HNX.out,map_append];simpa [lh]using HO1.out⟩
       case measure=>simp [intOf];have:=HKL.out;omega
      ·have hq1:(qc !=0)=true:=by simpa using hqc
       have HQC:=yq hqc;clear hqc
       go_wp2_with (go_at_call 105;refine gvq (HCL.out _ (World.Grows.trans HG.out (.of_below au)) (.of_below au)) ?_;intro bs d)
       go_returns
       exact Aq (HBK.out hno.out HQC.out) (World.Grows.trans HG.out (.of_below au))
   ·obtain rfl:k=e.args.length:=by omega
    have hd:=HOK.out hno.out;have hdl:(lh env e e.args.length).length=e.args.length:=by simp [lh]
    obtain⟨-,⟨_,h0⟩|⟨g,gc,cu,rfl,hbg,-⟩⟩:=hown
    ·omega
    have hres:=Kv e.op (lh env e e.args.length) (w.heap.size+1) g gc wr HOP.out.2.1 HOP.out.2.2 (by rw [hdl];exact HOP.out.1) (fun y hy=>by
     obtain⟨t,ht,rfl⟩:=mem_map.1 hy;rw [take_length]at ht;obtain⟨j,hj,rfl⟩:=mem_iff_getElem.1 ht;have:=HDM.out j hj (hno.out j hj);unfold Ex.arg at this;rw [getD_eq_getElem?_getD,getElem?_eq_getElem hj]at this
     exact this) (by rw [hdl];exact HO.out)
    rw [hdl]at hres;obtain⟨R,hR⟩:∃R,ag e.op (lh env e e.args.length)=R:=⟨_,rfl⟩;rw [hR]at hres hd;have HD:=yq hd;unfold fQ at hres;clear hB hG hR hd hdl;by_cases hR0:R=0
    ·subst hR0;have HRS:=yq hres;clear hres
     go_wp2_with (go_at_call 157;refine(HRS.out).mono ?_;rintro e' w' ⟨⟨m,rfl,-⟩,bs,d,rfl⟩)
     go_returns
     exact Aq (by rw [HD.out];simp) (World.Grows.trans HG.out (.of_below au))
    ·rw [decide_eq_true hR0]at hres;have HRS:=yq hres;have HR0:=yq hR0;clear hres hR0
     go_wp2_with (go_at_call 157;refine(HRS.out).mono ?_;rintro e' w' ⟨⟨m,rfl,hm⟩,bs,d,rfl⟩;obtain rfl:=hm HR0.out;clear hm)
     go_returns
     exact Aq (by rw [HD.out,if_neg HR0.out]) (World.Grows.trans HG.out (.of_below au))
def sF(k:Nat):ByteArray:=if k=0 then aNm else bNm
def oU:Nat->List Value
 |0=>[]
 |k+1=>oU k++[.int .i64 2,.int .i64 0,.int .i64 0,.int .i64 0,.string (sF k),.slice none 0 0]
def ul(ds:List Int):Nat->List Value
 |0=>[]
 |k+1=>ul ds k++[.string (sF k),.int .i64 (ds.getD k 0)]
theorem qb(k:Nat):(oU k).length=k*6:=by
 induction k with
 |zero=>rfl
 |succ k ih=>rw [oU,length_append,ih];simp;omega
def uF(op:Int)(n:Nat):Ex:=if n=1 then Ag op else Af op
def Ab(ds:List Int):List (ByteArray × Int):=if ds.length=1 then [(aNm,ds.getD 0 0)]else [(aNm,ds.getD 0 0),(bNm,ds.getD 1 0)]
theorem NQ{s:ByteArray}(h:s.size<=10):jL (nm2 s):=⟨⟨by show _<=(2:Int);omega,by show(2:Int)<=_;omega⟩,⟨by show _<=(0:Int);omega,by show(0:Int)<=_;omega⟩,⟨by show _<=(0:Int);omega,by show(0:Int)<=_;omega⟩,⟨by show _<=(0:Int);omega,by show(0:Int)<=_;omega⟩,by simp [Ex.args,nm2],by show s.size<=_;omega⟩
theorem FU{op:Int}(h:4<=op/\op<=20){l:List Ex}(hl:l.length<=2):jL (.mk op 0 0 0 noM l):=⟨⟨by show _<=op;omega,by show op<=_;omega⟩,⟨by show _<=(0:Int);omega,by show(0:Int)<=_;omega⟩,⟨by show _<=(0:Int);omega,by show(0:Int)<=_;omega⟩,⟨by show _<=(0:Int);omega,by show(0:Int)<=_;omega⟩,by show l.length<=_;omega,by show noM.size<=_;decide⟩
theorem NL{w:World}{B n:Nat}{va:Value}{op:Int}(h4:4<=op/\op<=20)(hn:n=1\/n=2)(h:w.ownsRow B 27 6 va n (oU n)):aT (fun _=>True) w (uF op n) va:=by
 obtain⟨-,h0|⟨g,cap,cur,rfl,-,hg,-⟩⟩:=id h
 ·omega
 have hlt:g<w.heap.size:=(Array.getElem?_eq_some_iff.1 hg).1;have leaf:∀s:ByteArray,s.size<=10->aT (fun _=>True) w (nm2 s) (.slice none 0 0):=fun s hs=>aT.nil (NQ hs) rfl
 have hx:∀k,k<n->∀j u,[Value.int .i64 2,.int .i64 0,.int .i64 0,.int .i64 0,.string (sF k),.slice none 0 0][j]? =some u->w.cell? ⟨g,0+k*6+j,none⟩=some u:=fun k hk j u hu=>by
  have hj:j<6:=(List.getElem?_eq_some_iff.1 hu).1;rw [Nat.zero_add,h.cellAt (k*6+j) zb];rcases hn with rfl|rfl
  ·obtain rfl:k=0:=by omega
   simpa [oU]using hu
  ·rcases(by omega:k=0\/k=1)with rfl|rfl
   ·rw [oU,getElem?_append_left (by rw [qb];omega)];simpa [oU]using hu
   ·rw [oU,getElem?_append_right (by rw [qb];omega),qb];rw [show 1*6+j-1*6=j by omega];exact hu
 have at':∀k,k<n->Fg w g (0+k*6) (nm2 (sF k)) (.slice none 0 0):=fun k hk=>⟨hx k hk 0 _ rfl,hx k hk 1 _ rfl,hx k hk 2 _ rfl,hx k hk 3 _ rfl,hx k hk 4 _ rfl,hx k hk 5 _ rfl⟩;rcases hn with rfl|rfl
 ·exact aT.mk (Ag op) _ cap (fun _=>.slice none 0 0) (FU h4 ze) (.inr ⟨g,0,rfl,trivial,hlt,fun i hi=>by
   obtain rfl:i=0:=by simp [Ag,Ex.args]at hi;omega
   exact at' 0 zb⟩) (fun i hi=>by
   obtain rfl:i=0:=by simp [Ag,Ex.args]at hi;omega
   exact leaf aNm zf)
 ·exact aT.mk (Af op) _ cap (fun _=>.slice none 0 0) (FU h4 ze) (.inr ⟨g,0,rfl,trivial,hlt,fun i hi=>by
   rcases(by simp [Af,Ex.args]at hi;omega:i=0\/i=1)with rfl|rfl
   ·exact at' 0 zb
   ·exact at' 1 zb⟩) (fun i hi=>by
   rcases(by simp [Af,Ex.args]at hi;omega:i=0\/i=1)with rfl|rfl
   ·exact leaf aNm zf
   ·exact leaf bNm zf)
theorem Mh{w:World}{B:Nat}{vb:Value}{ds:List Int}(hn:ds.length=1\/ds.length=2)(h:w.ownsRow B 96 2 vb ds.length (ul ds ds.length)):dx w vb (Ab ds):=by
 obtain⟨-,h0|⟨g,cap,cur,rfl,-,hg,-⟩⟩:=id h
 ·omega
 have hlt:g<w.heap.size:=(Array.getElem?_eq_some_iff.1 hg).1;have c:=h.cellAt
 match ds,hn with
 | [d],_=>
   refine⟨by simp [Ab],_,cap,rfl,.inr ⟨g,0,rfl,hlt,fun i hi=>?_⟩⟩;obtain rfl:i=0:=by simp [Ab]at hi;omega
   exact⟨c 0 ze,c 1 ze⟩
 | [d,e],_=>
   refine⟨by simp [Ab],_,cap,rfl,.inr ⟨g,0,rfl,hlt,fun i hi=>?_⟩⟩;rcases(by simp [Ab]at hi;omega:i=0\/i=1)with rfl|rfl
   ·exact⟨c 0 ze,c 1 ze⟩
   ·exact⟨c 2 ze,c 3 ze⟩
theorem NP{op:Int}{ds:List Int}(h:(4<=op/\op<=6/\ds.length=1)\/(7<=op/\op<=20/\ds.length=2))(hd:∀z∈ds,1<=z/\z<=4):eY (Ab ds) (uF op ds.length)=if ag op ds=0 then(0,6)else(ag op ds,0):=by
 rcases h with ⟨h1,h2,h3⟩|⟨h1,h2,h3⟩
 ·match ds,h3 with
  | [d],_=>exact G7 zb (hd d ze)
 ·match ds,h3 with
  | [d,e],_=>exact G5 ⟨h1,h2⟩ (hd d ze) (hd e ze)
theorem GZ{op:Int}(h:4<=op/\op<=20)(n:Nat):iV (uF op n)=true:=by
 have h1:(op==1)=false:=by simp;omega
 unfold uF
 split
 ·unfold Ag;rw [iV,h1];rfl
 ·unfold Af;rw [iV,h1];rfl
def gU:Prop:=∀(S:Nat->Prop) (env:List (ByteArray × Int)) (e:Ex) (v ve:Value) (w:World),aT S w e v->e.size<=2305843009213693952->Tab w->dx w ve env->iV e=true->Calls prog 48 #[exV e v,ve] w (uS (eY env e) w)
structure uu(X:Nat)(op:Int)(va:Value)(w:World):Prop where
 e0:w.cell? ⟨X,0,none⟩=some (.int .i64 op)
 e1:w.cell? ⟨X,1,none⟩=some (.int .i64 0)
 e2:w.cell? ⟨X,2,none⟩=some (.int .i64 0)
 e3:w.cell? ⟨X,3,none⟩=some (.int .i64 0)
 e4:w.cell? ⟨X,4,none⟩=some (.string ⟨#[]⟩)
 e5:w.cell? ⟨X,5,none⟩=some va
 fz:w.frozen? ⟨X,5,none⟩=false
 nm:∀k,k<2->w.cell? ⟨X+1,k,none⟩=some (.string (sF k))
theorem uu.same{X:Nat}{op:Int}{va:Value}{w w':World}(h:uu X op va w)(e:w'.heap[X]? =w.heap[X]?)(e':w'.heap[X+1]? =w.heap[X+1]?):uu X op va w':=by
 have c:∀o,w'.cell? ⟨X,o,none⟩=w.cell? ⟨X,o,none⟩:=fun o=>World.cell?_of_block (a:=⟨X,o,none⟩) e;have d:∀o,w'.cell? ⟨X+1,o,none⟩=w.cell? ⟨X+1,o,none⟩:=fun o=>World.cell?_of_block (a:=⟨X+1,o,none⟩) e';exact⟨(c _).trans h.e0,(c _).trans h.e1,(c _).trans h.e2,(c _).trans h.e3,(c _).trans h.e4,(c _).trans h.e5,(World.frozen?_of_block (a:=⟨X,5,none⟩) e).trans h.fz,fun k hk=>(d k).trans (h.nm k hk)⟩
theorem uu.set{X:Nat}{op:Int}{va vb:Value}{w:World}(h:uu X op va w):uu X op vb (w.setCell ⟨X,5,none⟩ vb):=by
 have c:∀o,o≠5->(w.setCell ⟨X,5,none⟩ vb).cell? ⟨X,o,none⟩=w.cell? ⟨X,o,none⟩:=fun o ho=>World.cell?_setCell_other _ _ _ _ zx;exact⟨(c _ zb).trans h.e0,(c _ zb).trans h.e1,(c _ zb).trans h.e2,(c _ zb).trans h.e3,(c _ zb).trans h.e4,World.cell?_setCell_same _ _ _ h.e5,(World.frozen?_setCell _ _ _ _).trans h.fz,fun k hk=>(World.cell?_setCell_other _ _ _ _ ze).trans (h.nm k hk)⟩
theorem qZ{w:World}{B g L m cap:Nat}{e:TypeId}{zs:List Int}(h:w.ownsRow B e 1 (.slice (some ⟨g,0,none⟩) L cap) L (zs.map (Value.int .i64)))(hm:m<=L):w.ownsRow B e 1 (.slice (some ⟨g,0,none⟩) m cap) (zs.take m).length ((zs.take m).map (Value.int .i64)):=by
 obtain⟨hx,h0|⟨g',cap',cur,hv,hb,hg,hn,hcap,hcs,ht⟩⟩:=h
 ·exact absurd h0.1 ze
 obtain⟨rfl,-,rfl⟩:g=g'/\L=L/\cap=cap':=by simpa using hv
 have hl:zs.length=L:=by simpa using hx
 have e1:(zs.take m).length=m:=by rw [length_take];omega
 rw [e1];refine⟨by rw [length_map,e1,Nat.mul_one],.inr ⟨g,cap,cur,rfl,hb,hg,by omega,hcap,hcs, ?_⟩⟩;rw [Nat.mul_one]at ht ⊢;rw [map_take,<-ht,take_take,Nat.min_eq_left hm]
theorem jT.cut{N o B g L m cap:Nat}{zs:List Int}{w:World}(c1:w.cell? ⟨N,o,none⟩=some (.slice (some ⟨g,0,none⟩) L cap))(h:w.ownsRow B 3 1 (.slice (some ⟨g,0,none⟩) L cap) L (zs.map (Value.int .i64)))(hm:m<=L)(hne:g≠N) :
 jT N o B (.slice (some ⟨g,0,none⟩) L cap) (.slice (some ⟨g,0,none⟩) m cap) (zs.take m) w (w.setCell ⟨N,o,none⟩ (.slice (some ⟨g,0,none⟩) m cap)):=by
 have hc:bu w N o [.slice (some ⟨g,0,none⟩) L cap]:=fun i u hu=>by
  match i,hu with
  |0,hu=>obtain rfl:=Option.some.inj hu;exact c1
  |i+1,hu=>simp at hu
 refine⟨(Upd.refl hc).set 0 _ ze (.inl rfl),aV.row (P:=fun k=>k=N) (aV.setCell _ _ _ _ rfl) (qZ h hm) fun k hk e=>?_,fun k hk=>.inl hk⟩;have:g=k:=by simpa [Value.ownBlock]using hk
 omega
theorem KC(N off B g L m cap:Nat)(zs:List Int)(dim:Int)(w:World)(c1:w.cell? ⟨N,off+1,none⟩=some (.slice (some ⟨g,0,none⟩) L cap))(h:w.ownsRow B 3 1 (.slice (some ⟨g,0,none⟩) L cap) L (zs.map (Value.int .i64)))(hm:m<=L)(hl:L<=1000)(hb:B<=w.heap.size)(hN:N<w.heap.size)(hne:g≠N)(hf:w.frozen? ⟨N,off+1,none⟩=false) :
 Calls prog 169 #[.pointer (some ⟨N,off,none⟩),.int .i64 dim] (w.setCell ⟨N,off+1,none⟩ (.slice (some ⟨g,0,none⟩) m cap)) fun e w'=>e= .returned (.tuple #[])/\∃g' cap',jT N (off+1) B (.slice (some ⟨g,0,none⟩) L cap) (.slice (some ⟨g',0,none⟩) (zs.take m++[dim]).length cap') (zs.take m++[dim]) w w':=by
 have K:=jT.cut c1 h hm hne;have hzl:zs.length=L:=by have:=h.1;simpa using this
 have hlm:(zs.take m).length=m:=by rw [length_take];omega
 have hs:(w.setCell ⟨N,off+1,none⟩ (.slice (some ⟨g,0,none⟩) m cap)).heap.size=w.heap.size:=by simp [World.setCell]
 have hno:(Value.slice (some ⟨g,0,none⟩) m cap).ownBlock≠some N:=by simp [Value.ownBlock];exact hne
 have c1':(w.setCell ⟨N,off+1,none⟩ (.slice (some ⟨g,0,none⟩) m cap)).cell? ⟨N,off+1,none⟩=some (.slice (some ⟨g,0,none⟩) m cap):=World.cell?_setCell_same _ _ _ c1
 have hp:=Bz N off B (some ⟨g,0,none⟩) cap (zs.take m) dim _ (by rw [hlm];exact c1') (by have:=K.row;rw [hlm]at this ⊢;exact this) (by rw [hs];exact hb) (by rw [hs];exact hN) (by rw [hlm];exact hno) zb (fun w1 hg=>by
  rw [hg.frozen_far ⟨N,off+1,none⟩ (by rw [hs];exact hN) (by rw [hlm];exact fun e=>hno e.symm),World.frozen?_setCell];exact hf)
 rw [hlm]at hp;refine hp.mono fun e w' q=>?_;obtain⟨he,g',cap',hk⟩:=q.stk c1' hno (by rw [hs];exact hN);exact⟨he,g',cap',K.trans hk⟩
theorem QP:(prog.info? 27).map (fun i=>(i.zero,i.size,i.bytes))=some (some (.agg #[.int .i64 0,.int .i64 0,.int .i64 0,.int .i64 0,.string ⟨#[]⟩,.slice none 0 0]),6,72):=by kernel_rfl
theorem QQ:(prog.info? 96).map (fun i=>(i.zero,i.size,i.bytes))=some (some (.agg #[.string ⟨#[]⟩,.int .i64 0]),2,24):=by kernel_rfl
def Dk(N off B:Nat)(v:Value)(zs:List Int)(op:Int)(w:World)(e:Ending)(w':World):Prop:=
 (zs.length<aB op\/ag op (zs.drop (zs.length-aB op))=0->e= .returned (.bool false)/\w.Grows w')/\
 (¬(zs.length<aB op\/ag op (zs.drop (zs.length-aB op))=0)->e= .returned (.bool true)/\∃g cap,jT N (off+1) B v (.slice (some ⟨g,0,none⟩) (zs.take (zs.length-aB op)++[ag op (zs.drop (zs.length-aB op))]).length cap) (zs.take (zs.length-aB op)++[ag op (zs.drop (zs.length-aB op))]) w w')
theorem BI(N off B:Nat)(zs:List Int)(a:Option Addr)(cap:Nat)(op:Int)(w:World)(c1:w.cell? ⟨N,off+1,none⟩=some (.slice a zs.length cap))(hl:zs.length<=100)(hlt:zs.length<aB op) :
 Calls prog 171 #[.pointer (some ⟨N,off,none⟩),.int .i64 op] w (Dk N off B (.slice a zs.length cap) zs op w):=by
 have HO:=yq (fun w=>kR op w);have h2:aB op<=2:=by unfold aB;split<;>omega
 have HP:Hid (∀w',w.Grows w'->Dk N off B (.slice a zs.length cap) zs op w (.returned (.bool false)) w'):=yq (fun w' hg=>⟨fun _=>⟨rfl,hg⟩,fun h=>absurd (.inl hlt) h⟩);generalize aB op=n at *;generalize zs.length=L at *;have d1:(L:Int)<(n:Int):=by omega
 go_enter func171,ntmps171
 go_wp2_with (go_at_call 72;refine gw (HO.out _) ?_)
 go_returns
 exact HP.out _ af
theorem Ad(hInf:Hid gU)(N off B g n m cap:Nat)(zs:List Int)(op:Int)(w:World)(hn:n=1\/n=2)(har:Hid (aB op=n))(hz:Hid (zs.length=m+n))(hop:Hid (4<=op/\op<=20))(hr:Hid (∀z∈zs,1<=z/\z<=4))(hmn:m+n<=100)
 (c1:w.cell? ⟨N,off+1,none⟩=some (.slice (some ⟨g,0,none⟩) (m+n) cap)) (ho:w.ownsRow B 3 1 (.slice (some ⟨g,0,none⟩) (m+n) cap) (m+n) (zs.map (Value.int .i64))) (hb:B<=w.heap.size) (hN:N<w.heap.size) (hne:g≠N) (hf:w.frozen? ⟨N,off+1,none⟩=false) (ht:Tab w) :
 Calls prog 171 #[.pointer (some ⟨N,off,none⟩),.int .i64 op] w (Dk N off B (.slice (some ⟨g,0,none⟩) (m+n) cap) zs op w):=by
 obtain⟨i1,hi1,hz01,hz11,hz21⟩:=info_parts QP;obtain⟨i2,hi2,hz02,hz12,hz22⟩:=info_parts QQ;have HO:=yq (fun w=>kR op w);rw [har.out]at HO;have HT:=yq ht;have HRow:=yq ho;obtain⟨-,h0|⟨g',cap',cur,hgv,-,hgh,hncap,-⟩⟩:=id ho
 ·exact absurd h0.1 ze
 obtain⟨rfl,-,rfl⟩:g=g'/\m+n=m+n/\cap=cap':=by simpa using hgv
 have hgl:g<w.heap.size:=(Array.getElem?_eq_some_iff.1 hgh).1;have hds:(zs.drop m).length=n:=by rw [length_drop,hz.out];omega
 have HDS:=yq hds
 have hcz:∀k,k<n->w.cell? ⟨g,m+k,none⟩=some (.int .i64 ((zs.drop m).getD k 0)):=fun k hk=>by
  rw [ho.cellAt (m+k) zb,getElem?_map,getD_eq_getElem?_getD,getElem?_drop];have:=hz.out;rw [getElem?_eq_getElem (by omega:m+k<zs.length)];rfl
 have HCZ:=yq hcz;have HDR:=yq (fun z (h:z∈zs.drop m)=>hr.out z (mem_of_mem_drop h));clear hcz ho hds ht hgv hgh;obtain⟨ds,hds⟩:∃ds,zs.drop m=ds:=⟨_,rfl⟩;rw [hds]at HDS HCZ HDR;have HE:=yq hds;clear hds;have hNX:N≠w.heap.size:=by omega
 have hgX:g≠w.heap.size:=by omega
 have hw1:((m+n:Nat):Int)-(n:Int)=(m:Int):=by omega
 have hnlt:¬((m+n:Nat):Int)<(n:Int):=by omega
 go_enter func171,ntmps171
 go_wp2_with (go_at_call 72;refine gw (HO.out _) ?_)
 go_loopw [8,35] (fun v8 v35 wr=>∃(k:Nat) (va vb:Value),k<=n/\v35= .int .i64 k/\vb=v8/\w.Grows wr/\w.heap.size+1<wr.heap.size/\uu w.heap.size op va wr/\wr.ownsRow (w.heap.size+2) 27 6 va k (oU k)/\wr.ownsRow (w.heap.size+2) 96 2 vb k (ul ds k)/\(∀j,va.ownBlock=some j->vb.ownBlock≠some j)) (fun _ v35 _=>n-(intOf v35).toNat)
 case atStart=>
  exact⟨0,.slice none 0 0,.slice none 0 0,by omega,rfl,rfl,af,by simp,⟨by simp [go_sem],by simp [go_sem],by simp [go_sem],by simp [go_sem],by simp [go_sem],by simp [go_sem],by simp [go_sem],fun k hk=>by
   rcases(by omega:k=0\/k=1)with rfl|rfl<;>simp [go_sem,sF,aNm,bNm]⟩,World.ownsRow_nil _ _ _ _,World.ownsRow_nil _ _ _ _,fun j h=>by cases h⟩
 case round=>
  obtain⟨k,va,vb,hk,rfl,rfl,hg,hsz,hbx,hva,hvb,hdis⟩:=hrel;have HG:=yq hg;have HBX:=yq hbx;have HVA:=yq hva;have HVB:=yq hvb;have HDI:=yq hdis;have b1:wr.cell? ⟨N,off+1,none⟩=some (.slice (some ⟨g,0,none⟩) (m+n) cap):=(World.cell?_of_block (hg.below.block N hN)).trans c1;have hNr:N<wr.heap.size:=by have:=hg.below.size;omega
  have hgr:g<wr.heap.size:=by have:=hg.below.size;omega
  obtain⟨e0,e1,e2,e3,e4,e5,fz,nm⟩:=hbx;by_cases hlt:k<n
  ·have d1:(k:Int)<(n:Int):=by omega
   have nk:=nm k zb;have ck:=(World.cell?_of_block (a:=⟨g,m+k,none⟩) (hg.below.block g hgl)).trans (HCZ.out k hlt);have hXB:=ul ds;have HBS:Hid (ul ds (k+1)=ul ds k++[.string (sF k),.int .i64 (ds.getD k 0)]):=yq rfl;obtain⟨z,hzk⟩:∃z,ds.getD k 0=z:=⟨_,rfl⟩;obtain⟨q,hq⟩:∃q,m+k=q:=⟨_,rfl⟩;rw [hzk,hq]at ck;rw [hzk]at HBS;have hqi:(m:Int)+(k:Int)=(q:Int):=by omega
   have hqn:(q:Int)<((m+n:Nat):Int):=by omega
   have hq0:(0:Int)<=(q:Int):=by omega
   have HKN:=yq hlt;clear hg hva hvb hdis nm hXB hzk hq hlt
   go_wp2_with (at_builtin;refine wpList_append_lies _ rfl _ _ 25 rfl (w.heap.size+2) 27 i1 _ 6 72 underlying25 hi1 hz01 hz11 hz21 rfl zf va k _ rfl (HVA.out.alloc _) ⟨wr.heap.size,0,none⟩ 1 1 [.int .i64 2,.int .i64 0,.int .i64 0,.int .i64 0,.string (sF k),.slice none 0 0] rfl rfl ?c1 ?c2 zf ?c3 ?c4 ?c5 (wr.heap.size+1) ze ?_)
   case c1=>exact ax _ [.int .i64 2,.int .i64 0,.int .i64 0,.int .i64 0,.string (sF k),.slice none 0 0] _ _ ze
   case c2=>intro u hu;simp at hu;rcases hu with rfl|rfl|rfl|rfl|rfl|rfl<;>rfl
   case c3=>unfold maxLen;omega
   case c4=>omega
   case c5=>simp;omega
   intro ga cpa w1 hown hgrow hgg hgl1;have hg1:wr.grownBy w1 va.ownBlock:=⟨hgrow.os,hgrow.tape,hgrow.output,by have:=hgrow.size;simp at this;omega,fun k hk hne=>(hgrow.block k zg hne).trans (Below.heap_alloc wr _ k hk)⟩;have hXa:some w.heap.size≠va.ownBlock:=fun e=>by have:=(HVA.out.lt _ e.symm).1;omega
   have hXa1:some (w.heap.size+1)≠va.ownBlock:=fun e=>by have:=(HVA.out.lt _ e.symm).1;omega
   have hNa:some N≠va.ownBlock:=fun e=>by have:=(HVA.out.lt _ e.symm).1;omega
   have hga:some g≠va.ownBlock:=fun e=>by have:=(HVA.out.lt _ e.symm).1;omega
   have q1:=(hg1.cell_far ⟨N,off+1,none⟩ hNr hNa).trans b1;have q2:=(hg1.cell_far ⟨g,q,none⟩ hgr hga).trans ck;have HBX1:=yq (HBX.out.same (hg1.block _ zb hXa) (hg1.block _ hsz hXa1));have q5:=HBX1.out.e5;have qf:=HBX1.out.fz;have hX1:w.heap.size<w1.heap.size:=by have:=hg1.size;omega
   have hs1:=hg1.size;have HVB1:=yq (aV.row (P:=fun b=>va.ownBlock=some b) (aV.grown hg1 fun _ e=>e) HVB.out fun b hb e=>HDI.out b e hb);have HOA:=yq hown;have HGG:=yq hgg;have HG1:=yq hg1;have HAG:Hid (w.Grows w1):=yq (World.Grows.grown HG.out hg1 fun b e=>(by have:=(HVA.out.lt _ e).1;omega))
   have HBL:Hid (vb.ownBlock≠some ga):=yq (fun e=>by
    rcases HGG.out with h|h
    ·exact HDI.out _ h e
    ·have:=(HVB.out.lt _ e).2;omega)
   have hgl1':=hgl1
   have hX2:w.heap.size+2<=ga:=by
    rcases hgg with h|h
    ·exact(HVA.out.lt _ h).1
    ·omega
   clear hown hgrow hgg hg1 hgl1 hXa hXa1 hNa hga e5 fz b1 ck e0 e1 e2 e3 e4 nk;have HVB2:Hid ((w1.setCell ⟨w.heap.size,5,none⟩ (.slice (some ⟨ga,0,none⟩) (k+1) cpa)).ownsRow (w.heap.size+2) 96 2 vb k (ul ds k)):=yq (aV.row (P:=fun b=>b=w.heap.size) (aV.setCell w1 w.heap.size 5 (.slice (some ⟨ga,0,none⟩) (k+1) cpa) rfl) HVB1.out (fun b hb e=>by have:=(HVB1.out.lt _ hb).1;omega))
   go_wp2_with (at_builtin;refine wpList_append_lies _ rfl _ _ 52 rfl (w.heap.size+2) 96 i2 _ 2 24 underlying52 hi2 hz02 hz12 hz22 rfl zf vb k _ rfl (HVB2.out.alloc _) ⟨w1.heap.size,0,none⟩ 1 1 [.string (sF k),.int .i64 z] rfl rfl ?c1 ?c2 zf ?c3 ?c4 ?c5 (w1.heap.size+1) ze ?_)
   case c1=>exact ax _ [.string (sF k),.int .i64 z] _ _ ze
   case c2=>intro u hu;simp at hu;rcases hu with rfl|rfl<;>rfl
   case c3=>unfold maxLen;omega
   case c4=>omega
   case c5=>simp;omega
   intro gb cpb w2 hown hgrow hgg hgl2;have HU:=yq (show(w1.setCell ⟨w.heap.size,5,none⟩ (.slice (some ⟨ga,0,none⟩) (k+1) cpa)).grownBy w2 vb.ownBlock from⟨hgrow.os,hgrow.tape,hgrow.output,by have:=hgrow.size;simp at this;simp;omega,fun b hb hne=>(hgrow.block b (by simp at hb ⊢;omega) hne).trans (Below.heap_alloc _ _ b hb)⟩);have HOB:=yq hown;have HGB:=yq hgg;have HGL2:=yq hgl2;have hs2:w1.heap.size<=w2.heap.size:=by have:=HU.out.size;simpa using this
   clear hown hgrow hgg hgl2
   go_wp2_with fail
   go_roundw
   case rel=>
    have hMU:aV (fun b=>vb.ownBlock=some b) _ w2:=aV.grown HU.out fun _ e=>e;have hXv:∀b,vb.ownBlock=some b->w.heap.size+2<=b:=fun b e=>(HVB.out.lt _ e).1;refine⟨k+1,.slice (some ⟨ga,0,none⟩) (k+1) cpa,_,HKN.out,by go_num,rfl, ?_,by omega, ?_, ?_,by rw [HBS.out];exact HOB.out, ?_⟩
    ·exact .of_below (hMU.below (HAG.out.below.setCell (Nat.le_refl _) _) (by simp;have:=HAG.out.below.size;omega) fun b e=>by have:=hXv b e;omega)
    ·exact HBX1.out.set.same (hMU.block _ zg fun e=>by have:=hXv _ e;omega) (hMU.block _ zg fun e=>by have:=hXv _ e;omega)
    ·refine hMU.row (aV.row (P:=fun b=>b=w.heap.size) (aV.setCell _ _ _ _ rfl) HOA.out fun b hb e=>?_) fun b hb e=>?_
     ·have:ga=b:=by simpa [Value.ownBlock]using hb
      omega
     ·have:ga=b:=by simpa [Value.ownBlock]using hb
      exact HBL.out (this ▸ e)
    ·intro j hj e;have h1:ga=j:=by simpa [Value.ownBlock]using hj
     have h2:gb=j:=by simpa [Value.ownBlock]using e
     rcases HGB.out with h|h
     ·exact HBL.out (by rw [h,h2,h1])
     ·omega
   case measure=>simp [intOf];have:=HKN.out;omega
  ·obtain rfl:k=n:=by omega
   have hk1:((4:Int)<=op/\op<=6/\ds.length=k)/\k=1\/(7<=op/\op<=20/\ds.length=k)/\k=2:=by
    have h1:=har.out;have h2:=hop.out;have h3:=HDS.out;unfold aB at h1
    split at h1<;>omega
   have hIN:eY (Ab ds) (uF op k)=if ag op ds=0 then(0,6)else(ag op ds,0):=by
    rw [<-HDS.out]
    exact NP (by
     have h3:=HDS.out;rcases hk1 with ⟨⟨p1,p2,p3⟩,p4⟩|⟨⟨p1,p2,p3⟩,p4⟩
     ·exact .inl ⟨p1,p2,by omega⟩
     ·exact .inr ⟨p1,p2,by omega⟩) HDR.out
   have hsz':(uF op k).size<=2305843009213693952:=by
    unfold uF
    split<;>simp [Ag,Af,nm2,Ex.size,Ex.sizes]
   have hbd:dx wr vb (Ab ds):=Mh (by rw [HDS.out];exact hn) (by rw [HDS.out];exact hvb);have HI:=yq (fun w' (hg':wr.Grows w')=>hInf.out (fun _=>True) (Ab ds) (uF op k) va vb w' ((NL hop.out hn hva).grows hg') hsz' (HT.out.grows (gqq hg hg')) (hbd.grows hg') (GZ hop.out k));rw [hIN]at HI
   have hexv:exV (uF op k) va= .agg #[.int .i64 op,.int .i64 0,.int .i64 0,.int .i64 0,.string ⟨#[]⟩,va]:=by
    unfold uF
    split<;>rfl
   rw [hexv]at HI;unfold uS at HI
   have HSP:Hid (Dk N off B (.slice (some ⟨g,0,none⟩) (m+k) cap) zs op w=fun e w'=>(ag op ds=0->e= .returned (.bool false)/\w.Grows w')/\(¬ag op ds=0->e= .returned (.bool true)/\∃g' cap',jT N (off+1) B (.slice (some ⟨g,0,none⟩) (m+k) cap) (.slice (some ⟨g',0,none⟩) (zs.take m++[ag op ds]).length cap') (zs.take m++[ag op ds]) w w')):=yq (by
    funext e w';unfold Dk;have hzl:=hz.out;have e1:zs.length-aB op=m:=by rw [har.out];omega
    have e2:¬zs.length<aB op:=by rw [har.out];omega
    simp only [e1,HE.out,e2,false_or])
   clear hva hvb hdis hIN hexv hbd hsz' hk1;have hbr:wr.frozen? ⟨N,off+1,none⟩=false:=(World.frozen?_of_block (a:=⟨N,off+1,none⟩) (hg.below.block N hN)).trans hf;clear hg nm;by_cases hz0:ag op ds=0
   ·rw [if_pos hz0]at HI
    go_wp2_with (go_at_call 48;refine gvq (HI.out _ af) ?_;intro bs d)
    go_returns
    rw [HSP.out];exact⟨fun _=>⟨rfl,gqq HG.out af⟩,fun h=>absurd hz0 h⟩
   ·rw [if_neg hz0]at HI
    have HPU:Hid (∀wq,wr.Grows wq->Calls prog 169 #[.pointer (some ⟨N,off,none⟩),.int .i64 (ag op ds)] (wq.setCell ⟨N,off+1,none⟩ (.slice (some ⟨g,0,none⟩) m cap)) fun e w'=>e= .returned (.tuple #[])/\∃g' cap',jT N (off+1) B (.slice (some ⟨g,0,none⟩) (m+k) cap) (.slice (some ⟨g',0,none⟩) (zs.take m++[ag op ds]).length cap') (zs.take m++[ag op ds]) w w'):=yq (fun wq hq=>by
     have hwq:=gqq HG.out hq;refine(KC N off B g (m+k) m cap zs (ag op ds) wq ((World.cell?_of_block (hq.below.block N hNr)).trans b1) (aV.row (P:=fun _=>False) (.grows hwq) HRow.out fun _ _ e=>e) zb zb (by have:=hwq.below.size;omega) (by have:=hwq.below.size;omega) hne ((World.frozen?_of_block (a:=⟨N,off+1,none⟩) (hq.below.block N hNr)).trans hbr)).mono ?_;rintro e w' ⟨he,g',cap',hk⟩
     exact⟨he,g',cap',hk.pre hwq hN⟩)
    have HPV:=yq (fun bs d=>by
     have:=HPU.out (wr.grow bs d) ⟨bs,d,rfl⟩;rw [World.setCell_grow _ _ _ _ hNr]at this
     exact this)
    generalize ag op ds=dim at *;have HZ0:=yq hz0;clear hz0
    go_wp2_with (first
     |(go_at_call 48;refine gvq (HI.out _ af) ?_;intro bs d)
     |(go_at_call 169;refine(HPV.out _ _).mono ?_;rintro e' w' ⟨rfl,g',cap',hk'⟩;have HK:=yq hk';clear hk'))
    go_returns
    rw [HSP.out];exact⟨fun h=>absurd h HZ0.out,fun _=>⟨rfl,g',cap',HK.out⟩⟩
theorem BJ(hInf:Hid gU)(N off B:Nat)(v:Value)(zs:List Int)(op:Int)(w:World)(hop:4<=op/\op<=20)(hr:∀z∈zs,1<=z/\z<=4)(hl:zs.length<=100)(c1:w.cell? ⟨N,off+1,none⟩=some v)(ho:w.ownsRow B 3 1 v zs.length (zs.map (Value.int .i64)))(hb:B<=w.heap.size)(hN:N<w.heap.size)(hne:v.ownBlock≠some N)(hf:w.frozen? ⟨N,off+1,none⟩=false)(ht:Tab w) :
 Calls prog 171 #[.pointer (some ⟨N,off,none⟩),.int .i64 op] w (Dk N off B v zs op w):=by
 obtain⟨a,cap,rfl,hg⟩:∃a cap,v= .slice a zs.length cap/\(zs.length=0\/∃g,a=some ⟨g,0,none⟩):=by
  rcases ho.2 with ⟨rfl,e⟩|⟨g,cap,cur,rfl,-⟩
  ·exact⟨none,0,by rw [e],.inl e⟩
  ·exact⟨_,_,rfl,.inr ⟨g,rfl⟩⟩
 by_cases hlt:zs.length<aB op
 ·exact BI N off B zs a cap op w c1 hl hlt
 have hn:aB op=1\/aB op=2:=by unfold aB;split<;>omega
 rcases hg with h0|⟨g,rfl⟩
 ·omega
 have hz:zs.length=(zs.length-aB op)+aB op:=by omega
 have:=Ad hInf N off B g (aB op) (zs.length-aB op) cap zs op w hn (yq rfl) (yq hz) (yq hop) (yq hr) zb (by rw [<-hz];exact c1) (by rw [<-hz];exact ho) hb hN (fun e=>hne (by rw [e];rfl)) hf ht;rw [<-hz]at this;exact this
structure iJ(NB ND B:Nat)(v v':Value)(s':List Int × List Bool)(dims':List Int)(w w':World):Prop where
 mods:aV (fun k=>k=NB\/k=ND\/v.ownBlock=some k) w w'
 st:StC w' NB 0 true v' s'.2
 sfr:∀i,w'.frozen? ⟨NB,i,none⟩=w.frozen? ⟨NB,i,none⟩
 dm:bu w' ND 0 (dims'.map (Value.int .i64))
 dfr:∀i,w'.frozen? ⟨ND,i,none⟩=w.frozen? ⟨ND,i,none⟩
 row:w'.ownsRow B 3 1 v' s'.1.length (s'.1.map (Value.int .i64))
 own:∀k,v'.ownBlock=some k->v.ownBlock=some k\/w.heap.size<=k
def mq(NB ND B:Nat)(v:Value)(o:Option ((List Int × List Bool) × List Int))(w:World)(e:Ending)(w':World):Prop:=
 match o with
 |none=>e= .returned (.bool false)/\aV (fun k=>k=NB\/k=ND\/v.ownBlock=some k) w w'
 |some p=>e= .returned (.bool true)/\∃v',iJ NB ND B v v' p.1 p.2 w w'
structure jV(NB ND B:Nat)(v:Value)(s:List Int × List Bool)(dims:List Int)(w:World):Prop where
 nb:NB<w.heap.size
 nd:ND<w.heap.size
 ne:NB≠ND
 vb:v.ownBlock≠some NB
 vd:v.ownBlock≠some ND
 hB:B<=w.heap.size
 st:StC w NB 0 true v s.2
 sf:∀i,w.frozen? ⟨NB,i,none⟩=false
 dm:bu w ND 0 (dims.map (Value.int .i64))
 df:∀i,w.frozen? ⟨ND,i,none⟩=false
 row:w.ownsRow B 3 1 v s.1.length (s.1.map (Value.int .i64))
 len:s.1.length<=24
theorem jV.grows{NB ND B:Nat}{v:Value}{s:List Int × List Bool}{dims:List Int}{w w':World}(h:jV NB ND B v s dims w)(hg:w.Grows w'):jV NB ND B v s dims w':=by
 have hs:=hg.below.size;have e1:=hg.below.block NB h.nb;have e2:=hg.below.block ND h.nd;have hr:w'.ownsRow B 3 1 v s.1.length (s.1.map (Value.int .i64)):=aV.row (P:=fun _=>False) (.grows hg) h.row fun _ _ e=>e;exact⟨Nat.lt_of_lt_of_le h.nb hs,Nat.lt_of_lt_of_le h.nd hs,h.ne,h.vb,h.vd,Nat.le_trans h.hB hs,h.st.same fun o=>World.cell?_of_block (a:=⟨NB,o,none⟩) e1,fun i=>(World.frozen?_of_block (a:=⟨NB,i,none⟩) e1).trans (h.sf i),h.dm.same fun o=>World.cell?_of_block (a:=⟨ND,o,none⟩) e2,fun i=>(World.frozen?_of_block (a:=⟨ND,i,none⟩) e2).trans (h.df i),hr,h.len⟩
theorem iJ.of_stk{NB ND B:Nat}{v v':Value}{s:List Int × List Bool}{zs:List Int}{dims:List Int}{w w':World}(h:jV NB ND B v s dims w)(k:jT NB 1 B v v' zs w w'):iJ NB ND B v v' (zs,s.2) dims w w':=by
 have e2:w'.heap[ND]? =w.heap[ND]?:=k.upd.mods.block ND h.nd fun q=>by
  rcases q with q|q
  ·exact h.ne q.symm
  ·exact h.vd q
 refine⟨k.upd.mods.mono fun i _ q=>q.imp id .inr,⟨h.st.1,fun i u hu=>?_⟩,k.upd.frz,h.dm.same fun o=>World.cell?_of_block (a:=⟨ND,o,none⟩) e2,fun i=>World.frozen?_of_block (a:=⟨ND,i,none⟩) e2,k.row,k.own⟩;by_cases hi:i=1
 ·subst hi;have:=k.upd.cells 0 v' rfl;simp at hu;subst hu;exact this
 ·have h0:=h.st.2 i
  have hne:(Value.bool true::v::s.2.map .bool)[i]? =some u:=by
   match i,hi,hu with
   |0,_,hu=>exact hu
   |i+2,_,hu=>simpa using hu
  exact(k.upd.out _ zg).trans (h0 u hne)
theorem iJ.pre{NB ND B:Nat}{v v':Value}{s s':List Int × List Bool}{dims dims':List Int}{w w1 w':World}(h:jV NB ND B v s dims w)(hg:w.Grows w1)(k:iJ NB ND B v v' s' dims' w1 w'):iJ NB ND B v v' s' dims' w w':=
 ⟨(aV.grows hg).trans k.mods,k.st,fun i=>(k.sfr i).trans (World.frozen?_of_block (a:=⟨NB,i,none⟩) (hg.below.block NB h.nb)),k.dm,fun i=>(k.dfr i).trans (World.frozen?_of_block (a:=⟨ND,i,none⟩) (hg.below.block ND h.nd)),k.row,fun i hi=>(k.own i hi).imp id fun e=>Nat.le_trans hg.below.size e⟩
theorem jV.push{NB ND B:Nat}{v:Value}{s:List Int × List Bool}{dims:List Int}{w:World}(h:jV NB ND B v s dims w)(dim:Int) :
 Calls prog 169 #[.pointer (some ⟨NB,0,none⟩),.int .i64 dim] w fun e w'=>e= .returned (.tuple #[])/\∃v',iJ NB ND B v v' (s.1++[dim],s.2) dims w w':=by
 obtain⟨a,cap,rfl⟩:∃a cap,v= .slice a s.1.length cap:=by
  rcases h.row.2 with ⟨rfl,e⟩|⟨g,cap,cur,rfl,-⟩
  ·exact⟨none,0,by rw [e]⟩
  ·exact⟨_,_,rfl⟩
 have c1:w.cell? ⟨NB,0+1,none⟩=some (.slice a s.1.length cap):=h.st.2 1 _ rfl;refine(Bz NB 0 B a cap s.1 dim w c1 h.row h.hB h.nb h.vb (by have:=h.len;omega) (fun w1 hg=>(hg.frozen_far ⟨NB,0+1,none⟩ h.nb (fun e=>h.vb e.symm)).trans (h.sf _))).mono ?_;intro e w' hp;obtain⟨he,g,cap',hk⟩:=hp.stk c1 h.vb h.nb;exact⟨he,_,iJ.of_stk h hk⟩
theorem Q8{x:Ins}{s:List Int × List Bool}{dims:List Int}(h:x.op=1):bN x s dims=some ((s.1++[x.a],s.2),dims):=by unfold bN;rw [if_pos h]
theorem Q7{x:Ins}{s:List Int × List Bool}{dims:List Int}(h:x.op=2):bN x s dims=some ((s.1++[jC.getD x.a.toNat 0],s.2),dims):=by unfold bN;rw [if_neg zb,if_pos h]
theorem Q4{x:Ins}{s:List Int × List Bool}{dims:List Int}(h:x.op=5):bN x s dims=some ((s.1++[4],s.2),dims):=by unfold bN;rw [if_neg zb,if_neg zb,if_pos h]
theorem Pp{x:Ins}{s:List Int × List Bool}{dims:List Int}(h:x.op=23\/x.op=24):bN x s dims=some ((s.1++[1],s.2),dims):=by unfold bN;rw [if_neg zb,if_neg zb,if_neg zb,if_pos h]
theorem Q6{x:Ins}{s:List Int × List Bool}{dims:List Int}(h:x.op=3):bN x s dims=if s.2.getD x.a.toNat false=true then some ((s.1++[dims.getD x.a.toNat 0],s.2),dims)else none:=by unfold bN;rw [if_neg zb,if_neg zb,if_neg zb,if_neg zb,if_pos h]
theorem Q5{x:Ins}{s:List Int × List Bool}{dims:List Int}(h:x.op=4):bN x s dims=if s.1= []then none else some ((s.1.dropLast,s.2.set x.a.toNat true),dims.set x.a.toNat (s.1.getLastD 0)):=by unfold bN;rw [if_neg zb,if_neg zb,if_neg zb,if_neg zb,if_neg zb,if_pos h]
theorem Pq{x:Ins}{s:List Int × List Bool}{dims:List Int}(h:x.op=22):bN x s dims=if s.1= []\/s.1.getLastD 0≠1 then none else some ((s.1.dropLast,s.2),dims):=by unfold bN;rw [if_neg zb,if_neg zb,if_neg zb,if_neg zb,if_neg zb,if_neg zb,if_pos h]
theorem Ps{x:Ins}{s:List Int × List Bool}{dims:List Int}(h:x.op=21):bN x s dims=some (s,dims):=by unfold bN;rw [if_neg zb,if_neg zb,if_neg zb,if_neg zb,if_neg zb,if_neg zb,if_neg zb,if_pos h]
theorem jK(NB ND B:Nat)(v:Value)(s:List Int × List Bool)(dims:List Int)(x:Ins)(w:World)(h:jV NB ND B v s dims w)(ho:x.op=1\/x.op=5\/x.op=23\/x.op=24):(Calls prog 125 #[.pointer (some ⟨NB,0,none⟩),.agg #[.int .i64 x.op,.int .i64 x.a,.int .i64 x.n,.int .i64 x.d],.pointer (some ⟨ND,0,none⟩)] w (mq NB ND B v (bN x s dims) w)):=by
 have HP:=yq (fun w' (hg:w.Grows w')=>(h.grows hg).push)
 have HE:Hid (∀v' z w1 w',w.Grows w1->z=(if x.op=1 then x.a else if x.op=5 then 4 else 1)->iJ NB ND B v v' (s.1++[z],s.2) dims w1 w'->mq NB ND B v (bN x s dims) w (.returned (.bool true)) w'):=yq (fun v' z w1 w' hg hz hr=>by
  subst hz;rcases ho with ho|ho|ho
  ·rw [Q8 ho];rw [if_pos ho]at hr;exact⟨rfl,v',hr.pre h hg⟩
  ·rw [Q4 ho];rw [if_neg zb,if_pos ho]at hr;exact⟨rfl,v',hr.pre h hg⟩
  ·rw [Pp ho];rw [if_neg zb,if_neg zb]at hr;exact⟨rfl,v',hr.pre h hg⟩)
 obtain⟨op,a,n,d⟩:=x;dsimp only at *;clear h;rcases ho with rfl|rfl|rfl|rfl
 all_goals
  go_enter func125,ntmps125
  go_wp2_with (go_at_call 169;refine(HP.out _ af _).mono ?_;rintro e' w' ⟨rfl,v',hr⟩;have HR:=yq hr;clear hr)
  go_returns
  exact HE.out v' _ _ _ af rfl HR.out
theorem PG(k:Nat)(hk:k<11)(w:World):(Instr.index 136 (.agg oM) (.int .i64 (k:Int))).run prog w= .ok (.string (bC k)) w:=by
 rcases(by omega:k=0\/k=1\/k=2\/k=3\/k=4\/k=5\/k=6\/k=7\/k=8\/k=9\/k=10)with rfl|rfl|rfl|rfl|rfl|rfl|rfl|rfl|rfl|rfl|rfl<;>simp [Instr.index,go_sem,oM,bC,inpN]
theorem wG{k:Nat}(h:k<11):bE (bC k).toList=jC.getD k 0:=by
 have key:∀k,k<11->bE (bC k).toList=jC.getD k 0:=by decide+kernel
 exact key k h
theorem EZ(NB ND B:Nat)(v:Value)(s:List Int × List Bool)(dims:List Int)(x:Ins)(w:World)(h:jV NB ND B v s dims w)(ho:x.op=2)(ha:0<=x.a/\x.a<11):(Calls prog 125 #[.pointer (some ⟨NB,0,none⟩),.agg #[.int .i64 x.op,.int .i64 x.a,.int .i64 x.n,.int .i64 x.d],.pointer (some ⟨ND,0,none⟩)] w (mq NB ND B v (bN x s dims) w)):=by
 have HP:=yq (fun w' (hg:w.Grows w')=>(h.grows hg).push);rw [Q7 ho];obtain⟨k,hk⟩:∃k:Nat,x.a=(k:Int):=⟨x.a.toNat,by omega⟩;have hk11:k<11:=by omega
 have hd:=wG hk11;have HX:=yq (PG k hk11);have HI:=yq (fun w=>lg (bC k) w);rw [hd]at HI;have hkt:x.a.toNat=k:=by omega
 rw [hkt];have HE:Hid (∀v' w1 w',w.Grows w1->iJ NB ND B v v' (s.1++[jC.getD k 0],s.2) dims w1 w'->mq NB ND B v (some ((s.1++[jC.getD k 0],s.2),dims)) w (.returned (.bool true)) w'):=yq (fun v' w1 w' hg hr=>⟨rfl,v',hr.pre h hg⟩);obtain⟨op,a,n,d⟩:=x;dsimp only at *;subst ho hk;clear h hd;obtain⟨nm,hnm⟩:∃s,bC k=s:=⟨_,rfl⟩;rw [hnm]at HX HI;obtain⟨z,hz⟩:∃z,jC.getD k 0=z:=⟨_,rfl⟩;rw [hz]at HI HE ⊢;clear hnm hz hkt ha;have hx:=HX.out
 go_enter func125,ntmps125
 go_wp2_with fail
 refine TS.begin [9] (World.Grows _) zd zd aj (fun hS=>?_);refine kq 1 hS ?_;refine kq 2 hS ?_;refine TS.one (i:=0) zd rfl (fun K1 hK1=>?_);have HK1:=yq hK1;clear hK1 hS;dsimp only [getElem_toArray,getElem_cons_succ,getElem_cons_zero]
 go_simp
 go_at_call 69
 refine gvq (jJ _) ?_;intro bs d';refine TS.go HK1.out af (fun hS=>?_);clear HK1 K1
 (try simp only [nS])
 refine kq 3 hS ?_;refine TS.one (i:=4) zd rfl (fun K1 hK1=>?_);have HK1:=yq hK1;clear hK1 hS;dsimp only [getElem_toArray,getElem_cons_succ,getElem_cons_zero]
 go_simp
 go_at_call 100
 refine gw (HI.out _) ?_;refine TS.go HK1.out af (fun hS=>?_);clear HK1 K1
 (try simp only [nS])
 refine kq 5 hS ?_;refine kq 6 hS ?_;refine kq 7 hS ?_;refine kq 8 hS ?_;refine TS.weB 9 ?_;clear hS
 go_wp2_with (go_at_call 169;refine(HP.out _ af _).mono ?_;rintro e' w' ⟨rfl,v',hr⟩;have HR:=yq hr;clear hr)
 go_returns
 exact HE.out v' _ _ af HR.out
theorem E5(NB ND B:Nat)(v:Value)(s:List Int × List Bool)(dims:List Int)(x:Ins)(w:World)(h:jV NB ND B v s dims w)(ho:x.op=21):(Calls prog 125 #[.pointer (some ⟨NB,0,none⟩),.agg #[.int .i64 x.op,.int .i64 x.a,.int .i64 x.n,.int .i64 x.d],.pointer (some ⟨ND,0,none⟩)] w (mq NB ND B v (bN x s dims) w)):=by
 rw [Ps ho]
 have HE:Hid (∀w',w.Grows w'->mq NB ND B v (some (s,dims)) w (.returned (.bool true)) w'):=yq (fun w' hg=>⟨rfl,v,by
  have hi:=h.grows hg
  exact⟨.grows hg,hi.st,fun i=>(hi.sf i).trans (h.sf i).symm,hi.dm,fun i=>(hi.df i).trans (h.df i).symm,hi.row,fun k hk=>.inl hk⟩⟩)
 obtain⟨op,a,n,d⟩:=x;dsimp only at *;subst ho;clear h
 go_enter func125,ntmps125
 go_wp2_with fail
 go_returns
 exact HE.out _ af
theorem jV.pop{NB ND B:Nat}{v:Value}{s:List Int × List Bool}{dims:List Int}{w:World}(h:jV NB ND B v s dims w)(he:s.1≠[]) :
 Calls prog 170 #[.pointer (some ⟨NB,0,none⟩)] w fun e w'=>e= .returned (.tuple #[.int .i64 (s.1.getLastD 0),.bool true])/\∃v',jT NB 1 B v v' s.1.dropLast w w':=by
 have hlen:s.1.length≠0:=fun e=>he (eq_nil_of_length_eq_zero e);rcases h.row.2 with ⟨-,e⟩|⟨g,cap,cur,hv,-,hg,hn,-⟩
 ·exact absurd e hlen
 subst hv;obtain⟨n,hn'⟩:∃n,s.1.length=n+1:=⟨s.1.length-1,by omega⟩;have c1:w.cell? ⟨NB,0+1,none⟩=some (.slice (some ⟨g,0,none⟩) s.1.length cap):=h.st.2 1 _ rfl;have hrow:=h.row;have hl:=h.len;have hne:g≠NB:=fun e=>h.vb (by rw [e];rfl)
 have c2:w.cell? ⟨g,n,none⟩=some (.int .i64 (s.1.getLastD 0)):=by
  have e:s.1.length-1=n:=by omega
  rw [hrow.cellAt n zb,getElem?_map,getLastD_eq_getLast?,getLast?_eq_getElem?,e,getElem?_eq_getElem (by omega:n<s.1.length)];rfl
 have K:=jT.cut (m:=n) c1 hrow zb hne;have hd:s.1.take n=s.1.dropLast:=by rw [dropLast_eq_take,hn',Nat.add_sub_cancel]
 rw [hd]at K;rw [hn']at c1 hn;refine gw (KF NB 0 g n cap _ w c1 c2 hn zb (h.sf _)) ?_;exact⟨rfl,.slice (some ⟨g,0,none⟩) n cap,K⟩
theorem jV.pop0{NB ND B:Nat}{v:Value}{s:List Int × List Bool}{dims:List Int}{w:World}(h:jV NB ND B v s dims w)(he:s.1= []) :
 Calls prog 170 #[.pointer (some ⟨NB,0,none⟩)] w fun e w'=>e= .returned (.tuple #[.int .i64 0,.bool false])/\w'=w:=by
 have hl:s.1.length=0:=by rw [he];rfl
 have hrow:=h.row;rw [hl]at hrow
 obtain⟨a,cap,rfl⟩:∃a cap,v= .slice a 0 cap:=by
  rcases hrow.2 with ⟨rfl,e⟩|⟨g,cap,cur,rfl,-⟩
  ·exact⟨none,0,rfl⟩
  ·exact⟨_,_,rfl⟩
 exact KG NB 0 a cap w (h.st.2 1 _ rfl)
theorem Mo(NB ND B:Nat)(v:Value)(s:List Int × List Bool)(dims:List Int)(x:Ins)(w:World)(h:jV NB ND B v s dims w)(ho:x.op=22):(Calls prog 125 #[.pointer (some ⟨NB,0,none⟩),.agg #[.int .i64 x.op,.int .i64 x.a,.int .i64 x.n,.int .i64 x.d],.pointer (some ⟨ND,0,none⟩)] w (mq NB ND B v (bN x s dims) w)):=by
 rw [Pq ho];by_cases he:s.1= []
 ·have HP:=yq (fun w' (hg:w.Grows w')=>(h.grows hg).pop0 he);have HE:Hid (∀w',w.Grows w'->mq NB ND B v (if s.1= []\/s.1.getLastD 0≠1 then none else some ((s.1.dropLast,s.2),dims)) w (.returned (.bool false)) w'):=yq (fun w' hg=>by rw [if_pos (.inl he)];exact⟨rfl,.grows hg⟩);generalize(if s.1= []\/s.1.getLastD 0≠1 then none else some ((s.1.dropLast,s.2),dims))=oo at *;obtain⟨op,a,n,d⟩:=x;dsimp only at *;subst ho;clear h he
  go_enter func125,ntmps125
  go_wp2_with (go_at_call 170;refine gw (HP.out _ af) ?_)
  go_returns
  exact HE.out _ af
 ·have HP:=yq (fun w' (hg:w.Grows w')=>(h.grows hg).pop he)
  have HE:Hid (∀v' w1 w' b,w.Grows w1->b=decide (s.1.getLastD 0=1)->jT NB 1 B v v' s.1.dropLast w1 w'->mq NB ND B v (if s.1= []\/s.1.getLastD 0≠1 then none else some ((s.1.dropLast,s.2),dims)) w (.returned (.bool b)) w'):=yq (fun v' w1 w' b hg hb hk=>by
   have hr:=(iJ.of_stk (h.grows hg) hk).pre h hg;by_cases h1:s.1.getLastD 0=1
   ·rw [decide_eq_true h1]at hb;subst hb;rw [if_neg (fun c=>c.elim he (fun c=>c h1))];exact⟨rfl,v',hr⟩
   ·rw [decide_eq_false h1]at hb;subst hb;rw [if_pos (.inr h1)]
    exact⟨rfl,hr.mods⟩)
  generalize(if s.1= []\/s.1.getLastD 0≠1 then none else some ((s.1.dropLast,s.2),dims))=oo at *;obtain⟨op,a,n,d⟩:=x;dsimp only at *;subst ho;clear h he;generalize s.1.getLastD 0=z at *;by_cases h1:z=1
  ·subst h1
   go_enter func125,ntmps125
   go_wp2_with (go_at_call 170;refine(HP.out _ af).mono ?_;rintro e' w' ⟨rfl,v',hk⟩;have HK:=yq hk;clear hk)
   go_returns
   exact HE.out v' _ _ _ af rfl HK.out
  ·have h1':(z==1)=false:=by simpa using h1
   have HB:Hid (false=decide (z=1)):=yq (decide_eq_false h1).symm;clear h1
   go_enter func125,ntmps125
   go_wp2_with (go_at_call 170;refine(HP.out _ af).mono ?_;rintro e' w' ⟨rfl,v',hk⟩;have HK:=yq hk;clear hk)
   go_returns
   exact HE.out v' _ _ _ af HB.out HK.out
theorem Jp(NB ND B:Nat)(v:Value)(s:List Int × List Bool)(dims:List Int)(x:Ins)(w:World)(h:jV NB ND B v s dims w)(ho:x.op=3)(ha:0<=x.a/\x.a<12)(hdl:dims.length=12):(Calls prog 125 #[.pointer (some ⟨NB,0,none⟩),.agg #[.int .i64 x.op,.int .i64 x.a,.int .i64 x.n,.int .i64 x.d],.pointer (some ⟨ND,0,none⟩)] w (mq NB ND B v (bN x s dims) w)):=by
 rw [Q6 ho];obtain⟨k,hk⟩:∃k:Nat,x.a=(k:Int):=⟨x.a.toNat,by omega⟩;have hk12:k<12:=by omega
 have hkt:x.a.toNat=k:=by omega
 rw [hkt];have HP:=yq (fun w' (hg:w.Grows w')=>(h.grows hg).push (dims.getD k 0));have hsl:=h.st.1
 have hdc:w.cell? ⟨ND,k,none⟩=some (.int .i64 (dims.getD k 0)):=by
  exact RJ
 have hND:=h.nd
 have HSC:Hid (∀v' zs w1 w',w.Grows w1->iJ NB ND B v v' (zs,s.2) dims w1 w'->w'.cell? ⟨NB,2+k,none⟩=some (.bool (s.2.getD k false))):=yq (fun v' zs w1 w' hg hr=>by
  have:=hr.st.2 (2+k) (.bool (s.2.getD k false)) (by
   rw [Nat.add_comm,getElem?_cons_succ,getElem?_cons_succ,getElem?_map,getD_eq_getElem?_getD,getElem?_eq_getElem (by omega:k<s.2.length)];rfl)
  rw [Nat.zero_add]at this;exact this)
 have HBX:Hid (∀v' zs w1 w',w.heap.size<w1.heap.size->iJ NB ND B v v' (zs,s.2) dims w1 w'->(∀o,w'.cell? ⟨w.heap.size,o,none⟩=w1.cell? ⟨w.heap.size,o,none⟩)/\w.heap.size<w'.heap.size):=yq (fun v' zs w1 w' hg hr=>⟨fun o=>hr.mods.cell hg (fun q=>by
  have:=h.nb;have:=h.nd;rcases q with q|q|q
  ·omega
  ·omega
  ·have:=(h.row.lt _ q).2;omega) o,Nat.lt_of_lt_of_le hg hr.mods.size⟩)
 have HNB:Hid (∀v' zs w1 w',w.Grows w1->iJ NB ND B v v' (zs,s.2) dims w1 w'->NB<w'.heap.size):=yq (fun v' zs w1 w' hg hr=>by have:=h.nb;have:=hg.below.size;have:=hr.mods.size;omega)
 have HE:Hid (∀v' w1 w' w'' b,w.Grows w1->w'.Grows w''->b=s.2.getD k false->iJ NB ND B v v' (s.1++[dims.getD k 0],s.2) dims w1 w'->mq NB ND B v (if s.2.getD k false=true then some ((s.1++[dims.getD k 0],s.2),dims)else none) w (.returned (.bool b)) w''):=yq (fun v' w1 w' w'' b hg hg2 hb hr=>by
  have hi:=hr.pre h hg;have hN':NB<w'.heap.size:=by have:=h.nb;have:=hi.mods.size;omega
  have hD':ND<w'.heap.size:=by have:=h.nd;have:=hi.mods.size;omega
  have e1:=hg2.below.block NB hN';have e2:=hg2.below.block ND hD';have hi2:iJ NB ND B v v' (s.1++[dims.getD k 0],s.2) dims w w'':=⟨hi.mods.trans (.grows hg2),hi.st.same fun o=>World.cell?_of_block (a:=⟨NB,o,none⟩) e1,fun i=>(World.frozen?_of_block (a:=⟨NB,i,none⟩) e1).trans (hi.sfr i),hi.dm.same fun o=>World.cell?_of_block (a:=⟨ND,o,none⟩) e2,fun i=>(World.frozen?_of_block (a:=⟨ND,i,none⟩) e2).trans (hi.dfr i),aV.row (P:=fun _=>False) (.grows hg2) hi.row fun _ _ e=>e,hi.own⟩
  cases hc:s.2.getD k false with
  |true=>rw [hc]at hb;subst hb;exact⟨rfl,v',hi2⟩
  |false=>rw [hc]at hb;subst hb;exact⟨rfl,hi2.mods⟩)
 generalize(if s.2.getD k false=true then some ((s.1++[dims.getD k 0],s.2),dims)else none)=oo at *;obtain⟨z,hz⟩:∃z,dims.getD k 0=z:=⟨_,rfl⟩;obtain⟨b,hb⟩:∃b,s.2.getD k false=b:=⟨_,rfl⟩;rw [hz]at HP HE hdc;rw [hb]at HSC HE;obtain⟨op,a,n,d⟩:=x;dsimp only at *;subst ho hk;clear h hz hb hkt ha hdl hsl;have d1:(k:Int)<12:=by omega
 go_enter func125,ntmps125
 go_wp2_with fail
 refine TS.begin [7] (World.Grows _) zd zd aj (fun hS=>?_);refine kq 0 hS ?_;refine kq 1 hS ?_;refine kq 2 hS ?_;refine kq 3 hS ?_;refine kq 4 hS ?_;refine kq 5 hS ?_;refine kq 6 hS ?_;refine TS.one (i:=7) zd rfl (fun K1 hK1=>?_);have HK1:=yq hK1;clear hK1 hS;dsimp only [getElem_toArray,getElem_cons_succ,getElem_cons_zero]
 go_simp
 go_at_call 169
 refine(HP.out _ af).mono ?_;rintro e' w' ⟨rfl,v',hr⟩;have HR:=yq hr;have hsc:=HSC.out _ _ _ _ af hr;have hnb:=HNB.out _ _ _ _ af hr;obtain⟨hbx,hxs⟩:=HBX.out _ _ _ _ ze hr;have x1:=(hbx 1).trans (show _=some (.int .i64 (k:Int))by simp [go_sem]);clear hbx;clear hr;refine HK1.out _ _ (fun h=>absurd zf h) (TS.done zd ?_);clear HK1 K1
 go_wp2_with fail
 refine TS.begin [7] (World.Grows _) zd zd aj (fun hS=>?_);refine kq 0 hS ?_;refine kq 1 hS ?_;refine kq 2 hS ?_;refine kq 3 hS ?_;refine kq 4 hS ?_;refine kq 5 hS ?_;refine kq 6 hS ?_;refine TS.weB 7 ?_;clear hS
 go_wp2_with fail
 go_returns
 exact HE.out v' _ _ _ _ af af rfl HR.out
theorem iJ.set{NB ND B:Nat}{v v':Value}{zs:List Int}{bs:List Bool}{dims:List Int}{w w':World}{k:Nat}{z:Int}(hr:iJ NB ND B v v' (zs,bs) dims w w')(hne:NB≠ND)(hk:k<12)(hd:dims.length=12)(hv:∀j,v'.ownBlock=some j->j≠NB/\j≠ND) :
 iJ NB ND B v v' (zs,bs.set k true) (dims.set k z) w ((w'.setCell ⟨ND,k,none⟩ (.int .i64 z)).setCell ⟨NB,2+k,none⟩ (.bool true)):=by
 have hb:bs.length=12:=hr.st.1;have m1:aV (fun b=>b=NB\/b=ND\/v.ownBlock=some b) w' ((w'.setCell ⟨ND,k,none⟩ (.int .i64 z)).setCell ⟨NB,2+k,none⟩ (.bool true)):=(aV.setCell _ _ _ _ (.inr (.inl rfl))).trans (aV.setCell _ _ _ _ (.inl rfl));have m2:aV (fun b=>b=NB\/b=ND) w' ((w'.setCell ⟨ND,k,none⟩ (.int .i64 z)).setCell ⟨NB,2+k,none⟩ (.bool true)):=(aV.setCell _ _ _ _ (.inr rfl)).trans (aV.setCell _ _ _ _ (.inl rfl));refine⟨hr.mods.trans m1,⟨by rw [length_set];exact hb, ?_⟩,fun i=>by rw [World.frozen?_setCell,World.frozen?_setCell];exact hr.sfr i, ?_,fun i=>by rw [World.frozen?_setCell,World.frozen?_setCell];exact hr.dfr i,m2.row hr.row fun j hj q=>?_,hr.own⟩
 ·have c0:=(hr.st.2.other (M:=ND) (o:=k) (.int .i64 z) (.inl (Ne.symm hne))).set (2+k) (.bool true) (by simp [hb];omega);rw [Nat.zero_add]at c0
  have e:(Value.bool true::v'::bs.map .bool).set (2+k) (.bool true)=Value.bool true::v'::(bs.set k true).map .bool:=by
   rw [Nat.add_comm,set_cons_succ,set_cons_succ,map_set]
  rw [e]at c0;exact c0
 ·have c0:=(hr.dm.set k (.int .i64 z) (by simp [hd];exact hk)).other (M:=NB) (o:=2+k) (.bool true) (.inl hne);rw [Nat.zero_add,<-map_set]at c0;exact c0
 ·have:=hv j hj;rcases q with q|q
  ·exact this.1 q
  ·exact this.2 q
theorem iJ.grow{NB ND B:Nat}{v v':Value}{s':List Int × List Bool}{dims':List Int}{w w' w'':World}(hi:iJ NB ND B v v' s' dims' w w')(hN:NB<w.heap.size)(hD:ND<w.heap.size)(hg2:w'.Grows w''):iJ NB ND B v v' s' dims' w w'':=by
 have e1:=hg2.below.block NB (Nat.lt_of_lt_of_le hN hi.mods.size);have e2:=hg2.below.block ND (Nat.lt_of_lt_of_le hD hi.mods.size);exact⟨hi.mods.trans (.grows hg2),hi.st.same fun o=>World.cell?_of_block (a:=⟨NB,o,none⟩) e1,fun i=>(World.frozen?_of_block (a:=⟨NB,i,none⟩) e1).trans (hi.sfr i),hi.dm.same fun o=>World.cell?_of_block (a:=⟨ND,o,none⟩) e2,fun i=>(World.frozen?_of_block (a:=⟨ND,i,none⟩) e2).trans (hi.dfr i),aV.row (P:=fun _=>False) (.grows hg2) hi.row fun _ _ e=>e,hi.own⟩
theorem Jo(NB ND B:Nat)(v:Value)(s:List Int × List Bool)(dims:List Int)(x:Ins)(w:World)(h:jV NB ND B v s dims w)(ho:x.op=4)(ha:0<=x.a/\x.a<12)(hdl:dims.length=12):(Calls prog 125 #[.pointer (some ⟨NB,0,none⟩),.agg #[.int .i64 x.op,.int .i64 x.a,.int .i64 x.n,.int .i64 x.d],.pointer (some ⟨ND,0,none⟩)] w (mq NB ND B v (bN x s dims) w)):=by
 rw [Q5 ho];obtain⟨k,hk⟩:∃k:Nat,x.a=(k:Int):=⟨x.a.toNat,by omega⟩;have hk12:k<12:=by omega
 have hkt:x.a.toNat=k:=by omega
 rw [hkt];have d1:(k:Int)<12:=by omega
 have hNB:=h.nb;have hND:=h.nd;have hne:=h.ne;have hsf:=h.sf (2+k);have hdf:=h.df k;by_cases he:s.1= []
 ·have HP:=yq (fun w' (hg:w.Grows w')=>(h.grows hg).pop0 he)
  have HE:Hid (∀w' z b,((w.setCell ⟨ND,k,none⟩ z).setCell ⟨NB,2+k,none⟩ b).Grows w'->mq NB ND B v (if s.1= []then none else some ((s.1.dropLast,s.2.set k true),dims.set k (s.1.getLastD 0))) w (.returned (.bool false)) w'):=yq (fun w' z b hg=>by
   rw [if_pos he];exact⟨rfl,((aV.setCell _ _ _ _ (.inr (.inl rfl))).trans (aV.setCell _ _ _ _ (.inl rfl))).trans (.grows hg)⟩)
  have hdc:w.cell? ⟨ND,k,none⟩=some (.int .i64 (dims.getD k 0)):=by
   exact RJ
  have hsc:w.cell? ⟨NB,2+k,none⟩=some (.bool (s.2.getD k false)):=by
   have hb:=h.st.1
   have:=h.st.2 (2+k) (.bool (s.2.getD k false)) (by
    rw [Nat.add_comm,getElem?_cons_succ,getElem?_cons_succ,getElem?_map,getD_eq_getElem?_getD,getElem?_eq_getElem (by omega:k<s.2.length)];rfl)
   rw [Nat.zero_add]at this;exact this
  generalize(if s.1= []then none else some ((s.1.dropLast,s.2.set k true),dims.set k (s.1.getLastD 0)))=oo at *;generalize dims.getD k 0=z0 at *;generalize s.2.getD k false=b0 at *;obtain⟨op,a,n,d⟩:=x;dsimp only at *;subst ho hk;clear h he hkt ha hdl
  go_enter func125,ntmps125
  go_wp2_with (go_at_call 170;refine gw (HP.out _ af) ?_)
  refine TS.begin [13] (fun X=>X.cell? ⟨w.heap.size,1,none⟩=some (.int .i64 (k:Int))) zd zd zq (fun hS=>?_);refine TS.takeV (i:=0) (v:=?_) rfl zd zd zd zf (fun _ _ _ h=>h) rfl hS ?_ ?_
  rotate_left
  focus
   intro wS hSw
   (try dsimp only at hSw)
   go_simp
   rfl
  (try simp only [nS])
  refine TS.takeV (i:=1) (v:=?_) rfl zd zd zd zf (fun _ _ _ h=>h) rfl hS ?_ ?_
  rotate_left
  focus
   intro wS hSw
   (try dsimp only at hSw)
   go_simp
   rfl
  (try simp only [nS])
  refine TS.takeV (i:=2) (v:=?_) rfl zd zd zd zf (fun _ _ _ h=>h) rfl hS ?_ ?_
  rotate_left
  focus
   intro wS hSw
   (try dsimp only at hSw)
   go_simp
   rfl
  (try simp only [nS])
  refine TS.takeV (i:=3) (v:=?_) rfl zd zd zd zf (fun _ _ _ h=>h) rfl hS ?_ ?_
  rotate_left
  focus
   intro wS hSw
   (try dsimp only at hSw)
   go_simp
   rfl
  (try simp only [nS])
  refine TS.takeV (i:=4) (v:=?_) rfl zd zd zd zf (fun _ _ _ h=>h) rfl hS ?_ ?_
  rotate_left
  focus
   intro wS hSw
   (try dsimp only at hSw)
   go_simp
   rfl
  (try simp only [nS])
  refine TS.takeV (i:=5) (v:=?_) rfl zd zd zd zf (fun _ _ _ h=>h) rfl hS ?_ ?_
  rotate_left
  focus
   intro wS hSw
   (try dsimp only at hSw)
   go_simp
   rfl
  (try simp only [nS])
  refine TS.takeV (i:=6) (v:=?_) rfl zd zd zd zf (fun _ _ _ h=>h) rfl hS ?_ ?_
  rotate_left
  focus
   intro wS hSw
   (try dsimp only at hSw)
   go_simp
   rfl
  (try simp only [nS])
  refine TS.takeV (i:=7) (v:=?_) rfl zd zd zd zf (fun _ _ _ h=>h) rfl hS ?_ ?_
  rotate_left
  focus
   intro wS hSw
   (try dsimp only at hSw)
   go_simp
   rfl
  (try simp only [nS])
  refine TS.takeV (i:=8) (v:=?_) rfl zd zd zd zf (fun _ _ _ h=>h) rfl hS ?_ ?_
  rotate_left
  focus
   intro wS hSw
   (try dsimp only at hSw)
   go_simp
   rfl
  (try simp only [nS])
  refine TS.takeV (i:=10) (v:=?_) rfl zd zd zd zf (fun _ _ _ h=>h) rfl hS ?_ ?_
  rotate_left
  focus
   intro wS hSw
   (try dsimp only at hSw)
   go_simp
   rfl
  (try simp only [nS])
  refine TS.takeV (i:=11) (v:=?_) rfl zd zd zd zf (fun _ _ _ h=>h) rfl hS ?_ ?_
  rotate_left
  focus
   intro wS hSw
   (try dsimp only at hSw)
   go_simp
   rfl
  (try simp only [nS])
  refine TS.one (i:=9) zd rfl (fun K1 hK1=>?_);have HK1:=yq hK1;clear hK1 hS;dsimp only [getElem_toArray,getElem_cons_succ,getElem_cons_zero]
  go_simp
  refine TS.go HK1.out xg (fun hS=>?_);clear HK1 K1
  (try simp only [nS])
  refine TS.takeV (i:=12) (v:=?_) rfl zd zd zd zf (fun _ _ _ h=>h) rfl hS ?_ ?_
  rotate_left
  focus
   intro wS hSw
   (try dsimp only at hSw)
   go_simp
   rfl
  (try simp only [nS])
  refine TS.weB 13 ?_;clear hS
  go_wp2_with fail
  go_returns
  exact HE.out _ _ _ af
 ·have HP:=yq (fun w' (hg:w.Grows w')=>(h.grows hg).pop he)
  have HE:Hid (∀v' w1 w2 w',w.Grows w1->jT NB 1 B v v' s.1.dropLast w1 w2->((w2.setCell ⟨ND,k,none⟩ (.int .i64 (s.1.getLastD 0))).setCell ⟨NB,2+k,none⟩ (.bool true)).Grows w'->mq NB ND B v (if s.1= []then none else some ((s.1.dropLast,s.2.set k true),dims.set k (s.1.getLastD 0))) w (.returned (.bool true)) w'):=yq (fun v' w1 w2 w' hg hk hg2=>by
   rw [if_neg he];have hr:=(iJ.of_stk (h.grows hg) hk).pre h hg
   have hs:=hr.set (z:=s.1.getLastD 0) hne hk12 hdl (fun j hj=>by
    rcases hr.own j hj with e|e
    ·exact⟨fun q=>h.vb (q ▸ e),fun q=>h.vd (q ▸ e)⟩
    ·omega)
   exact⟨rfl,v',hs.grow hNB hND hg2⟩)
  have HF:Hid (∀v' w1 w2,w.Grows w1->w.heap.size<w1.heap.size->jT NB 1 B v v' s.1.dropLast w1 w2->w2.cell? ⟨ND,k,none⟩=some (.int .i64 (dims.getD k 0))/\w2.cell? ⟨NB,2+k,none⟩=some (.bool (s.2.getD k false))/\w2.frozen? ⟨ND,k,none⟩=false/\w2.frozen? ⟨NB,2+k,none⟩=false/\NB<w2.heap.size/\ND<w2.heap.size/\w.heap.size<w2.heap.size/\∀o,w2.cell? ⟨w.heap.size,o,none⟩=w1.cell? ⟨w.heap.size,o,none⟩):=yq (fun v' w1 w2 hg hw hk=>by
   have hr:=(iJ.of_stk (h.grows hg) hk).pre h hg;have hb:=hr.st.1;have hb':s.2.length=12:=hb;have hz:=hr.mods.size;have hz1:=hk.upd.mods.size;refine⟨?_, ?_,(hr.dfr k).trans hdf,(hr.sfr _).trans hsf,by omega,by omega,by omega,fun o=>hk.upd.mods.cell hw (fun q=>?_) o⟩
   ·have:=hr.dm k (.int .i64 (dims.getD k 0)) (by rw [getElem?_map,getD_eq_getElem?_getD,getElem?_eq_getElem (by omega:k<dims.length)];rfl);rw [Nat.zero_add]at this;exact this
   ·have:=hr.st.2 (2+k) (.bool (s.2.getD k false)) (by
     rw [Nat.add_comm,getElem?_cons_succ,getElem?_cons_succ,getElem?_map,getD_eq_getElem?_getD];show(s.2[k]?).map _=_
     rw [getElem?_eq_getElem (by omega:k<s.2.length)];rfl)
    rw [Nat.zero_add]at this;exact this
   ·rcases q with q|q
    ·omega
    ·have:=(h.row.lt _ q).2;omega)
  generalize(if s.1= []then none else some ((s.1.dropLast,s.2.set k true),dims.set k (s.1.getLastD 0)))=oo at *;generalize dims.getD k 0=z0 at *;generalize s.2.getD k false=b0 at *;generalize s.1.getLastD 0=z at *;obtain⟨op,a,n,d⟩:=x;dsimp only at *;subst ho hk;have hwN:w.heap.size≠ND:=by omega
  clear h he hkt ha hdl hsf hdf hNB hND
  go_enter func125,ntmps125
  go_wp2_with (go_at_call 170;refine(HP.out _ af).mono ?_;rintro e' w2 ⟨rfl,v',hk⟩;have HK:=yq hk;obtain⟨y0,y1,y2,y3,y4,y5,y6,y7⟩:=HF.out _ _ _ af ze hk;have y8:=(y7 1).trans (show _=some (.int .i64 (k:Int))by simp [go_sem]);clear hk y7)
  refine TS.begin [13] (fun X=>X.cell? ⟨w.heap.size,1,none⟩=some (.int .i64 (k:Int))) zd zd (show w2.drew.cell? _=_ from y8) (fun hS=>?_);refine TS.takeV (i:=0) (v:=?_) rfl zd zd zd zf (fun _ _ _ h=>h) rfl hS ?_ ?_
  rotate_left
  focus
   intro wS hSw
   (try dsimp only at hSw)
   go_simp
   rfl
  (try simp only [nS])
  refine TS.takeV (i:=1) (v:=?_) rfl zd zd zd zf (fun _ _ _ h=>h) rfl hS ?_ ?_
  rotate_left
  focus
   intro wS hSw
   (try dsimp only at hSw)
   go_simp
   rfl
  (try simp only [nS])
  refine TS.takeV (i:=2) (v:=?_) rfl zd zd zd zf (fun _ _ _ h=>h) rfl hS ?_ ?_
  rotate_left
  focus
   intro wS hSw
   (try dsimp only at hSw)
   go_simp
   rfl
  (try simp only [nS])
  refine TS.takeV (i:=3) (v:=?_) rfl zd zd zd zf (fun _ _ _ h=>h) rfl hS ?_ ?_
  rotate_left
  focus
   intro wS hSw
   (try dsimp only at hSw)
   go_simp
   rfl
  (try simp only [nS])
  refine TS.takeV (i:=4) (v:=?_) rfl zd zd zd zf (fun _ _ _ h=>h) rfl hS ?_ ?_
  rotate_left
  focus
   intro wS hSw
   (try dsimp only at hSw)
   go_simp
   rfl
  (try simp only [nS])
  refine TS.takeV (i:=5) (v:=?_) rfl zd zd zd zf (fun _ _ _ h=>h) rfl hS ?_ ?_
  rotate_left
  focus
   intro wS hSw
   (try dsimp only at hSw)
   go_simp
   rfl
  (try simp only [nS])
  refine TS.takeV (i:=6) (v:=?_) rfl zd zd zd zf (fun _ _ _ h=>h) rfl hS ?_ ?_
  rotate_left
  focus
   intro wS hSw
   (try dsimp only at hSw)
   go_simp
   rfl
  (try simp only [nS])
  refine TS.takeV (i:=7) (v:=?_) rfl zd zd zd zf (fun _ _ _ h=>h) rfl hS ?_ ?_
  rotate_left
  focus
   intro wS hSw
   (try dsimp only at hSw)
   go_simp
   rfl
  (try simp only [nS])
  refine TS.takeV (i:=8) (v:=?_) rfl zd zd zd zf (fun _ _ _ h=>h) rfl hS ?_ ?_
  rotate_left
  focus
   intro wS hSw
   (try dsimp only at hSw)
   go_simp
   rfl
  (try simp only [nS])
  refine TS.takeV (i:=10) (v:=?_) rfl zd zd zd zf (fun _ _ _ h=>h) rfl hS ?_ ?_
  rotate_left
  focus
   intro wS hSw
   (try dsimp only at hSw)
   go_simp
   rfl
  (try simp only [nS])
  refine TS.takeV (i:=11) (v:=?_) rfl zd zd zd zf (fun _ _ _ h=>h) rfl hS ?_ ?_
  rotate_left
  focus
   intro wS hSw
   (try dsimp only at hSw)
   go_simp
   rfl
  (try simp only [nS])
  refine TS.one (i:=9) zd rfl (fun K1 hK1=>?_);have HK1:=yq hK1;clear hK1 hS;dsimp only [getElem_toArray,getElem_cons_succ,getElem_cons_zero]
  go_simp
  refine TS.go HK1.out xg (fun hS=>?_);clear HK1 K1
  (try simp only [nS])
  refine TS.takeV (i:=12) (v:=?_) rfl zd zd zd zf (fun _ _ _ h=>h) rfl hS ?_ ?_
  rotate_left
  focus
   intro wS hSw
   (try dsimp only at hSw)
   go_simp
   rfl
  (try simp only [nS])
  refine TS.weB 13 ?_;clear hS
  go_wp2_with fail
  go_returns
  exact HE.out v' _ _ _ af HK.out af
theorem Q3{x:Ins}{s:List Int × List Bool}{dims:List Int}(h:x.op≠1/\x.op≠2/\x.op≠3/\x.op≠4/\x.op≠5/\x.op≠21/\x.op≠22/\x.op≠23/\x.op≠24) :
 bN x s dims=if s.1.length<aB (opF x.op)then none else if ag (opF x.op) (s.1.drop (s.1.length-aB (opF x.op)))=0 then none
  else some ((s.1.take (s.1.length-aB (opF x.op))++[ag (opF x.op) (s.1.drop (s.1.length-aB (opF x.op)))],s.2),dims):=by
 unfold bN;rw [if_neg zb,if_neg zb,if_neg zb,if_neg zb,if_neg zb,if_neg zb,if_neg zb,if_neg zb]
theorem FV{op:Int}(h:opF op≠0):4<=opF op/\opF op<=20:=by
 revert h;unfold opF;intro h
 split
 ·omega
 split
 ·omega
 split
 ·omega
 split
 ·omega
 split
 ·omega
 split
 ·omega
 ·rename_i a1 a2 a3 a4 a5 a6
  rw [if_neg a1,if_neg a2,if_neg a3,if_neg a4,if_neg a5,if_neg a6]at h;exact absurd rfl h
theorem EY(hInf:Hid gU)(NB ND B:Nat)(v:Value)(s:List Int × List Bool)(dims:List Int)(x:Ins)(w:World)(h:jV NB ND B v s dims w)(hr:∀z∈s.1,1<=z/\z<=4)(ht:Tab w)(ho:x.op≠1/\x.op≠2/\x.op≠3/\x.op≠4/\x.op≠5/\x.op≠21/\x.op≠22/\x.op≠23/\x.op≠24)(hop:opF x.op≠0):(Calls prog 125 #[.pointer (some ⟨NB,0,none⟩),.agg #[.int .i64 x.op,.int .i64 x.a,.int .i64 x.n,.int .i64 x.d],.pointer (some ⟨ND,0,none⟩)] w (mq NB ND B v (bN x s dims) w)):=by
 rw [Q3 ho];have hop':=FV hop;have HO:=yq (fun w=>dM x.op w);have HT:=yq ht;have HP:=yq (fun w' (hg:w.Grows w')=>BJ hInf NB 0 B v s.1 (opF x.op) w' hop' hr (by have:=h.len;omega) ((h.grows hg).st.2 1 _ rfl) (h.grows hg).row (h.grows hg).hB (h.grows hg).nb h.vb ((h.grows hg).sf _) (HT.out.grows hg))
 have HE:Hid (∀w1 w' b,w.Grows w1->Dk NB 0 B v s.1 (opF x.op) w1 (.returned (.bool b)) w'->mq NB ND B v (if s.1.length<aB (opF x.op)then none else if ag (opF x.op) (s.1.drop (s.1.length-aB (opF x.op)))=0 then none
  else some ((s.1.take (s.1.length-aB (opF x.op))++[ag (opF x.op) (s.1.drop (s.1.length-aB (opF x.op)))],s.2),dims)) w (.returned (.bool b)) w'):=yq (fun w1 w' b hg hp=>by
  by_cases c:s.1.length<aB (opF x.op)\/ag (opF x.op) (s.1.drop (s.1.length-aB (opF x.op)))=0
  ·obtain⟨e,hg2⟩:=hp.1 c
   have:(if s.1.length<aB (opF x.op)then none else if ag (opF x.op) (s.1.drop (s.1.length-aB (opF x.op)))=0 then none
    else some ((s.1.take (s.1.length-aB (opF x.op))++[ag (opF x.op) (s.1.drop (s.1.length-aB (opF x.op)))],s.2),dims))=none:=by
    rcases c with c|c
    ·rw [if_pos c]
    ·by_cases c2:s.1.length<aB (opF x.op)
     ·rw [if_pos c2]
     ·rw [if_neg c2,if_pos c]
   rw [this];exact⟨e,(aV.grows hg).trans (.grows hg2)⟩
  ·obtain⟨e,g,cap,hk⟩:=hp.2 c;rw [if_neg (fun q=>c (.inl q)),if_neg (fun q=>c (.inr q))]
   exact⟨e,_,(iJ.of_stk (h.grows hg) hk).pre h hg⟩)
 have HB:Hid (∀w1 e w',Dk NB 0 B v s.1 (opF x.op) w1 e w'->∃b,e= .returned (.bool b)):=yq (fun w1 e w' hp=>by
  by_cases c:s.1.length<aB (opF x.op)\/ag (opF x.op) (s.1.drop (s.1.length-aB (opF x.op)))=0
  ·exact⟨_,(hp.1 c).1⟩
  ·exact⟨_,(hp.2 c).1⟩)
 generalize(if s.1.length<aB (opF x.op)then none else if ag (opF x.op) (s.1.drop (s.1.length-aB (opF x.op)))=0 then none
  else some ((s.1.take (s.1.length-aB (opF x.op))++[ag (opF x.op) (s.1.drop (s.1.length-aB (opF x.op)))],s.2),dims))=oo at *
 generalize opF x.op=q at *;obtain⟨op,a,n,d⟩:=x;dsimp only at *;obtain⟨b1,b2,b3,b4,b5,b21,b22,b23,b24⟩:=ho;have e1:(op==1)=false:=by simpa using b1
 have e2:(op==2)=false:=by simpa using b2
 have e3:(op==3)=false:=by simpa using b3
 have e4:(op==4)=false:=by simpa using b4
 have e5:(op==5)=false:=by simpa using b5
 have e21:(op==21)=false:=by simpa using b21
 have e22:(op==22)=false:=by simpa using b22
 have e23:(op==23)=false:=by simpa using b23
 have e24:(op==24)=false:=by simpa using b24
 clear h ht hr hop hop' b1 b2 b3 b4 b5 b21 b22 b23 b24
 go_enter func125,ntmps125
 go_wp2_with (first
  |(go_at_call 71;refine gw (HO.out _) ?_)
  |(go_at_call 171;refine(HP.out _ af).mono ?_;rintro e' w' hp;obtain⟨b,rfl⟩:=HB.out _ _ _ hp;have HQ:=yq (HE.out _ _ _ af hp);clear hp))
 go_returns
 exact HQ.out
theorem Jq(hInf:Hid gU)(NB ND B m n i:Nat)(v:Value)(s:List Int × List Bool)(dims:List Int)(x:Ins)(w:World)(h:jV NB ND B v s dims w)(hr:∀z∈s.1,1<=z/\z<=4)(hm:m<=12)(hdl:dims.length=12)(ht:Tab w)(hx:wfF m n i x=true):(Calls prog 125 #[.pointer (some ⟨NB,0,none⟩),.agg #[.int .i64 x.op,.int .i64 x.a,.int .i64 x.n,.int .i64 x.d],.pointer (some ⟨ND,0,none⟩)] w (mq NB ND B v (bN x s dims) w)):=by
 by_cases h1:x.op=1
 ·exact jK NB ND B v s dims x w h (.inl h1)
 have hw:=dH hx h1;by_cases h2:x.op=2
 ·exact EZ NB ND B v s dims x w h h2 (hw.2.1 h2)
 by_cases h3:x.op=3
 ·exact Jp NB ND B v s dims x w h h3 (by have:=hw.2.2.1 (.inl h3);omega) hdl
 by_cases h4:x.op=4
 ·exact Jo NB ND B v s dims x w h h4 (by have:=hw.2.2.1 (.inr h4);omega) hdl
 by_cases h5:x.op=5
 ·exact jK NB ND B v s dims x w h (.inr (.inl h5))
 by_cases h21:x.op=21
 ·exact E5 NB ND B v s dims x w h h21
 by_cases h22:x.op=22
 ·exact Mo NB ND B v s dims x w h h22
 by_cases h23:x.op=23
 ·exact jK NB ND B v s dims x w h (.inr (.inr (.inl h23)))
 by_cases h24:x.op=24
 ·exact jK NB ND B v s dims x w h (.inr (.inr (.inr h24)))
 exact EY hInf NB ND B v s dims x w h hr ht ⟨h1,h2,h3,h4,h5,h21,h22,h23,h24⟩ (hw.2.2.2.2.2 h2 h3 h4 h5 h21 h22 h23 h24)
theorem LX(l:List (ByteArray × Int)):(List.range l.length).any (fun k=>!decide (1<=bdD l k/\bdD l k<=4))=!gm l:=by
 induction l with
 |nil=>rfl
 |cons p r ih=>
  rw [length_cons,range_succ_eq_map,any_cons,any_map];unfold gm at ih ⊢;rw [all_cons,Bool.not_and,<-ih];rfl
theorem xX{e:Ex}(h:eF e=true):aM e=true:=by
 unfold eF at h;simp only [Bool.and_eq_true]at h;first|exact h.2|exact h.1.2|exact h.1
theorem wF{env:List (ByteArray × Int)}{e:Ex}(h:eF e=false\/gm env=false):eY env e=(0,1):=by
 unfold eY;rw [if_neg];rintro⟨h1,h2⟩;rcases h with h|h
 ·rw [h]at h1;cases h1
 ·rw [h]at h2;cases h2
theorem EC{env:List (ByteArray × Int)}{e:Ex}(h1:eF e=true)(h2:gm env=true):eY env e=aX env e:=by
 unfold eY;rw [if_pos ⟨h1,h2⟩]
theorem MJ(S:Nat->Prop)(env:List (ByteArray × Int))(e:Ex)(v ve:Value)(w:World)(h:aT S w e v)(hbig:e.size<=2305843009213693952)(ht:Tab w)(hv:dx w ve env)(hx:Hid (OkX e)) :
 Calls prog 48 #[exV e v,ve] w (uS (eY env e) w):=by
 have HR:=yq h;have HV:=yq hv;have HT:=yq ht;have hrng:=h.rng;obtain⟨a,cap,rfl⟩:=h.form0
 have HVE:Hid (∀w',w.Grows w'->Calls prog 36 #[exV e (.slice a e.args.length cap)] w' fun r w''=>r= .returned (.bool (eF e))/\w'.Grows w''):=
  yq (fun w' hg=>AP S e _ w' (yq (HR.out.grows hg)) (yq hbig) (yq (HT.out.grows hg)) hx)
 have HCB:Hid (∀w',w.Grows w'->Calls prog 102 #[ve,.func (.func 104) #[] #[]] w' fun r w''=>r= .returned (.bool (!gm env))/\w'.Grows w''):=
  yq (fun w' hg=>by
   have:=uL 104 #[] Jm env ve (fun k=>!decide (1<=bdD env k/\bdD env k<=4)) w' (HV.out.grows hg) (yq (fun k hk w2 h2=>Mk _ _ w2));rw [LX]at this
   exact this)
 obtain⟨-,ae,ce,rfl,-⟩:=hv;unfold exV at HVE
 cases hve:eF e with
 |false=>
  have HF:=yq (wF (env:=env) (.inl hve));rw [hve]at HVE;clear h ht hve
  go_enter func48,ntmps48
  go_wp2_with (go_at_call 36;refine gvq (HVE.out _ (.of_below au)) ?_;intro bs d)
  go_returns
  exact Aq HF.out (.of_below au)
 |true=>
  rw [hve]at HVE
  cases hde:gm env with
  |false=>
   have HF:=yq (wF (e:=e) (.inr hde));rw [hde]at HCB;clear h ht hve hde
   go_enter func48,ntmps48
   go_wp2_with (first
    |(go_at_call 36;refine gvq (HVE.out _ (.of_below au)) ?_;intro bs d)
    |(go_at_call 102;refine gvq (HCB.out _ (.of_below au)) ?_;intro bs2 d2))
   go_returns
   exact Aq HF.out (.of_below au)
  |true=>
   have HF:=yq (EC hve hde);rw [hde]at HCB
   have HI:Hid (∀w',w.Grows w'->Calls prog 105 #[exV e (.slice a e.args.length cap),.slice ae env.length ce] w' (uS (aX env e) w')):=
    yq (fun w' hg=>Cr S env hde e.size e (Nat.le_refl _) (xX hve) _ _ w' (HR.out.grows hg) (HV.out.grows hg))
   unfold uS exV at HI;clear h ht hve hde;rw [HF.out];generalize aX env e=q at *
   go_enter func48,ntmps48
   go_wp2_with (first
    |(go_at_call 36;refine gvq (HVE.out _ (.of_below au)) ?_;intro bs d)
    |(go_at_call 102;refine gvq (HCB.out _ (.of_below au)) ?_;intro bs2 d2)
    |(go_at_call 105;refine gvq (HI.out _ (.of_below au)) ?_;intro bs3 d3))
   go_returns
   exact Aq rfl (.of_below au)
end Go.Proofs.YteildlpchhlchaaGreatDoor
