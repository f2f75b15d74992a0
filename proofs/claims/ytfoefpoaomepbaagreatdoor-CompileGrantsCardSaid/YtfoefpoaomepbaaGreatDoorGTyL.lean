import Derived.Test.YtfoefpoaomepbaaGreatDoorGTyR
import Derived.Test.YtfoefpoaomepbaaGreatDoorGCodV
set_option linter.all false
set_option maxHeartbeats 16000000
set_option maxRecDepth 1000000
namespace Go.Proofs.YtfoefpoaomepbaaGreatDoor
open Tryz List
open Go.RowKit Go.Shelf
attribute [local go_sem] Oper.semAt_some
theorem toList_inj{a b:ByteArray}(h:a.toList=b.toList):a=b:=by
 rw [ByteArray.toList_eq,ByteArray.toList_eq]at h;exact ByteArray.ext (Array.ext' h)
theorem uu{α:Type}(env:List (ByteArray × α))(s:ByteArray)(i:Nat)(d:ByteArray × α)(hi:i<env.length)(he:(env.getD i d).1=s)(hl:∀j,i<j->j<env.length->(env.getD j d).1≠s):gF env s=some (env.getD i d).2:=by
 have h1:env=env.take i++env.getD i d::env.drop (i+1):=by
  rw [getD_eq_getElem?_getD,getElem?_eq_getElem hi,Option.getD_some,getElem_cons_drop,take_append_drop]
 have h2:(env.drop (i+1)).reverse.find? (fun p=>decide (p.1=s))=none:=by
  rw [find?_eq_none];intro x hx;obtain⟨k,hk,rfl⟩:=getElem_of_mem (mem_reverse.1 hx);have hk2:i+1+k<env.length:=by rw [length_drop]at hk;omega
  have:=hl (i+1+k) zb hk2;rw [getD_eq_getElem?_getD,getElem?_eq_getElem hk2,Option.getD_some]at this;rw [getElem_drop];simpa using this
 unfold gF;generalize hz:env.getD i d=z at *;rw [h1,reverse_append,reverse_cons,append_assoc,find?_append,h2];simp [he]
theorem uy{α:Type}(env:List (ByteArray × α))(s:ByteArray)(d:ByteArray × α)(hl:∀j,j<env.length->(env.getD j d).1≠s):gF env s=none:=by
 unfold gF;rw [Option.map_eq_none_iff,find?_eq_none];intro x hx;obtain⟨k,hk,rfl⟩:=getElem_of_mem (mem_reverse.1 hx);have:=hl k hk;rw [getD_eq_getElem?_getD,getElem?_eq_getElem hk,Option.getD_some]at this;simpa using this
def lZ(env:List (ByteArray × Int))(s:ByteArray):Int × Bool:=if df s.toList≠0 then(df s.toList,true)else match gF env s with|some m=>(m,true)|none=>(0,false)
theorem Cf(env:List (ByteArray × Int))(s:ByteArray):fB env s=if(lZ env s).2=true then((lZ env s).1,0)else(0,5):=by
 unfold fB lZ;by_cases h:df s.toList≠0
 ·rw [if_pos h,if_pos h];simp
 ·rw [if_neg h,if_neg h];cases gF env s<;>simp
def LkP(env:List (ByteArray × Int))(s:ByteArray)(w:World)(e:Ending)(w':World):Prop:=e= .returned (.tuple #[.int .i64 (lZ env s).1,.bool (lZ env s).2])/\w.Grows w'
structure mJ(B:Nat)(s:ByteArray)(m:Int)(q:Bool)(W:World):Prop where
 nm:W.heap[B]? =some (.cells #[.string s] 9 (0,0))
 res:W.heap[B+1]? =some (.cells #[.int .i64 m] 3 (0,0))
 ok:W.heap[B+2]? =some (.cells #[.bool q] 4 (0,0))
 size:B+4<=W.heap.size
theorem mJ.own{B:Nat}{s:ByteArray}{m:Int}{q:Bool}{X Y:World}{row:Option Nat}(h:mJ B s m q X)(hg:X.grownBy Y row)(hr:∀r,row=some r->∃o:Obj,X.heap[r]? =some o/\o.isCells=false):mJ B s m q Y:=
 ⟨(grownBy_keeps_cells hg hr h.nm rfl).trans h.nm,(grownBy_keeps_cells hg hr h.res rfl).trans h.res,(grownBy_keeps_cells hg hr h.ok rfl).trans h.ok,Nat.le_trans h.size hg.size⟩
theorem mJ.alloc{B:Nat}{s:ByteArray}{m:Int}{q:Bool}{X:World}(h:mJ B s m q X)(o:Obj):mJ B s m q (X.alloc o):=h.own (World.grownBy_alloc X o none) (fun r e=>by cases e)
def Si(B:Nat)(s:ByteArray)(L:List (ByteArray × Int))(w:World)(c:Code)(pre:List (Fin L.length))(W:World):Prop:=
 (c= .ret/\∃ini i,pre=ini++[i]/\(∀j∈ini,bdN L j.1≠s)/\bdN L i.1=s/\mJ B s (bdD L i.1) true W)/\Below w.heap.size w W
theorem I5(s:ByteArray)(L:List (ByteArray × Int))(v:Value)(w:World)(h:aR w v L)(hs:df s.toList≠0):Calls prog 150 #[.string s,v] w (LkP L s w):=by
 obtain⟨-,a,cap,rfl,-⟩:=h;have HF:Hid (lZ L s=(df s.toList,true)):=yq (by unfold lZ;rw [if_pos hs]);have HI:Hid (∀w,Calls prog 99 #[.string s] w fun e w'=>e= .returned (.tuple #[.int .i64 (df s.toList),.bool true])/\w=w'):=yq (fun w=>(oM s w).mono (by rintro e w' ⟨rfl,rfl⟩;rw [decide_eq_true hs];exact⟨rfl,rfl⟩));clear hs;generalize df s.toList=D at *
 go_enter func150,ntmps150
 go_wp2_with (go_at_call 99;refine gw (HI.out _) ?_)
 go_returns
 unfold LkP;rw [HF.out];exact⟨rfl,.of_below af⟩
theorem IZ(s:ByteArray)(L:List (ByteArray × Int))(v:Value)(w:World)(h:aR w v L)(hs:df s.toList=0):Calls prog 150 #[.string s,v] w (LkP L s w):=by
 have HV:=yq h;obtain⟨-,a,cap,rfl,-⟩:=h;have HS:Hid (lZ L s=match gF L s with|some m=>(m,true)|none=>(0,false)):=yq (by unfold lZ;rw [if_neg zb]);have HI:Hid (∀w,Calls prog 99 #[.string s] w fun e w'=>e= .returned (.tuple #[.int .i64 0,.bool false])/\w=w'):=yq (fun w=>(oM s w).mono (by rintro e w' ⟨rfl,rfl⟩;rw [hs];exact⟨rfl,rfl⟩));clear hs;refine(callsIn_wide (n:=6)).1 ?_;refine callsIn_of_wp_marks func150 rfl trivial ?_ rfl;simp only [ntmps150,size_toArray,length_cons,length_nil,Nat.reduceAdd,Nat.reduceSub,Array.replicate_succ,Array.replicate_zero,push_toArray,append_toArray,nil_append,cons_append]
 gi_wp2_with (first
  |(refine⟨trivial, ?_⟩;gi_at_call 99;refine(callsIn_wide.2 (HI.out _)).mono ?_;rintro e w' ⟨rfl,rfl⟩)
  |(refine⟨trivial, ?_⟩;gi_at_call 190;refine(Nh Fence.wide _ trivial rfl _ _ _ _).mono ?_;rintro e w' ⟨rfl,rfl⟩))
 obtain⟨W0,hW0⟩:∃W0,(((w.alloc (.cells #[.string s] 9)).alloc (.cells #[.int .i64 0] 3)).alloc (.cells #[.bool false] 4)).alloc (.cells #[.slice a L.length cap] 52)=W0:=⟨_,rfl⟩;have hsz:W0.heap.size=w.heap.size+4:=by rw [<-hW0];simp
 have hB0:Below w.heap.size w W0:=by rw [<-hW0];(exact af)
 have hm0:mJ w.heap.size s 0 false W0:=by rw [<-hW0];exact⟨by(repeat(first|(rw [aB,if_pos zz];done)|(rw [aB,if_neg zg])|(rw [aB,if_neg zz]))),by(repeat(first|(rw [aB,if_pos zz];done)|(rw [aB,if_neg zg])|(rw [aB,if_neg zz]))),by(repeat(first|(rw [aB,if_pos zz];done)|(rw [aB,if_neg zg])|(rw [aB,if_neg zz]))),by simp⟩
 have hbk:W0.cell? ⟨w.heap.size+3,0,none⟩=some (.slice a L.length cap):=by rw [<-hW0,World.cell?_alloc_at _ _ _ _ zd];rfl
 rw [hW0];clear hW0;have HB0:=yq hB0;have HM0:=yq hm0;have HVW:=yq (HV.out.below (Nat.le_refl _) hB0)
 refine wpIn_rangeFunc_ownH (F:=Fence.wide) rfl zb (gf:=206) (lb:=#[.pointer (some ⟨w.heap.size+3,0,none⟩)]) rfl trivial (enters_of func206 ze rfl)
  (Du Fence.wide 5 trivial rfl zb (w.heap.size+3) W0.heap.size (.slice a L.length cap) L L.length W0 zb (Nat.le_refl _) hbk HVW.out.lies) belowK_t (belowK_b (Nat.le_refl _)) (Below.refl _ _) (fun _=>rfl)
  (fun pre W=>(mJ w.heap.size s 0 false W/\∀j∈pre,bdN L j.1≠s)/\Below w.heap.size w W)
  (Si w.heap.size s L w)
  (OwnFrom.and (Own.from (fun s A B row hs hg hr=>⟨hs.1.own hg hr,hs.2⟩) _) (ownFrom_below (Nat.le_refl _) zb))
  (fun c=>OwnFrom.and (Own.from (fun s A B row hs hg hr=>by obtain⟨h1,ini,i,h2,h3,h5,h4⟩:=hs;exact⟨h1,ini,i,h2,h3,h5,h4.own hg hr⟩) _) (ownFrom_below (Nat.le_refl _) zb))
  ⟨⟨hm0,fun j hj=>by cases hj⟩,hB0⟩
  (fun i a' W=>∃Bx,w.heap.size+3<Bx/\W.heap[Bx]? =some (.cells #[.string (bdN L i.1),.int .i64 (bdD L i.1)] 106 (0,0))/\
   a'= {tmps:=#[.string s,.slice a L.length cap,.pointer (some ⟨w.heap.size,0,none⟩),undef,.pointer (some ⟨w.heap.size+1,0,none⟩),.pointer (some ⟨w.heap.size+1+1,0,none⟩),.int .i64 0,.bool false,undef,.pointer (some ⟨Bx,0,none⟩),.tuple #[.int .i64 0,.bool false],.string s,.tuple #[.int .i64 0,.bool false],.int .i64 0,.bool false,.bool false,undef,.slice a L.length cap,.func (.func 206) #[] #[.pointer (some ⟨w.heap.size+1+1+1,0,none⟩)],.int .i64 ((i.1:Nat):Int),oN.el L i.1,undef,undef,undef,undef,undef,undef],defers:=[]})
  (fun i a' _ X Y row hs hg hr=>by obtain⟨Bx,h1,h2,h3⟩:=hs;exact⟨Bx,h1,(grownBy_keeps_cells hg (fun r e=>(hr r e).2) h2 rfl).trans h2,h3⟩)
  ?assign ?body ?done ?stop
 case assign=>
  rintro l pre i W K ⟨⟨hm,hpre⟩,hB1⟩ hK;unfold oN.el
  gi_wp2
  have hs1:=hm.size;refine hK _ _ ((KeepsOthers.alloc _ _).from _) ((Below.refl _ W).alloc zb _) ⟨⟨hm.alloc _,hpre⟩,hB1.alloc hB1.size _⟩ ⟨W.heap.size,by omega,heap_alloc_new _ _,rfl⟩
 case body=>
  rintro l pre i a' W hl ⟨r,hr⟩ ⟨⟨hm,hpre⟩,hB1⟩ ⟨Bx,hBx,hbx,rfl⟩ hlt;have HM:=yq hm;have HB1:=yq hB1;have HP:=yq hpre;have q0:W.cell? ⟨Bx,0,none⟩=some (.string (bdN L i.1)):=cell_of_row _ _ _ _ _ _ hbx;have q1:W.cell? ⟨Bx,1,none⟩=some (.int .i64 (bdD L i.1)):=cell_of_row _ _ _ _ _ _ hbx;have qn:W.cell? ⟨w.heap.size,0,none⟩=some (.string s):=cell_of_row _ _ _ _ _ _ hm.nm;have r0:W.cell? ⟨w.heap.size+1,0,none⟩=some (.int .i64 0):=cell_of_row _ _ _ _ _ _ hm.res;have rk:W.cell? ⟨w.heap.size+1+1,0,none⟩=some (.bool false):=cell_of_row _ _ _ _ _ _ hm.ok;have rf:∀j,W.frozen? ⟨w.heap.size+1,j,none⟩=false:=fun j=>Joins.unfrozen_of_block hm.res j;have rg:∀j,W.frozen? ⟨w.heap.size+1+1,j,none⟩=false:=fun j=>Joins.unfrozen_of_block hm.ok j;unfold oN.el;generalize hN:bdN L i.1=nk at *;generalize hD:bdD L i.1=dk at *;have HN:=yq hN;have HD:=yq hD;clear hm hpre hB1 hbx hN hD;by_cases he:nk=s
  ·have HE:=yq he;have he2:(nk.toList==s.toList)=true:=by rw [he];simp
   clear he
   gi_wp2
   have hs1:=HM.out.size;have hh:∀k,k≠w.heap.size+1->k≠w.heap.size+2->((W.setCell ⟨w.heap.size+1,0,none⟩ (.int .i64 dk)).setCell ⟨w.heap.size+2,0,none⟩ (.bool true)).heap[k]? =W.heap[k]?:=fun k hk hk2=>(Below.heap_setCell _ _ _ _ hk2).trans (Below.heap_setCell _ _ _ _ hk)
   have key:mJ w.heap.size s dk true ((W.setCell ⟨w.heap.size+1,0,none⟩ (.int .i64 dk)).setCell ⟨w.heap.size+2,0,none⟩ (.bool true)):=by
    exact Ty
   have kf:KeepsFrom W0.heap.size W ((W.setCell ⟨w.heap.size+1,0,none⟩ (.int .i64 dk)).setCell ⟨w.heap.size+2,0,none⟩ (.bool true)):=⟨by simp,fun k o hBk hk _=>by
    rw [hh _ zb zb];exact hk⟩
   have bl:Below w.heap.size w ((W.setCell ⟨w.heap.size+1,0,none⟩ (.int .i64 dk)).setCell ⟨w.heap.size+2,0,none⟩ (.bool true)):=
    (HB1.out.setCell (by show w.heap.size<=w.heap.size+1;omega) _).setCell (by show w.heap.size<=w.heap.size+2;omega) _
   exact⟨kf,⟨rfl,pre,i,rfl,HP.out,by rw [HN.out];exact HE.out,by rw [HD.out];exact key⟩,bl⟩
  ·have HE:=yq he
   have he2:(nk.toList==s.toList)=false:=by
    rw [beq_eq_false_iff_ne];exact fun h=>he (toList_inj h)
   clear he
   gi_wp2
   refine⟨KeepsFrom.refl _ _,Below.refl _ _,⟨⟨HM.out,fun j hj=>?_⟩,HB1.out⟩⟩;rcases mem_append.1 hj with h1|h1
   ·exact HP.out j h1
   ·obtain rfl:j=i:=by simpa using h1
    rw [HN.out];exact HE.out
 case done=>
  rintro D xs W hD rfl ⟨⟨hm,hpre⟩,hB1⟩ hK;have HM:=yq hm;have HB1:=yq hB1;have HP:=yq hpre;have r0:W.cell? ⟨w.heap.size+1,0,none⟩=some (.int .i64 0):=cell_of_row _ _ _ _ _ _ hm.res;have rk:W.cell? ⟨w.heap.size+1+1,0,none⟩=some (.bool false):=cell_of_row _ _ _ _ _ _ hm.ok;have rf:∀j,W.frozen? ⟨w.heap.size+1,j,none⟩=false:=fun j=>Joins.unfrozen_of_block hm.res j;have rg:∀j,W.frozen? ⟨w.heap.size+1+1,j,none⟩=false:=fun j=>Joins.unfrozen_of_block hm.ok j;clear hm hB1 hpre
  gi_wp2
  have hDW:=(Array.getElem?_eq_some_iff.1 hK).1;have hs1:=HM.out.size;have hh:∀k,k≠w.heap.size+1->k≠w.heap.size+2->((W.setCell ⟨w.heap.size+1,0,none⟩ (.int .i64 0)).setCell ⟨w.heap.size+2,0,none⟩ (.bool false)).heap[k]? =W.heap[k]?:=fun k hk hk2=>(Below.heap_setCell _ _ _ _ hk2).trans (Below.heap_setCell _ _ _ _ hk)
  have m2:mJ w.heap.size s 0 false ((W.setCell ⟨w.heap.size+1,0,none⟩ (.int .i64 0)).setCell ⟨w.heap.size+2,0,none⟩ (.bool false)):=by
   exact Ty
  have bl:Below w.heap.size w ((W.setCell ⟨w.heap.size+1,0,none⟩ (.int .i64 0)).setCell ⟨w.heap.size+2,0,none⟩ (.bool false)):=
   (HB1.out.setCell (by show w.heap.size<=w.heap.size+1;omega) _).setCell (by show w.heap.size<=w.heap.size+2;omega) _
  have hK':((W.setCell ⟨w.heap.size+1,0,none⟩ (.int .i64 0)).setCell ⟨w.heap.size+2,0,none⟩ (.bool false)).heap[D]? =some (.deferred (some [])):=by rw [hh _ zb zb];exact hK
  refine⟨by simp,.inl ⟨_,_,rfl,run_takeDeferred hK', ?_⟩⟩;have m3:=m2.own (grownBy_putObj' _ D (.deferred none)) (fun r e=>by cases e;exact⟨_,hK',rfl⟩);have bl3:=bl.trans (belowK_b (w:=w) (Nat.le_refl _) _ D _ (.deferred none) zb hK' rfl rfl);show LeavesInM Fence.wide 6 prog f150 _ _ _ _ (((W.setCell ⟨w.heap.size+1,0,none⟩ (.int .i64 0)).setCell ⟨w.heap.size+2,0,none⟩ (.bool false)).putObj D (.deferred none));generalize(((W.setCell ⟨w.heap.size+1,0,none⟩ (.int .i64 0)).setCell ⟨w.heap.size+2,0,none⟩ (.bool false)).putObj D (.deferred none))=W9 at m3 bl3 ⊢;have e0:W9.cell? ⟨w.heap.size+1,0,none⟩=some (.int .i64 0):=cell_of_row _ _ _ _ _ _ m3.res;have ek:W9.cell? ⟨w.heap.size+1+1,0,none⟩=some (.bool false):=cell_of_row _ _ _ _ _ _ m3.ok;have hn:gF L s=none:=uy L s (ByteArray.empty,0) fun j hj=>HP.out ⟨j,hj⟩ (xS _ zd);refine⟨.tuple #[.int .i64 0,.bool false], ?_, ?_,.of_below bl3⟩
  ·simp [results,f150,go_sem,e0,ek]
  ·rw [HS.out,hn]
 case stop=>
  rintro D c pre W hD ⟨k,hk,rfl⟩ ⟨⟨rfl,ini,i,hin,hini,hsi,hm1⟩,hB1⟩ hK;have hm:=hm1.own (grownBy_putObj' W D (.deferred none)) (fun r e=>by cases e;exact⟨_,hK,rfl⟩);have bl3:=hB1.trans (belowK_b (w:=w) (Nat.le_refl _) W D _ (.deferred none) zb hK rfl rfl)
  gi_wp2
  refine⟨by simp,.inl ⟨_,_,rfl,run_takeDeferred hK, ?_⟩⟩;generalize W.putObj D (.deferred none)=W9 at hm bl3 ⊢;have e0:W9.cell? ⟨w.heap.size+1,0,none⟩=some (.int .i64 (bdD L i.1)):=cell_of_row _ _ _ _ _ _ hm.res;have ek:W9.cell? ⟨w.heap.size+1+1,0,none⟩=some (.bool true):=cell_of_row _ _ _ _ _ _ hm.ok;have hii:L.length-1-k<L.length:=by omega
  rw [oH _ _ ⟨L.length-1-k,hii⟩ hk rfl]at hin;obtain⟨h1,h2⟩:=append_inj' hin rfl;subst h1;obtain rfl:(⟨L.length-1-k,hii⟩:Fin L.length)=i:=by simpa using h2
  have hn:gF L s=some (bdD L (L.length-1-k)):=uu L s (L.length-1-k) (ByteArray.empty,0) hii hsi fun j hj hjl=>hini ⟨j,hjl⟩ (xS _ zg);refine⟨.tuple #[.int .i64 (bdD L (L.length-1-k)),.bool true], ?_, ?_,.of_below bl3⟩
  ·simp [results,f150,go_sem,e0,ek]
  ·rw [HS.out,hn]
theorem Ew(s:ByteArray)(L:List (ByteArray × Int))(v:Value)(w:World)(h:aR w v L):Calls prog 150 #[.string s,v] w (LkP L s w):=by
 by_cases hs:df s.toList=0
 ·exact IZ s L v w h hs
 ·exact I5 s L v w h hs
open Go.RowKit
def gq(r:Int × Int)(w:World)(e:Ending)(w':World):Prop:=e= .returned (.tuple #[.int .i64 r.1,.int .i64 r.2])/\w.Grows w'
theorem kC{r:Int × Int}{a b:Int}{w w':World}(h:r=(a,b))(hg:w.Grows w'):gq r w (.returned (.tuple #[.int .i64 a,.int .i64 b])) w':=by subst h;exact⟨rfl,hg⟩
theorem jH{l:List Ex}(h:aC l=true)(k:Nat)(hk:k<l.length):ay (l.getD k default)=true:=by
 by_cases hf:ay (l.getD k default)=true
 ·exact hf
 ·rw [rF l k hk (by simpa using hf)]at h;cases h
theorem xD{e:Ex}(h:ay e=true)(h1:¬e.op=1)(h2:¬e.op=2)(h3:¬e.op=3):(e.args.length:Int)=aJ e.op/\4<=e.op/\e.op<=21/\aC e.args=true:=by
 rw [dh,Bool.and_eq_true,decide_eq_true_eq,if_neg h1,if_neg h2,if_neg h3,Bool.and_eq_true]at h;have hop:4<=e.op/\e.op<=21:=by have ha:=h.1;unfold aJ at ha;(repeat' split at ha)<;>omega
 exact⟨h.1,hop.1,hop.2,h.2.1⟩
abbrev Cv(env:List (ByteArray × Int))(e:Ex):Int:=(az env e).1
abbrev rX(env:List (ByteArray × Int))(e:Ex):Int:=(az env e).2
abbrev gM(env:List (ByteArray × Int))(e:Ex)(k:Nat):List Int:=(e.args.take k).map (Cv env)
theorem uO(env:List (ByteArray × Int))(e:Ex)(k:Nat)(hk:k<e.args.length):gM env e (k+1)=gM env e k++[Cv env (e.arg k)]:=by
 unfold gM;rw [take_succ_eq_append_getElem hk,map_append]
 congr 1
 show [Cv env e.args[k]]= [Cv env (e.args.getD k default)];rw [getD_eq_getElem?_getD,getElem?_eq_getElem hk];rfl
theorem Mf(env:List (ByteArray × Int))(e:Ex)(h1:¬e.op=1)(h2:¬e.op=2)(h3:¬e.op=3)(hok:∀j,j<e.args.length->rX env (e.arg j)=0) :
 az env e=if ag e.op (gM env e e.args.length)=0 then(0,6)else(ag e.op (gM env e e.args.length),0):=by
 rw [gV,xm env e.args hok];unfold fo gM;rw [if_neg h1,if_neg h3,if_neg h2,if_neg zd,take_length]
theorem Gt(env:List (ByteArray × Int))(e:Ex)(h1:¬e.op=1)(h2:¬e.op=2)(h3:¬e.op=3)(k:Nat)(hk:k<e.args.length)(hj:∀j,j<k->rX env (e.arg j)=0)(hb:rX env (e.arg k)≠0):az env e=(0,rX env (e.arg k)):=by
 have:=uE env e.args k hk hj hb;rw [gV];unfold fo;have hb2:(aW env e.args).2≠0:=by rw [this];exact hb
 rw [if_neg h1,if_neg h3,if_neg h2,if_pos hb2,this];rfl
theorem lU{w:World}{base:Nat}{e:TypeId}{size:Nat}{v:Value}{n:Nat}{xs:List Value}(h:w.ownsRow base e size v n xs){w':World}(hg:w.Grows w'):w'.ownsRow base e size v n xs:=
 gu h fun k _ hk=>hg.below.block k hk
theorem QK:(prog.info? 3).map (fun i=>(i.zero,i.size,i.bytes))=some (some (.int .i64 0),1,8):=by kernel_rfl
theorem mf(env:List (ByteArray × Int))(e:Ex)(a:Option Addr)(cap:Nat)(ve:Value)(w:World)(hv:aR w ve env)(ho:e.op=1\/e.op=2\/e.op=3):(Calls prog 104 #[exV e (.slice a e.args.length cap),ve] w (gq (az env e) w)):=by
 have HV:=yq hv;obtain⟨-,ae,ce,rfl,-⟩:=hv;have HF:=yq (gV env e);unfold fo at HF;have HL:=yq (Cf env e.name);have HC:Hid (∀w',w.Grows w'->Calls prog 150 #[.string e.name,.slice ae env.length ce] w' (LkP env e.name w')):=yq (fun w' hg=>Ew e.name env _ w' (HV.out.grows hg));unfold LkP at HC;rcases ho with ho|ho|ho
 ·go_enter func104,ntmps104
  go_wp2_with fail
  go_returns
  exact kC (by rw [HF.out,if_pos ho]) (.of_below af)
 ·cases hb:(lZ env e.name).2
  all_goals
   rw [hb]at HC;have HB:=yq hb;clear hb;generalize hm:(lZ env e.name).1=m at HC;have HM:=yq hm;clear hm
   go_enter func104,ntmps104
   go_wp2_with (go_at_call 150;refine gv (HC.out _ (.of_below af)) ?_;intro bs d)
   go_returns
   exact kC (by rw [HF.out,if_neg zb,if_neg zb,if_pos ho,HL.out,HB.out];first|(rw [if_pos rfl,HM.out];done)|(rw [if_neg zd];done)) (.of_below af)
 ·go_enter func104,ntmps104
  exact SQ
theorem Cu(S:Nat->Prop)(env:List (ByteArray × Int))(hE:gI env=true)(n:Nat):∀(e:Ex),e.size<=n->ay e=true->∀(v ve:Value) (w:World),ax S w e v->aR w ve env->
 Calls prog 104 #[exV e v,ve] w (gq (az env e) w):=by
 induction n with
 |zero=>intro e he;have:=e.size_pos;omega
 |succ n ih=>
  intro e he hf v ve w h hv;have HR:=yq h;have HV:=yq hv;have hrng:=h.rng;obtain⟨a,cap,rfl⟩:=h.form0;by_cases h1:e.op=1
  ·exact mf env e a cap ve w hv (.inl h1)
  by_cases h2:e.op=2
  ·exact mf env e a cap ve w hv (.inr (.inl h2))
  by_cases h3:e.op=3
  ·exact mf env e a cap ve w hv (.inr (.inr h3))
  obtain⟨hal,ho4,ho21,hfs⟩:=xD hf h1 h2 h3;have hn3:e.args.length<=3/\1<=e.args.length:=by unfold aJ at hal;(repeat' split at hal)<;>omega
  have HOK:=yq (Mf env e h1 h2 h3);have HBAD:=yq (Gt env e h1 h2 h3);have HOP:=yq (And.intro hal (And.intro ho4 ho21))
  have IH:Hid (∀k,k<e.args.length->∀ak ck w',w.Grows w'->ax S w' (e.arg k) (.slice ak (e.arg k).args.length ck)->Calls prog 104 #[exV (e.arg k) (.slice ak (e.arg k).args.length ck),ve] w' (gq (az env (e.arg k)) w')):=
   yq (fun k hk ak ck w' hg hr=>by
    have hsm:=e.size_arg k hk
    exact ih (e.arg k) zb (jH hfs k hk) _ ve w' hr (HV.out.grows hg))
  have HDM:Hid (∀k,k<e.args.length->rX env (e.arg k)=0->1<=Cv env (e.arg k)):=yq (fun k hk hc=>(qE hE (e.arg k) (jH hfs k hk) hc).1);unfold gq at IH;obtain⟨-,ae,ce,rfl,-⟩:=hv;have p1:(e.op==1)=false:=by simpa using h1
  have p2:(e.op==2)=false:=by simpa using h2
  have p3:(e.op==3)=false:=by simpa using h3
  clear h ih hE hf hfs hal ho4 ho21 he h1 h2 h3;obtain⟨i0,hi,hz0,hz1,hz2⟩:=info_parts QK
  go_enter func104,ntmps104
  go_wp2_with fail
  go_loopw [8,38] (fun v8 v38 wr=>∃k:Nat,k<=e.args.length/\v38= .int .i64 k/\Hid (∀j,j<k->rX env (e.arg j)=0)/\Below (w.heap.size+1) (w.alloc (.cells #[.int .i64 e.op,.int .i64 e.num,.int .i64 e.den,.int .i64 e.dim,.string e.name,.slice a e.args.length cap] 27)) wr/\wr.ownsRow (w.heap.size+1) 3 1 v8 k ((gM env e k).map (Value.int .i64))) (fun _ v38 _=>e.args.length-(intOf v38).toNat)
  case atStart=>exact⟨0,by omega,rfl,yq (fun j hj=>by omega),.refl _ _,World.ownsRow_nil _ _ _ _⟩
  case round=>
   obtain⟨k,hk,rfl,hno,hB,hown⟩:=hrel;have hsW:w.heap.size+1<=wr.heap.size:=by have:=hB.size;simpa using this
   have hbox:wr.cell? ⟨w.heap.size,0,none⟩=some (.int .i64 e.op):=by
    rw [hB.cell (p:=⟨w.heap.size,0,none⟩) zd,World.cell?_alloc_at _ _ _ _ rfl];rfl
   have hG:w.Grows wr:=.of_below ((((Below.refl _ _).alloc (Nat.le_refl _) _)).trans (hB.mono zb));have HB:=yq hB;have HO:=yq hown;have HG:=yq hG;by_cases hlt:k<e.args.length
   ·have hRk:=HR.out.grows hG
    cases hRk with
    |mk _ _ _ vs hr hc hs=>
     rcases hc with h0|⟨b,off,rfl,-,hbw,hx⟩
     ·omega
     ·have hR:=hs k hlt;obtain⟨x0,x1,x2,x3,x4,x5⟩:=hx k hlt;obtain⟨ak,ck,hvk⟩:=hR.form0;rw [hvk]at x5 hR;have HRK:=yq hR;have hcall:=fun w' hg hg2=>IH.out k hlt ak ck w' hg (HRK.out.grows hg2);have HNX:=yq (uO env e k hlt);have HKL:=yq hlt;have HBK:=yq (fun hj hb=>HBAD.out k hlt hj hb);have d1:(k:Int)<(e.args.length:Int):=by omega
      clear hx hs hr hvk hG hB hown hR;unfold exV at hcall;obtain⟨x,hxe⟩:∃x,e.arg k=x:=⟨_,rfl⟩;rw [hxe]at hcall x0 x1 x2 x3 x4 x5 HNX HBK;have HXE:=yq hxe;clear hxe;have HCL:=yq hcall;clear hcall;obtain⟨q,hq⟩:∃q,az env x=q:=⟨_,rfl⟩;unfold rX at HBK;unfold Cv at HNX;rw [hq]at HCL HBK HNX;have HQ:=yq hq;clear hq;obtain⟨qd,qc⟩:=q;dsimp only at HCL HBK HNX;by_cases hqc:qc=0
      ·subst hqc
       go_wp2_with (first
        |(go_at_call 104;refine gv (HCL.out _ (World.Grows.trans HG.out (.of_below af)) (.of_below af)) ?_;intro bs d)
        |(at_builtin;refine wpList_append_own _ rfl _ _ 22 rfl (w.heap.size+1) 3 i0 (.int .i64 0) 1 8 underlying22 hi hz0 hz1 hz2 rfl zf _ _ _ rfl ((lU (HO.out.alloc _) ⟨bs,d,rfl⟩).alloc _) ⟨wr.heap.size+1+bs.size,0,none⟩ 1 1 [.int .i64 qd] rfl rfl ?c1 ?c2 ?c3 ?c4 ?c5 ?_))
       case c1=>exact news_cells _ [.int .i64 qd] _ _ zd
       case c2=>intro u hu;simp at hu;subst hu;rfl
       case c3=>unfold maxLen;omega
       case c4=>omega
       case c5=>simp;omega
       intro v' w1 hown' hgrow _;have HB1:=yq ((show Below (w.heap.size+1) (w.alloc (.cells #[.int .i64 e.op,.int .i64 e.num,.int .i64 e.den,.int .i64 e.dim,.string e.name,.slice (some ⟨b,off,none⟩) e.args.length cap] 27)) _ from by have:=HB.out;(exact af)).grown hgrow zg (fun k hk=>(HO.out.lt k hk).1));have HO1:=yq hown';clear hown' hgrow
       go_wp2_with fail
       go_roundw
       case rel=>exact⟨k+1,HKL.out,by go_num,yq (fun j hj=>by
        by_cases ej:j=k
        ·subst ej;unfold rX;rw [HXE.out,HQ.out]
        ·exact hno.out j zb),HB1.out,by rw [HNX.out,map_append];simpa [gM]using HO1.out⟩
       case measure=>simp [intOf];have:=HKL.out;omega
      ·have hq1:(qc !=0)=true:=by simpa using hqc
       have HQC:=yq hqc;clear hqc
       go_wp2_with (go_at_call 104;refine gv (HCL.out _ (World.Grows.trans HG.out (.of_below af)) (.of_below af)) ?_;intro bs d)
       go_returns
       exact kC (HBK.out hno.out HQC.out) (World.Grows.trans HG.out (.of_below af))
   ·obtain rfl:k=e.args.length:=by omega
    have hd:=HOK.out hno.out;have hdl:(gM env e e.args.length).length=e.args.length:=by simp [gM]
    obtain⟨-,⟨_,h0⟩|⟨g,gc,cu,rfl,hbg,-⟩⟩:=hown
    ·omega
    have hres:=Lf e.op (gM env e e.args.length) (w.heap.size+1) g gc wr HOP.out.2.1 HOP.out.2.2 (by rw [hdl];exact HOP.out.1) (fun y hy=>by
     obtain⟨t,ht,rfl⟩:=mem_map.1 hy;rw [take_length]at ht;obtain⟨j,hj,rfl⟩:=mem_iff_getElem.1 ht;have:=HDM.out j hj (hno.out j hj);unfold Ex.arg at this;rw [getD_eq_getElem?_getD,getElem?_eq_getElem hj]at this
     exact this) (by rw [hdl];exact HO.out)
    rw [hdl]at hres;obtain⟨R,hR⟩:∃R,ag e.op (gM env e e.args.length)=R:=⟨_,rfl⟩;rw [hR]at hres hd;have HD:=yq hd;unfold fD at hres;clear hB hG hR hd hdl;by_cases hR0:R=0
    ·subst hR0;have HRS:=yq hres;clear hres
     go_wp2_with (go_at_call 151;refine(HRS.out).mono ?_;rintro e' w' ⟨⟨m,rfl,-⟩,bs,d,rfl⟩)
     go_returns
     exact kC (by rw [HD.out];simp) (World.Grows.trans HG.out (.of_below af))
    ·rw [decide_eq_true hR0]at hres;have HRS:=yq hres;have HR0:=yq hR0;clear hres hR0
     go_wp2_with (go_at_call 151;refine(HRS.out).mono ?_;rintro e' w' ⟨⟨m,rfl,hm⟩,bs,d,rfl⟩;obtain rfl:=hm HR0.out;clear hm)
     go_returns
     exact kC (by rw [HD.out,if_neg HR0.out]) (World.Grows.trans HG.out (.of_below af))
theorem Di(l:List (ByteArray × Int)):(List.range l.length).any (fun k=>!decide (1<=bdD l k/\bdD l k<=4))=!gI l:=by
 induction l with
 |nil=>rfl
 |cons p r ih=>
  rw [length_cons,range_succ_eq_map,any_cons,any_map];unfold gI at ih ⊢;rw [all_cons,Bool.not_and,<-ih];rfl
theorem kJ{e:Ex}(h:bB e=true):ay e=true:=by
 unfold bB at h;simp only [Bool.and_eq_true]at h;first|exact h.2|exact h.1.2|exact h.1
theorem nz{env:List (ByteArray × Int)}{e:Ex}(h:bB e=false\/gI env=false):aQ env e=(0,1):=by
 unfold aQ;rw [if_neg];rintro⟨h1,h2⟩;rcases h with h|h
 ·rw [h]at h1;cases h1
 ·rw [h]at h2;cases h2
theorem uF{env:List (ByteArray × Int)}{e:Ex}(h1:bB e=true)(h2:gI env=true):aQ env e=az env e:=by
 unfold aQ;rw [if_pos ⟨h1,h2⟩]
theorem NC(S:Nat->Prop)(env:List (ByteArray × Int))(e:Ex)(v ve:Value)(w:World)(h:ax S w e v)(hbig:e.size<=2305843009213693952)(ht:Tab w)(hv:aR w ve env)(hx:Hid (OkX e)) :
 Calls prog 46 #[exV e v,ve] w (gq (aQ env e) w):=by
 have HR:=yq h;have HV:=yq hv;have HT:=yq ht;have hrng:=h.rng;obtain⟨a,cap,rfl⟩:=h.form0
 have HVE:Hid (∀w',w.Grows w'->Calls prog 35 #[exV e (.slice a e.args.length cap)] w' fun r w''=>r= .returned (.bool (bB e))/\w'.Grows w''):=
  yq (fun w' hg=>p8 S e _ w' (yq (HR.out.grows hg)) (yq hbig) (yq (HT.out.grows hg)) hx)
 have HCB:Hid (∀w',w.Grows w'->Calls prog 101 #[ve,.func (.func 103) #[] #[]] w' fun r w''=>r= .returned (.bool (!gI env))/\w'.Grows w''):=
  yq (fun w' hg=>by
   have:=nP 103 #[] J4 env ve (fun k=>!decide (1<=bdD env k/\bdD env k<=4)) w' (HV.out.grows hg) (yq (fun k hk w2 h2=>Ng _ _ w2));rw [Di]at this
   exact this)
 obtain⟨-,ae,ce,rfl,-⟩:=hv;unfold exV at HVE
 cases hve:bB e with
 |false=>
  have HF:=yq (nz (env:=env) (.inl hve));rw [hve]at HVE;clear h ht hve
  go_enter func46,ntmps46
  go_wp2_with (go_at_call 35;refine gv (HVE.out _ (.of_below af)) ?_;intro bs d)
  go_returns
  exact kC HF.out (.of_below af)
 |true=>
  rw [hve]at HVE
  cases hde:gI env with
  |false=>
   have HF:=yq (nz (e:=e) (.inr hde));rw [hde]at HCB;clear h ht hve hde
   go_enter func46,ntmps46
   go_wp2_with (first
    |(go_at_call 35;refine gv (HVE.out _ (.of_below af)) ?_;intro bs d)
    |(go_at_call 101;refine gv (HCB.out _ (.of_below af)) ?_;intro bs2 d2))
   go_returns
   exact kC HF.out (.of_below af)
  |true=>
   have HF:=yq (uF hve hde);rw [hde]at HCB
   have HI:Hid (∀w',w.Grows w'->Calls prog 104 #[exV e (.slice a e.args.length cap),.slice ae env.length ce] w' (gq (az env e) w')):=
    yq (fun w' hg=>Cu S env hde e.size e (Nat.le_refl _) (kJ hve) _ _ w' (HR.out.grows hg) (HV.out.grows hg))
   unfold gq exV at HI;clear h ht hve hde;rw [HF.out];generalize az env e=q at *
   go_enter func46,ntmps46
   go_wp2_with (first
    |(go_at_call 35;refine gv (HVE.out _ (.of_below af)) ?_;intro bs d)
    |(go_at_call 101;refine gv (HCB.out _ (.of_below af)) ?_;intro bs2 d2)
    |(go_at_call 104;refine gv (HI.out _ (.of_below af)) ?_;intro bs3 d3))
   go_returns
   exact kC rfl (.of_below af)
theorem rE(env:List (ByteArray × Int))(e:Ex)(a:Option Addr)(cap:Nat)(ve:Value)(w:World)(hv:aR w ve env)(ho:e.op=1\/e.op=3):(Calls prog 61 #[exV e (.slice a e.args.length cap),ve] w (gq (az env e) w)):=by
 obtain⟨-,ae,ce,rfl,-⟩:=hv;have HF:=yq (gV env e);unfold fo at HF;rcases ho with ho|ho
 ·go_enter func61,ntmps61
  go_wp2_with fail
  go_returns
  exact kC (by rw [HF.out,if_pos ho]) (.of_below af)
 ·go_enter func61,ntmps61
  exact SQ
theorem Ct(env:List (ByteArray × Int))(e:Ex)(a:Option Addr)(cap:Nat)(ve:Value)(w:World)(hv:aR w ve env)(ho:e.op=2):(Calls prog 61 #[exV e (.slice a e.args.length cap),ve] w (gq (az env e) w)):=by
 have HV:=yq hv;obtain⟨hl1000,ae,ce,rfl,-⟩:=hv;have HF:Hid (az env e=fB env e.name):=yq (by rw [gV];unfold fo;rw [if_neg zb,if_neg zb,if_pos ho]);have HI:=yq (jv e.name);unfold fB at HF;have p1:(e.op==1)=false:=by rw [ho];rfl
 have p2:(e.op==2)=true:=by rw [ho];rfl
 have p3:(e.op==3)=false:=by rw [ho];rfl
 clear ho;by_cases hd:df e.name.toList=0
 ·rw [if_neg zb]at HF;rw [hd]at HI;clear hd
  go_enter func61,ntmps61
  go_wp2_with (go_at_call 43;refine gw (HI.out _) ?_)
  go_loopw [8] (fun v8 wr=>∃k:Nat,k<=env.length/\v8= .int .i64 ((env.length:Int)-1-k)/\Hid (∀j,j<env.length->env.length<=j+k->bdN env j≠e.name)/\Below (w.heap.size+1) ((w.alloc (.cells #[.int .i64 e.op,.int .i64 e.num,.int .i64 e.den,.int .i64 e.dim,.string e.name,.slice a e.args.length cap] 27))) wr) (fun v8 _=>(intOf v8+1).toNat)
  case atStart=>exact⟨0,by omega,by simp,yq (fun j hj _=>by omega),.refl _ _⟩
  case round=>
   obtain⟨k,hk,rfl,hno,hB⟩:=hrel;have HB:=yq hB;have hG:w.Grows wr:=.of_below ((((Below.refl _ _).alloc (Nat.le_refl _) _)).trans (hB.mono zb));have HG:=yq hG
   have hbox:wr.cell? ⟨w.heap.size,4,none⟩=some (.string e.name):=by
    rw [hB.cell (p:=⟨w.heap.size,4,none⟩) zd,World.cell?_alloc_at _ _ _ _ rfl];rfl
   by_cases hlt:k<env.length
   ·obtain⟨-,a',c',hvv,hx⟩:=HV.out.grows hG;simp only [Value.slice.injEq,true_and]at hvv;obtain⟨rfl,rfl⟩:=hvv;rcases hx with h0|⟨b,off,rfl,hbw,hx⟩
    ·omega
    obtain⟨i,hi⟩:∃i:Nat,(env.length:Int)-1-k=i:=⟨env.length-1-k,by omega⟩;have hii:i<env.length:=by omega
    obtain⟨x0,x1⟩:=hx i hii;have d1:(i:Int)<(env.length:Int):=by omega
    have d0:(0:Int)<=(i:Int):=by omega
    rw [hi];have HIX:=yq (And.intro hi (And.intro hii hlt));have HSM:=yq (fun he hl=>uu env e.name i (ByteArray.empty,0) hii he hl);clear hx hi hii hlt hB hG;obtain⟨nk,hnk⟩:∃nk,bdN env i=nk:=⟨_,rfl⟩;obtain⟨dk,hdk⟩:∃dk,bdD env i=dk:=⟨_,rfl⟩;rw [hnk]at x0;rw [hdk]at x1;have HNK:=yq hnk;have HDK:=yq hdk;clear hnk hdk;by_cases he:nk=e.name
    ·have he2:(nk.toList==e.name.toList)=true:=by rw [he];simp
     have HE:=yq he;clear he
     go_wp2_with fail
     go_region
     go_wp2_with fail
     go_returns
     exact kC (by
      have:=HSM.out (by show bdN env i=e.name;rw [HNK.out];exact HE.out) (fun j h1 h2=>hno.out j h2 (by have:=HIX.out.1;omega));rw [HF.out,this];show(bdD env i,(0:Int))=_
      rw [HDK.out]) (World.Grows.trans HG.out (.of_below af))
    ·have he2:(nk.toList==e.name.toList)=false:=by
      rw [beq_eq_false_iff_ne];exact fun h=>he (toList_inj h)
     have HE:=yq he;clear he
     go_wp2_with fail
     go_region
     go_wp2_with fail
     go_roundw
     case rel=>exact⟨k+1,HIX.out.2.2,by have:=HIX.out.1;first|(congr 1;omega)|(simp;omega),yq (fun j hj hjk=>by
      by_cases ej:j=i
      ·subst ej;rw [HNK.out];exact HE.out
      ·exact hno.out j hj (by have:=HIX.out.1;omega)),by have:=HB.out;(exact af)⟩
     case measure=>first|(simp [intOf];done)|(simp [intOf];have:=HIX.out.2.2;omega)|(simp [intOf];have:=HIX.out.1;omega)
   ·obtain rfl:k=env.length:=by omega
    have hz:(env.length:Int)-1-env.length= -1:=by omega
    rw [hz];clear hz hB hG
    go_wp2_with fail
    go_returns
    exact kC (by
     have:=uy env e.name (ByteArray.empty,0) (fun j hj=>hno.out j hj zb)
     rw [HF.out,this]) (World.Grows.trans HG.out (.of_below af))
 ·rw [if_pos hd]at HF;rw [decide_eq_true hd]at HI;clear hd;generalize df e.name.toList=D at *
  go_enter func61,ntmps61
  go_wp2_with (go_at_call 43;refine gw (HI.out _) ?_)
  go_returns
  exact kC HF.out (.of_below af)
theorem Cs(S:Nat->Prop)(env:List (ByteArray × Int))(hE:gI env=true)(n:Nat):∀(e:Ex),e.size<=n->ay e=true->∀(v ve:Value) (w:World),ax S w e v->aR w ve env->
 Calls prog 61 #[exV e v,ve] w (gq (az env e) w):=by
 induction n with
 |zero=>intro e he;have:=e.size_pos;omega
 |succ n ih=>
  intro e he hf v ve w h hv;have HR:=yq h;have HV:=yq hv;have hrng:=h.rng;obtain⟨a,cap,rfl⟩:=h.form0;by_cases h1:e.op=1
  ·exact rE env e a cap ve w hv (.inl h1)
  by_cases h2:e.op=2
  ·exact Ct env e a cap ve w hv h2
  by_cases h3:e.op=3
  ·exact rE env e a cap ve w hv (.inr h3)
  obtain⟨hal,ho4,ho21,hfs⟩:=xD hf h1 h2 h3;have hn3:e.args.length<=3/\1<=e.args.length:=by unfold aJ at hal;(repeat' split at hal)<;>omega
  have HOK:=yq (Mf env e h1 h2 h3);have HBAD:=yq (Gt env e h1 h2 h3);have HOP:=yq (And.intro hal (And.intro ho4 ho21))
  have IH:Hid (∀k,k<e.args.length->∀ak ck w',w.Grows w'->ax S w' (e.arg k) (.slice ak (e.arg k).args.length ck)->Calls prog 61 #[exV (e.arg k) (.slice ak (e.arg k).args.length ck),ve] w' (gq (az env (e.arg k)) w')):=
   yq (fun k hk ak ck w' hg hr=>by
    have hsm:=e.size_arg k hk
    exact ih (e.arg k) zb (jH hfs k hk) _ ve w' hr (HV.out.grows hg))
  have HDM:Hid (∀k,k<e.args.length->rX env (e.arg k)=0->1<=Cv env (e.arg k)):=yq (fun k hk hc=>(qE hE (e.arg k) (jH hfs k hk) hc).1);unfold gq at IH;obtain⟨-,ae,ce,rfl,-⟩:=hv;have p1:(e.op==1)=false:=by simpa using h1
  have p2:(e.op==2)=false:=by simpa using h2
  have p3:(e.op==3)=false:=by simpa using h3
  clear h ih hE hf hfs hal ho4 ho21 he h1 h2 h3;obtain⟨i0,hi,hz0,hz1,hz2⟩:=info_parts QK
  go_enter func61,ntmps61
  go_wp2_with fail
  go_loopw [9,10] (fun v8 v38 wr=>∃k:Nat,k<=e.args.length/\v38= .int .i64 k/\Hid (∀j,j<k->rX env (e.arg j)=0)/\Below (w.heap.size+1) (w.alloc (.cells #[.int .i64 e.op,.int .i64 e.num,.int .i64 e.den,.int .i64 e.dim,.string e.name,.slice a e.args.length cap] 27)) wr/\wr.ownsRow (w.heap.size+1) 3 1 v8 k ((gM env e k).map (Value.int .i64))) (fun _ v38 _=>e.args.length-(intOf v38).toNat)
  case atStart=>exact⟨0,by omega,rfl,yq (fun j hj=>by omega),.refl _ _,World.ownsRow_nil _ _ _ _⟩
  case round=>
   obtain⟨k,hk,rfl,hno,hB,hown⟩:=hrel;have hsW:w.heap.size+1<=wr.heap.size:=by have:=hB.size;simpa using this
   have hbox:wr.cell? ⟨w.heap.size,0,none⟩=some (.int .i64 e.op):=by
    rw [hB.cell (p:=⟨w.heap.size,0,none⟩) zd,World.cell?_alloc_at _ _ _ _ rfl];rfl
   have hbox5:wr.cell? ⟨w.heap.size,5,none⟩=some (.slice a e.args.length cap):=by
    rw [hB.cell (p:=⟨w.heap.size,5,none⟩) zd,World.cell?_alloc_at _ _ _ _ rfl];rfl
   have hG:w.Grows wr:=.of_below ((((Below.refl _ _).alloc (Nat.le_refl _) _)).trans (hB.mono zb));have HB:=yq hB;have HO:=yq hown;have HG:=yq hG;by_cases hlt:k<e.args.length
   ·have hRk:=HR.out.grows hG
    cases hRk with
    |mk _ _ _ vs hr hc hs=>
     rcases hc with h0|⟨b,off,rfl,-,hbw,hx⟩
     ·omega
     ·have hR:=hs k hlt;obtain⟨x0,x1,x2,x3,x4,x5⟩:=hx k hlt;obtain⟨ak,ck,hvk⟩:=hR.form0;rw [hvk]at x5 hR;have HRK:=yq hR;have hcall:=fun w' hg hg2=>IH.out k hlt ak ck w' hg (HRK.out.grows hg2);have HNX:=yq (uO env e k hlt);have HKL:=yq hlt;have HBK:=yq (fun hj hb=>HBAD.out k hlt hj hb);have d1:(k:Int)<(e.args.length:Int):=by omega
      clear hx hs hr hvk hG hB hown hR;unfold exV at hcall;obtain⟨x,hxe⟩:∃x,e.arg k=x:=⟨_,rfl⟩;rw [hxe]at hcall x0 x1 x2 x3 x4 x5 HNX HBK;have HXE:=yq hxe;clear hxe;have HCL:=yq hcall;clear hcall;obtain⟨q,hq⟩:∃q,az env x=q:=⟨_,rfl⟩;unfold rX at HBK;unfold Cv at HNX;rw [hq]at HCL HBK HNX;have HQ:=yq hq;clear hq;obtain⟨qd,qc⟩:=q;dsimp only at HCL HBK HNX;by_cases hqc:qc=0
      ·subst hqc
       go_wp2_with (first
        |(go_at_call 61;refine gv (HCL.out _ (World.Grows.trans HG.out (.of_below af)) (.of_below af)) ?_;intro bs d)
        |(at_builtin;refine wpList_append_own _ rfl _ _ 22 rfl (w.heap.size+1) 3 i0 (.int .i64 0) 1 8 underlying22 hi hz0 hz1 hz2 rfl zf _ _ _ rfl ((lU HO.out ⟨bs,d,rfl⟩).alloc _) ⟨wr.heap.size+bs.size,0,none⟩ 1 1 [.int .i64 qd] rfl rfl ?c1 ?c2 ?c3 ?c4 ?c5 ?_))
       case c1=>exact news_cells _ [.int .i64 qd] _ _ zd
       case c2=>intro u hu;simp at hu;subst hu;rfl
       case c3=>unfold maxLen;omega
       case c4=>omega
       case c5=>simp;omega
       intro v' w1 hown' hgrow _;have HB1:=yq ((show Below (w.heap.size+1) (w.alloc (.cells #[.int .i64 e.op,.int .i64 e.num,.int .i64 e.den,.int .i64 e.dim,.string e.name,.slice (some ⟨b,off,none⟩) e.args.length cap] 27)) _ from by have:=HB.out;(exact af)).grown hgrow zg (fun k hk=>(HO.out.lt k hk).1));have HO1:=yq hown';clear hown' hgrow
       go_wp2_with fail
       go_roundw
       case rel=>exact⟨k+1,HKL.out,by go_num,yq (fun j hj=>by
        by_cases ej:j=k
        ·subst ej;unfold rX;rw [HXE.out,HQ.out]
        ·exact hno.out j zb),HB1.out,by rw [HNX.out,map_append];simpa [gM]using HO1.out⟩
       case measure=>simp [intOf];have:=HKL.out;omega
      ·have hq1:(qc !=0)=true:=by simpa using hqc
       have HQC:=yq hqc;clear hqc
       go_wp2_with (go_at_call 61;refine gv (HCL.out _ (World.Grows.trans HG.out (.of_below af)) (.of_below af)) ?_;intro bs d)
       go_returns
       exact kC (HBK.out hno.out HQC.out) (World.Grows.trans HG.out (.of_below af))
   ·obtain rfl:k=e.args.length:=by omega
    have hd:=HOK.out hno.out;have hdl:(gM env e e.args.length).length=e.args.length:=by simp [gM]
    obtain⟨-,⟨_,h0⟩|⟨g,gc,cu,rfl,hbg,-⟩⟩:=hown
    ·omega
    have hres:=KX e.op (gM env e e.args.length) (w.heap.size+1) g gc wr HOP.out.2.1 HOP.out.2.2 (by rw [hdl];exact HOP.out.1) (fun y hy=>by
     obtain⟨t,ht,rfl⟩:=mem_map.1 hy;rw [take_length]at ht;obtain⟨j,hj,rfl⟩:=mem_iff_getElem.1 ht;have:=HDM.out j hj (hno.out j hj);unfold Ex.arg at this;rw [getD_eq_getElem?_getD,getElem?_eq_getElem hj]at this
     exact this) (by rw [hdl];exact HO.out)
    rw [hdl]at hres;obtain⟨R,hR⟩:∃R,ag e.op (gM env e e.args.length)=R:=⟨_,rfl⟩;rw [hR]at hres hd;have HD:=yq hd;unfold eH at hres;clear hB hG hR hd hdl;by_cases hR0:R=0
    ·subst hR0;have HRS:=yq hres;clear hres
     go_wp2_with (go_at_call 90;refine gv (HRS.out) ?_;intro bs d)
     go_returns
     exact kC (by rw [HD.out];simp) (World.Grows.trans HG.out (.of_below af))
    ·have hR1:(R==0)=false:=by simpa using hR0
     have HRS:=yq hres;have HR0:=yq hR0;clear hres hR0
     go_wp2_with (go_at_call 90;refine gv (HRS.out) ?_;intro bs d)
     go_returns
     exact kC (by rw [HD.out,if_neg HR0.out]) (World.Grows.trans HG.out (.of_below af))
theorem vG(S:Nat->Prop)(env:List (ByteArray × Int))(e:Ex)(v ve:Value)(w:World)(h:ax S w e v)(hbig:e.size<=2305843009213693952)(hv:aR w ve env) :
 Calls prog 25 #[exV e v,ve] w (gq (aQ env e) w):=by
 have HR:=yq h;have HV:=yq hv;have hrng:=h.rng;obtain⟨a,cap,rfl⟩:=h.form0
 have HVE:Hid (∀w',w.Grows w'->Calls prog 31 #[exV e (.slice a e.args.length cap)] w' fun r w''=>r= .returned (.bool (bB e))/\w'.Grows w''):=
  yq (fun w' hg=>iw S e _ w' (yq (HR.out.grows hg)) (yq hbig))
 have HDA:=yq (Di env);obtain⟨hl1000,ae,ce,rfl,-⟩:=hv;unfold exV at HVE
 cases hve:bB e with
 |false=>
  have HF:=yq (nz (env:=env) (.inl hve));rw [hve]at HVE;clear h hve
  go_enter func25,ntmps25
  go_wp2_with (go_at_call 31;refine gv (HVE.out _ (.of_below af)) ?_;intro bs d)
  go_returns
  exact kC HF.out (.of_below af)
 |true=>
  rw [hve]at HVE;have HNO:=yq (fun h=>nz (env:=env) (e:=e) (.inr h));have HYES:=yq (fun h=>uF (env:=env) hve h)
  have HI:Hid (gI env=true->∀w',w.Grows w'->Calls prog 61 #[exV e (.slice a e.args.length cap),.slice ae env.length ce] w' (gq (az env e) w')):=
   yq (fun hde w' hg=>Cs S env hde e.size e (Nat.le_refl _) (kJ hve) _ _ w' (HR.out.grows hg) (HV.out.grows hg))
  unfold gq exV at HI;clear h hve
  go_enter func25,ntmps25
  go_wp2_with (go_at_call 31;refine gv (HVE.out _ (.of_below af)) ?_;intro bs d)
  go_loopw [6] (fun v6 wr=>∃k:Nat,k<=env.length/\v6= .int .i64 k/\Hid (∀j,j<k->1<=bdD env j/\bdD env j<=4)/\Below (w.heap.size+1) ((w.alloc (.cells #[.int .i64 e.op,.int .i64 e.num,.int .i64 e.den,.int .i64 e.dim,.string e.name,.slice a e.args.length cap] 27))) wr) (fun v6 _=>env.length-(intOf v6).toNat)
  case atStart=>exact⟨0,by omega,rfl,yq (fun j hj=>by omega),by(exact af)⟩
  case round=>
   obtain⟨k,hk,rfl,hno,hB⟩:=hrel;have HB:=yq hB;have hG:w.Grows wr:=.of_below ((((Below.refl _ _).alloc (Nat.le_refl _) _)).trans (hB.mono zb));have HG:=yq hG;by_cases hlt:k<env.length
   ·obtain⟨-,a',c',hvv,hx⟩:=HV.out.grows hG;simp only [Value.slice.injEq,true_and]at hvv;obtain⟨rfl,rfl⟩:=hvv;rcases hx with h0|⟨b,off,rfl,hbw,hx⟩
    ·omega
    obtain⟨x0,x1⟩:=hx k hlt;have d1:(k:Int)<(env.length:Int):=by omega
    have HKL:=yq hlt;clear hx hB hG hlt;obtain⟨dk,hdk⟩:∃dk,bdD env k=dk:=⟨_,rfl⟩;rw [hdk]at x1;have HDK:=yq hdk;clear hdk;by_cases hc:1<=dk/\dk<=4
    ·obtain⟨hc1,hc2⟩:=hc
     go_wp2_with fail
     go_roundw
     case rel=>exact⟨k+1,HKL.out,by go_num,yq (fun j hj=>by
      by_cases ej:j=k
      ·subst ej;rw [HDK.out];exact⟨hc1,hc2⟩
      ·exact hno.out j zb),by have:=HB.out;(exact af)⟩
     case measure=>simp [intOf];have:=HKL.out;omega
    ·have HC:=yq hc
     have HBAD:Hid (aQ env e=(0,1)):=yq (HNO.out (by
      have:=HDA.out;rw [Bool.eq_false_iff];intro h;rw [h]at this;have h2:=(any_eq_false.1 this) k (mem_range.2 HKL.out);rw [HDK.out,decide_eq_false HC.out]at h2
      simp at h2))
     by_cases h1:dk<1
     ·clear hc
      go_wp2_with fail
      go_returns
      exact kC HBAD.out (World.Grows.trans HG.out (.of_below af))
     ·have h2:dk > 4:=by omega
      clear hc
      go_wp2_with fail
      go_returns
      exact kC HBAD.out (World.Grows.trans HG.out (.of_below af))
   ·obtain rfl:k=env.length:=by omega
    have hde:gI env=true:=by
     have:=HDA.out;rw [show(List.range env.length).any (fun k=>!decide (1<=bdD env k/\bdD env k<=4))=false from any_eq_false.2 fun j hj=>by simp [hno.out j (mem_range.1 hj)]]at this;simpa using this.symm
    have hbx:∀j u,(#[Value.int .i64 e.op,.int .i64 e.num,.int .i64 e.den,.int .i64 e.dim,.string e.name,.slice a e.args.length cap]:Array Value)[j]? =some u->wr.cell? ⟨w.heap.size,j,none⟩=some u:=fun j u hu=>by
     rw [hB.cell (p:=⟨w.heap.size,j,none⟩) zd,World.cell?_alloc_at _ _ _ _ rfl];exact hu
    have y0:=hbx 0 _ rfl;have y1:=hbx 1 _ rfl;have y2:=hbx 2 _ rfl;have y3:=hbx 3 _ rfl;have y4:=hbx 4 _ rfl;have y5:=hbx 5 _ rfl;have HI2:=yq (HI.out hde wr hG);have HY:=yq (HYES.out hde);clear hde hbx hB hG;obtain⟨q,hq⟩:∃q,az env e=q:=⟨_,rfl⟩;rw [hq]at HI2;have HQ:=yq hq;clear hq
    go_wp2_with (go_at_call 61;refine gv (HI2.out) ?_;intro bs3 d3)
    go_returns
    exact kC (by rw [HY.out,HQ.out]) (World.Grows.trans HG.out (.of_below af))
abbrev Tk:=Int × ByteArray × Nat
instance:Inhabited Tk:=⟨(0,ByteArray.empty,0)⟩
def tkC(t:Tk):List Value:=[.int .i64 t.1,.string t.2.1,.int .i64 t.2.2]
def tkV(l:List Tk):List Value:=l.flatMap tkC
theorem N9(a b:List Tk):tkV (a++b)=tkV a++tkV b:=by unfold tkV;rw [flatMap_append]
theorem Ri:(prog.info? 197).map (fun i=>(i.zero,i.size,i.bytes))=some (some (.agg #[.int .i64 0,.string ⟨#[]⟩,.int .i64 0]),3,32):=by kernel_rfl
theorem qp{w w':World}{base:Nat}{T:TypeId}{c n:Nat}{v:Value}{xs:List Value}(h:w.ownsRow base T c v n xs)(hg:w.Grows w'):w'.ownsRow base T c v n xs:=gu h fun k _ hlt=>hg.below.block k hlt
theorem Iy{w:World}{base:Nat}{T:TypeId}{c n:Nat}{v:Value}{xs:List Value}(h:w.ownsRow base T c v n xs):∃a cap,v= .slice a n cap:=by
 rcases h.2 with ⟨rfl,h0⟩|⟨g,cap,cur,rfl,_⟩
 ·exact⟨none,0,by rw [h0]⟩
 ·exact⟨_,cap,rfl⟩
def QI:Value->Nat| .slice _ n _=>n|_=>0
def Sm(T:List Tk)(w:World)(e:Ending)(w':World):Prop:=∃v,e= .returned (.tuple #[v,.int .i64 0,.int .i64 0])/\w.Grows w'/\w'.ownsRow w.heap.size 197 3 v T.length (tkV T)
theorem Qy(s:ByteArray)(T:List Tk)(pos:Nat->Nat)(w:World)(hs:s.size<=8000)(hT:T.length<=8000)(h0:pos 0=0)(hpos:∀k,pos k<=8000)(hN:Hid (∀k,k<T.length->NxP s (pos k) (T.getD k default).1 (T.getD k default).2.1 (T.getD k default).2.2 (pos (k+1))))(hK:Hid (∀k,k<T.length->(T.getD k default).1≠0))(hE:Hid (NxP s (pos T.length) 0 ⟨#[]⟩ s.size s.size)):Calls prog 127 #[.string s] w (Sm T w):=by
 obtain⟨i0,hi,hz0,hz1,hz2⟩:=info_parts Ri;have HPOS:=yq hpos;have HH0:=yq h0;have h1:¬(8000:Int)<(s.size:Int):=by omega
 have HT8:=yq hT;clear hpos h0 hT
 go_enter func127,ntmps127
 go_wp2_with fail
 go_loopw [5,6] (fun v5 v6 wr=>∃(k:Nat) (a:Option Addr) (c:Nat),k<=T.length/\v5= .slice a k c/\v6= .int .i64 (pos k:Nat)/\w.Grows wr/\Hid (wr.ownsRow w.heap.size 197 3 (.slice a k c) k (tkV (T.take k)))) (fun v5 _ _=>T.length-QI v5)
 case atStart=>exact⟨0,none,0,by omega,rfl,by rw [HH0.out];rfl,.refl _,yq (World.ownsRow_nil _ _ _ _)⟩
 case round=>
  obtain⟨k,a,c,hk,rfl,rfl,hg,HR⟩:=hrel;have HG:=yq hg;by_cases hlt:k<T.length
  ·have HNX:=yq (hN.out k hlt);have hkn:=hK.out k hlt
   have HTK:Hid (tkV (T.take (k+1))=tkV (T.take k)++tkC (T.getD k default)):=yq (by
    rw [take_succ_eq_append_getElem hlt,N9]
    congr 1
    rw [getD_eq_getElem?_getD,getElem?_eq_getElem hlt];show flatMap tkC [_]=_
    simp)
   obtain⟨⟨kd,tx,ta⟩,ht⟩:∃t,T.getD k default=t:=⟨_,rfl⟩;rw [ht]at HNX hkn HTK;dsimp only at HNX hkn;have hk0:(kd==0)=false:=by simpa using hkn
   have HLT:=yq hlt;have HOW:=yq (fun W (hgW:wr.Grows W)=>qp HR.out hgW);obtain⟨nx,hnx⟩:∃n,pos (k+1)=n:=⟨_,rfl⟩;rw [hnx]at HNX;have HNXE:=yq hnx;unfold NxP at HNX;clear ht hkn hlt hk hnx hg
   go_wp2_with (first
    |(go_at_call 163;refine gv (HNX.out _) ?_;intro bs d)
    |(at_builtin;refine wpList_append_lies _ rfl _ _ 155 rfl w.heap.size 197 i0 _ 3 32 underlying155 hi hz0 hz1 hz2 rfl zf (.slice a k c) k (tkV (T.take k)) rfl (HOW.out _ growsR) ⟨_,0,none⟩ 1 1 [.int .i64 kd,.string tx,.int .i64 (ta:Nat)] rfl rfl (news_cells _ [.int .i64 kd,.string tx,.int .i64 (ta:Nat)] _ _ zd) (by intro u hu;simp at hu;rcases hu with rfl|rfl|rfl<;>rfl) zf ?c3 ?c4 ?c5 _ rfl ?_))
   case c3=>have:=HLT.out;have:=HT8.out;unfold maxLen;omega
   case c4=>have:=HLT.out;have:=HT8.out;omega
   case c5=>have:=HG.out.below.size;simp;omega
   intro g' cap' w1 hown' hgrow hat hlt';have hg1:w.Grows w1:=World.Grows.grown (gqq HG.out growsR) hgrow (fun j hj=>by have:=(HR.out.lt j hj).1;simpa using this);have HG1:=yq hg1;have HR1:=yq hown';clear hown' hgrow hat hlt' hg1
   go_wp2_with fail
   go_roundw
   case rel=>exact⟨k+1,some ⟨g',0,none⟩,cap',HLT.out,rfl,by rw [HNXE.out],HG1.out,yq (by rw [HTK.out];exact HR1.out)⟩
   case measure=>simp [QI];have:=HLT.out;omega
  ·obtain rfl:k=T.length:=by omega
   have HNX:=yq hE.out;unfold NxP at HNX;clear hg
   go_wp2_with (go_at_call 163;refine gv (HNX.out _) ?_;intro bs d)
   go_returns
   exact⟨_,rfl,gqq HG.out growsR,by have h9:=HR.out;rw [take_length]at h9;exact qp h9 growsR⟩
theorem Jo(w:World)(o:Obj)(k:Nat)(h:k=w.heap.size):(w.alloc o).heap[k]? =some o:=by subst h;exact heap_alloc_new _ _
def Ub(T:List Tk)(n:Nat)(w:World)(e:Ending)(w':World):Prop:=∃v g,e= .returned (.tuple #[.pointer (some ⟨g,0,none⟩),.int .i64 0,.int .i64 0])/\w.Grows w'/\w.heap.size<=g/\w'.heap[g]? =some (.cells #[v,.int .i64 0,.int .i64 n,.bool false] 157 (0,0))/\w'.ownsRow w.heap.size 197 3 v T.length (tkV T)/\v.ownBlock≠some g
theorem J2(s:ByteArray)(T:List Tk)(w:World)(hs:s.size<=8000)(HA:Hid (∀w,Calls prog 127 #[.string s] w (Sm T w))):Calls prog 80 #[.string s] w (Ub T s.size w):=by
 go_enter func80,ntmps80
 go_wp2_with (go_at_call 127;refine(HA.out _).mono ?_;rintro e' w' ⟨v,rfl,⟨bs,d,rfl⟩,hown⟩;have HO:=yq hown;obtain⟨a,c,rfl⟩:=Iy hown;clear hown)
 go_returns
 exact⟨.slice a T.length c,_,rfl,growsR,by simp,Jo _ _ _ zd,qp HO.out growsR,fun e=>by have:=(HO.out.lt _ e).2;simp at this⟩
def QA(w:World)(a:Option Addr)(T:List Tk):Prop:=T.length<=8000/\∃b,a=some ⟨b,0,none⟩/\b<w.heap.size/\∀k,k<T.length->w.cell? ⟨b,k*3,none⟩=some (.int .i64 (T.getD k default).1)/\w.cell? ⟨b,k*3+1,none⟩=some (.string (T.getD k default).2.1)/\w.cell? ⟨b,k*3+2,none⟩=some (.int .i64 ((T.getD k default).2.2:Nat))
structure bO(T:List Tk)(g:Nat)(a:Option Addr)(c n p:Nat)(w:World):Prop where
 rd:w.heap[g]? =some (.cells #[.slice a T.length c,.int .i64 p,.int .i64 n,.bool false] 157 (0,0))
 tk:QA w a T
 ne:∀b,a=some ⟨b,0,none⟩->b≠g
theorem bO.lt{T:List Tk}{g c n p:Nat}{a:Option Addr}{w:World}(h:bO T g a c n p w):g<w.heap.size:=(Array.getElem?_eq_some_iff.1 h.rd).1
theorem bO.keep{T:List Tk}{g c n p:Nat}{a:Option Addr}{w w':World}(h:bO T g a c n p w)(hsz:w.heap.size<=w'.heap.size)(hw:∀k,k<w.heap.size->w'.heap[k]? =w.heap[k]?):bO T g a c n p w':=by
 obtain⟨h0,b,rfl,hb,hc⟩:=h.tk;refine⟨(hw g h.lt).trans h.rd,⟨h0,b,rfl,Nat.lt_of_lt_of_le hb hsz,fun k hk=>?_⟩,h.ne⟩;obtain⟨e0,e1,e2⟩:=hc k hk;exact⟨(World.cell?_of_block (hw b hb)).trans e0,(World.cell?_of_block (hw b hb)).trans e1,(World.cell?_of_block (hw b hb)).trans e2⟩
theorem bO.grows{T:List Tk}{g c n p:Nat}{a:Option Addr}{w w':World}(h:bO T g a c n p w)(hg:w.Grows w'):bO T g a c n p w':=h.keep hg.below.size fun k hk=>hg.below.block k hk
def isB(T:List Tk)(p:Nat)(s:ByteArray):Bool:=decide (p<T.length)&&((T.getD p default).2.1.toList==s.toList)
def lw(T:List Tk)(p:Nat)(k:Int):Bool:=decide (p<T.length)&&((T.getD p default).1==k)
theorem EG(T:List Tk)(g c n p:Nat)(a:Option Addr)(s:ByteArray)(w:World)(h:bO T g a c n p w):Calls prog 164 #[.pointer (some ⟨g,0,none⟩),.string s] w fun e w'=>e= .returned (.bool (isB T p s))/\w.Grows w':=by
 have c0:=cell_of_row w g 0 _ _ _ h.rd;have c1:=cell_of_row w g 1 _ _ _ h.rd;have c3:=cell_of_row w g 3 _ _ _ h.rd;have hg:=h.lt;obtain⟨h8,b,rfl,hb,hc⟩:=h.tk;by_cases hp:p<T.length
 ·obtain⟨-,e1,-⟩:=hc p hp;have hp1:(p:Int)<(T.length:Int):=by omega
  have HF:Hid (isB T p s=((T.getD p default).2.1.toList==s.toList)):=yq (by unfold isB;rw [decide_eq_true hp,Bool.true_and]);generalize(T.getD p default).2.1=tx at *;rw [HF.out];clear hc h HF;cases hq:tx.toList==s.toList
  all_goals
   go_enter func164,ntmps164
   exact Pk
 ·have HF:Hid (isB T p s=false):=yq (by unfold isB;rw [decide_eq_false hp,Bool.false_and]);have hp1:¬(p:Int)<(T.length:Int):=by omega
  rw [HF.out];clear hc h HF
  go_enter func164,ntmps164
  exact Pk
theorem LX(T:List Tk)(g c n p:Nat)(a:Option Addr)(k:Int)(w:World)(h:bO T g a c n p w):Calls prog 166 #[.pointer (some ⟨g,0,none⟩),.int .i64 k] w fun e w'=>e= .returned (.bool (lw T p k))/\w.Grows w':=by
 have c0:=cell_of_row w g 0 _ _ _ h.rd;have c1:=cell_of_row w g 1 _ _ _ h.rd;have c3:=cell_of_row w g 3 _ _ _ h.rd;have hg:=h.lt;obtain⟨h8,b,rfl,hb,hc⟩:=h.tk;by_cases hp:p<T.length
 ·obtain⟨e1,-,-⟩:=hc p hp;have hp1:(p:Int)<(T.length:Int):=by omega
  have HF:Hid (lw T p k=((T.getD p default).1==k)):=yq (by unfold lw;rw [decide_eq_true hp,Bool.true_and]);generalize(T.getD p default).1=tx at *;rw [HF.out];clear hc h HF;cases hq:tx==k
  all_goals
   go_enter func166,ntmps166
   exact Pk
 ·have HF:Hid (lw T p k=false):=yq (by unfold lw;rw [decide_eq_false hp,Bool.false_and]);have hp1:¬(p:Int)<(T.length:Int):=by omega
  rw [HF.out];clear hc h HF
  go_enter func166,ntmps166
  exact Pk
theorem bO.step{T:List Tk}{g c n p:Nat}{a:Option Addr}{w:World}(h:bO T g a c n p w):bO T g a c n (p+1) (w.setCell ⟨g,1,none⟩ (.int .i64 ((p:Int)+1))):=by
 obtain⟨h0,b,rfl,hb,hc⟩:=h.tk;have hne:=h.ne b rfl;have hw:(w.setCell ⟨g,1,none⟩ (.int .i64 ((p:Int)+1))).heap[b]? =w.heap[b]?:=Below.heap_setCell _ _ _ _ hne;refine⟨?_,⟨h0,b,rfl,by simpa using hb,fun k hk=>?_⟩,h.ne⟩
 ·have:=Joins.block_setCell (i:=1) h.rd (.int .i64 ((p:Int)+1));simpa using this
 ·exact Tp
def lvF(op:Int):Int:=if op=21 then 0 else if op=18 then 1 else if op=17 then 2 else if op=5 then 3 else if 11<=op/\op<=16 then 4 else if op=7\/op=8 then 5 else if op=9\/op=10 then 6 else 7
def sgF(op:Int):ByteArray:=if op=7 then⟨#[43]⟩else if op=8 then⟨#[45]⟩else if op=9 then⟨#[42]⟩else if op=10 then⟨#[47]⟩else if op=11 then⟨#[60]⟩else if op=12 then⟨#[60,61]⟩else if op=13 then⟨#[61]⟩else if op=14 then⟨#[60,62]⟩else if op=15 then⟨#[62]⟩else if op=16 then⟨#[62,61]⟩else if op=17 then⟨#[97,110,100]⟩else⟨#[111,114]⟩
theorem ku(op:Int)(w:World)(h:1<=op/\op<=21):Calls prog 133 #[.int .i64 op] w fun e w'=>e= .returned (.int .i64 (lvF op))/\w=w':=by
 rcases(show op=1\/op=2\/op=3\/op=4\/op=5\/op=6\/op=7\/op=8\/op=9\/op=10\/op=11\/op=12\/op=13\/op=14\/op=15\/op=16\/op=17\/op=18\/op=19\/op=20\/op=21 by omega)with rfl|rfl|rfl|rfl|rfl|rfl|rfl|rfl|rfl|rfl|rfl|rfl|rfl|rfl|rfl|rfl|rfl|rfl|rfl|rfl|rfl
 all_goals
  go_enter func133,ntmps133
  exact Jq
theorem tq(op:Int)(w:World)(h:7<=op/\op<=18):Calls prog 171 #[.int .i64 op] w fun e w'=>e= .returned (.string (sgF op))/\w=w':=by
 rcases(show op=7\/op=8\/op=9\/op=10\/op=11\/op=12\/op=13\/op=14\/op=15\/op=16\/op=17\/op=18 by omega)with rfl|rfl|rfl|rfl|rfl|rfl|rfl|rfl|rfl|rfl|rfl|rfl
 all_goals
  go_enter func171,ntmps171
  exact Jq
def nJ(T:List Tk)(p:Nat)(n:Int)(j:Nat):Bool:=(lvF (7+j)==n)&&isB T p (sgF (7+j))
def DK(T:List Tk)(p:Nat)(n r:Int):Prop:=(r=0/\∀j,j<12->nJ T p n j=false)\/∃k:Nat,k<12/\r=7+k/\nJ T p n k=true/\∀j,j<k->nJ T p n j=false
theorem vv(T:List Tk)(g c n p:Nat)(a:Option Addr)(lv:Int)(w:World)(h:bO T g a c n p w):Calls prog 131 #[.pointer (some ⟨g,0,none⟩),.int .i64 lv] w fun e w'=>∃r,e= .returned (.int .i64 r)/\DK T p lv r/\w.Grows w':=by
 have HR:=yq h;clear h
 go_enter func131,ntmps131
 go_wp2_with fail
 go_loopw [5] (fun v5 wr=>∃k:Nat,k<=12/\v5= .int .i64 (7+k)/\w.Grows wr/\Hid (∀j,j<k->nJ T p lv j=false)) (fun v5 _=>(19-intOf v5).toNat)
 case atStart=>exact⟨0,by omega,rfl,.refl _,yq (fun j hj=>by omega)⟩
 case round=>
  obtain⟨k,hk,rfl,hg,HJ⟩:=hrel;have HG:=yq hg;by_cases hk12:k<12
  ·have hk1:(7:Int)+k<=18:=by omega
   have HLV:=yq (fun W=>ku (7+k) W zb);have HSG:=yq (fun W=>tq (7+k) W zb);have HIS:=yq (fun W (hw:w.Grows W)=>EG T g c n p a (sgF (7+k)) W (HR.out.grows hw));have HH:Hid (nJ T p lv k=((lvF (7+k)==lv)&&isB T p (sgF (7+k)))):=yq rfl;have HK:=yq hk12;generalize sgF (7+k)=sg at *;generalize lvF (7+k)=l7 at *;clear hg hk;cases hl:l7==lv
   ·go_wp2_with (go_at_call 133;refine gw (HLV.out _) ?_)
    go_roundw
    case rel=>exact⟨k+1,HK.out,by go_num,HG.out,yq (fun j hj=>by
     by_cases e:j=k
     ·rw [e,HH.out,hl];rfl
     ·exact HJ.out j zb)⟩
    case measure=>simp [intOf];omega
   ·cases hb:isB T p sg
    ·rw [hb]at HIS
     go_wp2_with (first
      |(go_at_call 133;refine gw (HLV.out _) ?_)
      |(go_at_call 171;refine gw (HSG.out _) ?_)
      |(go_at_call 164;refine gv (HIS.out _ (gqq HG.out growsR)) ?_;intro bs d))
     go_roundw
     case rel=>exact⟨k+1,HK.out,by go_num,gqq HG.out growsR,yq (fun j hj=>by
      by_cases e:j=k
      ·rw [e,HH.out,hb,Bool.and_false]
      ·exact HJ.out j zb)⟩
     case measure=>simp [intOf];omega
    ·rw [hb]at HIS
     go_wp2_with (first
      |(go_at_call 133;refine gw (HLV.out _) ?_)
      |(go_at_call 171;refine gw (HSG.out _) ?_)
      |(go_at_call 164;refine gv (HIS.out _ (gqq HG.out growsR)) ?_;intro bs d))
     go_returns
     exact⟨_,rfl,.inr ⟨k,HK.out,rfl,by rw [HH.out,hl,hb];rfl,HJ.out⟩,gqq HG.out growsR⟩
  ·obtain rfl:k=12:=by omega
   clear hg
   go_wp2_with fail
   go_returns
   exact⟨_,rfl,.inl ⟨rfl,HJ.out⟩,HG.out⟩
end Go.Proofs.YtfoefpoaomepbaaGreatDoor
