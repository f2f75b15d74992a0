import Derived.Test.YthionhbjmheimaaDoorLAw8
import Derived.Test.YthionhbjmheimaaDoorLK
import Derived.Laws.AppendOwnNone
import Derived.Deep.CutBlock
import Derived.Deep.CutRange
import Derived.Deep.DeepCutAuto
set_option linter.all false
set_option maxHeartbeats 16000000
set_option maxRecDepth 1000000
namespace Go.Proofs.YthionhbjmheimaaDoor
open Go.RowKit
theorem YrAt.of_rowB{w:World}{base:Nat}{v:Value}{l:List Int}{k:Nat}{xs:List Value}(h:w.ownsRow base 3 1 v k xs)(hk:k=l.length)(hx:xs=l.map (Value.int .i64))(hl:l.length≤1000):YrAt w v l:=by
 subst hk hx;exact YrAt.of_row h hl
theorem row_form{w:World}{base:Nat}{v:Value}{k:Nat}{xs:List Value}(h:w.ownsRow base 3 1 v k xs):(v= .slice none 0 0∧k=0)∨∃g cap,v= .slice (some ⟨g,0,none⟩) k cap∧base≤g∧g<w.heap.size:=by
 exact lz22
end Go.Proofs.YthionhbjmheimaaDoor
namespace Go
theorem step_append_ownY{P:Program}{ops:Array Oper}{o:Oper}{a:Act}{w:World}{K:Act→World→Prop}{Q:Exit→Act→World→Prop}{E:Prop}(hgd:o.guard=none)(s x:Operand)(t:TypeId)
 (ho:o.op= .call {callee:=.builtin .append,args:=#[s,x],argTypes:=#[t,t]})
 (base:Nat) (e:TypeId) (i:TypeInfo) (z:Value) (size bytes:Nat) (ht:P.underlying t=some (.slice e)) (hi:P.info? e=some i) (hz:i.zero=some z)
 (hsize:i.size=size) (hby:i.bytes=bytes) (hzs:z.cells.size=size) (hsz:0<size)
 (v:Value) (n:Nat) (xs:List Value) (hs:a.eval s=v) (hown:w.ownsRow base e size v n xs)
 (ad:Addr) (m c:Nat) (news:List Value) (hx:a.eval x= .slice (some ad) m c) (hl:news.length=m*size) (hnews:∀j u,news[j]? =some u→w.cell? (ad.add j)=some u) (h1:∀u∈news,u.oneCell'=true)
 (h63:n+m≤maxLen) (hbytes:(n+m)*bytes≤140737488355328) (hbase:base≤w.heap.size)
 (h:∀v' w',w'.ownsRow base e size v' (n+m) (xs++news)→w.grownBy w' v.ownBlock→K (a.put o.dst v') w') :
 if Region.wanted o (yielded ops a.tmps)=true then Oper.wp P o a w K Q else E:=by
 have hw:Region.wanted o (yielded ops a.tmps)=true:=by simp [Region.wanted,hgd]
 rw [if_pos hw]
 exact wp_append_own w s x t ho base e i z size bytes ht hi hz hsize hby hzs hsz v n xs hs hown ad m c news hx hl hnews h1 h63 hbytes hbase fun v' w' h2 h3 _=>h v' w' h2 h3
theorem step_append_noneY{P:Program}{ops:Array Oper}{o:Oper}{a:Act}{w:World}{K:Act→World→Prop}{Q:Exit→Act→World→Prop}{E:Prop}(hgd:o.guard=none)(s x:Operand)(t:TypeId)
 (ho:o.op= .call {callee:=.builtin .append,args:=#[s,x],argTypes:=#[t,t]})
 (base:Nat) (e:TypeId) (i:TypeInfo) (size:Nat) (ht:P.underlying t=some (.slice e)) (hi:P.info? e=some i)
 (v:Value) (n:Nat) (xs:List Value) (hs:a.eval s=v) (hown:w.ownsRow base e size v n xs) (hx:a.eval x= .slice none 0 0)
 (h:K (a.put o.dst v) w):if Region.wanted o (yielded ops a.tmps)=true then Oper.wp P o a w K Q else E:=by
 have hw:Region.wanted o (yielded ops a.tmps)=true:=by simp [Region.wanted,hgd]
 rw [if_pos hw]
 have hrun:=run_append_owned_none (P:=P) (w:=w) base t o.type e i size ht hi v n xs hown
 unfold Oper.wp
 simp [execOp,ho,resolve,invoke,builtin,hs,hx,hrun,Result.andThen]
 exact h
end Go
namespace Go
open Go.RowKit
theorem RowKit.Below.setBoth{B:Nat}{a w:World}(h:Below B a w)(p:Addr)(v:Value):Below B (a.setCell p v) (w.setCell p v):=
 ⟨h.os,h.tape,h.output,by simpa [World.setCell]using h.size,fun k hk=>by
  simp only [World.setCell,Array.getElem?_modify]
  rw [h.block k hk]⟩
theorem World.heap_grow_same{X Y:World}(hs:X.heap.size=Y.heap.size)(bs:Array Obj)(d d':Nat){k:Nat}(hk:X.heap.size≤k):(Y.grow bs d').heap[k]? =(X.grow bs d).heap[k]?:=by
 show(Y.heap++bs)[k]? =(X.heap++bs)[k]?
 rw [Array.getElem?_append_right (by omega),Array.getElem?_append_right hk,hs]
theorem World.ownsRow_same{X Y:World}(hs:X.heap.size=Y.heap.size){bs:Array Obj}{d d':Nat}{base size n:Nat}{e:TypeId}{v:Value}{xs:List Value}(hb:X.heap.size≤base)(h:(X.grow bs d).ownsRow base e size v n xs):(Y.grow bs d').ownsRow base e size v n xs:=by
 obtain⟨h0,h1|⟨g,cap,cur,hv,hbg,hg,hr⟩⟩:=h
 ·exact⟨h0,.inl h1⟩
 ·exact⟨h0,.inr ⟨g,cap,cur,hv,hbg,(World.heap_grow_same hs bs d d' (by omega)).trans hg,hr⟩⟩
end Go
namespace Go
theorem growsP{w w':World}(h:RowKit.Below w.heap.size w w':=by(try simp only [World.grow_grow,World.grow_drew,World.drew_grow,←Array.append_assoc]);repeat' (first|(with_reducible exact Go.RowKit.Below.fin)|(with_reducible exact Go.RowKit.Below.refl _ _)|(with_reducible assumption)|(with_reducible refine Go.RowKit.Below.peel ?_ ?_)|(with_reducible refine Go.RowKit.Below.grow ?_ ?_ _ _)|(with_reducible refine Go.RowKit.Below.alloc ?_ ?_ _)|(with_reducible refine Go.RowKit.Below.drewN ?_ _)|(with_reducible refine Go.RowKit.Below.drew ?_)|(with_reducible refine Go.RowKit.Below.setCell ?_ ?_ _)|go_size)):w.Grows w':=.of_below h
end Go
namespace Go.Proofs.YthionhbjmheimaaDoor
open Go.RowKit
def ApP(r:Val × Int)(w:World)(e:Ending)(w':World):Prop:=e= .returned (.tuple #[.agg #[.int .i64 r.1.dim,.bool r.1.yes,.int .i64 r.1.n,.int .i64 r.1.d],.int .i64 r.2])∧w.Grows w'
def apD(x y:Val):List Value:=[x.dim,y.dim].map (Value.int .i64)
theorem apD_take(x y:Val)(k:Nat)(hk:k<2)(dk:Int)(h:[x.dim,y.dim].getD k 0=dk):(apD x y).take (k+1)=(apD x y).take k++[.int .i64 dk]:=by
 subst h
 rcases(show k=0∨k=1 by omega)with rfl|rfl<;>rfl
theorem apply2_any(op:Int)(x y:Val)(b o cp:Nat)(w:World)(hx:x.ok=true)(hy:y.ok=true)(ho:op=7∨op=8∨op=9∨op=10∨op=19∨op=20∨(11≤op∧op≤16))(hres:resD op [x.dim,y.dim]≠0)(hb:b<w.heap.size)
 (c0:w.cell? ⟨b,o,none⟩=some (.int .i64 x.dim)) (c1:w.cell? ⟨b,o+1,none⟩=some (.bool x.yes)) (c2:w.cell? ⟨b,o+2,none⟩=some (.int .i64 x.n)) (c3:w.cell? ⟨b,o+3,none⟩=some (.int .i64 x.d))
 (e0:w.cell? ⟨b,o+4,none⟩=some (.int .i64 y.dim)) (e1:w.cell? ⟨b,o+5,none⟩=some (.bool y.yes)) (e2:w.cell? ⟨b,o+6,none⟩=some (.int .i64 y.n)) (e3:w.cell? ⟨b,o+7,none⟩=some (.int .i64 y.d)) :
 Calls Tryd.prog 71 #[.int .i64 op,.slice (some ⟨b,o,none⟩) 2 cp] w (ApP (op2 op x y) w):=by
 obtain⟨i0,hi,hz0,hz1,hz2⟩:=info_parts infoY
 have hd:=dims_ne ho hres
 have hvx:=(Val.ok_num hx hd.1).2.2.2
 have hvy:=(Val.ok_num hy hd.2).2.2.2
 have hdx:=Val.ok_dim hx
 have hdy:=Val.ok_dim hy
 have hcf:=cmpF_ok hvx hvy
 have h64:I64x4 x.n x.d y.n y.d:=⟨(Val.ok_rng hx).1,(Val.ok_rng hx).2,(Val.ok_rng hy).1,(Val.ok_rng hy).2⟩
 have HA:=Lib.hid (fun w=>Add1_any x.n x.d y.n y.d w h64)
 have HS:=Lib.hid (fun w=>Sub1_any x.n x.d y.n y.d w h64)
 have HM:=Lib.hid (fun w=>Mul1_any x.n x.d y.n y.d w h64)
 have HD:=Lib.hid (fun w=>Div1_any x.n x.d y.n y.d w h64)
 have HC:=Lib.hid (fun w=>Compare1_any x.n x.d y.n y.d w h64)
 unfold frI at HC
 unfold frV at HA HS HM HD
 rw [hcf]at HC
 have HRD:=Lib.hid hres
 have HAN:Hid (((2:Nat):Int)=argsN op):=Lib.hid (by unfold argsN;rw [if_neg (by omega),if_neg (by omega),if_pos (by omega)];rfl)
 have HDX:=Lib.hid hdx
 have HDY:=Lib.hid hdy
 have HOP:=Lib.hid ho
 have HXD:Hid (op=7∨op=8∨op=19∨op=20→resD op [x.dim,y.dim]=x.dim):=Lib.hid (fun h=>by
  rw [res_add _ _ h]at hres ⊢
  split
  ·rfl
  ·rename_i hn;rw [if_neg hn]at hres;exact absurd rfl hres)
 have HX1:Hid (11≤op∧op≤16→resD op [x.dim,y.dim]=1):=Lib.hid (fun h=>by
  rw [res_cmp _ _ h]at hres ⊢
  split
  ·rfl
  ·rename_i hn;rw [if_neg hn]at hres;exact absurd rfl hres)
 clear hd hvx hvy hdx hdy hcf h64 hres ho hx hy
 go_enter Tryd.func71,Tryd.ntmps71
 go_wp2_with fail
 go_loopw [6,7] (fun v6 v7 wr=>∃(k:Nat) (vb:Value),vb=v6∧k≤2∧v7= .int .i64 k∧Below (w.heap.size+1) (w.alloc (.cells #[.int .i64 0,.bool false,.int .i64 0,.int .i64 0] 51)) wr∧wr.ownsRow (w.heap.size+1) 3 1 vb k ((apD x y).take k)) (fun _ v7 _=>2-(intOf v7).toNat)
 case atStart=>exact⟨0,_,rfl,by omega,rfl,.refl _ _,World.ownsRow_nil _ _ _ _⟩
 case round=>
  obtain⟨k,vb,rfl,hk,rfl,hB,hown⟩:=hrel
  have HB:=Lib.hid hB
  have HO:=Lib.hid hown
  have hsW:w.heap.size+1≤wr.heap.size:=by have:=hB.size;simpa using this
  have hbr:b<wr.heap.size:=by omega
  have hcc:∀j u,w.cell? ⟨b,j,none⟩=some u→wr.cell? ⟨b,j,none⟩=some u:=fun j u h=>(hB.cell (p:=⟨b,j,none⟩) (by show b<_;omega)).trans ((World.cell?_alloc_lt w _ ⟨b,j,none⟩ hb).trans h)
  by_cases hlt:k<2
  ·have d1:(k:Int)<2:=by omega
   obtain⟨dk,hdk⟩:∃dk,[x.dim,y.dim].getD k 0=dk:=⟨_,rfl⟩
   have x0:wr.cell? ⟨b,o+k*4,none⟩=some (.int .i64 dk):=by
    subst hdk
    rcases(show k=0∨k=1 by omega)with rfl|rfl
    ·exact hcc _ _ c0
    ·exact hcc _ _ e0
   have HNX:=Lib.hid (apD_take x y k hlt dk hdk)
   have HKL:=Lib.hid hlt
   clear hlt hB hown hcc c0 c1 c2 c3 e0 e1 e2 e3 hdk
   go_wp2_with (at_builtin;refine wpList_append_own _ rfl _ _ 22 rfl (w.heap.size+1) 3 i0 (.int .i64 0) 1 8 Tryd.underlying22 hi hz0 hz1 hz2 rfl (by decide) _ _ _ rfl (HO.out.alloc _) ⟨wr.heap.size,0,none⟩ 1 1 [.int .i64 dk] rfl rfl ?c1 ?c2 ?c3 ?c4 ?c5 ?_)
   case c1=>exact news_cells _ [.int .i64 dk] _ _ (by simp)
   case c2=>intro u hu;simp at hu;subst hu;rfl
   case c3=>unfold maxLen;omega
   case c4=>omega
   case c5=>simp;try omega
   intro v' w1 hown' hgrow _
   have HB1:=Lib.hid ((show Below (w.heap.size+1) (w.alloc (.cells #[.int .i64 0,.bool false,.int .i64 0,.int .i64 0] 51)) _ from by have:=HB.out;(exact belB)).grown hgrow (by simp;try omega) (fun k hk=>(HO.out.lt k hk).1))
   have HO1:=Lib.hid hown'
   clear hown' hgrow
   go_wp2_with fail
   go_roundw
   case rel=>exact⟨k+1,_,rfl,HKL.out,by go_num,HB1.out,by rw [HNX.out];exact HO1.out⟩
   case measure=>simp [intOf];have:=HKL.out;omega
  ·obtain rfl:k=2:=by omega
   obtain⟨g,cap,rfl⟩:∃g cap,vb= .slice (some ⟨g,0,none⟩) 2 cap:=by
    rcases row_form hown with ⟨-,h⟩|⟨g,cap,rfl,-⟩
    ·omega
    ·exact⟨g,cap,rfl⟩
   have HOW:Hid (wr.ownsRow (w.heap.size+1) 3 1 (.slice (some ⟨g,0,none⟩) [x.dim,y.dim].length cap) [x.dim,y.dim].length ([x.dim,y.dim].map (Value.int .i64))):=Lib.hid hown
   have HRS:=Lib.hid (fun w' (hg:wr.Grows w')=>res5_all op [x.dim,y.dim] (w.heap.size+1) g cap w' (by have:=HOP.out;omega) (by have:=HOP.out;omega) HAN.out (by intro z hz;have:=HDX.out;have:=HDY.out;simp at hz;omega) (own_grow HOW.out hg))
   unfold Res5P at HRS
   obtain⟨rd,hrd⟩:∃rd,resD op [x.dim,y.dim]=rd:=⟨_,rfl⟩
   have HRD2:=Lib.hid hrd
   rw [hrd]at HRS HXD HX1
   clear hrd hown hcc
   obtain⟨bs0,d0,rfl⟩:World.Grows (w.alloc (.cells #[.int .i64 0,.bool false,.int .i64 0,.int .i64 0] 51)) wr:=.of_below (by simpa using HB.out)
   have HG0:Hid (w.Grows ((w.alloc (.cells #[.int .i64 0,.bool false,.int .i64 0,.int .i64 0] 51)).grow bs0 d0)):=Lib.hid growsP
   clear hB HB HO
   go_wp2_with (go_at_call 79;refine(HRS.out _ growsP).mono ?_;rintro e' w' ⟨rfl,bs,d,rfl⟩)
   refine TS.begin [] (World.Grows _) (by kernel_rfl) (by kernel_rfl) grows_drew0 (fun hS=>?_)
   refine TS.wkB 0 hS ?_
   refine TS.wkB 1 hS ?_
   refine TS.wkB 2 hS ?_
   refine TS.wkB 3 hS ?_
   refine TS.wkB 4 hS ?_
   refine TS.wkB 5 hS ?_
   refine TS.wkB 6 hS ?_
   refine TS.wkB 7 hS ?_
   refine TS.one (i:=8) (by decide+kernel) rfl (fun K1 hK1=>?_)
   have HK1:=Lib.hid hK1
   clear hK1 hS
   dsimp only [List.getElem_toArray,List.getElem_cons_succ,List.getElem_cons_zero]
   go_simp
   go_at_call 23
   refine(HC.out _).mono ?_
   rintro e' wA ⟨rfl,bA,dA,rfl⟩
   refine TS.go HK1.out growsP (fun hS=>?_)
   clear HK1 K1
   (try simp only [nS])
   refine TS.wkB 9 hS ?_
   refine TS.wkB 10 hS ?_
   refine TS.wkB 11 hS ?_
   refine TS.wkB 12 hS ?_
   refine TS.done (by kernel_rfl) ?_
   clear hS
   (try simp only [nS])
   go_upto_block 2 with fail
   have hop:=HOP.out
   generalize hc:cmpI x.n x.d y.n y.d=c
   have HCC:=Lib.hid hc
   clear hc HOP HC HRS HAN HOW
   rcases hop with rfl|rfl|rfl|rfl|rfl|rfl|hop
   ·have HR:Hid (op2 7 x y=numR rd (addF x.n x.d y.n y.d)):=Lib.hid (by rw [HXD.out (.inl rfl)];rfl)
    generalize addF x.n x.d y.n y.d=q at *
    obtain⟨qn,qd,qc⟩:=q
    dsimp only at HA
    by_cases hq:qc=0
    focus
     subst hq
     unfold numR at HR
     rw [if_pos rfl]at HR
    rotate_left
    focus
     unfold numR at HR
     rw [if_neg hq]at HR
     have hq1:(qc !=0)=true:=by simpa using hq
     clear hq
    rotate_left
    all_goals
     go_wp2_with fail
     refine TS.begin [14] (World.Grows ((w.alloc (.cells #[.int .i64 0,.bool false,.int .i64 0,.int .i64 0] 51)).grow bs0 d0)) (by kernel_rfl) (by kernel_rfl) growsP (fun hS=>?_)
     refine TS.wkB 0 hS ?_
     refine TS.wkB 1 hS ?_
     refine TS.wkB 2 hS ?_
     refine TS.wkB 3 hS ?_
     refine TS.wkB 4 hS ?_
     refine TS.wkB 5 hS ?_
     refine TS.wkB 6 hS ?_
     refine TS.wkB 7 hS ?_
     refine TS.one (i:=8) (by decide+kernel) rfl (fun K1 hK1=>?_)
     have HK1:=Lib.hid hK1
     clear hK1 hS
     dsimp only [List.getElem_toArray,List.getElem_cons_succ,List.getElem_cons_zero]
     go_simp
     go_at_call 82
     refine(HA.out _).mono ?_
     rintro e' wA ⟨rfl,bA,dA,rfl⟩
     refine TS.go HK1.out growsP (fun hS=>?_)
     clear HK1 K1
     (try simp only [nS])
     refine TS.wkB 9 hS ?_
     refine TS.wkB 10 hS ?_
     refine TS.wkB 11 hS ?_
     refine TS.wkB 12 hS ?_
     refine TS.one (i:=13) (by decide+kernel) rfl (fun K1 hK1=>?_)
     have HK1:=Lib.hid hK1
     clear hK1 hS
     dsimp only [List.getElem_toArray,List.getElem_cons_succ,List.getElem_cons_zero]
     go_simp
     refine TS.go HK1.out growsP (fun hS=>?_)
     clear HK1 K1
     (try simp only [nS])
     refine TS.weB 14 ?_
     clear hS
     go_wp2_with fail
     go_returns
     exact⟨by rw [HR.out];rfl,growsP⟩
   ·have HR:Hid (op2 8 x y=numR rd (subF x.n x.d y.n y.d)):=Lib.hid (by rw [HXD.out (.inr (.inl rfl))];rfl)
    generalize subF x.n x.d y.n y.d=q at *
    obtain⟨qn,qd,qc⟩:=q
    dsimp only at HS
    by_cases hq:qc=0
    focus
     subst hq
     unfold numR at HR
     rw [if_pos rfl]at HR
    rotate_left
    focus
     unfold numR at HR
     rw [if_neg hq]at HR
     have hq1:(qc !=0)=true:=by simpa using hq
     clear hq
    rotate_left
    all_goals
     go_wp2_with fail
     refine TS.begin [14] (World.Grows ((w.alloc (.cells #[.int .i64 0,.bool false,.int .i64 0,.int .i64 0] 51)).grow bs0 d0)) (by kernel_rfl) (by kernel_rfl) growsP (fun hS=>?_)
     refine TS.wkB 0 hS ?_
     refine TS.wkB 1 hS ?_
     refine TS.wkB 2 hS ?_
     refine TS.wkB 3 hS ?_
     refine TS.wkB 4 hS ?_
     refine TS.wkB 5 hS ?_
     refine TS.wkB 6 hS ?_
     refine TS.wkB 7 hS ?_
     refine TS.one (i:=8) (by decide+kernel) rfl (fun K1 hK1=>?_)
     have HK1:=Lib.hid hK1
     clear hK1 hS
     dsimp only [List.getElem_toArray,List.getElem_cons_succ,List.getElem_cons_zero]
     go_simp
     go_at_call 83
     refine(HS.out _).mono ?_
     rintro e' wA ⟨rfl,bA,dA,rfl⟩
     refine TS.go HK1.out growsP (fun hS=>?_)
     clear HK1 K1
     (try simp only [nS])
     refine TS.wkB 9 hS ?_
     refine TS.wkB 10 hS ?_
     refine TS.wkB 11 hS ?_
     refine TS.wkB 12 hS ?_
     refine TS.one (i:=13) (by decide+kernel) rfl (fun K1 hK1=>?_)
     have HK1:=Lib.hid hK1
     clear hK1 hS
     dsimp only [List.getElem_toArray,List.getElem_cons_succ,List.getElem_cons_zero]
     go_simp
     refine TS.go HK1.out growsP (fun hS=>?_)
     clear HK1 K1
     (try simp only [nS])
     refine TS.weB 14 ?_
     clear hS
     go_wp2_with fail
     go_returns
     exact⟨by rw [HR.out];rfl,growsP⟩
   ·have HR:Hid (op2 9 x y=numR rd (mulF x.n x.d y.n y.d)):=Lib.hid (by rw [←HRD2.out];rfl)
    generalize mulF x.n x.d y.n y.d=q at *
    obtain⟨qn,qd,qc⟩:=q
    dsimp only at HM
    by_cases hq:qc=0
    focus
     subst hq
     unfold numR at HR
     rw [if_pos rfl]at HR
    rotate_left
    focus
     unfold numR at HR
     rw [if_neg hq]at HR
     have hq1:(qc !=0)=true:=by simpa using hq
     clear hq
    rotate_left
    all_goals
     go_wp2_with fail
     refine TS.begin [14] (World.Grows ((w.alloc (.cells #[.int .i64 0,.bool false,.int .i64 0,.int .i64 0] 51)).grow bs0 d0)) (by kernel_rfl) (by kernel_rfl) growsP (fun hS=>?_)
     refine TS.wkB 0 hS ?_
     refine TS.wkB 1 hS ?_
     refine TS.wkB 2 hS ?_
     refine TS.wkB 3 hS ?_
     refine TS.wkB 4 hS ?_
     refine TS.wkB 5 hS ?_
     refine TS.wkB 6 hS ?_
     refine TS.wkB 7 hS ?_
     refine TS.one (i:=8) (by decide+kernel) rfl (fun K1 hK1=>?_)
     have HK1:=Lib.hid hK1
     clear hK1 hS
     dsimp only [List.getElem_toArray,List.getElem_cons_succ,List.getElem_cons_zero]
     go_simp
     go_at_call 84
     refine(HM.out _).mono ?_
     rintro e' wA ⟨rfl,bA,dA,rfl⟩
     refine TS.go HK1.out growsP (fun hS=>?_)
     clear HK1 K1
     (try simp only [nS])
     refine TS.wkB 9 hS ?_
     refine TS.wkB 10 hS ?_
     refine TS.wkB 11 hS ?_
     refine TS.wkB 12 hS ?_
     refine TS.one (i:=13) (by decide+kernel) rfl (fun K1 hK1=>?_)
     have HK1:=Lib.hid hK1
     clear hK1 hS
     dsimp only [List.getElem_toArray,List.getElem_cons_succ,List.getElem_cons_zero]
     go_simp
     refine TS.go HK1.out growsP (fun hS=>?_)
     clear HK1 K1
     (try simp only [nS])
     refine TS.weB 14 ?_
     clear hS
     go_wp2_with fail
     go_returns
     exact⟨by rw [HR.out];rfl,growsP⟩
   ·have HR:Hid (op2 10 x y=numR rd (divF x.n x.d y.n y.d)):=Lib.hid (by rw [←HRD2.out];rfl)
    generalize divF x.n x.d y.n y.d=q at *
    obtain⟨qn,qd,qc⟩:=q
    dsimp only at HD
    by_cases hq:qc=0
    focus
     subst hq
     unfold numR at HR
     rw [if_pos rfl]at HR
    rotate_left
    focus
     unfold numR at HR
     rw [if_neg hq]at HR
     have hq1:(qc !=0)=true:=by simpa using hq
     clear hq
    rotate_left
    all_goals
     go_wp2_with fail
     refine TS.begin [14] (World.Grows ((w.alloc (.cells #[.int .i64 0,.bool false,.int .i64 0,.int .i64 0] 51)).grow bs0 d0)) (by kernel_rfl) (by kernel_rfl) growsP (fun hS=>?_)
     refine TS.wkB 0 hS ?_
     refine TS.wkB 1 hS ?_
     refine TS.wkB 2 hS ?_
     refine TS.wkB 3 hS ?_
     refine TS.wkB 4 hS ?_
     refine TS.wkB 5 hS ?_
     refine TS.wkB 6 hS ?_
     refine TS.wkB 7 hS ?_
     refine TS.one (i:=8) (by decide+kernel) rfl (fun K1 hK1=>?_)
     have HK1:=Lib.hid hK1
     clear hK1 hS
     dsimp only [List.getElem_toArray,List.getElem_cons_succ,List.getElem_cons_zero]
     go_simp
     go_at_call 85
     refine(HD.out _).mono ?_
     rintro e' wA ⟨rfl,bA,dA,rfl⟩
     refine TS.go HK1.out growsP (fun hS=>?_)
     clear HK1 K1
     (try simp only [nS])
     refine TS.wkB 9 hS ?_
     refine TS.wkB 10 hS ?_
     refine TS.wkB 11 hS ?_
     refine TS.wkB 12 hS ?_
     refine TS.one (i:=13) (by decide+kernel) rfl (fun K1 hK1=>?_)
     have HK1:=Lib.hid hK1
     clear hK1 hS
     dsimp only [List.getElem_toArray,List.getElem_cons_succ,List.getElem_cons_zero]
     go_simp
     refine TS.go HK1.out growsP (fun hS=>?_)
     clear HK1 K1
     (try simp only [nS])
     refine TS.weB 14 ?_
     clear hS
     go_wp2_with fail
     go_returns
     exact⟨by rw [HR.out];rfl,growsP⟩
   ·have HQ:Hid (op2 19 x y=(if c≤0 then .num rd x.n x.d else .num rd y.n y.d,0)):=Lib.hid (by rw [HXD.out (by omega),←HCC.out];rfl)
    have HR1:∀r,r=(Val.num rd x.n x.d,(0:Int))→Ending.returned (.tuple #[.agg #[.int .i64 rd,.bool false,.int .i64 x.n,.int .i64 x.d],.int .i64 0])= .returned (.tuple #[.agg #[.int .i64 r.1.dim,.bool r.1.yes,.int .i64 r.1.n,.int .i64 r.1.d],.int .i64 r.2]):=fun r h=>by subst h;rfl
    have HR2:∀r,r=(Val.num rd y.n y.d,(0:Int))→Ending.returned (.tuple #[.agg #[.int .i64 rd,.bool false,.int .i64 y.n,.int .i64 y.d],.int .i64 0])= .returned (.tuple #[.agg #[.int .i64 r.1.dim,.bool r.1.yes,.int .i64 r.1.n,.int .i64 r.1.d],.int .i64 r.2]):=fun r h=>by subst h;rfl
    have HRR1:=Lib.hid HR1
    have HRR2:=Lib.hid HR2
    clear HR1 HR2
    rcases(show c<0∨c=0∨0<c by omega)with h1|h1|h1
    ·have hq1:(c !=0)=true:=by simp;omega
     have hq2:decide (c<0)=true:=decide_eq_true h1
     go_wp2_with fail
     all_goals
      go_returns
      exact⟨HRR1.out _ (by rw [HQ.out];first|rw [if_pos (by omega)]|rw [if_neg (by omega)]),growsP⟩
    ·subst h1
     go_wp2_with fail
     all_goals
      go_returns
      exact⟨HRR1.out _ (by rw [HQ.out];first|rw [if_pos (by omega)]|rw [if_neg (by omega)]),growsP⟩
    ·have hq1:(c !=0)=true:=by simp;omega
     have hq2:decide (c<0)=false:=decide_eq_false (by omega)
     go_wp2_with fail
     all_goals
      trace_state
      go_returns
      exact⟨HRR2.out _ (by rw [HQ.out];first|rw [if_pos (by omega)]|rw [if_neg (by omega)]),growsP⟩
   ·have HQ:Hid (op2 20 x y=(if 0≤c then .num rd x.n x.d else .num rd y.n y.d,0)):=Lib.hid (by rw [HXD.out (by omega),←HCC.out];rfl)
    have HR1:∀r,r=(Val.num rd x.n x.d,(0:Int))→Ending.returned (.tuple #[.agg #[.int .i64 rd,.bool false,.int .i64 x.n,.int .i64 x.d],.int .i64 0])= .returned (.tuple #[.agg #[.int .i64 r.1.dim,.bool r.1.yes,.int .i64 r.1.n,.int .i64 r.1.d],.int .i64 r.2]):=fun r h=>by subst h;rfl
    have HR2:∀r,r=(Val.num rd y.n y.d,(0:Int))→Ending.returned (.tuple #[.agg #[.int .i64 rd,.bool false,.int .i64 y.n,.int .i64 y.d],.int .i64 0])= .returned (.tuple #[.agg #[.int .i64 r.1.dim,.bool r.1.yes,.int .i64 r.1.n,.int .i64 r.1.d],.int .i64 r.2]):=fun r h=>by subst h;rfl
    have HRR1:=Lib.hid HR1
    have HRR2:=Lib.hid HR2
    clear HR1 HR2
    rcases(show c<0∨c=0∨0<c by omega)with h1|h1|h1
    ·have hq1:(c !=0)=true:=by simp;omega
     have hq2:decide (c<0)=true:=decide_eq_true h1
     go_wp2_with fail
     all_goals
      go_returns
      exact⟨HRR2.out _ (by rw [HQ.out];first|rw [if_pos (by omega)]|rw [if_neg (by omega)]),growsP⟩
    ·subst h1
     go_wp2_with fail
     all_goals
      go_returns
      exact⟨HRR1.out _ (by rw [HQ.out];first|rw [if_pos (by omega)]|rw [if_neg (by omega)]),growsP⟩
    ·have hq1:(c !=0)=true:=by simp;omega
     have hq2:decide (c<0)=false:=decide_eq_false (by omega)
     go_wp2_with fail
     all_goals
      trace_state
      go_returns
      exact⟨HRR1.out _ (by rw [HQ.out];first|rw [if_pos (by omega)]|rw [if_neg (by omega)]),growsP⟩
   ·obtain rfl:rd=1:=HX1.out hop
    rcases(show op=11∨op=12∨op=13∨op=14∨op=15∨op=16 by omega)with rfl|rfl|rfl|rfl|rfl|rfl
    focus
     have HQ:Hid (op2 11 x y=(.truth (cmpB 11 c),0)):=Lib.hid (by rw [←HCC.out];rfl)
    rotate_left
    focus
     have HQ:Hid (op2 12 x y=(.truth (cmpB 12 c),0)):=Lib.hid (by rw [←HCC.out];rfl)
    rotate_left
    focus
     have HQ:Hid (op2 13 x y=(.truth (cmpB 13 c),0)):=Lib.hid (by rw [←HCC.out];rfl)
    rotate_left
    focus
     have HQ:Hid (op2 14 x y=(.truth (cmpB 14 c),0)):=Lib.hid (by rw [←HCC.out];rfl)
    rotate_left
    focus
     have HQ:Hid (op2 15 x y=(.truth (cmpB 15 c),0)):=Lib.hid (by rw [←HCC.out];rfl)
    rotate_left
    focus
     have HQ:Hid (op2 16 x y=(.truth (cmpB 16 c),0)):=Lib.hid (by rw [←HCC.out];rfl)
    rotate_left
    all_goals
     go_wp2_with fail
     go_returns
     exact⟨by rw [HQ.out];simp [cmpB,Val.truth]<;>(by_cases h:c=0<;>simp [h]),growsP⟩
theorem apply1_any(op:Int)(x:Val)(b o cp:Nat)(w:World)(hx:x.ok=true)(h4:4≤op)(h6:op≤6)(hres:resD op [x.dim]≠0)(hb:b<w.heap.size)
 (c0:w.cell? ⟨b,o,none⟩=some (.int .i64 x.dim)) (c1:w.cell? ⟨b,o+1,none⟩=some (.bool x.yes)) (c2:w.cell? ⟨b,o+2,none⟩=some (.int .i64 x.n)) (c3:w.cell? ⟨b,o+3,none⟩=some (.int .i64 x.d)) :
 Calls Tryd.prog 71 #[.int .i64 op,.slice (some ⟨b,o,none⟩) 1 cp] w (ApP (op1 op x) w):=by
 obtain⟨i0,hi,hz0,hz1,hz2⟩:=info_parts infoY
 have hdx:=Val.ok_dim hx
 have hrg:=Val.ok_rng hx
 have HA:=Lib.hid (fun w=>Neg1_any x.n x.d w hrg.1.1 hrg.1.2 hrg.2.1 hrg.2.2)
 have HS:=Lib.hid (fun w=>Floor1_any x.n x.d w hrg.1.1 hrg.1.2 hrg.2.1 hrg.2.2)
 unfold frI at HS
 unfold frV at HA
 have HAN:Hid (((1:Nat):Int)=argsN op):=Lib.hid (by unfold argsN;rw [if_neg (by omega),if_pos (by omega)];rfl)
 have HDX:=Lib.hid hdx
 have HOP:Hid (op=4∨op=5∨op=6):=Lib.hid (by omega)
 have HNB:Hid (op=4∨op=6→vfrac x.n x.d=true∧resD op [x.dim]=x.dim):=Lib.hid (fun h=>by
  have hr:resD op [x.dim]=if x.dim≠1 then x.dim else 0:=by rcases h with rfl|rfl<;>rfl
  rw [hr]at hres ⊢
  split at hres<;>rename_i hd
  ·rw [if_pos hd];exact⟨(Val.ok_num hx hd).2.2.2,rfl⟩
  ·exact absurd rfl hres)
 have HX1:Hid (op=5→resD op [x.dim]=1):=Lib.hid (fun h=>by
  subst h
  have hr:resD 5 [x.dim]=if x.dim=1 then 1 else 0:=rfl
  rw [hr]at hres ⊢
  split at hres<;>rename_i hd
  ·rw [if_pos hd]
  ·exact absurd rfl hres)
 clear hdx hres hx hrg h4 h6
 go_enter Tryd.func71,Tryd.ntmps71
 go_wp2_with fail
 go_loopw [6,7] (fun v6 v7 wr=>∃(k:Nat) (vb:Value),vb=v6∧k≤1∧v7= .int .i64 k∧Below (w.heap.size+1) (w.alloc (.cells #[.int .i64 0,.bool false,.int .i64 0,.int .i64 0] 51)) wr∧wr.ownsRow (w.heap.size+1) 3 1 vb k (([x.dim].map (Value.int .i64)).take k)) (fun _ v7 _=>1-(intOf v7).toNat)
 case atStart=>exact⟨0,_,rfl,by omega,rfl,.refl _ _,World.ownsRow_nil _ _ _ _⟩
 case round=>
  obtain⟨k,vb,rfl,hk,rfl,hB,hown⟩:=hrel
  have HB:=Lib.hid hB
  have HO:=Lib.hid hown
  have hsW:w.heap.size+1≤wr.heap.size:=by have:=hB.size;simpa using this
  have hbr:b<wr.heap.size:=by omega
  have hcc:∀j u,w.cell? ⟨b,j,none⟩=some u→wr.cell? ⟨b,j,none⟩=some u:=fun j u h=>(hB.cell (p:=⟨b,j,none⟩) (by show b<_;omega)).trans ((World.cell?_alloc_lt w _ ⟨b,j,none⟩ hb).trans h)
  by_cases hlt:k<1
  ·obtain rfl:k=0:=by omega
   have x0:=hcc _ _ c0
   clear hlt hB hown hcc c0 c1 c2 c3
   go_wp2_with (at_builtin;refine wpList_append_own _ rfl _ _ 22 rfl (w.heap.size+1) 3 i0 (.int .i64 0) 1 8 Tryd.underlying22 hi hz0 hz1 hz2 rfl (by decide) _ _ _ rfl (HO.out.alloc _) ⟨wr.heap.size,0,none⟩ 1 1 [.int .i64 x.dim] rfl rfl ?c1 ?c2 ?c3 ?c4 ?c5 ?_)
   case c1=>exact news_cells _ [.int .i64 x.dim] _ _ (by simp)
   case c2=>intro u hu;simp at hu;subst hu;rfl
   case c3=>decide
   case c4=>decide
   case c5=>simp;try omega
   intro v' w1 hown' hgrow _
   have HB1:=Lib.hid ((show Below (w.heap.size+1) (w.alloc (.cells #[.int .i64 0,.bool false,.int .i64 0,.int .i64 0] 51)) _ from by have:=HB.out;(exact belB)).grown hgrow (by simp;try omega) (fun k hk=>(HO.out.lt k hk).1))
   have HO1:=Lib.hid hown'
   clear hown' hgrow
   go_wp2_with fail
   go_roundw
   case rel=>exact⟨1,_,rfl,by omega,by first|rfl|go_num,HB1.out,HO1.out⟩
   case measure=>simp [intOf]
  ·obtain rfl:k=1:=by omega
   obtain⟨g,cap,rfl⟩:∃g cap,vb= .slice (some ⟨g,0,none⟩) 1 cap:=by
    rcases row_form hown with ⟨-,h⟩|⟨g,cap,rfl,-⟩
    ·omega
    ·exact⟨g,cap,rfl⟩
   have HOW:Hid (wr.ownsRow (w.heap.size+1) 3 1 (.slice (some ⟨g,0,none⟩) [x.dim].length cap) [x.dim].length ([x.dim].map (Value.int .i64))):=Lib.hid hown
   have HRS:=Lib.hid (fun w' (hg:wr.Grows w')=>res5_all op [x.dim] (w.heap.size+1) g cap w' (by have:=HOP.out;omega) (by have:=HOP.out;omega) HAN.out (by intro z hz;have:=HDX.out;simp at hz;omega) (own_grow HOW.out hg))
   unfold Res5P at HRS
   obtain⟨rd,hrd⟩:∃rd,resD op [x.dim]=rd:=⟨_,rfl⟩
   rw [hrd]at HRS HNB HX1
   clear hrd hown hcc
   obtain⟨bs0,d0,rfl⟩:World.Grows (w.alloc (.cells #[.int .i64 0,.bool false,.int .i64 0,.int .i64 0] 51)) wr:=.of_below (by simpa using HB.out)
   clear hB HB HO
   have hop:=HOP.out
   rcases hop with rfl|rfl|rfl
   ·obtain⟨hv,rfl⟩:=HNB.out (.inl rfl)
    have hn:negF x.n x.d=(-x.n,x.d,0):=by unfold negF;rw [if_pos hv]
    have HR:Hid (op1 4 x=(.num x.dim (-x.n) x.d,0)):=Lib.hid (by show numR x.dim (negF x.n x.d)=_;rw [hn];rfl)
    rw [hn]at HA
    clear hv hn
    go_wp2_with (first
     |(go_at_call 79;refine(HRS.out _ growsP).mono ?_;rintro e' w' ⟨rfl,bs,d,rfl⟩)
     |(go_at_call 80;refine(HA.out _).mono ?_;rintro e' w' ⟨rfl,bs2,d2,rfl⟩))
    go_returns
    exact⟨by rw [HR.out];rfl,growsP⟩
   ·obtain rfl:=HX1.out rfl
    have HR:Hid (op1 5 x=(.truth (!x.yes),0)):=Lib.hid rfl
    go_wp2_with (go_at_call 79;refine(HRS.out _ growsP).mono ?_;rintro e' w' ⟨rfl,bs,d,rfl⟩)
    go_returns
    exact⟨by rw [HR.out];rfl,growsP⟩
   ·obtain⟨hv,rfl⟩:=HNB.out (.inr rfl)
    have hn:(floorF x.n x.d).2=0:=by unfold floorF;rw [if_pos hv]
    have HR:Hid (op1 6 x=(.num x.dim (floorF x.n x.d).1 1,0)):=Lib.hid (by show numR x.dim ((floorF x.n x.d).1,1,(floorF x.n x.d).2)=_;rw [hn];rfl)
    rw [hn]at HS
    clear hv hn
    generalize(floorF x.n x.d).1=fl at *
    go_wp2_with (first
     |(go_at_call 79;refine(HRS.out _ growsP).mono ?_;rintro e' w' ⟨rfl,bs,d,rfl⟩)
     |(go_at_call 81;refine(HS.out _).mono ?_;rintro e' w' ⟨rfl,bs2,d2,rfl⟩))
    go_returns
    exact⟨by rw [HR.out];rfl,growsP⟩
end Go.Proofs.YthionhbjmheimaaDoor
namespace Go.Proofs.YthionhbjmheimaaDoor
open Go.RowKit Go.Sort
theorem sub_cellsY{w:World}{b off:Nat}{zs:List Int}(hc:∀i,i<zs.length→w.cell? ⟨b,off+i,none⟩=some (.int .i64 (zs.getD i 0)))(s:Nat)(l:List Int)(hl:∀(j:Nat) (x:Int),l[j]? =some x→zs[s+j]? =some x) :
 ∀(j:Nat) (u:Value),(l.map (Value.int .i64))[j]? =some u→w.cell? ((⟨b,off+s,none⟩:Addr).add j)=some u:=by
 intro j u hu
 rw [List.getElem?_map]at hu
 cases hx:l[j]? with
 |none=>rw [hx]at hu;cases hu
 |some x=>
  rw [hx]at hu
  obtain rfl:Value.int .i64 x=u:=by simpa using hu
  have h1:=hl j x hx
  have h2:=(List.getElem?_eq_some_iff.1 h1).1
  rw [show(⟨b,off+s,none⟩:Addr).add j=⟨b,off+s+j,none⟩by unfold Addr.add;split<;>simp_all,Nat.add_assoc,hc _ h2,List.getD_eq_getElem?_getD,h1];rfl
theorem sub_cells0{w:World}{b:Nat}{zs:List Int}(hc:∀i,i<zs.length→w.cell? ⟨b,i,none⟩=some (.int .i64 (zs.getD i 0)))(s:Nat)(l:List Int)(hl:∀(j:Nat) (x:Int),l[j]? =some x→zs[s+j]? =some x) :
 ∀(j:Nat) (u:Value),(l.map (Value.int .i64))[j]? =some u→w.cell? ((⟨b,s,none⟩:Addr).add j)=some u:=by
 have:=sub_cellsY (w:=w) (b:=b) (off:=0) (zs:=zs) (fun i hi=>by rw [Nat.zero_add];exact hc i hi) s l hl
 rwa [Nat.zero_add]at this
theorem take_someY{l:List Int}{a j:Nat}{x:Int}(h:(l.take a)[j]? =some x):l[j]? =some x:=by
 rw [List.getElem?_take]at h
 split at h
 ·exact h
 ·cases h
theorem own_oneY(zs:List Int):∀u∈zs.map (Value.int .i64),u.oneCell'=true:=by
 intro u hu
 obtain⟨z,_,rfl⟩:=List.mem_map.1 hu
 rfl
theorem best8_good(l:List Int)(n:Int)(v:Value)(w:World)(hy:YrAt w v l)(h1:1≤n)(h2:n≤45)(h3:yearsOk l=true):Calls Tryd.prog 69 #[v,.int .i64 n] w fun e w'=>e= .returned (frV (bestF l n))∧w.Grows w':=by
 rw [bestF_good h1 h2 h3]
 obtain⟨i0,hi,hz0,hz1,hz2⟩:=info_parts infoY
 obtain⟨nn,rfl⟩:=Int.eq_ofNat_of_zero_le (show 0≤n by omega)
 have HY:=Lib.hid hy
 have HA:=Lib.hid (fun w' (hg:w.Grows w')=>amounts_any l v w' (HY.out.grows hg))
 rw [h3]at HA
 have HB3:=Lib.hid h3
 have hl200:l.length≤200:=(years_mem h3).1
 have HBS:Hid (bestS l (nn:Int)=((sortD l).take nn).sum):=Lib.hid rfl
 have HM:=Lib.hid (fun z (h1:0≤z) (h2:z≤200000000000000) w=>MakeFraction_any z (nn:Int) w (by omega) (by omega) (by omega) (by omega))
 obtain⟨h1000,a,c,rfl,-⟩:=hy
 unfold frV at *
 dsimp only
 generalize bestS l (nn:Int)=BS at *
 clear h3
 go_enter Tryd.func69,Tryd.ntmps69
 go_wp2_with (go_at_call 24;refine(HA.out _ (.of_below belB)).mono ?_;rintro e' w' ⟨rfl,rfl⟩)
 go_loopw [6,7,8] (fun v6 v7 _ wr=>∃(k:Nat) (vb:Value),vb=v6∧k≤l.length∧v7= .int .i64 k∧(k=0→vb= .slice none 0 0)∧Below (w.heap.size+1) (w.alloc (.cells #[.int .i64 0,.int .i64 0] 29)) wr∧wr.ownsRow (w.heap.size+1) 3 1 vb k ((sortK l k).map (Value.int .i64))) (fun _ v7 _ _=>l.length-(intOf v7).toNat)
 case atStart=>exact⟨0,_,rfl,by omega,rfl,fun _=>rfl,.refl _ _,World.ownsRow_nil _ _ _ _⟩
 case round=>
  obtain⟨k,vb,rfl,hk,rfl,hnil,hB,hown⟩:=hrel
  obtain⟨WR,rfl⟩:∃WR,WR=wr:=⟨_,rfl⟩
  have HB:=Lib.hid hB
  have HO:=Lib.hid hown
  have hsW:w.heap.size+1≤WR.heap.size:=by have:=hB.size;simpa using this
  have hG:w.Grows WR:=.of_below ((show Below w.heap.size w _ from by(exact belB)).trans (hB.mono (by omega)))
  have hsk:=sortK_len l k hk
  by_cases hlt:k<l.length
  ·obtain⟨-,a',c',hv,hcs⟩:=HY.out.grows hG
   simp only [Value.slice.injEq,true_and]at hv
   obtain⟨rfl,rfl⟩:=hv
   rcases hcs with h0|⟨b,off,rfl,hbw,hx⟩
   ·omega
   have x0:=hx k hlt
   have d1:(k:Int)<(l.length:Int):=by omega
   have HSP:=Lib.hid (fun a0=>sortK_split l k a0 hlt)
   have HKL:=Lib.hid hlt
   have hlt0:0<l.length:=by omega
   have hYB:YrAt WR vb (sortK l k):=YrAt.of_rowB hown hsk.symm rfl (by omega)
   have HYB:=Lib.hid hYB
   have hform:=row_form hown
   clear hx hlt hB hown hYB
   generalize l.getD k 0=x at *
   generalize hzs:sortK l k=zs at *
   have HZS:=Lib.hid hzs
   clear hzs
   rcases Nat.eq_zero_or_pos k with hk0|hkp
   ·subst hk0
    obtain rfl:=hnil rfl
    have hz0':zs= []:=List.eq_nil_of_length_eq_zero hsk
    subst hz0'
    have HI2:Hid (sortK l (0+1)= [x]):=Lib.hid (by have:=HSP.out 0 (Nat.le_refl _) (.inl rfl) (fun j h1 h2=>by omega);simpa using this)
    have d0:0<l.length:=hlt0
    have HF:Hid (∀q,Below (w.heap.size+1) (w.alloc (.cells #[.int .i64 0,.int .i64 0] 29)) (WR.drewN q)∧(WR.drewN q).cell? ⟨b,off,none⟩=some (.int .i64 x)∧b<(WR.drewN q).heap.size∧w.heap.size+1≤(WR.drewN q).heap.size):=Lib.hid (fun q=>⟨HB.out.drewN q,x0,hbw,hsW⟩)
    go_wp2_with fail
    go_loopw [8] (fun v8 wr=>v8= .int .i64 0∧∃q,wr=WR.drewN q) (fun _ _=>0)
    case atStart=>exact⟨rfl,0,rfl⟩
    case round=>
     obtain⟨rfl,q,rfl⟩:=hrel
     go_wp2_with fail
     all_goals try(first|(go_quiet (fail);go_wp2_with fail)|(go_region;go_wp2_with fail))
     simp only [World.drewN_drewN]
     have HF1:=HF.out (q+nq)
     clear HF HB HO x0 hbw hsW HYB hG
     generalize WR.drewN (q+nq)=WR at *
     obtain⟨hB,x0,hbw,hsW⟩:=HF1
     have HB:=Lib.hid hB
     clear hB
     refine TG.begin 14 (fun wS=>wS.cell? ⟨b,off,none⟩=some (.int .i64 x)) (by kernel_rfl) (by kernel_rfl) (by simpa using x0) (fun hS=>?_)
     refine TG.tkB 0 hS ?_
     refine TG.tkB 1 hS ?_
     refine TG.tkB 2 hS ?_
     refine TG.tkB 4 hS ?_
     refine TG.tkB 5 hS ?_
     refine TG.tkB 6 hS ?_
     refine TG.tkB 7 hS ?_
     refine TG.tkB 10 hS ?_
     refine TG.tkB 11 hS ?_
     refine TG.tkB 12 hS ?_
     refine TG.two (i:=3) (k:=8) (by kernel_rfl) rfl rfl (fun K1 hK1=>?_) (fun K1 hK1=>?_)
     focus
      refine step_append_noneY rfl _ _ 22 rfl WR.heap.size 3 i0 1 Tryd.underlying22 hi (.slice none 0 0) 0 [] rfl (World.ownsRow_nil _ _ _ _) rfl ?_
      refine TG.go hK1 ?_ (fun hS=>?_)
      focus exact hS
      clear hK1 K1
      (try simp only [nS])
      refine TG.one (i:=8) (by kernel_rfl) rfl (fun K1 hK1=>?_)
      go_simp
      refine TG.go hK1 ?_ (fun hS=>?_)
      focus exact(by rw [show((WR.alloc (.cells #[.int .i64 x] 3)).drew).cell? ⟨b,off,none⟩=WR.cell? ⟨b,off,none⟩from World.cell?_alloc_lt WR _ ⟨b,off,none⟩ hbw];exact x0)
     rotate_left
     focus
      go_simp
      refine TG.go hK1 ?_ (fun hS=>?_)
      focus exact(by rw [show((WR.alloc (.cells #[.int .i64 x] 3)).drew).cell? ⟨b,off,none⟩=WR.cell? ⟨b,off,none⟩from World.cell?_alloc_lt WR _ ⟨b,off,none⟩ hbw];exact x0)
      clear hK1 K1
      (try simp only [nS])
      refine TG.one (i:=3) (by kernel_rfl) rfl (fun K1 hK1=>?_)
      refine step_append_noneY rfl _ _ 22 rfl WR.heap.size 3 i0 1 Tryd.underlying22 hi (.slice none 0 0) 0 [] rfl (World.ownsRow_nil _ _ _ _) rfl ?_
      refine TG.go hK1 ?_ (fun hS=>?_)
      focus exact hS
     rotate_left
     all_goals
      clear hK1 K1
      (try simp only [nS])
      refine TG.one (i:=9) (by kernel_rfl) rfl (fun K1 hK1=>?_)
      refine step_append_ownY rfl _ _ 22 rfl WR.heap.size 3 i0 (.int .i64 0) 1 8 Tryd.underlying22 hi hz0 hz1 hz2 rfl (by decide) (.slice none 0 0) 0 [] rfl (World.ownsRow_nil _ _ _ _) ⟨WR.heap.size,0,none⟩ 1 1 ([x].map (Value.int .i64)) rfl rfl ?_ (own_oneY _) (by decide) (by decide) (by simp) ?_
      focus exact news_cells _ [.int .i64 x] _ _ (by simp)
      intro v2 w2 hown2 hgrow2
      have HB2:=Lib.hid (Below.grown ((Below.refl WR.heap.size WR).alloc (Nat.le_refl _) (.cells #[.int .i64 x] 3)).drew hgrow2 (by simp) (fun k hk=>by cases hk))
      have HO2:=Lib.hid hown2
      clear hown2 hgrow2
      refine TG.go hK1 ?_ (fun hS=>?_)
      focus exact(HB2.out.cell (p:=⟨b,off+0,none⟩) hbw).trans x0
      clear hK1 K1
      (try simp only [nS])
      refine TG.one (i:=13) (by kernel_rfl) rfl (fun K1 hK1=>?_)
      refine step_append_noneY rfl _ _ 22 rfl WR.heap.size 3 i0 1 Tryd.underlying22 hi v2 _ _ rfl HO2.out rfl ?_
      refine TG.go hK1 ?_ (fun hS=>?_)
      focus exact hS
      clear hK1 K1
      (try simp only [nS])
      refine TG.one (i:=14) (by kernel_rfl) rfl (fun K1 hK1=>?_)
      go_simp
      refine hK1 _ _ (fun h=>absurd rfl h) (TG.done (by kernel_rfl) ?_)
      clear hK1 K1 hS
      (try simp only [nS])
      go_wp2_with fail
      go_roundw
      case rel=>
       refine⟨1,v2,rfl,HKL.out,by first|rfl|go_num,fun h=>by omega,HB.out.trans (HB2.out.mono hsW), ?_⟩
       rw [HI2.out]
       have ho2:=ownsRow_base HO2.out hsW
       simpa using ho2
      case measure=>simp [intOf];have:=HKL.out;omega
   ·rcases hform with ⟨-,h0⟩|⟨g,gc,rfl,hg1,hg2⟩
    ·omega
    have HC:Hid (∀i,i<zs.length→WR.cell? ⟨g,i,none⟩=some (.int .i64 (zs.getD i 0))):=Lib.hid (by
     obtain⟨-,a',c',hv,hx⟩:=HYB.out
     simp only [Value.slice.injEq]at hv
     obtain⟨rfl,-,-⟩:=hv
     rcases hx with hx|⟨b',off',he,-,hx⟩
     ·omega
     simp only [Option.some.injEq,Addr.mk.injEq,and_true]at he
     obtain⟨rfl,rfl⟩:=he
     intro i hi
     have:=hx i hi
     rwa [Nat.zero_add]at this)
    have HF:Hid (∀q,Below (w.heap.size+1) (w.alloc (.cells #[.int .i64 0,.int .i64 0] 29)) (WR.drewN q)∧(WR.drewN q).ownsRow (w.heap.size+1) 3 1 (.slice (some ⟨g,0,none⟩) k gc) k (zs.map (Value.int .i64))∧(∀i,i<zs.length→(WR.drewN q).cell? ⟨g,i,none⟩=some (.int .i64 (zs.getD i 0)))∧(WR.drewN q).cell? ⟨b,off+k,none⟩=some (.int .i64 x)∧b<(WR.drewN q).heap.size∧g<(WR.drewN q).heap.size∧w.heap.size+1≤(WR.drewN q).heap.size):=Lib.hid (fun q=>⟨HB.out.drewN q,HO.out,HC.out,x0,hbw,hg2,hsW⟩)
    go_upto_block 2 with fail
    go_cut [8]from 23 to 60 (fun v8 wx=>∃a0 q:Nat,v8= .int .i64 a0∧a0≤k∧Hid ((a0=0∨x≤zs.getD (a0-1) 0)∧∀j,a0≤j→j<k→zs.getD j 0<x)∧wx=WR.drewN q)
    case first=>
     go_wp2_with fail
     go_loopw [8] (fun v8 wr=>∃j q:Nat,j≤k∧v8= .int .i64 j∧Hid (∀i,j≤i→i<k→zs.getD i 0<x)∧wr=WR.drewN q) (fun v8 _=>(intOf v8).toNat)
     case atStart=>exact⟨k,0,by omega,rfl,Lib.hid (fun i h1 h2=>by omega),rfl⟩
     case round=>
      obtain⟨j,q,hj,rfl,HJ,rfl⟩:=hrel
      rcases j with _|j
      ·go_wp2_with fail
       all_goals try(first|(go_quiet (fail);go_wp2_with fail)|(go_region;go_wp2_with fail))
       go_meet
       exact⟨0,_,rfl,by omega,Lib.hid ⟨.inl rfl,fun i _ h2=>HJ.out i (by omega) h2⟩,World.drewN_drewN _ _ _⟩
      ·have hc:=HC.out j (by omega)
       have e0:(0:Int)≤(j:Int):=by omega
       have e1:(j:Int)<(k:Int):=by omega
       have e2:(k:Int)≤900:=by omega
       have HZJ:Hid (zs.getD j 0=zs.getD j 0):=Lib.hid rfl
       obtain⟨z,hz⟩:∃z,zs.getD j 0=z:=⟨_,rfl⟩
       rw [hz]at hc
       have HZ:=Lib.hid hz
       clear hz
       by_cases hle:z<x
       ·have HL:=Lib.hid hle
        go_wp2_with fail
        all_goals try(first|(go_quiet (fail);go_wp2_with fail)|(go_region;go_wp2_with fail))
        go_roundw
        case rel=>exact⟨j,q+nq,by omega,by go_num,Lib.hid (fun i h1 h2=>by
         by_cases ei:i=j
         ·subst ei;rw [HZ.out];exact HL.out
         ·exact HJ.out i (by omega) h2),by first|exact World.drewN_drewN _ _ _|rfl⟩
        case measure=>first|(simp [intOf];done)|(simp [intOf];omega)
       ·have HL:=Lib.hid hle
        go_wp2_with fail
        all_goals try(first|(go_quiet (fail);go_wp2_with fail)|(go_region;go_wp2_with fail))
        go_meet
        exact⟨j+1,_,by go_num,hj,Lib.hid ⟨.inr (by rw [Nat.add_sub_cancel,HZ.out];have:=HL.out;omega),fun i h1 h2=>HJ.out i h1 h2⟩,World.drewN_drewN _ _ _⟩
    obtain⟨a0,q,rfl,ha0,HCUT,rfl⟩:=hcut
    have HF1:=HF.out q
    clear HF HB HO HC x0 hbw hg2 hsW HYB hG
    generalize WR.drewN q=WR at *
    obtain⟨hB,hO,hC,x0,hbw,hg2,hsW⟩:=HF1
    have HB:=Lib.hid hB
    have HO:=Lib.hid hO
    have HC:=Lib.hid hC
    clear hB hO hC
    have HI2:Hid (sortK l (k+1)=zs.take a0++x::zs.drop a0):=Lib.hid (HSP.out a0 ha0 HCUT.out.1 HCUT.out.2)
    have hkc:k≤gc:=by
     obtain⟨-,h0|⟨g',cap',cur,hv,-,-,hcp,-⟩⟩:=HO.out
     ·cases h0.1
     ·simp only [Value.slice.injEq]at hv
      omega
    have had:(a0:Int)≤(gc:Int):=by omega
    have hac:a0≤gc:=by omega
    have had2:(a0:Int)≤(k:Int):=by omega
    by_cases hlt2:a0<k
    ·have hnc:¬gc=a0:=by omega
     have HEQ:Hid (a0≤k):=Lib.hid ha0
     go_wp2_with fail
     refine TG.begin 14 (fun wS=>wS.cell? ⟨b,off+k,none⟩=some (.int .i64 x)) (by kernel_rfl) (by kernel_rfl) (by simpa using x0) (fun hS=>?_)
     refine TG.tkB 0 hS ?_
     refine TG.tkB 1 hS ?_
     refine TG.tkB 2 hS ?_
     refine TG.tkB 4 hS ?_
     refine TG.tkB 5 hS ?_
     refine TG.tkB 6 hS ?_
     refine TG.tkB 7 hS ?_
     refine TG.tkB 10 hS ?_
     refine TG.tkB 11 hS ?_
     refine TG.tkB 12 hS ?_
     refine TG.two (i:=3) (k:=8) (by kernel_rfl) rfl rfl (fun K1 hK1=>?_) (fun K1 hK1=>?_)
     focus
      refine step_append_ownY rfl _ _ 22 rfl WR.heap.size 3 i0 (.int .i64 0) 1 8 Tryd.underlying22 hi hz0 hz1 hz2 rfl (by decide) (.slice none 0 0) 0 [] rfl (World.ownsRow_nil _ _ _ _) ⟨g,0,none⟩ a0 gc ((zs.take a0).map (Value.int .i64)) rfl (by simp;omega) (sub_cells0 (zs:=zs) (w:=WR.drew) HC.out 0 _ (fun j x hx=>by rw [Nat.zero_add];exact take_someY hx)) (own_oneY _) (by unfold maxLen;omega) (by omega) (by simp) ?_
      intro v1 w1 hown1 hgrow1
      simp only [Nat.zero_add,List.nil_append]at hown1
      have hb1:=Below.grown (Below.refl WR.heap.size WR).drew hgrow1 (by simp) (fun k hk=>by cases hk)
      have hs1:=hb1.size
      have HB1:=Lib.hid (hb1.alloc hs1 (.cells #[.int .i64 x] 3))
      have HO1:=Lib.hid (hown1.alloc (.cells #[.int .i64 x] 3))
      have hx1:=(hb1.cell (p:=⟨b,off+k,none⟩) hbw).trans x0
      refine TG.go hK1 ?_ (fun hS=>?_)
      focus exact hx1
      clear hK1 K1
      (try simp only [nS])
      refine TG.one (i:=8) (by kernel_rfl) rfl (fun K1 hK1=>?_)
      go_simp
      refine TG.go hK1 ?_ (fun hS=>?_)
      focus exact(HB1.out.cell (p:=⟨b,off+k,none⟩) hbw).trans x0
      clear hK1 K1
      (try simp only [nS])
      have HC5:Hid ((w1.alloc (.cells #[.int .i64 x] 3)).cell? ⟨w1.heap.size,0,none⟩=some (.int .i64 x)):=Lib.hid (by rw [World.cell?_alloc_at _ _ _ _ rfl];rfl)
      generalize w1.alloc (.cells #[.int .i64 x] 3)=w9 at *
      generalize w1.heap.size=g5 at *
      clear hown1 hgrow1 hb1 hx1
      refine TG.one (i:=9) (by kernel_rfl) rfl (fun K1 hK1=>?_)
      refine step_append_ownY rfl _ _ 22 rfl WR.heap.size 3 i0 (.int .i64 0) 1 8 Tryd.underlying22 hi hz0 hz1 hz2 rfl (by decide) v1 a0 _ rfl HO1.out ⟨g5,0,none⟩ 1 1 ([x].map (Value.int .i64)) rfl rfl ?_ (own_oneY _) (by unfold maxLen;omega) (by omega) HB1.out.size ?_
      focus
       intro j u hu
       rw [addr_add]
       rcases j with _|j
       ·simp at hu;subst hu;exact HC5.out
       ·simp at hu
     rotate_left
     focus
      go_simp
      refine TG.go hK1 ?_ (fun hS=>?_)
      focus exact(by rw [show((WR.alloc (.cells #[.int .i64 x] 3)).drew).cell? ⟨b,off+k,none⟩=WR.cell? ⟨b,off+k,none⟩from World.cell?_alloc_lt WR _ ⟨b,off+k,none⟩ hbw];exact x0)
      clear hK1 K1
      (try simp only [nS])
      refine TG.one (i:=3) (by kernel_rfl) rfl (fun K1 hK1=>?_)
      refine step_append_ownY rfl _ _ 22 rfl WR.heap.size 3 i0 (.int .i64 0) 1 8 Tryd.underlying22 hi hz0 hz1 hz2 rfl (by decide) (.slice none 0 0) 0 [] rfl (World.ownsRow_nil _ _ _ _) ⟨g,0,none⟩ a0 gc ((zs.take a0).map (Value.int .i64)) rfl (by simp;omega) (sub_cells0 (zs:=zs) (w:=(WR.alloc (.cells #[.int .i64 x] 3)).drew) (fun i hi=>by rw [show((WR.alloc (.cells #[.int .i64 x] 3)).drew).cell? ⟨g,i,none⟩=WR.cell? ⟨g,i,none⟩from World.cell?_alloc_lt WR _ ⟨g,i,none⟩ hg2];exact HC.out i hi) 0 _ (fun j x hx=>by rw [Nat.zero_add];exact take_someY hx)) (own_oneY _) (by unfold maxLen;omega) (by omega) (by simp) ?_
      intro v1 w1 hown1 hgrow1
      simp only [Nat.zero_add,List.nil_append]at hown1
      have hb1:=Below.grown ((Below.refl WR.heap.size WR).alloc (Nat.le_refl _) (.cells #[.int .i64 x] 3)).drew hgrow1 (by simp) (fun k hk=>by cases hk)
      have HB1:=Lib.hid hb1
      have HO1:=Lib.hid hown1
      have HC5:Hid (w1.cell? ⟨WR.heap.size,0,none⟩=some (.int .i64 x)):=Lib.hid ((hgrow1.cell_far ⟨WR.heap.size,0,none⟩ (by simp) (by simp [Value.ownBlock])).trans (by show(WR.alloc _).cell? _=_;rw [World.cell?_alloc_at _ _ _ _ rfl];rfl))
      refine TG.go hK1 ?_ (fun hS=>?_)
      focus exact(HB1.out.cell (p:=⟨b,off+k,none⟩) hbw).trans x0
      clear hK1 K1
      (try simp only [nS])
      clear hown1 hgrow1 hb1
      refine TG.one (i:=9) (by kernel_rfl) rfl (fun K1 hK1=>?_)
      refine step_append_ownY rfl _ _ 22 rfl WR.heap.size 3 i0 (.int .i64 0) 1 8 Tryd.underlying22 hi hz0 hz1 hz2 rfl (by decide) v1 a0 _ rfl HO1.out ⟨WR.heap.size,0,none⟩ 1 1 ([x].map (Value.int .i64)) rfl rfl ?_ (own_oneY _) (by unfold maxLen;omega) (by omega) HB1.out.size ?_
      focus
       intro j u hu
       rw [addr_add]
       rcases j with _|j
       ·simp at hu;subst hu;exact HC5.out
       ·simp at hu
     rotate_left
     all_goals
      intro v2 w2 hown2 hgrow2
      have HB2:=Lib.hid (HB1.out.grown hgrow2 HB1.out.size (fun k hk=>(HO1.out.lt k hk).1))
      have HO2:=Lib.hid hown2
      clear hown2 hgrow2
      refine TG.go hK1 ?_ (fun hS=>?_)
      focus exact(HB2.out.cell (p:=⟨b,off+k,none⟩) hbw).trans x0
      clear hK1 K1
      (try simp only [nS])
      refine TG.one (i:=13) (by kernel_rfl) rfl (fun K1 hK1=>?_)
      refine step_append_ownY rfl _ _ 22 rfl WR.heap.size 3 i0 (.int .i64 0) 1 8 Tryd.underlying22 hi hz0 hz1 hz2 rfl (by decide) v2 (a0+1) _ rfl HO2.out ⟨g,a0,none⟩ (k-a0) (gc-a0) ((zs.drop a0).map (Value.int .i64)) rfl (by simp;try omega) (sub_cells0 (w:=w2) (zs:=zs) (fun i hi=>by rw [HB2.out.cell (p:=⟨g,i,none⟩) hg2];exact HC.out i hi) a0 _ (fun j x hx=>by rw [List.getElem?_drop]at hx;exact hx)) (own_oneY _) (by unfold maxLen;omega) (by omega) HB2.out.size ?_
      exact lz3
    ·have HZL:=Lib.hid (show zs.drop a0= []from List.drop_eq_nil_of_le (by omega))
     have HEQ:Hid (a0=k):=Lib.hid (by omega)
     by_cases hcc:gc=a0
     ·go_wp2_with fail
      refine TG.begin 14 (fun wS=>wS.cell? ⟨b,off+k,none⟩=some (.int .i64 x)) (by kernel_rfl) (by kernel_rfl) (by simpa using x0) (fun hS=>?_)
      refine TG.tkB 0 hS ?_
      refine TG.tkB 1 hS ?_
      refine TG.tkB 2 hS ?_
      refine TG.tkB 4 hS ?_
      refine TG.tkB 5 hS ?_
      refine TG.tkB 6 hS ?_
      refine TG.tkB 7 hS ?_
      refine TG.tkB 10 hS ?_
      refine TG.tkB 11 hS ?_
      refine TG.tkB 12 hS ?_
      refine TG.two (i:=3) (k:=8) (by kernel_rfl) rfl rfl (fun K1 hK1=>?_) (fun K1 hK1=>?_)
      focus
       refine step_append_ownY rfl _ _ 22 rfl WR.heap.size 3 i0 (.int .i64 0) 1 8 Tryd.underlying22 hi hz0 hz1 hz2 rfl (by decide) (.slice none 0 0) 0 [] rfl (World.ownsRow_nil _ _ _ _) ⟨g,0,none⟩ a0 a0 ((zs.take a0).map (Value.int .i64)) rfl (by simp;omega) (sub_cells0 (zs:=zs) (w:=WR.drew) HC.out 0 _ (fun j x hx=>by rw [Nat.zero_add];exact take_someY hx)) (own_oneY _) (by unfold maxLen;omega) (by omega) (by simp) ?_
       intro v1 w1 hown1 hgrow1
       simp only [Nat.zero_add,List.nil_append]at hown1
       have hb1:=Below.grown (Below.refl WR.heap.size WR).drew hgrow1 (by simp) (fun k hk=>by cases hk)
       have hs1:=hb1.size
       have HB1:=Lib.hid (hb1.alloc hs1 (.cells #[.int .i64 x] 3))
       have HO1:=Lib.hid (hown1.alloc (.cells #[.int .i64 x] 3))
       have hx1:=(hb1.cell (p:=⟨b,off+k,none⟩) hbw).trans x0
       refine TG.go hK1 ?_ (fun hS=>?_)
       focus exact hx1
       clear hK1 K1
       (try simp only [nS])
       refine TG.one (i:=8) (by kernel_rfl) rfl (fun K1 hK1=>?_)
       go_simp
       refine TG.go hK1 ?_ (fun hS=>?_)
       focus exact(HB1.out.cell (p:=⟨b,off+k,none⟩) hbw).trans x0
       clear hK1 K1
       (try simp only [nS])
       have HC5:Hid ((w1.alloc (.cells #[.int .i64 x] 3)).cell? ⟨w1.heap.size,0,none⟩=some (.int .i64 x)):=Lib.hid (by rw [World.cell?_alloc_at _ _ _ _ rfl];rfl)
       generalize w1.alloc (.cells #[.int .i64 x] 3)=w9 at *
       generalize w1.heap.size=g5 at *
       clear hown1 hgrow1 hb1 hx1
       refine TG.one (i:=9) (by kernel_rfl) rfl (fun K1 hK1=>?_)
       refine step_append_ownY rfl _ _ 22 rfl WR.heap.size 3 i0 (.int .i64 0) 1 8 Tryd.underlying22 hi hz0 hz1 hz2 rfl (by decide) v1 a0 _ rfl HO1.out ⟨g5,0,none⟩ 1 1 ([x].map (Value.int .i64)) rfl rfl ?_ (own_oneY _) (by unfold maxLen;omega) (by omega) HB1.out.size ?_
       focus
        intro j u hu
        rw [addr_add]
        rcases j with _|j
        ·simp at hu;subst hu;exact HC5.out
        ·simp at hu
      rotate_left
      focus
       go_simp
       refine TG.go hK1 ?_ (fun hS=>?_)
       focus exact(by rw [show((WR.alloc (.cells #[.int .i64 x] 3)).drew).cell? ⟨b,off+k,none⟩=WR.cell? ⟨b,off+k,none⟩from World.cell?_alloc_lt WR _ ⟨b,off+k,none⟩ hbw];exact x0)
       clear hK1 K1
       (try simp only [nS])
       refine TG.one (i:=3) (by kernel_rfl) rfl (fun K1 hK1=>?_)
       refine step_append_ownY rfl _ _ 22 rfl WR.heap.size 3 i0 (.int .i64 0) 1 8 Tryd.underlying22 hi hz0 hz1 hz2 rfl (by decide) (.slice none 0 0) 0 [] rfl (World.ownsRow_nil _ _ _ _) ⟨g,0,none⟩ a0 a0 ((zs.take a0).map (Value.int .i64)) rfl (by simp;omega) (sub_cells0 (zs:=zs) (w:=(WR.alloc (.cells #[.int .i64 x] 3)).drew) (fun i hi=>by rw [show((WR.alloc (.cells #[.int .i64 x] 3)).drew).cell? ⟨g,i,none⟩=WR.cell? ⟨g,i,none⟩from World.cell?_alloc_lt WR _ ⟨g,i,none⟩ hg2];exact HC.out i hi) 0 _ (fun j x hx=>by rw [Nat.zero_add];exact take_someY hx)) (own_oneY _) (by unfold maxLen;omega) (by omega) (by simp) ?_
       intro v1 w1 hown1 hgrow1
       simp only [Nat.zero_add,List.nil_append]at hown1
       have hb1:=Below.grown ((Below.refl WR.heap.size WR).alloc (Nat.le_refl _) (.cells #[.int .i64 x] 3)).drew hgrow1 (by simp) (fun k hk=>by cases hk)
       have HB1:=Lib.hid hb1
       have HO1:=Lib.hid hown1
       have HC5:Hid (w1.cell? ⟨WR.heap.size,0,none⟩=some (.int .i64 x)):=Lib.hid ((hgrow1.cell_far ⟨WR.heap.size,0,none⟩ (by simp) (by simp [Value.ownBlock])).trans (by show(WR.alloc _).cell? _=_;rw [World.cell?_alloc_at _ _ _ _ rfl];rfl))
       refine TG.go hK1 ?_ (fun hS=>?_)
       focus exact(HB1.out.cell (p:=⟨b,off+k,none⟩) hbw).trans x0
       clear hK1 K1
       (try simp only [nS])
       clear hown1 hgrow1 hb1
       refine TG.one (i:=9) (by kernel_rfl) rfl (fun K1 hK1=>?_)
       refine step_append_ownY rfl _ _ 22 rfl WR.heap.size 3 i0 (.int .i64 0) 1 8 Tryd.underlying22 hi hz0 hz1 hz2 rfl (by decide) v1 a0 _ rfl HO1.out ⟨WR.heap.size,0,none⟩ 1 1 ([x].map (Value.int .i64)) rfl rfl ?_ (own_oneY _) (by unfold maxLen;omega) (by omega) HB1.out.size ?_
       focus
        intro j u hu
        rw [addr_add]
        rcases j with _|j
        ·simp at hu;subst hu;exact HC5.out
        ·simp at hu
      rotate_left
      all_goals
       intro v2 w2 hown2 hgrow2
       have HB2:=Lib.hid (HB1.out.grown hgrow2 HB1.out.size (fun k hk=>(HO1.out.lt k hk).1))
       have HO2:=Lib.hid hown2
       clear hown2 hgrow2
       refine TG.go hK1 ?_ (fun hS=>?_)
       focus exact(HB2.out.cell (p:=⟨b,off+k,none⟩) hbw).trans x0
       clear hK1 K1
       (try simp only [nS])
       refine TG.one (i:=13) (by kernel_rfl) rfl (fun K1 hK1=>?_)
       refine step_append_ownY rfl _ _ 22 rfl WR.heap.size 3 i0 (.int .i64 0) 1 8 Tryd.underlying22 hi hz0 hz1 hz2 rfl (by decide) v2 (a0+1) _ rfl HO2.out ⟨g,0,none⟩ (k-a0) (0) ((zs.drop a0).map (Value.int .i64)) rfl (by simp;try omega) (by intro j u hu;rw [HZL.out]at hu;simp at hu) (own_oneY _) (by unfold maxLen;omega) (by omega) HB2.out.size ?_
       exact lz3
     ·go_wp2_with fail
      refine TG.begin 14 (fun wS=>wS.cell? ⟨b,off+k,none⟩=some (.int .i64 x)) (by kernel_rfl) (by kernel_rfl) (by simpa using x0) (fun hS=>?_)
      refine TG.tkB 0 hS ?_
      refine TG.tkB 1 hS ?_
      refine TG.tkB 2 hS ?_
      refine TG.tkB 4 hS ?_
      refine TG.tkB 5 hS ?_
      refine TG.tkB 6 hS ?_
      refine TG.tkB 7 hS ?_
      refine TG.tkB 10 hS ?_
      refine TG.tkB 11 hS ?_
      refine TG.tkB 12 hS ?_
      refine TG.two (i:=3) (k:=8) (by kernel_rfl) rfl rfl (fun K1 hK1=>?_) (fun K1 hK1=>?_)
      focus
       refine step_append_ownY rfl _ _ 22 rfl WR.heap.size 3 i0 (.int .i64 0) 1 8 Tryd.underlying22 hi hz0 hz1 hz2 rfl (by decide) (.slice none 0 0) 0 [] rfl (World.ownsRow_nil _ _ _ _) ⟨g,0,none⟩ a0 gc ((zs.take a0).map (Value.int .i64)) rfl (by simp;omega) (sub_cells0 (zs:=zs) (w:=WR.drew) HC.out 0 _ (fun j x hx=>by rw [Nat.zero_add];exact take_someY hx)) (own_oneY _) (by unfold maxLen;omega) (by omega) (by simp) ?_
       intro v1 w1 hown1 hgrow1
       simp only [Nat.zero_add,List.nil_append]at hown1
       have hb1:=Below.grown (Below.refl WR.heap.size WR).drew hgrow1 (by simp) (fun k hk=>by cases hk)
       have hs1:=hb1.size
       have HB1:=Lib.hid (hb1.alloc hs1 (.cells #[.int .i64 x] 3))
       have HO1:=Lib.hid (hown1.alloc (.cells #[.int .i64 x] 3))
       have hx1:=(hb1.cell (p:=⟨b,off+k,none⟩) hbw).trans x0
       refine TG.go hK1 ?_ (fun hS=>?_)
       focus exact hx1
       clear hK1 K1
       (try simp only [nS])
       refine TG.one (i:=8) (by kernel_rfl) rfl (fun K1 hK1=>?_)
       go_simp
       refine TG.go hK1 ?_ (fun hS=>?_)
       focus exact(HB1.out.cell (p:=⟨b,off+k,none⟩) hbw).trans x0
       clear hK1 K1
       (try simp only [nS])
       have HC5:Hid ((w1.alloc (.cells #[.int .i64 x] 3)).cell? ⟨w1.heap.size,0,none⟩=some (.int .i64 x)):=Lib.hid (by rw [World.cell?_alloc_at _ _ _ _ rfl];rfl)
       generalize w1.alloc (.cells #[.int .i64 x] 3)=w9 at *
       generalize w1.heap.size=g5 at *
       clear hown1 hgrow1 hb1 hx1
       refine TG.one (i:=9) (by kernel_rfl) rfl (fun K1 hK1=>?_)
       refine step_append_ownY rfl _ _ 22 rfl WR.heap.size 3 i0 (.int .i64 0) 1 8 Tryd.underlying22 hi hz0 hz1 hz2 rfl (by decide) v1 a0 _ rfl HO1.out ⟨g5,0,none⟩ 1 1 ([x].map (Value.int .i64)) rfl rfl ?_ (own_oneY _) (by unfold maxLen;omega) (by omega) HB1.out.size ?_
       focus
        intro j u hu
        rw [addr_add]
        rcases j with _|j
        ·simp at hu;subst hu;exact HC5.out
        ·simp at hu
      rotate_left
      focus
       go_simp
       refine TG.go hK1 ?_ (fun hS=>?_)
       focus exact(by rw [show((WR.alloc (.cells #[.int .i64 x] 3)).drew).cell? ⟨b,off+k,none⟩=WR.cell? ⟨b,off+k,none⟩from World.cell?_alloc_lt WR _ ⟨b,off+k,none⟩ hbw];exact x0)
       clear hK1 K1
       (try simp only [nS])
       refine TG.one (i:=3) (by kernel_rfl) rfl (fun K1 hK1=>?_)
       refine step_append_ownY rfl _ _ 22 rfl WR.heap.size 3 i0 (.int .i64 0) 1 8 Tryd.underlying22 hi hz0 hz1 hz2 rfl (by decide) (.slice none 0 0) 0 [] rfl (World.ownsRow_nil _ _ _ _) ⟨g,0,none⟩ a0 gc ((zs.take a0).map (Value.int .i64)) rfl (by simp;omega) (sub_cells0 (zs:=zs) (w:=(WR.alloc (.cells #[.int .i64 x] 3)).drew) (fun i hi=>by rw [show((WR.alloc (.cells #[.int .i64 x] 3)).drew).cell? ⟨g,i,none⟩=WR.cell? ⟨g,i,none⟩from World.cell?_alloc_lt WR _ ⟨g,i,none⟩ hg2];exact HC.out i hi) 0 _ (fun j x hx=>by rw [Nat.zero_add];exact take_someY hx)) (own_oneY _) (by unfold maxLen;omega) (by omega) (by simp) ?_
       intro v1 w1 hown1 hgrow1
       simp only [Nat.zero_add,List.nil_append]at hown1
       have hb1:=Below.grown ((Below.refl WR.heap.size WR).alloc (Nat.le_refl _) (.cells #[.int .i64 x] 3)).drew hgrow1 (by simp) (fun k hk=>by cases hk)
       have HB1:=Lib.hid hb1
       have HO1:=Lib.hid hown1
       have HC5:Hid (w1.cell? ⟨WR.heap.size,0,none⟩=some (.int .i64 x)):=Lib.hid ((hgrow1.cell_far ⟨WR.heap.size,0,none⟩ (by simp) (by simp [Value.ownBlock])).trans (by show(WR.alloc _).cell? _=_;rw [World.cell?_alloc_at _ _ _ _ rfl];rfl))
       refine TG.go hK1 ?_ (fun hS=>?_)
       focus exact(HB1.out.cell (p:=⟨b,off+k,none⟩) hbw).trans x0
       clear hK1 K1
       (try simp only [nS])
       clear hown1 hgrow1 hb1
       refine TG.one (i:=9) (by kernel_rfl) rfl (fun K1 hK1=>?_)
       refine step_append_ownY rfl _ _ 22 rfl WR.heap.size 3 i0 (.int .i64 0) 1 8 Tryd.underlying22 hi hz0 hz1 hz2 rfl (by decide) v1 a0 _ rfl HO1.out ⟨WR.heap.size,0,none⟩ 1 1 ([x].map (Value.int .i64)) rfl rfl ?_ (own_oneY _) (by unfold maxLen;omega) (by omega) HB1.out.size ?_
       focus
        intro j u hu
        rw [addr_add]
        rcases j with _|j
        ·simp at hu;subst hu;exact HC5.out
        ·simp at hu
      rotate_left
      all_goals
       intro v2 w2 hown2 hgrow2
       have HB2:=Lib.hid (HB1.out.grown hgrow2 HB1.out.size (fun k hk=>(HO1.out.lt k hk).1))
       have HO2:=Lib.hid hown2
       clear hown2 hgrow2
       refine TG.go hK1 ?_ (fun hS=>?_)
       focus exact(HB2.out.cell (p:=⟨b,off+k,none⟩) hbw).trans x0
       clear hK1 K1
       (try simp only [nS])
       refine TG.one (i:=13) (by kernel_rfl) rfl (fun K1 hK1=>?_)
       refine step_append_ownY rfl _ _ 22 rfl WR.heap.size 3 i0 (.int .i64 0) 1 8 Tryd.underlying22 hi hz0 hz1 hz2 rfl (by decide) v2 (a0+1) _ rfl HO2.out ⟨g,a0,none⟩ (k-a0) (gc-a0) ((zs.drop a0).map (Value.int .i64)) rfl (by simp;try omega) (by intro j u hu;rw [HZL.out]at hu;simp at hu) (own_oneY _) (by unfold maxLen;omega) (by omega) HB2.out.size ?_
       exact lz3
  ·obtain rfl:k=l.length:=by omega
   have hYB:YrAt WR vb (sortD l):=YrAt.of_rowB hown (by rw [←sortK_all,hsk]) (by rw [sortK_all]) (by rw [←sortK_all,hsk];omega)
   have hG1:World.Grows (w.alloc (.cells #[.int .i64 0,.int .i64 0] 29)) WR:=.of_below (by simpa using hB)
   have HSB:=Lib.hid (sumK_bd HB3.out (sortD_perm l))
   have HGB:=Lib.hid (getD_bd HB3.out (sortD_perm l))
   have hz200:(sortD l).length≤200:=by rw [←sortK_all,hsk];omega
   clear HO hown hsk HA
   generalize sortD l=zs at *
   obtain⟨bs9,d9,rfl⟩:=hG1
   obtain⟨-,va,vc,rfl,hvc⟩:=hYB
   have HVC:=Lib.hid hvc
   clear hvc hB hG
   go_wp2_with fail
   go_loopw [9,10] (fun v9 v10 wr=>∃j:Nat,j≤zs.length∧j≤nn∧v10= .int .i64 j∧v9= .int .i64 (sumK zs j)∧wr=World.grow (w.alloc (.cells #[.int .i64 0,.int .i64 0] 29)) bs9 d9) (fun _ v10 _=>nn-(intOf v10).toNat)
   case atStart=>exact⟨0,by omega,by omega,rfl,rfl,rfl⟩
   case round=>
    obtain⟨j,hj,hjn,rfl,rfl,rfl⟩:=hrel
    have hb1:=HSB.out j
    by_cases hlt2:j<zs.length∧j<nn
    ·rcases HVC.out with h0|⟨b,off,rfl,hbw,hx⟩
     ·omega
     have x0:=hx j hlt2.1
     have d1:(j:Int)<(zs.length:Int):=by omega
     have d2:(j:Int)<(nn:Int):=by omega
     have hs:=sumK_succ zs j hlt2.1
     have hb2:=HSB.out (j+1)
     rw [hs]at hb2
     have HS1:=Lib.hid hs
     have HKL:=Lib.hid hlt2
     clear hs hlt2 hx
     generalize zs.getD j 0=z at *
     generalize sumK zs j=sk at *
     go_wp2_with fail
     go_roundw
     case rel=>exact⟨j+1,HKL.out.1,HKL.out.2,by go_num,by rw [HS1.out],by first|rfl|trivial⟩
     case measure=>simp [intOf];have:=HKL.out;omega
    ·have hBS:BS=sumK zs j:=by
      rw [HBS.out]
      unfold sumK
      by_cases e:j=nn
      ·rw [e]
      ·rw [List.take_of_length_le (by omega),List.take_of_length_le (by omega)]
     subst hBS
     have HBB:=Lib.hid hb1
     by_cases d1:(j:Int)<(zs.length:Int)
     ·have d2:¬(j:Int)<(nn:Int):=by omega
      exact lz31
     ·exact lz31
theorem Best8_any(l:List Int)(n:Int)(v:Value)(w:World)(hy:YrAt w v l):Calls Tryd.prog 69 #[v,.int .i64 n] w fun e w'=>e= .returned (frV (bestF l n))∧w.Grows w':=by
 by_cases h:n<1∨45<n∨yearsOk l=false
 ·exact best8_bad l n v w hy h
 ·simp only [not_or,Bool.not_eq_false]at h
  exact best8_good l n v w hy (by omega) (by omega) h.2.2
end Go.Proofs.YthionhbjmheimaaDoor
namespace Go.Proofs.YthionhbjmheimaaDoor
open Go.RowKit
theorem input8_all(v:Vw)(y:Value)(s:ByteArray)(w:World)(hr:VwRng v)(hy:YrAt w y v.years):Calls Tryd.prog 70 #[vwV v y,.string s] w fun r w'=>r= .returned (inV (inputV v s))∧w.Grows w':=by
 by_cases h:inpD s.toList=0∨v.ok=false
 ·exact input8_none v y s w hr hy h
 ·have h1:inpD s.toList≠0:=fun e=>h (.inl e)
  have h2:v.ok=true:=by cases hv:v.ok with
   |true=>rfl
   |false=>exact absurd (.inr hv) h
  by_cases hb:s.toList= [98,97,115,101]
  ·exact input8_base v y s w hr hy h1 h2 hb
  ·exact input8_far v y s w hr hy h1 h2 hb
theorem grow_alloc(Y:World)(bs:Array Obj)(d:Nat)(o:Obj):(Y.grow bs d).alloc o=Y.grow (bs.push o) d:=by
 simp [World.grow,World.alloc]
theorem v8_lit(v:Vw)(y se:Value)(env:List (ByteArray × Val))(e:Ex)(a:Option Addr)(cap:Nat)(w:World)(hy:YrAt w y v.years)(hs:StpAt w se env)(h1:e.op=1):(Calls Tryd.prog 49 #[exV e (.slice a e.args.length cap),vwV v y,se] w (ApP (valueF v env e) w)):=by
 have HV:Hid (valueF v env e=(.num e.dim e.num e.den,0)):=Lib.hid (by rw [valueF_eq];unfold valNode;rw [if_pos h1])
 rw [HV.out]
 obtain⟨ya,yc,rfl⟩:∃a c,y= .slice a v.years.length c:=by
  exact lz11
 obtain⟨sa,sc,rfl⟩:∃a c,se= .slice a env.length c:=by
  exact lz12
 unfold vwV exV
 clear HV hy hs
 go_enter Tryd.func49,Tryd.ntmps49
 go_wp2_with fail
 go_returns
 exact⟨rfl,growsP⟩
theorem v8_best(v:Vw)(y se:Value)(env:List (ByteArray × Val))(e:Ex)(a:Option Addr)(cap:Nat)(w:World)(hy:YrAt w y v.years)(hs:StpAt w se env)(h1:e.op=3):(Calls Tryd.prog 49 #[exV e (.slice a e.args.length cap),vwV v y,se] w (ApP (valueF v env e) w)):=by
 have HV:Hid (valueF v env e=numR 4 (bestF v.years e.num)):=Lib.hid (by rw [valueF_eq];unfold valNode;rw [if_neg (by omega),if_neg (by omega),if_pos h1])
 rw [HV.out]
 have HY:=Lib.hid hy
 have HB:=Lib.hid (fun w' (hg:w.Grows w')=>Best8_any v.years e.num y w' (HY.out.grows hg))
 obtain⟨ya,yc,rfl⟩:∃a c,y= .slice a v.years.length c:=by
  exact lz11
 obtain⟨sa,sc,rfl⟩:∃a c,se= .slice a env.length c:=by
  exact lz12
 unfold vwV exV
 unfold frV at HB
 generalize bestF v.years e.num=q at *
 obtain⟨qn,qd,qc⟩:=q
 dsimp only at HB
 clear HV hy hs
 by_cases hq:qc=0
 ·subst hq
  unfold numR
  rw [if_pos rfl]
  exact lz21
 ·unfold numR
  rw [if_neg hq]
  have hq1:(qc !=0)=true:=by simpa using hq
  clear hq
  exact lz21
theorem v8_input(v:Vw)(y se:Value)(env:List (ByteArray × Val))(e:Ex)(a:Option Addr)(cap:Nat)(w:World)(hr:VwRng v)(hy:YrAt w y v.years)(hs:StpAt w se env)(h1:e.op=2)(x:Val)(hx:inputV v e.name=some x):(Calls Tryd.prog 49 #[exV e (.slice a e.args.length cap),vwV v y,se] w (ApP (valueF v env e) w)):=by
 have HV:Hid (valueF v env e=(x,0)):=Lib.hid (by rw [valueF_eq];unfold valNode;rw [if_neg (by omega),if_pos h1];unfold nameF;rw [hx])
 rw [HV.out]
 have HY:=Lib.hid hy
 have HI:=Lib.hid (fun w' (hg:w.Grows w')=>input8_all v y e.name w' hr (HY.out.grows hg))
 rw [hx]at HI
 unfold inV valV at HI
 obtain⟨xm,xy,xn,xd⟩:=x
 dsimp only at HI
 obtain⟨ya,yc,rfl⟩:∃a c,y= .slice a v.years.length c:=by
  exact lz11
 obtain⟨sa,sc,rfl⟩:∃a c,se= .slice a env.length c:=by
  exact lz12
 unfold vwV exV
 unfold vwV at HI
 clear HV hy hs hx hr
 go_enter Tryd.func49,Tryd.ntmps49
 go_wp2_with (go_at_call 70;refine(HI.out _ growsP).mono ?_;rintro e' w' ⟨rfl,bs,d,rfl⟩)
 go_returns
 exact⟨rfl,growsP⟩
theorem v8_env(v:Vw)(y se:Value)(env:List (ByteArray × Val))(e:Ex)(a:Option Addr)(cap:Nat)(w:World)(hr:VwRng v)(hy:YrAt w y v.years)(hs:StpAt w se env)(h1:e.op=2)(x:Val)(hx:inputV v e.name=none)(hl:lastN env e.name=some x):(Calls Tryd.prog 49 #[exV e (.slice a e.args.length cap),vwV v y,se] w (ApP (valueF v env e) w)):=by
 have HV:Hid (valueF v env e=(x,0)):=Lib.hid (by rw [valueF_eq];unfold valNode;rw [if_neg (by omega),if_pos h1];unfold nameF;rw [hx];dsimp only;rw [hl])
 rw [HV.out]
 have HY:=Lib.hid hy
 have HL:=Lib.hid hl
 have HI:=Lib.hid (fun w' (hg:w.Grows w')=>input8_all v y e.name w' hr (HY.out.grows hg))
 rw [hx]at HI
 unfold inV valV Val.zero at HI
 dsimp only at HI
 obtain⟨ya,yc,rfl⟩:∃a c,y= .slice a v.years.length c:=by
  exact lz11
 obtain⟨sa,sc,rfl⟩:∃a c,se= .slice a env.length c:=by
  exact lz12
 unfold vwV exV
 have HS:=Lib.hid hs
 have hlen:env.length≤1000:=by obtain⟨h,-⟩:=hs;exact h
 unfold vwV at HI
 clear HV hy hs hx hr hl
 go_enter Tryd.func49,Tryd.ntmps49
 go_wp2_with (go_at_call 70;refine(HI.out _ growsP).mono ?_;rintro e' w' ⟨rfl,bs,d,rfl⟩)
 go_loopw [12] (fun v12 wr=>∃(k:Nat) (bs:Array Obj) (d:Nat),k≤env.length∧v12= .int .i64 ((env.length:Int)-1-k)∧Hid (∀j,env.length-k≤j→j<env.length→stN env j≠e.name)∧wr=(((w.alloc (.cells #[.int .i64 2,.int .i64 e.num,.int .i64 e.den,.int .i64 e.dim,.string e.name,.slice a e.args.length cap] 63)).alloc (.cells #[.int .i64 v.age,.int .i64 v.year,.int .i64 v.children,.int .i64 v.insured,.int .i64 v.worked,.int .i64 v.voluntary,.int .i64 v.service,.int .i64 v.equated,.int .i64 v.raising,.int .i64 v.resident,.int .i64 v.bn,.int .i64 v.bd,.slice ya v.years.length yc] 48)).alloc (.cells #[.int .i64 0,.bool false,.int .i64 0,.int .i64 0] 51)).grow bs d) (fun v12 _=>(intOf v12+1).toNat)
 case atStart=>
  exact⟨0,_,_,by omega,by simp,Lib.hid (fun j h1 h2=>by omega),grow_alloc _ _ _ _⟩
 case round=>
  obtain⟨k,bs1,d1,hk,rfl,hno,rfl⟩:=hrel
  by_cases hlt:k<env.length
  ·obtain⟨i,hii⟩:∃i:Nat,(env.length:Int)-1-k=i:=⟨env.length-1-k,by omega⟩
   obtain⟨-,sa',sc',hv2,hcs⟩:=HS.out
   simp only [Value.slice.injEq,true_and]at hv2
   obtain⟨rfl,rfl⟩:=hv2
   rcases hcs with h0|⟨b,off,rfl,hbw,hx⟩
   ·omega
   have hi:i<env.length:=by omega
   obtain⟨s0,s1,s2,s3,s4⟩:=hx i hi
   have HLS:Hid (stN env i=e.name→x=stV env i):=Lib.hid (fun h=>by
    have h2:=lastN_some env e.name i (ByteArray.empty,Val.zero) hi h (fun j hj1 hj2=>hno.out j (by omega) hj2)
    rw [HL.out]at h2
    exact Option.some.inj h2)
   have HNX:Hid (stN env i≠e.name→∀j,env.length-(k+1)≤j→j<env.length→stN env j≠e.name):=Lib.hid (fun h j hj1 hj2=>by
    by_cases ej:j=i
    ·subst ej;exact h
    ·exact hno.out j (by omega) hj2)
   have HII:=Lib.hid (show(env.length:Int)-1-((k+1:Nat):Int)=(i:Int)-1 by omega)
   have HKL:=Lib.hid hlt
   rw [hii]
   have d2:(i:Int)<(env.length:Int):=by omega
   clear hx hii hlt hno
   by_cases heq:stN env i=e.name
   ·have hx1:=HLS.out heq
    have nm:((stN env i).toList==e.name.toList)=true:=by rw [heq];simp
    clear HLS HNX heq HL
    subst hx1
    generalize stN env i=nk at *
    generalize stV env i=xk at *
    obtain⟨xm,xy,xn,xd⟩:=xk
    dsimp only at s1 s2 s3 s4
    go_wp2_with fail
    refine TS.begin [] (World.Grows _) (by kernel_rfl) (by kernel_rfl) grows_drew (fun hS=>?_)
    refine TS.wkB 0 hS ?_
    refine TS.wkB 1 hS ?_
    refine TS.wkB 2 hS ?_
    refine TS.wkB 3 hS ?_
    refine TS.wkB 4 hS ?_
    refine TS.wkB 5 hS ?_
    refine TS.wkB 6 hS ?_
    refine TS.wkB 7 hS ?_
    refine TS.done (by kernel_rfl) ?_
    clear hS
    (try simp only [nS])
    go_wp2_with fail
    go_returns
    exact⟨rfl,growsP⟩
   ·have hno2:=Lib.hid (HNX.out heq)
    have nm:((stN env i).toList==e.name.toList)=false:=by
     cases hq:((stN env i).toList==e.name.toList)with
     |false=>rfl
     |true=>exact absurd (toList_inj (by simpa using hq)) heq
    clear HLS HNX heq HL s1 s2 s3 s4
    generalize stN env i=nk at *
    go_wp2_with fail
    refine TS.begin [] (World.Grows _) (by kernel_rfl) (by kernel_rfl) grows_drew (fun hS=>?_)
    refine TS.wkB 0 hS ?_
    refine TS.wkB 1 hS ?_
    refine TS.wkB 2 hS ?_
    refine TS.wkB 3 hS ?_
    refine TS.wkB 4 hS ?_
    refine TS.wkB 5 hS ?_
    refine TS.wkB 6 hS ?_
    refine TS.wkB 7 hS ?_
    refine TS.done (by kernel_rfl) ?_
    clear hS
    (try simp only [nS])
    go_wp2_with fail
    go_roundw
    case rel=>exact⟨k+1,_,_,HKL.out,by rw [HII.out],hno2,rfl⟩
    case measure=>simp [intOf]
  ·exfalso
   obtain rfl:k=env.length:=by omega
   have:=lastN_none env e.name (ByteArray.empty,Val.zero) (fun j hj=>hno.out j (by omega) hj)
   rw [HL.out]at this
   cases this
end Go.Proofs.YthionhbjmheimaaDoor
