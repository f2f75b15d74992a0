import Derived.Test.YteildlpchhlchaaGreatDoorRAw8
set_option linter.all false
set_option maxHeartbeats 16000000
set_option maxRecDepth 1000000
namespace Go.Proofs.YteildlpchhlchaaGreatDoor
open Go.Proofs.Tryz Tryz List
open Go.RowKit
theorem bR.of_rowB{w:World}{base:Nat}{v:Value}{l:List Int}{k:Nat}{xs:List Value}(h:w.ownsRow base 3 1 v k xs)(hk:k=l.length)(hx:xs=l.map (Value.int .i64))(hl:l.length<=1000):bR w v l:=by
 subst hk hx;exact bR.of_row h hl
theorem oz{w:World}{base:Nat}{v:Value}{k:Nat}{xs:List Value}(h:w.ownsRow base 3 1 v k xs):(v= .slice none 0 0/\k=0)\/∃g cap,v= .slice (some ⟨g,0,none⟩) k cap/\base<=g/\g<w.heap.size:=by
 obtain⟨-,⟨rfl,h0⟩|⟨g,cap,cur,rfl,hb,hg,-⟩⟩:=h
 ·exact .inl ⟨rfl,h0⟩
 ·exact .inr ⟨g,cap,rfl,hb,(Array.getElem?_eq_some_iff.1 hg).1⟩
end Go.Proofs.YteildlpchhlchaaGreatDoor
namespace Go
theorem aI{P:Program}{ops:Array Oper}{o:Oper}{a:Act}{w:World}{K:Act->World->Prop}{Q:Exit->Act->World->Prop}{E:Prop}(hgd:o.guard=none)(s x:Operand)(t:TypeId)
 (ho:o.op= .call {callee:=.builtin .append,args:=#[s,x],argTypes:=#[t,t]})
 (base:Nat) (e:TypeId) (i:TypeInfo) (z:Value) (size bytes:Nat) (ht:P.underlying t=some (.slice e)) (hi:P.info? e=some i) (hz:i.zero=some z)
 (hsize:i.size=size) (hby:i.bytes=bytes) (hzs:z.cells.size=size) (hsz:0<size)
 (v:Value) (n:Nat) (xs:List Value) (hs:a.eval s=v) (hown:w.ownsRow base e size v n xs)
 (ad:Addr) (m c:Nat) (news:List Value) (hx:a.eval x= .slice (some ad) m c) (hl:news.length=m*size) (hnews:∀j u,news[j]? =some u->w.cell? (ad.add j)=some u) (h1:∀u∈news,u.oneCell'=true)
 (h63:n+m<=maxLen) (hbytes:(n+m)*bytes<=140737488355328) (hbase:base<=w.heap.size)
 (h:∀v' w',w'.ownsRow base e size v' (n+m) (xs++news)->w.grownBy w' v.ownBlock->K (a.put o.dst v') w') :
 if Region.wanted o (yielded ops a.tmps)=true then Oper.wp P o a w K Q else E:=by
 have hw:Region.wanted o (yielded ops a.tmps)=true:=by simp [Region.wanted,hgd]
 rw [if_pos hw];exact wp_append_own w s x t ho base e i z size bytes ht hi hz hsize hby hzs hsz v n xs hs hown ad m c news hx hl hnews h1 h63 hbytes hbase fun v' w' h2 h3 _=>h v' w' h2 h3
theorem gM{P:Program}{ops:Array Oper}{o:Oper}{a:Act}{w:World}{K:Act->World->Prop}{Q:Exit->Act->World->Prop}{E:Prop}(hgd:o.guard=none)(s x:Operand)(t:TypeId)
 (ho:o.op= .call {callee:=.builtin .append,args:=#[s,x],argTypes:=#[t,t]})
 (base:Nat) (e:TypeId) (i:TypeInfo) (size:Nat) (ht:P.underlying t=some (.slice e)) (hi:P.info? e=some i)
 (v:Value) (n:Nat) (xs:List Value) (hs:a.eval s=v) (hown:w.ownsRow base e size v n xs) (hx:a.eval x= .slice none 0 0)
 (h:K (a.put o.dst v) w):if Region.wanted o (yielded ops a.tmps)=true then Oper.wp P o a w K Q else E:=by
 have hw:Region.wanted o (yielded ops a.tmps)=true:=by simp [Region.wanted,hgd]
 rw [if_pos hw];have hrun:=run_append_owned_none (P:=P) (w:=w) base t o.type e i size ht hi v n xs hown;unfold Oper.wp;simp [execOp,ho,resolve,invoke,builtin,hs,hx,hrun,Result.andThen];exact h
end Go
namespace Go
open Go.RowKit
theorem RowKit.Below.setBoth{B:Nat}{a w:World}(h:Below B a w)(p:Addr)(v:Value):Below B (a.setCell p v) (w.setCell p v):=
 ⟨h.os,h.tape,h.output,by simpa [World.setCell]using h.size,fun k hk=>by
  simp only [World.setCell,Array.getElem?_modify]
  rw [h.block k hk]⟩
theorem World.heap_grow_same{X Y:World}(hs:X.heap.size=Y.heap.size)(bs:Array Obj)(d d':Nat){k:Nat}(hk:X.heap.size<=k):(Y.grow bs d').heap[k]? =(X.grow bs d).heap[k]?:=by
 show(Y.heap++bs)[k]? =(X.heap++bs)[k]?;rw [Array.getElem?_append_right zb,Array.getElem?_append_right hk,hs]
theorem World.ownsRow_same{X Y:World}(hs:X.heap.size=Y.heap.size){bs:Array Obj}{d d':Nat}{base size n:Nat}{e:TypeId}{v:Value}{xs:List Value}(hb:X.heap.size<=base)(h:(X.grow bs d).ownsRow base e size v n xs):(Y.grow bs d').ownsRow base e size v n xs:=by
 obtain⟨h0,h1|⟨g,cap,cur,hv,hbg,hg,hr⟩⟩:=h
 ·exact⟨h0,.inl h1⟩
 ·exact⟨h0,.inr ⟨g,cap,cur,hv,hbg,(World.heap_grow_same hs bs d d' zb).trans hg,hr⟩⟩
end Go
namespace Go
theorem bQ{w w':World}(h:RowKit.Below w.heap.size w w':=by(try simp only [World.grow_grow,World.grow_drew,World.drew_grow,<-Array.append_assoc]);repeat' (first|(with_reducible exact Go.RowKit.Below.fin)|(with_reducible exact Go.RowKit.Below.refl _ _)|(with_reducible assumption)|(with_reducible refine Go.RowKit.Below.peel ?_ ?_)|(with_reducible refine Go.RowKit.Below.grow ?_ ?_ _ _)|(with_reducible refine Go.RowKit.Below.alloc ?_ ?_ _)|(with_reducible refine Go.RowKit.Below.drewN ?_ _)|(with_reducible refine Go.RowKit.Below.drew ?_)|(with_reducible refine Go.RowKit.Below.setCell ?_ ?_ _)|go_size)):w.Grows w':=.of_below h
end Go
namespace Go.Proofs.YteildlpchhlchaaGreatDoor
open Go.Proofs.Tryz Tryz List
open Go.RowKit
def ApP(r:Val × Int)(w:World)(e:Ending)(w':World):Prop:=e= .returned (.tuple #[.agg #[.int .i64 r.1.dim,.bool r.1.yes,.int .i64 r.1.n,.int .i64 r.1.d],.int .i64 r.2])/\w.Grows w'
def apD(x y:Val):List Value:=[x.dim,y.dim].map (Value.int .i64)
theorem Ms(x y:Val)(k:Nat)(hk:k<2)(dk:Int)(h:[x.dim,y.dim].getD k 0=dk):(apD x y).take (k+1)=(apD x y).take k++[.int .i64 dk]:=by
 subst h;rcases(show k=0\/k=1 by omega)with rfl|rfl<;>rfl
theorem E8(op:Int)(x y:Val)(b o cp:Nat)(w:World)(hx:x.ok=true)(hy:y.ok=true)(ho:op=7\/op=8\/op=9\/op=10\/op=19\/op=20\/(11<=op/\op<=16))(hres:ag op [x.dim,y.dim]≠0)(hb:b<w.heap.size)
 (c0:w.cell? ⟨b,o,none⟩=some (.int .i64 x.dim)) (c1:w.cell? ⟨b,o+1,none⟩=some (.bool x.yes)) (c2:w.cell? ⟨b,o+2,none⟩=some (.int .i64 x.n)) (c3:w.cell? ⟨b,o+3,none⟩=some (.int .i64 x.d))
 (e0:w.cell? ⟨b,o+4,none⟩=some (.int .i64 y.dim)) (e1:w.cell? ⟨b,o+5,none⟩=some (.bool y.yes)) (e2:w.cell? ⟨b,o+6,none⟩=some (.int .i64 y.n)) (e3:w.cell? ⟨b,o+7,none⟩=some (.int .i64 y.d)) :
 Calls prog 62 #[.int .i64 op,.slice (some ⟨b,o,none⟩) 2 cp] w (ApP (op2 op x y) w):=by
 obtain⟨i0,hi,hz0,hz1,hz2⟩:=info_parts Cq;have hd:=F8 ho hres;have hvx:=(Val.ok_num hx hd.1).2.2.2;have hvy:=(Val.ok_num hy hd.2).2.2.2;have hdx:=Val.ok_dim hx;have hdy:=Val.ok_dim hy;have hcf:=Gb hvx hvy;have h64:lw x.n x.d y.n y.d:=⟨(Val.ok_rng hx).1,(Val.ok_rng hx).2,(Val.ok_rng hy).1,(Val.ok_rng hy).2⟩;have HA:=yq (fun w=>Dv x.n x.d y.n y.d w h64);have HS:=yq (fun w=>Mv x.n x.d y.n y.d w h64);have HM:=yq (fun w=>MH x.n x.d y.n y.d w h64);have HD:=yq (fun w=>MO x.n x.d y.n y.d w h64);have HC:=yq (fun w=>pF x.n x.d y.n y.d w h64);unfold frI at HC;unfold frV at HA HS HM HD;rw [hcf]at HC;have HRD:=yq hres;have HAN:Hid (((2:Nat):Int)=aY op):=yq (by unfold aY;rw [if_neg zb,if_neg zb,if_pos zb];rfl);have HDX:=yq hdx;have HDY:=yq hdy;have HOP:=yq ho
 have HXD:Hid (op=7\/op=8\/op=19\/op=20->ag op [x.dim,y.dim]=x.dim):=yq (fun h=>by
  rw [mH _ _ h]at hres ⊢
  split
  ·rfl
  ·rename_i hn;rw [if_neg hn]at hres;exact absurd rfl hres)
 have HX1:Hid (11<=op/\op<=16->ag op [x.dim,y.dim]=1):=yq (fun h=>by
  rw [oF _ _ h]at hres ⊢
  split
  ·rfl
  ·rename_i hn;rw [if_neg hn]at hres;exact absurd rfl hres)
 clear hd hvx hvy hdx hdy hcf h64 hres ho hx hy
 go_enter func62,ntmps62
 go_wp2_with fail
 go_loopw [6,7] (fun v6 v7 wr=>∃(k:Nat) (vb:Value),vb=v6/\k<=2/\v7= .int .i64 k/\Below (w.heap.size+1) (w.alloc (.cells #[.int .i64 0,.bool false,.int .i64 0,.int .i64 0] 41)) wr/\wr.ownsRow (w.heap.size+1) 3 1 vb k ((apD x y).take k)) (fun _ v7 _=>2-(intOf v7).toNat)
 case atStart=>exact⟨0,_,rfl,by omega,rfl,.refl _ _,World.ownsRow_nil _ _ _ _⟩
 case round=>
  obtain⟨k,vb,rfl,hk,rfl,hB,hown⟩:=hrel;have HB:=yq hB;have HO:=yq hown;have hsW:w.heap.size+1<=wr.heap.size:=by have:=hB.size;simpa using this
  have hbr:b<wr.heap.size:=by omega
  have hcc:∀j u,w.cell? ⟨b,j,none⟩=some u->wr.cell? ⟨b,j,none⟩=some u:=fun j u h=>(hB.cell (p:=⟨b,j,none⟩) (by show b<_;omega)).trans ((World.cell?_alloc_lt w _ ⟨b,j,none⟩ hb).trans h);by_cases hlt:k<2
  ·have d1:(k:Int)<2:=by omega
   obtain⟨dk,hdk⟩:∃dk,[x.dim,y.dim].getD k 0=dk:=⟨_,rfl⟩
   have x0:wr.cell? ⟨b,o+k*4,none⟩=some (.int .i64 dk):=by
    subst hdk;rcases(show k=0\/k=1 by omega)with rfl|rfl
    ·exact hcc _ _ c0
    ·exact hcc _ _ e0
   have HNX:=yq (Ms x y k hlt dk hdk);have HKL:=yq hlt;clear hlt hB hown hcc c0 c1 c2 c3 e0 e1 e2 e3 hdk
   go_wp2_with (at_builtin;refine wpList_append_own _ rfl _ _ 22 rfl (w.heap.size+1) 3 i0 (.int .i64 0) 1 8 underlying22 hi hz0 hz1 hz2 rfl zf _ _ _ rfl (HO.out.alloc _) ⟨wr.heap.size,0,none⟩ 1 1 [.int .i64 dk] rfl rfl ?c1 ?c2 ?c3 ?c4 ?c5 ?_)
   case c1=>exact ax _ [.int .i64 dk] _ _ ze
   case c2=>intro u hu;simp at hu;subst hu;rfl
   case c3=>unfold maxLen;omega
   case c4=>omega
   case c5=>simp;try omega
   intro v' w1 hown' hgrow _;have HB1:=yq ((show Below (w.heap.size+1) (w.alloc (.cells #[.int .i64 0,.bool false,.int .i64 0,.int .i64 0] 41)) _ from by have:=HB.out;(exact au)).grown hgrow zX (fun k hk=>(HO.out.lt k hk).1));have HO1:=yq hown';clear hown' hgrow
   go_wp2_with fail
   go_roundw
   case rel=>exact⟨k+1,_,rfl,HKL.out,by go_num,HB1.out,by rw [HNX.out];exact HO1.out⟩
   case measure=>simp [intOf];have:=HKL.out;omega
  ·obtain rfl:k=2:=by omega
   obtain⟨g,cap,rfl⟩:∃g cap,vb= .slice (some ⟨g,0,none⟩) 2 cap:=by
    rcases oz hown with ⟨-,h⟩|⟨g,cap,rfl,-⟩
    ·omega
    ·exact⟨g,cap,rfl⟩
   have HOW:Hid (wr.ownsRow (w.heap.size+1) 3 1 (.slice (some ⟨g,0,none⟩) [x.dim,y.dim].length cap) [x.dim,y.dim].length ([x.dim,y.dim].map (Value.int .i64))):=yq hown;have HRS:=yq (fun w' (hg:wr.Grows w')=>Bt op [x.dim,y.dim] (w.heap.size+1) g cap w' yF yF HAN.out (by intro z hz;have:=HDX.out;have:=HDY.out;simp at hz;omega) (rZ HOW.out hg));unfold fe at HRS;obtain⟨rd,hrd⟩:∃rd,ag op [x.dim,y.dim]=rd:=⟨_,rfl⟩;have HRD2:=yq hrd;rw [hrd]at HRS HXD HX1;clear hrd hown hcc;obtain⟨bs0,d0,rfl⟩:World.Grows (w.alloc (.cells #[.int .i64 0,.bool false,.int .i64 0,.int .i64 0] 41)) wr:=.of_below (by simpa using HB.out);have HG0:Hid (w.Grows ((w.alloc (.cells #[.int .i64 0,.bool false,.int .i64 0,.int .i64 0] 41)).grow bs0 d0)):=yq bQ;clear hB HB HO
   go_wp2_with (go_at_call 90;refine gvq (HRS.out _ bQ) ?_;intro bs d)
   refine TS.begin [] (World.Grows _) zd zd aj (fun hS=>?_);refine kq 0 hS ?_;refine kq 1 hS ?_;refine kq 2 hS ?_;refine kq 3 hS ?_;refine kq 4 hS ?_;refine kq 5 hS ?_;refine kq 6 hS ?_;refine kq 7 hS ?_;refine TS.one (i:=8) zt rfl (fun K1 hK1=>?_);have HK1:=yq hK1;clear hK1 hS;dsimp only [getElem_toArray,getElem_cons_succ,getElem_cons_zero]
   go_simp
   go_at_call 95
   refine gvq (HC.out _) ?_;intro bA dA;refine TS.go HK1.out bQ (fun hS=>?_);clear HK1 K1
   (try simp only [nS])
   refine kq 9 hS ?_;refine kq 10 hS ?_;refine kq 11 hS ?_;refine kq 12 hS ?_;refine TS.done zd ?_;clear hS
   (try simp only [nS])
   go_upto_block 2 with fail
   have hop:=HOP.out;generalize hc:gY x.n x.d y.n y.d=c;have HCC:=yq hc;clear hc HOP HC HRS HAN HOW;rcases hop with rfl|rfl|rfl|rfl|rfl|rfl|hop
   ·have HR:Hid (op2 7 x y=fM rd (jv x.n x.d y.n y.d)):=yq (by rw [HXD.out (.inl rfl)];rfl);generalize jv x.n x.d y.n y.d=q at *;obtain⟨qn,qd,qc⟩:=q;dsimp only at HA;by_cases hq:qc=0
    focus
     subst hq;unfold fM at HR;rw [if_pos rfl]at HR
    rotate_left
    focus
     unfold fM at HR;rw [if_neg hq]at HR;have hq1:(qc !=0)=true:=by simpa using hq
     clear hq
    rotate_left
    all_goals
     go_wp2_with fail
     refine TS.begin [14] (World.Grows ((w.alloc (.cells #[.int .i64 0,.bool false,.int .i64 0,.int .i64 0] 41)).grow bs0 d0)) zd zd bQ (fun hS=>?_);refine kq 0 hS ?_;refine kq 1 hS ?_;refine kq 2 hS ?_;refine kq 3 hS ?_;refine kq 4 hS ?_;refine kq 5 hS ?_;refine kq 6 hS ?_;refine kq 7 hS ?_;refine TS.one (i:=8) zt rfl (fun K1 hK1=>?_);have HK1:=yq hK1;clear hK1 hS;dsimp only [getElem_toArray,getElem_cons_succ,getElem_cons_zero]
     go_simp
     go_at_call 117
     refine gvq (HA.out _) ?_;intro bA dA;refine TS.go HK1.out bQ (fun hS=>?_);clear HK1 K1
     (try simp only [nS])
     refine kq 9 hS ?_;refine kq 10 hS ?_;refine kq 11 hS ?_;refine kq 12 hS ?_;refine TS.one (i:=13) zt rfl (fun K1 hK1=>?_);have HK1:=yq hK1;clear hK1 hS;dsimp only [getElem_toArray,getElem_cons_succ,getElem_cons_zero]
     go_simp
     refine TS.go HK1.out bQ (fun hS=>?_);clear HK1 K1
     (try simp only [nS])
     refine TS.weB 14 ?_;clear hS
     go_wp2_with fail
     go_returns
     exact⟨by rw [HR.out];rfl,bQ⟩
   ·have HR:Hid (op2 8 x y=fM rd (lC x.n x.d y.n y.d)):=yq (by rw [HXD.out (.inr (.inl rfl))];rfl);generalize lC x.n x.d y.n y.d=q at *;obtain⟨qn,qd,qc⟩:=q;dsimp only at HS;by_cases hq:qc=0
    focus
     subst hq;unfold fM at HR;rw [if_pos rfl]at HR
    rotate_left
    focus
     unfold fM at HR;rw [if_neg hq]at HR;have hq1:(qc !=0)=true:=by simpa using hq
     clear hq
    rotate_left
    all_goals
     go_wp2_with fail
     refine TS.begin [14] (World.Grows ((w.alloc (.cells #[.int .i64 0,.bool false,.int .i64 0,.int .i64 0] 41)).grow bs0 d0)) zd zd bQ (fun hS=>?_);refine kq 0 hS ?_;refine kq 1 hS ?_;refine kq 2 hS ?_;refine kq 3 hS ?_;refine kq 4 hS ?_;refine kq 5 hS ?_;refine kq 6 hS ?_;refine kq 7 hS ?_;refine TS.one (i:=8) zt rfl (fun K1 hK1=>?_);have HK1:=yq hK1;clear hK1 hS;dsimp only [getElem_toArray,getElem_cons_succ,getElem_cons_zero]
     go_simp
     go_at_call 118
     refine gvq (HS.out _) ?_;intro bA dA;refine TS.go HK1.out bQ (fun hS=>?_);clear HK1 K1
     (try simp only [nS])
     refine kq 9 hS ?_;refine kq 10 hS ?_;refine kq 11 hS ?_;refine kq 12 hS ?_;refine TS.one (i:=13) zt rfl (fun K1 hK1=>?_);have HK1:=yq hK1;clear hK1 hS;dsimp only [getElem_toArray,getElem_cons_succ,getElem_cons_zero]
     go_simp
     refine TS.go HK1.out bQ (fun hS=>?_);clear HK1 K1
     (try simp only [nS])
     refine TS.weB 14 ?_;clear hS
     go_wp2_with fail
     go_returns
     exact⟨by rw [HR.out];rfl,bQ⟩
   ·have HR:Hid (op2 9 x y=fM rd (kv x.n x.d y.n y.d)):=yq (by rw [<-HRD2.out];rfl);generalize kv x.n x.d y.n y.d=q at *;obtain⟨qn,qd,qc⟩:=q;dsimp only at HM;by_cases hq:qc=0
    focus
     subst hq;unfold fM at HR;rw [if_pos rfl]at HR
    rotate_left
    focus
     unfold fM at HR;rw [if_neg hq]at HR;have hq1:(qc !=0)=true:=by simpa using hq
     clear hq
    rotate_left
    all_goals
     go_wp2_with fail
     refine TS.begin [14] (World.Grows ((w.alloc (.cells #[.int .i64 0,.bool false,.int .i64 0,.int .i64 0] 41)).grow bs0 d0)) zd zd bQ (fun hS=>?_);refine kq 0 hS ?_;refine kq 1 hS ?_;refine kq 2 hS ?_;refine kq 3 hS ?_;refine kq 4 hS ?_;refine kq 5 hS ?_;refine kq 6 hS ?_;refine kq 7 hS ?_;refine TS.one (i:=8) zt rfl (fun K1 hK1=>?_);have HK1:=yq hK1;clear hK1 hS;dsimp only [getElem_toArray,getElem_cons_succ,getElem_cons_zero]
     go_simp
     go_at_call 119
     refine gvq (HM.out _) ?_;intro bA dA;refine TS.go HK1.out bQ (fun hS=>?_);clear HK1 K1
     (try simp only [nS])
     refine kq 9 hS ?_;refine kq 10 hS ?_;refine kq 11 hS ?_;refine kq 12 hS ?_;refine TS.one (i:=13) zt rfl (fun K1 hK1=>?_);have HK1:=yq hK1;clear hK1 hS;dsimp only [getElem_toArray,getElem_cons_succ,getElem_cons_zero]
     go_simp
     refine TS.go HK1.out bQ (fun hS=>?_);clear HK1 K1
     (try simp only [nS])
     refine TS.weB 14 ?_;clear hS
     go_wp2_with fail
     go_returns
     exact⟨by rw [HR.out];rfl,bQ⟩
   ·have HR:Hid (op2 10 x y=fM rd (kF x.n x.d y.n y.d)):=yq (by rw [<-HRD2.out];rfl);generalize kF x.n x.d y.n y.d=q at *;obtain⟨qn,qd,qc⟩:=q;dsimp only at HD;by_cases hq:qc=0
    focus
     subst hq;unfold fM at HR;rw [if_pos rfl]at HR
    rotate_left
    focus
     unfold fM at HR;rw [if_neg hq]at HR;have hq1:(qc !=0)=true:=by simpa using hq
     clear hq
    rotate_left
    all_goals
     go_wp2_with fail
     refine TS.begin [14] (World.Grows ((w.alloc (.cells #[.int .i64 0,.bool false,.int .i64 0,.int .i64 0] 41)).grow bs0 d0)) zd zd bQ (fun hS=>?_);refine kq 0 hS ?_;refine kq 1 hS ?_;refine kq 2 hS ?_;refine kq 3 hS ?_;refine kq 4 hS ?_;refine kq 5 hS ?_;refine kq 6 hS ?_;refine kq 7 hS ?_;refine TS.one (i:=8) zt rfl (fun K1 hK1=>?_);have HK1:=yq hK1;clear hK1 hS;dsimp only [getElem_toArray,getElem_cons_succ,getElem_cons_zero]
     go_simp
     go_at_call 120
     refine gvq (HD.out _) ?_;intro bA dA;refine TS.go HK1.out bQ (fun hS=>?_);clear HK1 K1
     (try simp only [nS])
     refine kq 9 hS ?_;refine kq 10 hS ?_;refine kq 11 hS ?_;refine kq 12 hS ?_;refine TS.one (i:=13) zt rfl (fun K1 hK1=>?_);have HK1:=yq hK1;clear hK1 hS;dsimp only [getElem_toArray,getElem_cons_succ,getElem_cons_zero]
     go_simp
     refine TS.go HK1.out bQ (fun hS=>?_);clear HK1 K1
     (try simp only [nS])
     refine TS.weB 14 ?_;clear hS
     go_wp2_with fail
     go_returns
     exact⟨by rw [HR.out];rfl,bQ⟩
   ·have HQ:Hid (op2 19 x y=(if c<=0 then .num rd x.n x.d else .num rd y.n y.d,0)):=yq (by rw [HXD.out zb,<-HCC.out];rfl);have HR1:∀r,r=(Val.num rd x.n x.d,(0:Int))->Ending.returned (.tuple #[.agg #[.int .i64 rd,.bool false,.int .i64 x.n,.int .i64 x.d],.int .i64 0])= .returned (.tuple #[.agg #[.int .i64 r.1.dim,.bool r.1.yes,.int .i64 r.1.n,.int .i64 r.1.d],.int .i64 r.2]):=fun r h=>by subst h;rfl
    have HR2:∀r,r=(Val.num rd y.n y.d,(0:Int))->Ending.returned (.tuple #[.agg #[.int .i64 rd,.bool false,.int .i64 y.n,.int .i64 y.d],.int .i64 0])= .returned (.tuple #[.agg #[.int .i64 r.1.dim,.bool r.1.yes,.int .i64 r.1.n,.int .i64 r.1.d],.int .i64 r.2]):=fun r h=>by subst h;rfl
    have HRR1:=yq HR1;have HRR2:=yq HR2;clear HR1 HR2;rcases(show c<0\/c=0\/0<c by omega)with h1|h1|h1
    ·have hq1:(c !=0)=true:=by simp;omega
     have hq2:decide (c<0)=true:=decide_eq_true h1
     go_wp2_with fail
     all_goals
      go_returns
      exact⟨HRR1.out _ zO,bQ⟩
    ·subst h1
     go_wp2_with fail
     all_goals
      go_returns
      exact⟨HRR1.out _ zO,bQ⟩
    ·have hq1:(c !=0)=true:=by simp;omega
     have hq2:decide (c<0)=false:=decide_eq_false zb
     go_wp2_with fail
     all_goals
      trace_state
      go_returns
      exact⟨HRR2.out _ zO,bQ⟩
   ·have HQ:Hid (op2 20 x y=(if 0<=c then .num rd x.n x.d else .num rd y.n y.d,0)):=yq (by rw [HXD.out zb,<-HCC.out];rfl);have HR1:∀r,r=(Val.num rd x.n x.d,(0:Int))->Ending.returned (.tuple #[.agg #[.int .i64 rd,.bool false,.int .i64 x.n,.int .i64 x.d],.int .i64 0])= .returned (.tuple #[.agg #[.int .i64 r.1.dim,.bool r.1.yes,.int .i64 r.1.n,.int .i64 r.1.d],.int .i64 r.2]):=fun r h=>by subst h;rfl
    have HR2:∀r,r=(Val.num rd y.n y.d,(0:Int))->Ending.returned (.tuple #[.agg #[.int .i64 rd,.bool false,.int .i64 y.n,.int .i64 y.d],.int .i64 0])= .returned (.tuple #[.agg #[.int .i64 r.1.dim,.bool r.1.yes,.int .i64 r.1.n,.int .i64 r.1.d],.int .i64 r.2]):=fun r h=>by subst h;rfl
    have HRR1:=yq HR1;have HRR2:=yq HR2;clear HR1 HR2;rcases(show c<0\/c=0\/0<c by omega)with h1|h1|h1
    ·have hq1:(c !=0)=true:=by simp;omega
     have hq2:decide (c<0)=true:=decide_eq_true h1
     go_wp2_with fail
     all_goals
      go_returns
      exact⟨HRR2.out _ zO,bQ⟩
    ·subst h1
     go_wp2_with fail
     all_goals
      go_returns
      exact⟨HRR1.out _ zO,bQ⟩
    ·have hq1:(c !=0)=true:=by simp;omega
     have hq2:decide (c<0)=false:=decide_eq_false zb
     go_wp2_with fail
     all_goals
      trace_state
      go_returns
      exact⟨HRR1.out _ zO,bQ⟩
   ·obtain rfl:rd=1:=HX1.out hop;rcases(show op=11\/op=12\/op=13\/op=14\/op=15\/op=16 by omega)with rfl|rfl|rfl|rfl|rfl|rfl
    focus
     have HQ:Hid (op2 11 x y=(.truth (ug 11 c),0)):=yq zW
    rotate_left
    focus
     have HQ:Hid (op2 12 x y=(.truth (ug 12 c),0)):=yq zW
    rotate_left
    focus
     have HQ:Hid (op2 13 x y=(.truth (ug 13 c),0)):=yq zW
    rotate_left
    focus
     have HQ:Hid (op2 14 x y=(.truth (ug 14 c),0)):=yq zW
    rotate_left
    focus
     have HQ:Hid (op2 15 x y=(.truth (ug 15 c),0)):=yq zW
    rotate_left
    focus
     have HQ:Hid (op2 16 x y=(.truth (ug 16 c),0)):=yq zW
    rotate_left
    all_goals
     go_wp2_with fail
     go_returns
     exact⟨by rw [HQ.out];simp [ug,Val.truth]<;>(by_cases h:c=0<;>simp [h]),bQ⟩
theorem E9(op:Int)(x:Val)(b o cp:Nat)(w:World)(hx:x.ok=true)(h4:4<=op)(h6:op<=6)(hres:ag op [x.dim]≠0)(hb:b<w.heap.size)
 (c0:w.cell? ⟨b,o,none⟩=some (.int .i64 x.dim)) (c1:w.cell? ⟨b,o+1,none⟩=some (.bool x.yes)) (c2:w.cell? ⟨b,o+2,none⟩=some (.int .i64 x.n)) (c3:w.cell? ⟨b,o+3,none⟩=some (.int .i64 x.d)) :
 Calls prog 62 #[.int .i64 op,.slice (some ⟨b,o,none⟩) 1 cp] w (ApP (op1 op x) w):=by
 obtain⟨i0,hi,hz0,hz1,hz2⟩:=info_parts Cq;have hdx:=Val.ok_dim hx;have hrg:=Val.ok_rng hx;have HA:=yq (fun w=>Dm x.n x.d w hrg.1.1 hrg.1.2 hrg.2.1 hrg.2.2);have HS:=yq (fun w=>Ff x.n x.d w hrg.1.1 hrg.1.2 hrg.2.1 hrg.2.2);unfold frI at HS;unfold frV at HA;have HAN:Hid (((1:Nat):Int)=aY op):=yq (by unfold aY;rw [if_neg zb,if_pos zb];rfl);have HDX:=yq hdx;have HOP:Hid (op=4\/op=5\/op=6):=yq zb
 have HNB:Hid (op=4\/op=6->az x.n x.d=true/\ag op [x.dim]=x.dim):=yq (fun h=>by
  have hr:ag op [x.dim]=if x.dim≠1 then x.dim else 0:=by rcases h with rfl|rfl<;>rfl
  rw [hr]at hres ⊢
  split at hres<;>rename_i hd
  ·rw [if_pos hd];exact⟨(Val.ok_num hx hd).2.2.2,rfl⟩
  ·exact absurd rfl hres)
 have HX1:Hid (op=5->ag op [x.dim]=1):=yq (fun h=>by
  subst h;have hr:ag 5 [x.dim]=if x.dim=1 then 1 else 0:=rfl
  rw [hr]at hres ⊢
  split at hres<;>rename_i hd
  ·rw [if_pos hd]
  ·exact absurd rfl hres)
 clear hdx hres hx hrg h4 h6
 go_enter func62,ntmps62
 go_wp2_with fail
 go_loopw [6,7] (fun v6 v7 wr=>∃(k:Nat) (vb:Value),vb=v6/\k<=1/\v7= .int .i64 k/\Below (w.heap.size+1) (w.alloc (.cells #[.int .i64 0,.bool false,.int .i64 0,.int .i64 0] 41)) wr/\wr.ownsRow (w.heap.size+1) 3 1 vb k (([x.dim].map (Value.int .i64)).take k)) (fun _ v7 _=>1-(intOf v7).toNat)
 case atStart=>exact⟨0,_,rfl,by omega,rfl,.refl _ _,World.ownsRow_nil _ _ _ _⟩
 case round=>
  obtain⟨k,vb,rfl,hk,rfl,hB,hown⟩:=hrel;have HB:=yq hB;have HO:=yq hown;have hsW:w.heap.size+1<=wr.heap.size:=by have:=hB.size;simpa using this
  have hbr:b<wr.heap.size:=by omega
  have hcc:∀j u,w.cell? ⟨b,j,none⟩=some u->wr.cell? ⟨b,j,none⟩=some u:=fun j u h=>(hB.cell (p:=⟨b,j,none⟩) (by show b<_;omega)).trans ((World.cell?_alloc_lt w _ ⟨b,j,none⟩ hb).trans h);by_cases hlt:k<1
  ·obtain rfl:k=0:=by omega
   have x0:=hcc _ _ c0;clear hlt hB hown hcc c0 c1 c2 c3
   go_wp2_with (at_builtin;refine wpList_append_own _ rfl _ _ 22 rfl (w.heap.size+1) 3 i0 (.int .i64 0) 1 8 underlying22 hi hz0 hz1 hz2 rfl zf _ _ _ rfl (HO.out.alloc _) ⟨wr.heap.size,0,none⟩ 1 1 [.int .i64 x.dim] rfl rfl ?c1 ?c2 ?c3 ?c4 ?c5 ?_)
   case c1=>exact ax _ [.int .i64 x.dim] _ _ ze
   case c2=>intro u hu;simp at hu;subst hu;rfl
   case c3=>decide
   case c4=>decide
   case c5=>simp;try omega
   intro v' w1 hown' hgrow _;have HB1:=yq ((show Below (w.heap.size+1) (w.alloc (.cells #[.int .i64 0,.bool false,.int .i64 0,.int .i64 0] 41)) _ from by have:=HB.out;(exact au)).grown hgrow zX (fun k hk=>(HO.out.lt k hk).1));have HO1:=yq hown';clear hown' hgrow
   go_wp2_with fail
   go_roundw
   case rel=>exact⟨1,_,rfl,by omega,by first|rfl|go_num,HB1.out,HO1.out⟩
   case measure=>simp [intOf]
  ·obtain rfl:k=1:=by omega
   obtain⟨g,cap,rfl⟩:∃g cap,vb= .slice (some ⟨g,0,none⟩) 1 cap:=by
    rcases oz hown with ⟨-,h⟩|⟨g,cap,rfl,-⟩
    ·omega
    ·exact⟨g,cap,rfl⟩
   have HOW:Hid (wr.ownsRow (w.heap.size+1) 3 1 (.slice (some ⟨g,0,none⟩) [x.dim].length cap) [x.dim].length ([x.dim].map (Value.int .i64))):=yq hown;have HRS:=yq (fun w' (hg:wr.Grows w')=>Bt op [x.dim] (w.heap.size+1) g cap w' yF yF HAN.out (by intro z hz;have:=HDX.out;simp at hz;omega) (rZ HOW.out hg));unfold fe at HRS;obtain⟨rd,hrd⟩:∃rd,ag op [x.dim]=rd:=⟨_,rfl⟩;rw [hrd]at HRS HNB HX1;clear hrd hown hcc;obtain⟨bs0,d0,rfl⟩:World.Grows (w.alloc (.cells #[.int .i64 0,.bool false,.int .i64 0,.int .i64 0] 41)) wr:=.of_below (by simpa using HB.out);clear hB HB HO;have hop:=HOP.out;rcases hop with rfl|rfl|rfl
   ·obtain⟨hv,rfl⟩:=HNB.out (.inl rfl);have hn:iA x.n x.d=(-x.n,x.d,0):=by unfold iA;rw [if_pos hv]
    have HR:Hid (op1 4 x=(.num x.dim (-x.n) x.d,0)):=yq (by show fM x.dim (iA x.n x.d)=_;rw [hn];rfl);rw [hn]at HA;clear hv hn
    go_wp2_with (first
     |(go_at_call 90;refine gvq (HRS.out _ bQ) ?_;intro bs d)
     |(go_at_call 115;refine gvq (HA.out _) ?_;intro bs2 d2))
    go_returns
    exact⟨by rw [HR.out];rfl,bQ⟩
   ·obtain rfl:=HX1.out rfl;have HR:Hid (op1 5 x=(.truth (!x.yes),0)):=yq rfl
    go_wp2_with (go_at_call 90;refine gvq (HRS.out _ bQ) ?_;intro bs d)
    go_returns
    exact⟨by rw [HR.out];rfl,bQ⟩
   ·obtain⟨hv,rfl⟩:=HNB.out (.inr rfl);have hn:(dC x.n x.d).2=0:=by unfold dC;rw [if_pos hv]
    have HR:Hid (op1 6 x=(.num x.dim (dC x.n x.d).1 1,0)):=yq (by show fM x.dim ((dC x.n x.d).1,1,(dC x.n x.d).2)=_;rw [hn];rfl);rw [hn]at HS;clear hv hn;generalize(dC x.n x.d).1=fl at *
    go_wp2_with (first
     |(go_at_call 90;refine gvq (HRS.out _ bQ) ?_;intro bs d)
     |(go_at_call 116;refine gvq (HS.out _) ?_;intro bs2 d2))
    go_returns
    exact⟨by rw [HR.out];rfl,bQ⟩
open Go.RowKit Go.Sort Go.Lib
theorem DI{w:World}{b off:Nat}{zs:List Int}(hc:∀i,i<zs.length->w.cell? ⟨b,off+i,none⟩=some (.int .i64 (zs.getD i 0)))(s:Nat)(l:List Int)(hl:∀(j:Nat) (x:Int),l[j]? =some x->zs[s+j]? =some x) :
 ∀(j:Nat) (u:Value),(l.map (Value.int .i64))[j]? =some u->w.cell? ((⟨b,off+s,none⟩:Addr).add j)=some u:=by
 intro j u hu;rw [getElem?_map]at hu
 cases hx:l[j]? with
 |none=>rw [hx]at hu;cases hu
 |some x=>
  rw [hx]at hu;obtain rfl:Value.int .i64 x=u:=by simpa using hu
  have h1:=hl j x hx;have h2:=(List.getElem?_eq_some_iff.1 h1).1;rw [show(⟨b,off+s,none⟩:Addr).add j=⟨b,off+s+j,none⟩by unfold Addr.add;split<;>simp_all,Nat.add_assoc,hc _ h2,getD_eq_getElem?_getD,h1];rfl
theorem fV{w:World}{b:Nat}{zs:List Int}(hc:∀i,i<zs.length->w.cell? ⟨b,i,none⟩=some (.int .i64 (zs.getD i 0)))(s:Nat)(l:List Int)(hl:∀(j:Nat) (x:Int),l[j]? =some x->zs[s+j]? =some x) :
 ∀(j:Nat) (u:Value),(l.map (Value.int .i64))[j]? =some u->w.cell? ((⟨b,s,none⟩:Addr).add j)=some u:=by
 have:=DI (w:=w) (b:=b) (off:=0) (zs:=zs) (fun i hi=>by rw [Nat.zero_add];exact hc i hi) s l hl
 rwa [Nat.zero_add]at this
theorem iq{l:List Int}{a j:Nat}{x:Int}(h:(l.take a)[j]? =some x):l[j]? =some x:=by
 rw [getElem?_take]at h
 split at h
 ·exact h
 ·cases h
theorem dF(zs:List Int):∀u∈zs.map (Value.int .i64),u.oneCell'=true:=by
 intro u hu;obtain⟨z,_,rfl⟩:=mem_map.1 hu;rfl
theorem EW(l:List Int)(n:Int)(v:Value)(w:World)(hy:bR w v l)(h1:1<=n)(h2:n<=45)(h3:bi l=true):Calls prog 59 #[v,.int .i64 n] w fun e w'=>e= .returned (frV (dh l n))/\w.Grows w':=by
 rw [uk h1 h2 h3];obtain⟨i0,hi,hz0,hz1,hz2⟩:=info_parts Cq;obtain⟨nn,rfl⟩:=Int.eq_ofNat_of_zero_le (show 0<=n by omega);have HY:=yq hy;have HA:=yq (fun w' (hg:w.Grows w')=>ma l v w' (HY.out.grows hg));rw [h3]at HA;have HB3:=yq h3;have hl200:l.length<=200:=(jY h3).1;have HBS:Hid (nu l (nn:Int)=((ko l).take nn).sum):=yq rfl;have HM:=yq (fun z (h1:0<=z) (h2:z<=200000000000000) w=>fI z (nn:Int) w zb zb zb zb);obtain⟨h1000,a,c,rfl,-⟩:=hy;unfold frV at *;dsimp only;generalize nu l (nn:Int)=BS at *;clear h3
 go_enter func59,ntmps59
 go_wp2_with (go_at_call 96;refine gw (HA.out _ (.of_below au)) ?_)
 go_loopw [6,7,8] (fun v6 v7 _ wr=>∃(k:Nat) (vb:Value),vb=v6/\k<=l.length/\v7= .int .i64 k/\(k=0->vb= .slice none 0 0)/\Below (w.heap.size+1) (w.alloc (.cells #[.int .i64 0,.int .i64 0] 24)) wr/\wr.ownsRow (w.heap.size+1) 3 1 vb k ((iM l k).map (Value.int .i64))) (fun _ v7 _ _=>l.length-(intOf v7).toNat)
 case atStart=>exact⟨0,_,rfl,by omega,rfl,fun _=>rfl,.refl _ _,World.ownsRow_nil _ _ _ _⟩
 case round=>
  obtain⟨k,vb,rfl,hk,rfl,hnil,hB,hown⟩:=hrel;obtain⟨WR,rfl⟩:∃WR,WR=wr:=⟨_,rfl⟩;have HB:=yq hB;have HO:=yq hown;have hsW:w.heap.size+1<=WR.heap.size:=by have:=hB.size;simpa using this
  have hG:w.Grows WR:=.of_below ((show Below w.heap.size w _ from by(exact au)).trans (hB.mono zb));have hsk:=vB l k hk;by_cases hlt:k<l.length
  ·obtain⟨-,a',c',hv,hcs⟩:=HY.out.grows hG;simp only [Value.slice.injEq,true_and]at hv;obtain⟨rfl,rfl⟩:=hv;rcases hcs with h0|⟨b,off,rfl,hbw,hx⟩
   ·omega
   have x0:=hx k hlt;have d1:(k:Int)<(l.length:Int):=by omega
   have HSP:=yq (fun a0=>Bg l k a0 hlt);have HKL:=yq hlt;have hlt0:0<l.length:=by omega
   have hYB:bR WR vb (iM l k):=bR.of_rowB hown hsk.symm rfl zb;have HYB:=yq hYB;have hform:=oz hown;clear hx hlt hB hown hYB;generalize l.getD k 0=x at *;generalize hzs:iM l k=zs at *;have HZS:=yq hzs;clear hzs;rcases Nat.eq_zero_or_pos k with hk0|hkp
   ·subst hk0;obtain rfl:=hnil rfl;have hz0':zs= []:=eq_nil_of_length_eq_zero hsk;subst hz0';have HI2:Hid (iM l (0+1)= [x]):=yq (by have:=HSP.out 0 (Nat.le_refl _) (.inl rfl) (fun j h1 h2=>by omega);simpa using this);have d0:0<l.length:=hlt0;have HF:Hid (∀q,Below (w.heap.size+1) (w.alloc (.cells #[.int .i64 0,.int .i64 0] 24)) (WR.drewN q)/\(WR.drewN q).cell? ⟨b,off,none⟩=some (.int .i64 x)/\b<(WR.drewN q).heap.size/\w.heap.size+1<=(WR.drewN q).heap.size):=yq (fun q=>⟨HB.out.drewN q,x0,hbw,hsW⟩)
    go_wp2_with fail
    go_loopw [8] (fun v8 wr=>v8= .int .i64 0/\∃q,wr=WR.drewN q) (fun _ _=>0)
    case atStart=>exact⟨rfl,0,rfl⟩
    case round=>
     obtain⟨rfl,q,rfl⟩:=hrel
     go_wp2_with fail
     all_goals try(first|(go_quiet (fail);go_wp2_with fail)|(go_region;go_wp2_with fail))
     simp only [World.drewN_drewN];have HF1:=HF.out (q+nq);clear HF HB HO x0 hbw hsW HYB hG;generalize WR.drewN (q+nq)=WR at *;obtain⟨hB,x0,hbw,hsW⟩:=HF1;have HB:=yq hB;clear hB;refine TG.begin 14 (fun wS=>wS.cell? ⟨b,off,none⟩=some (.int .i64 x)) zd zd yK (fun hS=>?_);refine TG.tkB 0 hS ?_;refine TG.tkB 1 hS ?_;refine TG.tkB 2 hS ?_;refine TG.tkB 4 hS ?_;refine TG.tkB 5 hS ?_;refine TG.tkB 6 hS ?_;refine TG.tkB 7 hS ?_;refine TG.tkB 10 hS ?_;refine TG.tkB 11 hS ?_;refine TG.tkB 12 hS ?_;refine TG.two (i:=3) (k:=8) zd rfl rfl (fun K1 hK1=>?_) (fun K1 hK1=>?_)
     focus
      refine gM rfl _ _ 22 rfl WR.heap.size 3 i0 1 underlying22 hi (.slice none 0 0) 0 [] rfl (World.ownsRow_nil _ _ _ _) rfl ?_;refine TG.go hK1 ?_ (fun hS=>?_);focus exact hS
      clear hK1 K1
      (try simp only [nS])
      refine TG.one (i:=8) zd rfl (fun K1 hK1=>?_)
      go_simp
      refine TG.go hK1 ?_ (fun hS=>?_);focus exact xi
     rotate_left
     focus
      go_simp
      refine TG.go hK1 ?_ (fun hS=>?_);focus exact xi
      clear hK1 K1
      (try simp only [nS])
      refine TG.one (i:=3) zd rfl (fun K1 hK1=>?_);refine gM rfl _ _ 22 rfl WR.heap.size 3 i0 1 underlying22 hi (.slice none 0 0) 0 [] rfl (World.ownsRow_nil _ _ _ _) rfl ?_;refine TG.go hK1 ?_ (fun hS=>?_);focus exact hS
     rotate_left
     all_goals
      clear hK1 K1
      (try simp only [nS])
      refine TG.one (i:=9) zd rfl (fun K1 hK1=>?_);refine aI rfl _ _ 22 rfl WR.heap.size 3 i0 (.int .i64 0) 1 8 underlying22 hi hz0 hz1 hz2 rfl zf (.slice none 0 0) 0 [] rfl (World.ownsRow_nil _ _ _ _) ⟨WR.heap.size,0,none⟩ 1 1 ([x].map (Value.int .i64)) rfl rfl ?_ (dF _) zf zf ze ?_;focus exact ax _ [.int .i64 x] _ _ ze
      intro v2 w2 hown2 hgrow2;have HB2:=yq (Below.grown ((Below.refl WR.heap.size WR).alloc (Nat.le_refl _) (.cells #[.int .i64 x] 3)).drew hgrow2 ze (fun k hk=>by cases hk));have HO2:=yq hown2;clear hown2 hgrow2;refine TG.go hK1 ?_ (fun hS=>?_);focus exact(HB2.out.cell (p:=⟨b,off+0,none⟩) hbw).trans x0
      clear hK1 K1
      (try simp only [nS])
      refine TG.one (i:=13) zd rfl (fun K1 hK1=>?_);refine gM rfl _ _ 22 rfl WR.heap.size 3 i0 1 underlying22 hi v2 _ _ rfl HO2.out rfl ?_;refine TG.go hK1 ?_ (fun hS=>?_);focus exact hS
      clear hK1 K1
      (try simp only [nS])
      refine TG.one (i:=14) zd rfl (fun K1 hK1=>?_)
      go_simp
      refine hK1 _ _ (fun h=>absurd rfl h) (TG.done zd ?_);clear hK1 K1 hS
      (try simp only [nS])
      go_wp2_with fail
      go_roundw
      case rel=>
       refine⟨1,v2,rfl,HKL.out,by first|rfl|go_num,fun h=>by omega,HB.out.trans (HB2.out.mono hsW), ?_⟩;rw [HI2.out];have ho2:=kQ HO2.out hsW;simpa using ho2
      case measure=>simp [intOf];have:=HKL.out;omega
   ·rcases hform with ⟨-,h0⟩|⟨g,gc,rfl,hg1,hg2⟩
    ·omega
    have HC:Hid (∀i,i<zs.length->WR.cell? ⟨g,i,none⟩=some (.int .i64 (zs.getD i 0))):=yq (by
     obtain⟨-,a',c',hv,hx⟩:=HYB.out;simp only [Value.slice.injEq]at hv;obtain⟨rfl,-,-⟩:=hv;rcases hx with hx|⟨b',off',he,-,hx⟩
     ·omega
     simp only [Option.some.injEq,Addr.mk.injEq,and_true]at he;obtain⟨rfl,rfl⟩:=he;intro i hi;have:=hx i hi
     rwa [Nat.zero_add]at this)
    have HF:Hid (∀q,Below (w.heap.size+1) (w.alloc (.cells #[.int .i64 0,.int .i64 0] 24)) (WR.drewN q)/\(WR.drewN q).ownsRow (w.heap.size+1) 3 1 (.slice (some ⟨g,0,none⟩) k gc) k (zs.map (Value.int .i64))/\(∀i,i<zs.length->(WR.drewN q).cell? ⟨g,i,none⟩=some (.int .i64 (zs.getD i 0)))/\(WR.drewN q).cell? ⟨b,off+k,none⟩=some (.int .i64 x)/\b<(WR.drewN q).heap.size/\g<(WR.drewN q).heap.size/\w.heap.size+1<=(WR.drewN q).heap.size):=yq (fun q=>⟨HB.out.drewN q,HO.out,HC.out,x0,hbw,hg2,hsW⟩)
    go_upto_block 2 with fail
    go_cut [8]from 23 to 60 (fun v8 wx=>∃a0 q:Nat,v8= .int .i64 a0/\a0<=k/\Hid ((a0=0\/x<=zs.getD (a0-1) 0)/\∀j,a0<=j->j<k->zs.getD j 0<x)/\wx=WR.drewN q)
    case first=>
     go_wp2_with fail
     go_loopw [8] (fun v8 wr=>∃j q:Nat,j<=k/\v8= .int .i64 j/\Hid (∀i,j<=i->i<k->zs.getD i 0<x)/\wr=WR.drewN q) (fun v8 _=>(intOf v8).toNat)
     case atStart=>exact⟨k,0,by omega,rfl,yq (fun i h1 h2=>by omega),rfl⟩
     case round=>
      obtain⟨j,q,hj,rfl,HJ,rfl⟩:=hrel;rcases j with _|j
      ·go_wp2_with fail
       all_goals try(first|(go_quiet (fail);go_wp2_with fail)|(go_region;go_wp2_with fail))
       go_meet
       exact⟨0,_,rfl,by omega,yq ⟨.inl rfl,fun i _ h2=>HJ.out i zb h2⟩,World.drewN_drewN _ _ _⟩
      ·have hc:=HC.out j zb;have e0:(0:Int)<=(j:Int):=by omega
       have e1:(j:Int)<(k:Int):=by omega
       have e2:(k:Int)<=900:=by omega
       have HZJ:Hid (zs.getD j 0=zs.getD j 0):=yq rfl;obtain⟨z,hz⟩:∃z,zs.getD j 0=z:=⟨_,rfl⟩;rw [hz]at hc;have HZ:=yq hz;clear hz;by_cases hle:z<x
       ·have HL:=yq hle
        go_wp2_with fail
        all_goals try(first|(go_quiet (fail);go_wp2_with fail)|(go_region;go_wp2_with fail))
        go_roundw
        case rel=>exact⟨j,q+nq,by omega,by go_num,yq (fun i h1 h2=>by
         by_cases ei:i=j
         ·subst ei;rw [HZ.out];exact HL.out
         ·exact HJ.out i zb h2),by first|exact World.drewN_drewN _ _ _|rfl⟩
        case measure=>first|(simp [intOf];done)|(simp [intOf];omega)
       ·have HL:=yq hle
        go_wp2_with fail
        all_goals try(first|(go_quiet (fail);go_wp2_with fail)|(go_region;go_wp2_with fail))
        go_meet
        exact⟨j+1,_,by go_num,hj,yq ⟨.inr (by rw [Nat.add_sub_cancel,HZ.out];have:=HL.out;omega),fun i h1 h2=>HJ.out i h1 h2⟩,World.drewN_drewN _ _ _⟩
    obtain⟨a0,q,rfl,ha0,HCUT,rfl⟩:=hcut;have HF1:=HF.out q;clear HF HB HO HC x0 hbw hg2 hsW HYB hG;generalize WR.drewN q=WR at *;obtain⟨hB,hO,hC,x0,hbw,hg2,hsW⟩:=HF1;have HB:=yq hB;have HO:=yq hO;have HC:=yq hC;clear hB hO hC;have HI2:Hid (iM l (k+1)=zs.take a0++x::zs.drop a0):=yq (HSP.out a0 ha0 HCUT.out.1 HCUT.out.2)
    have hkc:k<=gc:=by
     obtain⟨-,h0|⟨g',cap',cur,hv,-,-,hcp,-⟩⟩:=HO.out
     ·cases h0.1
     ·simp only [Value.slice.injEq]at hv;omega
    have had:(a0:Int)<=(gc:Int):=by omega
    have hac:a0<=gc:=by omega
    have had2:(a0:Int)<=(k:Int):=by omega
    by_cases hlt2:a0<k
    ·have hnc:¬gc=a0:=by omega
     have HEQ:Hid (a0<=k):=yq ha0
     go_wp2_with fail
     refine TG.begin 14 (fun wS=>wS.cell? ⟨b,off+k,none⟩=some (.int .i64 x)) zd zd yK (fun hS=>?_);refine TG.tkB 0 hS ?_;refine TG.tkB 1 hS ?_;refine TG.tkB 2 hS ?_;refine TG.tkB 4 hS ?_;refine TG.tkB 5 hS ?_;refine TG.tkB 6 hS ?_;refine TG.tkB 7 hS ?_;refine TG.tkB 10 hS ?_;refine TG.tkB 11 hS ?_;refine TG.tkB 12 hS ?_;refine TG.two (i:=3) (k:=8) zd rfl rfl (fun K1 hK1=>?_) (fun K1 hK1=>?_)
     focus
      refine aI rfl _ _ 22 rfl WR.heap.size 3 i0 (.int .i64 0) 1 8 underlying22 hi hz0 hz1 hz2 rfl zf (.slice none 0 0) 0 [] rfl (World.ownsRow_nil _ _ _ _) ⟨g,0,none⟩ a0 gc ((zs.take a0).map (Value.int .i64)) rfl zg (fV (zs:=zs) (w:=WR.drew) HC.out 0 _ (fun j x hx=>by rw [Nat.zero_add];exact iq hx)) (dF _) zu zb ze ?_;intro v1 w1 hown1 hgrow1;simp only [Nat.zero_add,nil_append]at hown1;have hb1:=Below.grown (Below.refl WR.heap.size WR).drew hgrow1 ze (fun k hk=>by cases hk);have hs1:=hb1.size;have HB1:=yq (hb1.alloc hs1 (.cells #[.int .i64 x] 3));have HO1:=yq (hown1.alloc (.cells #[.int .i64 x] 3));have hx1:=(hb1.cell (p:=⟨b,off+k,none⟩) hbw).trans x0;refine TG.go hK1 ?_ (fun hS=>?_);focus exact hx1
      clear hK1 K1
      (try simp only [nS])
      refine TG.one (i:=8) zd rfl (fun K1 hK1=>?_)
      go_simp
      refine TG.go hK1 ?_ (fun hS=>?_);focus exact(HB1.out.cell (p:=⟨b,off+k,none⟩) hbw).trans x0
      clear hK1 K1
      (try simp only [nS])
      have HC5:Hid ((w1.alloc (.cells #[.int .i64 x] 3)).cell? ⟨w1.heap.size,0,none⟩=some (.int .i64 x)):=yq yR;generalize w1.alloc (.cells #[.int .i64 x] 3)=w9 at *;generalize w1.heap.size=g5 at *;clear hown1 hgrow1 hb1 hx1;refine TG.one (i:=9) zd rfl (fun K1 hK1=>?_);refine aI rfl _ _ 22 rfl WR.heap.size 3 i0 (.int .i64 0) 1 8 underlying22 hi hz0 hz1 hz2 rfl zf v1 a0 _ rfl HO1.out ⟨g5,0,none⟩ 1 1 ([x].map (Value.int .i64)) rfl rfl ?_ (dF _) zu zb HB1.out.size ?_
      focus
       intro j u hu;rw [addr_add];rcases j with _|j
       ·simp at hu;subst hu;exact HC5.out
       ·simp at hu
     rotate_left
     focus
      go_simp
      refine TG.go hK1 ?_ (fun hS=>?_);focus exact yL
      clear hK1 K1
      (try simp only [nS])
      refine TG.one (i:=3) zd rfl (fun K1 hK1=>?_);refine aI rfl _ _ 22 rfl WR.heap.size 3 i0 (.int .i64 0) 1 8 underlying22 hi hz0 hz1 hz2 rfl zf (.slice none 0 0) 0 [] rfl (World.ownsRow_nil _ _ _ _) ⟨g,0,none⟩ a0 gc ((zs.take a0).map (Value.int .i64)) rfl zg (fV (zs:=zs) (w:=(WR.alloc (.cells #[.int .i64 x] 3)).drew) (fun i hi=>by rw [show((WR.alloc (.cells #[.int .i64 x] 3)).drew).cell? ⟨g,i,none⟩=WR.cell? ⟨g,i,none⟩from World.cell?_alloc_lt WR _ ⟨g,i,none⟩ hg2];exact HC.out i hi) 0 _ (fun j x hx=>by rw [Nat.zero_add];exact iq hx)) (dF _) zu zb ze ?_;intro v1 w1 hown1 hgrow1;simp only [Nat.zero_add,nil_append]at hown1;have hb1:=Below.grown ((Below.refl WR.heap.size WR).alloc (Nat.le_refl _) (.cells #[.int .i64 x] 3)).drew hgrow1 ze (fun k hk=>by cases hk);have HB1:=yq hb1;have HO1:=yq hown1;have HC5:Hid (w1.cell? ⟨WR.heap.size,0,none⟩=some (.int .i64 x)):=yq ((hgrow1.cell_far ⟨WR.heap.size,0,none⟩ ze zA).trans yM);refine TG.go hK1 ?_ (fun hS=>?_);focus exact(HB1.out.cell (p:=⟨b,off+k,none⟩) hbw).trans x0
      clear hK1 K1
      (try simp only [nS])
      clear hown1 hgrow1 hb1;refine TG.one (i:=9) zd rfl (fun K1 hK1=>?_);refine aI rfl _ _ 22 rfl WR.heap.size 3 i0 (.int .i64 0) 1 8 underlying22 hi hz0 hz1 hz2 rfl zf v1 a0 _ rfl HO1.out ⟨WR.heap.size,0,none⟩ 1 1 ([x].map (Value.int .i64)) rfl rfl ?_ (dF _) zu zb HB1.out.size ?_
      focus
       intro j u hu;rw [addr_add];rcases j with _|j
       ·simp at hu;subst hu;exact HC5.out
       ·simp at hu
     rotate_left
     all_goals
      intro v2 w2 hown2 hgrow2;have HB2:=yq (HB1.out.grown hgrow2 HB1.out.size (fun k hk=>(HO1.out.lt k hk).1));have HO2:=yq hown2;clear hown2 hgrow2;refine TG.go hK1 ?_ (fun hS=>?_);focus exact(HB2.out.cell (p:=⟨b,off+k,none⟩) hbw).trans x0
      clear hK1 K1
      (try simp only [nS])
      refine TG.one (i:=13) zd rfl (fun K1 hK1=>?_);refine aI rfl _ _ 22 rfl WR.heap.size 3 i0 (.int .i64 0) 1 8 underlying22 hi hz0 hz1 hz2 rfl zf v2 (a0+1) _ rfl HO2.out ⟨g,a0,none⟩ (k-a0) (gc-a0) ((zs.drop a0).map (Value.int .i64)) rfl zX (fV (w:=w2) (zs:=zs) (fun i hi=>by rw [HB2.out.cell (p:=⟨g,i,none⟩) hg2];exact HC.out i hi) a0 _ (fun j x hx=>by rw [getElem?_drop]at hx;exact hx)) (dF _) zu zb HB2.out.size ?_;exact Qf
    ·have HZL:=yq (show zs.drop a0= []from drop_eq_nil_of_le zb);have HEQ:Hid (a0=k):=yq zb;by_cases hcc:gc=a0
     ·go_wp2_with fail
      refine TG.begin 14 (fun wS=>wS.cell? ⟨b,off+k,none⟩=some (.int .i64 x)) zd zd yK (fun hS=>?_);refine TG.tkB 0 hS ?_;refine TG.tkB 1 hS ?_;refine TG.tkB 2 hS ?_;refine TG.tkB 4 hS ?_;refine TG.tkB 5 hS ?_;refine TG.tkB 6 hS ?_;refine TG.tkB 7 hS ?_;refine TG.tkB 10 hS ?_;refine TG.tkB 11 hS ?_;refine TG.tkB 12 hS ?_;refine TG.two (i:=3) (k:=8) zd rfl rfl (fun K1 hK1=>?_) (fun K1 hK1=>?_)
      focus
       refine aI rfl _ _ 22 rfl WR.heap.size 3 i0 (.int .i64 0) 1 8 underlying22 hi hz0 hz1 hz2 rfl zf (.slice none 0 0) 0 [] rfl (World.ownsRow_nil _ _ _ _) ⟨g,0,none⟩ a0 a0 ((zs.take a0).map (Value.int .i64)) rfl zg (fV (zs:=zs) (w:=WR.drew) HC.out 0 _ (fun j x hx=>by rw [Nat.zero_add];exact iq hx)) (dF _) zu zb ze ?_;intro v1 w1 hown1 hgrow1;simp only [Nat.zero_add,nil_append]at hown1;have hb1:=Below.grown (Below.refl WR.heap.size WR).drew hgrow1 ze (fun k hk=>by cases hk);have hs1:=hb1.size;have HB1:=yq (hb1.alloc hs1 (.cells #[.int .i64 x] 3));have HO1:=yq (hown1.alloc (.cells #[.int .i64 x] 3));have hx1:=(hb1.cell (p:=⟨b,off+k,none⟩) hbw).trans x0;refine TG.go hK1 ?_ (fun hS=>?_);focus exact hx1
       clear hK1 K1
       (try simp only [nS])
       refine TG.one (i:=8) zd rfl (fun K1 hK1=>?_)
       go_simp
       refine TG.go hK1 ?_ (fun hS=>?_);focus exact(HB1.out.cell (p:=⟨b,off+k,none⟩) hbw).trans x0
       clear hK1 K1
       (try simp only [nS])
       have HC5:Hid ((w1.alloc (.cells #[.int .i64 x] 3)).cell? ⟨w1.heap.size,0,none⟩=some (.int .i64 x)):=yq yR;generalize w1.alloc (.cells #[.int .i64 x] 3)=w9 at *;generalize w1.heap.size=g5 at *;clear hown1 hgrow1 hb1 hx1;refine TG.one (i:=9) zd rfl (fun K1 hK1=>?_);refine aI rfl _ _ 22 rfl WR.heap.size 3 i0 (.int .i64 0) 1 8 underlying22 hi hz0 hz1 hz2 rfl zf v1 a0 _ rfl HO1.out ⟨g5,0,none⟩ 1 1 ([x].map (Value.int .i64)) rfl rfl ?_ (dF _) zu zb HB1.out.size ?_
       focus
        intro j u hu;rw [addr_add];rcases j with _|j
        ·simp at hu;subst hu;exact HC5.out
        ·simp at hu
      rotate_left
      focus
       go_simp
       refine TG.go hK1 ?_ (fun hS=>?_);focus exact yL
       clear hK1 K1
       (try simp only [nS])
       refine TG.one (i:=3) zd rfl (fun K1 hK1=>?_);refine aI rfl _ _ 22 rfl WR.heap.size 3 i0 (.int .i64 0) 1 8 underlying22 hi hz0 hz1 hz2 rfl zf (.slice none 0 0) 0 [] rfl (World.ownsRow_nil _ _ _ _) ⟨g,0,none⟩ a0 a0 ((zs.take a0).map (Value.int .i64)) rfl zg (fV (zs:=zs) (w:=(WR.alloc (.cells #[.int .i64 x] 3)).drew) (fun i hi=>by rw [show((WR.alloc (.cells #[.int .i64 x] 3)).drew).cell? ⟨g,i,none⟩=WR.cell? ⟨g,i,none⟩from World.cell?_alloc_lt WR _ ⟨g,i,none⟩ hg2];exact HC.out i hi) 0 _ (fun j x hx=>by rw [Nat.zero_add];exact iq hx)) (dF _) zu zb ze ?_;intro v1 w1 hown1 hgrow1;simp only [Nat.zero_add,nil_append]at hown1;have hb1:=Below.grown ((Below.refl WR.heap.size WR).alloc (Nat.le_refl _) (.cells #[.int .i64 x] 3)).drew hgrow1 ze (fun k hk=>by cases hk);have HB1:=yq hb1;have HO1:=yq hown1;have HC5:Hid (w1.cell? ⟨WR.heap.size,0,none⟩=some (.int .i64 x)):=yq ((hgrow1.cell_far ⟨WR.heap.size,0,none⟩ ze zA).trans yM);refine TG.go hK1 ?_ (fun hS=>?_);focus exact(HB1.out.cell (p:=⟨b,off+k,none⟩) hbw).trans x0
       clear hK1 K1
       (try simp only [nS])
       clear hown1 hgrow1 hb1;refine TG.one (i:=9) zd rfl (fun K1 hK1=>?_);refine aI rfl _ _ 22 rfl WR.heap.size 3 i0 (.int .i64 0) 1 8 underlying22 hi hz0 hz1 hz2 rfl zf v1 a0 _ rfl HO1.out ⟨WR.heap.size,0,none⟩ 1 1 ([x].map (Value.int .i64)) rfl rfl ?_ (dF _) zu zb HB1.out.size ?_
       focus
        intro j u hu;rw [addr_add];rcases j with _|j
        ·simp at hu;subst hu;exact HC5.out
        ·simp at hu
      rotate_left
      all_goals
       intro v2 w2 hown2 hgrow2;have HB2:=yq (HB1.out.grown hgrow2 HB1.out.size (fun k hk=>(HO1.out.lt k hk).1));have HO2:=yq hown2;clear hown2 hgrow2;refine TG.go hK1 ?_ (fun hS=>?_);focus exact(HB2.out.cell (p:=⟨b,off+k,none⟩) hbw).trans x0
       clear hK1 K1
       (try simp only [nS])
       refine TG.one (i:=13) zd rfl (fun K1 hK1=>?_);refine aI rfl _ _ 22 rfl WR.heap.size 3 i0 (.int .i64 0) 1 8 underlying22 hi hz0 hz1 hz2 rfl zf v2 (a0+1) _ rfl HO2.out ⟨g,0,none⟩ (k-a0) (0) ((zs.drop a0).map (Value.int .i64)) rfl zX (by intro j u hu;rw [HZL.out]at hu;simp at hu) (dF _) zu zb HB2.out.size ?_;exact Qf
     ·go_wp2_with fail
      refine TG.begin 14 (fun wS=>wS.cell? ⟨b,off+k,none⟩=some (.int .i64 x)) zd zd yK (fun hS=>?_);refine TG.tkB 0 hS ?_;refine TG.tkB 1 hS ?_;refine TG.tkB 2 hS ?_;refine TG.tkB 4 hS ?_;refine TG.tkB 5 hS ?_;refine TG.tkB 6 hS ?_;refine TG.tkB 7 hS ?_;refine TG.tkB 10 hS ?_;refine TG.tkB 11 hS ?_;refine TG.tkB 12 hS ?_;refine TG.two (i:=3) (k:=8) zd rfl rfl (fun K1 hK1=>?_) (fun K1 hK1=>?_)
      focus
       refine aI rfl _ _ 22 rfl WR.heap.size 3 i0 (.int .i64 0) 1 8 underlying22 hi hz0 hz1 hz2 rfl zf (.slice none 0 0) 0 [] rfl (World.ownsRow_nil _ _ _ _) ⟨g,0,none⟩ a0 gc ((zs.take a0).map (Value.int .i64)) rfl zg (fV (zs:=zs) (w:=WR.drew) HC.out 0 _ (fun j x hx=>by rw [Nat.zero_add];exact iq hx)) (dF _) zu zb ze ?_;intro v1 w1 hown1 hgrow1;simp only [Nat.zero_add,nil_append]at hown1;have hb1:=Below.grown (Below.refl WR.heap.size WR).drew hgrow1 ze (fun k hk=>by cases hk);have hs1:=hb1.size;have HB1:=yq (hb1.alloc hs1 (.cells #[.int .i64 x] 3));have HO1:=yq (hown1.alloc (.cells #[.int .i64 x] 3));have hx1:=(hb1.cell (p:=⟨b,off+k,none⟩) hbw).trans x0;refine TG.go hK1 ?_ (fun hS=>?_);focus exact hx1
       clear hK1 K1
       (try simp only [nS])
       refine TG.one (i:=8) zd rfl (fun K1 hK1=>?_)
       go_simp
       refine TG.go hK1 ?_ (fun hS=>?_);focus exact(HB1.out.cell (p:=⟨b,off+k,none⟩) hbw).trans x0
       clear hK1 K1
       (try simp only [nS])
       have HC5:Hid ((w1.alloc (.cells #[.int .i64 x] 3)).cell? ⟨w1.heap.size,0,none⟩=some (.int .i64 x)):=yq yR;generalize w1.alloc (.cells #[.int .i64 x] 3)=w9 at *;generalize w1.heap.size=g5 at *;clear hown1 hgrow1 hb1 hx1;refine TG.one (i:=9) zd rfl (fun K1 hK1=>?_);refine aI rfl _ _ 22 rfl WR.heap.size 3 i0 (.int .i64 0) 1 8 underlying22 hi hz0 hz1 hz2 rfl zf v1 a0 _ rfl HO1.out ⟨g5,0,none⟩ 1 1 ([x].map (Value.int .i64)) rfl rfl ?_ (dF _) zu zb HB1.out.size ?_
       focus
        intro j u hu;rw [addr_add];rcases j with _|j
        ·simp at hu;subst hu;exact HC5.out
        ·simp at hu
      rotate_left
      focus
       go_simp
       refine TG.go hK1 ?_ (fun hS=>?_);focus exact yL
       clear hK1 K1
       (try simp only [nS])
       refine TG.one (i:=3) zd rfl (fun K1 hK1=>?_);refine aI rfl _ _ 22 rfl WR.heap.size 3 i0 (.int .i64 0) 1 8 underlying22 hi hz0 hz1 hz2 rfl zf (.slice none 0 0) 0 [] rfl (World.ownsRow_nil _ _ _ _) ⟨g,0,none⟩ a0 gc ((zs.take a0).map (Value.int .i64)) rfl zg (fV (zs:=zs) (w:=(WR.alloc (.cells #[.int .i64 x] 3)).drew) (fun i hi=>by rw [show((WR.alloc (.cells #[.int .i64 x] 3)).drew).cell? ⟨g,i,none⟩=WR.cell? ⟨g,i,none⟩from World.cell?_alloc_lt WR _ ⟨g,i,none⟩ hg2];exact HC.out i hi) 0 _ (fun j x hx=>by rw [Nat.zero_add];exact iq hx)) (dF _) zu zb ze ?_;intro v1 w1 hown1 hgrow1;simp only [Nat.zero_add,nil_append]at hown1;have hb1:=Below.grown ((Below.refl WR.heap.size WR).alloc (Nat.le_refl _) (.cells #[.int .i64 x] 3)).drew hgrow1 ze (fun k hk=>by cases hk);have HB1:=yq hb1;have HO1:=yq hown1;have HC5:Hid (w1.cell? ⟨WR.heap.size,0,none⟩=some (.int .i64 x)):=yq ((hgrow1.cell_far ⟨WR.heap.size,0,none⟩ ze zA).trans yM);refine TG.go hK1 ?_ (fun hS=>?_);focus exact(HB1.out.cell (p:=⟨b,off+k,none⟩) hbw).trans x0
       clear hK1 K1
       (try simp only [nS])
       clear hown1 hgrow1 hb1;refine TG.one (i:=9) zd rfl (fun K1 hK1=>?_);refine aI rfl _ _ 22 rfl WR.heap.size 3 i0 (.int .i64 0) 1 8 underlying22 hi hz0 hz1 hz2 rfl zf v1 a0 _ rfl HO1.out ⟨WR.heap.size,0,none⟩ 1 1 ([x].map (Value.int .i64)) rfl rfl ?_ (dF _) zu zb HB1.out.size ?_
       focus
        intro j u hu;rw [addr_add];rcases j with _|j
        ·simp at hu;subst hu;exact HC5.out
        ·simp at hu
      rotate_left
      all_goals
       intro v2 w2 hown2 hgrow2;have HB2:=yq (HB1.out.grown hgrow2 HB1.out.size (fun k hk=>(HO1.out.lt k hk).1));have HO2:=yq hown2;clear hown2 hgrow2;refine TG.go hK1 ?_ (fun hS=>?_);focus exact(HB2.out.cell (p:=⟨b,off+k,none⟩) hbw).trans x0
       clear hK1 K1
       (try simp only [nS])
       refine TG.one (i:=13) zd rfl (fun K1 hK1=>?_);refine aI rfl _ _ 22 rfl WR.heap.size 3 i0 (.int .i64 0) 1 8 underlying22 hi hz0 hz1 hz2 rfl zf v2 (a0+1) _ rfl HO2.out ⟨g,a0,none⟩ (k-a0) (gc-a0) ((zs.drop a0).map (Value.int .i64)) rfl zX (by intro j u hu;rw [HZL.out]at hu;simp at hu) (dF _) zu zb HB2.out.size ?_;exact Qf
  ·obtain rfl:k=l.length:=by omega
   have hYB:bR WR vb (ko l):=bR.of_rowB hown (by rw [<-mE,hsk]) (by rw [mE]) (by rw [<-mE,hsk];omega);have hG1:World.Grows (w.alloc (.cells #[.int .i64 0,.int .i64 0] 24)) WR:=.of_below (by simpa using hB);have HSB:=yq (Fv HB3.out (kM l));have HGB:=yq (F3 HB3.out (kM l));have hz200:(ko l).length<=200:=by rw [<-mE,hsk];omega
   clear HO hown hsk HA;generalize ko l=zs at *;obtain⟨bs9,d9,rfl⟩:=hG1;obtain⟨-,va,vc,rfl,hvc⟩:=hYB;have HVC:=yq hvc;clear hvc hB hG
   go_wp2_with fail
   go_loopw [9,10] (fun v9 v10 wr=>∃j:Nat,j<=zs.length/\j<=nn/\v10= .int .i64 j/\v9= .int .i64 (kL zs j)/\wr=World.grow (w.alloc (.cells #[.int .i64 0,.int .i64 0] 24)) bs9 d9) (fun _ v10 _=>nn-(intOf v10).toNat)
   case atStart=>exact⟨0,by omega,by omega,rfl,rfl,rfl⟩
   case round=>
    obtain⟨j,hj,hjn,rfl,rfl,rfl⟩:=hrel;have hb1:=HSB.out j;by_cases hlt2:j<zs.length/\j<nn
    ·rcases HVC.out with h0|⟨b,off,rfl,hbw,hx⟩
     ·omega
     have x0:=hx j hlt2.1;have d1:(j:Int)<(zs.length:Int):=by omega
     have d2:(j:Int)<(nn:Int):=by omega
     have hs:=vk zs j hlt2.1;have hb2:=HSB.out (j+1);rw [hs]at hb2;have HS1:=yq hs;have HKL:=yq hlt2;clear hs hlt2 hx;generalize zs.getD j 0=z at *;generalize kL zs j=sk at *
     go_wp2_with fail
     go_roundw
     case rel=>exact⟨j+1,HKL.out.1,HKL.out.2,by go_num,by rw [HS1.out],by first|rfl|trivial⟩
     case measure=>simp [intOf];have:=HKL.out;omega
    ·have hBS:BS=kL zs j:=by
      rw [HBS.out];unfold kL;by_cases e:j=nn
      ·rw [e]
      ·rw [take_of_length_le zb,take_of_length_le zb]
     subst hBS;have HBB:=yq hb1;by_cases d1:(j:Int)<(zs.length:Int)
     ·have d2:¬(j:Int)<(nn:Int):=by omega
      exact Rq
     ·exact Rq
theorem JH(l:List Int)(n:Int)(v:Value)(w:World)(hy:bR w v l):Calls prog 59 #[v,.int .i64 n] w fun e w'=>e= .returned (frV (dh l n))/\w.Grows w':=by
 by_cases h:n<1\/45<n\/bi l=false
 ·exact Ji l n v w hy h
 ·simp only [not_or,Bool.not_eq_false]at h;exact EW l n v w hy zb zb h.2.2
def mvV(R:VwR):List Value:=(R.years.take 20).map fun z=>Value.int .i64 (pick z 5000000)
theorem NW(R:VwR)(k:Nat)(hk:k<R.years.length)(h20:k<20):(mvV R).take (k+1)=(mvV R).take k++[.int .i64 (pick (R.years.getD k 0) 5000000)]:=by
 unfold mvV;have hk2:k<(R.years.take 20).length:=by rw [length_take];omega
 rw [take_succ_eq_append_getElem (by simpa using hk2),getElem_map,getElem_take,getD_eq_getElem?_getD,getElem?_eq_getElem hk];rfl
theorem QC(R:VwR)(k:Nat)(hk:k<=R.years.length)(h20:k<=20)(he:k=R.years.length\/k=20):(mvV R).take k=(mY R).years.map (Value.int .i64)/\k=(mY R).years.length:=by
 have hlen:(R.years.take 20).length=k:=by rw [length_take];omega
 constructor
 ·unfold mvV mY;dsimp only;rw [map_map,take_of_length_le (by rw [length_map];omega)];rfl
 ·show k=((R.years.take 20).map _).length;rw [length_map,hlen]
def VoP(R:VwR)(w:World)(e:Ending)(w':World):Prop:=∃yv,e= .returned (vwV (mY R) yv)/\w.Grows w'/\bR w' yv (mY R).years
theorem Dz(R:VwR)(vd vy:Value)(w:World)(hd:bH w vd R.days)(hy:bH w vy R.years) :
 Calls prog 15 #[.agg #[.int .i64 R.age,.int .i64 R.year,.int .i64 R.children,.int .i64 R.base,.int .i64 R.den,vd,vy]] w (VoP R w):=by
 obtain⟨i0,hi,hz0,hz1,hz2⟩:=info_parts Cq;have HMK:=yq (fun w=>fI (pick R.base 1000000) (pick R.den 12+1) w xN xN (by have:=ed R.den 12 zb;omega) (by have:=ed R.den 12 zb;omega));have hpd:=ed R.den 12 zb;have hpy:=ed R.year 200 zb;have w1:IntKind.i64.wrap (pick R.den 12+1)=pick R.den 12+1:=IntWalk.i64_in _ zb;have w2:IntKind.i64.wrap (1900+pick R.year 200)=1900+pick R.year 200:=IntWalk.i64_in _ zb;have hlen1:(R.days.length:Int)<=140737488355328:=by have:=hd.1;omega
 have hlen2:(R.years.length:Int)<=140737488355328:=by have:=hy.1;omega
 obtain⟨-,-,da,dc,rfl,hdc⟩:=hd;obtain⟨-,-,ya,yc,rfl,hyc⟩:=hy;have HDC:=yq hdc;have HYC:=yq hyc;clear hdc hyc
 go_enter func15,ntmps15
 go_upto_block 0 with fail
 go_cut [4]from 10 (fun v4 wx=>wx=((((w.alloc (.cells #[.int .i64 R.age,.int .i64 R.year,.int .i64 R.children,.int .i64 R.base,.int .i64 R.den,.slice da R.days.length dc,.slice ya R.years.length yc] 36)).alloc (.cells #[.int .i64 0,.int .i64 0,.int .i64 0,.int .i64 0,.int .i64 0,.int .i64 0,.int .i64 0,.int .i64 0,.int .i64 0,.int .i64 0,.int .i64 0,.int .i64 0,.slice none 0 0] 38)).alloc (.cells #[.int .i64 (R.d 0),.int .i64 (R.d 1),.int .i64 (R.d 2),.int .i64 (R.d 3),.int .i64 (R.d 4),.int .i64 (R.d 5),.int .i64 (R.d 6)] 90))))
 case first=>
  go_wp2_with fail
  go_loopw [4] (fun v4 wr=>∃(k:Nat) (a0 a1 a2 a3 a4 a5 a6:Int),k<=7/\v4= .int .i64 k/\Hid (∀i,i<k->[a0,a1,a2,a3,a4,a5,a6].getD i 0=R.d i)/\Hid (∀i,k<=i->i<7->[a0,a1,a2,a3,a4,a5,a6].getD i 0=0)/\wr=((w.alloc ((.cells #[.int .i64 R.age,.int .i64 R.year,.int .i64 R.children,.int .i64 R.base,.int .i64 R.den,.slice da R.days.length dc,.slice ya R.years.length yc] 36))).alloc ((.cells #[.int .i64 0,.int .i64 0,.int .i64 0,.int .i64 0,.int .i64 0,.int .i64 0,.int .i64 0,.int .i64 0,.int .i64 0,.int .i64 0,.int .i64 0,.int .i64 0,.slice none 0 0] 38))).alloc ((.cells #[.int .i64 a0,.int .i64 a1,.int .i64 a2,.int .i64 a3,.int .i64 a4,.int .i64 a5,.int .i64 a6] 90))) (fun v4 _=>7-(intOf v4).toNat)
  case atStart=>exact⟨0,0,0,0,0,0,0,0,by omega,rfl,yq (fun i hi=>by omega),yq (fun i h1 h2=>by
   rcases(show i=0\/i=1\/i=2\/i=3\/i=4\/i=5\/i=6 by omega)with rfl|rfl|rfl|rfl|rfl|rfl|rfl<;>rfl),rfl⟩
  case round=>
   obtain⟨k,a0,a1,a2,a3,a4,a5,a6,hk,rfl,hdone,hzero,rfl⟩:=hrel;by_cases hlt:k<7/\k<R.days.length
   ·rcases HDC.out with h0|⟨b,off,rfl,hbw,hx⟩
    ·omega
    have d1:(k:Int)<(R.days.length:Int):=by omega
    have d2:0<R.days.length:=by omega
    rcases(show k=0\/k=1\/k=2\/k=3\/k=4\/k=5\/k=6 by omega)with rfl|rfl|rfl|rfl|rfl|rfl|rfl
    ·have x0:=hx 0 zb
     (try rw [Nat.add_zero]at x0)
     have HE:Hid (R.d 0=pick (R.days.getD 0 0) 20000):=yq zK;generalize R.days.getD 0 0=z at *;clear hx
     go_wp2_with (go_at_call 10;refine gw (bZ _ _ _ zb) ?_)
     go_roundw
     case rel=>
      refine⟨0+1,pick z 20000,a1,a2,a3,a4,a5,a6,by omega,rfl,yq (fun i hi=>?_),yq (fun i hi h7=>?_),by first|rfl|trivial⟩
      ·rcases(show i=0\/i=1\/i=2\/i=3\/i=4\/i=5\/i=6 by omega)with rfl|rfl|rfl|rfl|rfl|rfl|rfl
       all_goals first
        |omega
        |exact HE.out.symm
        |exact hdone.out 0 zb
        |exact hdone.out 1 zb
        |exact hdone.out 2 zb
        |exact hdone.out 3 zb
        |exact hdone.out 4 zb
        |exact hdone.out 5 zb
        |exact hdone.out 6 zb
      ·rcases(show i=0\/i=1\/i=2\/i=3\/i=4\/i=5\/i=6 by omega)with rfl|rfl|rfl|rfl|rfl|rfl|rfl
       all_goals first
        |omega
        |exact hzero.out 0 zb zb
        |exact hzero.out 1 zb zb
        |exact hzero.out 2 zb zb
        |exact hzero.out 3 zb zb
        |exact hzero.out 4 zb zb
        |exact hzero.out 5 zb zb
        |exact hzero.out 6 zb zb
     case measure=>simp [intOf]
    ·have x0:=hx 1 zb
     (try rw [Nat.add_zero]at x0)
     have HE:Hid (R.d 1=pick (R.days.getD 1 0) 20000):=yq zK;generalize R.days.getD 1 0=z at *;clear hx
     go_wp2_with (go_at_call 10;refine gw (bZ _ _ _ zb) ?_)
     go_roundw
     case rel=>
      refine⟨1+1,a0,pick z 20000,a2,a3,a4,a5,a6,by omega,rfl,yq (fun i hi=>?_),yq (fun i hi h7=>?_),by first|rfl|trivial⟩
      ·rcases(show i=0\/i=1\/i=2\/i=3\/i=4\/i=5\/i=6 by omega)with rfl|rfl|rfl|rfl|rfl|rfl|rfl
       all_goals first
        |omega
        |exact HE.out.symm
        |exact hdone.out 0 zb
        |exact hdone.out 1 zb
        |exact hdone.out 2 zb
        |exact hdone.out 3 zb
        |exact hdone.out 4 zb
        |exact hdone.out 5 zb
        |exact hdone.out 6 zb
      ·rcases(show i=0\/i=1\/i=2\/i=3\/i=4\/i=5\/i=6 by omega)with rfl|rfl|rfl|rfl|rfl|rfl|rfl
       all_goals first
        |omega
        |exact hzero.out 0 zb zb
        |exact hzero.out 1 zb zb
        |exact hzero.out 2 zb zb
        |exact hzero.out 3 zb zb
        |exact hzero.out 4 zb zb
        |exact hzero.out 5 zb zb
        |exact hzero.out 6 zb zb
     case measure=>simp [intOf]
    ·have x0:=hx 2 zb
     (try rw [Nat.add_zero]at x0)
     have HE:Hid (R.d 2=pick (R.days.getD 2 0) 20000):=yq zK;generalize R.days.getD 2 0=z at *;clear hx
     go_wp2_with (go_at_call 10;refine gw (bZ _ _ _ zb) ?_)
     go_roundw
     case rel=>
      refine⟨2+1,a0,a1,pick z 20000,a3,a4,a5,a6,by omega,rfl,yq (fun i hi=>?_),yq (fun i hi h7=>?_),by first|rfl|trivial⟩
      ·rcases(show i=0\/i=1\/i=2\/i=3\/i=4\/i=5\/i=6 by omega)with rfl|rfl|rfl|rfl|rfl|rfl|rfl
       all_goals first
        |omega
        |exact HE.out.symm
        |exact hdone.out 0 zb
        |exact hdone.out 1 zb
        |exact hdone.out 2 zb
        |exact hdone.out 3 zb
        |exact hdone.out 4 zb
        |exact hdone.out 5 zb
        |exact hdone.out 6 zb
      ·rcases(show i=0\/i=1\/i=2\/i=3\/i=4\/i=5\/i=6 by omega)with rfl|rfl|rfl|rfl|rfl|rfl|rfl
       all_goals first
        |omega
        |exact hzero.out 0 zb zb
        |exact hzero.out 1 zb zb
        |exact hzero.out 2 zb zb
        |exact hzero.out 3 zb zb
        |exact hzero.out 4 zb zb
        |exact hzero.out 5 zb zb
        |exact hzero.out 6 zb zb
     case measure=>simp [intOf]
    ·have x0:=hx 3 zb
     (try rw [Nat.add_zero]at x0)
     have HE:Hid (R.d 3=pick (R.days.getD 3 0) 20000):=yq zK;generalize R.days.getD 3 0=z at *;clear hx
     go_wp2_with (go_at_call 10;refine gw (bZ _ _ _ zb) ?_)
     go_roundw
     case rel=>
      refine⟨3+1,a0,a1,a2,pick z 20000,a4,a5,a6,by omega,rfl,yq (fun i hi=>?_),yq (fun i hi h7=>?_),by first|rfl|trivial⟩
      ·rcases(show i=0\/i=1\/i=2\/i=3\/i=4\/i=5\/i=6 by omega)with rfl|rfl|rfl|rfl|rfl|rfl|rfl
       all_goals first
        |omega
        |exact HE.out.symm
        |exact hdone.out 0 zb
        |exact hdone.out 1 zb
        |exact hdone.out 2 zb
        |exact hdone.out 3 zb
        |exact hdone.out 4 zb
        |exact hdone.out 5 zb
        |exact hdone.out 6 zb
      ·rcases(show i=0\/i=1\/i=2\/i=3\/i=4\/i=5\/i=6 by omega)with rfl|rfl|rfl|rfl|rfl|rfl|rfl
       all_goals first
        |omega
        |exact hzero.out 0 zb zb
        |exact hzero.out 1 zb zb
        |exact hzero.out 2 zb zb
        |exact hzero.out 3 zb zb
        |exact hzero.out 4 zb zb
        |exact hzero.out 5 zb zb
        |exact hzero.out 6 zb zb
     case measure=>simp [intOf]
    ·have x0:=hx 4 zb
     (try rw [Nat.add_zero]at x0)
     have HE:Hid (R.d 4=pick (R.days.getD 4 0) 20000):=yq zK;generalize R.days.getD 4 0=z at *;clear hx
     go_wp2_with (go_at_call 10;refine gw (bZ _ _ _ zb) ?_)
     go_roundw
     case rel=>
      refine⟨4+1,a0,a1,a2,a3,pick z 20000,a5,a6,by omega,rfl,yq (fun i hi=>?_),yq (fun i hi h7=>?_),by first|rfl|trivial⟩
      ·rcases(show i=0\/i=1\/i=2\/i=3\/i=4\/i=5\/i=6 by omega)with rfl|rfl|rfl|rfl|rfl|rfl|rfl
       all_goals first
        |omega
        |exact HE.out.symm
        |exact hdone.out 0 zb
        |exact hdone.out 1 zb
        |exact hdone.out 2 zb
        |exact hdone.out 3 zb
        |exact hdone.out 4 zb
        |exact hdone.out 5 zb
        |exact hdone.out 6 zb
      ·rcases(show i=0\/i=1\/i=2\/i=3\/i=4\/i=5\/i=6 by omega)with rfl|rfl|rfl|rfl|rfl|rfl|rfl
       all_goals first
        |omega
        |exact hzero.out 0 zb zb
        |exact hzero.out 1 zb zb
        |exact hzero.out 2 zb zb
        |exact hzero.out 3 zb zb
        |exact hzero.out 4 zb zb
        |exact hzero.out 5 zb zb
        |exact hzero.out 6 zb zb
     case measure=>simp [intOf]
    ·have x0:=hx 5 zb
     (try rw [Nat.add_zero]at x0)
     have HE:Hid (R.d 5=pick (R.days.getD 5 0) 20000):=yq zK;generalize R.days.getD 5 0=z at *;clear hx
     go_wp2_with (go_at_call 10;refine gw (bZ _ _ _ zb) ?_)
     go_roundw
     case rel=>
      refine⟨5+1,a0,a1,a2,a3,a4,pick z 20000,a6,by omega,rfl,yq (fun i hi=>?_),yq (fun i hi h7=>?_),by first|rfl|trivial⟩
      ·rcases(show i=0\/i=1\/i=2\/i=3\/i=4\/i=5\/i=6 by omega)with rfl|rfl|rfl|rfl|rfl|rfl|rfl
       all_goals first
        |omega
        |exact HE.out.symm
        |exact hdone.out 0 zb
        |exact hdone.out 1 zb
        |exact hdone.out 2 zb
        |exact hdone.out 3 zb
        |exact hdone.out 4 zb
        |exact hdone.out 5 zb
        |exact hdone.out 6 zb
      ·rcases(show i=0\/i=1\/i=2\/i=3\/i=4\/i=5\/i=6 by omega)with rfl|rfl|rfl|rfl|rfl|rfl|rfl
       all_goals first
        |omega
        |exact hzero.out 0 zb zb
        |exact hzero.out 1 zb zb
        |exact hzero.out 2 zb zb
        |exact hzero.out 3 zb zb
        |exact hzero.out 4 zb zb
        |exact hzero.out 5 zb zb
        |exact hzero.out 6 zb zb
     case measure=>simp [intOf]
    ·have x0:=hx 6 zb
     (try rw [Nat.add_zero]at x0)
     have HE:Hid (R.d 6=pick (R.days.getD 6 0) 20000):=yq zK;generalize R.days.getD 6 0=z at *;clear hx
     go_wp2_with (go_at_call 10;refine gw (bZ _ _ _ zb) ?_)
     go_roundw
     case rel=>
      refine⟨6+1,a0,a1,a2,a3,a4,a5,pick z 20000,by omega,rfl,yq (fun i hi=>?_),yq (fun i hi h7=>?_),by first|rfl|trivial⟩
      ·rcases(show i=0\/i=1\/i=2\/i=3\/i=4\/i=5\/i=6 by omega)with rfl|rfl|rfl|rfl|rfl|rfl|rfl
       all_goals first
        |omega
        |exact HE.out.symm
        |exact hdone.out 0 zb
        |exact hdone.out 1 zb
        |exact hdone.out 2 zb
        |exact hdone.out 3 zb
        |exact hdone.out 4 zb
        |exact hdone.out 5 zb
        |exact hdone.out 6 zb
      ·rcases(show i=0\/i=1\/i=2\/i=3\/i=4\/i=5\/i=6 by omega)with rfl|rfl|rfl|rfl|rfl|rfl|rfl
       all_goals first
        |omega
        |exact hzero.out 0 zb zb
        |exact hzero.out 1 zb zb
        |exact hzero.out 2 zb zb
        |exact hzero.out 3 zb zb
        |exact hzero.out 4 zb zb
        |exact hzero.out 5 zb zb
        |exact hzero.out 6 zb zb
     case measure=>simp [intOf]
   ·have hall:∀i,i<7->[a0,a1,a2,a3,a4,a5,a6].getD i 0=R.d i:=fun i h7=>by
     by_cases hi':i<k
     ·exact hdone.out i hi'
     ·rw [hzero.out i zb h7];unfold VwR.d;rw [if_neg zb]
    obtain rfl:a0=R.d 0:=hall 0 zb;obtain rfl:a1=R.d 1:=hall 1 zb;obtain rfl:a2=R.d 2:=hall 2 zb;obtain rfl:a3=R.d 3:=hall 3 zb;obtain rfl:a4=R.d 4:=hall 4 zb;obtain rfl:a5=R.d 5:=hall 5 zb;obtain rfl:a6=R.d 6:=hall 6 zb;clear hall hdone hzero;by_cases h7:k<7
    ·have d7:(k:Int)<7:=by omega
     have d1:¬(k:Int)<(R.days.length:Int):=by omega
     clear hlt
     go_wp2_with fail
     go_meet
     exact rfl
    ·obtain rfl:k=7:=by omega
     clear hlt
     go_wp2_with fail
     go_meet
     exact rfl
 subst hcut
 go_upto_region 6 with fail
 go_cut [5,6]from 29 (fun v5 v6 wx=>∃B5:Nat,v5= .pointer (some ⟨B5,0,none⟩)/\Below (w.heap.size+1+1+1) ((((w.alloc (.cells #[.int .i64 R.age,.int .i64 R.year,.int .i64 R.children,.int .i64 R.base,.int .i64 R.den,.slice da R.days.length dc,.slice ya R.years.length yc] 36)).alloc (.cells #[.int .i64 0,.int .i64 0,.int .i64 0,.int .i64 0,.int .i64 0,.int .i64 0,.int .i64 0,.int .i64 0,.int .i64 0,.int .i64 0,.int .i64 0,.int .i64 0,.slice none 0 0] 38)).alloc (.cells #[.int .i64 (R.d 0),.int .i64 (R.d 1),.int .i64 (R.d 2),.int .i64 (R.d 3),.int .i64 (R.d 4),.int .i64 (R.d 5),.int .i64 (R.d 6)] 90))) wx/\w.heap.size+1+1+1<=B5/\B5<wx.heap.size/\wx.cell? ⟨B5,0,none⟩=some (.int .i64 (mkN (pick R.base 1000000) (pick R.den 12+1)))/\wx.cell? ⟨B5,1,none⟩=some (.int .i64 (mkD (pick R.base 1000000) (pick R.den 12+1))))
 case first=>
  refine PU (fun W hW=>?_);have b0:W.cell? ⟨w.heap.size,3,none⟩=some (.int .i64 R.base):=by rw [<-hW];simp [go_sem]
  have b1:W.cell? ⟨w.heap.size,4,none⟩=some (.int .i64 R.den):=by rw [<-hW];simp [go_sem]
  have hsz:W.heap.size=w.heap.size+1+1+1:=by rw [<-hW];simp
  have z0:w.heap.size<W.heap.size:=by omega
  have HW:=yq hW;have HSZ:=yq hsz;clear hW hsz;refine TS.begin [13] (World.Grows _) zd zd aj (fun hS=>?_);refine kq 0 hS ?_;refine kq 1 hS ?_;refine kq 3 hS ?_;refine kq 4 hS ?_;refine TS.takeC (i:=2) (v:=(.int .i64 (pick R.base 1000000))) (fn:=10) (args:=#[.int .i64 R.base,.int .i64 1000000]) rfl zd zd zd zf (fun _ _ _ h=>h) rfl hS ?_ ?_ ?_
  focus
   rintro wS ⟨gbS,gdS,rfl⟩
   go_simp
  focus exact fun wS _=>(bZ _ _ wS zb)
  (try simp only [nS])
  refine TS.takeC (i:=5) (v:=(.int .i64 (pick R.den 12))) (fn:=10) (args:=#[.int .i64 R.den,.int .i64 12]) rfl zd zd zd zf (fun _ _ _ h=>h) rfl hS ?_ ?_ ?_
  focus
   rintro wS ⟨gbS,gdS,rfl⟩
   go_simp
  focus exact fun wS _=>(bZ _ _ wS zb)
  (try simp only [nS])
  refine kq 6 hS ?_
  (try simp only [w1])
  clear b0 b1 z0 hi hz0 hz1 hz2 hpd hpy hlen1 hlen2;refine TS.two (i:=7) (k:=11) zt rfl rfl (fun K1 hK1=>?_) (fun K1 hK1=>?_)
  focus
   have HK1:=yq hK1;clear hK1 hS;dsimp only [getElem_toArray,getElem_cons_succ,getElem_cons_zero]
   go_simp
   go_at_call 40
   refine gvq (HMK.out _) ?_;intro bA dA;refine TS.go HK1.out xy (fun hS=>?_);clear HK1 K1
   (try simp only [nS])
   refine kq 8 hS ?_;refine kq 9 hS ?_;refine kq 10 hS ?_;refine TS.one (i:=11) zt rfl (fun K1 hK1=>?_);have HK1:=yq hK1;clear hK1 hS;dsimp only [getElem_toArray,getElem_cons_succ,getElem_cons_zero]
   go_simp
   refine TS.go HK1.out yt (fun hS=>?_);clear HK1 K1
   (try simp only [nS])
  rotate_left
  focus
   have HK1:=yq hK1;clear hK1 hS;dsimp only [getElem_toArray,getElem_cons_succ,getElem_cons_zero]
   go_simp
   refine TS.go HK1.out yt (fun hS=>?_);clear HK1 K1
   (try simp only [nS])
   refine TS.one (i:=7) zt rfl (fun K1 hK1=>?_);have HK1:=yq hK1;clear hK1 hS;dsimp only [getElem_toArray,getElem_cons_succ,getElem_cons_zero]
   go_simp
   go_at_call 40
   refine gvq (HMK.out _) ?_;intro bA dA;refine TS.go HK1.out xy (fun hS=>?_);clear HK1 K1
   (try simp only [nS])
   refine kq 8 hS ?_;refine kq 9 hS ?_;refine kq 10 hS ?_
  rotate_left
  all_goals
   refine TS.one (i:=12) zt rfl (fun K1 hK1=>?_);have HK1:=yq hK1;clear hK1 hS;dsimp only [getElem_toArray,getElem_cons_succ,getElem_cons_zero]
   go_simp
   refine TS.go HK1.out yt (fun hS=>?_);clear HK1 K1
   (try simp only [nS])
   refine TS.weB 13 ?_;clear hS;have hW:=HW.out;subst hW
   go_wp2_with fail
   go_meet
   exact⟨_,rfl,by(exact au),by(simp<;>omega),by(simp<;>omega),by simp [go_sem],by simp [go_sem]⟩
 obtain⟨B5,rfl,hB5,h35,hlt5,x50,x51⟩:=hcut;have hsz:=hB5.size;simp only [World.size_alloc]at hsz;have q0:wc.cell? ⟨w.heap.size,0,none⟩=some (.int .i64 R.age):=(hB5.cell (p:=⟨w.heap.size,0,none⟩) yA).trans zq;have q1:wc.cell? ⟨w.heap.size,1,none⟩=some (.int .i64 R.year):=(hB5.cell (p:=⟨w.heap.size,1,none⟩) yA).trans zq;have q2:wc.cell? ⟨w.heap.size,2,none⟩=some (.int .i64 R.children):=(hB5.cell (p:=⟨w.heap.size,2,none⟩) yA).trans zq;have q6:wc.cell? ⟨w.heap.size,6,none⟩=some (.slice ya R.years.length yc):=(hB5.cell (p:=⟨w.heap.size,6,none⟩) yA).trans zq;have r0:wc.cell? ⟨w.heap.size+1+1,0,none⟩=some (.int .i64 (R.d 0)):=(hB5.cell (p:=⟨w.heap.size+1+1,0,none⟩) zL).trans zq;have r1:wc.cell? ⟨w.heap.size+1+1,1,none⟩=some (.int .i64 (R.d 1)):=(hB5.cell (p:=⟨w.heap.size+1+1,1,none⟩) zL).trans zq;have r2:wc.cell? ⟨w.heap.size+1+1,2,none⟩=some (.int .i64 (R.d 2)):=(hB5.cell (p:=⟨w.heap.size+1+1,2,none⟩) zL).trans zq;have r3:wc.cell? ⟨w.heap.size+1+1,3,none⟩=some (.int .i64 (R.d 3)):=(hB5.cell (p:=⟨w.heap.size+1+1,3,none⟩) zL).trans zq;have r4:wc.cell? ⟨w.heap.size+1+1,4,none⟩=some (.int .i64 (R.d 4)):=(hB5.cell (p:=⟨w.heap.size+1+1,4,none⟩) zL).trans zq;have r5:wc.cell? ⟨w.heap.size+1+1,5,none⟩=some (.int .i64 (R.d 5)):=(hB5.cell (p:=⟨w.heap.size+1+1,5,none⟩) zL).trans zq;have r6:wc.cell? ⟨w.heap.size+1+1,6,none⟩=some (.int .i64 (R.d 6)):=(hB5.cell (p:=⟨w.heap.size+1+1,6,none⟩) zL).trans zq;have z0:w.heap.size<wc.heap.size:=by omega
 have z2:w.heap.size+1+1<wc.heap.size:=by omega
 have HB5:=yq hB5;have HSZ:=yq hsz;clear hB5 hsz
 go_upto_region 7 with fail
 refine TS.begin [27] (World.Grows _) zd zd aj (fun hS=>?_);refine kq 0 hS ?_;refine kq 1 hS ?_;refine kq 3 hS ?_;refine kq 4 hS ?_;refine kq 7 hS ?_;refine kq 8 hS ?_;refine kq 10 hS ?_;refine kq 11 hS ?_;refine kq 12 hS ?_;refine kq 13 hS ?_;refine kq 14 hS ?_;refine kq 15 hS ?_;refine kq 16 hS ?_;refine kq 17 hS ?_;refine kq 18 hS ?_;refine kq 19 hS ?_;refine kq 20 hS ?_;refine kq 21 hS ?_;refine kq 22 hS ?_;refine kq 23 hS ?_;refine kq 24 hS ?_;refine TS.takeC (i:=2) (v:=(.int .i64 (pick R.age 110))) (fn:=10) (args:=#[.int .i64 R.age,.int .i64 110]) rfl zd zd zd zf (fun _ _ _ h=>h) rfl hS ?_ ?_ ?_
 focus
  rintro wS ⟨gbS,gdS,rfl⟩
  go_simp
 focus exact fun wS _=>(bZ _ _ wS zb)
 (try simp only [nS])
 refine TS.takeC (i:=5) (v:=(.int .i64 (pick R.year 200))) (fn:=10) (args:=#[.int .i64 R.year,.int .i64 200]) rfl zd zd zd zf (fun _ _ _ h=>h) rfl hS ?_ ?_ ?_
 focus
  rintro wS ⟨gbS,gdS,rfl⟩
  go_simp
 focus exact fun wS _=>(bZ _ _ wS zb)
 (try simp only [nS])
 refine kq 6 hS ?_;refine TS.takeC (i:=9) (v:=(.int .i64 (pick R.children 8))) (fn:=10) (args:=#[.int .i64 R.children,.int .i64 8]) rfl zd zd zd zf (fun _ _ _ h=>h) rfl hS ?_ ?_ ?_
 focus
  rintro wS ⟨gbS,gdS,rfl⟩
  go_simp
 focus exact fun wS _=>(bZ _ _ wS zb)
 (try simp only [nS])
 refine kq 25 hS ?_
 (try simp only [w2])
 refine TS.one (i:=26) zt rfl (fun K1 hK1=>?_);have HK1:=yq hK1;clear hK1 hS;dsimp only [getElem_toArray,getElem_cons_succ,getElem_cons_zero]
 go_simp
 refine TS.go HK1.out yt (fun hS=>?_);clear HK1 K1
 (try simp only [nS])
 refine TS.weB 27 ?_;clear hS
 go_wp2_with fail
 go_loopw [8] (fun v8 wr=>∃(k:Nat) (vb:Value),k<=R.years.length/\k<=20/\v8= .int .i64 k/\Below (wc.heap.size+1) (wc.alloc ((.cells #[.int .i64 (pick R.age 110),.int .i64 (1900+pick R.year 200),.int .i64 (pick R.children 8),.int .i64 (R.d 0),.int .i64 (R.d 1),.int .i64 (R.d 2),.int .i64 (R.d 3),.int .i64 (R.d 4),.int .i64 (R.d 5),.int .i64 (R.d 6),.int .i64 (mkN (pick R.base 1000000) (pick R.den 12+1)),.int .i64 (mkD (pick R.base 1000000) (pick R.den 12+1)),vb] 38))) wr/\wr.ownsRow (wc.heap.size+1) 3 1 vb k ((mvV R).take k)) (fun v8 _=>20-(intOf v8).toNat)
 case atStart=>exact⟨0,_,by omega,by omega,rfl,by first|exact .refl _ _|exact⟨rfl,rfl,rfl,Nat.le_refl _,fun _ _=>rfl⟩,World.ownsRow_nil _ _ _ _⟩
 case round=>
  obtain⟨k,vb,hk,hk20,rfl,hB,hown⟩:=hrel;have p6:wr.cell? ⟨w.heap.size,6,none⟩=some (.slice ya R.years.length yc):=(hB.cell (p:=⟨w.heap.size,6,none⟩) (by show w.heap.size<wc.heap.size+1;omega)).trans ((World.cell?_alloc_lt wc _ ⟨w.heap.size,6,none⟩ z0).trans q6);have pv:wr.cell? ⟨wc.heap.size,12,none⟩=some vb:=(hB.cell (p:=⟨wc.heap.size,12,none⟩) yg).trans zq;have fv:wr.frozen? ⟨wc.heap.size,12,none⟩=false:=(hB.frozen (p:=⟨wc.heap.size,12,none⟩) yg).trans zq;have hszr:wc.heap.size+1<=wr.heap.size:=by have:=hB.size;simpa using this
  have HB:=yq hB;have HO:=yq hown;have HPV:=yq pv;have HFV:=yq fv;by_cases hlt:k<R.years.length/\k<20
  ·rcases HYC.out with h0|⟨b,off,rfl,hbw,hx⟩
   ·omega
   have x0:=hx k hlt.1;have hbs:b<wc.heap.size:=by omega
   have x1:wr.cell? ⟨b,off+k,none⟩=some (.int .i64 (R.years.getD k 0)):=(hB.cell (p:=⟨b,off+k,none⟩) (by show b<wc.heap.size+1;omega)).trans ((World.cell?_alloc_lt wc _ ⟨b,off+k,none⟩ hbs).trans ((HB5.out.cell (p:=⟨b,off+k,none⟩) (by show b<w.heap.size+1+1+1;omega)).trans (((World.cell?_alloc_lt _ _ ⟨b,off+k,none⟩ zg).trans ((World.cell?_alloc_lt _ _ ⟨b,off+k,none⟩ zg).trans (World.cell?_alloc_lt _ _ ⟨b,off+k,none⟩ hbw))).trans x0)));have d0:0<R.years.length:=by omega
   have d1:(k:Int)<(R.years.length:Int):=by omega
   have d2:(k:Int)<20:=by omega
   have HNX:=yq (NW R k hlt.1 hlt.2);have HKL:=yq hlt;clear hx x0 hlt hB hown q0 q1 q2 q6 r0 r1 r2 r3 r4 r5 r6 x50 x51;generalize R.years.getD k 0=z at *
   go_wp2_with fail
   refine TG.begin 11 (fun wS=>wS.cell? ⟨w.heap.size,6,none⟩=some (.slice (some ⟨b,off,none⟩) R.years.length yc)/\wS.cell? ⟨wc.heap.size,12,none⟩=some vb/\wS.cell? ⟨b,off+k,none⟩=some (.int .i64 z)) zd zd ⟨p6,pv,x1⟩ (fun hS=>?_);refine TG.takeV (i:=0) (v:=?_) rfl zd zd zd zf (fun _ _ _ h=>h) rfl hS ?_ ?_
   rotate_left
   focus
    rintro wS ⟨s1,s2,s3⟩
    go_simp
    rfl
   (try simp only [nS])
   refine TG.takeV (i:=1) (v:=?_) rfl zd zd zd zf (fun _ _ _ h=>h) rfl hS ?_ ?_
   rotate_left
   focus
    rintro wS ⟨s1,s2,s3⟩
    go_simp
    rfl
   (try simp only [nS])
   refine TG.takeV (i:=2) (v:=?_) rfl zd zd zd zf (fun _ _ _ h=>h) rfl hS ?_ ?_
   rotate_left
   focus
    rintro wS ⟨s1,s2,s3⟩
    go_simp
    rfl
   (try simp only [nS])
   refine TG.takeV (i:=3) (v:=?_) rfl zd zd zd zf (fun _ _ _ h=>h) rfl hS ?_ ?_
   rotate_left
   focus
    rintro wS ⟨s1,s2,s3⟩
    go_simp
    rfl
   (try simp only [nS])
   refine TG.takeV (i:=4) (v:=?_) rfl zd zd zd zf (fun _ _ _ h=>h) rfl hS ?_ ?_
   rotate_left
   focus
    rintro wS ⟨s1,s2,s3⟩
    go_simp
    rfl
   (try simp only [nS])
   refine TG.takeV (i:=5) (v:=?_) rfl zd zd zd zf (fun _ _ _ h=>h) rfl hS ?_ ?_
   rotate_left
   focus
    rintro wS ⟨s1,s2,s3⟩
    go_simp
    rfl
   (try simp only [nS])
   refine TG.takeV (i:=6) (v:=?_) rfl zd zd zd zf (fun _ _ _ h=>h) rfl hS ?_ ?_
   rotate_left
   focus
    rintro wS ⟨s1,s2,s3⟩
    go_simp
    rfl
   (try simp only [nS])
   refine TG.takeC (i:=7) (v:=.int .i64 (pick z 5000000)) (fn:=10) (args:=#[.int .i64 z,.int .i64 5000000]) rfl zd zd zd zf (fun _ _ _ h=>h) rfl hS ?_ ?_ ?_
   focus
    rintro wS ⟨s1,s2,s3⟩
    go_simp
   focus exact fun wS _=>bZ _ _ wS zb
   (try simp only [nS])
   refine TG.one (i:=8) zt rfl (fun K1 hK1=>?_)
   go_simp
   refine TG.go hK1 (by exact⟨(World.cell?_alloc_lt wr _ ⟨w.heap.size,6,none⟩ (by show w.heap.size<wr.heap.size;omega)).trans p6,(World.cell?_alloc_lt wr _ ⟨wc.heap.size,12,none⟩ (by show wc.heap.size<wr.heap.size;omega)).trans HPV.out,(World.cell?_alloc_lt wr _ ⟨b,off+k,none⟩ (by show b<wr.heap.size;omega)).trans x1⟩) (fun hS=>?_);clear hK1 K1
   (try simp only [nS])
   refine TG.one (i:=9) zt rfl (fun K1 hK1=>?_);refine aI rfl _ _ 22 rfl (wc.heap.size+1) 3 i0 (.int .i64 0) 1 8 underlying22 hi hz0 hz1 hz2 rfl zf vb k _ rfl (HO.out.alloc _) ⟨wr.heap.size,0,none⟩ 1 1 [.int .i64 (pick z 5000000)] rfl rfl (ax wr [.int .i64 (pick z 5000000)] _ _ rfl) yx zu zb zg ?_;intro v2 w2 hown2 hgrow2;obtain⟨g',cap',rfl⟩:=ownsRow_succ hown2;have hB2:Below (wc.heap.size+1) wr w2:=Below.grown (((Below.refl (wc.heap.size+1) wr).alloc hszr (.cells #[.int .i64 (pick z 5000000)] 3)).drew) hgrow2 zg (fun k hk=>(HO.out.lt k hk).1);have HB2:=yq hB2;have HO2:=yq hown2;refine TG.go hK1 (by exact⟨(hB2.cell (p:=⟨w.heap.size,6,none⟩) (by show w.heap.size<wc.heap.size+1;omega)).trans p6,(hB2.cell (p:=⟨wc.heap.size,12,none⟩) yg).trans HPV.out,(hB2.cell (p:=⟨b,off+k,none⟩) (by show b<wc.heap.size+1;omega)).trans x1⟩) (fun hS=>?_);clear hK1 K1
   (try simp only [nS])
   refine TG.takeV (i:=10) (v:=?_) rfl zd zd zd zf (fun _ _ _ h=>h) rfl hS ?_ ?_
   rotate_left
   focus
    rintro wS ⟨s1,s2,s3⟩
    go_simp
    rfl
   (try simp only [nS])
   have cv:w2.cell? ⟨wc.heap.size,12,none⟩=some vb:=(HB2.out.cell (p:=⟨wc.heap.size,12,none⟩) yg).trans HPV.out;have gv:w2.frozen? ⟨wc.heap.size,12,none⟩=false:=(HB2.out.frozen (p:=⟨wc.heap.size,12,none⟩) yg).trans HFV.out;clear hown2 hgrow2 hB2;refine TG.one (i:=11) zd rfl (fun K1 hK1=>?_)
   go_simp
   refine hK1 _ _ (fun h=>absurd rfl h) (TG.done zd ?_);clear hK1 K1 hS
   (try simp only [nS])
   go_wp2_with fail
   go_roundw
   case rel=>
    refine⟨k+1,.slice (some ⟨g',0,none⟩) (k+1) cap',by have:=HKL.out;omega,by have:=HKL.out;omega,by go_num, ?_, ?_⟩
    rotate_left
    ·rw [HNX.out];obtain⟨h0,h1|⟨g2,c2,cur,hv,hbg,hg,hr⟩⟩:=HO2.out
     ·exact absurd h1.1 ze
     ·exact⟨h0,.inr ⟨g2,c2,cur,hv,hbg,(Below.heap_setCell _ _ _ _ (by show g2≠wc.heap.size;omega)).trans hg,hr⟩⟩
    ·have h:=(HB.out.trans HB2.out).setBoth ⟨wc.heap.size,12,none⟩ (.slice (some ⟨g',0,none⟩) (k+1) cap');simpa [go_sem]using h
   case measure=>simp [intOf];have:=HKL.out;omega
  ·have hend:=QC R k hk hk20 zb;have HEND:=yq hend;clear hend;obtain⟨bs9,d9,rfl⟩:World.Grows (wc.alloc ((.cells #[.int .i64 (pick R.age 110),.int .i64 (1900+pick R.year 200),.int .i64 (pick R.children 8),.int .i64 (R.d 0),.int .i64 (R.d 1),.int .i64 (R.d 2),.int .i64 (R.d 3),.int .i64 (R.d 4),.int .i64 (R.d 5),.int .i64 (R.d 6),.int .i64 (mkN (pick R.base 1000000) (pick R.den 12+1)),.int .i64 (mkD (pick R.base 1000000) (pick R.den 12+1)),vb] 38))) wr:=.of_below (by simpa using HB.out);clear hB hown pv fv p6 HPV HFV q0 q1 q2 q6 r0 r1 r2 r3 r4 r5 r6 x50 x51 HB z0 z2;obtain⟨bs7,d7,rfl⟩:World.Grows ((((w.alloc (.cells #[.int .i64 R.age,.int .i64 R.year,.int .i64 R.children,.int .i64 R.base,.int .i64 R.den,.slice da R.days.length dc,.slice ya R.years.length yc] 36)).alloc (.cells #[.int .i64 0,.int .i64 0,.int .i64 0,.int .i64 0,.int .i64 0,.int .i64 0,.int .i64 0,.int .i64 0,.int .i64 0,.int .i64 0,.int .i64 0,.int .i64 0,.slice none 0 0] 38)).alloc (.cells #[.int .i64 (R.d 0),.int .i64 (R.d 1),.int .i64 (R.d 2),.int .i64 (R.d 3),.int .i64 (R.d 4),.int .i64 (R.d 5),.int .i64 (R.d 6)] 90))) wc:=.of_below (by simpa using HB5.out);clear HB5 HSZ hlt5 hszr;simp only [World.size_grow,World.size_alloc]at HO
   obtain⟨va,vc,rfl⟩:∃a c,vb= .slice a k c:=by
    rcases oz HO.out with ⟨rfl,h0⟩|⟨g,cap,rfl,-⟩
    ·exact⟨none,0,by rw [h0]⟩
    ·exact⟨_,cap,rfl⟩
   by_cases d1:(k:Int)<(R.years.length:Int)
   focus
    have d2:¬(k:Int)<20:=by omega
    clear hlt
   rotate_left
   focus
    clear hlt
   rotate_left
   all_goals
    go_wp2_with fail
    go_returns
    refine⟨.slice va k vc,rfl,.of_below au, ?_⟩;exact bR.of_rowB (World.ownsRow_same ze zX HO.out) HEND.out.2 HEND.out.1 (by have:=Gq R;omega)
end Go.Proofs.YteildlpchhlchaaGreatDoor
