import Derived.Test.YtcfpoofhokbhlaaGreatDoorVAw8
set_option linter.all false
set_option maxHeartbeats 16000000
set_option maxRecDepth 1000000
namespace Go.Proofs.YtcfpoofhokbhlaaGreatDoor
open Go.Proofs.Tryz Tryz List
open Go.RowKit
theorem bI.of_rowB{w:World}{base:Nat}{v:Value}{l:List Int}{k:Nat}{xs:List Value}(h:w.ownsRow base 3 1 v k xs)(hk:k=l.length)(hx:xs=l.map (Value.int .i64))(hl:l.length<=1000):bI w v l:=by
 subst hk hx;exact bI.of_row h hl
theorem oQ{w:World}{base:Nat}{v:Value}{k:Nat}{xs:List Value}(h:w.ownsRow base 3 1 v k xs):(v= .slice none 0 0/\k=0)\/∃g cap,v= .slice (some ⟨g,0,none⟩) k cap/\base<=g/\g<w.heap.size:=by
 exact RF
end Go.Proofs.YtcfpoofhokbhlaaGreatDoor
namespace Go
theorem aF{P:Program}{ops:Array Oper}{o:Oper}{a:Act}{w:World}{K:Act->World->Prop}{Q:Exit->Act->World->Prop}{E:Prop}(hgd:o.guard=none)(s x:Operand)(t:TypeId)
 (ho:o.op= .call {callee:=.builtin .append,args:=#[s,x],argTypes:=#[t,t]})
 (base:Nat) (e:TypeId) (i:TypeInfo) (z:Value) (size bytes:Nat) (ht:P.underlying t=some (.slice e)) (hi:P.info? e=some i) (hz:i.zero=some z)
 (hsize:i.size=size) (hby:i.bytes=bytes) (hzs:z.cells.size=size) (hsz:0<size)
 (v:Value) (n:Nat) (xs:List Value) (hs:a.eval s=v) (hown:w.ownsRow base e size v n xs)
 (ad:Addr) (m c:Nat) (news:List Value) (hx:a.eval x= .slice (some ad) m c) (hl:news.length=m*size) (hnews:∀j u,news[j]? =some u->w.cell? (ad.add j)=some u) (h1:∀u∈news,u.oneCell'=true)
 (h63:n+m<=maxLen) (hbytes:(n+m)*bytes<=140737488355328) (hbase:base<=w.heap.size)
 (h:∀v' w',w'.ownsRow base e size v' (n+m) (xs++news)->w.grownBy w' v.ownBlock->K (a.put o.dst v') w') :
 if Region.wanted o (yielded ops a.tmps)=true then Oper.wp P o a w K Q else E:=by
 have hw:Region.wanted o (yielded ops a.tmps)=true:=by simp [Region.wanted,hgd]
 rw [if_pos hw];exact wp_append_own w s x t ho base e i z size bytes ht hi hz hsize hby hzs hsz v n xs hs hown ad m c news hx hl hnews h1 h63 hbytes hbase fun v' w' h2 h3 _=>h v' w' h2 h3
theorem gX{P:Program}{ops:Array Oper}{o:Oper}{a:Act}{w:World}{K:Act->World->Prop}{Q:Exit->Act->World->Prop}{E:Prop}(hgd:o.guard=none)(s x:Operand)(t:TypeId)
 (ho:o.op= .call {callee:=.builtin .append,args:=#[s,x],argTypes:=#[t,t]})
 (base:Nat) (e:TypeId) (i:TypeInfo) (size:Nat) (ht:P.underlying t=some (.slice e)) (hi:P.info? e=some i)
 (v:Value) (n:Nat) (xs:List Value) (hs:a.eval s=v) (hown:w.ownsRow base e size v n xs) (hx:a.eval x= .slice none 0 0)
 (h:K (a.put o.dst v) w):if Region.wanted o (yielded ops a.tmps)=true then Oper.wp P o a w K Q else E:=by
 have hw:Region.wanted o (yielded ops a.tmps)=true:=by simp [Region.wanted,hgd]
 rw [if_pos hw];have hrun:=run_append_owned_none (P:=P) (w:=w) base t o.type e i size ht hi v n xs hown;unfold Oper.wp;simp [execOp,ho,resolve,invoke,builtin,hs,hx,hrun,Result.andThen];exact h
end Go
namespace Go
open Go.RowKit
theorem RowKit.Below.setBoth{B:Nat}{a w:World}(h:Below B a w)(p:Addr)(v:Value):Below B (a.setCell p v) (w.setCell p v):=
 ⟨h.os,h.tape,h.output,by simpa [World.setCell]using h.size,fun k hk=>by
  simp only [World.setCell,Array.getElem?_modify]
  rw [h.block k hk]⟩
theorem World.heap_grow_same{X Y:World}(hs:X.heap.size=Y.heap.size)(bs:Array Obj)(d d':Nat){k:Nat}(hk:X.heap.size<=k):(Y.grow bs d').heap[k]? =(X.grow bs d).heap[k]?:=by
 show(Y.heap++bs)[k]? =(X.heap++bs)[k]?;rw [Array.getElem?_append_right ze,Array.getElem?_append_right hk,hs]
theorem World.ownsRow_same{X Y:World}(hs:X.heap.size=Y.heap.size){bs:Array Obj}{d d':Nat}{base size n:Nat}{e:TypeId}{v:Value}{xs:List Value}(hb:X.heap.size<=base)(h:(X.grow bs d).ownsRow base e size v n xs):(Y.grow bs d').ownsRow base e size v n xs:=by
 obtain⟨h0,h1|⟨g,cap,cur,hv,hbg,hg,hr⟩⟩:=h
 ·exact⟨h0,.inl h1⟩
 ·exact⟨h0,.inr ⟨g,cap,cur,hv,hbg,(World.heap_grow_same hs bs d d' ze).trans hg,hr⟩⟩
end Go
namespace Go
theorem ai{w w':World}(h:RowKit.Below w.heap.size w w':=by(try simp only [World.grow_grow,World.grow_drew,World.drew_grow,<-Array.append_assoc]);repeat' (first|(with_reducible exact Go.RowKit.Below.fin)|(with_reducible exact Go.RowKit.Below.refl _ _)|(with_reducible assumption)|(with_reducible refine Go.RowKit.Below.peel ?_ ?_)|(with_reducible refine Go.RowKit.Below.grow ?_ ?_ _ _)|(with_reducible refine Go.RowKit.Below.alloc ?_ ?_ _)|(with_reducible refine Go.RowKit.Below.drewN ?_ _)|(with_reducible refine Go.RowKit.Below.drew ?_)|(with_reducible refine Go.RowKit.Below.setCell ?_ ?_ _)|go_size)):w.Grows w':=.of_below h
end Go
namespace Go.Proofs.YtcfpoofhokbhlaaGreatDoor
open Go.Proofs.Tryz Tryz List
open Go.RowKit
def ApP(r:Val × Int)(w:World)(e:Ending)(w':World):Prop:=e= .returned (.tuple #[.agg #[.int .i64 r.1.dim,.bool r.1.yes,.int .i64 r.1.n,.int .i64 r.1.d],.int .i64 r.2])/\w.Grows w'
def apD(x y:Val):List Value:=[x.dim,y.dim].map (Value.int .i64)
theorem MG(x y:Val)(k:Nat)(hk:k<2)(dk:Int)(h:[x.dim,y.dim].getD k 0=dk):(apD x y).take (k+1)=(apD x y).take k++[.int .i64 dk]:=by
 subst h;rcases(show k=0\/k=1 by omega)with rfl|rfl<;>rfl
theorem Fs(op:Int)(x y:Val)(b o cp:Nat)(w:World)(hx:x.ok=true)(hy:y.ok=true)(ho:op=7\/op=8\/op=9\/op=10\/op=19\/op=20\/(11<=op/\op<=16))(hres:av op [x.dim,y.dim]≠0)(hb:b<w.heap.size)
 (c0:w.cell? ⟨b,o,none⟩=some (.int .i64 x.dim)) (c1:w.cell? ⟨b,o+1,none⟩=some (.bool x.yes)) (c2:w.cell? ⟨b,o+2,none⟩=some (.int .i64 x.n)) (c3:w.cell? ⟨b,o+3,none⟩=some (.int .i64 x.d))
 (e0:w.cell? ⟨b,o+4,none⟩=some (.int .i64 y.dim)) (e1:w.cell? ⟨b,o+5,none⟩=some (.bool y.yes)) (e2:w.cell? ⟨b,o+6,none⟩=some (.int .i64 y.n)) (e3:w.cell? ⟨b,o+7,none⟩=some (.int .i64 y.d)) :
 Calls prog 78 #[.int .i64 op,.slice (some ⟨b,o,none⟩) 2 cp] w (ApP (op2 op x y) w):=by
 obtain⟨i0,hi,hz0,hz1,hz2⟩:=info_parts Ce;have hd:=Az ho hres;have hvx:=(Val.ok_num hx hd.1).2.2.2;have hvy:=(Val.ok_num hy hd.2).2.2.2;have hdx:=Val.ok_dim hx;have hdy:=Val.ok_dim hy;have hcf:=sN hvx hvy;have h64:kS x.n x.d y.n y.d:=⟨(Val.ok_rng hx).1,(Val.ok_rng hx).2,(Val.ok_rng hy).1,(Val.ok_rng hy).2⟩;have HA:=yq (fun w=>DC x.n x.d y.n y.d w h64);have HS:=yq (fun w=>MK x.n x.d y.n y.d w h64);have HM:=yq (fun w=>MS x.n x.d y.n y.d w h64);have HD:=yq (fun w=>M3 x.n x.d y.n y.d w h64);have HC:=yq (fun w=>pX x.n x.d y.n y.d w h64);unfold frI at HC;unfold frV at HA HS HM HD;rw [hcf]at HC;have HRD:=yq hres;have HAN:Hid (((2:Nat):Int)=aU op):=yq (by unfold aU;rw [if_neg ze,if_neg ze,if_pos ze];rfl);have HDX:=yq hdx;have HDY:=yq hdy;have HOP:=yq ho
 have HXD:Hid (op=7\/op=8\/op=19\/op=20->av op [x.dim,y.dim]=x.dim):=yq (fun h=>by
  rw [sI _ _ h]at hres ⊢
  split
  ·rfl
  ·rename_i hn;rw [if_neg hn]at hres;exact absurd rfl hres)
 have HX1:Hid (11<=op/\op<=16->av op [x.dim,y.dim]=1):=yq (fun h=>by
  rw [sH _ _ h]at hres ⊢
  split
  ·rfl
  ·rename_i hn;rw [if_neg hn]at hres;exact absurd rfl hres)
 clear hd hvx hvy hdx hdy hcf h64 hres ho hx hy
 go_enter func78,ntmps78
 go_wp2_with fail
 go_loopw [6,7] (fun v6 v7 wr=>∃(k:Nat) (vb:Value),vb=v6/\k<=2/\v7= .int .i64 k/\Below (w.heap.size+1) (w.alloc (.cells #[.int .i64 0,.bool false,.int .i64 0,.int .i64 0] 51)) wr/\wr.ownsRow (w.heap.size+1) 3 1 vb k ((apD x y).take k)) (fun _ v7 _=>2-(intOf v7).toNat)
 case atStart=>exact⟨0,_,rfl,by omega,rfl,.refl _ _,World.ownsRow_nil _ _ _ _⟩
 case round=>
  obtain⟨k,vb,rfl,hk,rfl,hB,hown⟩:=hrel;have HB:=yq hB;have HO:=yq hown;have hsW:w.heap.size+1<=wr.heap.size:=by have:=hB.size;simpa using this
  have hbr:b<wr.heap.size:=by omega
  have hcc:∀j u,w.cell? ⟨b,j,none⟩=some u->wr.cell? ⟨b,j,none⟩=some u:=fun j u h=>(hB.cell (p:=⟨b,j,none⟩) (by show b<_;omega)).trans ((World.cell?_alloc_lt w _ ⟨b,j,none⟩ hb).trans h);by_cases hlt:k<2
  ·have d1:(k:Int)<2:=by omega
   obtain⟨dk,hdk⟩:∃dk,[x.dim,y.dim].getD k 0=dk:=⟨_,rfl⟩
   have x0:wr.cell? ⟨b,o+k*4,none⟩=some (.int .i64 dk):=by
    subst hdk;rcases(show k=0\/k=1 by omega)with rfl|rfl
    ·exact hcc _ _ c0
    ·exact hcc _ _ e0
   have HNX:=yq (MG x y k hlt dk hdk);have HKL:=yq hlt;clear hlt hB hown hcc c0 c1 c2 c3 e0 e1 e2 e3 hdk
   go_wp2_with (at_builtin;refine wpList_append_own _ rfl _ _ 22 rfl (w.heap.size+1) 3 i0 (.int .i64 0) 1 8 underlying22 hi hz0 hz1 hz2 rfl zo _ _ _ rfl (HO.out.alloc _) ⟨wr.heap.size,0,none⟩ 1 1 [.int .i64 dk] rfl rfl ?c1 ?c2 ?c3 ?c4 ?c5 ?_)
   case c1=>exact aQ _ [.int .i64 dk] _ _ zg
   case c2=>intro u hu;simp at hu;subst hu;rfl
   case c3=>unfold maxLen;omega
   case c4=>omega
   case c5=>simp;try omega
   intro v' w1 hown' hgrow _;have HB1:=yq ((show Below (w.heap.size+1) (w.alloc (.cells #[.int .i64 0,.bool false,.int .i64 0,.int .i64 0] 51)) _ from by have:=HB.out;(exact af)).grown hgrow zG (fun k hk=>(HO.out.lt k hk).1));have HO1:=yq hown';clear hown' hgrow
   go_wp2_with fail
   go_roundw
   case rel=>exact⟨k+1,_,rfl,HKL.out,by go_num,HB1.out,by rw [HNX.out];exact HO1.out⟩
   case measure=>simp [intOf];have:=HKL.out;omega
  ·obtain rfl:k=2:=by omega
   obtain⟨g,cap,rfl⟩:∃g cap,vb= .slice (some ⟨g,0,none⟩) 2 cap:=by
    rcases oQ hown with ⟨-,h⟩|⟨g,cap,rfl,-⟩
    ·omega
    ·exact⟨g,cap,rfl⟩
   have HOW:Hid (wr.ownsRow (w.heap.size+1) 3 1 (.slice (some ⟨g,0,none⟩) [x.dim,y.dim].length cap) [x.dim,y.dim].length ([x.dim,y.dim].map (Value.int .i64))):=yq hown;have HRS:=yq (fun w' (hg:wr.Grows w')=>tO op [x.dim,y.dim] (w.heap.size+1) g cap w' yD yD HAN.out (by intro z hz;have:=HDX.out;have:=HDY.out;simp at hz;omega) (bK HOW.out hg));unfold fK at HRS;obtain⟨rd,hrd⟩:∃rd,av op [x.dim,y.dim]=rd:=⟨_,rfl⟩;have HRD2:=yq hrd;rw [hrd]at HRS HXD HX1;clear hrd hown hcc;obtain⟨bs0,d0,rfl⟩:World.Grows (w.alloc (.cells #[.int .i64 0,.bool false,.int .i64 0,.int .i64 0] 51)) wr:=.of_below (by simpa using HB.out);have HG0:Hid (w.Grows ((w.alloc (.cells #[.int .i64 0,.bool false,.int .i64 0,.int .i64 0] 51)).grow bs0 d0)):=yq ai;clear hB HB HO
   go_wp2_with (go_at_call 105;refine gvq (HRS.out _ ai) ?_;intro bs d)
   refine TS.begin [] (World.Grows _) zf zf aL (fun hS=>?_);refine kq 0 hS ?_;refine kq 1 hS ?_;refine kq 2 hS ?_;refine kq 3 hS ?_;refine kq 4 hS ?_;refine kq 5 hS ?_;refine kq 6 hS ?_;refine kq 7 hS ?_;refine TS.one (i:=8) zq rfl (fun K1 hK1=>?_);have HK1:=yq hK1;clear hK1 hS;dsimp only [getElem_toArray,getElem_cons_succ,getElem_cons_zero]
   go_simp
   go_at_call 28
   refine gvq (HC.out _) ?_;intro bA dA;refine TS.go HK1.out ai (fun hS=>?_);clear HK1 K1
   (try simp only [nS])
   refine kq 9 hS ?_;refine kq 10 hS ?_;refine kq 11 hS ?_;refine kq 12 hS ?_;refine TS.done zf ?_;clear hS
   (try simp only [nS])
   go_upto_block 2 with fail
   have hop:=HOP.out;generalize hc:iy x.n x.d y.n y.d=c;have HCC:=yq hc;clear hc HOP HC HRS HAN HOW;rcases hop with rfl|rfl|rfl|rfl|rfl|rfl|hop
   ·have HR:Hid (op2 7 x y=eT rd (jT x.n x.d y.n y.d)):=yq (by rw [HXD.out (.inl rfl)];rfl);generalize jT x.n x.d y.n y.d=q at *;obtain⟨qn,qd,qc⟩:=q;dsimp only at HA;by_cases hq:qc=0
    focus
     subst hq;unfold eT at HR;rw [if_pos rfl]at HR
    rotate_left
    focus
     unfold eT at HR;rw [if_neg hq]at HR;have hq1:(qc !=0)=true:=by simpa using hq
     clear hq
    rotate_left
    all_goals
     go_wp2_with fail
     refine TS.begin [14] (World.Grows ((w.alloc (.cells #[.int .i64 0,.bool false,.int .i64 0,.int .i64 0] 51)).grow bs0 d0)) zf zf ai (fun hS=>?_);refine kq 0 hS ?_;refine kq 1 hS ?_;refine kq 2 hS ?_;refine kq 3 hS ?_;refine kq 4 hS ?_;refine kq 5 hS ?_;refine kq 6 hS ?_;refine kq 7 hS ?_;refine TS.one (i:=8) zq rfl (fun K1 hK1=>?_);have HK1:=yq hK1;clear hK1 hS;dsimp only [getElem_toArray,getElem_cons_succ,getElem_cons_zero]
     go_simp
     go_at_call 108
     refine gvq (HA.out _) ?_;intro bA dA;refine TS.go HK1.out ai (fun hS=>?_);clear HK1 K1
     (try simp only [nS])
     refine kq 9 hS ?_;refine kq 10 hS ?_;refine kq 11 hS ?_;refine kq 12 hS ?_;refine TS.one (i:=13) zq rfl (fun K1 hK1=>?_);have HK1:=yq hK1;clear hK1 hS;dsimp only [getElem_toArray,getElem_cons_succ,getElem_cons_zero]
     go_simp
     refine TS.go HK1.out ai (fun hS=>?_);clear HK1 K1
     (try simp only [nS])
     refine TS.weB 14 ?_;clear hS
     go_wp2_with fail
     go_returns
     exact⟨by rw [HR.out];rfl,ai⟩
   ·have HR:Hid (op2 8 x y=eT rd (lX x.n x.d y.n y.d)):=yq (by rw [HXD.out (.inr (.inl rfl))];rfl);generalize lX x.n x.d y.n y.d=q at *;obtain⟨qn,qd,qc⟩:=q;dsimp only at HS;by_cases hq:qc=0
    focus
     subst hq;unfold eT at HR;rw [if_pos rfl]at HR
    rotate_left
    focus
     unfold eT at HR;rw [if_neg hq]at HR;have hq1:(qc !=0)=true:=by simpa using hq
     clear hq
    rotate_left
    all_goals
     go_wp2_with fail
     refine TS.begin [14] (World.Grows ((w.alloc (.cells #[.int .i64 0,.bool false,.int .i64 0,.int .i64 0] 51)).grow bs0 d0)) zf zf ai (fun hS=>?_);refine kq 0 hS ?_;refine kq 1 hS ?_;refine kq 2 hS ?_;refine kq 3 hS ?_;refine kq 4 hS ?_;refine kq 5 hS ?_;refine kq 6 hS ?_;refine kq 7 hS ?_;refine TS.one (i:=8) zq rfl (fun K1 hK1=>?_);have HK1:=yq hK1;clear hK1 hS;dsimp only [getElem_toArray,getElem_cons_succ,getElem_cons_zero]
     go_simp
     go_at_call 109
     refine gvq (HS.out _) ?_;intro bA dA;refine TS.go HK1.out ai (fun hS=>?_);clear HK1 K1
     (try simp only [nS])
     refine kq 9 hS ?_;refine kq 10 hS ?_;refine kq 11 hS ?_;refine kq 12 hS ?_;refine TS.one (i:=13) zq rfl (fun K1 hK1=>?_);have HK1:=yq hK1;clear hK1 hS;dsimp only [getElem_toArray,getElem_cons_succ,getElem_cons_zero]
     go_simp
     refine TS.go HK1.out ai (fun hS=>?_);clear HK1 K1
     (try simp only [nS])
     refine TS.weB 14 ?_;clear hS
     go_wp2_with fail
     go_returns
     exact⟨by rw [HR.out];rfl,ai⟩
   ·have HR:Hid (op2 9 x y=eT rd (lL x.n x.d y.n y.d)):=yq (by rw [<-HRD2.out];rfl);generalize lL x.n x.d y.n y.d=q at *;obtain⟨qn,qd,qc⟩:=q;dsimp only at HM;by_cases hq:qc=0
    focus
     subst hq;unfold eT at HR;rw [if_pos rfl]at HR
    rotate_left
    focus
     unfold eT at HR;rw [if_neg hq]at HR;have hq1:(qc !=0)=true:=by simpa using hq
     clear hq
    rotate_left
    all_goals
     go_wp2_with fail
     refine TS.begin [14] (World.Grows ((w.alloc (.cells #[.int .i64 0,.bool false,.int .i64 0,.int .i64 0] 51)).grow bs0 d0)) zf zf ai (fun hS=>?_);refine kq 0 hS ?_;refine kq 1 hS ?_;refine kq 2 hS ?_;refine kq 3 hS ?_;refine kq 4 hS ?_;refine kq 5 hS ?_;refine kq 6 hS ?_;refine kq 7 hS ?_;refine TS.one (i:=8) zq rfl (fun K1 hK1=>?_);have HK1:=yq hK1;clear hK1 hS;dsimp only [getElem_toArray,getElem_cons_succ,getElem_cons_zero]
     go_simp
     go_at_call 110
     refine gvq (HM.out _) ?_;intro bA dA;refine TS.go HK1.out ai (fun hS=>?_);clear HK1 K1
     (try simp only [nS])
     refine kq 9 hS ?_;refine kq 10 hS ?_;refine kq 11 hS ?_;refine kq 12 hS ?_;refine TS.one (i:=13) zq rfl (fun K1 hK1=>?_);have HK1:=yq hK1;clear hK1 hS;dsimp only [getElem_toArray,getElem_cons_succ,getElem_cons_zero]
     go_simp
     refine TS.go HK1.out ai (fun hS=>?_);clear HK1 K1
     (try simp only [nS])
     refine TS.weB 14 ?_;clear hS
     go_wp2_with fail
     go_returns
     exact⟨by rw [HR.out];rfl,ai⟩
   ·have HR:Hid (op2 10 x y=eT rd (lM x.n x.d y.n y.d)):=yq (by rw [<-HRD2.out];rfl);generalize lM x.n x.d y.n y.d=q at *;obtain⟨qn,qd,qc⟩:=q;dsimp only at HD;by_cases hq:qc=0
    focus
     subst hq;unfold eT at HR;rw [if_pos rfl]at HR
    rotate_left
    focus
     unfold eT at HR;rw [if_neg hq]at HR;have hq1:(qc !=0)=true:=by simpa using hq
     clear hq
    rotate_left
    all_goals
     go_wp2_with fail
     refine TS.begin [14] (World.Grows ((w.alloc (.cells #[.int .i64 0,.bool false,.int .i64 0,.int .i64 0] 51)).grow bs0 d0)) zf zf ai (fun hS=>?_);refine kq 0 hS ?_;refine kq 1 hS ?_;refine kq 2 hS ?_;refine kq 3 hS ?_;refine kq 4 hS ?_;refine kq 5 hS ?_;refine kq 6 hS ?_;refine kq 7 hS ?_;refine TS.one (i:=8) zq rfl (fun K1 hK1=>?_);have HK1:=yq hK1;clear hK1 hS;dsimp only [getElem_toArray,getElem_cons_succ,getElem_cons_zero]
     go_simp
     go_at_call 111
     refine gvq (HD.out _) ?_;intro bA dA;refine TS.go HK1.out ai (fun hS=>?_);clear HK1 K1
     (try simp only [nS])
     refine kq 9 hS ?_;refine kq 10 hS ?_;refine kq 11 hS ?_;refine kq 12 hS ?_;refine TS.one (i:=13) zq rfl (fun K1 hK1=>?_);have HK1:=yq hK1;clear hK1 hS;dsimp only [getElem_toArray,getElem_cons_succ,getElem_cons_zero]
     go_simp
     refine TS.go HK1.out ai (fun hS=>?_);clear HK1 K1
     (try simp only [nS])
     refine TS.weB 14 ?_;clear hS
     go_wp2_with fail
     go_returns
     exact⟨by rw [HR.out];rfl,ai⟩
   ·have HQ:Hid (op2 19 x y=(if c<=0 then .num rd x.n x.d else .num rd y.n y.d,0)):=yq (by rw [HXD.out ze,<-HCC.out];rfl);have HR1:∀r,r=(Val.num rd x.n x.d,(0:Int))->Ending.returned (.tuple #[.agg #[.int .i64 rd,.bool false,.int .i64 x.n,.int .i64 x.d],.int .i64 0])= .returned (.tuple #[.agg #[.int .i64 r.1.dim,.bool r.1.yes,.int .i64 r.1.n,.int .i64 r.1.d],.int .i64 r.2]):=fun r h=>by subst h;rfl
    have HR2:∀r,r=(Val.num rd y.n y.d,(0:Int))->Ending.returned (.tuple #[.agg #[.int .i64 rd,.bool false,.int .i64 y.n,.int .i64 y.d],.int .i64 0])= .returned (.tuple #[.agg #[.int .i64 r.1.dim,.bool r.1.yes,.int .i64 r.1.n,.int .i64 r.1.d],.int .i64 r.2]):=fun r h=>by subst h;rfl
    have HRR1:=yq HR1;have HRR2:=yq HR2;clear HR1 HR2;rcases(show c<0\/c=0\/0<c by omega)with h1|h1|h1
    ·have hq1:(c !=0)=true:=by simp;omega
     have hq2:decide (c<0)=true:=decide_eq_true h1
     go_wp2_with fail
     all_goals
      go_returns
      exact⟨HRR1.out _ zU,ai⟩
    ·subst h1
     go_wp2_with fail
     all_goals
      go_returns
      exact⟨HRR1.out _ zU,ai⟩
    ·have hq1:(c !=0)=true:=by simp;omega
     have hq2:decide (c<0)=false:=decide_eq_false ze
     go_wp2_with fail
     all_goals
      trace_state
      go_returns
      exact⟨HRR2.out _ zU,ai⟩
   ·have HQ:Hid (op2 20 x y=(if 0<=c then .num rd x.n x.d else .num rd y.n y.d,0)):=yq (by rw [HXD.out ze,<-HCC.out];rfl);have HR1:∀r,r=(Val.num rd x.n x.d,(0:Int))->Ending.returned (.tuple #[.agg #[.int .i64 rd,.bool false,.int .i64 x.n,.int .i64 x.d],.int .i64 0])= .returned (.tuple #[.agg #[.int .i64 r.1.dim,.bool r.1.yes,.int .i64 r.1.n,.int .i64 r.1.d],.int .i64 r.2]):=fun r h=>by subst h;rfl
    have HR2:∀r,r=(Val.num rd y.n y.d,(0:Int))->Ending.returned (.tuple #[.agg #[.int .i64 rd,.bool false,.int .i64 y.n,.int .i64 y.d],.int .i64 0])= .returned (.tuple #[.agg #[.int .i64 r.1.dim,.bool r.1.yes,.int .i64 r.1.n,.int .i64 r.1.d],.int .i64 r.2]):=fun r h=>by subst h;rfl
    have HRR1:=yq HR1;have HRR2:=yq HR2;clear HR1 HR2;rcases(show c<0\/c=0\/0<c by omega)with h1|h1|h1
    ·have hq1:(c !=0)=true:=by simp;omega
     have hq2:decide (c<0)=true:=decide_eq_true h1
     go_wp2_with fail
     all_goals
      go_returns
      exact⟨HRR2.out _ zU,ai⟩
    ·subst h1
     go_wp2_with fail
     all_goals
      go_returns
      exact⟨HRR1.out _ zU,ai⟩
    ·have hq1:(c !=0)=true:=by simp;omega
     have hq2:decide (c<0)=false:=decide_eq_false ze
     go_wp2_with fail
     all_goals
      trace_state
      go_returns
      exact⟨HRR1.out _ zU,ai⟩
   ·obtain rfl:rd=1:=HX1.out hop;rcases(show op=11\/op=12\/op=13\/op=14\/op=15\/op=16 by omega)with rfl|rfl|rfl|rfl|rfl|rfl
    focus
     have HQ:Hid (op2 11 x y=(.truth (rZ 11 c),0)):=yq zX
    rotate_left
    focus
     have HQ:Hid (op2 12 x y=(.truth (rZ 12 c),0)):=yq zX
    rotate_left
    focus
     have HQ:Hid (op2 13 x y=(.truth (rZ 13 c),0)):=yq zX
    rotate_left
    focus
     have HQ:Hid (op2 14 x y=(.truth (rZ 14 c),0)):=yq zX
    rotate_left
    focus
     have HQ:Hid (op2 15 x y=(.truth (rZ 15 c),0)):=yq zX
    rotate_left
    focus
     have HQ:Hid (op2 16 x y=(.truth (rZ 16 c),0)):=yq zX
    rotate_left
    all_goals
     go_wp2_with fail
     go_returns
     exact⟨by rw [HQ.out];simp [rZ,Val.truth]<;>(by_cases h:c=0<;>simp [h]),ai⟩
theorem Fu(op:Int)(x:Val)(b o cp:Nat)(w:World)(hx:x.ok=true)(h4:4<=op)(h6:op<=6)(hres:av op [x.dim]≠0)(hb:b<w.heap.size)
 (c0:w.cell? ⟨b,o,none⟩=some (.int .i64 x.dim)) (c1:w.cell? ⟨b,o+1,none⟩=some (.bool x.yes)) (c2:w.cell? ⟨b,o+2,none⟩=some (.int .i64 x.n)) (c3:w.cell? ⟨b,o+3,none⟩=some (.int .i64 x.d)) :
 Calls prog 78 #[.int .i64 op,.slice (some ⟨b,o,none⟩) 1 cp] w (ApP (op1 op x) w):=by
 obtain⟨i0,hi,hz0,hz1,hz2⟩:=info_parts Ce;have hdx:=Val.ok_dim hx;have hrg:=Val.ok_rng hx;have HA:=yq (fun w=>Dt x.n x.d w hrg.1.1 hrg.1.2 hrg.2.1 hrg.2.2);have HS:=yq (fun w=>FC x.n x.d w hrg.1.1 hrg.1.2 hrg.2.1 hrg.2.2);unfold frI at HS;unfold frV at HA;have HAN:Hid (((1:Nat):Int)=aU op):=yq (by unfold aU;rw [if_neg ze,if_pos ze];rfl);have HDX:=yq hdx;have HOP:Hid (op=4\/op=5\/op=6):=yq ze
 have HNB:Hid (op=4\/op=6->ay x.n x.d=true/\av op [x.dim]=x.dim):=yq (fun h=>by
  have hr:av op [x.dim]=if x.dim≠1 then x.dim else 0:=by rcases h with rfl|rfl<;>rfl
  rw [hr]at hres ⊢
  split at hres<;>rename_i hd
  ·rw [if_pos hd];exact⟨(Val.ok_num hx hd).2.2.2,rfl⟩
  ·exact absurd rfl hres)
 have HX1:Hid (op=5->av op [x.dim]=1):=yq (fun h=>by
  subst h;have hr:av 5 [x.dim]=if x.dim=1 then 1 else 0:=rfl
  rw [hr]at hres ⊢
  split at hres<;>rename_i hd
  ·rw [if_pos hd]
  ·exact absurd rfl hres)
 clear hdx hres hx hrg h4 h6
 go_enter func78,ntmps78
 go_wp2_with fail
 go_loopw [6,7] (fun v6 v7 wr=>∃(k:Nat) (vb:Value),vb=v6/\k<=1/\v7= .int .i64 k/\Below (w.heap.size+1) (w.alloc (.cells #[.int .i64 0,.bool false,.int .i64 0,.int .i64 0] 51)) wr/\wr.ownsRow (w.heap.size+1) 3 1 vb k (([x.dim].map (Value.int .i64)).take k)) (fun _ v7 _=>1-(intOf v7).toNat)
 case atStart=>exact⟨0,_,rfl,by omega,rfl,.refl _ _,World.ownsRow_nil _ _ _ _⟩
 case round=>
  obtain⟨k,vb,rfl,hk,rfl,hB,hown⟩:=hrel;have HB:=yq hB;have HO:=yq hown;have hsW:w.heap.size+1<=wr.heap.size:=by have:=hB.size;simpa using this
  have hbr:b<wr.heap.size:=by omega
  have hcc:∀j u,w.cell? ⟨b,j,none⟩=some u->wr.cell? ⟨b,j,none⟩=some u:=fun j u h=>(hB.cell (p:=⟨b,j,none⟩) (by show b<_;omega)).trans ((World.cell?_alloc_lt w _ ⟨b,j,none⟩ hb).trans h);by_cases hlt:k<1
  ·obtain rfl:k=0:=by omega
   have x0:=hcc _ _ c0;clear hlt hB hown hcc c0 c1 c2 c3
   go_wp2_with (at_builtin;refine wpList_append_own _ rfl _ _ 22 rfl (w.heap.size+1) 3 i0 (.int .i64 0) 1 8 underlying22 hi hz0 hz1 hz2 rfl zo _ _ _ rfl (HO.out.alloc _) ⟨wr.heap.size,0,none⟩ 1 1 [.int .i64 x.dim] rfl rfl ?c1 ?c2 ?c3 ?c4 ?c5 ?_)
   case c1=>exact aQ _ [.int .i64 x.dim] _ _ zg
   case c2=>intro u hu;simp at hu;subst hu;rfl
   case c3=>decide
   case c4=>decide
   case c5=>simp;try omega
   intro v' w1 hown' hgrow _;have HB1:=yq ((show Below (w.heap.size+1) (w.alloc (.cells #[.int .i64 0,.bool false,.int .i64 0,.int .i64 0] 51)) _ from by have:=HB.out;(exact af)).grown hgrow zG (fun k hk=>(HO.out.lt k hk).1));have HO1:=yq hown';clear hown' hgrow
   go_wp2_with fail
   go_roundw
   case rel=>exact⟨1,_,rfl,by omega,by first|rfl|go_num,HB1.out,HO1.out⟩
   case measure=>simp [intOf]
  ·obtain rfl:k=1:=by omega
   obtain⟨g,cap,rfl⟩:∃g cap,vb= .slice (some ⟨g,0,none⟩) 1 cap:=by
    rcases oQ hown with ⟨-,h⟩|⟨g,cap,rfl,-⟩
    ·omega
    ·exact⟨g,cap,rfl⟩
   have HOW:Hid (wr.ownsRow (w.heap.size+1) 3 1 (.slice (some ⟨g,0,none⟩) [x.dim].length cap) [x.dim].length ([x.dim].map (Value.int .i64))):=yq hown;have HRS:=yq (fun w' (hg:wr.Grows w')=>tO op [x.dim] (w.heap.size+1) g cap w' yD yD HAN.out (by intro z hz;have:=HDX.out;simp at hz;omega) (bK HOW.out hg));unfold fK at HRS;obtain⟨rd,hrd⟩:∃rd,av op [x.dim]=rd:=⟨_,rfl⟩;rw [hrd]at HRS HNB HX1;clear hrd hown hcc;obtain⟨bs0,d0,rfl⟩:World.Grows (w.alloc (.cells #[.int .i64 0,.bool false,.int .i64 0,.int .i64 0] 51)) wr:=.of_below (by simpa using HB.out);clear hB HB HO;have hop:=HOP.out;rcases hop with rfl|rfl|rfl
   ·obtain⟨hv,rfl⟩:=HNB.out (.inl rfl);have hn:iW x.n x.d=(-x.n,x.d,0):=by unfold iW;rw [if_pos hv]
    have HR:Hid (op1 4 x=(.num x.dim (-x.n) x.d,0)):=yq (by show eT x.dim (iW x.n x.d)=_;rw [hn];rfl);rw [hn]at HA;clear hv hn
    go_wp2_with (first
     |(go_at_call 105;refine gvq (HRS.out _ ai) ?_;intro bs d)
     |(go_at_call 106;refine gvq (HA.out _) ?_;intro bs2 d2))
    go_returns
    exact⟨by rw [HR.out];rfl,ai⟩
   ·obtain rfl:=HX1.out rfl;have HR:Hid (op1 5 x=(.truth (!x.yes),0)):=yq rfl
    go_wp2_with (go_at_call 105;refine gvq (HRS.out _ ai) ?_;intro bs d)
    go_returns
    exact⟨by rw [HR.out];rfl,ai⟩
   ·obtain⟨hv,rfl⟩:=HNB.out (.inr rfl);have hn:(eD x.n x.d).2=0:=by unfold eD;rw [if_pos hv]
    have HR:Hid (op1 6 x=(.num x.dim (eD x.n x.d).1 1,0)):=yq (by show eT x.dim ((eD x.n x.d).1,1,(eD x.n x.d).2)=_;rw [hn];rfl);rw [hn]at HS;clear hv hn;generalize(eD x.n x.d).1=fl at *
    go_wp2_with (first
     |(go_at_call 105;refine gvq (HRS.out _ ai) ?_;intro bs d)
     |(go_at_call 107;refine gvq (HS.out _) ?_;intro bs2 d2))
    go_returns
    exact⟨by rw [HR.out];rfl,ai⟩
open Go.RowKit Go.Sort
theorem DX{w:World}{b off:Nat}{zs:List Int}(hc:∀i,i<zs.length->w.cell? ⟨b,off+i,none⟩=some (.int .i64 (zs.getD i 0)))(s:Nat)(l:List Int)(hl:∀(j:Nat) (x:Int),l[j]? =some x->zs[s+j]? =some x) :
 ∀(j:Nat) (u:Value),(l.map (Value.int .i64))[j]? =some u->w.cell? ((⟨b,off+s,none⟩:Addr).add j)=some u:=by
 intro j u hu;rw [getElem?_map]at hu
 cases hx:l[j]? with
 |none=>rw [hx]at hu;cases hu
 |some x=>
  rw [hx]at hu;obtain rfl:Value.int .i64 x=u:=by simpa using hu
  have h1:=hl j x hx;have h2:=(List.getElem?_eq_some_iff.1 h1).1;rw [show(⟨b,off+s,none⟩:Addr).add j=⟨b,off+s+j,none⟩by unfold Addr.add;split<;>simp_all,Nat.add_assoc,hc _ h2,getD_eq_getElem?_getD,h1];rfl
theorem gD{w:World}{b:Nat}{zs:List Int}(hc:∀i,i<zs.length->w.cell? ⟨b,i,none⟩=some (.int .i64 (zs.getD i 0)))(s:Nat)(l:List Int)(hl:∀(j:Nat) (x:Int),l[j]? =some x->zs[s+j]? =some x) :
 ∀(j:Nat) (u:Value),(l.map (Value.int .i64))[j]? =some u->w.cell? ((⟨b,s,none⟩:Addr).add j)=some u:=by
 have:=DX (w:=w) (b:=b) (off:=0) (zs:=zs) (fun i hi=>by rw [Nat.zero_add];exact hc i hi) s l hl
 rwa [Nat.zero_add]at this
theorem iE{l:List Int}{a j:Nat}{x:Int}(h:(l.take a)[j]? =some x):l[j]? =some x:=by
 rw [getElem?_take]at h
 split at h
 ·exact h
 ·cases h
theorem dP(zs:List Int):∀u∈zs.map (Value.int .i64),u.oneCell'=true:=by
 intro u hu;obtain⟨z,_,rfl⟩:=mem_map.1 hu;rfl
theorem Fp(l:List Int)(n:Int)(v:Value)(w:World)(hy:bI w v l)(h1:1<=n)(h2:n<=45)(h3:bD l=true):Calls prog 76 #[v,.int .i64 n] w fun e w'=>e= .returned (frV (gQ l n))/\w.Grows w':=by
 rw [vv h1 h2 h3];obtain⟨i0,hi,hz0,hz1,hz2⟩:=info_parts Ce;obtain⟨nn,rfl⟩:=Int.eq_ofNat_of_zero_le (show 0<=n by omega);have HY:=yq hy;have HA:=yq (fun w' (hg:w.Grows w')=>mH l v w' (HY.out.grows hg));rw [h3]at HA;have HB3:=yq h3;have hl200:l.length<=200:=(kD h3).1;have HBS:Hid (nN l (nn:Int)=((kG l).take nn).sum):=yq rfl;have HM:=yq (fun z (h1:0<=z) (h2:z<=200000000000000) w=>dZ z (nn:Int) w ze ze ze ze);obtain⟨h1000,a,c,rfl,-⟩:=hy;unfold frV at *;dsimp only;generalize nN l (nn:Int)=BS at *;clear h3
 go_enter func76,ntmps76
 go_wp2_with (go_at_call 29;refine gw (HA.out _ (.of_below af)) ?_)
 go_loopw [6,7,8] (fun v6 v7 _ wr=>∃(k:Nat) (vb:Value),vb=v6/\k<=l.length/\v7= .int .i64 k/\(k=0->vb= .slice none 0 0)/\Below (w.heap.size+1) (w.alloc (.cells #[.int .i64 0,.int .i64 0] 39)) wr/\wr.ownsRow (w.heap.size+1) 3 1 vb k ((iO l k).map (Value.int .i64))) (fun _ v7 _ _=>l.length-(intOf v7).toNat)
 case atStart=>exact⟨0,_,rfl,by omega,rfl,fun _=>rfl,.refl _ _,World.ownsRow_nil _ _ _ _⟩
 case round=>
  obtain⟨k,vb,rfl,hk,rfl,hnil,hB,hown⟩:=hrel;obtain⟨WR,rfl⟩:∃WR,WR=wr:=⟨_,rfl⟩;have HB:=yq hB;have HO:=yq hown;have hsW:w.heap.size+1<=WR.heap.size:=by have:=hB.size;simpa using this
  have hG:w.Grows WR:=.of_below ((show Below w.heap.size w _ from by(exact af)).trans (hB.mono ze));have hsk:=wC l k hk;by_cases hlt:k<l.length
  ·obtain⟨-,a',c',hv,hcs⟩:=HY.out.grows hG;simp only [Value.slice.injEq,true_and]at hv;obtain⟨rfl,rfl⟩:=hv;rcases hcs with h0|⟨b,off,rfl,hbw,hx⟩
   ·omega
   have x0:=hx k hlt;have d1:(k:Int)<(l.length:Int):=by omega
   have HSP:=yq (fun a0=>Bq l k a0 hlt);have HKL:=yq hlt;have hlt0:0<l.length:=by omega
   have hYB:bI WR vb (iO l k):=bI.of_rowB hown hsk.symm rfl ze;have HYB:=yq hYB;have hform:=oQ hown;clear hx hlt hB hown hYB;generalize l.getD k 0=x at *;generalize hzs:iO l k=zs at *;have HZS:=yq hzs;clear hzs;rcases Nat.eq_zero_or_pos k with hk0|hkp
   ·subst hk0;obtain rfl:=hnil rfl;have hz0':zs= []:=eq_nil_of_length_eq_zero hsk;subst hz0';have HI2:Hid (iO l (0+1)= [x]):=yq (by have:=HSP.out 0 (Nat.le_refl _) (.inl rfl) (fun j h1 h2=>by omega);simpa using this);have d0:0<l.length:=hlt0;have HF:Hid (∀q,Below (w.heap.size+1) (w.alloc (.cells #[.int .i64 0,.int .i64 0] 39)) (WR.drewN q)/\(WR.drewN q).cell? ⟨b,off,none⟩=some (.int .i64 x)/\b<(WR.drewN q).heap.size/\w.heap.size+1<=(WR.drewN q).heap.size):=yq (fun q=>⟨HB.out.drewN q,x0,hbw,hsW⟩)
    go_wp2_with fail
    go_loopw [8] (fun v8 wr=>v8= .int .i64 0/\∃q,wr=WR.drewN q) (fun _ _=>0)
    case atStart=>exact⟨rfl,0,rfl⟩
    case round=>
     obtain⟨rfl,q,rfl⟩:=hrel
     go_wp2_with fail
     all_goals try(first|(go_quiet (fail);go_wp2_with fail)|(go_region;go_wp2_with fail))
     simp only [World.drewN_drewN];have HF1:=HF.out (q+nq);clear HF HB HO x0 hbw hsW HYB hG;generalize WR.drewN (q+nq)=WR at *;obtain⟨hB,x0,hbw,hsW⟩:=HF1;have HB:=yq hB;clear hB;refine TG.begin 14 (fun wS=>wS.cell? ⟨b,off,none⟩=some (.int .i64 x)) zf zf yI (fun hS=>?_);refine TG.tkB 0 hS ?_;refine TG.tkB 1 hS ?_;refine TG.tkB 2 hS ?_;refine TG.tkB 4 hS ?_;refine TG.tkB 5 hS ?_;refine TG.tkB 6 hS ?_;refine TG.tkB 7 hS ?_;refine TG.tkB 10 hS ?_;refine TG.tkB 11 hS ?_;refine TG.tkB 12 hS ?_;refine TG.two (i:=3) (k:=8) zf rfl rfl (fun K1 hK1=>?_) (fun K1 hK1=>?_)
     focus
      refine gX rfl _ _ 22 rfl WR.heap.size 3 i0 1 underlying22 hi (.slice none 0 0) 0 [] rfl (World.ownsRow_nil _ _ _ _) rfl ?_;refine TG.go hK1 ?_ (fun hS=>?_);focus exact hS
      clear hK1 K1
      (try simp only [nS])
      refine TG.one (i:=8) zf rfl (fun K1 hK1=>?_)
      go_simp
      refine TG.go hK1 ?_ (fun hS=>?_);focus exact yX
     rotate_left
     focus
      go_simp
      refine TG.go hK1 ?_ (fun hS=>?_);focus exact yX
      clear hK1 K1
      (try simp only [nS])
      refine TG.one (i:=3) zf rfl (fun K1 hK1=>?_);refine gX rfl _ _ 22 rfl WR.heap.size 3 i0 1 underlying22 hi (.slice none 0 0) 0 [] rfl (World.ownsRow_nil _ _ _ _) rfl ?_;refine TG.go hK1 ?_ (fun hS=>?_);focus exact hS
     rotate_left
     all_goals
      clear hK1 K1
      (try simp only [nS])
      refine TG.one (i:=9) zf rfl (fun K1 hK1=>?_);refine aF rfl _ _ 22 rfl WR.heap.size 3 i0 (.int .i64 0) 1 8 underlying22 hi hz0 hz1 hz2 rfl zo (.slice none 0 0) 0 [] rfl (World.ownsRow_nil _ _ _ _) ⟨WR.heap.size,0,none⟩ 1 1 ([x].map (Value.int .i64)) rfl rfl ?_ (dP _) zo zo zg ?_;focus exact aQ _ [.int .i64 x] _ _ zg
      intro v2 w2 hown2 hgrow2;have HB2:=yq (Below.grown ((Below.refl WR.heap.size WR).alloc (Nat.le_refl _) (.cells #[.int .i64 x] 3)).drew hgrow2 zg (fun k hk=>by cases hk));have HO2:=yq hown2;clear hown2 hgrow2;refine TG.go hK1 ?_ (fun hS=>?_);focus exact(HB2.out.cell (p:=⟨b,off+0,none⟩) hbw).trans x0
      clear hK1 K1
      (try simp only [nS])
      refine TG.one (i:=13) zf rfl (fun K1 hK1=>?_);refine gX rfl _ _ 22 rfl WR.heap.size 3 i0 1 underlying22 hi v2 _ _ rfl HO2.out rfl ?_;refine TG.go hK1 ?_ (fun hS=>?_);focus exact hS
      clear hK1 K1
      (try simp only [nS])
      refine TG.one (i:=14) zf rfl (fun K1 hK1=>?_)
      go_simp
      refine hK1 _ _ (fun h=>absurd rfl h) (TG.done zf ?_);clear hK1 K1 hS
      (try simp only [nS])
      go_wp2_with fail
      go_roundw
      case rel=>
       refine⟨1,v2,rfl,HKL.out,by first|rfl|go_num,fun h=>by omega,HB.out.trans (HB2.out.mono hsW), ?_⟩;rw [HI2.out];have ho2:=kV HO2.out hsW;simpa using ho2
      case measure=>simp [intOf];have:=HKL.out;omega
   ·rcases hform with ⟨-,h0⟩|⟨g,gc,rfl,hg1,hg2⟩
    ·omega
    have HC:Hid (∀i,i<zs.length->WR.cell? ⟨g,i,none⟩=some (.int .i64 (zs.getD i 0))):=yq (by
     obtain⟨-,a',c',hv,hx⟩:=HYB.out;simp only [Value.slice.injEq]at hv;obtain⟨rfl,-,-⟩:=hv;rcases hx with hx|⟨b',off',he,-,hx⟩
     ·omega
     simp only [Option.some.injEq,Addr.mk.injEq,and_true]at he;obtain⟨rfl,rfl⟩:=he;intro i hi;have:=hx i hi
     rwa [Nat.zero_add]at this)
    have HF:Hid (∀q,Below (w.heap.size+1) (w.alloc (.cells #[.int .i64 0,.int .i64 0] 39)) (WR.drewN q)/\(WR.drewN q).ownsRow (w.heap.size+1) 3 1 (.slice (some ⟨g,0,none⟩) k gc) k (zs.map (Value.int .i64))/\(∀i,i<zs.length->(WR.drewN q).cell? ⟨g,i,none⟩=some (.int .i64 (zs.getD i 0)))/\(WR.drewN q).cell? ⟨b,off+k,none⟩=some (.int .i64 x)/\b<(WR.drewN q).heap.size/\g<(WR.drewN q).heap.size/\w.heap.size+1<=(WR.drewN q).heap.size):=yq (fun q=>⟨HB.out.drewN q,HO.out,HC.out,x0,hbw,hg2,hsW⟩)
    go_upto_block 2 with fail
    go_cut [8]from 23 to 60 (fun v8 wx=>∃a0 q:Nat,v8= .int .i64 a0/\a0<=k/\Hid ((a0=0\/x<=zs.getD (a0-1) 0)/\∀j,a0<=j->j<k->zs.getD j 0<x)/\wx=WR.drewN q)
    case first=>
     go_wp2_with fail
     go_loopw [8] (fun v8 wr=>∃j q:Nat,j<=k/\v8= .int .i64 j/\Hid (∀i,j<=i->i<k->zs.getD i 0<x)/\wr=WR.drewN q) (fun v8 _=>(intOf v8).toNat)
     case atStart=>exact⟨k,0,by omega,rfl,yq (fun i h1 h2=>by omega),rfl⟩
     case round=>
      obtain⟨j,q,hj,rfl,HJ,rfl⟩:=hrel;rcases j with _|j
      ·go_wp2_with fail
       all_goals try(first|(go_quiet (fail);go_wp2_with fail)|(go_region;go_wp2_with fail))
       go_meet
       exact⟨0,_,rfl,by omega,yq ⟨.inl rfl,fun i _ h2=>HJ.out i ze h2⟩,World.drewN_drewN _ _ _⟩
      ·have hc:=HC.out j ze;have e0:(0:Int)<=(j:Int):=by omega
       have e1:(j:Int)<(k:Int):=by omega
       have e2:(k:Int)<=900:=by omega
       have HZJ:Hid (zs.getD j 0=zs.getD j 0):=yq rfl;obtain⟨z,hz⟩:∃z,zs.getD j 0=z:=⟨_,rfl⟩;rw [hz]at hc;have HZ:=yq hz;clear hz;by_cases hle:z<x
       ·have HL:=yq hle
        go_wp2_with fail
        all_goals try(first|(go_quiet (fail);go_wp2_with fail)|(go_region;go_wp2_with fail))
        go_roundw
        case rel=>exact⟨j,q+nq,by omega,by go_num,yq (fun i h1 h2=>by
         by_cases ei:i=j
         ·subst ei;rw [HZ.out];exact HL.out
         ·exact HJ.out i ze h2),by first|exact World.drewN_drewN _ _ _|rfl⟩
        case measure=>first|(simp [intOf];done)|(simp [intOf];omega)
       ·have HL:=yq hle
        go_wp2_with fail
        all_goals try(first|(go_quiet (fail);go_wp2_with fail)|(go_region;go_wp2_with fail))
        go_meet
        exact⟨j+1,_,by go_num,hj,yq ⟨.inr (by rw [Nat.add_sub_cancel,HZ.out];have:=HL.out;omega),fun i h1 h2=>HJ.out i h1 h2⟩,World.drewN_drewN _ _ _⟩
    obtain⟨a0,q,rfl,ha0,HCUT,rfl⟩:=hcut;have HF1:=HF.out q;clear HF HB HO HC x0 hbw hg2 hsW HYB hG;generalize WR.drewN q=WR at *;obtain⟨hB,hO,hC,x0,hbw,hg2,hsW⟩:=HF1;have HB:=yq hB;have HO:=yq hO;have HC:=yq hC;clear hB hO hC;have HI2:Hid (iO l (k+1)=zs.take a0++x::zs.drop a0):=yq (HSP.out a0 ha0 HCUT.out.1 HCUT.out.2)
    have hkc:k<=gc:=by
     obtain⟨-,h0|⟨g',cap',cur,hv,-,-,hcp,-⟩⟩:=HO.out
     ·cases h0.1
     ·simp only [Value.slice.injEq]at hv;omega
    have had:(a0:Int)<=(gc:Int):=by omega
    have hac:a0<=gc:=by omega
    have had2:(a0:Int)<=(k:Int):=by omega
    by_cases hlt2:a0<k
    ·have hnc:¬gc=a0:=by omega
     have HEQ:Hid (a0<=k):=yq ha0
     go_wp2_with fail
     refine TG.begin 14 (fun wS=>wS.cell? ⟨b,off+k,none⟩=some (.int .i64 x)) zf zf yI (fun hS=>?_);refine TG.tkB 0 hS ?_;refine TG.tkB 1 hS ?_;refine TG.tkB 2 hS ?_;refine TG.tkB 4 hS ?_;refine TG.tkB 5 hS ?_;refine TG.tkB 6 hS ?_;refine TG.tkB 7 hS ?_;refine TG.tkB 10 hS ?_;refine TG.tkB 11 hS ?_;refine TG.tkB 12 hS ?_;refine TG.two (i:=3) (k:=8) zf rfl rfl (fun K1 hK1=>?_) (fun K1 hK1=>?_)
     focus
      refine aF rfl _ _ 22 rfl WR.heap.size 3 i0 (.int .i64 0) 1 8 underlying22 hi hz0 hz1 hz2 rfl zo (.slice none 0 0) 0 [] rfl (World.ownsRow_nil _ _ _ _) ⟨g,0,none⟩ a0 gc ((zs.take a0).map (Value.int .i64)) rfl zp (gD (zs:=zs) (w:=WR.drew) HC.out 0 _ (fun j x hx=>by rw [Nat.zero_add];exact iE hx)) (dP _) zD ze zg ?_;intro v1 w1 hown1 hgrow1;simp only [Nat.zero_add,nil_append]at hown1;have hb1:=Below.grown (Below.refl WR.heap.size WR).drew hgrow1 zg (fun k hk=>by cases hk);have hs1:=hb1.size;have HB1:=yq (hb1.alloc hs1 (.cells #[.int .i64 x] 3));have HO1:=yq (hown1.alloc (.cells #[.int .i64 x] 3));have hx1:=(hb1.cell (p:=⟨b,off+k,none⟩) hbw).trans x0;refine TG.go hK1 ?_ (fun hS=>?_);focus exact hx1
      clear hK1 K1
      (try simp only [nS])
      refine TG.one (i:=8) zf rfl (fun K1 hK1=>?_)
      go_simp
      refine TG.go hK1 ?_ (fun hS=>?_);focus exact(HB1.out.cell (p:=⟨b,off+k,none⟩) hbw).trans x0
      clear hK1 K1
      (try simp only [nS])
      have HC5:Hid ((w1.alloc (.cells #[.int .i64 x] 3)).cell? ⟨w1.heap.size,0,none⟩=some (.int .i64 x)):=yq yO;generalize w1.alloc (.cells #[.int .i64 x] 3)=w9 at *;generalize w1.heap.size=g5 at *;clear hown1 hgrow1 hb1 hx1;refine TG.one (i:=9) zf rfl (fun K1 hK1=>?_);refine aF rfl _ _ 22 rfl WR.heap.size 3 i0 (.int .i64 0) 1 8 underlying22 hi hz0 hz1 hz2 rfl zo v1 a0 _ rfl HO1.out ⟨g5,0,none⟩ 1 1 ([x].map (Value.int .i64)) rfl rfl ?_ (dP _) zD ze HB1.out.size ?_
      focus
       intro j u hu;rw [addr_add];rcases j with _|j
       ·simp at hu;subst hu;exact HC5.out
       ·simp at hu
     rotate_left
     focus
      go_simp
      refine TG.go hK1 ?_ (fun hS=>?_);focus exact yJ
      clear hK1 K1
      (try simp only [nS])
      refine TG.one (i:=3) zf rfl (fun K1 hK1=>?_);refine aF rfl _ _ 22 rfl WR.heap.size 3 i0 (.int .i64 0) 1 8 underlying22 hi hz0 hz1 hz2 rfl zo (.slice none 0 0) 0 [] rfl (World.ownsRow_nil _ _ _ _) ⟨g,0,none⟩ a0 gc ((zs.take a0).map (Value.int .i64)) rfl zp (gD (zs:=zs) (w:=(WR.alloc (.cells #[.int .i64 x] 3)).drew) (fun i hi=>by rw [show((WR.alloc (.cells #[.int .i64 x] 3)).drew).cell? ⟨g,i,none⟩=WR.cell? ⟨g,i,none⟩from World.cell?_alloc_lt WR _ ⟨g,i,none⟩ hg2];exact HC.out i hi) 0 _ (fun j x hx=>by rw [Nat.zero_add];exact iE hx)) (dP _) zD ze zg ?_;intro v1 w1 hown1 hgrow1;simp only [Nat.zero_add,nil_append]at hown1;have hb1:=Below.grown ((Below.refl WR.heap.size WR).alloc (Nat.le_refl _) (.cells #[.int .i64 x] 3)).drew hgrow1 zg (fun k hk=>by cases hk);have HB1:=yq hb1;have HO1:=yq hown1;have HC5:Hid (w1.cell? ⟨WR.heap.size,0,none⟩=some (.int .i64 x)):=yq ((hgrow1.cell_far ⟨WR.heap.size,0,none⟩ zg yU).trans yM);refine TG.go hK1 ?_ (fun hS=>?_);focus exact(HB1.out.cell (p:=⟨b,off+k,none⟩) hbw).trans x0
      clear hK1 K1
      (try simp only [nS])
      clear hown1 hgrow1 hb1;refine TG.one (i:=9) zf rfl (fun K1 hK1=>?_);refine aF rfl _ _ 22 rfl WR.heap.size 3 i0 (.int .i64 0) 1 8 underlying22 hi hz0 hz1 hz2 rfl zo v1 a0 _ rfl HO1.out ⟨WR.heap.size,0,none⟩ 1 1 ([x].map (Value.int .i64)) rfl rfl ?_ (dP _) zD ze HB1.out.size ?_
      focus
       intro j u hu;rw [addr_add];rcases j with _|j
       ·simp at hu;subst hu;exact HC5.out
       ·simp at hu
     rotate_left
     all_goals
      intro v2 w2 hown2 hgrow2;have HB2:=yq (HB1.out.grown hgrow2 HB1.out.size (fun k hk=>(HO1.out.lt k hk).1));have HO2:=yq hown2;clear hown2 hgrow2;refine TG.go hK1 ?_ (fun hS=>?_);focus exact(HB2.out.cell (p:=⟨b,off+k,none⟩) hbw).trans x0
      clear hK1 K1
      (try simp only [nS])
      refine TG.one (i:=13) zf rfl (fun K1 hK1=>?_);refine aF rfl _ _ 22 rfl WR.heap.size 3 i0 (.int .i64 0) 1 8 underlying22 hi hz0 hz1 hz2 rfl zo v2 (a0+1) _ rfl HO2.out ⟨g,a0,none⟩ (k-a0) (gc-a0) ((zs.drop a0).map (Value.int .i64)) rfl zG (gD (w:=w2) (zs:=zs) (fun i hi=>by rw [HB2.out.cell (p:=⟨g,i,none⟩) hg2];exact HC.out i hi) a0 _ (fun j x hx=>by rw [getElem?_drop]at hx;exact hx)) (dP _) zD ze HB2.out.size ?_;exact vz6
    ·have HZL:=yq (show zs.drop a0= []from drop_eq_nil_of_le ze);have HEQ:Hid (a0=k):=yq ze;by_cases hcc:gc=a0
     ·go_wp2_with fail
      refine TG.begin 14 (fun wS=>wS.cell? ⟨b,off+k,none⟩=some (.int .i64 x)) zf zf yI (fun hS=>?_);refine TG.tkB 0 hS ?_;refine TG.tkB 1 hS ?_;refine TG.tkB 2 hS ?_;refine TG.tkB 4 hS ?_;refine TG.tkB 5 hS ?_;refine TG.tkB 6 hS ?_;refine TG.tkB 7 hS ?_;refine TG.tkB 10 hS ?_;refine TG.tkB 11 hS ?_;refine TG.tkB 12 hS ?_;refine TG.two (i:=3) (k:=8) zf rfl rfl (fun K1 hK1=>?_) (fun K1 hK1=>?_)
      focus
       refine aF rfl _ _ 22 rfl WR.heap.size 3 i0 (.int .i64 0) 1 8 underlying22 hi hz0 hz1 hz2 rfl zo (.slice none 0 0) 0 [] rfl (World.ownsRow_nil _ _ _ _) ⟨g,0,none⟩ a0 a0 ((zs.take a0).map (Value.int .i64)) rfl zp (gD (zs:=zs) (w:=WR.drew) HC.out 0 _ (fun j x hx=>by rw [Nat.zero_add];exact iE hx)) (dP _) zD ze zg ?_;intro v1 w1 hown1 hgrow1;simp only [Nat.zero_add,nil_append]at hown1;have hb1:=Below.grown (Below.refl WR.heap.size WR).drew hgrow1 zg (fun k hk=>by cases hk);have hs1:=hb1.size;have HB1:=yq (hb1.alloc hs1 (.cells #[.int .i64 x] 3));have HO1:=yq (hown1.alloc (.cells #[.int .i64 x] 3));have hx1:=(hb1.cell (p:=⟨b,off+k,none⟩) hbw).trans x0;refine TG.go hK1 ?_ (fun hS=>?_);focus exact hx1
       clear hK1 K1
       (try simp only [nS])
       refine TG.one (i:=8) zf rfl (fun K1 hK1=>?_)
       go_simp
       refine TG.go hK1 ?_ (fun hS=>?_);focus exact(HB1.out.cell (p:=⟨b,off+k,none⟩) hbw).trans x0
       clear hK1 K1
       (try simp only [nS])
       have HC5:Hid ((w1.alloc (.cells #[.int .i64 x] 3)).cell? ⟨w1.heap.size,0,none⟩=some (.int .i64 x)):=yq yO;generalize w1.alloc (.cells #[.int .i64 x] 3)=w9 at *;generalize w1.heap.size=g5 at *;clear hown1 hgrow1 hb1 hx1;refine TG.one (i:=9) zf rfl (fun K1 hK1=>?_);refine aF rfl _ _ 22 rfl WR.heap.size 3 i0 (.int .i64 0) 1 8 underlying22 hi hz0 hz1 hz2 rfl zo v1 a0 _ rfl HO1.out ⟨g5,0,none⟩ 1 1 ([x].map (Value.int .i64)) rfl rfl ?_ (dP _) zD ze HB1.out.size ?_
       focus
        intro j u hu;rw [addr_add];rcases j with _|j
        ·simp at hu;subst hu;exact HC5.out
        ·simp at hu
      rotate_left
      focus
       go_simp
       refine TG.go hK1 ?_ (fun hS=>?_);focus exact yJ
       clear hK1 K1
       (try simp only [nS])
       refine TG.one (i:=3) zf rfl (fun K1 hK1=>?_);refine aF rfl _ _ 22 rfl WR.heap.size 3 i0 (.int .i64 0) 1 8 underlying22 hi hz0 hz1 hz2 rfl zo (.slice none 0 0) 0 [] rfl (World.ownsRow_nil _ _ _ _) ⟨g,0,none⟩ a0 a0 ((zs.take a0).map (Value.int .i64)) rfl zp (gD (zs:=zs) (w:=(WR.alloc (.cells #[.int .i64 x] 3)).drew) (fun i hi=>by rw [show((WR.alloc (.cells #[.int .i64 x] 3)).drew).cell? ⟨g,i,none⟩=WR.cell? ⟨g,i,none⟩from World.cell?_alloc_lt WR _ ⟨g,i,none⟩ hg2];exact HC.out i hi) 0 _ (fun j x hx=>by rw [Nat.zero_add];exact iE hx)) (dP _) zD ze zg ?_;intro v1 w1 hown1 hgrow1;simp only [Nat.zero_add,nil_append]at hown1;have hb1:=Below.grown ((Below.refl WR.heap.size WR).alloc (Nat.le_refl _) (.cells #[.int .i64 x] 3)).drew hgrow1 zg (fun k hk=>by cases hk);have HB1:=yq hb1;have HO1:=yq hown1;have HC5:Hid (w1.cell? ⟨WR.heap.size,0,none⟩=some (.int .i64 x)):=yq ((hgrow1.cell_far ⟨WR.heap.size,0,none⟩ zg yU).trans yM);refine TG.go hK1 ?_ (fun hS=>?_);focus exact(HB1.out.cell (p:=⟨b,off+k,none⟩) hbw).trans x0
       clear hK1 K1
       (try simp only [nS])
       clear hown1 hgrow1 hb1;refine TG.one (i:=9) zf rfl (fun K1 hK1=>?_);refine aF rfl _ _ 22 rfl WR.heap.size 3 i0 (.int .i64 0) 1 8 underlying22 hi hz0 hz1 hz2 rfl zo v1 a0 _ rfl HO1.out ⟨WR.heap.size,0,none⟩ 1 1 ([x].map (Value.int .i64)) rfl rfl ?_ (dP _) zD ze HB1.out.size ?_
       focus
        intro j u hu;rw [addr_add];rcases j with _|j
        ·simp at hu;subst hu;exact HC5.out
        ·simp at hu
      rotate_left
      all_goals
       intro v2 w2 hown2 hgrow2;have HB2:=yq (HB1.out.grown hgrow2 HB1.out.size (fun k hk=>(HO1.out.lt k hk).1));have HO2:=yq hown2;clear hown2 hgrow2;refine TG.go hK1 ?_ (fun hS=>?_);focus exact(HB2.out.cell (p:=⟨b,off+k,none⟩) hbw).trans x0
       clear hK1 K1
       (try simp only [nS])
       refine TG.one (i:=13) zf rfl (fun K1 hK1=>?_);refine aF rfl _ _ 22 rfl WR.heap.size 3 i0 (.int .i64 0) 1 8 underlying22 hi hz0 hz1 hz2 rfl zo v2 (a0+1) _ rfl HO2.out ⟨g,0,none⟩ (k-a0) (0) ((zs.drop a0).map (Value.int .i64)) rfl zG (by intro j u hu;rw [HZL.out]at hu;simp at hu) (dP _) zD ze HB2.out.size ?_;exact vz6
     ·go_wp2_with fail
      refine TG.begin 14 (fun wS=>wS.cell? ⟨b,off+k,none⟩=some (.int .i64 x)) zf zf yI (fun hS=>?_);refine TG.tkB 0 hS ?_;refine TG.tkB 1 hS ?_;refine TG.tkB 2 hS ?_;refine TG.tkB 4 hS ?_;refine TG.tkB 5 hS ?_;refine TG.tkB 6 hS ?_;refine TG.tkB 7 hS ?_;refine TG.tkB 10 hS ?_;refine TG.tkB 11 hS ?_;refine TG.tkB 12 hS ?_;refine TG.two (i:=3) (k:=8) zf rfl rfl (fun K1 hK1=>?_) (fun K1 hK1=>?_)
      focus
       refine aF rfl _ _ 22 rfl WR.heap.size 3 i0 (.int .i64 0) 1 8 underlying22 hi hz0 hz1 hz2 rfl zo (.slice none 0 0) 0 [] rfl (World.ownsRow_nil _ _ _ _) ⟨g,0,none⟩ a0 gc ((zs.take a0).map (Value.int .i64)) rfl zp (gD (zs:=zs) (w:=WR.drew) HC.out 0 _ (fun j x hx=>by rw [Nat.zero_add];exact iE hx)) (dP _) zD ze zg ?_;intro v1 w1 hown1 hgrow1;simp only [Nat.zero_add,nil_append]at hown1;have hb1:=Below.grown (Below.refl WR.heap.size WR).drew hgrow1 zg (fun k hk=>by cases hk);have hs1:=hb1.size;have HB1:=yq (hb1.alloc hs1 (.cells #[.int .i64 x] 3));have HO1:=yq (hown1.alloc (.cells #[.int .i64 x] 3));have hx1:=(hb1.cell (p:=⟨b,off+k,none⟩) hbw).trans x0;refine TG.go hK1 ?_ (fun hS=>?_);focus exact hx1
       clear hK1 K1
       (try simp only [nS])
       refine TG.one (i:=8) zf rfl (fun K1 hK1=>?_)
       go_simp
       refine TG.go hK1 ?_ (fun hS=>?_);focus exact(HB1.out.cell (p:=⟨b,off+k,none⟩) hbw).trans x0
       clear hK1 K1
       (try simp only [nS])
       have HC5:Hid ((w1.alloc (.cells #[.int .i64 x] 3)).cell? ⟨w1.heap.size,0,none⟩=some (.int .i64 x)):=yq yO;generalize w1.alloc (.cells #[.int .i64 x] 3)=w9 at *;generalize w1.heap.size=g5 at *;clear hown1 hgrow1 hb1 hx1;refine TG.one (i:=9) zf rfl (fun K1 hK1=>?_);refine aF rfl _ _ 22 rfl WR.heap.size 3 i0 (.int .i64 0) 1 8 underlying22 hi hz0 hz1 hz2 rfl zo v1 a0 _ rfl HO1.out ⟨g5,0,none⟩ 1 1 ([x].map (Value.int .i64)) rfl rfl ?_ (dP _) zD ze HB1.out.size ?_
       focus
        intro j u hu;rw [addr_add];rcases j with _|j
        ·simp at hu;subst hu;exact HC5.out
        ·simp at hu
      rotate_left
      focus
       go_simp
       refine TG.go hK1 ?_ (fun hS=>?_);focus exact yJ
       clear hK1 K1
       (try simp only [nS])
       refine TG.one (i:=3) zf rfl (fun K1 hK1=>?_);refine aF rfl _ _ 22 rfl WR.heap.size 3 i0 (.int .i64 0) 1 8 underlying22 hi hz0 hz1 hz2 rfl zo (.slice none 0 0) 0 [] rfl (World.ownsRow_nil _ _ _ _) ⟨g,0,none⟩ a0 gc ((zs.take a0).map (Value.int .i64)) rfl zp (gD (zs:=zs) (w:=(WR.alloc (.cells #[.int .i64 x] 3)).drew) (fun i hi=>by rw [show((WR.alloc (.cells #[.int .i64 x] 3)).drew).cell? ⟨g,i,none⟩=WR.cell? ⟨g,i,none⟩from World.cell?_alloc_lt WR _ ⟨g,i,none⟩ hg2];exact HC.out i hi) 0 _ (fun j x hx=>by rw [Nat.zero_add];exact iE hx)) (dP _) zD ze zg ?_;intro v1 w1 hown1 hgrow1;simp only [Nat.zero_add,nil_append]at hown1;have hb1:=Below.grown ((Below.refl WR.heap.size WR).alloc (Nat.le_refl _) (.cells #[.int .i64 x] 3)).drew hgrow1 zg (fun k hk=>by cases hk);have HB1:=yq hb1;have HO1:=yq hown1;have HC5:Hid (w1.cell? ⟨WR.heap.size,0,none⟩=some (.int .i64 x)):=yq ((hgrow1.cell_far ⟨WR.heap.size,0,none⟩ zg yU).trans yM);refine TG.go hK1 ?_ (fun hS=>?_);focus exact(HB1.out.cell (p:=⟨b,off+k,none⟩) hbw).trans x0
       clear hK1 K1
       (try simp only [nS])
       clear hown1 hgrow1 hb1;refine TG.one (i:=9) zf rfl (fun K1 hK1=>?_);refine aF rfl _ _ 22 rfl WR.heap.size 3 i0 (.int .i64 0) 1 8 underlying22 hi hz0 hz1 hz2 rfl zo v1 a0 _ rfl HO1.out ⟨WR.heap.size,0,none⟩ 1 1 ([x].map (Value.int .i64)) rfl rfl ?_ (dP _) zD ze HB1.out.size ?_
       focus
        intro j u hu;rw [addr_add];rcases j with _|j
        ·simp at hu;subst hu;exact HC5.out
        ·simp at hu
      rotate_left
      all_goals
       intro v2 w2 hown2 hgrow2;have HB2:=yq (HB1.out.grown hgrow2 HB1.out.size (fun k hk=>(HO1.out.lt k hk).1));have HO2:=yq hown2;clear hown2 hgrow2;refine TG.go hK1 ?_ (fun hS=>?_);focus exact(HB2.out.cell (p:=⟨b,off+k,none⟩) hbw).trans x0
       clear hK1 K1
       (try simp only [nS])
       refine TG.one (i:=13) zf rfl (fun K1 hK1=>?_);refine aF rfl _ _ 22 rfl WR.heap.size 3 i0 (.int .i64 0) 1 8 underlying22 hi hz0 hz1 hz2 rfl zo v2 (a0+1) _ rfl HO2.out ⟨g,a0,none⟩ (k-a0) (gc-a0) ((zs.drop a0).map (Value.int .i64)) rfl zG (by intro j u hu;rw [HZL.out]at hu;simp at hu) (dP _) zD ze HB2.out.size ?_;exact vz6
  ·obtain rfl:k=l.length:=by omega
   have hYB:bI WR vb (kG l):=bI.of_rowB hown (by rw [<-mV,hsk]) (by rw [mV]) (by rw [<-mV,hsk];omega);have hG1:World.Grows (w.alloc (.cells #[.int .i64 0,.int .i64 0] 39)) WR:=.of_below (by simpa using hB);have HSB:=yq (FK HB3.out (kU l));have HGB:=yq (Gi HB3.out (kU l));have hz200:(kG l).length<=200:=by rw [<-mV,hsk];omega
   clear HO hown hsk HA;generalize kG l=zs at *;obtain⟨bs9,d9,rfl⟩:=hG1;obtain⟨-,va,vc,rfl,hvc⟩:=hYB;have HVC:=yq hvc;clear hvc hB hG
   go_wp2_with fail
   go_loopw [9,10] (fun v9 v10 wr=>∃j:Nat,j<=zs.length/\j<=nn/\v10= .int .i64 j/\v9= .int .i64 (kT zs j)/\wr=World.grow (w.alloc (.cells #[.int .i64 0,.int .i64 0] 39)) bs9 d9) (fun _ v10 _=>nn-(intOf v10).toNat)
   case atStart=>exact⟨0,by omega,by omega,rfl,rfl,rfl⟩
   case round=>
    obtain⟨j,hj,hjn,rfl,rfl,rfl⟩:=hrel;have hb1:=HSB.out j;by_cases hlt2:j<zs.length/\j<nn
    ·rcases HVC.out with h0|⟨b,off,rfl,hbw,hx⟩
     ·omega
     have x0:=hx j hlt2.1;have d1:(j:Int)<(zs.length:Int):=by omega
     have d2:(j:Int)<(nn:Int):=by omega
     have hs:=ww zs j hlt2.1;have hb2:=HSB.out (j+1);rw [hs]at hb2;have HS1:=yq hs;have HKL:=yq hlt2;clear hs hlt2 hx;generalize zs.getD j 0=z at *;generalize kT zs j=sk at *
     go_wp2_with fail
     go_roundw
     case rel=>exact⟨j+1,HKL.out.1,HKL.out.2,by go_num,by rw [HS1.out],by first|rfl|trivial⟩
     case measure=>simp [intOf];have:=HKL.out;omega
    ·have hBS:BS=kT zs j:=by
      rw [HBS.out];unfold kT;by_cases e:j=nn
      ·rw [e]
      ·rw [take_of_length_le ze,take_of_length_le ze]
     subst hBS;have HBB:=yq hb1;by_cases d1:(j:Int)<(zs.length:Int)
     ·have d2:¬(j:Int)<(nn:Int):=by omega
      exact Rq
     ·exact Rq
theorem J5(l:List Int)(n:Int)(v:Value)(w:World)(hy:bI w v l):Calls prog 76 #[v,.int .i64 n] w fun e w'=>e= .returned (frV (gQ l n))/\w.Grows w':=by
 by_cases h:n<1\/45<n\/bD l=false
 ·exact JA l n v w hy h
 ·simp only [not_or,Bool.not_eq_false]at h;exact Fp l n v w hy ze ze h.2.2
theorem uI(v:Vw)(y:Value)(s:ByteArray)(w:World)(hr:dV v)(hy:bI w y v.years):Calls prog 77 #[vwV v y,.string s] w fun r w'=>r= .returned (inV (dF v s))/\w.Grows w':=by
 by_cases h:bQ s.toList=0\/v.ok=false
 ·exact BX v y s w hr hy h
 ·have h1:bQ s.toList≠0:=fun e=>h (.inl e)
  have h2:v.ok=true:=by cases hv:v.ok with
   |true=>rfl
   |false=>exact absurd (.inr hv) h
  by_cases hb:s.toList= [98,97,115,101]
  ·exact BZ v y s w hr hy h1 h2 hb
  ·exact EG v y s w hr hy h1 h2 hb
theorem EM(Y:World)(bs:Array Obj)(d:Nat)(o:Obj):(Y.grow bs d).alloc o=Y.grow (bs.push o) d:=by
 simp [World.grow,World.alloc]
theorem Qv(v:Vw)(y se:Value)(env:List (ByteArray × Val))(e:Ex)(a:Option Addr)(cap:Nat)(w:World)(hy:bI w y v.years)(hs:bi w se env)(h1:e.op=1):(Calls prog 60 #[exV e (.slice a e.args.length cap),vwV v y,se] w (ApP (aj v env e) w)):=by
 have HV:Hid (aj v env e=(.num e.dim e.num e.den,0)):=yq xD;rw [HV.out]
 obtain⟨ya,yc,rfl⟩:∃a c,y= .slice a v.years.length c:=by
  exact xX
 obtain⟨sa,sc,rfl⟩:∃a c,se= .slice a env.length c:=by
  exact xW
 unfold vwV exV;clear HV hy hs
 go_enter func60,ntmps60
 go_wp2_with fail
 go_returns
 exact⟨rfl,ai⟩
theorem Ni(v:Vw)(y se:Value)(env:List (ByteArray × Val))(e:Ex)(a:Option Addr)(cap:Nat)(w:World)(hy:bI w y v.years)(hs:bi w se env)(h1:e.op=3):(Calls prog 60 #[exV e (.slice a e.args.length cap),vwV v y,se] w (ApP (aj v env e) w)):=by
 have HV:Hid (aj v env e=eT 4 (gQ v.years e.num)):=yq xe;rw [HV.out];have HY:=yq hy;have HB:=yq (fun w' (hg:w.Grows w')=>J5 v.years e.num y w' (HY.out.grows hg))
 obtain⟨ya,yc,rfl⟩:∃a c,y= .slice a v.years.length c:=by
  exact xX
 obtain⟨sa,sc,rfl⟩:∃a c,se= .slice a env.length c:=by
  exact xW
 unfold vwV exV;unfold frV at HB;generalize gQ v.years e.num=q at *;obtain⟨qn,qd,qc⟩:=q;dsimp only at HB;clear HV hy hs;by_cases hq:qc=0
 ·subst hq;unfold eT;rw [if_pos rfl];exact RG
 ·unfold eT;rw [if_neg hq];have hq1:(qc !=0)=true:=by simpa using hq
  clear hq;exact RG
theorem Km(v:Vw)(y se:Value)(env:List (ByteArray × Val))(e:Ex)(a:Option Addr)(cap:Nat)(w:World)(hr:dV v)(hy:bI w y v.years)(hs:bi w se env)(h1:e.op=2)(x:Val)(hx:dF v e.name=some x):(Calls prog 60 #[exV e (.slice a e.args.length cap),vwV v y,se] w (ApP (aj v env e) w)):=by
 have HV:Hid (aj v env e=(x,0)):=yq (by rw [dX];unfold eG;rw [if_neg ze,if_pos h1];unfold jU;rw [hx]);rw [HV.out];have HY:=yq hy;have HI:=yq (fun w' (hg:w.Grows w')=>uI v y e.name w' hr (HY.out.grows hg));rw [hx]at HI;unfold inV dY at HI;obtain⟨xm,xy,xn,xd⟩:=x;dsimp only at HI
 obtain⟨ya,yc,rfl⟩:∃a c,y= .slice a v.years.length c:=by
  exact xX
 obtain⟨sa,sc,rfl⟩:∃a c,se= .slice a env.length c:=by
  exact xW
 unfold vwV exV;unfold vwV at HI;clear HV hy hs hx hr
 go_enter func60,ntmps60
 go_wp2_with (go_at_call 77;refine gvq (HI.out _ ai) ?_;intro bs d)
 go_returns
 exact⟨rfl,ai⟩
theorem Qw(v:Vw)(y se:Value)(env:List (ByteArray × Val))(e:Ex)(a:Option Addr)(cap:Nat)(w:World)(hr:dV v)(hy:bI w y v.years)(hs:bi w se env)(h1:e.op=2)(x:Val)(hx:dF v e.name=none)(hl:dK env e.name=some x):(Calls prog 60 #[exV e (.slice a e.args.length cap),vwV v y,se] w (ApP (aj v env e) w)):=by
 have HV:Hid (aj v env e=(x,0)):=yq (by rw [dX];unfold eG;rw [if_neg ze,if_pos h1];unfold jU;rw [hx];dsimp only;rw [hl]);rw [HV.out];have HY:=yq hy;have HL:=yq hl;have HI:=yq (fun w' (hg:w.Grows w')=>uI v y e.name w' hr (HY.out.grows hg));rw [hx]at HI;unfold inV dY Val.zero at HI;dsimp only at HI
 obtain⟨ya,yc,rfl⟩:∃a c,y= .slice a v.years.length c:=by
  exact xX
 obtain⟨sa,sc,rfl⟩:∃a c,se= .slice a env.length c:=by
  exact xW
 unfold vwV exV;have HS:=yq hs;have hlen:env.length<=1000:=by obtain⟨h,-⟩:=hs;exact h
 unfold vwV at HI;clear HV hy hs hx hr hl
 go_enter func60,ntmps60
 go_wp2_with (go_at_call 77;refine gvq (HI.out _ ai) ?_;intro bs d)
 go_loopw [12] (fun v12 wr=>∃(k:Nat) (bs:Array Obj) (d:Nat),k<=env.length/\v12= .int .i64 ((env.length:Int)-1-k)/\Hid (∀j,env.length-k<=j->j<env.length->stN env j≠e.name)/\wr=(((w.alloc (.cells #[.int .i64 2,.int .i64 e.num,.int .i64 e.den,.int .i64 e.dim,.string e.name,.slice a e.args.length cap] 69)).alloc (.cells #[.int .i64 v.age,.int .i64 v.year,.int .i64 v.children,.int .i64 v.insured,.int .i64 v.worked,.int .i64 v.voluntary,.int .i64 v.service,.int .i64 v.equated,.int .i64 v.raising,.int .i64 v.resident,.int .i64 v.bn,.int .i64 v.bd,.slice ya v.years.length yc] 41)).alloc (.cells #[.int .i64 0,.bool false,.int .i64 0,.int .i64 0] 51)).grow bs d) (fun v12 _=>(intOf v12+1).toNat)
 case atStart=>
  exact⟨0,_,_,by omega,by simp,yq (fun j h1 h2=>by omega),EM _ _ _ _⟩
 case round=>
  obtain⟨k,bs1,d1,hk,rfl,hno,rfl⟩:=hrel;by_cases hlt:k<env.length
  ·obtain⟨i,hii⟩:∃i:Nat,(env.length:Int)-1-k=i:=⟨env.length-1-k,by omega⟩;obtain⟨-,sa',sc',hv2,hcs⟩:=HS.out;simp only [Value.slice.injEq,true_and]at hv2;obtain⟨rfl,rfl⟩:=hv2;rcases hcs with h0|⟨b,off,rfl,hbw,hx⟩
   ·omega
   have hi:i<env.length:=by omega
   obtain⟨s0,s1,s2,s3,s4⟩:=hx i hi
   have HLS:Hid (stN env i=e.name->x=stV env i):=yq (fun h=>by
    have h2:=jC env e.name i (ByteArray.empty,Val.zero) hi h (fun j hj1 hj2=>hno.out j ze hj2);rw [HL.out]at h2
    exact Option.some.inj h2)
   have HNX:Hid (stN env i≠e.name->∀j,env.length-(k+1)<=j->j<env.length->stN env j≠e.name):=yq (fun h j hj1 hj2=>by
    by_cases ej:j=i
    ·subst ej;exact h
    ·exact hno.out j ze hj2)
   have HII:=yq (show(env.length:Int)-1-((k+1:Nat):Int)=(i:Int)-1 by omega);have HKL:=yq hlt;rw [hii];have d2:(i:Int)<(env.length:Int):=by omega
   clear hx hii hlt hno;by_cases heq:stN env i=e.name
   ·have hx1:=HLS.out heq;have nm:((stN env i).toList==e.name.toList)=true:=by rw [heq];simp
    clear HLS HNX heq HL;subst hx1;generalize stN env i=nk at *;generalize stV env i=xk at *;obtain⟨xm,xy,xn,xd⟩:=xk;dsimp only at s1 s2 s3 s4
    go_wp2_with fail
    refine TS.begin [] (World.Grows _) zf zf aI (fun hS=>?_);refine kq 0 hS ?_;refine kq 1 hS ?_;refine kq 2 hS ?_;refine kq 3 hS ?_;refine kq 4 hS ?_;refine kq 5 hS ?_;refine kq 6 hS ?_;refine kq 7 hS ?_;refine TS.done zf ?_;clear hS
    (try simp only [nS])
    go_wp2_with fail
    go_returns
    exact⟨rfl,ai⟩
   ·have hno2:=yq (HNX.out heq)
    have nm:((stN env i).toList==e.name.toList)=false:=by
     cases hq:((stN env i).toList==e.name.toList)with
     |false=>rfl
     |true=>exact absurd (toList_inj (by simpa using hq)) heq
    clear HLS HNX heq HL s1 s2 s3 s4;generalize stN env i=nk at *
    go_wp2_with fail
    refine TS.begin [] (World.Grows _) zf zf aI (fun hS=>?_);refine kq 0 hS ?_;refine kq 1 hS ?_;refine kq 2 hS ?_;refine kq 3 hS ?_;refine kq 4 hS ?_;refine kq 5 hS ?_;refine kq 6 hS ?_;refine kq 7 hS ?_;refine TS.done zf ?_;clear hS
    (try simp only [nS])
    go_wp2_with fail
    go_roundw
    case rel=>exact⟨k+1,_,_,HKL.out,by rw [HII.out],hno2,rfl⟩
    case measure=>simp [intOf]
  ·exfalso;obtain rfl:k=env.length:=by omega
   have:=jD env e.name (ByteArray.empty,Val.zero) (fun j hj=>hno.out j ze hj);rw [HL.out]at this;cases this
end Go.Proofs.YtcfpoofhokbhlaaGreatDoor
