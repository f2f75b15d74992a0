import Derived.Test.YtlheailebbngiaaGreatDoorGEvX
set_option linter.all false
set_option maxHeartbeats 16000000
set_option maxRecDepth 1000000
namespace Go.Proofs.YtlheailebbngiaaGreatDoor
open Go.Proofs.Tryz List
open Go.RowKit
theorem Ay(n d m:Int)(w:World):Calls prog 53 #[.int .i64 n,.int .i64 d,.int .i64 m] w fun e w'=>e= .returned (exV (.mk 1 n d m noN []) (.slice none 0 0))/\w.Grows w':=by
 show Calls _ _ _ _ fun e w'=>e= .returned (.agg #[.int .i64 1,.int .i64 n,.int .i64 d,.int .i64 m,.string ⟨#[]⟩,.slice none 0 0])/\_
 go_enter func53,ntmps53
 exact nR
theorem FX(s:ByteArray)(w:World):Calls prog 52 #[.string s] w fun e w'=>e= .returned (exV (.mk 2 0 0 0 s []) (.slice none 0 0))/\w.Grows w':=by
 show Calls _ _ _ _ fun e w'=>e= .returned (.agg #[.int .i64 2,.int .i64 0,.int .i64 0,.int .i64 0,.string s,.slice none 0 0])/\_
 go_enter func52,ntmps52
 exact nR
def Rq(op:Int)(o1 o2:Ex)(w:World)(e:Ending)(w':World):Prop:=
 ∃b,e= .returned (.agg #[.int .i64 op,.int .i64 0,.int .i64 0,.int .i64 0,.string ⟨#[]⟩,.slice (some ⟨b,0,none⟩) 2 2])/\w.Grows w'/\aC (fun _=>True) w' (.mk op 0 0 0 noN [o1,o2]) (.slice (some ⟨b,0,none⟩) 2 2)
theorem sO(op:Int)(ho:0<=op/\op<=100)(o1 o2:Ex)(v1 v2:Value)(w:World)(h1:aC (fun _=>True) w o1 v1)(h2:aC (fun _=>True) w o2 v2) :
 Calls prog 51 #[.int .i64 op,exV o1 v1,exV o2 v2] w (Rq op o1 o2 w):=by
 obtain⟨a1,c1,rfl⟩:=h1.form0;obtain⟨a2,c2,rfl⟩:=h2.form0;have H1:=zh h1;have H2:=zh h2;clear h1 h2;unfold exV
 go_enter func51,ntmps51
 go_wp2_with fail
 go_returns
 refine⟨_,rfl,.of_below af, ?_⟩;exact aC.pair op ho trivial (bK _ _ _ zg) (H1.out.grows (.of_below af)) (H2.out.grows (.of_below af))
theorem aC.nil8(w:World)(op n d m:Int)(s:ByteArray)(h1:-1000<=op/\op<=1000)(h2:-1000<=n/\n<=1000)(h3:-1000<=d/\d<=1000)(h4:-1000<=m/\m<=1000)(h5:s.size<=1000):aC (fun _=>True) w (.mk op n d m s []) (.slice none 0 0):=
 aC.nil ⟨⟨by show _<=op;omega,by show op<=_;omega⟩,⟨by show _<=n;omega,by show n<=_;omega⟩,⟨by show _<=d;omega,by show d<=_;omega⟩,⟨by show _<=m;omega,by show m<=_;omega⟩,by simp [Ex.args],by show s.size<=_;omega⟩ rfl
def nmE(s:ByteArray):Ex:=.mk 2 0 0 0 s []
def ltE(n d m:Int):Ex:=.mk 1 n d m noN []
theorem Lu(w:World):bJ w (.slice none 0 0) awV.years:=⟨by decide,none,0,rfl,.inl rfl⟩
theorem Jl(w:World):bi w (.slice none 0 0) []:=⟨by decide,none,0,rfl,.inl rfl⟩
theorem Ec(w:World)(ht:Tab w):Calls prog 19 #[] w fun e w'=>e= .returned (.bool true)/\w.Grows w':=by
 have HT:=zh ht;have HX:=zh (fun w b (hR:aC (fun _=>True) w awE (.slice (some ⟨b,0,none⟩) 2 2)) (ht:Tab w)=>II (fun _=>True) awV (.slice none 0 0) (.slice none 0 0) [] awE (some ⟨b,0,none⟩) 2 w hR zq ht (Lu w) ⟨⟨by decide,by decide⟩,⟨by decide,by decide⟩⟩ (Jl w) (fun p hp=>by cases hp));unfold vE at HX;rw [Oh]at HX;unfold dM at HX;dsimp only at HX;clear ht
 go_enter func19,ntmps19
 go_wp2_with (first
  |(go_at_call 52;refine(FX _ _).mono ?_;rintro e' w' ⟨rfl,bs,d,rfl⟩)
  |(go_at_call 53;refine(Ay _ _ _ _).mono ?_;rintro e' w' ⟨rfl,bs,d,rfl⟩))
 go_at_call 51
 refine(sO 10 ze (nmE oU) (ltE 365 1 3) _ _ _ (aC.nil8 _ _ _ _ _ _ ze ze ze ze zo) (aC.nil8 _ _ _ _ _ _ ze ze ze ze zo)).mono ?_;rintro e' Wb1 ⟨b1,rfl,hg,hr⟩;have Gb1:Hid (w.Grows Wb1):=zh (World.Grows.trans (.of_below af) hg);have Rb1:=zh hr;clear hr hg
 go_wp2_with fail
 go_at_call 51
 refine(sO 9 ze (nmE KM) (.mk 10 0 0 0 noN [nmE oU,ltE 365 1 3]) _ _ _ (aC.nil8 _ _ _ _ _ _ ze ze ze ze zo) (Rb1.out)).mono ?_;rintro e' Wb2 ⟨b2,rfl,hg,hr⟩;have Gb2:Hid (w.Grows Wb2):=zh (World.Grows.trans (Gb1.out) hg);have Rb2:=zh hr;clear hr hg
 go_wp2_with (go_at_call 53;refine(Ay _ _ _ _).mono ?_;rintro e' w' ⟨rfl,bs,d,rfl⟩)
 go_at_call 51
 refine(sO 9 ze (.mk 9 0 0 0 noN [nmE KM,.mk 10 0 0 0 noN [nmE oU,ltE 365 1 3]]) (ltE 1 50 2) _ _ _ (Rb2.out.grows (.of_below af)) (aC.nil8 _ _ _ _ _ _ ze ze ze ze zo)).mono ?_;rintro e' Wb3 ⟨b3,rfl,hg,hr⟩;have Gb3:Hid (w.Grows Wb3):=zh (World.Grows.trans (World.Grows.trans Gb2.out (.of_below af)) hg);have Rb3:=zh hr;clear hr hg
 go_wp2_with (go_at_call 29;refine(HX.out _ b3 (Rb3.out.grows (.of_below af)) (HT.out.grows (World.Grows.trans Gb3.out (.of_below af)))).mono ?_;rintro e' w' ⟨rfl,bs7,d7,rfl⟩)
 go_returns
 exact⟨rfl,World.Grows.trans Gb3.out (.of_below af)⟩
theorem bJ.of_rowB{w:World}{base:Nat}{v:Value}{l:List Int}{k:Nat}{xs:List Value}(h:w.ownsRow base 3 1 v k xs)(hk:k=l.length)(hx:xs=l.map (Value.int .i64))(hl:l.length<=1000):bJ w v l:=by
 subst hk hx;exact bJ.of_row h hl
theorem oM{w:World}{base:Nat}{v:Value}{k:Nat}{xs:List Value}(h:w.ownsRow base 3 1 v k xs):(v= .slice none 0 0/\k=0)\/∃g cap,v= .slice (some ⟨g,0,none⟩) k cap/\base<=g/\g<w.heap.size:=by
 exact Qx
end Go.Proofs.YtlheailebbngiaaGreatDoor
namespace Go
theorem aG{P:Program}{ops:Array Oper}{o:Oper}{a:Act}{w:World}{K:Act->World->Prop}{Q:Exit->Act->World->Prop}{E:Prop}(hgd:o.guard=none)(s x:Operand)(t:TypeId)
 (ho:o.op= .call {callee:=.builtin .append,args:=#[s,x],argTypes:=#[t,t]})
 (base:Nat) (e:TypeId) (i:TypeInfo) (z:Value) (size bytes:Nat) (ht:P.underlying t=some (.slice e)) (hi:P.info? e=some i) (hz:i.zero=some z)
 (hsize:i.size=size) (hby:i.bytes=bytes) (hzs:z.cells.size=size) (hsz:0<size)
 (v:Value) (n:Nat) (xs:List Value) (hs:a.eval s=v) (hown:w.ownsRow base e size v n xs)
 (ad:Addr) (m c:Nat) (news:List Value) (hx:a.eval x= .slice (some ad) m c) (hl:news.length=m*size) (hnews:∀j u,news[j]? =some u->w.cell? (ad.add j)=some u) (h1:∀u∈news,u.oneCell'=true)
 (h63:n+m<=maxLen) (hbytes:(n+m)*bytes<=140737488355328) (hbase:base<=w.heap.size)
 (h:∀v' w',w'.ownsRow base e size v' (n+m) (xs++news)->w.grownBy w' v.ownBlock->K (a.put o.dst v') w') :
 if Region.wanted o (yielded ops a.tmps)=true then Oper.wp P o a w K Q else E:=by
 have hw:Region.wanted o (yielded ops a.tmps)=true:=by simp [Region.wanted,hgd]
 rw [if_pos hw];exact wp_append_own w s x t ho base e i z size bytes ht hi hz hsize hby hzs hsz v n xs hs hown ad m c news hx hl hnews h1 h63 hbytes hbase fun v' w' h2 h3 _=>h v' w' h2 h3
theorem gV{P:Program}{ops:Array Oper}{o:Oper}{a:Act}{w:World}{K:Act->World->Prop}{Q:Exit->Act->World->Prop}{E:Prop}(hgd:o.guard=none)(s x:Operand)(t:TypeId)
 (ho:o.op= .call {callee:=.builtin .append,args:=#[s,x],argTypes:=#[t,t]})
 (base:Nat) (e:TypeId) (i:TypeInfo) (size:Nat) (ht:P.underlying t=some (.slice e)) (hi:P.info? e=some i)
 (v:Value) (n:Nat) (xs:List Value) (hs:a.eval s=v) (hown:w.ownsRow base e size v n xs) (hx:a.eval x= .slice none 0 0)
 (h:K (a.put o.dst v) w):if Region.wanted o (yielded ops a.tmps)=true then Oper.wp P o a w K Q else E:=by
 have hw:Region.wanted o (yielded ops a.tmps)=true:=by simp [Region.wanted,hgd]
 rw [if_pos hw];have hrun:=run_append_owned_none (P:=P) (w:=w) base t o.type e i size ht hi v n xs hown;unfold Oper.wp;simp [execOp,ho,resolve,invoke,builtin,hs,hx,hrun,Result.andThen];exact h
end Go
namespace Go
open Go.RowKit
theorem RowKit.Below.setBoth{B:Nat}{a w:World}(h:Below B a w)(p:Addr)(v:Value):Below B (a.setCell p v) (w.setCell p v):=
 ⟨h.os,h.tape,h.output,by simpa [World.setCell]using h.size,fun k hk=>by
  simp only [World.setCell,Array.getElem?_modify]
  rw [h.block k hk]⟩
theorem World.heap_grow_same{X Y:World}(hs:X.heap.size=Y.heap.size)(bs:Array Obj)(d d':Nat){k:Nat}(hk:X.heap.size<=k):(Y.grow bs d').heap[k]? =(X.grow bs d).heap[k]?:=by
 show(Y.heap++bs)[k]? =(X.heap++bs)[k]?;rw [Array.getElem?_append_right ze,Array.getElem?_append_right hk,hs]
theorem World.ownsRow_same{X Y:World}(hs:X.heap.size=Y.heap.size){bs:Array Obj}{d d':Nat}{base size n:Nat}{e:TypeId}{v:Value}{xs:List Value}(hb:X.heap.size<=base)(h:(X.grow bs d).ownsRow base e size v n xs):(Y.grow bs d').ownsRow base e size v n xs:=by
 obtain⟨h0,h1|⟨g,cap,cur,hv,hbg,hg,hr⟩⟩:=h
 ·exact⟨h0,.inl h1⟩
 ·exact⟨h0,.inr ⟨g,cap,cur,hv,hbg,(World.heap_grow_same hs bs d d' ze).trans hg,hr⟩⟩
end Go
namespace Go
theorem aj{w w':World}(h:RowKit.Below w.heap.size w w':=by(try simp only [World.grow_grow,World.grow_drew,World.drew_grow,<-Array.append_assoc]);repeat' (first|(with_reducible exact Go.RowKit.Below.fin)|(with_reducible exact Go.RowKit.Below.refl _ _)|(with_reducible assumption)|(with_reducible refine Go.RowKit.Below.peel ?_ ?_)|(with_reducible refine Go.RowKit.Below.grow ?_ ?_ _ _)|(with_reducible refine Go.RowKit.Below.alloc ?_ ?_ _)|(with_reducible refine Go.RowKit.Below.drewN ?_ _)|(with_reducible refine Go.RowKit.Below.drew ?_)|(with_reducible refine Go.RowKit.Below.setCell ?_ ?_ _)|go_size)):w.Grows w':=.of_below h
end Go
namespace Go.Proofs.YtlheailebbngiaaGreatDoor
open Go.Proofs.Tryz List
open Go.RowKit
def ApP(r:Val × Int)(w:World)(e:Ending)(w':World):Prop:=e= .returned (.tuple #[.agg #[.int .i64 r.1.dim,.bool r.1.yes,.int .i64 r.1.n,.int .i64 r.1.d],.int .i64 r.2])/\w.Grows w'
def apD(x y:Val):List Value:=[x.dim,y.dim].map (Value.int .i64)
theorem KV(x y:Val)(k:Nat)(hk:k<2)(dk:Int)(h:[x.dim,y.dim].getD k 0=dk):(apD x y).take (k+1)=(apD x y).take k++[.int .i64 dk]:=by
 subst h;rcases(show k=0\/k=1 by omega)with rfl|rfl<;>rfl
theorem Ed(op:Int)(x y:Val)(b o cp:Nat)(w:World)(hx:x.ok=true)(hy:y.ok=true)(ho:op=7\/op=8\/op=9\/op=10\/op=19\/op=20\/(11<=op/\op<=16))(hres:ax op [x.dim,y.dim]≠0)(hb:b<w.heap.size)
 (c0:w.cell? ⟨b,o,none⟩=some (.int .i64 x.dim)) (c1:w.cell? ⟨b,o+1,none⟩=some (.bool x.yes)) (c2:w.cell? ⟨b,o+2,none⟩=some (.int .i64 x.n)) (c3:w.cell? ⟨b,o+3,none⟩=some (.int .i64 x.d))
 (e0:w.cell? ⟨b,o+4,none⟩=some (.int .i64 y.dim)) (e1:w.cell? ⟨b,o+5,none⟩=some (.bool y.yes)) (e2:w.cell? ⟨b,o+6,none⟩=some (.int .i64 y.n)) (e3:w.cell? ⟨b,o+7,none⟩=some (.int .i64 y.d)) :
 Calls prog 120 #[.int .i64 op,.slice (some ⟨b,o,none⟩) 2 cp] w (ApP (op2 op x y) w):=by
 obtain⟨i0,hi,hz0,hz1,hz2⟩:=info_parts AY;have hd:=xU ho hres;have hvx:=(Val.ok_num hx hd.1).2.2.2;have hvy:=(Val.ok_num hy hd.2).2.2.2;have hdx:=Val.ok_dim hx;have hdy:=Val.ok_dim hy;have hcf:=si hvx hvy;have h64:kN x.n x.d y.n y.d:=⟨(Val.ok_rng hx).1,(Val.ok_rng hx).2,(Val.ok_rng hy).1,(Val.ok_rng hy).2⟩;have HA:=zh (fun w=>Co x.n x.d y.n y.d w h64);have HS:=zh (fun w=>KZ x.n x.d y.n y.d w h64);have HM:=zh (fun w=>Lg x.n x.d y.n y.d w h64);have HD:=zh (fun w=>Lp x.n x.d y.n y.d w h64);have HC:=zh (fun w=>pQ x.n x.d y.n y.d w h64);unfold frI at HC;unfold frV at HA HS HM HD;rw [hcf]at HC;have HRD:=zh hres;have HAN:Hid (((2:Nat):Int)=aX op):=zh (by unfold aX;rw [if_neg ze,if_neg ze,if_pos ze];rfl);have HDX:=zh hdx;have HDY:=zh hdy;have HOP:=zh ho
 have HXD:Hid (op=7\/op=8\/op=19\/op=20->ax op [x.dim,y.dim]=x.dim):=zh (fun h=>by
  rw [rZ _ _ h]at hres ⊢
  split
  ·rfl
  ·rename_i hn;rw [if_neg hn]at hres;exact absurd rfl hres)
 have HX1:Hid (11<=op/\op<=16->ax op [x.dim,y.dim]=1):=zh (fun h=>by
  rw [rY _ _ h]at hres ⊢
  split
  ·rfl
  ·rename_i hn;rw [if_neg hn]at hres;exact absurd rfl hres)
 clear hd hvx hvy hdx hdy hcf h64 hres ho hx hy
 go_enter func120,ntmps120
 go_wp2_with fail
 go_loopw [6,7] (fun v6 v7 wr=>∃(k:Nat) (vb:Value),vb=v6/\k<=2/\v7= .int .i64 k/\Below (w.heap.size+1) (w.alloc (.cells #[.int .i64 0,.bool false,.int .i64 0,.int .i64 0] 34)) wr/\wr.ownsRow (w.heap.size+1) 3 1 vb k ((apD x y).take k)) (fun _ v7 _=>2-(intOf v7).toNat)
 case atStart=>exact⟨0,_,rfl,by omega,rfl,.refl _ _,World.ownsRow_nil _ _ _ _⟩
 case round=>
  obtain⟨k,vb,rfl,hk,rfl,hB,hown⟩:=hrel;have HB:=zh hB;have HO:=zh hown;have hsW:w.heap.size+1<=wr.heap.size:=by have:=hB.size;simpa using this
  have hbr:b<wr.heap.size:=by omega
  have hcc:∀j u,w.cell? ⟨b,j,none⟩=some u->wr.cell? ⟨b,j,none⟩=some u:=fun j u h=>(hB.cell (p:=⟨b,j,none⟩) (by show b<_;omega)).trans ((World.cell?_alloc_lt w _ ⟨b,j,none⟩ hb).trans h);by_cases hlt:k<2
  ·have d1:(k:Int)<2:=by omega
   obtain⟨dk,hdk⟩:∃dk,[x.dim,y.dim].getD k 0=dk:=⟨_,rfl⟩
   have x0:wr.cell? ⟨b,o+k*4,none⟩=some (.int .i64 dk):=by
    subst hdk;rcases(show k=0\/k=1 by omega)with rfl|rfl
    ·exact hcc _ _ c0
    ·exact hcc _ _ e0
   have HNX:=zh (KV x y k hlt dk hdk);have HKL:=zh hlt;clear hlt hB hown hcc c0 c1 c2 c3 e0 e1 e2 e3 hdk
   go_wp2_with (at_builtin;refine wpList_append_own _ rfl _ _ 24 rfl (w.heap.size+1) 3 i0 (.int .i64 0) 1 8 underlying24 hi hz0 hz1 hz2 rfl zo _ _ _ rfl (HO.out.alloc _) ⟨wr.heap.size,0,none⟩ 1 1 [.int .i64 dk] rfl rfl ?c1 ?c2 ?c3 ?c4 ?c5 ?_)
   case c1=>exact aR _ [.int .i64 dk] _ _ zg
   case c2=>intro u hu;simp at hu;subst hu;rfl
   case c3=>unfold maxLen;omega
   case c4=>omega
   case c5=>simp;try omega
   intro v' w1 hown' hgrow _;have HB1:=zh ((show Below (w.heap.size+1) (w.alloc (.cells #[.int .i64 0,.bool false,.int .i64 0,.int .i64 0] 34)) _ from by have:=HB.out;(exact af)).grown hgrow zD (fun k hk=>(HO.out.lt k hk).1));have HO1:=zh hown';clear hown' hgrow
   go_wp2_with fail
   go_roundw
   case rel=>exact⟨k+1,_,rfl,HKL.out,by go_num,HB1.out,by rw [HNX.out];exact HO1.out⟩
   case measure=>simp [intOf];have:=HKL.out;omega
  ·obtain rfl:k=2:=by omega
   obtain⟨g,cap,rfl⟩:∃g cap,vb= .slice (some ⟨g,0,none⟩) 2 cap:=by
    rcases oM hown with ⟨-,h⟩|⟨g,cap,rfl,-⟩
    ·omega
    ·exact⟨g,cap,rfl⟩
   have HOW:Hid (wr.ownsRow (w.heap.size+1) 3 1 (.slice (some ⟨g,0,none⟩) [x.dim,y.dim].length cap) [x.dim,y.dim].length ([x.dim,y.dim].map (Value.int .i64))):=zh hown;have HRS:=zh (fun w' (hg:wr.Grows w')=>sV op [x.dim,y.dim] (w.heap.size+1) g cap w' (by have:=HOP.out;omega) (by have:=HOP.out;omega) HAN.out (by intro z hz;have:=HDX.out;have:=HDY.out;simp at hz;omega) (bQ HOW.out hg));unfold fJ at HRS;obtain⟨rd,hrd⟩:∃rd,ax op [x.dim,y.dim]=rd:=⟨_,rfl⟩;have HRD2:=zh hrd;rw [hrd]at HRS HXD HX1;clear hrd hown hcc;obtain⟨bs0,d0,rfl⟩:World.Grows (w.alloc (.cells #[.int .i64 0,.bool false,.int .i64 0,.int .i64 0] 34)) wr:=.of_below (by simpa using HB.out);have HG0:Hid (w.Grows ((w.alloc (.cells #[.int .i64 0,.bool false,.int .i64 0,.int .i64 0] 34)).grow bs0 d0)):=zh aj;clear hB HB HO
   go_wp2_with (go_at_call 148;refine(HRS.out _ aj).mono ?_;rintro e' w' ⟨rfl,bs,d,rfl⟩)
   refine TS.begin [] (World.Grows _) zf zf aO (fun hS=>?_);refine TS.wkB 0 hS ?_;refine TS.wkB 1 hS ?_;refine TS.wkB 2 hS ?_;refine TS.wkB 3 hS ?_;refine TS.wkB 4 hS ?_;refine TS.wkB 5 hS ?_;refine TS.wkB 6 hS ?_;refine TS.wkB 7 hS ?_;refine TS.one (i:=8) zq rfl (fun K1 hK1=>?_);have HK1:=zh hK1;clear hK1 hS;dsimp only [getElem_toArray,getElem_cons_succ,getElem_cons_zero]
   go_simp
   go_at_call 24
   refine(HC.out _).mono ?_;rintro e' wA ⟨rfl,bA,dA,rfl⟩;refine TS.go HK1.out aj (fun hS=>?_);clear HK1 K1
   (try simp only [nS])
   refine TS.wkB 9 hS ?_;refine TS.wkB 10 hS ?_;refine TS.wkB 11 hS ?_;refine TS.wkB 12 hS ?_;refine TS.done zf ?_;clear hS
   (try simp only [nS])
   go_upto_block 2 with fail
   have hop:=HOP.out;generalize hc:iw x.n x.d y.n y.d=c;have HCC:=zh hc;clear hc HOP HC HRS HAN HOW;rcases hop with rfl|rfl|rfl|rfl|rfl|rfl|hop
   ·have HR:Hid (op2 7 x y=eO rd (jR x.n x.d y.n y.d)):=zh (by rw [HXD.out (.inl rfl)];rfl);generalize jR x.n x.d y.n y.d=q at *;obtain⟨qn,qd,qc⟩:=q;dsimp only at HA;by_cases hq:qc=0
    focus
     subst hq;unfold eO at HR;rw [if_pos rfl]at HR
    rotate_left
    focus
     unfold eO at HR;rw [if_neg hq]at HR;have hq1:(qc !=0)=true:=by simpa using hq
     clear hq
    rotate_left
    all_goals
     go_wp2_with fail
     refine TS.begin [14] (World.Grows ((w.alloc (.cells #[.int .i64 0,.bool false,.int .i64 0,.int .i64 0] 34)).grow bs0 d0)) zf zf aj (fun hS=>?_);refine TS.wkB 0 hS ?_;refine TS.wkB 1 hS ?_;refine TS.wkB 2 hS ?_;refine TS.wkB 3 hS ?_;refine TS.wkB 4 hS ?_;refine TS.wkB 5 hS ?_;refine TS.wkB 6 hS ?_;refine TS.wkB 7 hS ?_;refine TS.one (i:=8) zq rfl (fun K1 hK1=>?_);have HK1:=zh hK1;clear hK1 hS;dsimp only [getElem_toArray,getElem_cons_succ,getElem_cons_zero]
     go_simp
     go_at_call 151
     refine(HA.out _).mono ?_;rintro e' wA ⟨rfl,bA,dA,rfl⟩;refine TS.go HK1.out aj (fun hS=>?_);clear HK1 K1
     (try simp only [nS])
     refine TS.wkB 9 hS ?_;refine TS.wkB 10 hS ?_;refine TS.wkB 11 hS ?_;refine TS.wkB 12 hS ?_;refine TS.one (i:=13) zq rfl (fun K1 hK1=>?_);have HK1:=zh hK1;clear hK1 hS;dsimp only [getElem_toArray,getElem_cons_succ,getElem_cons_zero]
     go_simp
     refine TS.go HK1.out aj (fun hS=>?_);clear HK1 K1
     (try simp only [nS])
     refine TS.weB 14 ?_;clear hS
     go_wp2_with fail
     go_returns
     exact⟨by rw [HR.out];rfl,aj⟩
   ·have HR:Hid (op2 8 x y=eO rd (lV x.n x.d y.n y.d)):=zh (by rw [HXD.out (.inr (.inl rfl))];rfl);generalize lV x.n x.d y.n y.d=q at *;obtain⟨qn,qd,qc⟩:=q;dsimp only at HS;by_cases hq:qc=0
    focus
     subst hq;unfold eO at HR;rw [if_pos rfl]at HR
    rotate_left
    focus
     unfold eO at HR;rw [if_neg hq]at HR;have hq1:(qc !=0)=true:=by simpa using hq
     clear hq
    rotate_left
    all_goals
     go_wp2_with fail
     refine TS.begin [14] (World.Grows ((w.alloc (.cells #[.int .i64 0,.bool false,.int .i64 0,.int .i64 0] 34)).grow bs0 d0)) zf zf aj (fun hS=>?_);refine TS.wkB 0 hS ?_;refine TS.wkB 1 hS ?_;refine TS.wkB 2 hS ?_;refine TS.wkB 3 hS ?_;refine TS.wkB 4 hS ?_;refine TS.wkB 5 hS ?_;refine TS.wkB 6 hS ?_;refine TS.wkB 7 hS ?_;refine TS.one (i:=8) zq rfl (fun K1 hK1=>?_);have HK1:=zh hK1;clear hK1 hS;dsimp only [getElem_toArray,getElem_cons_succ,getElem_cons_zero]
     go_simp
     go_at_call 152
     refine(HS.out _).mono ?_;rintro e' wA ⟨rfl,bA,dA,rfl⟩;refine TS.go HK1.out aj (fun hS=>?_);clear HK1 K1
     (try simp only [nS])
     refine TS.wkB 9 hS ?_;refine TS.wkB 10 hS ?_;refine TS.wkB 11 hS ?_;refine TS.wkB 12 hS ?_;refine TS.one (i:=13) zq rfl (fun K1 hK1=>?_);have HK1:=zh hK1;clear hK1 hS;dsimp only [getElem_toArray,getElem_cons_succ,getElem_cons_zero]
     go_simp
     refine TS.go HK1.out aj (fun hS=>?_);clear HK1 K1
     (try simp only [nS])
     refine TS.weB 14 ?_;clear hS
     go_wp2_with fail
     go_returns
     exact⟨by rw [HR.out];rfl,aj⟩
   ·have HR:Hid (op2 9 x y=eO rd (lK x.n x.d y.n y.d)):=zh (by rw [<-HRD2.out];rfl);generalize lK x.n x.d y.n y.d=q at *;obtain⟨qn,qd,qc⟩:=q;dsimp only at HM;by_cases hq:qc=0
    focus
     subst hq;unfold eO at HR;rw [if_pos rfl]at HR
    rotate_left
    focus
     unfold eO at HR;rw [if_neg hq]at HR;have hq1:(qc !=0)=true:=by simpa using hq
     clear hq
    rotate_left
    all_goals
     go_wp2_with fail
     refine TS.begin [14] (World.Grows ((w.alloc (.cells #[.int .i64 0,.bool false,.int .i64 0,.int .i64 0] 34)).grow bs0 d0)) zf zf aj (fun hS=>?_);refine TS.wkB 0 hS ?_;refine TS.wkB 1 hS ?_;refine TS.wkB 2 hS ?_;refine TS.wkB 3 hS ?_;refine TS.wkB 4 hS ?_;refine TS.wkB 5 hS ?_;refine TS.wkB 6 hS ?_;refine TS.wkB 7 hS ?_;refine TS.one (i:=8) zq rfl (fun K1 hK1=>?_);have HK1:=zh hK1;clear hK1 hS;dsimp only [getElem_toArray,getElem_cons_succ,getElem_cons_zero]
     go_simp
     go_at_call 153
     refine(HM.out _).mono ?_;rintro e' wA ⟨rfl,bA,dA,rfl⟩;refine TS.go HK1.out aj (fun hS=>?_);clear HK1 K1
     (try simp only [nS])
     refine TS.wkB 9 hS ?_;refine TS.wkB 10 hS ?_;refine TS.wkB 11 hS ?_;refine TS.wkB 12 hS ?_;refine TS.one (i:=13) zq rfl (fun K1 hK1=>?_);have HK1:=zh hK1;clear hK1 hS;dsimp only [getElem_toArray,getElem_cons_succ,getElem_cons_zero]
     go_simp
     refine TS.go HK1.out aj (fun hS=>?_);clear HK1 K1
     (try simp only [nS])
     refine TS.weB 14 ?_;clear hS
     go_wp2_with fail
     go_returns
     exact⟨by rw [HR.out];rfl,aj⟩
   ·have HR:Hid (op2 10 x y=eO rd (lL x.n x.d y.n y.d)):=zh (by rw [<-HRD2.out];rfl);generalize lL x.n x.d y.n y.d=q at *;obtain⟨qn,qd,qc⟩:=q;dsimp only at HD;by_cases hq:qc=0
    focus
     subst hq;unfold eO at HR;rw [if_pos rfl]at HR
    rotate_left
    focus
     unfold eO at HR;rw [if_neg hq]at HR;have hq1:(qc !=0)=true:=by simpa using hq
     clear hq
    rotate_left
    all_goals
     go_wp2_with fail
     refine TS.begin [14] (World.Grows ((w.alloc (.cells #[.int .i64 0,.bool false,.int .i64 0,.int .i64 0] 34)).grow bs0 d0)) zf zf aj (fun hS=>?_);refine TS.wkB 0 hS ?_;refine TS.wkB 1 hS ?_;refine TS.wkB 2 hS ?_;refine TS.wkB 3 hS ?_;refine TS.wkB 4 hS ?_;refine TS.wkB 5 hS ?_;refine TS.wkB 6 hS ?_;refine TS.wkB 7 hS ?_;refine TS.one (i:=8) zq rfl (fun K1 hK1=>?_);have HK1:=zh hK1;clear hK1 hS;dsimp only [getElem_toArray,getElem_cons_succ,getElem_cons_zero]
     go_simp
     go_at_call 154
     refine(HD.out _).mono ?_;rintro e' wA ⟨rfl,bA,dA,rfl⟩;refine TS.go HK1.out aj (fun hS=>?_);clear HK1 K1
     (try simp only [nS])
     refine TS.wkB 9 hS ?_;refine TS.wkB 10 hS ?_;refine TS.wkB 11 hS ?_;refine TS.wkB 12 hS ?_;refine TS.one (i:=13) zq rfl (fun K1 hK1=>?_);have HK1:=zh hK1;clear hK1 hS;dsimp only [getElem_toArray,getElem_cons_succ,getElem_cons_zero]
     go_simp
     refine TS.go HK1.out aj (fun hS=>?_);clear HK1 K1
     (try simp only [nS])
     refine TS.weB 14 ?_;clear hS
     go_wp2_with fail
     go_returns
     exact⟨by rw [HR.out];rfl,aj⟩
   ·have HQ:Hid (op2 19 x y=(if c<=0 then .num rd x.n x.d else .num rd y.n y.d,0)):=zh (by rw [HXD.out ze,<-HCC.out];rfl);have HR1:∀r,r=(Val.num rd x.n x.d,(0:Int))->Ending.returned (.tuple #[.agg #[.int .i64 rd,.bool false,.int .i64 x.n,.int .i64 x.d],.int .i64 0])= .returned (.tuple #[.agg #[.int .i64 r.1.dim,.bool r.1.yes,.int .i64 r.1.n,.int .i64 r.1.d],.int .i64 r.2]):=fun r h=>by subst h;rfl
    have HR2:∀r,r=(Val.num rd y.n y.d,(0:Int))->Ending.returned (.tuple #[.agg #[.int .i64 rd,.bool false,.int .i64 y.n,.int .i64 y.d],.int .i64 0])= .returned (.tuple #[.agg #[.int .i64 r.1.dim,.bool r.1.yes,.int .i64 r.1.n,.int .i64 r.1.d],.int .i64 r.2]):=fun r h=>by subst h;rfl
    have HRR1:=zh HR1;have HRR2:=zh HR2;clear HR1 HR2;rcases(show c<0\/c=0\/0<c by omega)with h1|h1|h1
    ·have hq1:(c !=0)=true:=by simp;omega
     have hq2:decide (c<0)=true:=decide_eq_true h1
     go_wp2_with fail
     all_goals
      go_returns
      exact⟨HRR1.out _ zU,aj⟩
    ·subst h1
     go_wp2_with fail
     all_goals
      go_returns
      exact⟨HRR1.out _ zU,aj⟩
    ·have hq1:(c !=0)=true:=by simp;omega
     have hq2:decide (c<0)=false:=decide_eq_false ze
     go_wp2_with fail
     all_goals
      trace_state
      go_returns
      exact⟨HRR2.out _ zU,aj⟩
   ·have HQ:Hid (op2 20 x y=(if 0<=c then .num rd x.n x.d else .num rd y.n y.d,0)):=zh (by rw [HXD.out ze,<-HCC.out];rfl);have HR1:∀r,r=(Val.num rd x.n x.d,(0:Int))->Ending.returned (.tuple #[.agg #[.int .i64 rd,.bool false,.int .i64 x.n,.int .i64 x.d],.int .i64 0])= .returned (.tuple #[.agg #[.int .i64 r.1.dim,.bool r.1.yes,.int .i64 r.1.n,.int .i64 r.1.d],.int .i64 r.2]):=fun r h=>by subst h;rfl
    have HR2:∀r,r=(Val.num rd y.n y.d,(0:Int))->Ending.returned (.tuple #[.agg #[.int .i64 rd,.bool false,.int .i64 y.n,.int .i64 y.d],.int .i64 0])= .returned (.tuple #[.agg #[.int .i64 r.1.dim,.bool r.1.yes,.int .i64 r.1.n,.int .i64 r.1.d],.int .i64 r.2]):=fun r h=>by subst h;rfl
    have HRR1:=zh HR1;have HRR2:=zh HR2;clear HR1 HR2;rcases(show c<0\/c=0\/0<c by omega)with h1|h1|h1
    ·have hq1:(c !=0)=true:=by simp;omega
     have hq2:decide (c<0)=true:=decide_eq_true h1
     go_wp2_with fail
     all_goals
      go_returns
      exact⟨HRR2.out _ zU,aj⟩
    ·subst h1
     go_wp2_with fail
     all_goals
      go_returns
      exact⟨HRR1.out _ zU,aj⟩
    ·have hq1:(c !=0)=true:=by simp;omega
     have hq2:decide (c<0)=false:=decide_eq_false ze
     go_wp2_with fail
     all_goals
      trace_state
      go_returns
      exact⟨HRR1.out _ zU,aj⟩
   ·obtain rfl:rd=1:=HX1.out hop;rcases(show op=11\/op=12\/op=13\/op=14\/op=15\/op=16 by omega)with rfl|rfl|rfl|rfl|rfl|rfl
    focus
     have HQ:Hid (op2 11 x y=(.truth (rP 11 c),0)):=zh zX
    rotate_left
    focus
     have HQ:Hid (op2 12 x y=(.truth (rP 12 c),0)):=zh zX
    rotate_left
    focus
     have HQ:Hid (op2 13 x y=(.truth (rP 13 c),0)):=zh zX
    rotate_left
    focus
     have HQ:Hid (op2 14 x y=(.truth (rP 14 c),0)):=zh zX
    rotate_left
    focus
     have HQ:Hid (op2 15 x y=(.truth (rP 15 c),0)):=zh zX
    rotate_left
    focus
     have HQ:Hid (op2 16 x y=(.truth (rP 16 c),0)):=zh zX
    rotate_left
    all_goals
     go_wp2_with fail
     go_returns
     exact⟨by rw [HQ.out];simp [rP,Val.truth]<;>(by_cases h:c=0<;>simp [h]),aj⟩
theorem Ee(op:Int)(x:Val)(b o cp:Nat)(w:World)(hx:x.ok=true)(h4:4<=op)(h6:op<=6)(hres:ax op [x.dim]≠0)(hb:b<w.heap.size)
 (c0:w.cell? ⟨b,o,none⟩=some (.int .i64 x.dim)) (c1:w.cell? ⟨b,o+1,none⟩=some (.bool x.yes)) (c2:w.cell? ⟨b,o+2,none⟩=some (.int .i64 x.n)) (c3:w.cell? ⟨b,o+3,none⟩=some (.int .i64 x.d)) :
 Calls prog 120 #[.int .i64 op,.slice (some ⟨b,o,none⟩) 1 cp] w (ApP (op1 op x) w):=by
 obtain⟨i0,hi,hz0,hz1,hz2⟩:=info_parts AY;have hdx:=Val.ok_dim hx;have hrg:=Val.ok_rng hx;have HA:=zh (fun w=>Ch x.n x.d w hrg.1.1 hrg.1.2 hrg.2.1 hrg.2.2);have HS:=zh (fun w=>Ej x.n x.d w hrg.1.1 hrg.1.2 hrg.2.1 hrg.2.2);unfold frI at HS;unfold frV at HA;have HAN:Hid (((1:Nat):Int)=aX op):=zh (by unfold aX;rw [if_neg ze,if_pos ze];rfl);have HDX:=zh hdx;have HOP:Hid (op=4\/op=5\/op=6):=zh ze
 have HNB:Hid (op=4\/op=6->aA x.n x.d=true/\ax op [x.dim]=x.dim):=zh (fun h=>by
  have hr:ax op [x.dim]=if x.dim≠1 then x.dim else 0:=by rcases h with rfl|rfl<;>rfl
  rw [hr]at hres ⊢
  split at hres<;>rename_i hd
  ·rw [if_pos hd];exact⟨(Val.ok_num hx hd).2.2.2,rfl⟩
  ·exact absurd rfl hres)
 have HX1:Hid (op=5->ax op [x.dim]=1):=zh (fun h=>by
  subst h;have hr:ax 5 [x.dim]=if x.dim=1 then 1 else 0:=rfl
  rw [hr]at hres ⊢
  split at hres<;>rename_i hd
  ·rw [if_pos hd]
  ·exact absurd rfl hres)
 clear hdx hres hx hrg h4 h6
 go_enter func120,ntmps120
 go_wp2_with fail
 go_loopw [6,7] (fun v6 v7 wr=>∃(k:Nat) (vb:Value),vb=v6/\k<=1/\v7= .int .i64 k/\Below (w.heap.size+1) (w.alloc (.cells #[.int .i64 0,.bool false,.int .i64 0,.int .i64 0] 34)) wr/\wr.ownsRow (w.heap.size+1) 3 1 vb k (([x.dim].map (Value.int .i64)).take k)) (fun _ v7 _=>1-(intOf v7).toNat)
 case atStart=>exact⟨0,_,rfl,by omega,rfl,.refl _ _,World.ownsRow_nil _ _ _ _⟩
 case round=>
  obtain⟨k,vb,rfl,hk,rfl,hB,hown⟩:=hrel;have HB:=zh hB;have HO:=zh hown;have hsW:w.heap.size+1<=wr.heap.size:=by have:=hB.size;simpa using this
  have hbr:b<wr.heap.size:=by omega
  have hcc:∀j u,w.cell? ⟨b,j,none⟩=some u->wr.cell? ⟨b,j,none⟩=some u:=fun j u h=>(hB.cell (p:=⟨b,j,none⟩) (by show b<_;omega)).trans ((World.cell?_alloc_lt w _ ⟨b,j,none⟩ hb).trans h);by_cases hlt:k<1
  ·obtain rfl:k=0:=by omega
   have x0:=hcc _ _ c0;clear hlt hB hown hcc c0 c1 c2 c3
   go_wp2_with (at_builtin;refine wpList_append_own _ rfl _ _ 24 rfl (w.heap.size+1) 3 i0 (.int .i64 0) 1 8 underlying24 hi hz0 hz1 hz2 rfl zo _ _ _ rfl (HO.out.alloc _) ⟨wr.heap.size,0,none⟩ 1 1 [.int .i64 x.dim] rfl rfl ?c1 ?c2 ?c3 ?c4 ?c5 ?_)
   case c1=>exact aR _ [.int .i64 x.dim] _ _ zg
   case c2=>intro u hu;simp at hu;subst hu;rfl
   case c3=>decide
   case c4=>decide
   case c5=>simp;try omega
   intro v' w1 hown' hgrow _;have HB1:=zh ((show Below (w.heap.size+1) (w.alloc (.cells #[.int .i64 0,.bool false,.int .i64 0,.int .i64 0] 34)) _ from by have:=HB.out;(exact af)).grown hgrow zD (fun k hk=>(HO.out.lt k hk).1));have HO1:=zh hown';clear hown' hgrow
   go_wp2_with fail
   go_roundw
   case rel=>exact⟨1,_,rfl,by omega,by first|rfl|go_num,HB1.out,HO1.out⟩
   case measure=>simp [intOf]
  ·obtain rfl:k=1:=by omega
   obtain⟨g,cap,rfl⟩:∃g cap,vb= .slice (some ⟨g,0,none⟩) 1 cap:=by
    rcases oM hown with ⟨-,h⟩|⟨g,cap,rfl,-⟩
    ·omega
    ·exact⟨g,cap,rfl⟩
   have HOW:Hid (wr.ownsRow (w.heap.size+1) 3 1 (.slice (some ⟨g,0,none⟩) [x.dim].length cap) [x.dim].length ([x.dim].map (Value.int .i64))):=zh hown;have HRS:=zh (fun w' (hg:wr.Grows w')=>sV op [x.dim] (w.heap.size+1) g cap w' (by have:=HOP.out;omega) (by have:=HOP.out;omega) HAN.out (by intro z hz;have:=HDX.out;simp at hz;omega) (bQ HOW.out hg));unfold fJ at HRS;obtain⟨rd,hrd⟩:∃rd,ax op [x.dim]=rd:=⟨_,rfl⟩;rw [hrd]at HRS HNB HX1;clear hrd hown hcc;obtain⟨bs0,d0,rfl⟩:World.Grows (w.alloc (.cells #[.int .i64 0,.bool false,.int .i64 0,.int .i64 0] 34)) wr:=.of_below (by simpa using HB.out);clear hB HB HO;have hop:=HOP.out;rcases hop with rfl|rfl|rfl
   ·obtain⟨hv,rfl⟩:=HNB.out (.inl rfl);have hn:iW x.n x.d=(-x.n,x.d,0):=by unfold iW;rw [if_pos hv]
    have HR:Hid (op1 4 x=(.num x.dim (-x.n) x.d,0)):=zh (by show eO x.dim (iW x.n x.d)=_;rw [hn];rfl);rw [hn]at HA;clear hv hn
    go_wp2_with (first
     |(go_at_call 148;refine(HRS.out _ aj).mono ?_;rintro e' w' ⟨rfl,bs,d,rfl⟩)
     |(go_at_call 149;refine(HA.out _).mono ?_;rintro e' w' ⟨rfl,bs2,d2,rfl⟩))
    go_returns
    exact⟨by rw [HR.out];rfl,aj⟩
   ·obtain rfl:=HX1.out rfl;have HR:Hid (op1 5 x=(.truth (!x.yes),0)):=zh rfl
    go_wp2_with (go_at_call 148;refine(HRS.out _ aj).mono ?_;rintro e' w' ⟨rfl,bs,d,rfl⟩)
    go_returns
    exact⟨by rw [HR.out];rfl,aj⟩
   ·obtain⟨hv,rfl⟩:=HNB.out (.inr rfl);have hn:(eG x.n x.d).2=0:=by unfold eG;rw [if_pos hv]
    have HR:Hid (op1 6 x=(.num x.dim (eG x.n x.d).1 1,0)):=zh (by show eO x.dim ((eG x.n x.d).1,1,(eG x.n x.d).2)=_;rw [hn];rfl);rw [hn]at HS;clear hv hn;generalize(eG x.n x.d).1=fl at *
    go_wp2_with (first
     |(go_at_call 148;refine(HRS.out _ aj).mono ?_;rintro e' w' ⟨rfl,bs,d,rfl⟩)
     |(go_at_call 150;refine(HS.out _).mono ?_;rintro e' w' ⟨rfl,bs2,d2,rfl⟩))
    go_returns
    exact⟨by rw [HR.out];rfl,aj⟩
end Go.Proofs.YtlheailebbngiaaGreatDoor
