import Derived.Test.YteildlpchhlchaaGreatDoorRShelf5
import Derived.Test.YteildlpchhlchaaGreatDoorRShelf4
import Derived.Test.YteildlpchhlchaaGreatDoorRCodM
set_option linter.all false
set_option maxHeartbeats 16000000
set_option maxRecDepth 1000000
namespace Go.Proofs.YteildlpchhlchaaGreatDoor
open Tryz List
open Go.RowKit
def qU:ByteArray:=⟨#[98,121]⟩
structure qx(w:World)(bI bS:Nat):Prop where
 hI:bI<w.heap.size
 hS:bS<w.heap.size
 ins:∀i u,[Value.int .i64 1,.int .i64 2,.int .i64 2,.int .i64 1,.int .i64 1,.int .i64 2,.int .i64 3,.int .i64 1,.int .i64 9,.int .i64 0,.int .i64 0,.int .i64 0,.int .i64 4,.int .i64 0,.int .i64 0,.int .i64 0][i]? =some u->w.cell? ⟨bI,i,none⟩=some u
 slt:w.cell? ⟨bS,0,none⟩=some (.string qU)
theorem qx.grows{w w':World}{bI bS:Nat}(h:qx w bI bS)(hg:w.Grows w'):qx w' bI bS:=
 ⟨Nat.lt_of_lt_of_le h.hI hg.below.size,Nat.lt_of_lt_of_le h.hS hg.below.size,fun i u hu=>(World.cell?_of_block (a:=⟨bI,i,none⟩) (hg.below.block bI h.hI)).trans (h.ins i u hu),(World.cell?_of_block (a:=⟨bS,0,none⟩) (hg.below.block bS h.hS)).trans h.slt⟩
def vw9:Value:=.agg #[.int .i64 0,.int .i64 2000,.int .i64 0,.int .i64 0,.int .i64 0,.int .i64 0,.int .i64 0,.int .i64 0,.int .i64 0,.int .i64 0,.int .i64 0,.int .i64 1,.slice none 0 0]
def PM(w:World)(e:Ending)(w':World):Prop:=∃sv,e= .returned (.tuple #[sv,.int .i64 0])/\w.Grows w'/\w'.ownsRow w.heap.size 70 5 sv 1 [.string qU,.int .i64 2,.bool false,.int .i64 5,.int .i64 1]
theorem Lr:(prog.info? 70).map (fun i=>(i.zero,i.size,i.bytes))=some (some (.agg #[.string ⟨#[]⟩,.int .i64 0,.bool false,.int .i64 0,.int .i64 0]),5,48):=by kernel_rfl
theorem jD{P:Program}{c:Code}{Q:Exit->Act->World->Prop}{a:Act}{w:World}(S:World->Prop)(h:S w)(k:∀W,S W->c.wp P Q a W):c.wp P Q a w:=k w h
def n9(k:Nat):Nat:=[0,1,2,1].getD k 0
def x9(k:Nat):List Value:=[[],[.int .i64 2,.bool false,.int .i64 2,.int .i64 1],[.int .i64 2,.bool false,.int .i64 2,.int .i64 1,.int .i64 2,.bool false,.int .i64 3,.int .i64 1],[.int .i64 2,.bool false,.int .i64 5,.int .i64 1]].getD k []
structure P9(w Y:World)(B:Nat)(W:World):Prop where
 gr:w.Grows W
 rel:Rel Y (some B) W
 blk:∃cs ty,W.heap[B]? =some (.cells cs ty (0,0))/\cs.size=48
theorem P9.next{w Y W W2 w1:World}{B:Nat}{row:Option Nat}(h:P9 w Y B W)(hB:B<Y.heap.size)(hY:w.heap.size<=Y.heap.size)(hrow:∀b,row=some b->Y.heap.size<=b)(hg:W.Grows W2)(hgr:W2.grownBy w1 row):P9 w Y B w1:=by
 have h1:=h.gr.trans' hg;have hs:=Nat.le_trans h.rel.1 hg.below.size;refine⟨World.Grows.grown h1 hgr fun b e=>Nat.le_trans hY (hrow b e),⟨Nat.le_trans hs hgr.size,fun b hb hne=>?_⟩, ?_⟩
 ·rw [hgr.block b zb (fun e=>by have:=hrow b e.symm;omega)];exact(h.rel.grows hg).2 b hb hne
 ·obtain⟨cs,ty,hc,hz⟩:=h.blk;exact⟨cs,ty,(hgr.block B zb (fun e=>by have:=hrow B e.symm;omega)).trans ((hg.below.block B (Nat.lt_of_lt_of_le hB h.rel.1)).trans hc),hz⟩
theorem P9.grows{w Y W W2:World}{B:Nat}(h:P9 w Y B W)(hB:B<Y.heap.size)(hg:W.Grows W2):P9 w Y B W2:=by
 obtain⟨cs,ty,hc,hz⟩:=h.blk;exact⟨h.gr.trans' hg,h.rel.grows hg,cs,ty,(hg.below.block B (Nat.lt_of_lt_of_le hB h.rel.1)).trans hc,hz⟩
theorem P9.store{w Y W:World}{B:Nat}(h:P9 w Y B W)(hB:w.heap.size<=B)(j:Nat)(v:Value):P9 w Y B (W.setCell ⟨B,j,none⟩ v):=by
 obtain⟨cs,ty,hc,hz⟩:=h.blk;exact⟨.of_below (h.gr.below.setCell hB v),⟨by have:=h.rel.1;simpa using this,fun b hb hne=>(Below.heap_setCell _ _ _ _ fun e=>hne (by simpa using e)).trans (h.rel.2 b hb hne)⟩,_,ty,Go.Joins.block_setCell hc v,by simpa using hz⟩
theorem P9.cell{w Y W:World}{B:Nat}(h:P9 w Y B W)(j:Nat)(hj:j<48):∃u,W.cell? ⟨B,j,none⟩=some u:=by
 obtain⟨cs,ty,hc,hz⟩:=h.blk;exact⟨cs[j],by rw [cell_of_row W _ j _ _ _ hc];simp [hz,hj]⟩
theorem P9.unfr{w Y W:World}{B:Nat}(h:P9 w Y B W)(j:Nat):W.frozen? ⟨B,j,none⟩=false:=by
 obtain⟨cs,ty,hc,hz⟩:=h.blk;exact Go.Joins.unfrozen_of_block hc j
theorem bB{w:World}{base:Nat}{e:TypeId}{size:Nat}{v:Value}{n:Nat}{xs:List Value}(h:w.ownsRow base e size v n xs){w':World}(hg:w.Grows w'):w'.ownsRow base e size v n xs:=
 h.kept (row:=none) ⟨hg.below.os,hg.below.tape,hg.below.output,hg.below.size,fun k hk _=>hg.below.block k hk⟩ (by cases h':v.ownBlock<;>simp)
theorem pJ{w:World}{b b' size n:Nat}{e:TypeId}{v:Value}{xs:List Value}(hb:b'<=b)(h:w.ownsRow b e size v n xs):w.ownsRow b' e size v n xs:=by
 exact RB
def TD(N off:Nat)(zs:List Int)(bs:List Bool)(w:World)(e:Ending)(w':World):Prop:=
 e= .returned (.bool true)/\∃a n c,Upd (fun k=>k=N) w w' N off (.bool true:: .slice a n c::bs.map .bool)/\w'.ownsRow w.heap.size 3 1 (.slice a n c) zs.length (zs.map (Value.int .i64))
theorem Ic(N off:Nat)(zs:List Int)(a2:Option Addr)(n2 k2:Nat)(w:World)(r b0 b1 b2 b3 b4 b5 b6 b7 b8 b9 b10 b11:Bool)(hN:N<w.heap.size)(v1:Value)(s0 s1 s2 s3 s4 s5 s6 s7 s8 s9 s10 s11:Bool)(hT:bu w N off [.bool false,v1,.bool s0,.bool s1,.bool s2,.bool s3,.bool s4,.bool s5,.bool s6,.bool s7,.bool s8,.bool s9,.bool s10,.bool s11])(hf:∀i,w.frozen? ⟨N,i,none⟩=false)
 (HCL:Hid (∀w',w.Grows w'->Calls prog 172 #[.slice a2 n2 k2] w' fun e w''=>∃va vl vc,e= .returned (.slice va vl vc)/\w'.Grows w''/\w''.ownsRow w.heap.size 3 1 (.slice va vl vc) zs.length (zs.map (Value.int .i64)))) :
 Calls prog 126 #[.pointer (some ⟨N,off,none⟩),.agg #[.bool r,.slice a2 n2 k2,.bool b0,.bool b1,.bool b2,.bool b3,.bool b4,.bool b5,.bool b6,.bool b7,.bool b8,.bool b9,.bool b10,.bool b11]] w (TD N off zs [b0,b1,b2,b3,b4,b5,b6,b7,b8,b9,b10,b11] w):=by
 have HT:=yq hT;have c0:=hT 0 _ rfl;have c1:=hT 1 _ rfl;have c2:=hT 2 _ rfl;have c3:=hT 3 _ rfl;have c4:=hT 4 _ rfl;have c5:=hT 5 _ rfl;have c6:=hT 6 _ rfl;have c7:=hT 7 _ rfl;have c8:=hT 8 _ rfl;have c9:=hT 9 _ rfl;have c10:=hT 10 _ rfl;have c11:=hT 11 _ rfl;have c12:=hT 12 _ rfl;have c13:=hT 13 _ rfl;rw [Nat.add_zero]at c0;clear hT
 go_enter func126,ntmps126
 go_wp2_with fail
 refine TS.begin [8] (World.Grows _) zd zd aj (fun hS=>?_);refine kq 0 hS ?_;refine kq 1 hS ?_;refine kq 2 hS ?_;refine kq 4 hS ?_;refine kq 5 hS ?_;refine TS.one (i:=3) zd rfl (fun K1 hK1=>?_);have HK1:=yq hK1;clear hK1 hS;dsimp only [getElem_toArray,getElem_cons_succ,getElem_cons_zero]
 go_simp
 go_at_call 172
 refine(HCL.out _ af).mono ?_;rintro e' w2 ⟨va,vl,vc,rfl,hg2,ho⟩;have hw2:w.Grows w2:=gqq af hg2;refine TS.go HK1.out (gqq af hg2) (fun hS=>?_);have HO:=yq ho;have HW:=yq hw2;have hN2:N<w2.heap.size:=by have:=hw2.below.size;omega
 clear ho hg2;replace c0:=(World.cell?_of_block (hw2.below.block N hN)).trans c0;replace c1:=(World.cell?_of_block (hw2.below.block N hN)).trans c1;replace c2:=(World.cell?_of_block (hw2.below.block N hN)).trans c2;replace c3:=(World.cell?_of_block (hw2.below.block N hN)).trans c3;replace c4:=(World.cell?_of_block (hw2.below.block N hN)).trans c4;replace c5:=(World.cell?_of_block (hw2.below.block N hN)).trans c5;replace c6:=(World.cell?_of_block (hw2.below.block N hN)).trans c6;replace c7:=(World.cell?_of_block (hw2.below.block N hN)).trans c7;replace c8:=(World.cell?_of_block (hw2.below.block N hN)).trans c8;replace c9:=(World.cell?_of_block (hw2.below.block N hN)).trans c9;replace c10:=(World.cell?_of_block (hw2.below.block N hN)).trans c10;replace c11:=(World.cell?_of_block (hw2.below.block N hN)).trans c11;replace c12:=(World.cell?_of_block (hw2.below.block N hN)).trans c12;replace c13:=(World.cell?_of_block (hw2.below.block N hN)).trans c13;replace hf:=fun i=>(World.frozen?_of_block (a:=⟨N,i,none⟩) (hw2.below.block N hN)).trans (hf i);clear hw2;clear HK1 K1
 (try simp only [nS])
 refine kq 6 hS ?_;refine kq 7 hS ?_;have f0:=hf off;have f1:=hf (off+1);have f2:=hf (off+2);have f3:=hf (off+3);have f4:=hf (off+4);have f5:=hf (off+5);have f6:=hf (off+6);have f7:=hf (off+7);have f8:=hf (off+8);have f9:=hf (off+9);have f10:=hf (off+10);have f11:=hf (off+11);have f12:=hf (off+12);have f13:=hf (off+13);refine TS.one (i:=8) zd rfl (fun K1 hK1=>?_)
 go_wp2_with fail
 refine hK1 _ _ (fun h=>absurd zf h) (TS.done zd ?_);clear hK1 K1 hS
 go_wp2_with fail
 go_returns
 have U0:Upd (fun k=>k=N) w2 w2 N off _:=Upd.refl (HT.out.same fun o=>World.cell?_of_block (a:=⟨N,o,none⟩) (HW.out.below.block N hN));have U1:=((((((((((((((U0).set 0 (.bool true) ze rfl).set 1 (.slice va vl vc) ze rfl).set 2 (.bool b0) ze rfl).set 3 (.bool b1) ze rfl).set 4 (.bool b2) ze rfl).set 5 (.bool b3) ze rfl).set 6 (.bool b4) ze rfl).set 7 (.bool b5) ze rfl).set 8 (.bool b6) ze rfl).set 9 (.bool b7) ze rfl).set 10 (.bool b8) ze rfl).set 11 (.bool b9) ze rfl).set 12 (.bool b10) ze rfl).set 13 (.bool b11) ze rfl;simp only [Nat.add_zero,set_cons_zero,set_cons_succ]at U1;have U2:=fun W (hg:World.Grows _ W)=>U1.grows hN2 hg;refine⟨rfl,va,vl,vc,Upd.pre HW.out hN (U2 _ af),aV.row (U2 _ af).mods HO.out fun k hk e=>?_⟩;subst e;have:=(HO.out.lt _ hk).1;omega
theorem oH{w:World}{B n:Nat}{g cap:Nat}{xs:List Int}(h:w.ownsRow B 3 1 (.slice (some ⟨g,0,none⟩) n cap) n (xs.map (Value.int .i64)))(j:Nat)(hj:j<xs.length):w.cell? ⟨g,0+j,none⟩=some (.int .i64 (xs.getD j 0)):=by
 have hn:xs.length=n:=by have:=h.1;simpa using this
 rw [Nat.zero_add,h.cellAt j zb,getElem?_map,getD_eq_getElem?_getD,getElem?_eq_getElem hj];rfl
theorem EM{w:World}{B B':Nat}{v1 v2:Value}{xs ys:List Int}(h1:w.ownsRow B 3 1 v1 xs.length (xs.map (Value.int .i64)))(h2:w.ownsRow B' 3 1 v2 ys.length (ys.map (Value.int .i64)))(hx:xs.length<=1000)(hy:ys.length<=1000) :
 Calls prog 173 #[v1,v2] w fun e w'=>e= .returned (.bool (decide (xs=ys)))/\w.Grows w':=by
 obtain⟨a1,c1,rfl,hg1⟩:∃a c,v1= .slice a xs.length c/\(xs.length=0\/∃g,a=some ⟨g,0,none⟩):=by
  rcases fU h1 with ⟨rfl,e⟩|⟨g,cap,rfl,-⟩
  ·exact⟨none,0,by rw [e],.inl e⟩
  ·exact⟨_,_,rfl,.inr ⟨g,rfl⟩⟩
 obtain⟨a2,c2,rfl,hg2⟩:∃a c,v2= .slice a ys.length c/\(ys.length=0\/∃g,a=some ⟨g,0,none⟩):=by
  rcases fU h2 with ⟨rfl,e⟩|⟨g,cap,rfl,-⟩
  ·exact⟨none,0,by rw [e],.inl e⟩
  ·exact⟨_,_,rfl,.inr ⟨g,rfl⟩⟩
 by_cases hl:xs.length=ys.length
 ·by_cases h0:xs.length=0
  ·have e1:xs= []:=eq_nil_of_length_eq_zero h0;have e2:ys= []:=eq_nil_of_length_eq_zero zb;subst e1 e2;refine gw (slices_Equal_int_empty a1 a2 c1 0 c2 w zb) ?_;exact⟨rfl,.refl _⟩
  ·rcases hg1 with e|⟨g1,rfl⟩
   ·omega
   rcases hg2 with e|⟨g2,rfl⟩
   ·omega
   refine(slices_Equal_int g1 0 xs.length c1 g2 0 ys.length c2 xs ys w (Nat.le_refl _) (Nat.le_refl _) zb zb (oH h1) (oH h2)).mono ?_;rintro e w' ⟨rfl,q,rfl⟩;refine⟨?_,.of_below ⟨rfl,rfl,rfl,Nat.le_refl _,fun _ _=>rfl⟩⟩;rw [take_length,take_length]
   congr 2
   rw [Bool.eq_iff_iff];simp
 ·refine gw (slices_Equal_int_lens a1 a2 _ c1 _ c2 w hl) ?_;exact⟨by rw [decide_eq_false (fun e=>hl (by rw [e]))],.refl _⟩
def nG(t bs:List Bool)(k:Nat):List Bool:=(List.range 12).map fun j=>if j<k then t.getD j false&&bs.getD j false else t.getD j false
theorem sI(t bs:List Bool)(k:Nat):(nG t bs k).length=12:=by simp [nG]
theorem lM(t bs:List Bool)(k:Nat){j:Nat}(hj:j<12):(nG t bs k)[j]? =some (if j<k then t.getD j false&&bs.getD j false else t.getD j false):=by
 simp [nG,hj]
theorem Hw{t:List Bool}(bs:List Bool)(h:t.length=12):nG t bs 0=t:=by
 refine ext_getElem? fun j=>?_;by_cases hj:j<12
 ·rw [lM _ _ _ hj,if_neg zb,getD_eq_getElem?_getD,getElem?_eq_getElem zb];rfl
 ·rw [getElem?_eq_none yG,getElem?_eq_none zb]
theorem KS{t bs:List Bool}(h:t.length=12)(h':bs.length=12):nG t bs 12=zipWith (· && ·) t bs:=by
 refine ext_getElem? fun j=>?_;by_cases hj:j<12
 ·rw [lM _ _ _ hj,if_pos hj,getElem?_zipWith,getD_eq_getElem?_getD,getD_eq_getElem?_getD,getElem?_eq_getElem zb,getElem?_eq_getElem zb];rfl
 ·rw [getElem?_eq_none yG,getElem?_eq_none zg]
theorem Hy(t bs:List Bool){k:Nat}(hk:k<12):(nG t bs k).set k (t.getD k false&&bs.getD k false)=nG t bs (k+1):=by
 refine ext_getElem? fun j=>?_;rw [getElem?_set,sI];by_cases hj:j<12
 ·rw [lM _ _ _ hj,lM _ _ _ hj];by_cases e:k=j
  ·subst e;rw [if_pos rfl,if_pos hk,if_pos zb]
  ·rw [if_neg e];exact P7
 ·rw [if_neg zb,getElem?_eq_none yG,getElem?_eq_none yG]
def SI(N off:Nat)(v1:Value)(t:List Int × List Bool)(zs:List Int)(bs:List Bool)(w:World)(e:Ending)(w':World):Prop:=
 e= .returned (.bool (decide (t.1=zs)))/\Upd (fun k=>k=N) w w' N off (.bool true::v1::(zipWith (· && ·) t.2 bs).map .bool)
theorem Upd.drew{P:Nat->Prop}{N off:Nat}{L:List Value}{w w':World}(h:Upd P w w' N off L):Upd P w w'.drew N off L:=⟨⟨h.mods.os,h.mods.tape,h.mods.output,h.mods.size,h.mods.block⟩,h.cells,h.out,h.frz⟩
theorem Fq{P:Nat->Prop}{N off k:Nat}{v1:Value}{t bs:List Bool}{c:Bool}{w wr:World}(h:Upd P w wr N off (.bool true::v1::(nG t bs k).map .bool))(hk:k<12)(hs:(nG t bs k).set k c=nG t bs (k+1))(hP:P N):Upd P w (wr.setCell ⟨N,off+2+k,none⟩ (.bool c)) N off (.bool true::v1::(nG t bs (k+1)).map .bool):=by
 have h1:=h.set (2+k) (.bool c) (by simp [sI];omega) hP
 have e:(Value.bool true::v1::(nG t bs k).map .bool).set (2+k) (.bool c)=Value.bool true::v1::(nG t bs (k+1)).map .bool:=by
  rw [Nat.add_comm,set_cons_succ,set_cons_succ,<-hs,map_set]
 rw [e,<-Nat.add_assoc]at h1;exact h1
theorem Ib(N off B B':Nat)(t:List Int × List Bool)(zs:List Int)(v1 v2:Value)(w:World)(r b0 b1 b2 b3 b4 b5 b6 b7 b8 b9 b10 b11:Bool)(hN:N<w.heap.size)(hT:StC w N off true v1 t.2)(hf:∀i,w.frozen? ⟨N,i,none⟩=false)
 (h1:w.ownsRow B 3 1 v1 t.1.length (t.1.map (Value.int .i64))) (h2:w.ownsRow B' 3 1 v2 zs.length (zs.map (Value.int .i64))) (hl1:t.1.length<=1000) (hl2:zs.length<=1000) (hn1:v1.ownBlock≠some N) (hn2:v2.ownBlock≠some N) :
 Calls prog 126 #[.pointer (some ⟨N,off,none⟩),.agg #[.bool r,v2,.bool b0,.bool b1,.bool b2,.bool b3,.bool b4,.bool b5,.bool b6,.bool b7,.bool b8,.bool b9,.bool b10,.bool b11]] w (SI N off v1 t zs [b0,b1,b2,b3,b4,b5,b6,b7,b8,b9,b10,b11] w):=by
 have HEQ:Hid (∀w',aV (fun k=>k=N) w w'->Calls prog 173 #[v1,v2] w' fun e w''=>e= .returned (.bool (decide (t.1=zs)))/\w'.Grows w''):=yq (fun w' hm=>EM (hm.row h1 fun k hk e=>hn1 (e ▸ hk)) (hm.row h2 fun k hk e=>hn2 (e ▸ hk)) hl1 hl2);have c0:w.cell? ⟨N,off,none⟩=some (.bool true):=hT.2 0 _ rfl;obtain⟨bs,hbs⟩:∃bs:List Bool,[b0,b1,b2,b3,b4,b5,b6,b7,b8,b9,b10,b11]=bs:=⟨_,rfl⟩;have hbl:bs.length=12:=by rw [<-hbs];rfl
 have HT0:=yq hT;have HF:=yq hf
 have HBC:Hid (∀j,j<12->([Value.bool r,v2,.bool b0,.bool b1,.bool b2,.bool b3,.bool b4,.bool b5,.bool b6,.bool b7,.bool b8,.bool b9,.bool b10,.bool b11])[2+j]? =some (.bool (bs.getD j false))):=yq (fun j hj=>by
  rw [<-hbs]
  rcases(by omega:j=0\/j=1\/j=2\/j=3\/j=4\/j=5\/j=6\/j=7\/j=8\/j=9\/j=10\/j=11)with rfl|rfl|rfl|rfl|rfl|rfl|rfl|rfl|rfl|rfl|rfl|rfl<;>rfl)
 rw [hbs];have HBL:=yq hbl;have HTL:=yq hT.1;clear hT hf h1 h2 hbs hbl hl1 hl2 hn1 hn2;unfold SI
 go_enter func126,ntmps126
 go_wp2_with fail
 go_loopw [19] (fun v19 wr=>∃k:Nat,k<=12/\v19= .int .i64 k/\Upd (fun k=>k=N) w wr N off (.bool true::v1::(nG t.2 bs k).map .bool)/\bu wr w.heap.size 0 [.bool r,v2,.bool b0,.bool b1,.bool b2,.bool b3,.bool b4,.bool b5,.bool b6,.bool b7,.bool b8,.bool b9,.bool b10,.bool b11]/\w.heap.size<wr.heap.size) (fun v19 _=>12-(intOf v19).toNat)
 case atStart=>
  refine⟨0,by omega,rfl, ?_,fun i u hu=>?_,by simp⟩
  ·rw [Hw _ HTL.out];exact(Upd.refl HT0.out.2).grows hN af
  ·rw [Nat.zero_add,cell_of_row _ _ _ _ _ _ (heap_alloc_new w _)];simpa using hu
 case round=>
  obtain⟨k,hk,rfl,hu,hbx,hsz⟩:=hrel;have HU:=yq hu;have HBX:=yq hbx;have q0:wr.cell? ⟨N,off,none⟩=some (.bool true):=hu.cells 0 _ rfl;have q1:wr.cell? ⟨N,off+1,none⟩=some v1:=hu.cells 1 _ rfl;have x1:wr.cell? ⟨w.heap.size,1,none⟩=some v2:=hbx 1 _ rfl;have hNr:N<wr.heap.size:=Nat.lt_of_lt_of_le hN hu.mods.size;by_cases hlt:k<12
  ·have d1:(k:Int)<12:=by omega
   have qk:wr.cell? ⟨N,off+2+k,none⟩=some (.bool (t.2.getD k false)):=by
    have:=hu.cells (2+k) (.bool (t.2.getD k false)) (by
     rw [Nat.add_comm,getElem?_cons_succ,getElem?_cons_succ,getElem?_map,lM _ _ _ hlt,if_neg zb];rfl)
    rw [<-Nat.add_assoc]at this;exact this
   have xk:wr.cell? ⟨w.heap.size,2+k,none⟩=some (.bool (bs.getD k false)):=by
    have:=hbx _ _ (HBC.out k hlt);rw [Nat.zero_add]at this;exact this
   have fk:wr.frozen? ⟨N,off+2+k,none⟩=false:=(hu.frz _).trans (HF.out _);have HS:=yq (Hy t.2 bs hlt);have HK:=yq hlt;have hNX:N≠w.heap.size:=by omega
   have hNX':w.heap.size≠N:=by omega
   clear hu hbx;obtain⟨y,hy⟩:∃y,t.2.getD k false=y:=⟨_,rfl⟩;obtain⟨z,hz⟩:∃z,bs.getD k false=z:=⟨_,rfl⟩;rw [hy]at qk HS;rw [hz]at xk HS;clear hy hz hlt
   cases y with
   |true=>
    go_wp2_with fail
    refine TS.begin [17] (World.Grows wr) zd zd aj (fun hS=>?_);refine kq 0 hS ?_;refine kq 1 hS ?_;refine kq 2 hS ?_;refine kq 3 hS ?_;refine kq 4 hS ?_;refine kq 5 hS ?_;refine kq 6 hS ?_;refine kq 7 hS ?_;refine kq 8 hS ?_;refine kq 9 hS ?_;refine kq 10 hS ?_;refine kq 11 hS ?_;refine kq 12 hS ?_;refine kq 13 hS ?_;refine kq 14 hS ?_;refine kq 15 hS ?_;refine kq 16 hS ?_;refine TS.weB 17 ?_;clear hS
    go_wp2_with fail
    go_roundw
    case rel=>exact⟨k+1,HK.out,by go_num,(Fq HU.out HK.out HS.out rfl).drew,HBX.out.other _ (.inl hNX),by simp [World.setCell];exact hsz⟩
    case measure=>simp [intOf];have:=HK.out;omega
   |false=>
    go_wp2_with fail
    refine TS.begin [17] (World.Grows wr) zd zd aj (fun hS=>?_);refine kq 0 hS ?_;refine kq 1 hS ?_;refine kq 2 hS ?_;refine kq 3 hS ?_;refine kq 4 hS ?_;refine kq 5 hS ?_;refine kq 6 hS ?_;refine kq 7 hS ?_;refine kq 8 hS ?_;refine TS.take (i:=9) (v:=undef) rfl zd zd zd zf (fun _ _ _ h=>h) (.inl ⟨rfl,rfl⟩) hS ?_
    (try simp only [nS])
    refine TS.take (i:=10) (v:=undef) rfl zd zd zd zf (fun _ _ _ h=>h) (.inl ⟨rfl,rfl⟩) hS ?_
    (try simp only [nS])
    refine TS.take (i:=11) (v:=undef) rfl zd zd zd zf (fun _ _ _ h=>h) (.inl ⟨rfl,rfl⟩) hS ?_
    (try simp only [nS])
    refine TS.take (i:=12) (v:=undef) rfl zd zd zd zf (fun _ _ _ h=>h) (.inl ⟨rfl,rfl⟩) hS ?_
    (try simp only [nS])
    refine kq 13 hS ?_;refine kq 14 hS ?_;refine kq 15 hS ?_;refine kq 16 hS ?_;refine TS.weB 17 ?_;clear hS
    go_wp2_with fail
    go_roundw
    case rel=>exact⟨k+1,HK.out,by go_num,(Fq HU.out HK.out HS.out rfl).drew,HBX.out.other _ (.inl hNX),by simp [World.setCell];exact hsz⟩
    case measure=>simp [intOf];have:=HK.out;omega
  ·obtain rfl:k=12:=by omega
   have HM:=yq hu.mods;rw [KS HTL.out HBL.out]at HU;have HQ:=yq (fun w' (hg:wr.Grows w')=>HEQ.out w' (HM.out.trans (.grows hg)));obtain⟨res,hres⟩:∃r,decide (t.1=zs)=r:=⟨_,rfl⟩;rw [hres]at HQ;have HR:=yq hres;clear hres HEQ;have HP:Hid (∀w',wr.Grows w'->Upd (fun k=>k=N) w w' N off (.bool true::v1::(zipWith (· && ·) t.2 bs).map .bool)):=yq (fun w' hg=>HU.out.grows hN hg);clear hlt hk hbx hu
   go_wp2_with fail
   refine TS.begin [7] (World.Grows wr) zd zd aj (fun hS=>?_);refine kq 0 hS ?_;refine kq 1 hS ?_;refine kq 2 hS ?_;refine kq 3 hS ?_;refine kq 4 hS ?_;refine kq 5 hS ?_;refine TS.one (i:=6) zd rfl (fun K1 hK1=>?_);have HK1:=yq hK1;clear hK1 hS;dsimp only [getElem_toArray,getElem_cons_succ,getElem_cons_zero]
   go_simp
   go_at_call 173
   refine(HQ.out _ af).mono ?_;rintro e' w2 ⟨rfl,hg2⟩;refine TS.go HK1.out (gqq af hg2) (fun hS=>?_);clear HK1 K1
   (try simp only [nS])
   refine TS.weB 7 ?_;clear hS
   go_wp2_with fail
   go_returns
   exact⟨by rw [HR.out];rfl,HP.out _ (gqq af hg2)⟩
theorem je{w:World}{B B' size n:Nat}{e:TypeId}{v:Value}{xs:List Value}(h:w.ownsRow B e size v n xs)(hb:B'<=B):w.ownsRow B' e size v n xs:=⟨h.1,h.2.imp id fun⟨g,cap,cur,hv,hbb,rest⟩=>⟨g,cap,cur,hv,Nat.le_trans hb hbb,rest⟩⟩
theorem ES{w:World}{B:Nat}{v:Value}{zs:List Int}(h:w.ownsRow B 3 1 v zs.length (zs.map (Value.int .i64)))(hl:zs.length<=1000)(hN:Nat)(hNs:hN<w.heap.size)(base:Nat)(hb:base<=w.heap.size) :
 Calls prog 172 #[v] w fun e w'=>∃va vl vc,e= .returned (.slice va vl vc)/\w.Grows w'/\w'.ownsRow base 3 1 (.slice va vl vc) zs.length (zs.map (Value.int .i64)):=by
 rcases fU h with ⟨rfl,h0⟩|⟨g,cap,rfl,-⟩
 ·refine gw (slices_Clone_int_nil 0 0 w) ?_;have:zs= []:=eq_nil_of_length_eq_zero h0;subst this;exact⟨_,_,_,rfl,.refl _,World.ownsRow_nil _ _ _ _⟩
 ·refine(slices_Clone_int g 0 zs.length cap zs w (Nat.le_refl _) zb (oH h)).mono ?_;rintro e w' ⟨v',rfl,ho,hne,hb'⟩;rw [take_length]at ho
  obtain⟨va,vl,vc,rfl⟩:∃va vl vc,v'= .slice va vl vc:=by
   rcases fU ho with ⟨rfl,-⟩|⟨g',cap',rfl,-⟩
   ·exact⟨_,_,_,rfl⟩
   ·exact⟨_,_,_,rfl⟩
  exact⟨_,_,_,rfl,.of_below hb',je ho hb⟩
def SK(N off B:Nat)(v1:Value)(o:Option (List Int × List Bool))(s:List Int × List Bool)(w:World)(e:Ending)(w':World):Prop:=
 ∃b,e= .returned (.bool b)/\aV (fun k=>k=N) w w'/\(∀i,i<off\/off+14<=i->w'.cell? ⟨N,i,none⟩=w.cell? ⟨N,i,none⟩)/\(∀i,w'.frozen? ⟨N,i,none⟩=w.frozen? ⟨N,i,none⟩)/\
  match Hz o s with
  |none=>b=false
  |some s'=>b=true/\∃v',StM w' N off v' (some s')/\w'.ownsRow B 3 1 v' s'.1.length (s'.1.map (Value.int .i64))/\((o≠none/\v'=v1)\/(o=none/\∀k,v'.ownBlock=some k->w.heap.size<=k))
theorem Ie(N off B B':Nat)(o:Option (List Int × List Bool))(s:List Int × List Bool)(v1 v2:Value)(w:World)(hN:N<w.heap.size)(hNB:N<B)(hB:B<=w.heap.size)(hT:StM w N off v1 o)(hf:∀i,w.frozen? ⟨N,i,none⟩=false)
 (h1:∀t,o=some t->w.ownsRow B 3 1 v1 t.1.length (t.1.map (Value.int .i64))/\t.1.length<=1000) (h2:w.ownsRow B' 3 1 v2 s.1.length (s.1.map (Value.int .i64))) (hl2:s.1.length<=1000) (hn2:v2.ownBlock≠some N) (hs:s.2.length=12) :
 ∀b0 b1 b2 b3 b4 b5 b6 b7 b8 b9 b10 b11,s.2= [b0,b1,b2,b3,b4,b5,b6,b7,b8,b9,b10,b11]->Calls prog 126 #[.pointer (some ⟨N,off,none⟩),.agg #[.bool true,v2,.bool b0,.bool b1,.bool b2,.bool b3,.bool b4,.bool b5,.bool b6,.bool b7,.bool b8,.bool b9,.bool b10,.bool b11]] w (SK N off B v1 o s w):=by
 intro b0 b1 b2 b3 b4 b5 b6 b7 b8 b9 b10 b11 hsb
 cases o with
 |none=>
  obtain⟨bs,hbl,hc⟩:=hT;obtain⟨s0,s1,s2,s3,s4,s5,s6,s7,s8,s9,s10,s11,rfl⟩:=twelve hbl
  obtain⟨a2,n2,k2,rfl⟩:∃a n k,v2= .slice a n k:=by
   rcases fU h2 with ⟨rfl,-⟩|⟨g,cap,rfl,-⟩
   ·exact⟨_,_,_,rfl⟩
   ·exact⟨_,_,_,rfl⟩
  refine(Ic N off s.1 a2 n2 k2 w true b0 b1 b2 b3 b4 b5 b6 b7 b8 b9 b10 b11 hN (.slice none 0 0) s0 s1 s2 s3 s4 s5 s6 s7 s8 s9 s10 s11 hc hf (yq fun w' hg=>ES (aV.row (P:=fun _=>False) (.grows hg) h2 fun _ _ e=>e) hl2 N (Nat.lt_of_lt_of_le hN hg.below.size) w.heap.size hg.below.size)).mono ?_;rintro e w' ⟨rfl,a,n,c,hu,hr⟩;refine⟨true,rfl,hu.mods,fun i hi=>hu.out i zG,hu.frz,rfl,_,⟨hs,by rw [hsb];exact hu.cells⟩,je hr hB,.inr ⟨rfl,fun k hk=>(hr.lt k hk).1⟩⟩
 |some t=>
  obtain⟨r1,hl1⟩:=h1 t rfl;have hn1:v1.ownBlock≠some N:=fun e=>by have:=(r1.lt N e).1;omega
  refine(Ib N off B B' t s.1 v1 v2 w true b0 b1 b2 b3 b4 b5 b6 b7 b8 b9 b10 b11 hN hT hf r1 h2 hl1 hl2 hn1 hn2).mono ?_;rintro e w' ⟨rfl,hu⟩;rw [<-hsb]at hu;have hz:(zipWith (· && ·) t.2 s.2).length=12:=by rw [length_zipWith,hT.1,hs];rfl
  refine⟨_,rfl,hu.mods,fun i hi=>hu.out i (by simp only [length_cons,length_map,hz];exact hi),hu.frz, ?_⟩;unfold Hz;by_cases e:t.1=s.1
  ·simp only [if_pos e];exact⟨decide_eq_true e,v1,⟨hz,hu.cells⟩,hu.mods.row r1 fun k hk q=>hn1 (q ▸ hk),.inl ⟨by simp,rfl⟩⟩
  ·simp only [if_neg e];exact decide_eq_false e
open Go.RowKit Go.Shelf Go.Sort Go.Lib
attribute [local go_sem] Oper.semAt_some
def ql(n₀:Nat)(W:World)(v:Value)(l:List Int):Prop:=
 l.length<=1000/\∃a cap,v= .slice a l.length cap/\(l.length=0\/∃b off,a=some ⟨b,off,none⟩/\b<n₀/\∀i,i<l.length->W.cell? ⟨b,off+i,none⟩=some (.int .i64 (l.getD i 0)))
theorem ql.below{n₀:Nat}{W W':World}{v:Value}{l:List Int}(h:ql n₀ W v l)(hb:Below n₀ W W'):ql n₀ W' v l:=by
 obtain⟨h0,a,cap,hv,h1⟩:=h;refine⟨h0,a,cap,hv,h1.imp id ?_⟩;rintro⟨b,off,ha,hlt,hc⟩;exact⟨b,off,ha,hlt,fun i hi=>(hb.cell (p:=⟨b,off+i,none⟩) hlt).trans (hc i hi)⟩
theorem bR.lies{w:World}{v:Value}{l:List Int}(h:bR w v l):ql w.heap.size w v l:=h
theorem DF(l:List Int)(k:Nat)(hk:k<l.length):l.take (k+1)=l.take k++[l.getD k 0]:=by
 exact Nc
theorem JU(F:Fence)(n:Nat)(hf:F.fn 180)(hro:F.round=none)(hn:1<=n)(l Bs n₀:Nat)(x:List Int)(v:Value)(J Jx:List Int->World->Prop)
 (hY:∀pre (i:Int) W,J pre W->pre.length<x.length->YieldAt F (n-1) prog l #[.int .i64 i] W fun e W'=>
  (e= .returned (.bool true)/\J (pre++[i]) W'/\Below n₀ W W')\/(e= .returned (.bool false)/\Jx (pre++[i]) W'))
 (W:World) (hBs:W.cell? ⟨Bs,0,none⟩=some v) (hBl:Bs<n₀) (hL:ql n₀ W v x) (h0:J [] W) :
 CallsIn F n prog 180 #[.func (.yield l) #[] #[],.pointer (some ⟨Bs,0,none⟩)] W fun e W'=>(∃v,e= .returned v)/\
  ((∃ys,ys=x/\J ys W')\/(∃pre,(∃k,k<x.length/\pre=x.take (k+1))/\Jx pre W')):=by
 have HL:=yq hL;obtain⟨h1000,a,cap,rfl,-⟩:=hL;refine callsIn_of_wp func180 rfl hf ?_ hro;simp only [ntmps180,size_toArray,length_cons,length_nil,Nat.reduceAdd,Nat.reduceSub,Array.replicate_succ,Array.replicate_zero,push_toArray,append_toArray,nil_append,cons_append]
 gi_wp2
 gi_loopw [7] (fun vi wr=>∃k:Nat,k<=x.length/\vi= .int .i64 k/\J (x.take k) wr/\Below n₀ W wr) (fun vi _=>x.length-(intOf vi).toNat)
 case atStart=>exact⟨0,Nat.zero_le _,rfl,h0,Below.refl _ _⟩
 case round=>
  obtain⟨k,hk,rfl,hJs,hnx⟩:=hrel;by_cases hlt:k<x.length
  ·have hLr:=HL.out.below hnx;obtain⟨-,a',cap',hv,hx⟩:=hLr;simp only [Value.slice.injEq,true_and]at hv;obtain⟨rfl,rfl⟩:=hv;rcases hx with hx|⟨b,off,rfl,hb,hx⟩
   ·omega
   have q0:=hx k hlt;obtain⟨fn,tmps,assign,body,hy,hR⟩:=hY _ (x.getD k 0) wr hJs (by rw [length_take];omega);have HS:=yq (DF x k hlt);generalize x.getD k 0=z0 at *;have d1:(k:Int)<(x.length:Int):=by omega
   have hlen1:(x.length:Int)<=1000:=by omega
   clear hx hBs h0
   gi_wp2
   refine hR.mono ?_;rintro e W3 (⟨rfl,hJ3,hk3⟩|⟨rfl,hJx3⟩)
   ·gi_wp2
    go_roundw
    case rel=>exact⟨k+1,by omega,by go_num,by rw [HS.out];exact hJ3,hnx.trans hk3⟩
    case measure=>simp [intOf];omega
   ·gi_wp2
    refine bodyPost_ret (results_none rfl _ _ _) rfl ?_;exact⟨⟨_,rfl⟩,.inr ⟨_,⟨k,hlt,HS.out.symm⟩,hJx3⟩⟩
  ·obtain rfl:k=x.length:=by omega
   gi_wp2
   go_end0
   exact⟨⟨_,rfl⟩,.inl ⟨_,take_length,hJs⟩⟩
theorem MX(F:Fence)(n:Nat)(hf:F.fn 131)(hro:F.round=none)(a:Option Addr)(len cap:Nat)(w:World) :
 CallsIn F n prog 131 #[.slice a len cap] w fun e w'=>e= .returned (.func (.func 180) #[] #[.pointer (some ⟨w.heap.size,0,none⟩)])/\w'=w.alloc (.cells #[.slice a len cap] 22):=by
 refine callsIn_of_wp func131 rfl hf ?_ hro;simp only [ntmps131,size_toArray,length_cons,length_nil,Nat.reduceAdd,Nat.reduceSub,Array.replicate_succ,Array.replicate_zero,push_toArray,append_toArray,nil_append,cons_append]
 gi_wp2
 go_ret
 exact⟨rfl,rfl⟩
theorem DC(F:Fence)(n:Nat)(hf:F.fn 180)(hro:F.round=none)(hn:1<=n)(Bs n₀:Nat)(v:Value)(x:List Int)(w:World)(hBs:Bs<n₀)(hn₀:n₀<=w.heap.size)
 (hc:w.cell? ⟨Bs,0,none⟩=some v) (hL:ql n₀ w v x) :
 SeqStopsK F n prog 180 #[.pointer (some ⟨Bs,0,none⟩)] (fun i:Int=>#[Value.int .i64 i]) (Below n₀) (fun ys=>ys=x) (fun pre=>∃k,k<x.length/\pre=x.take (k+1)) x.length w:=fun l J Jx W hW _ _ hY h0=>
 JU F n hf hro hn l Bs n₀ x v J Jx hY W ((hW.cell (p:=⟨Bs,0,none⟩) (by show Bs<w.heap.size;omega)).trans hc) hBs (hL.below (hW.mono hn₀)) h0
theorem Cq:(prog.info? 3).map (fun i=>(i.zero,i.size,i.bytes))=some (some (.int .i64 0),1,8):=by kernel_rfl
theorem Pm(x:List Int)(v:Value)(Bs:Nat)(w:World)(hb:Bs<w.heap.size)(hc0:w.cell? ⟨Bs,0,none⟩=some v)(hL:bR w v x) :
 CallsIn Fence.wide 5 prog 213 #[.slice none 0 0,.func (.func 180) #[] #[.pointer (some ⟨Bs,0,none⟩)]] w fun e W'=>
  ∃v',e= .returned v'/\W'.ownsRow w.heap.size 3 1 v' x.length (x.map (Value.int .i64))/\Below w.heap.size w W':=by
 obtain⟨i0,hi,hz0,hz1,hz2⟩:=info_parts Cq;have h1000:=hL.1;refine callsIn_of_wp_marks func213 rfl trivial ?_ rfl;simp only [ntmps213,size_toArray,length_cons,length_nil,Nat.reduceAdd,Nat.reduceSub,Array.replicate_succ,Array.replicate_zero,push_toArray,append_toArray,nil_append,cons_append]
 gi_wp2
 have bO:=Boxed.new w 22 (.slice none 0 0);have hB0:Below w.heap.size w (w.alloc (.cells #[.slice none 0 0] 22)):=(Below.refl _ w).alloc (Nat.le_refl _) _
 refine wpIn_rangeFunc_ownG (F:=Fence.wide) rfl zb (gf:=180) (lb:=#[.pointer (some ⟨Bs,0,none⟩)]) rfl trivial (enters_of func180 zd rfl)
  (DC Fence.wide 4 trivial rfl zb Bs w.heap.size v x _ hb ze ((hB0.cell (p:=⟨Bs,0,none⟩) hb).trans hc0) (hL.lies.below hB0)) belowK_t (belowK_b ze) (Below.refl _ _) (fun _=>rfl)
  (fun pre W=>(∃v,Boxed W w.heap.size 22 v/\W.ownsRow w.heap.size 3 1 v pre.length (pre.map (Value.int .i64))/\True)/\Below w.heap.size w W)
  (fun _ _ _=>False)
  (OwnFrom.and (Own.from (holdsRow_own w.heap.size w.heap.size 22 3 1 (fun pre:List Int=>pre.length) (fun pre=>pre.map (Value.int .i64)) (fun _ _=>True)) _) (ownFrom_below (Nat.le_refl _) ze))
  (fun _ _ _ _ _ hs _ _=>hs)
  ⟨⟨_,bO,World.ownsRow_nil _ _ _ _,trivial⟩,hB0⟩
  (fun z=>{tmps:=#[.slice none 0 0,.func (.func 180) #[] #[.pointer (some ⟨Bs,0,none⟩)],.pointer (some ⟨w.heap.size,0,none⟩),undef,.slice none 0 0,.int .i64 z,.func (.func 180) #[] #[.pointer (some ⟨Bs,0,none⟩)],.int .i64 z,undef,undef,undef,undef,undef],defers:=[]}) ?assign ?body ?done ?stop
 case assign=>
  intro l z W K hK
  gi_wp2
  exact hK
 case body=>
  rintro l pre z W ⟨⟨v2,hv,hrow,-⟩,hB⟩ hlt;have hc:=hv.cell
  gi_wp2_with (gi_at_builtin;refine wpListIn_append_own _ rfl _ _ 22 rfl w.heap.size 3 i0 (.int .i64 0) 1 8 underlying22 hi hz0 hz1 hz2 rfl zf _ _ _ rfl (hrow.alloc _) ⟨W.heap.size,0,none⟩ 1 1 [.int .i64 z] rfl rfl (cell_one_new _ _ _) (by simp [Value.oneCell']) zu zb (by have:=hB.size;simp;omega) ?_;intro v' w1 hown' hgrow _;obtain⟨g',cap',rfl⟩:=ownsRow_succ hown';obtain⟨hv1,hv2,hr2,hk2,hb2⟩:=hv.appended zf hrow hB.size (Nat.le_refl _) hown' hgrow;have hc1:=hv1.cell;have hf1:=hv1.frozen)
  exact⟨hk2.from _,hb2,⟨_,hv2,by simpa using hr2,trivial⟩,hB.trans hb2⟩
 case done=>
  rintro D ys W hD rfl ⟨⟨v2,hv,hrow,-⟩,hB⟩ hK;have hc:=hv.cell
  gi_wp2
  refine⟨by simp,.inl ⟨_,_,rfl,run_takeDeferred hK, ?_⟩⟩;exact⟨_,results_tmp rfl _ _ _,v2,rfl,ownsRow_putObj hrow _ hK rfl,hB.trans (belowK_b (w:=w) (Nat.le_refl _) W D _ _ (by simp at hD;omega) hK rfl rfl)⟩
 case stop=>
  rintro D c pre W _ _ h _;exact h.elim
theorem qP{w:World}{base g n cap:Nat}{e:TypeId}{zs:List Int}(h:w.ownsRow base e 1 (.slice (some ⟨g,0,none⟩) n cap) n (zs.map (Value.int .i64))) :
 ∃cur,zs.length=n/\base<=g/\w.heap[g]? =some (.cells cur e (0,0))/\n<=cap/\cap<=maxLen/\cur.size=cap*1/\cur.toList.take n=zs.map (Value.int .i64):=by
 obtain⟨h0,h1|⟨g',cap',cur,hv,hb,hg,h2,h3,h4,h5⟩⟩:=h
 ·cases h1.1
 ·simp only [Value.slice.injEq,Option.some.injEq,Addr.mk.injEq,and_true,true_and]at hv;obtain⟨rfl,rfl⟩:=hv;exact⟨cur,by simpa using h0,hb,hg,h2,h3,h4,by simpa using h5⟩
theorem Gu{base g cap:Nat}{zs:List Int}{w:World}(h:w.ownsRow base 3 1 (.slice (some ⟨g,0,none⟩) zs.length cap) zs.length (zs.map (Value.int .i64)))(hl:zs.length<=1000) :
 Calls prog 179 #[.slice (some ⟨g,0,none⟩) zs.length cap] w fun e w'=>e= .returned (.tuple #[])/\w.grownBy w' (some g)/\
  w'.ownsRow base 3 1 (.slice (some ⟨g,0,none⟩) zs.length cap) zs.length ((zs.mergeSort fun x y=>decide (x<=y)).map (Value.int .i64)):=by
 obtain⟨cur,-,hb,hg,h2,h3,h4,h5⟩:=qP h;refine(slices_Sort_int g 0 cap zs w (holds_of_blockI hg h5) (Array.getElem?_eq_some_iff.1 hg).1 zb).mono ?_;rintro e w' ⟨rfl,n,os,rfl⟩;exact⟨rfl,grownBy_sortedI _,ownsRow_sortedI ze hb hg h2 h3 h4⟩
theorem dP{w:World}{B:Nat}{v:Value}{zs:List Int}(h:w.ownsRow B 3 1 v zs.length (zs.map (Value.int .i64))):∃a c,v= .slice a zs.length c:=by
 exact Rn
theorem fF{w:World}{B:Nat}{v:Value}{xs:List Int}(h:w.ownsRow B 3 1 v xs.length (xs.map (Value.int .i64))):∃a c,v= .slice a xs.length c/\(xs.length=0\/∃g,a=some ⟨g,0,none⟩/\g<w.heap.size/\∀j,j<xs.length->w.cell? ⟨g,j,none⟩=some (.int .i64 (xs.getD j 0))):=by
 rcases fU h with ⟨rfl,e⟩|⟨g,cap,rfl,-,hg,-⟩
 ·exact⟨none,0,by rw [e],.inl e⟩
 ·exact⟨_,_,rfl,.inr ⟨g,rfl,hg,fun j hj=>by have:=oH h j hj;rwa [Nat.zero_add]at this⟩⟩
theorem Gz{w:World}{B B':Nat}{v1 v2:Value}{xs ys:List Int}(h1:w.ownsRow B 3 1 v1 xs.length (xs.map (Value.int .i64)))(h2:w.ownsRow B' 3 1 v2 ys.length (ys.map (Value.int .i64)))(hl:xs.length<=1000) :
 Calls prog 114 #[v1,v2] w fun e w'=>e= .returned (.bool (decide (xs=ys)))/\w.Grows w':=by
 obtain⟨a1,c1,rfl,hg1⟩:=fF h1;obtain⟨a2,c2,rfl,hg2⟩:=fF h2;clear h1 h2;by_cases hle:xs.length=ys.length
 case neg=>
  have HR:Hid (decide (xs=ys)=false):=yq (decide_eq_false (fun e=>hle (by rw [e])));generalize xs.length=p at *;generalize ys.length=q at *;have hne:((p:Int)==(q:Int))=false:=by simp;omega
  have hne2:((p:Int)!=(q:Int))=true:=by simp;omega
  clear hg1 hg2 hle
  go_enter func114,ntmps114
  go_wp2_with fail
  go_returns
  exact⟨by rw [HR.out];rfl,.refl _⟩
 have H1:=yq hg1;have H2:=yq hg2;have HL:=yq hle;rw [<-hle];clear hg1 hg2 hle;obtain⟨p,hp⟩:∃p,xs.length=p:=⟨_,rfl⟩;rw [hp]at H1 HL hl ⊢;rw [<-HL.out]at H2;have HP:=yq hp;clear hp
 go_enter func114,ntmps114
 go_wp2_with fail
 go_loopw [5] (fun v5 wr=>∃k:Nat,k<=p/\v5= .int .i64 k/\w.Grows wr/\Hid (∀j,j<k->xs.getD j 0=ys.getD j 0)) (fun v5 _=>p-(intOf v5).toNat)
 case atStart=>exact⟨0,by omega,rfl,.refl _,yq (fun j hj=>by omega)⟩
 case round=>
  obtain⟨k,hk,rfl,hg,HE⟩:=hrel;have HG:=yq hg;by_cases hlt:k<p
  ·rcases H1.out with h0|⟨g1,rfl,hs1,x1⟩
   ·omega
   rcases H2.out with h0|⟨g2,rfl,hs2,x2⟩
   ·omega
   have y1:=(World.cell?_of_block (a:=⟨g1,k,none⟩) (hg.below.block g1 hs1)).trans (x1 k hlt);have y2:=(World.cell?_of_block (a:=⟨g2,k,none⟩) (hg.below.block g2 hs2)).trans (x2 k hlt);have d1:(k:Int)<(p:Int):=by omega
   have d0:(0:Int)<=(k:Int):=by omega
   have hs1':g1<wr.heap.size:=by have:=hg.below.size;omega
   have hs2':g2<wr.heap.size:=by have:=hg.below.size;omega
   have HLT:=yq hlt;obtain⟨a,ha⟩:∃a,xs.getD k 0=a:=⟨_,rfl⟩;obtain⟨b,hb⟩:∃b,ys.getD k 0=b:=⟨_,rfl⟩;rw [ha]at y1;rw [hb]at y2;have HAB:=yq (And.intro ha hb);clear hg x1 x2 ha hb hlt;by_cases hab:a=b
   ·have HN:Hid (∀j,j<k+1->xs.getD j 0=ys.getD j 0):=yq (fun j hj=>by
     by_cases e:j=k
     ·subst e;rw [HAB.out.1,HAB.out.2,hab]
     ·exact HE.out j zb)
    subst hab
    go_wp2_with fail
    go_region
    go_wp2_with fail
    go_roundw
    case rel=>exact⟨k+1,HLT.out,by go_num,gqq HG.out af,HN⟩
    case measure=>simp [intOf];have:=HLT.out;omega
   ·have HR:Hid (decide (xs=ys)=false):=yq (decide_eq_false (fun e=>hab (by rw [<-HAB.out.1,<-HAB.out.2,e])));have hab1:(a==b)=false:=by simpa using hab
    have hab2:(a !=b)=true:=by simpa using hab
    clear hab
    go_wp2_with fail
    go_region
    go_wp2_with fail
    go_returns
    exact⟨by rw [HR.out];rfl,gqq HG.out af⟩
  ·obtain rfl:k=p:=by omega
   have HR:Hid (decide (xs=ys)=true):=yq (decide_eq_true (ext_getElem (by rw [HP.out,HL.out]) fun j h1 h2=>by
    have:=HE.out j (by rw [HP.out]at h1;omega);rw [getD_eq_getElem?_getD,getD_eq_getElem?_getD,getElem?_eq_getElem h1,getElem?_eq_getElem h2]at this
    simpa using this))
   clear hlt hk hg
   go_wp2_with fail
   go_returns
   exact⟨by rw [HR.out];rfl,gqq HG.out af⟩
def StN(w:World)(N off:Nat)(vs vl:Value):Option (List Int × List Int)->Prop
 |none=>bu w N off [.bool false,.slice none 0 0,.slice none 0 0]
 |some _=>bu w N off [.bool true,vs,vl]
structure mf(n NS m:Nat)(W0:World)(T:List (Option (List Int × List Int)))(Rs Rl:Nat->Value)(w:World):Prop where
 sz:NS<w.heap.size
 lo:Below NS W0 w
 len:T.length=n+1
 st:∀j,j<=n->StN w NS (j*3) (Rs j) (Rl j) (T.getD j none)
 sf:∀o,w.frozen? ⟨NS,o,none⟩=false
 row:∀j t,T.getD j none=some t->w.ownsRow (NS+1) 3 1 (Rs j) t.1.length (t.1.map (Value.int .i64))/\w.ownsRow (NS+1) 3 1 (Rl j) t.2.length (t.2.map (Value.int .i64))/\t.1.length<=24/\t.2.length=m/\(∀z∈t.1,1<=z)/\(∀z∈t.2,0<=z)
 dl:∀j k t u g,j≠k->T.getD j none=some t->T.getD k none=some u->(Rl j).ownBlock=some g->(Rl k).ownBlock≠some g
 ds:∀j k t u g,T.getD j none=some t->T.getD k none=some u->(Rl j).ownBlock=some g->(Rs k).ownBlock≠some g
def MnP(N off:Nat)(zs ls:List Int)(w:World)(e:Ending)(w':World):Prop:=
 e= .returned (.bool true)/\∃v1 v2,Upd (fun k=>k=N) w w' N off [.bool true,v1,v2]/\w'.ownsRow w.heap.size 3 1 v1 zs.length (zs.map (Value.int .i64))/\w'.ownsRow w.heap.size 3 1 v2 ls.length (ls.map (Value.int .i64))/\∀g,v1.ownBlock=some g->v2.ownBlock≠some g
theorem KZ(N off B B':Nat)(zs ls:List Int)(vz vl:Value)(w:World)(hN:N<w.heap.size)(hT:bu w N off [.bool false,.slice none 0 0,.slice none 0 0])(hf:∀i,w.frozen? ⟨N,i,none⟩=false)
 (hz:w.ownsRow B 3 1 vz zs.length (zs.map (Value.int .i64))) (hl:w.ownsRow B' 3 1 vl ls.length (ls.map (Value.int .i64))) (hzl:zs.length<=1000) (hll:ls.length<=1000) (hnz:vz.ownBlock≠some N) (hnl:vl.ownBlock≠some N) :
 Calls prog 55 #[.pointer (some ⟨N,off,none⟩),vz,vl] w (MnP N off zs ls w):=by
 have HT:=yq hT;have HF:=yq hf;have c0:w.cell? ⟨N,off,none⟩=some (.bool false):=hT 0 _ rfl;have c1:w.cell? ⟨N,off+1,none⟩=some (.slice none 0 0):=hT 1 _ rfl;have c2:w.cell? ⟨N,off+2,none⟩=some (.slice none 0 0):=hT 2 _ rfl;have f0:=hf off;have f1:=hf (off+1);have f2:=hf (off+2);have HZ:Hid (∀W,aV (fun k=>k=N) w W->W.ownsRow B 3 1 vz zs.length (zs.map (Value.int .i64))):=yq (fun W hm=>hm.row hz fun k hk e=>hnz (e ▸ hk));have HL:Hid (∀W,aV (fun k=>k=N) w W->W.ownsRow B' 3 1 vl ls.length (ls.map (Value.int .i64))):=yq (fun W hm=>hm.row hl fun k hk e=>hnl (e ▸ hk));have U1:Upd (fun k=>k=N) w (w.setCell ⟨N,off,none⟩ (.bool true)) N off [.bool true,.slice none 0 0,.slice none 0 0]:=(Upd.refl hT).set 0 _ ze rfl;have HU1:=yq U1;clear hz hl hT hf U1 hnz hnl
 go_enter func55,ntmps55
 go_wp2_with (at_builtin;refine eU rfl _ _ rfl (base:=w.heap.size) (A:=[]) rfl rfl (World.ownsRow_nil _ _ _ _) (HZ.out _ HU1.out.mods) ⟨by simp,hzl⟩ yC ?_)
 intro v1 w1 hv1 hg1;obtain⟨a1,k1,rfl⟩:=dP hv1;have hb1:∀k,k<w.heap.size->w1.heap[k]? =(w.setCell ⟨N,off,none⟩ (.bool true)).heap[k]?:=fun k hk=>hg1.block k (by simpa [World.setCell]using hk) zA;have hs1:w.heap.size<=w1.heap.size:=by have:=hg1.size;simpa [World.setCell]using this
 have hm1:aV (fun k=>k=N) (w.setCell ⟨N,off,none⟩ (.bool true)) w1:=⟨hg1.os,hg1.tape,hg1.output,hg1.size,fun k hk _=>hg1.block k hk zA⟩;have U2:=HU1.out.block hm1 (hb1 N hN);have d1:w1.cell? ⟨N,off+1,none⟩=some (.slice none 0 0):=U2.cells 1 _ rfl;have d2:w1.cell? ⟨N,off+2,none⟩=some (.slice none 0 0):=U2.cells 2 _ rfl;have e1:w1.frozen? ⟨N,off+1,none⟩=false:=(U2.frz _).trans f1;have e2:w1.frozen? ⟨N,off+2,none⟩=false:=(U2.frz _).trans f2;have hN1:N<w1.heap.size:=by omega
 have U3:Upd (fun k=>k=N) w (w1.setCell ⟨N,off+1,none⟩ (.slice a1 zs.length k1)) N off [.bool true,.slice a1 zs.length k1,.slice none 0 0]:=U2.set 1 _ ze rfl;have HU3:=yq U3;have HV1:=yq hv1;have HS1:=yq hs1;clear hv1 hg1 hb1 hm1 U2 U3 c0 c1 c2 f0 f1 f2
 go_wp2_with (at_builtin;refine eU rfl _ _ rfl (base:=w1.heap.size) (A:=[]) rfl rfl (World.ownsRow_nil _ _ _ _) (HL.out _ HU3.out.mods) ⟨by simp,hll⟩ yC ?_)
 intro v2 w2 hv2 hg2;obtain⟨a2,k2,rfl⟩:=dP hv2;have hb2:∀k,k<w1.heap.size->w2.heap[k]? =(w1.setCell ⟨N,off+1,none⟩ (.slice a1 zs.length k1)).heap[k]?:=fun k hk=>hg2.block k (by simpa [World.setCell]using hk) zA;have hs2:w1.heap.size<=w2.heap.size:=by have:=hg2.size;simpa [World.setCell]using this
 have hm2:aV (fun k=>k=N) (w1.setCell ⟨N,off+1,none⟩ (.slice a1 zs.length k1)) w2:=⟨hg2.os,hg2.tape,hg2.output,hg2.size,fun k hk _=>hg2.block k hk zA⟩;have U4:=HU3.out.block hm2 (hb2 N hN1);have g2:w2.cell? ⟨N,off+2,none⟩=some (.slice none 0 0):=U4.cells 2 _ rfl;have h2:w2.frozen? ⟨N,off+2,none⟩=false:=(U4.frz _).trans (HF.out _);have hN2:N<w2.heap.size:=by omega
 have U5:Upd (fun k=>k=N) w (w2.setCell ⟨N,off+2,none⟩ (.slice a2 ls.length k2)) N off [.bool true,.slice a1 zs.length k1,.slice a2 ls.length k2]:=U4.set 2 _ ze rfl;have hneN:∀k,(Value.slice a1 zs.length k1).ownBlock=some k->w.heap.size<=k/\k<w1.heap.size:=fun k hk=>HV1.out.lt k hk
 have r1:(w2.setCell ⟨N,off+2,none⟩ (.slice a2 ls.length k2)).ownsRow w.heap.size 3 1 (.slice a1 zs.length k1) zs.length (zs.map (Value.int .i64)):=
  aV.row (P:=fun k=>k=N) (((aV.setCell (P:=fun k=>k=N) w1 N (off+1) _ rfl).trans hm2).trans (aV.setCell _ _ _ _ rfl)) HV1.out fun k hk e=>by have:=hneN k hk;omega
 have r2:(w2.setCell ⟨N,off+2,none⟩ (.slice a2 ls.length k2)).ownsRow w.heap.size 3 1 (.slice a2 ls.length k2) ls.length (ls.map (Value.int .i64)):=
  je (aV.row (P:=fun k=>k=N) (aV.setCell _ _ _ _ rfl) hv2 fun k hk e=>by have:=(hv2.lt k hk).1;omega) hs1
 have hdis:∀g,(Value.slice a1 zs.length k1).ownBlock=some g->(Value.slice a2 ls.length k2).ownBlock≠some g:=fun g hg e=>by
  have q1:=(hneN g hg).2;have q2:=(hv2.lt g e).1;omega
 have HP:=yq (show MnP N off zs ls w (.returned (.bool true)) (w2.setCell ⟨N,off+2,none⟩ (.slice a2 ls.length k2))from⟨rfl,_,_,U5,r1,r2,hdis⟩);clear U4 U5 r1 r2 hdis hneN hm2 hb2 hg2 hv2
 go_wp2_with fail
 go_returns
 exact HP.out
def PT(a b:Int):Int:=if b=0 then 0 else a
def nX(t l:List Int)(m k:Nat):List Int:=(List.range m).map fun j=>if j<k then PT (t.getD j 0) (l.getD j 0)else t.getD j 0
theorem ry(t l:List Int)(m k:Nat):(nX t l m k).length=m:=by simp [nX]
theorem jX(t l:List Int)(m k:Nat){j:Nat}(hj:j<m):(nX t l m k)[j]? =some (if j<k then PT (t.getD j 0) (l.getD j 0)else t.getD j 0):=by simp [nX,hj]
theorem Gl{t:List Int}(l:List Int){m:Nat}(h:t.length=m):nX t l m 0=t:=by
 refine ext_getElem? fun j=>?_;by_cases hj:j<m
 ·rw [jX _ _ _ _ hj,if_neg zb,getD_eq_getElem?_getD,getElem?_eq_getElem zb];rfl
 ·rw [getElem?_eq_none zU,getElem?_eq_none zb]
theorem JL{t l:List Int}{m:Nat}(h:t.length=m)(h':l.length=m):nX t l m m=zipWith (fun a b=>if b=0 then 0 else a) t l:=by
 refine ext_getElem? fun j=>?_;by_cases hj:j<m
 ·rw [jX _ _ _ _ hj,if_pos hj,getElem?_zipWith,getD_eq_getElem?_getD,getD_eq_getElem?_getD,getElem?_eq_getElem zb,getElem?_eq_getElem zb];rfl
 ·rw [getElem?_eq_none zU,getElem?_eq_none zg]
theorem JK(t l:List Int){m k:Nat}(hk:k<m)(h0:l.getD k 0=0):(nX t l m k).set k 0=nX t l m (k+1):=by
 refine ext_getElem? fun j=>?_;rw [getElem?_set,ry];by_cases hj:j<m
 ·rw [jX _ _ _ _ hj,jX _ _ _ _ hj];by_cases e:k=j
  ·subst e;rw [if_pos rfl,if_pos hk,if_pos zb,h0];rfl
  ·rw [if_neg e];exact P7
 ·rw [if_neg zb,getElem?_eq_none zU,getElem?_eq_none zU]
theorem Gm(t l:List Int){m k:Nat}(hk:k<m)(h0:l.getD k 0≠0):nX t l m k=nX t l m (k+1):=by
 refine ext_getElem? fun j=>?_;by_cases hj:j<m
 ·rw [jX _ _ _ _ hj,jX _ _ _ _ hj];by_cases e:k=j
  ·subst e;rw [if_neg zb,if_pos zb];unfold PT;rw [if_neg h0]
  ·exact P7
 ·rw [getElem?_eq_none zU,getElem?_eq_none zU]
def MoP(B:Nat)(v2:Value)(ts tl zs ls:List Int)(w:World)(e:Ending)(w':World):Prop:=
 e= .returned (.bool (decide (ts=zs)))/\aV (fun b=>v2.ownBlock=some b) w w'/\w'.ownsRow B 3 1 v2 tl.length ((zipWith (fun a b=>if b=0 then 0 else a) tl ls).map (Value.int .i64))
theorem KY(N off B B1 B2:Nat)(ts tl zs ls:List Int)(v1 v2 vz vl:Value)(w:World)(hN:N<w.heap.size)(hT:bu w N off [.bool true,v1,v2])
 (r1:w.ownsRow B 3 1 v1 ts.length (ts.map (Value.int .i64))) (r2:w.ownsRow B 3 1 v2 tl.length (tl.map (Value.int .i64))) (hz:w.ownsRow B1 3 1 vz zs.length (zs.map (Value.int .i64))) (hl:w.ownsRow B2 3 1 vl ls.length (ls.map (Value.int .i64)))
 (hlen:ls.length=tl.length) (h24:ts.length<=1000) (hll:tl.length<=1000) (hnN:v2.ownBlock≠some N) (hn1:∀g,v2.ownBlock=some g->v1.ownBlock≠some g) (hnz:∀g,v2.ownBlock=some g->vz.ownBlock≠some g) (hnl:∀g,v2.ownBlock=some g->vl.ownBlock≠some g) :
 Calls prog 55 #[.pointer (some ⟨N,off,none⟩),vz,vl] w (MoP B v2 ts tl zs ls w):=by
 have c0:w.cell? ⟨N,off,none⟩=some (.bool true):=hT 0 _ rfl;have c1:w.cell? ⟨N,off+1,none⟩=some v1:=hT 1 _ rfl;have c2:w.cell? ⟨N,off+2,none⟩=some v2:=hT 2 _ rfl;have HSM:Hid (∀W,aV (fun b=>v2.ownBlock=some b) w W->Calls prog 114 #[v1,vz] W fun e w'=>e= .returned (.bool (decide (ts=zs)))/\W.Grows w'):=yq (fun W hm=>Gz (hm.row r1 fun k hk e=>hn1 k e hk) (hm.row hz fun k hk e=>hnz k e hk) h24);have HLR:Hid (∀W,aV (fun b=>v2.ownBlock=some b) w W->W.ownsRow B2 3 1 vl ls.length (ls.map (Value.int .i64))):=yq (fun W hm=>hm.row hl fun k hk e=>hnl k e hk);obtain⟨la,lc,hla⟩:=dP hl;obtain⟨va,vc,hva,hvg⟩:=fF r2;obtain⟨m,hm⟩:∃m,tl.length=m:=⟨_,rfl⟩;rw [hlen]at hla;rw [hm]at hla hva hvg hll r2 hlen;have HM:=yq (And.intro hm hlen);have HR2:=yq r2;have HNN:=yq hnN;have HVG:Hid (m=0\/∃g,va=some ⟨g,0,none⟩/\g<w.heap.size):=yq (hvg.imp id fun⟨g,e,hg,_⟩=>⟨g,e,hg⟩)
 have HPO:Hid (∀W W',aV (fun b=>v2.ownBlock=some b) w W->W.ownsRow B 3 1 v2 m ((nX tl ls m m).map (Value.int .i64))->W.Grows W'->MoP B v2 ts tl zs ls w (.returned (.bool (decide (ts=zs)))) W'):=yq (fun W W' h1 h2 hg=>by
  rw [JL HM.out.1 HM.out.2]at h2;refine⟨rfl,h1.trans (.grows hg), ?_⟩;rw [HM.out.1]
  exact aV.row (P:=fun _=>False) (.grows hg) h2 fun _ _ e=>e)
 clear hT r1 r2 hz hl hlen hm hn1 hnz hnl hnN hvg;generalize decide (ts=zs)=res at *;obtain⟨v2',hv2'⟩:∃v,v2=v:=⟨_,rfl⟩;rw [hva]at c2;rw [hla]
 go_enter func55,ntmps55
 go_wp2_with fail
 go_loopw [7] (fun v7 wr=>∃k:Nat,k<=m/\v7= .int .i64 k/\aV (fun b=>v2.ownBlock=some b) w wr/\wr.ownsRow B 3 1 v2 m ((nX tl ls m k).map (Value.int .i64))) (fun v7 _=>m-(intOf v7).toNat)
 case atStart=>exact⟨0,by omega,rfl,.refl _ _,by rw [Gl _ HM.out.1];exact HR2.out⟩
 case round=>
  obtain⟨k,hk,rfl,hmd,hrow⟩:=hrel;have HMD:=yq hmd;have HROW:=yq hrow;have q1:=(hmd.cell hN HNN.out (off+1)).trans c1;have q2:=(hmd.cell hN HNN.out (off+2)).trans c2;have hNr:N<wr.heap.size:=Nat.lt_of_lt_of_le hN hmd.size;by_cases hlt:k<m
  ·have d1:(k:Int)<(m:Int):=by omega
   have d0:(0:Int)<=(k:Int):=by omega
   have hlr:=HLR.out wr hmd;obtain⟨la',lc',hla',hlg⟩:=fF hlr;rw [HM.out.2]at hla' hlg;rw [hla]at hla';obtain⟨rfl,rfl⟩:la=la'/\lc=lc':=by simpa using hla'
   rcases hlg with h0|⟨gl,rfl,hgl,xl⟩
   ·omega
   have yl:=xl k hlt;rcases HVG.out with h0|⟨g,rfl,hg⟩
   ·omega
   have hgr:g<wr.heap.size:=Nat.lt_of_lt_of_le hg hmd.size;have hrow':=hrow;rw [hva]at hrow'
   have cg:wr.cell? ⟨g,k,none⟩=some (.int .i64 ((nX tl ls m k).getD k 0)):=by
    have:=oH hrow' k (by rw [ry];exact hlt)
    rwa [Nat.zero_add]at this
   have fg:wr.frozen? ⟨g,k,none⟩=false:=hrow'.frozenAt k;have HST:=yq (hrow'.stored k (.int .i64 0));have HVA:=yq hva;have HLT:=yq hlt;obtain⟨z,hz⟩:∃z,ls.getD k 0=z:=⟨_,rfl⟩;rw [hz]at yl;have HZ:=yq hz;generalize(nX tl ls m k).getD k 0=y at *;clear hmd hrow hrow' hlr hla' xl hz hlt;by_cases hz0:z=0
   ·subst hz0
    go_wp2_with fail
    go_roundw
    case rel=>exact⟨k+1,HLT.out,by go_num,HMD.out.trans (aV.setCell _ _ _ _ (by rw [HVA.out];rfl)),by rw [<-JK tl ls HLT.out HZ.out,HVA.out,map_set];exact HST.out.1⟩
    case measure=>simp [intOf];have:=HLT.out;omega
   ·have hz1:(z==0)=false:=by simpa using hz0
    have HNZ:=yq hz0;clear hz0
    go_wp2_with fail
    go_roundw
    case rel=>exact⟨k+1,HLT.out,by go_num,HMD.out,by rw [<-Gm tl ls HLT.out (by rw [HZ.out];exact HNZ.out)];exact HROW.out⟩
    case measure=>simp [intOf];have:=HLT.out;omega
  ·obtain rfl:k=m:=by omega
   have HQ:=yq (fun W (hg:wr.Grows W)=>HSM.out W (HMD.out.trans (.grows hg)));have HP:=yq (fun W' (hg:wr.Grows W')=>HPO.out wr W' HMD.out HROW.out hg);clear hmd hrow hlt hk
   go_wp2_with (go_at_call 114;refine gvq (HQ.out _ af) ?_;intro bs d)
   go_returns
   exact HP.out _ af
open Go.RowKit Go.ChangeShapes Go.WideShapes Go.Deep
section
variable {H : Type} {enc : TypeId × Value -> H} {P : Program} {w : World}
theorem fu.of_trod{t e q:TypeId}{fuel:Nat}{v:Value}{x:DataW H × List MemPlace}(ht:P.underlying t=some (.slice e))(he:P.underlying e=some (.slice q))(hq:P.underlying q=some (.int .i64))(ce:P.cellsOf e=1)(cq:P.cellsOf q=1)(be:P.bytesOf e=24)(bq:P.bytesOf q=8)
 (h:DataW.trod enc P w 0 (fun _=>true) true fuel t [v]=some x) (hf:fits P t x.1):∃zss,fu w v zss:=by
 rcases open_int_rows ht he hq ce cq h with ⟨hcs,_⟩|⟨a,len,cap,A,L,C,Z,hcs,_,hl,hm,hx,hr⟩
 ·simp at hcs;subst hcs;exact⟨[],by simp,none,0,rfl,.inl rfl⟩
 ·simp at hcs;subst hcs
  have h8:len<=140737488355328:=by
   have h9:=hf ((len+(cap-len))*24) (by rw [hx];simp [DataW.weights,ht,be]);omega
  have hrow:∀r,r<len->bH w (.slice (A r) (L r) (C r)) ((Z r).take (L r)):=by
   intro r hrl;obtain⟨h1,h2,h3,h4,h5,h6,h7⟩:=hr r zb;refine bH.of_cells h2 h4 h5 ?_ (fun e=>by have:=h6 e;omega) (fun x' hx' i hi=>(h7 x' hx').2 i hi)
   cases hA:A r with
   |none=>have:=h6 hA;omega
   |some y=>
    have h9:=hf ((L r+(C r-L r))*8) (by
     rw [hx];simp only [DataW.weights,ht,mem_cons,mem_append];right;left
     have key:∀(l:List Nat),r∈l->(L r+(C r-L r))*8∈DataW.weightsAll P e (l.map fun r=>(intRow (H:=H) .i64 (A r) (L r) (Z r))):=by
      intro l
      induction l with
      |nil=>intro h;cases h
      |cons y' l ih=>
       intro h;simp only [map_cons,DataW.weightsAll,mem_append];rcases mem_cons.1 h with rfl|h
       ·left;simp [intRow,hA,DataW.weights,he,lits,bq,h4,Nat.min_eq_left h2]
       ·exact .inr (ih h)
     exact key _ (mem_range.2 hrl))
    omega
  refine⟨(List.range len).map fun r=>(Z r).take (L r),by simpa using h8,some a,cap,by simp, ?_⟩;by_cases h0:len=0
  ·left;simp [h0]
  ·right;obtain⟨b,off,spot⟩:=a;have h1:=(hr 0 zb).1;have hspot:spot=none:=by simpa [Addr.add]using World.cell?_spot h1
   subst hspot
   have h2:∀i,i<cap->w.cell? ⟨b,off+i,none⟩=some (.slice (A i) (L i) (C i)):=fun i hi=>by
    rw [<-AO];exact(hr i hi).1
   refine⟨b,off,rfl,AA (h2 0 zb),fun i hi=>?_⟩;have hi':i<len:=by simpa using hi
   refine⟨_,h2 i zb, ?_⟩;have:((List.range len).map fun r=>(Z r).take (L r)).getD i []=(Z i).take (L i):=by simp [getD_eq_getElem?_getD,hi']
   rw [this];exact hrow i hi'
end
theorem Pi{α:Type}{cs:Array α}(h:cs.size=10):∃c0 c1 c2 c3 c4 c5 c6 c7 c8 c9,cs=#[c0,c1,c2,c3,c4,c5,c6,c7,c8,c9]:=by
 obtain⟨l⟩:=cs
 match l,h with
 | [c0,c1,c2,c3,c4,c5,c6,c7,c8,c9],_=>exact⟨c0,c1,c2,c3,c4,c5,c6,c7,c8,c9,rfl⟩
theorem c25:(prog).cellsOf 49=10:=by kernel_rfl
theorem c23:(prog).cellsOf 47=1:=by kernel_rfl
theorem PN.of_trod{H:Type}{enc:TypeId × Value->H}{w:World}{r:Reach}{b0:Nat}{v:Value}{d:DataW H}{p:List MemPlace}(hv:Value.okWide prog w r b0 49 v)
 (h:DataW.Trod enc prog w 0 (fun _=>true) true 49 v d p) (hf:fits prog 49 d) :
 ∃R cs,v= .agg cs/\PN w cs.toList R:=by
 have ht:=underlying49;obtain⟨cs,rfl,hsz⟩:=okWide_struct ht hv;obtain⟨c0,c1,c2,c3',c4,c5,c6,c7,c8,c9,rfl⟩:=Pi (hsz.trans c25);obtain⟨fuel,h⟩:=h;obtain⟨xs,n,_,hx,_,hlen,hF⟩:=DataW.trod_struct ht h;simp only [Prod.mk.injEq]at hx;obtain⟨rfl,-⟩:=hx;have k0:=hF 0 _ rfl;have k1:=hF 1 _ rfl;have k2:=hF 2 _ rfl;have k3:=hF 3 _ rfl;have k4:=hF 4 _ rfl;have k5:=hF 5 _ rfl;have k6:=hF 6 _ rfl;have k7:=hF 7 _ rfl;have k8:=hF 8 _ rfl;have k9:=hF 9 _ rfl;simp only [Value.cells,drop_zero,drop_succ_cons,take_succ_cons,take_zero]at k0 k1 k2 k3 k4 k5 k6 k7 k8 k9
 match xs,hlen with
 | [y0,y1,y2,y3,y4,y5,y6,y7,y8,y9],_=>
   obtain⟨n0,rfl,w0⟩:=cZ k0;obtain⟨n1,rfl,w1⟩:=cZ k1;obtain⟨n2,rfl,w2⟩:=cZ k2;obtain⟨n9,rfl,w9⟩:=cZ k9;obtain⟨z3,w3⟩:=bH.of_trod underlying22 underlying3 c3 b3 k3 (gF ht hf (i:=3) rfl rfl);obtain⟨z4,w4⟩:=bH.of_trod underlying22 underlying3 c3 b3 k4 (gF ht hf (i:=4) rfl rfl);obtain⟨z5,w5⟩:=fu.of_trod underlying47 underlying22 underlying3 c22 c3 b22 b3 k5 (gF ht hf (i:=5) rfl rfl);obtain⟨z6,w6⟩:=fu.of_trod underlying47 underlying22 underlying3 c22 c3 b22 b3 k6 (gF ht hf (i:=6) rfl rfl);obtain⟨z7,w7⟩:=fu.of_trod underlying47 underlying22 underlying3 c22 c3 b22 b3 k7 (gF ht hf (i:=7) rfl rfl);obtain⟨z8,w8⟩:=fu.of_trod underlying47 underlying22 underlying3 c22 c3 b22 b3 k8 (gF ht hf (i:=8) rfl rfl);exact⟨⟨n0,n1,n2,z3,z4,z5,z6,z7,z8,n9⟩,_,rfl,w0,w1,w2,w9,c3',c4,c5,c6,c7,c8,rfl,w3,w4,w5,w6,w7,w8⟩
end Go.Proofs.YteildlpchhlchaaGreatDoor
