import Derived.Test.YtaghhncnicbedaaGreatDoorMMchC
import Derived.Test.YtaghhncnicbedaaGreatDoorMShelf5
import Derived.Test.YtaghhncnicbedaaGreatDoorMK
set_option linter.all false
set_option maxHeartbeats 16000000
set_option maxRecDepth 1000000
namespace Go.Proofs.YtaghhncnicbedaaGreatDoor
open Go.RowKit
def MrgP(N off:Nat)(zs:List Int)(bs:List Bool)(w:World)(e:Ending)(w':World):Prop:=
 e= .returned (.bool true)∧∃a n c,Upd (fun k=>k=N) w w' N off (.bool true:: .slice a n c::bs.map .bool)∧w'.ownsRow w.heap.size 3 1 (.slice a n c) zs.length (zs.map (Value.int .i64))
theorem merge_new(N off:Nat)(zs:List Int)(a2:Option Addr)(n2 k2:Nat)(w:World)(r b0 b1 b2 b3 b4 b5 b6 b7 b8 b9 b10 b11:Bool)(hN:N<w.heap.size)(v1:Value)(s0 s1 s2 s3 s4 s5 s6 s7 s8 s9 s10 s11:Bool)(hT:CellsAt w N off [.bool false,v1,.bool s0,.bool s1,.bool s2,.bool s3,.bool s4,.bool s5,.bool s6,.bool s7,.bool s8,.bool s9,.bool s10,.bool s11])(hf:∀i,w.frozen? ⟨N,i,none⟩=false)
 (HCL:Hid (∀w',w.Grows w'→Calls Tryz.prog 92 #[.slice a2 n2 k2] w' fun e w''=>∃va vl vc,e= .returned (.slice va vl vc)∧w'.Grows w''∧w''.ownsRow w.heap.size 3 1 (.slice va vl vc) zs.length (zs.map (Value.int .i64)))) :
 Calls Tryz.prog 43 #[.pointer (some ⟨N,off,none⟩),.agg #[.bool r,.slice a2 n2 k2,.bool b0,.bool b1,.bool b2,.bool b3,.bool b4,.bool b5,.bool b6,.bool b7,.bool b8,.bool b9,.bool b10,.bool b11]] w (MrgP N off zs [b0,b1,b2,b3,b4,b5,b6,b7,b8,b9,b10,b11] w):=by
 have HT:=Lib.hid hT
 have c0:=hT 0 _ rfl
 have c1:=hT 1 _ rfl
 have c2:=hT 2 _ rfl
 have c3:=hT 3 _ rfl
 have c4:=hT 4 _ rfl
 have c5:=hT 5 _ rfl
 have c6:=hT 6 _ rfl
 have c7:=hT 7 _ rfl
 have c8:=hT 8 _ rfl
 have c9:=hT 9 _ rfl
 have c10:=hT 10 _ rfl
 have c11:=hT 11 _ rfl
 have c12:=hT 12 _ rfl
 have c13:=hT 13 _ rfl
 rw [Nat.add_zero]at c0
 clear hT
 go_enter Tryz.func43,Tryz.ntmps43
 go_wp2_with fail
 refine TS.begin [8] (World.Grows _) (by kernel_rfl) (by kernel_rfl) grows_drew0 (fun hS=>?_)
 refine TS.wkB 0 hS ?_
 refine TS.wkB 1 hS ?_
 refine TS.wkB 2 hS ?_
 refine TS.wkB 4 hS ?_
 refine TS.wkB 5 hS ?_
 refine TS.one (i:=3) (by kernel_rfl) rfl (fun K1 hK1=>?_)
 have HK1:=Lib.hid hK1
 clear hK1 hS
 dsimp only [List.getElem_toArray,List.getElem_cons_succ,List.getElem_cons_zero]
 go_simp
 go_at_call 92
 refine(HCL.out _ growsR).mono ?_
 rintro e' w2 ⟨va,vl,vc,rfl,hg2,ho⟩
 have hw2:w.Grows w2:=World.Grows.trans' growsR hg2
 refine TS.go HK1.out (World.Grows.trans' growsR hg2) (fun hS=>?_)
 have HO:=Lib.hid ho
 have HW:=Lib.hid hw2
 have hN2:N<w2.heap.size:=by have:=hw2.below.size;omega
 clear ho hg2
 replace c0:=(World.cell?_of_block (hw2.below.block N hN)).trans c0
 replace c1:=(World.cell?_of_block (hw2.below.block N hN)).trans c1
 replace c2:=(World.cell?_of_block (hw2.below.block N hN)).trans c2
 replace c3:=(World.cell?_of_block (hw2.below.block N hN)).trans c3
 replace c4:=(World.cell?_of_block (hw2.below.block N hN)).trans c4
 replace c5:=(World.cell?_of_block (hw2.below.block N hN)).trans c5
 replace c6:=(World.cell?_of_block (hw2.below.block N hN)).trans c6
 replace c7:=(World.cell?_of_block (hw2.below.block N hN)).trans c7
 replace c8:=(World.cell?_of_block (hw2.below.block N hN)).trans c8
 replace c9:=(World.cell?_of_block (hw2.below.block N hN)).trans c9
 replace c10:=(World.cell?_of_block (hw2.below.block N hN)).trans c10
 replace c11:=(World.cell?_of_block (hw2.below.block N hN)).trans c11
 replace c12:=(World.cell?_of_block (hw2.below.block N hN)).trans c12
 replace c13:=(World.cell?_of_block (hw2.below.block N hN)).trans c13
 replace hf:=fun i=>(World.frozen?_of_block (a:=⟨N,i,none⟩) (hw2.below.block N hN)).trans (hf i)
 clear hw2
 clear HK1 K1
 (try simp only [nS])
 refine TS.wkB 6 hS ?_
 refine TS.wkB 7 hS ?_
 have f0:=hf off
 have f1:=hf (off+1)
 have f2:=hf (off+2)
 have f3:=hf (off+3)
 have f4:=hf (off+4)
 have f5:=hf (off+5)
 have f6:=hf (off+6)
 have f7:=hf (off+7)
 have f8:=hf (off+8)
 have f9:=hf (off+9)
 have f10:=hf (off+10)
 have f11:=hf (off+11)
 have f12:=hf (off+12)
 have f13:=hf (off+13)
 refine TS.one (i:=8) (by kernel_rfl) rfl (fun K1 hK1=>?_)
 go_wp2_with fail
 refine hK1 _ _ (fun h=>absurd (by decide) h) (TS.done (by kernel_rfl) ?_)
 clear hK1 K1 hS
 go_wp2_with fail
 go_returns
 have U0:Upd (fun k=>k=N) w2 w2 N off _:=Upd.refl (HT.out.same fun o=>World.cell?_of_block (a:=⟨N,o,none⟩) (HW.out.below.block N hN))
 have U1:=((((((((((((((U0).set 0 (.bool true) (by simp) rfl).set 1 (.slice va vl vc) (by simp) rfl).set 2 (.bool b0) (by simp) rfl).set 3 (.bool b1) (by simp) rfl).set 4 (.bool b2) (by simp) rfl).set 5 (.bool b3) (by simp) rfl).set 6 (.bool b4) (by simp) rfl).set 7 (.bool b5) (by simp) rfl).set 8 (.bool b6) (by simp) rfl).set 9 (.bool b7) (by simp) rfl).set 10 (.bool b8) (by simp) rfl).set 11 (.bool b9) (by simp) rfl).set 12 (.bool b10) (by simp) rfl).set 13 (.bool b11) (by simp) rfl
 simp only [Nat.add_zero,List.set_cons_zero,List.set_cons_succ]at U1
 have U2:=fun W (hg:World.Grows _ W)=>U1.grows hN2 hg
 refine⟨rfl,va,vl,vc,Upd.pre HW.out hN (U2 _ growsR),Mods.row (U2 _ growsR).mods HO.out fun k hk e=>?_⟩
 subst e
 have:=(HO.out.lt _ hk).1
 omega
theorem own_get{w:World}{B n:Nat}{g cap:Nat}{xs:List Int}(h:w.ownsRow B 3 1 (.slice (some ⟨g,0,none⟩) n cap) n (xs.map (Value.int .i64)))(j:Nat)(hj:j<xs.length):w.cell? ⟨g,0+j,none⟩=some (.int .i64 (xs.getD j 0)):=by
 have hn:xs.length=n:=by have:=h.1;simpa using this
 rw [Nat.zero_add,h.cellAt j (by omega),List.getElem?_map,List.getD_eq_getElem?_getD,List.getElem?_eq_getElem hj];rfl
theorem equal_rows{w:World}{B B':Nat}{v1 v2:Value}{xs ys:List Int}(h1:w.ownsRow B 3 1 v1 xs.length (xs.map (Value.int .i64)))(h2:w.ownsRow B' 3 1 v2 ys.length (ys.map (Value.int .i64)))(hx:xs.length≤1000)(hy:ys.length≤1000) :
 Calls Tryz.prog 93 #[v1,v2] w fun e w'=>e= .returned (.bool (decide (xs=ys)))∧w.Grows w':=by
 obtain⟨a1,c1,rfl,hg1⟩:∃a c,v1= .slice a xs.length c∧(xs.length=0∨∃g,a=some ⟨g,0,none⟩):=by
  rcases row_frm h1 with ⟨rfl,e⟩|⟨g,cap,rfl,-⟩
  ·exact⟨none,0,by rw [e],.inl e⟩
  ·exact⟨_,_,rfl,.inr ⟨g,rfl⟩⟩
 obtain⟨a2,c2,rfl,hg2⟩:∃a c,v2= .slice a ys.length c∧(ys.length=0∨∃g,a=some ⟨g,0,none⟩):=by
  rcases row_frm h2 with ⟨rfl,e⟩|⟨g,cap,rfl,-⟩
  ·exact⟨none,0,by rw [e],.inl e⟩
  ·exact⟨_,_,rfl,.inr ⟨g,rfl⟩⟩
 by_cases hl:xs.length=ys.length
 ·by_cases h0:xs.length=0
  ·have e1:xs= []:=List.eq_nil_of_length_eq_zero h0
   have e2:ys= []:=List.eq_nil_of_length_eq_zero (by omega)
   subst e1 e2
   refine(Tryz.slices_Equal_int_empty a1 a2 c1 0 c2 w (by omega)).mono ?_
   rintro e w' ⟨rfl,rfl⟩
   exact⟨rfl,.refl _⟩
  ·rcases hg1 with e|⟨g1,rfl⟩
   ·omega
   rcases hg2 with e|⟨g2,rfl⟩
   ·omega
   refine(Tryz.slices_Equal_int g1 0 xs.length c1 g2 0 ys.length c2 xs ys w (Nat.le_refl _) (Nat.le_refl _) (by omega) (by omega) (own_get h1) (own_get h2)).mono ?_
   rintro e w' ⟨rfl,q,rfl⟩
   refine⟨?_,.of_below ⟨rfl,rfl,rfl,Nat.le_refl _,fun _ _=>rfl⟩⟩
   rw [List.take_length,List.take_length]
   congr 2
   rw [Bool.eq_iff_iff];simp
 ·refine(Tryz.slices_Equal_int_lens a1 a2 _ c1 _ c2 w hl).mono ?_
  rintro e w' ⟨rfl,rfl⟩
  exact⟨by rw [decide_eq_false (fun e=>hl (by rw [e]))],.refl _⟩
def mrgK(t bs:List Bool)(k:Nat):List Bool:=(List.range 12).map fun j=>if j<k then t.getD j false&&bs.getD j false else t.getD j false
theorem mrgK_len(t bs:List Bool)(k:Nat):(mrgK t bs k).length=12:=by simp [mrgK]
theorem mrgK_get(t bs:List Bool)(k:Nat){j:Nat}(hj:j<12):(mrgK t bs k)[j]? =some (if j<k then t.getD j false&&bs.getD j false else t.getD j false):=by
 simp [mrgK,hj]
theorem mrgK_zero{t:List Bool}(bs:List Bool)(h:t.length=12):mrgK t bs 0=t:=by
 refine List.ext_getElem? fun j=>?_
 by_cases hj:j<12
 ·rw [mrgK_get _ _ _ hj,if_neg (by omega),List.getD_eq_getElem?_getD,List.getElem?_eq_getElem (by omega)];rfl
 ·rw [List.getElem?_eq_none (by rw [mrgK_len];omega),List.getElem?_eq_none (by omega)]
theorem mrgK_all{t bs:List Bool}(h:t.length=12)(h':bs.length=12):mrgK t bs 12=List.zipWith (· && ·) t bs:=by
 refine List.ext_getElem? fun j=>?_
 by_cases hj:j<12
 ·rw [mrgK_get _ _ _ hj,if_pos hj,List.getElem?_zipWith,List.getD_eq_getElem?_getD,List.getD_eq_getElem?_getD,List.getElem?_eq_getElem (by omega),List.getElem?_eq_getElem (by omega)];rfl
 ·rw [List.getElem?_eq_none (by rw [mrgK_len];omega),List.getElem?_eq_none (by simp;omega)]
theorem mrgK_succ(t bs:List Bool){k:Nat}(hk:k<12):(mrgK t bs k).set k (t.getD k false&&bs.getD k false)=mrgK t bs (k+1):=by
 refine List.ext_getElem? fun j=>?_
 rw [List.getElem?_set,mrgK_len]
 by_cases hj:j<12
 ·rw [mrgK_get _ _ _ hj,mrgK_get _ _ _ hj]
  by_cases e:k=j
  ·subst e
   rw [if_pos rfl,if_pos hk,if_pos (by omega)]
  ·rw [if_neg e]
   exact mz7
 ·rw [if_neg (by omega),List.getElem?_eq_none (by rw [mrgK_len];omega),List.getElem?_eq_none (by rw [mrgK_len];omega)]
def MrgQ(N off:Nat)(v1:Value)(t:List Int × List Bool)(zs:List Int)(bs:List Bool)(w:World)(e:Ending)(w':World):Prop:=
 e= .returned (.bool (decide (t.1=zs)))∧Upd (fun k=>k=N) w w' N off (.bool true::v1::(List.zipWith (· && ·) t.2 bs).map .bool)
theorem Upd.drew{P:Nat→Prop}{N off:Nat}{L:List Value}{w w':World}(h:Upd P w w' N off L):Upd P w w'.drew N off L:=⟨⟨h.mods.os,h.mods.tape,h.mods.output,h.mods.size,h.mods.block⟩,h.cells,h.out,h.frz⟩
theorem upd_mrg{P:Nat→Prop}{N off k:Nat}{v1:Value}{t bs:List Bool}{c:Bool}{w wr:World}(h:Upd P w wr N off (.bool true::v1::(mrgK t bs k).map .bool))(hk:k<12)(hs:(mrgK t bs k).set k c=mrgK t bs (k+1))(hP:P N):Upd P w (wr.setCell ⟨N,off+2+k,none⟩ (.bool c)) N off (.bool true::v1::(mrgK t bs (k+1)).map .bool):=by
 have h1:=h.set (2+k) (.bool c) (by simp [mrgK_len];omega) hP
 have e:(Value.bool true::v1::(mrgK t bs k).map .bool).set (2+k) (.bool c)=Value.bool true::v1::(mrgK t bs (k+1)).map .bool:=by
  rw [Nat.add_comm,List.set_cons_succ,List.set_cons_succ,←hs,List.map_set]
 rw [e,←Nat.add_assoc]at h1
 exact h1
theorem merge_old(N off B B':Nat)(t:List Int × List Bool)(zs:List Int)(v1 v2:Value)(w:World)(r b0 b1 b2 b3 b4 b5 b6 b7 b8 b9 b10 b11:Bool)(hN:N<w.heap.size)(hT:StC w N off true v1 t.2)(hf:∀i,w.frozen? ⟨N,i,none⟩=false)
 (h1:w.ownsRow B 3 1 v1 t.1.length (t.1.map (Value.int .i64))) (h2:w.ownsRow B' 3 1 v2 zs.length (zs.map (Value.int .i64))) (hl1:t.1.length≤1000) (hl2:zs.length≤1000) (hn1:v1.ownBlock≠some N) (hn2:v2.ownBlock≠some N) :
 Calls Tryz.prog 43 #[.pointer (some ⟨N,off,none⟩),.agg #[.bool r,v2,.bool b0,.bool b1,.bool b2,.bool b3,.bool b4,.bool b5,.bool b6,.bool b7,.bool b8,.bool b9,.bool b10,.bool b11]] w (MrgQ N off v1 t zs [b0,b1,b2,b3,b4,b5,b6,b7,b8,b9,b10,b11] w):=by
 have HEQ:Hid (∀w',Mods (fun k=>k=N) w w'→Calls Tryz.prog 93 #[v1,v2] w' fun e w''=>e= .returned (.bool (decide (t.1=zs)))∧w'.Grows w''):=Lib.hid (fun w' hm=>equal_rows (hm.row h1 fun k hk e=>hn1 (e ▸ hk)) (hm.row h2 fun k hk e=>hn2 (e ▸ hk)) hl1 hl2)
 have c0:w.cell? ⟨N,off,none⟩=some (.bool true):=hT.2 0 _ rfl
 obtain⟨bs,hbs⟩:∃bs:List Bool,[b0,b1,b2,b3,b4,b5,b6,b7,b8,b9,b10,b11]=bs:=⟨_,rfl⟩
 have hbl:bs.length=12:=by rw [←hbs];rfl
 have HT0:=Lib.hid hT
 have HF:=Lib.hid hf
 have HBC:Hid (∀j,j<12→([Value.bool r,v2,.bool b0,.bool b1,.bool b2,.bool b3,.bool b4,.bool b5,.bool b6,.bool b7,.bool b8,.bool b9,.bool b10,.bool b11])[2+j]? =some (.bool (bs.getD j false))):=Lib.hid (fun j hj=>by
  rw [←hbs]
  rcases(by omega:j=0∨j=1∨j=2∨j=3∨j=4∨j=5∨j=6∨j=7∨j=8∨j=9∨j=10∨j=11)with rfl|rfl|rfl|rfl|rfl|rfl|rfl|rfl|rfl|rfl|rfl|rfl<;>rfl)
 rw [hbs]
 have HBL:=Lib.hid hbl
 have HTL:=Lib.hid hT.1
 clear hT hf h1 h2 hbs hbl hl1 hl2 hn1 hn2
 unfold MrgQ
 go_enter Tryz.func43,Tryz.ntmps43
 go_wp2_with fail
 go_loopw [19] (fun v19 wr=>∃k:Nat,k≤12∧v19= .int .i64 k∧Upd (fun k=>k=N) w wr N off (.bool true::v1::(mrgK t.2 bs k).map .bool)∧CellsAt wr w.heap.size 0 [.bool r,v2,.bool b0,.bool b1,.bool b2,.bool b3,.bool b4,.bool b5,.bool b6,.bool b7,.bool b8,.bool b9,.bool b10,.bool b11]∧w.heap.size<wr.heap.size) (fun v19 _=>12-(intOf v19).toNat)
 case atStart=>
  refine⟨0,by omega,rfl, ?_,fun i u hu=>?_,by simp⟩
  ·rw [mrgK_zero _ HTL.out];exact(Upd.refl HT0.out.2).grows hN growsR
  ·rw [Nat.zero_add,cell_of_row _ _ _ _ _ _ (heap_alloc_new w _)];simpa using hu
 case round=>
  obtain⟨k,hk,rfl,hu,hbx,hsz⟩:=hrel
  have HU:=Lib.hid hu
  have HBX:=Lib.hid hbx
  have q0:wr.cell? ⟨N,off,none⟩=some (.bool true):=hu.cells 0 _ rfl
  have q1:wr.cell? ⟨N,off+1,none⟩=some v1:=hu.cells 1 _ rfl
  have x1:wr.cell? ⟨w.heap.size,1,none⟩=some v2:=hbx 1 _ rfl
  have hNr:N<wr.heap.size:=Nat.lt_of_lt_of_le hN hu.mods.size
  by_cases hlt:k<12
  ·have d1:(k:Int)<12:=by omega
   have qk:wr.cell? ⟨N,off+2+k,none⟩=some (.bool (t.2.getD k false)):=by
    have:=hu.cells (2+k) (.bool (t.2.getD k false)) (by
     rw [Nat.add_comm,List.getElem?_cons_succ,List.getElem?_cons_succ,List.getElem?_map,mrgK_get _ _ _ hlt,if_neg (by omega)];rfl)
    rw [←Nat.add_assoc]at this;exact this
   have xk:wr.cell? ⟨w.heap.size,2+k,none⟩=some (.bool (bs.getD k false)):=by
    have:=hbx _ _ (HBC.out k hlt)
    rw [Nat.zero_add]at this;exact this
   have fk:wr.frozen? ⟨N,off+2+k,none⟩=false:=(hu.frz _).trans (HF.out _)
   have HS:=Lib.hid (mrgK_succ t.2 bs hlt)
   have HK:=Lib.hid hlt
   have hNX:N≠w.heap.size:=by omega
   have hNX':w.heap.size≠N:=by omega
   clear hu hbx
   obtain⟨y,hy⟩:∃y,t.2.getD k false=y:=⟨_,rfl⟩
   obtain⟨z,hz⟩:∃z,bs.getD k false=z:=⟨_,rfl⟩
   rw [hy]at qk HS
   rw [hz]at xk HS
   clear hy hz hlt
   cases y with
   |true=>
    go_wp2_with fail
    refine TS.begin [17] (World.Grows wr) (by kernel_rfl) (by kernel_rfl) grows_drew0 (fun hS=>?_)
    refine TS.wkB 0 hS ?_
    refine TS.wkB 1 hS ?_
    refine TS.wkB 2 hS ?_
    refine TS.wkB 3 hS ?_
    refine TS.wkB 4 hS ?_
    refine TS.wkB 5 hS ?_
    refine TS.wkB 6 hS ?_
    refine TS.wkB 7 hS ?_
    refine TS.wkB 8 hS ?_
    refine TS.wkB 9 hS ?_
    refine TS.wkB 10 hS ?_
    refine TS.wkB 11 hS ?_
    refine TS.wkB 12 hS ?_
    refine TS.wkB 13 hS ?_
    refine TS.wkB 14 hS ?_
    refine TS.wkB 15 hS ?_
    refine TS.wkB 16 hS ?_
    refine TS.weB 17 ?_
    clear hS
    go_wp2_with fail
    go_roundw
    case rel=>exact⟨k+1,HK.out,by go_num,(upd_mrg HU.out HK.out HS.out rfl).drew,HBX.out.other _ (.inl hNX),by simp [World.setCell];exact hsz⟩
    case measure=>simp [intOf];have:=HK.out;omega
   |false=>
    go_wp2_with fail
    refine TS.begin [17] (World.Grows wr) (by kernel_rfl) (by kernel_rfl) grows_drew0 (fun hS=>?_)
    refine TS.wkB 0 hS ?_
    refine TS.wkB 1 hS ?_
    refine TS.wkB 2 hS ?_
    refine TS.wkB 3 hS ?_
    refine TS.wkB 4 hS ?_
    refine TS.wkB 5 hS ?_
    refine TS.wkB 6 hS ?_
    refine TS.wkB 7 hS ?_
    refine TS.wkB 8 hS ?_
    refine TS.take (i:=9) (v:=undef) rfl (by kernel_rfl) (by kernel_rfl) (by kernel_rfl) (by decide) (fun _ _ _ h=>h) (.inl ⟨rfl,rfl⟩) hS ?_
    (try simp only [nS])
    refine TS.take (i:=10) (v:=undef) rfl (by kernel_rfl) (by kernel_rfl) (by kernel_rfl) (by decide) (fun _ _ _ h=>h) (.inl ⟨rfl,rfl⟩) hS ?_
    (try simp only [nS])
    refine TS.take (i:=11) (v:=undef) rfl (by kernel_rfl) (by kernel_rfl) (by kernel_rfl) (by decide) (fun _ _ _ h=>h) (.inl ⟨rfl,rfl⟩) hS ?_
    (try simp only [nS])
    refine TS.take (i:=12) (v:=undef) rfl (by kernel_rfl) (by kernel_rfl) (by kernel_rfl) (by decide) (fun _ _ _ h=>h) (.inl ⟨rfl,rfl⟩) hS ?_
    (try simp only [nS])
    refine TS.wkB 13 hS ?_
    refine TS.wkB 14 hS ?_
    refine TS.wkB 15 hS ?_
    refine TS.wkB 16 hS ?_
    refine TS.weB 17 ?_
    clear hS
    go_wp2_with fail
    go_roundw
    case rel=>exact⟨k+1,HK.out,by go_num,(upd_mrg HU.out HK.out HS.out rfl).drew,HBX.out.other _ (.inl hNX),by simp [World.setCell];exact hsz⟩
    case measure=>simp [intOf];have:=HK.out;omega
  ·obtain rfl:k=12:=by omega
   have HM:=Lib.hid hu.mods
   rw [mrgK_all HTL.out HBL.out]at HU
   have HQ:=Lib.hid (fun w' (hg:wr.Grows w')=>HEQ.out w' (HM.out.trans (.grows hg)))
   obtain⟨res,hres⟩:∃r,decide (t.1=zs)=r:=⟨_,rfl⟩
   rw [hres]at HQ
   have HR:=Lib.hid hres
   clear hres HEQ
   have HP:Hid (∀w',wr.Grows w'→Upd (fun k=>k=N) w w' N off (.bool true::v1::(List.zipWith (· && ·) t.2 bs).map .bool)):=Lib.hid (fun w' hg=>HU.out.grows hN hg)
   clear hlt hk hbx hu
   go_wp2_with fail
   refine TS.begin [7] (World.Grows wr) (by kernel_rfl) (by kernel_rfl) grows_drew0 (fun hS=>?_)
   refine TS.wkB 0 hS ?_
   refine TS.wkB 1 hS ?_
   refine TS.wkB 2 hS ?_
   refine TS.wkB 3 hS ?_
   refine TS.wkB 4 hS ?_
   refine TS.wkB 5 hS ?_
   refine TS.one (i:=6) (by kernel_rfl) rfl (fun K1 hK1=>?_)
   have HK1:=Lib.hid hK1
   clear hK1 hS
   dsimp only [List.getElem_toArray,List.getElem_cons_succ,List.getElem_cons_zero]
   go_simp
   go_at_call 93
   refine(HQ.out _ growsR).mono ?_
   rintro e' w2 ⟨rfl,hg2⟩
   refine TS.go HK1.out (World.Grows.trans' growsR hg2) (fun hS=>?_)
   clear HK1 K1
   (try simp only [nS])
   refine TS.weB 7 ?_
   clear hS
   go_wp2_with fail
   go_returns
   exact⟨by rw [HR.out];rfl,HP.out _ (World.Grows.trans' growsR hg2)⟩
theorem own_lower{w:World}{B B' size n:Nat}{e:TypeId}{v:Value}{xs:List Value}(h:w.ownsRow B e size v n xs)(hb:B'≤B):w.ownsRow B' e size v n xs:=⟨h.1,h.2.imp id fun⟨g,cap,cur,hv,hbb,rest⟩=>⟨g,cap,cur,hv,Nat.le_trans hb hbb,rest⟩⟩
theorem clone_rows{w:World}{B:Nat}{v:Value}{zs:List Int}(h:w.ownsRow B 3 1 v zs.length (zs.map (Value.int .i64)))(hl:zs.length≤1000)(hN:Nat)(hNs:hN<w.heap.size)(base:Nat)(hb:base≤w.heap.size) :
 Calls Tryz.prog 92 #[v] w fun e w'=>∃va vl vc,e= .returned (.slice va vl vc)∧w.Grows w'∧w'.ownsRow base 3 1 (.slice va vl vc) zs.length (zs.map (Value.int .i64)):=by
 rcases row_frm h with ⟨rfl,h0⟩|⟨g,cap,rfl,-⟩
 ·refine(Tryz.slices_Clone_int_nil 0 0 w).mono ?_
  rintro e w' ⟨rfl,rfl⟩
  have:zs= []:=List.eq_nil_of_length_eq_zero h0
  subst this
  exact⟨_,_,_,rfl,.refl _,World.ownsRow_nil _ _ _ _⟩
 ·refine(Tryz.slices_Clone_int g 0 zs.length cap zs w (Nat.le_refl _) (by omega) (own_get h)).mono ?_
  rintro e w' ⟨v',rfl,ho,hne,hb'⟩
  rw [List.take_length]at ho
  obtain⟨va,vl,vc,rfl⟩:∃va vl vc,v'= .slice va vl vc:=by
   rcases row_frm ho with ⟨rfl,-⟩|⟨g',cap',rfl,-⟩
   ·exact⟨_,_,_,rfl⟩
   ·exact⟨_,_,_,rfl⟩
  exact⟨_,_,_,rfl,.of_below hb',own_lower ho hb⟩
def MrgA(N off B:Nat)(v1:Value)(o:Option (List Int × List Bool))(s:List Int × List Bool)(w:World)(e:Ending)(w':World):Prop:=
 ∃b,e= .returned (.bool b)∧Mods (fun k=>k=N) w w'∧(∀i,i<off∨off+14≤i→w'.cell? ⟨N,i,none⟩=w.cell? ⟨N,i,none⟩)∧(∀i,w'.frozen? ⟨N,i,none⟩=w.frozen? ⟨N,i,none⟩)∧
  match mrgF o s with
  |none=>b=false
  |some s'=>b=true∧∃v',StM w' N off v' (some s')∧w'.ownsRow B 3 1 v' s'.1.length (s'.1.map (Value.int .i64))∧((o≠none∧v'=v1)∨(o=none∧∀k,v'.ownBlock=some k→w.heap.size≤k))
theorem merge_any(N off B B':Nat)(o:Option (List Int × List Bool))(s:List Int × List Bool)(v1 v2:Value)(w:World)(hN:N<w.heap.size)(hNB:N<B)(hB:B≤w.heap.size)(hT:StM w N off v1 o)(hf:∀i,w.frozen? ⟨N,i,none⟩=false)
 (h1:∀t,o=some t→w.ownsRow B 3 1 v1 t.1.length (t.1.map (Value.int .i64))∧t.1.length≤1000) (h2:w.ownsRow B' 3 1 v2 s.1.length (s.1.map (Value.int .i64))) (hl2:s.1.length≤1000) (hn2:v2.ownBlock≠some N) (hs:s.2.length=12) :
 ∀b0 b1 b2 b3 b4 b5 b6 b7 b8 b9 b10 b11,s.2= [b0,b1,b2,b3,b4,b5,b6,b7,b8,b9,b10,b11]→Calls Tryz.prog 43 #[.pointer (some ⟨N,off,none⟩),.agg #[.bool true,v2,.bool b0,.bool b1,.bool b2,.bool b3,.bool b4,.bool b5,.bool b6,.bool b7,.bool b8,.bool b9,.bool b10,.bool b11]] w (MrgA N off B v1 o s w):=by
 intro b0 b1 b2 b3 b4 b5 b6 b7 b8 b9 b10 b11 hsb
 cases o with
 |none=>
  obtain⟨bs,hbl,hc⟩:=hT
  obtain⟨s0,s1,s2,s3,s4,s5,s6,s7,s8,s9,s10,s11,rfl⟩:=twelve hbl
  obtain⟨a2,n2,k2,rfl⟩:∃a n k,v2= .slice a n k:=by
   rcases row_frm h2 with ⟨rfl,-⟩|⟨g,cap,rfl,-⟩
   ·exact⟨_,_,_,rfl⟩
   ·exact⟨_,_,_,rfl⟩
  refine(merge_new N off s.1 a2 n2 k2 w true b0 b1 b2 b3 b4 b5 b6 b7 b8 b9 b10 b11 hN (.slice none 0 0) s0 s1 s2 s3 s4 s5 s6 s7 s8 s9 s10 s11 hc hf (Lib.hid fun w' hg=>clone_rows (Mods.row (P:=fun _=>False) (.grows hg) h2 fun _ _ e=>e) hl2 N (Nat.lt_of_lt_of_le hN hg.below.size) w.heap.size hg.below.size)).mono ?_
  rintro e w' ⟨rfl,a,n,c,hu,hr⟩
  refine⟨true,rfl,hu.mods,fun i hi=>hu.out i (by simpa using hi),hu.frz,rfl,_,⟨hs,by rw [hsb];exact hu.cells⟩,own_lower hr hB,.inr ⟨rfl,fun k hk=>(hr.lt k hk).1⟩⟩
 |some t=>
  obtain⟨r1,hl1⟩:=h1 t rfl
  have hn1:v1.ownBlock≠some N:=fun e=>by have:=(r1.lt N e).1;omega
  refine(merge_old N off B B' t s.1 v1 v2 w true b0 b1 b2 b3 b4 b5 b6 b7 b8 b9 b10 b11 hN hT hf r1 h2 hl1 hl2 hn1 hn2).mono ?_
  rintro e w' ⟨rfl,hu⟩
  rw [←hsb]at hu
  have hz:(List.zipWith (· && ·) t.2 s.2).length=12:=by rw [List.length_zipWith,hT.1,hs];rfl
  refine⟨_,rfl,hu.mods,fun i hi=>hu.out i (by simp only [List.length_cons,List.length_map,hz];exact hi),hu.frz, ?_⟩
  unfold mrgF
  by_cases e:t.1=s.1
  ·simp only [if_pos e]
   exact⟨decide_eq_true e,v1,⟨hz,hu.cells⟩,hu.mods.row r1 fun k hk q=>hn1 (q ▸ hk),.inl ⟨by simp,rfl⟩⟩
  ·simp only [if_neg e]
   exact decide_eq_false e
theorem row_form''{w:World}{B:Nat}{v:Value}{zs:List Int}(h:w.ownsRow B 3 1 v zs.length (zs.map (Value.int .i64))):∃a c,v= .slice a zs.length c:=by
 exact mz12
theorem row_slice{w:World}{B:Nat}{v:Value}{xs:List Int}(h:w.ownsRow B 3 1 v xs.length (xs.map (Value.int .i64))):∃a c,v= .slice a xs.length c∧(xs.length=0∨∃g,a=some ⟨g,0,none⟩∧g<w.heap.size∧∀j,j<xs.length→w.cell? ⟨g,j,none⟩=some (.int .i64 (xs.getD j 0))):=by
 rcases row_frm h with ⟨rfl,e⟩|⟨g,cap,rfl,-,hg,-⟩
 ·exact⟨none,0,by rw [e],.inl e⟩
 ·exact⟨_,_,rfl,.inr ⟨g,rfl,hg,fun j hj=>by have:=own_get h j hj;rwa [Nat.zero_add]at this⟩⟩
theorem same8_any{w:World}{B B':Nat}{v1 v2:Value}{xs ys:List Int}(h1:w.ownsRow B 3 1 v1 xs.length (xs.map (Value.int .i64)))(h2:w.ownsRow B' 3 1 v2 ys.length (ys.map (Value.int .i64)))(hl:xs.length≤1000) :
 Calls Tryz.prog 97 #[v1,v2] w fun e w'=>e= .returned (.bool (decide (xs=ys)))∧w.Grows w':=by
 obtain⟨a1,c1,rfl,hg1⟩:=row_slice h1
 obtain⟨a2,c2,rfl,hg2⟩:=row_slice h2
 clear h1 h2
 by_cases hle:xs.length=ys.length
 case neg=>
  have HR:Hid (decide (xs=ys)=false):=Lib.hid (decide_eq_false (fun e=>hle (by rw [e])))
  generalize xs.length=p at *
  generalize ys.length=q at *
  have hne:((p:Int)==(q:Int))=false:=by simp;omega
  have hne2:((p:Int)!=(q:Int))=true:=by simp;omega
  clear hg1 hg2 hle
  go_enter Tryz.func97,Tryz.ntmps97
  go_wp2_with fail
  go_returns
  exact⟨by rw [HR.out];rfl,.refl _⟩
 have H1:=Lib.hid hg1
 have H2:=Lib.hid hg2
 have HL:=Lib.hid hle
 rw [←hle]
 clear hg1 hg2 hle
 obtain⟨p,hp⟩:∃p,xs.length=p:=⟨_,rfl⟩
 rw [hp]at H1 HL hl ⊢
 rw [←HL.out]at H2
 have HP:=Lib.hid hp
 clear hp
 go_enter Tryz.func97,Tryz.ntmps97
 go_wp2_with fail
 go_loopw [5] (fun v5 wr=>∃k:Nat,k≤p∧v5= .int .i64 k∧w.Grows wr∧Hid (∀j,j<k→xs.getD j 0=ys.getD j 0)) (fun v5 _=>p-(intOf v5).toNat)
 case atStart=>exact⟨0,by omega,rfl,.refl _,Lib.hid (fun j hj=>by omega)⟩
 case round=>
  obtain⟨k,hk,rfl,hg,HE⟩:=hrel
  have HG:=Lib.hid hg
  by_cases hlt:k<p
  ·rcases H1.out with h0|⟨g1,rfl,hs1,x1⟩
   ·omega
   rcases H2.out with h0|⟨g2,rfl,hs2,x2⟩
   ·omega
   have y1:=(World.cell?_of_block (a:=⟨g1,k,none⟩) (hg.below.block g1 hs1)).trans (x1 k hlt)
   have y2:=(World.cell?_of_block (a:=⟨g2,k,none⟩) (hg.below.block g2 hs2)).trans (x2 k hlt)
   have d1:(k:Int)<(p:Int):=by omega
   have d0:(0:Int)≤(k:Int):=by omega
   have hs1':g1<wr.heap.size:=by have:=hg.below.size;omega
   have hs2':g2<wr.heap.size:=by have:=hg.below.size;omega
   have HLT:=Lib.hid hlt
   obtain⟨a,ha⟩:∃a,xs.getD k 0=a:=⟨_,rfl⟩
   obtain⟨b,hb⟩:∃b,ys.getD k 0=b:=⟨_,rfl⟩
   rw [ha]at y1
   rw [hb]at y2
   have HAB:=Lib.hid (And.intro ha hb)
   clear hg x1 x2 ha hb hlt
   by_cases hab:a=b
   ·have HN:Hid (∀j,j<k+1→xs.getD j 0=ys.getD j 0):=Lib.hid (fun j hj=>by
     by_cases e:j=k
     ·subst e;rw [HAB.out.1,HAB.out.2,hab]
     ·exact HE.out j (by omega))
    subst hab
    go_wp2_with fail
    go_region
    go_wp2_with fail
    go_roundw
    case rel=>exact⟨k+1,HLT.out,by go_num,World.Grows.trans' HG.out growsR,HN⟩
    case measure=>simp [intOf];have:=HLT.out;omega
   ·have HR:Hid (decide (xs=ys)=false):=Lib.hid (decide_eq_false (fun e=>hab (by rw [←HAB.out.1,←HAB.out.2,e])))
    have hab1:(a==b)=false:=by simpa using hab
    have hab2:(a !=b)=true:=by simpa using hab
    clear hab
    go_wp2_with fail
    go_region
    go_wp2_with fail
    go_returns
    exact⟨by rw [HR.out];rfl,World.Grows.trans' HG.out growsR⟩
  ·obtain rfl:k=p:=by omega
   have HR:Hid (decide (xs=ys)=true):=Lib.hid (decide_eq_true (List.ext_getElem (by rw [HP.out,HL.out]) fun j h1 h2=>by
    have:=HE.out j (by rw [HP.out]at h1;omega)
    rw [List.getD_eq_getElem?_getD,List.getD_eq_getElem?_getD,List.getElem?_eq_getElem h1,List.getElem?_eq_getElem h2]at this
    simpa using this))
   clear hlt hk hg
   go_wp2_with fail
   go_returns
   exact⟨by rw [HR.out];rfl,World.Grows.trans' HG.out growsR⟩
def StN(w:World)(N off:Nat)(vs vl:Value):Option (List Int × List Int)→Prop
 |none=>CellsAt w N off [.bool false,.slice none 0 0,.slice none 0 0]
 |some _=>CellsAt w N off [.bool true,vs,vl]
structure WInv(n NS m:Nat)(W0:World)(T:List (Option (List Int × List Int)))(Rs Rl:Nat→Value)(w:World):Prop where
 sz:NS<w.heap.size
 lo:Below NS W0 w
 len:T.length=n+1
 st:∀j,j≤n→StN w NS (j*3) (Rs j) (Rl j) (T.getD j none)
 sf:∀o,w.frozen? ⟨NS,o,none⟩=false
 row:∀j t,T.getD j none=some t→w.ownsRow (NS+1) 3 1 (Rs j) t.1.length (t.1.map (Value.int .i64))∧w.ownsRow (NS+1) 3 1 (Rl j) t.2.length (t.2.map (Value.int .i64))∧t.1.length≤24∧t.2.length=m∧(∀z∈t.1,1≤z)∧(∀z∈t.2,0≤z)
 dl:∀j k t u g,j≠k→T.getD j none=some t→T.getD k none=some u→(Rl j).ownBlock=some g→(Rl k).ownBlock≠some g
 ds:∀j k t u g,T.getD j none=some t→T.getD k none=some u→(Rl j).ownBlock=some g→(Rs k).ownBlock≠some g
def MnP(N off:Nat)(zs ls:List Int)(w:World)(e:Ending)(w':World):Prop:=
 e= .returned (.bool true)∧∃v1 v2,Upd (fun k=>k=N) w w' N off [.bool true,v1,v2]∧w'.ownsRow w.heap.size 3 1 v1 zs.length (zs.map (Value.int .i64))∧w'.ownsRow w.heap.size 3 1 v2 ls.length (ls.map (Value.int .i64))∧∀g,v1.ownBlock=some g→v2.ownBlock≠some g
theorem meet_new(N off B B':Nat)(zs ls:List Int)(vz vl:Value)(w:World)(hN:N<w.heap.size)(hT:CellsAt w N off [.bool false,.slice none 0 0,.slice none 0 0])(hf:∀i,w.frozen? ⟨N,i,none⟩=false)
 (hz:w.ownsRow B 3 1 vz zs.length (zs.map (Value.int .i64))) (hl:w.ownsRow B' 3 1 vl ls.length (ls.map (Value.int .i64))) (hzl:zs.length≤1000) (hll:ls.length≤1000) (hnz:vz.ownBlock≠some N) (hnl:vl.ownBlock≠some N) :
 Calls Tryz.prog 46 #[.pointer (some ⟨N,off,none⟩),vz,vl] w (MnP N off zs ls w):=by
 have HT:=Lib.hid hT
 have HF:=Lib.hid hf
 have c0:w.cell? ⟨N,off,none⟩=some (.bool false):=hT 0 _ rfl
 have c1:w.cell? ⟨N,off+1,none⟩=some (.slice none 0 0):=hT 1 _ rfl
 have c2:w.cell? ⟨N,off+2,none⟩=some (.slice none 0 0):=hT 2 _ rfl
 have f0:=hf off
 have f1:=hf (off+1)
 have f2:=hf (off+2)
 have HZ:Hid (∀W,Mods (fun k=>k=N) w W→W.ownsRow B 3 1 vz zs.length (zs.map (Value.int .i64))):=Lib.hid (fun W hm=>hm.row hz fun k hk e=>hnz (e ▸ hk))
 have HL:Hid (∀W,Mods (fun k=>k=N) w W→W.ownsRow B' 3 1 vl ls.length (ls.map (Value.int .i64))):=Lib.hid (fun W hm=>hm.row hl fun k hk e=>hnl (e ▸ hk))
 have U1:Upd (fun k=>k=N) w (w.setCell ⟨N,off,none⟩ (.bool true)) N off [.bool true,.slice none 0 0,.slice none 0 0]:=(Upd.refl hT).set 0 _ (by simp) rfl
 have HU1:=Lib.hid U1
 clear hz hl hT hf U1 hnz hnl
 go_enter Tryz.func46,Tryz.ntmps46
 go_wp2_with (at_builtin;refine wpList_append_ints rfl _ _ rfl (base:=w.heap.size) (A:=[]) rfl rfl (World.ownsRow_nil _ _ _ _) (HZ.out _ HU1.out.mods) ⟨by simp,hzl⟩ (by simp [World.setCell]) ?_)
 intro v1 w1 hv1 hg1
 obtain⟨a1,k1,rfl⟩:=row_form'' hv1
 have hb1:∀k,k<w.heap.size→w1.heap[k]? =(w.setCell ⟨N,off,none⟩ (.bool true)).heap[k]?:=fun k hk=>hg1.block k (by simpa [World.setCell]using hk) (by simp [Value.ownBlock])
 have hs1:w.heap.size≤w1.heap.size:=by have:=hg1.size;simpa [World.setCell]using this
 have hm1:Mods (fun k=>k=N) (w.setCell ⟨N,off,none⟩ (.bool true)) w1:=⟨hg1.os,hg1.tape,hg1.output,hg1.size,fun k hk _=>hg1.block k hk (by simp [Value.ownBlock])⟩
 have U2:=HU1.out.block hm1 (hb1 N hN)
 have d1:w1.cell? ⟨N,off+1,none⟩=some (.slice none 0 0):=U2.cells 1 _ rfl
 have d2:w1.cell? ⟨N,off+2,none⟩=some (.slice none 0 0):=U2.cells 2 _ rfl
 have e1:w1.frozen? ⟨N,off+1,none⟩=false:=(U2.frz _).trans f1
 have e2:w1.frozen? ⟨N,off+2,none⟩=false:=(U2.frz _).trans f2
 have hN1:N<w1.heap.size:=by omega
 have U3:Upd (fun k=>k=N) w (w1.setCell ⟨N,off+1,none⟩ (.slice a1 zs.length k1)) N off [.bool true,.slice a1 zs.length k1,.slice none 0 0]:=U2.set 1 _ (by simp) rfl
 have HU3:=Lib.hid U3
 have HV1:=Lib.hid hv1
 have HS1:=Lib.hid hs1
 clear hv1 hg1 hb1 hm1 U2 U3 c0 c1 c2 f0 f1 f2
 go_wp2_with (at_builtin;refine wpList_append_ints rfl _ _ rfl (base:=w1.heap.size) (A:=[]) rfl rfl (World.ownsRow_nil _ _ _ _) (HL.out _ HU3.out.mods) ⟨by simp,hll⟩ (by simp [World.setCell]) ?_)
 intro v2 w2 hv2 hg2
 obtain⟨a2,k2,rfl⟩:=row_form'' hv2
 have hb2:∀k,k<w1.heap.size→w2.heap[k]? =(w1.setCell ⟨N,off+1,none⟩ (.slice a1 zs.length k1)).heap[k]?:=fun k hk=>hg2.block k (by simpa [World.setCell]using hk) (by simp [Value.ownBlock])
 have hs2:w1.heap.size≤w2.heap.size:=by have:=hg2.size;simpa [World.setCell]using this
 have hm2:Mods (fun k=>k=N) (w1.setCell ⟨N,off+1,none⟩ (.slice a1 zs.length k1)) w2:=⟨hg2.os,hg2.tape,hg2.output,hg2.size,fun k hk _=>hg2.block k hk (by simp [Value.ownBlock])⟩
 have U4:=HU3.out.block hm2 (hb2 N hN1)
 have g2:w2.cell? ⟨N,off+2,none⟩=some (.slice none 0 0):=U4.cells 2 _ rfl
 have h2:w2.frozen? ⟨N,off+2,none⟩=false:=(U4.frz _).trans (HF.out _)
 have hN2:N<w2.heap.size:=by omega
 have U5:Upd (fun k=>k=N) w (w2.setCell ⟨N,off+2,none⟩ (.slice a2 ls.length k2)) N off [.bool true,.slice a1 zs.length k1,.slice a2 ls.length k2]:=U4.set 2 _ (by simp) rfl
 have hneN:∀k,(Value.slice a1 zs.length k1).ownBlock=some k→w.heap.size≤k∧k<w1.heap.size:=fun k hk=>HV1.out.lt k hk
 have r1:(w2.setCell ⟨N,off+2,none⟩ (.slice a2 ls.length k2)).ownsRow w.heap.size 3 1 (.slice a1 zs.length k1) zs.length (zs.map (Value.int .i64)):=
  Mods.row (P:=fun k=>k=N) (((Mods.setCell (P:=fun k=>k=N) w1 N (off+1) _ rfl).trans hm2).trans (Mods.setCell _ _ _ _ rfl)) HV1.out fun k hk e=>by have:=hneN k hk;omega
 have r2:(w2.setCell ⟨N,off+2,none⟩ (.slice a2 ls.length k2)).ownsRow w.heap.size 3 1 (.slice a2 ls.length k2) ls.length (ls.map (Value.int .i64)):=
  own_lower (Mods.row (P:=fun k=>k=N) (Mods.setCell _ _ _ _ rfl) hv2 fun k hk e=>by have:=(hv2.lt k hk).1;omega) hs1
 have hdis:∀g,(Value.slice a1 zs.length k1).ownBlock=some g→(Value.slice a2 ls.length k2).ownBlock≠some g:=fun g hg e=>by
  have q1:=(hneN g hg).2
  have q2:=(hv2.lt g e).1
  omega
 have HP:=Lib.hid (show MnP N off zs ls w (.returned (.bool true)) (w2.setCell ⟨N,off+2,none⟩ (.slice a2 ls.length k2))from⟨rfl,_,_,U5,r1,r2,hdis⟩)
 clear U4 U5 r1 r2 hdis hneN hm2 hb2 hg2 hv2
 go_wp2_with fail
 go_returns
 exact HP.out
def zipF(a b:Int):Int:=if b=0 then 0 else a
def zipK(t l:List Int)(m k:Nat):List Int:=(List.range m).map fun j=>if j<k then zipF (t.getD j 0) (l.getD j 0)else t.getD j 0
theorem zipK_len(t l:List Int)(m k:Nat):(zipK t l m k).length=m:=by simp [zipK]
theorem zipK_get(t l:List Int)(m k:Nat){j:Nat}(hj:j<m):(zipK t l m k)[j]? =some (if j<k then zipF (t.getD j 0) (l.getD j 0)else t.getD j 0):=by simp [zipK,hj]
theorem zipK_zero{t:List Int}(l:List Int){m:Nat}(h:t.length=m):zipK t l m 0=t:=by
 refine List.ext_getElem? fun j=>?_
 by_cases hj:j<m
 ·rw [zipK_get _ _ _ _ hj,if_neg (by omega),List.getD_eq_getElem?_getD,List.getElem?_eq_getElem (by omega)];rfl
 ·rw [List.getElem?_eq_none (by rw [zipK_len];omega),List.getElem?_eq_none (by omega)]
theorem zipK_all{t l:List Int}{m:Nat}(h:t.length=m)(h':l.length=m):zipK t l m m=List.zipWith (fun a b=>if b=0 then 0 else a) t l:=by
 refine List.ext_getElem? fun j=>?_
 by_cases hj:j<m
 ·rw [zipK_get _ _ _ _ hj,if_pos hj,List.getElem?_zipWith,List.getD_eq_getElem?_getD,List.getD_eq_getElem?_getD,List.getElem?_eq_getElem (by omega),List.getElem?_eq_getElem (by omega)];rfl
 ·rw [List.getElem?_eq_none (by rw [zipK_len];omega),List.getElem?_eq_none (by simp;omega)]
theorem zipK_set(t l:List Int){m k:Nat}(hk:k<m)(h0:l.getD k 0=0):(zipK t l m k).set k 0=zipK t l m (k+1):=by
 refine List.ext_getElem? fun j=>?_
 rw [List.getElem?_set,zipK_len]
 by_cases hj:j<m
 ·rw [zipK_get _ _ _ _ hj,zipK_get _ _ _ _ hj]
  by_cases e:k=j
  ·subst e
   rw [if_pos rfl,if_pos hk,if_pos (by omega),h0];rfl
  ·rw [if_neg e]
   exact mz7
 ·rw [if_neg (by omega),List.getElem?_eq_none (by rw [zipK_len];omega),List.getElem?_eq_none (by rw [zipK_len];omega)]
theorem zipK_skip(t l:List Int){m k:Nat}(hk:k<m)(h0:l.getD k 0≠0):zipK t l m k=zipK t l m (k+1):=by
 refine List.ext_getElem? fun j=>?_
 by_cases hj:j<m
 ·rw [zipK_get _ _ _ _ hj,zipK_get _ _ _ _ hj]
  by_cases e:k=j
  ·subst e
   rw [if_neg (by omega),if_pos (by omega)]
   unfold zipF
   rw [if_neg h0]
  ·exact mz7
 ·rw [List.getElem?_eq_none (by rw [zipK_len];omega),List.getElem?_eq_none (by rw [zipK_len];omega)]
def MoP(B:Nat)(v2:Value)(ts tl zs ls:List Int)(w:World)(e:Ending)(w':World):Prop:=
 e= .returned (.bool (decide (ts=zs)))∧Mods (fun b=>v2.ownBlock=some b) w w'∧w'.ownsRow B 3 1 v2 tl.length ((List.zipWith (fun a b=>if b=0 then 0 else a) tl ls).map (Value.int .i64))
theorem meet_old(N off B B1 B2:Nat)(ts tl zs ls:List Int)(v1 v2 vz vl:Value)(w:World)(hN:N<w.heap.size)(hT:CellsAt w N off [.bool true,v1,v2])
 (r1:w.ownsRow B 3 1 v1 ts.length (ts.map (Value.int .i64))) (r2:w.ownsRow B 3 1 v2 tl.length (tl.map (Value.int .i64))) (hz:w.ownsRow B1 3 1 vz zs.length (zs.map (Value.int .i64))) (hl:w.ownsRow B2 3 1 vl ls.length (ls.map (Value.int .i64)))
 (hlen:ls.length=tl.length) (h24:ts.length≤1000) (hll:tl.length≤1000) (hnN:v2.ownBlock≠some N) (hn1:∀g,v2.ownBlock=some g→v1.ownBlock≠some g) (hnz:∀g,v2.ownBlock=some g→vz.ownBlock≠some g) (hnl:∀g,v2.ownBlock=some g→vl.ownBlock≠some g) :
 Calls Tryz.prog 46 #[.pointer (some ⟨N,off,none⟩),vz,vl] w (MoP B v2 ts tl zs ls w):=by
 have c0:w.cell? ⟨N,off,none⟩=some (.bool true):=hT 0 _ rfl
 have c1:w.cell? ⟨N,off+1,none⟩=some v1:=hT 1 _ rfl
 have c2:w.cell? ⟨N,off+2,none⟩=some v2:=hT 2 _ rfl
 have HSM:Hid (∀W,Mods (fun b=>v2.ownBlock=some b) w W→Calls Tryz.prog 97 #[v1,vz] W fun e w'=>e= .returned (.bool (decide (ts=zs)))∧W.Grows w'):=Lib.hid (fun W hm=>same8_any (hm.row r1 fun k hk e=>hn1 k e hk) (hm.row hz fun k hk e=>hnz k e hk) h24)
 have HLR:Hid (∀W,Mods (fun b=>v2.ownBlock=some b) w W→W.ownsRow B2 3 1 vl ls.length (ls.map (Value.int .i64))):=Lib.hid (fun W hm=>hm.row hl fun k hk e=>hnl k e hk)
 obtain⟨la,lc,hla⟩:=row_form'' hl
 obtain⟨va,vc,hva,hvg⟩:=row_slice r2
 obtain⟨m,hm⟩:∃m,tl.length=m:=⟨_,rfl⟩
 rw [hlen]at hla
 rw [hm]at hla hva hvg hll r2 hlen
 have HM:=Lib.hid (And.intro hm hlen)
 have HR2:=Lib.hid r2
 have HNN:=Lib.hid hnN
 have HVG:Hid (m=0∨∃g,va=some ⟨g,0,none⟩∧g<w.heap.size):=Lib.hid (hvg.imp id fun⟨g,e,hg,_⟩=>⟨g,e,hg⟩)
 have HPO:Hid (∀W W',Mods (fun b=>v2.ownBlock=some b) w W→W.ownsRow B 3 1 v2 m ((zipK tl ls m m).map (Value.int .i64))→W.Grows W'→MoP B v2 ts tl zs ls w (.returned (.bool (decide (ts=zs)))) W'):=Lib.hid (fun W W' h1 h2 hg=>by
  rw [zipK_all HM.out.1 HM.out.2]at h2
  refine⟨rfl,h1.trans (.grows hg), ?_⟩
  rw [HM.out.1]
  exact Mods.row (P:=fun _=>False) (.grows hg) h2 fun _ _ e=>e)
 clear hT r1 r2 hz hl hlen hm hn1 hnz hnl hnN hvg
 generalize decide (ts=zs)=res at *
 obtain⟨v2',hv2'⟩:∃v,v2=v:=⟨_,rfl⟩
 rw [hva]at c2
 rw [hla]
 go_enter Tryz.func46,Tryz.ntmps46
 go_wp2_with fail
 go_loopw [7] (fun v7 wr=>∃k:Nat,k≤m∧v7= .int .i64 k∧Mods (fun b=>v2.ownBlock=some b) w wr∧wr.ownsRow B 3 1 v2 m ((zipK tl ls m k).map (Value.int .i64))) (fun v7 _=>m-(intOf v7).toNat)
 case atStart=>exact⟨0,by omega,rfl,.refl _ _,by rw [zipK_zero _ HM.out.1];exact HR2.out⟩
 case round=>
  obtain⟨k,hk,rfl,hmd,hrow⟩:=hrel
  have HMD:=Lib.hid hmd
  have HROW:=Lib.hid hrow
  have q1:=(hmd.cell hN HNN.out (off+1)).trans c1
  have q2:=(hmd.cell hN HNN.out (off+2)).trans c2
  have hNr:N<wr.heap.size:=Nat.lt_of_lt_of_le hN hmd.size
  by_cases hlt:k<m
  ·have d1:(k:Int)<(m:Int):=by omega
   have d0:(0:Int)≤(k:Int):=by omega
   have hlr:=HLR.out wr hmd
   obtain⟨la',lc',hla',hlg⟩:=row_slice hlr
   rw [HM.out.2]at hla' hlg
   rw [hla]at hla'
   obtain⟨rfl,rfl⟩:la=la'∧lc=lc':=by simpa using hla'
   rcases hlg with h0|⟨gl,rfl,hgl,xl⟩
   ·omega
   have yl:=xl k hlt
   rcases HVG.out with h0|⟨g,rfl,hg⟩
   ·omega
   have hgr:g<wr.heap.size:=Nat.lt_of_lt_of_le hg hmd.size
   have hrow':=hrow
   rw [hva]at hrow'
   have cg:wr.cell? ⟨g,k,none⟩=some (.int .i64 ((zipK tl ls m k).getD k 0)):=by
    have:=own_get hrow' k (by rw [zipK_len];exact hlt)
    rwa [Nat.zero_add]at this
   have fg:wr.frozen? ⟨g,k,none⟩=false:=hrow'.frozenAt k
   have HST:=Lib.hid (hrow'.stored k (.int .i64 0))
   have HVA:=Lib.hid hva
   have HLT:=Lib.hid hlt
   obtain⟨z,hz⟩:∃z,ls.getD k 0=z:=⟨_,rfl⟩
   rw [hz]at yl
   have HZ:=Lib.hid hz
   generalize(zipK tl ls m k).getD k 0=y at *
   clear hmd hrow hrow' hlr hla' xl hz hlt
   by_cases hz0:z=0
   ·subst hz0
    go_wp2_with fail
    go_roundw
    case rel=>exact⟨k+1,HLT.out,by go_num,HMD.out.trans (Mods.setCell _ _ _ _ (by rw [HVA.out];rfl)),by rw [←zipK_set tl ls HLT.out HZ.out,HVA.out,List.map_set];exact HST.out.1⟩
    case measure=>simp [intOf];have:=HLT.out;omega
   ·have hz1:(z==0)=false:=by simpa using hz0
    have HNZ:=Lib.hid hz0
    clear hz0
    go_wp2_with fail
    go_roundw
    case rel=>exact⟨k+1,HLT.out,by go_num,HMD.out,by rw [←zipK_skip tl ls HLT.out (by rw [HZ.out];exact HNZ.out)];exact HROW.out⟩
    case measure=>simp [intOf];have:=HLT.out;omega
  ·obtain rfl:k=m:=by omega
   have HQ:=Lib.hid (fun W (hg:wr.Grows W)=>HSM.out W (HMD.out.trans (.grows hg)))
   have HP:=Lib.hid (fun W' (hg:wr.Grows W')=>HPO.out wr W' HMD.out HROW.out hg)
   clear hmd hrow hlt hk
   go_wp2_with (go_at_call 97;refine(HQ.out _ growsR).mono ?_;rintro e' w2 ⟨rfl,bs,d,rfl⟩)
   go_returns
   exact HP.out _ growsR
end Go.Proofs.YtaghhncnicbedaaGreatDoor
