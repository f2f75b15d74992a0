import Derived.Test.YtblkcgceefjmjaaGreatDoorSAw9R
import Derived.Test.YtblkcgceefjmjaaGreatDoorSK
set_option linter.all false
set_option maxHeartbeats 16000000
set_option maxRecDepth 1000000
namespace Go.Proofs.YtblkcgceefjmjaaGreatDoor
open Go.RowKit
def nmM9(k:Nat):ByteArray:=if k=0 then aNm else bNm
def exRow:Nat→List Value
 |0=>[]
 |k+1=>exRow k++[.int .i64 2,.int .i64 0,.int .i64 0,.int .i64 0,.string (nmM9 k),.slice none 0 0]
def bdRow(ds:List Int):Nat→List Value
 |0=>[]
 |k+1=>bdRow ds k++[.string (nmM9 k),.int .i64 (ds.getD k 0)]
theorem exRow_len(k:Nat):(exRow k).length=k*6:=by
 induction k with
 |zero=>rfl
 |succ k ih=>rw [exRow,List.length_append,ih];simp;omega
def opnE(op:Int)(n:Nat):Ex:=if n=1 then op1E op else op2E op
def opnV(ds:List Int):List (ByteArray × Int):=if ds.length=1 then [(aNm,ds.getD 0 0)]else [(aNm,ds.getD 0 0),(bNm,ds.getD 1 0)]
theorem nm2_rng{s:ByteArray}(h:s.size≤10):ExRng (nm2 s):=⟨⟨by show _≤(2:Int);omega,by show(2:Int)≤_;omega⟩,⟨by show _≤(0:Int);omega,by show(0:Int)≤_;omega⟩,⟨by show _≤(0:Int);omega,by show(0:Int)≤_;omega⟩,⟨by show _≤(0:Int);omega,by show(0:Int)≤_;omega⟩,by simp [Ex.args,nm2],by show s.size≤_;omega⟩
theorem opn_rng{op:Int}(h:4≤op∧op≤20){l:List Ex}(hl:l.length≤2):ExRng (.mk op 0 0 0 noM l):=⟨⟨by show _≤op;omega,by show op≤_;omega⟩,⟨by show _≤(0:Int);omega,by show(0:Int)≤_;omega⟩,⟨by show _≤(0:Int);omega,by show(0:Int)≤_;omega⟩,⟨by show _≤(0:Int);omega,by show(0:Int)≤_;omega⟩,by show l.length≤_;omega,by show noM.size≤_;decide⟩
theorem rep_opn{w:World}{B n:Nat}{va:Value}{op:Int}(h4:4≤op∧op≤20)(hn:n=1∨n=2)(h:w.ownsRow B 27 6 va n (exRow n)):RepE (fun _=>True) w (opnE op n) va:=by
 obtain⟨-,h0|⟨g,cap,cur,rfl,-,hg,-⟩⟩:=id h
 ·omega
 have hlt:g<w.heap.size:=(Array.getElem?_eq_some_iff.1 hg).1
 have leaf:∀s:ByteArray,s.size≤10→RepE (fun _=>True) w (nm2 s) (.slice none 0 0):=fun s hs=>RepE.nil (nm2_rng hs) rfl
 have hx:∀k,k<n→∀j u,[Value.int .i64 2,.int .i64 0,.int .i64 0,.int .i64 0,.string (nmM9 k),.slice none 0 0][j]? =some u→w.cell? ⟨g,0+k*6+j,none⟩=some u:=fun k hk j u hu=>by
  have hj:j<6:=(List.getElem?_eq_some_iff.1 hu).1
  rw [Nat.zero_add,h.cellAt (k*6+j) (by omega)]
  rcases hn with rfl|rfl
  ·obtain rfl:k=0:=by omega
   simpa [exRow]using hu
  ·rcases(by omega:k=0∨k=1)with rfl|rfl
   ·rw [exRow,List.getElem?_append_left (by rw [exRow_len];omega)]
    simpa [exRow]using hu
   ·rw [exRow,List.getElem?_append_right (by rw [exRow_len];omega),exRow_len]
    rw [show 1*6+j-1*6=j by omega];exact hu
 have at':∀k,k<n→ExAt w g (0+k*6) (nm2 (nmM9 k)) (.slice none 0 0):=fun k hk=>⟨hx k hk 0 _ rfl,hx k hk 1 _ rfl,hx k hk 2 _ rfl,hx k hk 3 _ rfl,hx k hk 4 _ rfl,hx k hk 5 _ rfl⟩
 rcases hn with rfl|rfl
 ·exact RepE.mk (op1E op) _ cap (fun _=>.slice none 0 0) (opn_rng h4 (by simp)) (.inr ⟨g,0,rfl,trivial,hlt,fun i hi=>by
   obtain rfl:i=0:=by simp [op1E,Ex.args]at hi;omega
   exact at' 0 (by omega)⟩) (fun i hi=>by
   obtain rfl:i=0:=by simp [op1E,Ex.args]at hi;omega
   exact leaf aNm (by decide))
 ·exact RepE.mk (op2E op) _ cap (fun _=>.slice none 0 0) (opn_rng h4 (by simp)) (.inr ⟨g,0,rfl,trivial,hlt,fun i hi=>by
   rcases(by simp [op2E,Ex.args]at hi;omega:i=0∨i=1)with rfl|rfl
   ·exact at' 0 (by omega)
   ·exact at' 1 (by omega)⟩) (fun i hi=>by
   rcases(by simp [op2E,Ex.args]at hi;omega:i=0∨i=1)with rfl|rfl
   ·exact leaf aNm (by decide)
   ·exact leaf bNm (by decide))
theorem bind_opn{w:World}{B:Nat}{vb:Value}{ds:List Int}(hn:ds.length=1∨ds.length=2)(h:w.ownsRow B 126 2 vb ds.length (bdRow ds ds.length)):BindAt w vb (opnV ds):=by
 obtain⟨-,h0|⟨g,cap,cur,rfl,-,hg,-⟩⟩:=id h
 ·omega
 have hlt:g<w.heap.size:=(Array.getElem?_eq_some_iff.1 hg).1
 have c:=h.cellAt
 match ds,hn with
 | [d],_=>
   refine⟨by simp [opnV],_,cap,rfl,.inr ⟨g,0,rfl,hlt,fun i hi=>?_⟩⟩
   obtain rfl:i=0:=by simp [opnV]at hi;omega
   exact⟨c 0 (by simp),c 1 (by simp)⟩
 | [d,e],_=>
   refine⟨by simp [opnV],_,cap,rfl,.inr ⟨g,0,rfl,hlt,fun i hi=>?_⟩⟩
   rcases(by simp [opnV]at hi;omega:i=0∨i=1)with rfl|rfl
   ·exact⟨c 0 (by simp),c 1 (by simp)⟩
   ·exact⟨c 2 (by simp),c 3 (by simp)⟩
theorem opn_inf{op:Int}{ds:List Int}(h:(4≤op∧op≤6∧ds.length=1)∨(7≤op∧op≤20∧ds.length=2))(hd:∀z∈ds,1≤z∧z≤4):inferE (opnV ds) (opnE op ds.length)=if resD op ds=0 then(0,6)else(resD op ds,0):=by
 rcases h with ⟨h1,h2,h3⟩|⟨h1,h2,h3⟩
 ·match ds,h3 with
  | [d],_=>exact oper_inf1 (by omega) (hd d (by simp))
 ·match ds,h3 with
  | [d,e],_=>exact oper_inf2 ⟨h1,h2⟩ (hd d (by simp)) (hd e (by simp))
def InfSaid:Prop:=∀(S:Nat→Prop) (env:List (ByteArray × Int)) (e:Ex) (v ve:Value) (w:World),RepE S w e v→e.size≤2305843009213693952→Tab w→BindAt w ve env→Calls Tryz.prog 66 #[exV e v,ve] w (InfP (inferE env e) w)
structure OpBox(X:Nat)(op:Int)(va:Value)(w:World):Prop where
 e0:w.cell? ⟨X,0,none⟩=some (.int .i64 op)
 e1:w.cell? ⟨X,1,none⟩=some (.int .i64 0)
 e2:w.cell? ⟨X,2,none⟩=some (.int .i64 0)
 e3:w.cell? ⟨X,3,none⟩=some (.int .i64 0)
 e4:w.cell? ⟨X,4,none⟩=some (.string ⟨#[]⟩)
 e5:w.cell? ⟨X,5,none⟩=some va
 fz:w.frozen? ⟨X,5,none⟩=false
 nm:∀k,k<2→w.cell? ⟨X+1,k,none⟩=some (.string (nmM9 k))
theorem OpBox.same{X:Nat}{op:Int}{va:Value}{w w':World}(h:OpBox X op va w)(e:w'.heap[X]? =w.heap[X]?)(e':w'.heap[X+1]? =w.heap[X+1]?):OpBox X op va w':=by
 have c:∀o,w'.cell? ⟨X,o,none⟩=w.cell? ⟨X,o,none⟩:=fun o=>World.cell?_of_block (a:=⟨X,o,none⟩) e
 have d:∀o,w'.cell? ⟨X+1,o,none⟩=w.cell? ⟨X+1,o,none⟩:=fun o=>World.cell?_of_block (a:=⟨X+1,o,none⟩) e'
 exact⟨(c _).trans h.e0,(c _).trans h.e1,(c _).trans h.e2,(c _).trans h.e3,(c _).trans h.e4,(c _).trans h.e5,(World.frozen?_of_block (a:=⟨X,5,none⟩) e).trans h.fz,fun k hk=>(d k).trans (h.nm k hk)⟩
theorem OpBox.set{X:Nat}{op:Int}{va vb:Value}{w:World}(h:OpBox X op va w):OpBox X op vb (w.setCell ⟨X,5,none⟩ vb):=by
 have c:∀o,o≠5→(w.setCell ⟨X,5,none⟩ vb).cell? ⟨X,o,none⟩=w.cell? ⟨X,o,none⟩:=fun o ho=>World.cell?_setCell_other _ _ _ _ (by simp<;>omega)
 exact⟨(c _ (by omega)).trans h.e0,(c _ (by omega)).trans h.e1,(c _ (by omega)).trans h.e2,(c _ (by omega)).trans h.e3,(c _ (by omega)).trans h.e4,World.cell?_setCell_same _ _ _ h.e5,(World.frozen?_setCell _ _ _ _).trans h.fz,fun k hk=>(World.cell?_setCell_other _ _ _ _ (by simp)).trans (h.nm k hk)⟩
theorem own_cut{w:World}{B g L m cap:Nat}{e:TypeId}{zs:List Int}(h:w.ownsRow B e 1 (.slice (some ⟨g,0,none⟩) L cap) L (zs.map (Value.int .i64)))(hm:m≤L):w.ownsRow B e 1 (.slice (some ⟨g,0,none⟩) m cap) (zs.take m).length ((zs.take m).map (Value.int .i64)):=by
 obtain⟨hx,h0|⟨g',cap',cur,hv,hb,hg,hn,hcap,hcs,ht⟩⟩:=h
 ·exact absurd h0.1 (by simp)
 obtain⟨rfl,-,rfl⟩:g=g'∧L=L∧cap=cap':=by simpa using hv
 have hl:zs.length=L:=by simpa using hx
 have e1:(zs.take m).length=m:=by rw [List.length_take];omega
 rw [e1]
 refine⟨by rw [List.length_map,e1,Nat.mul_one],.inr ⟨g,cap,cur,rfl,hb,hg,by omega,hcap,hcs, ?_⟩⟩
 rw [Nat.mul_one]at ht ⊢
 rw [List.map_take,←ht,List.take_take,Nat.min_eq_left hm]
theorem StkR.cut{N o B g L m cap:Nat}{zs:List Int}{w:World}(c1:w.cell? ⟨N,o,none⟩=some (.slice (some ⟨g,0,none⟩) L cap))(h:w.ownsRow B 3 1 (.slice (some ⟨g,0,none⟩) L cap) L (zs.map (Value.int .i64)))(hm:m≤L)(hne:g≠N) :
 StkR N o B (.slice (some ⟨g,0,none⟩) L cap) (.slice (some ⟨g,0,none⟩) m cap) (zs.take m) w (w.setCell ⟨N,o,none⟩ (.slice (some ⟨g,0,none⟩) m cap)):=by
 have hc:CellsAt w N o [.slice (some ⟨g,0,none⟩) L cap]:=fun i u hu=>by
  match i,hu with
  |0,hu=>obtain rfl:=Option.some.inj hu;exact c1
  |i+1,hu=>simp at hu
 refine⟨(Upd.refl hc).set 0 _ (by simp) (.inl rfl),Mods.row (P:=fun k=>k=N) (Mods.setCell _ _ _ _ rfl) (own_cut h hm) fun k hk e=>?_,fun k hk=>.inl hk⟩
 have:g=k:=by simpa [Value.ownBlock]using hk
 omega
theorem push_cut(N off B g L m cap:Nat)(zs:List Int)(dim:Int)(w:World)(c1:w.cell? ⟨N,off+1,none⟩=some (.slice (some ⟨g,0,none⟩) L cap))(h:w.ownsRow B 3 1 (.slice (some ⟨g,0,none⟩) L cap) L (zs.map (Value.int .i64)))(hm:m≤L)(hl:L≤1000)(hb:B≤w.heap.size)(hN:N<w.heap.size)(hne:g≠N)(hf:w.frozen? ⟨N,off+1,none⟩=false) :
 Calls Tryz.prog 191 #[.pointer (some ⟨N,off,none⟩),.int .i64 dim] (w.setCell ⟨N,off+1,none⟩ (.slice (some ⟨g,0,none⟩) m cap)) fun e w'=>e= .returned (.tuple #[])∧∃g' cap',StkR N (off+1) B (.slice (some ⟨g,0,none⟩) L cap) (.slice (some ⟨g',0,none⟩) (zs.take m++[dim]).length cap') (zs.take m++[dim]) w w':=by
 have K:=StkR.cut c1 h hm hne
 have hzl:zs.length=L:=by have:=h.1;simpa using this
 have hlm:(zs.take m).length=m:=by rw [List.length_take];omega
 have hs:(w.setCell ⟨N,off+1,none⟩ (.slice (some ⟨g,0,none⟩) m cap)).heap.size=w.heap.size:=by simp [World.setCell]
 have hno:(Value.slice (some ⟨g,0,none⟩) m cap).ownBlock≠some N:=by simp [Value.ownBlock];exact hne
 have c1':(w.setCell ⟨N,off+1,none⟩ (.slice (some ⟨g,0,none⟩) m cap)).cell? ⟨N,off+1,none⟩=some (.slice (some ⟨g,0,none⟩) m cap):=World.cell?_setCell_same _ _ _ c1
 have hp:=push_any N off B (some ⟨g,0,none⟩) cap (zs.take m) dim _ (by rw [hlm];exact c1') (by have:=K.row;rw [hlm]at this ⊢;exact this) (by rw [hs];exact hb) (by rw [hs];exact hN) (by rw [hlm];exact hno) (by omega) (fun w1 hg=>by
  rw [hg.frozen_far ⟨N,off+1,none⟩ (by rw [hs];exact hN) (by rw [hlm];exact fun e=>hno e.symm),World.frozen?_setCell];exact hf)
 rw [hlm]at hp
 refine hp.mono fun e w' q=>?_
 obtain⟨he,g',cap',hk⟩:=q.stk c1' hno (by rw [hs];exact hN)
 exact⟨he,g',cap',K.trans hk⟩
theorem infoEx:(Tryz.prog.info? 27).map (fun i=>(i.zero,i.size,i.bytes))=some (some (.agg #[.int .i64 0,.int .i64 0,.int .i64 0,.int .i64 0,.string ⟨#[]⟩,.slice none 0 0]),6,72):=by kernel_rfl
theorem infoBd:(Tryz.prog.info? 126).map (fun i=>(i.zero,i.size,i.bytes))=some (some (.agg #[.string ⟨#[]⟩,.int .i64 0]),2,24):=by kernel_rfl
def OprP(N off B:Nat)(v:Value)(zs:List Int)(op:Int)(w:World)(e:Ending)(w':World):Prop:=
 (zs.length<ariF op∨resD op (zs.drop (zs.length-ariF op))=0→e= .returned (.bool false)∧w.Grows w')∧
 (¬(zs.length<ariF op∨resD op (zs.drop (zs.length-ariF op))=0)→e= .returned (.bool true)∧∃g cap,StkR N (off+1) B v (.slice (some ⟨g,0,none⟩) (zs.take (zs.length-ariF op)++[resD op (zs.drop (zs.length-ariF op))]).length cap) (zs.take (zs.length-ariF op)++[resD op (zs.drop (zs.length-ariF op))]) w w')
theorem operate_few(N off B:Nat)(zs:List Int)(a:Option Addr)(cap:Nat)(op:Int)(w:World)(c1:w.cell? ⟨N,off+1,none⟩=some (.slice a zs.length cap))(hl:zs.length≤100)(hlt:zs.length<ariF op) :
 Calls Tryz.prog 193 #[.pointer (some ⟨N,off,none⟩),.int .i64 op] w (OprP N off B (.slice a zs.length cap) zs op w):=by
 have HO:=Lib.hid (fun w=>operands_any op w)
 have h2:ariF op≤2:=by unfold ariF;split<;>omega
 have HP:Hid (∀w',w.Grows w'→OprP N off B (.slice a zs.length cap) zs op w (.returned (.bool false)) w'):=Lib.hid (fun w' hg=>⟨fun _=>⟨rfl,hg⟩,fun h=>absurd (.inl hlt) h⟩)
 generalize ariF op=n at *
 generalize zs.length=L at *
 have d1:(L:Int)<(n:Int):=by omega
 go_enter Tryz.func193,Tryz.ntmps193
 go_wp2_with (go_at_call 104;refine(HO.out _).mono ?_;rintro e' w' ⟨rfl,rfl⟩)
 go_returns
 exact HP.out _ growsR
theorem operate_core(hInf:Hid InfSaid)(N off B g n m cap:Nat)(zs:List Int)(op:Int)(w:World)(hn:n=1∨n=2)(har:Hid (ariF op=n))(hz:Hid (zs.length=m+n))(hop:Hid (4≤op∧op≤20))(hr:Hid (∀z∈zs,1≤z∧z≤4))(hmn:m+n≤100)
 (c1:w.cell? ⟨N,off+1,none⟩=some (.slice (some ⟨g,0,none⟩) (m+n) cap)) (ho:w.ownsRow B 3 1 (.slice (some ⟨g,0,none⟩) (m+n) cap) (m+n) (zs.map (Value.int .i64))) (hb:B≤w.heap.size) (hN:N<w.heap.size) (hne:g≠N) (hf:w.frozen? ⟨N,off+1,none⟩=false) (ht:Tab w) :
 Calls Tryz.prog 193 #[.pointer (some ⟨N,off,none⟩),.int .i64 op] w (OprP N off B (.slice (some ⟨g,0,none⟩) (m+n) cap) zs op w):=by
 obtain⟨i1,hi1,hz01,hz11,hz21⟩:=info_parts infoEx
 obtain⟨i2,hi2,hz02,hz12,hz22⟩:=info_parts infoBd
 have HO:=Lib.hid (fun w=>operands_any op w)
 rw [har.out]at HO
 have HT:=Lib.hid ht
 have HRow:=Lib.hid ho
 obtain⟨-,h0|⟨g',cap',cur,hgv,-,hgh,hncap,-⟩⟩:=id ho
 ·exact absurd h0.1 (by simp)
 obtain⟨rfl,-,rfl⟩:g=g'∧m+n=m+n∧cap=cap':=by simpa using hgv
 have hgl:g<w.heap.size:=(Array.getElem?_eq_some_iff.1 hgh).1
 have hds:(zs.drop m).length=n:=by rw [List.length_drop,hz.out];omega
 have HDS:=Lib.hid hds
 have hcz:∀k,k<n→w.cell? ⟨g,m+k,none⟩=some (.int .i64 ((zs.drop m).getD k 0)):=fun k hk=>by
  rw [ho.cellAt (m+k) (by omega),List.getElem?_map,List.getD_eq_getElem?_getD,List.getElem?_drop]
  have:=hz.out
  rw [List.getElem?_eq_getElem (by omega:m+k<zs.length)];rfl
 have HCZ:=Lib.hid hcz
 have HDR:=Lib.hid (fun z (h:z∈zs.drop m)=>hr.out z (List.mem_of_mem_drop h))
 clear hcz ho hds ht hgv hgh
 obtain⟨ds,hds⟩:∃ds,zs.drop m=ds:=⟨_,rfl⟩
 rw [hds]at HDS HCZ HDR
 have HE:=Lib.hid hds
 clear hds
 have hNX:N≠w.heap.size:=by omega
 have hgX:g≠w.heap.size:=by omega
 have hw1:((m+n:Nat):Int)-(n:Int)=(m:Int):=by omega
 have hnlt:¬((m+n:Nat):Int)<(n:Int):=by omega
 go_enter Tryz.func193,Tryz.ntmps193
 go_wp2_with (go_at_call 104;refine(HO.out _).mono ?_;rintro e' w' ⟨rfl,rfl⟩)
 go_loopw [8,35] (fun v8 v35 wr=>∃(k:Nat) (va vb:Value),k≤n∧v35= .int .i64 k∧vb=v8∧w.Grows wr∧w.heap.size+1<wr.heap.size∧OpBox w.heap.size op va wr∧wr.ownsRow (w.heap.size+2) 27 6 va k (exRow k)∧wr.ownsRow (w.heap.size+2) 126 2 vb k (bdRow ds k)∧(∀j,va.ownBlock=some j→vb.ownBlock≠some j)) (fun _ v35 _=>n-(intOf v35).toNat)
 case atStart=>
  exact⟨0,.slice none 0 0,.slice none 0 0,by omega,rfl,rfl,growsR,by simp,⟨by simp [go_sem],by simp [go_sem],by simp [go_sem],by simp [go_sem],by simp [go_sem],by simp [go_sem],by simp [go_sem],fun k hk=>by
   rcases(by omega:k=0∨k=1)with rfl|rfl<;>simp [go_sem,nmM9,aNm,bNm]⟩,World.ownsRow_nil _ _ _ _,World.ownsRow_nil _ _ _ _,fun j h=>by cases h⟩
 case round=>
  obtain⟨k,va,vb,hk,rfl,rfl,hg,hsz,hbx,hva,hvb,hdis⟩:=hrel
  have HG:=Lib.hid hg
  have HBX:=Lib.hid hbx
  have HVA:=Lib.hid hva
  have HVB:=Lib.hid hvb
  have HDI:=Lib.hid hdis
  have b1:wr.cell? ⟨N,off+1,none⟩=some (.slice (some ⟨g,0,none⟩) (m+n) cap):=(World.cell?_of_block (hg.below.block N hN)).trans c1
  have hNr:N<wr.heap.size:=by have:=hg.below.size;omega
  have hgr:g<wr.heap.size:=by have:=hg.below.size;omega
  obtain⟨e0,e1,e2,e3,e4,e5,fz,nm⟩:=hbx
  by_cases hlt:k<n
  ·have d1:(k:Int)<(n:Int):=by omega
   have nk:=nm k (by omega)
   have ck:=(World.cell?_of_block (a:=⟨g,m+k,none⟩) (hg.below.block g hgl)).trans (HCZ.out k hlt)
   have hXB:=bdRow ds
   have HBS:Hid (bdRow ds (k+1)=bdRow ds k++[.string (nmM9 k),.int .i64 (ds.getD k 0)]):=Lib.hid rfl
   obtain⟨z,hzk⟩:∃z,ds.getD k 0=z:=⟨_,rfl⟩
   obtain⟨q,hq⟩:∃q,m+k=q:=⟨_,rfl⟩
   rw [hzk,hq]at ck
   rw [hzk]at HBS
   have hqi:(m:Int)+(k:Int)=(q:Int):=by omega
   have hqn:(q:Int)<((m+n:Nat):Int):=by omega
   have hq0:(0:Int)≤(q:Int):=by omega
   have HKN:=Lib.hid hlt
   clear hg hva hvb hdis nm hXB hzk hq hlt
   go_wp2_with (at_builtin;refine wpList_append_lies _ rfl _ _ 25 rfl (w.heap.size+2) 27 i1 _ 6 72 Tryz.underlying25 hi1 hz01 hz11 hz21 rfl (by decide) va k _ rfl (HVA.out.alloc _) ⟨wr.heap.size,0,none⟩ 1 1 [.int .i64 2,.int .i64 0,.int .i64 0,.int .i64 0,.string (nmM9 k),.slice none 0 0] rfl rfl ?c1 ?c2 (by decide) ?c3 ?c4 ?c5 (wr.heap.size+1) (by simp) ?_)
   case c1=>exact news_cells _ [.int .i64 2,.int .i64 0,.int .i64 0,.int .i64 0,.string (nmM9 k),.slice none 0 0] _ _ (by simp)
   case c2=>intro u hu;simp at hu;rcases hu with rfl|rfl|rfl|rfl|rfl|rfl<;>rfl
   case c3=>unfold maxLen;omega
   case c4=>omega
   case c5=>simp;omega
   intro ga cpa w1 hown hgrow hgg hgl1
   have hg1:wr.grownBy w1 va.ownBlock:=⟨hgrow.os,hgrow.tape,hgrow.output,by have:=hgrow.size;simp at this;omega,fun k hk hne=>(hgrow.block k (by simp;omega) hne).trans (Below.heap_alloc wr _ k hk)⟩
   have hXa:some w.heap.size≠va.ownBlock:=fun e=>by have:=(HVA.out.lt _ e.symm).1;omega
   have hXa1:some (w.heap.size+1)≠va.ownBlock:=fun e=>by have:=(HVA.out.lt _ e.symm).1;omega
   have hNa:some N≠va.ownBlock:=fun e=>by have:=(HVA.out.lt _ e.symm).1;omega
   have hga:some g≠va.ownBlock:=fun e=>by have:=(HVA.out.lt _ e.symm).1;omega
   have q1:=(hg1.cell_far ⟨N,off+1,none⟩ hNr hNa).trans b1
   have q2:=(hg1.cell_far ⟨g,q,none⟩ hgr hga).trans ck
   have HBX1:=Lib.hid (HBX.out.same (hg1.block _ (by omega) hXa) (hg1.block _ hsz hXa1))
   have q5:=HBX1.out.e5
   have qf:=HBX1.out.fz
   have hX1:w.heap.size<w1.heap.size:=by have:=hg1.size;omega
   have hs1:=hg1.size
   have HVB1:=Lib.hid (Mods.row (P:=fun b=>va.ownBlock=some b) (Mods.grown hg1 fun _ e=>e) HVB.out fun b hb e=>HDI.out b e hb)
   have HOA:=Lib.hid hown
   have HGG:=Lib.hid hgg
   have HG1:=Lib.hid hg1
   have HAG:Hid (w.Grows w1):=Lib.hid (World.Grows.grown HG.out hg1 fun b e=>(by have:=(HVA.out.lt _ e).1;omega))
   have HBL:Hid (vb.ownBlock≠some ga):=Lib.hid (fun e=>by
    rcases HGG.out with h|h
    ·exact HDI.out _ h e
    ·have:=(HVB.out.lt _ e).2;omega)
   have hgl1':=hgl1
   have hX2:w.heap.size+2≤ga:=by
    rcases hgg with h|h
    ·exact(HVA.out.lt _ h).1
    ·omega
   clear hown hgrow hgg hg1 hgl1 hXa hXa1 hNa hga e5 fz b1 ck e0 e1 e2 e3 e4 nk
   have HVB2:Hid ((w1.setCell ⟨w.heap.size,5,none⟩ (.slice (some ⟨ga,0,none⟩) (k+1) cpa)).ownsRow (w.heap.size+2) 126 2 vb k (bdRow ds k)):=Lib.hid (Mods.row (P:=fun b=>b=w.heap.size) (Mods.setCell w1 w.heap.size 5 (.slice (some ⟨ga,0,none⟩) (k+1) cpa) rfl) HVB1.out (fun b hb e=>by have:=(HVB1.out.lt _ hb).1;omega))
   go_wp2_with (at_builtin;refine wpList_append_lies _ rfl _ _ 52 rfl (w.heap.size+2) 126 i2 _ 2 24 Tryz.underlying52 hi2 hz02 hz12 hz22 rfl (by decide) vb k _ rfl (HVB2.out.alloc _) ⟨w1.heap.size,0,none⟩ 1 1 [.string (nmM9 k),.int .i64 z] rfl rfl ?c1 ?c2 (by decide) ?c3 ?c4 ?c5 (w1.heap.size+1) (by simp) ?_)
   case c1=>exact news_cells _ [.string (nmM9 k),.int .i64 z] _ _ (by simp)
   case c2=>intro u hu;simp at hu;rcases hu with rfl|rfl<;>rfl
   case c3=>unfold maxLen;omega
   case c4=>omega
   case c5=>simp;omega
   intro gb cpb w2 hown hgrow hgg hgl2
   have HU:=Lib.hid (show(w1.setCell ⟨w.heap.size,5,none⟩ (.slice (some ⟨ga,0,none⟩) (k+1) cpa)).grownBy w2 vb.ownBlock from⟨hgrow.os,hgrow.tape,hgrow.output,by have:=hgrow.size;simp at this;simp;omega,fun b hb hne=>(hgrow.block b (by simp at hb ⊢;omega) hne).trans (Below.heap_alloc _ _ b hb)⟩)
   have HOB:=Lib.hid hown
   have HGB:=Lib.hid hgg
   have HGL2:=Lib.hid hgl2
   have hs2:w1.heap.size≤w2.heap.size:=by have:=HU.out.size;simpa using this
   clear hown hgrow hgg hgl2
   go_wp2_with fail
   go_roundw
   case rel=>
    have hMU:Mods (fun b=>vb.ownBlock=some b) _ w2:=Mods.grown HU.out fun _ e=>e
    have hXv:∀b,vb.ownBlock=some b→w.heap.size+2≤b:=fun b e=>(HVB.out.lt _ e).1
    refine⟨k+1,.slice (some ⟨ga,0,none⟩) (k+1) cpa,_,HKN.out,by go_num,rfl, ?_,by omega, ?_, ?_,by rw [HBS.out];exact HOB.out, ?_⟩
    ·exact .of_below (hMU.below (HAG.out.below.setCell (Nat.le_refl _) _) (by simp;have:=HAG.out.below.size;omega) fun b e=>by have:=hXv b e;omega)
    ·exact HBX1.out.set.same (hMU.block _ (by simp;omega) fun e=>by have:=hXv _ e;omega) (hMU.block _ (by simp;omega) fun e=>by have:=hXv _ e;omega)
    ·refine hMU.row (Mods.row (P:=fun b=>b=w.heap.size) (Mods.setCell _ _ _ _ rfl) HOA.out fun b hb e=>?_) fun b hb e=>?_
     ·have:ga=b:=by simpa [Value.ownBlock]using hb
      omega
     ·have:ga=b:=by simpa [Value.ownBlock]using hb
      exact HBL.out (this ▸ e)
    ·intro j hj e
     have h1:ga=j:=by simpa [Value.ownBlock]using hj
     have h2:gb=j:=by simpa [Value.ownBlock]using e
     rcases HGB.out with h|h
     ·exact HBL.out (by rw [h,h2,h1])
     ·omega
   case measure=>simp [intOf];have:=HKN.out;omega
  ·obtain rfl:k=n:=by omega
   have hk1:((4:Int)≤op∧op≤6∧ds.length=k)∧k=1∨(7≤op∧op≤20∧ds.length=k)∧k=2:=by
    have h1:=har.out
    have h2:=hop.out
    have h3:=HDS.out
    unfold ariF at h1
    split at h1<;>omega
   have hIN:inferE (opnV ds) (opnE op k)=if resD op ds=0 then(0,6)else(resD op ds,0):=by
    rw [←HDS.out]
    exact opn_inf (by
     have h3:=HDS.out
     rcases hk1 with ⟨⟨p1,p2,p3⟩,p4⟩|⟨⟨p1,p2,p3⟩,p4⟩
     ·exact .inl ⟨p1,p2,by omega⟩
     ·exact .inr ⟨p1,p2,by omega⟩) HDR.out
   have hsz':(opnE op k).size≤2305843009213693952:=by
    unfold opnE
    split<;>simp [op1E,op2E,nm2,Ex.size,Ex.sizes]
   have hbd:BindAt wr vb (opnV ds):=bind_opn (by rw [HDS.out];exact hn) (by rw [HDS.out];exact hvb)
   have HI:=Lib.hid (fun w' (hg':wr.Grows w')=>hInf.out (fun _=>True) (opnV ds) (opnE op k) va vb w' ((rep_opn hop.out hn hva).grows hg') hsz' (HT.out.grows (World.Grows.trans' hg hg')) (hbd.grows hg'))
   rw [hIN]at HI
   have hexv:exV (opnE op k) va= .agg #[.int .i64 op,.int .i64 0,.int .i64 0,.int .i64 0,.string ⟨#[]⟩,va]:=by
    unfold opnE
    split<;>rfl
   rw [hexv]at HI
   unfold InfP at HI
   have HSP:Hid (OprP N off B (.slice (some ⟨g,0,none⟩) (m+k) cap) zs op w=fun e w'=>(resD op ds=0→e= .returned (.bool false)∧w.Grows w')∧(¬resD op ds=0→e= .returned (.bool true)∧∃g' cap',StkR N (off+1) B (.slice (some ⟨g,0,none⟩) (m+k) cap) (.slice (some ⟨g',0,none⟩) (zs.take m++[resD op ds]).length cap') (zs.take m++[resD op ds]) w w')):=Lib.hid (by
    funext e w'
    unfold OprP
    have hzl:=hz.out
    have e1:zs.length-ariF op=m:=by rw [har.out];omega
    have e2:¬zs.length<ariF op:=by rw [har.out];omega
    simp only [e1,HE.out,e2,false_or])
   clear hva hvb hdis hIN hexv hbd hsz' hk1
   have hbr:wr.frozen? ⟨N,off+1,none⟩=false:=(World.frozen?_of_block (a:=⟨N,off+1,none⟩) (hg.below.block N hN)).trans hf
   clear hg nm
   by_cases hz0:resD op ds=0
   ·rw [if_pos hz0]at HI
    go_wp2_with (go_at_call 66;refine(HI.out _ growsR).mono ?_;rintro e' w' ⟨rfl,bs,d,rfl⟩)
    go_returns
    rw [HSP.out]
    exact⟨fun _=>⟨rfl,World.Grows.trans' HG.out growsR⟩,fun h=>absurd hz0 h⟩
   ·rw [if_neg hz0]at HI
    have HPU:Hid (∀wq,wr.Grows wq→Calls Tryz.prog 191 #[.pointer (some ⟨N,off,none⟩),.int .i64 (resD op ds)] (wq.setCell ⟨N,off+1,none⟩ (.slice (some ⟨g,0,none⟩) m cap)) fun e w'=>e= .returned (.tuple #[])∧∃g' cap',StkR N (off+1) B (.slice (some ⟨g,0,none⟩) (m+k) cap) (.slice (some ⟨g',0,none⟩) (zs.take m++[resD op ds]).length cap') (zs.take m++[resD op ds]) w w'):=Lib.hid (fun wq hq=>by
     have hwq:=World.Grows.trans' HG.out hq
     refine(push_cut N off B g (m+k) m cap zs (resD op ds) wq ((World.cell?_of_block (hq.below.block N hNr)).trans b1) (Mods.row (P:=fun _=>False) (.grows hwq) HRow.out fun _ _ e=>e) (by omega) (by omega) (by have:=hwq.below.size;omega) (by have:=hwq.below.size;omega) hne ((World.frozen?_of_block (a:=⟨N,off+1,none⟩) (hq.below.block N hNr)).trans hbr)).mono ?_
     rintro e w' ⟨he,g',cap',hk⟩
     exact⟨he,g',cap',hk.pre hwq hN⟩)
    have HPV:=Lib.hid (fun bs d=>by
     have:=HPU.out (wr.grow bs d) ⟨bs,d,rfl⟩
     rw [World.setCell_grow _ _ _ _ hNr]at this
     exact this)
    generalize resD op ds=dim at *
    have HZ0:=Lib.hid hz0
    clear hz0
    go_wp2_with (first
     |(go_at_call 66;refine(HI.out _ growsR).mono ?_;rintro e' w' ⟨rfl,bs,d,rfl⟩)
     |(go_at_call 191;refine(HPV.out _ _).mono ?_;rintro e' w' ⟨rfl,g',cap',hk'⟩;have HK:=Lib.hid hk';clear hk'))
    go_returns
    rw [HSP.out]
    exact⟨fun h=>absurd h HZ0.out,fun _=>⟨rfl,g',cap',HK.out⟩⟩
theorem operate_any(hInf:Hid InfSaid)(N off B:Nat)(v:Value)(zs:List Int)(op:Int)(w:World)(hop:4≤op∧op≤20)(hr:∀z∈zs,1≤z∧z≤4)(hl:zs.length≤100)(c1:w.cell? ⟨N,off+1,none⟩=some v)(ho:w.ownsRow B 3 1 v zs.length (zs.map (Value.int .i64)))(hb:B≤w.heap.size)(hN:N<w.heap.size)(hne:v.ownBlock≠some N)(hf:w.frozen? ⟨N,off+1,none⟩=false)(ht:Tab w) :
 Calls Tryz.prog 193 #[.pointer (some ⟨N,off,none⟩),.int .i64 op] w (OprP N off B v zs op w):=by
 obtain⟨a,cap,rfl,hg⟩:∃a cap,v= .slice a zs.length cap∧(zs.length=0∨∃g,a=some ⟨g,0,none⟩):=by
  rcases ho.2 with ⟨rfl,e⟩|⟨g,cap,cur,rfl,-⟩
  ·exact⟨none,0,by rw [e],.inl e⟩
  ·exact⟨_,_,rfl,.inr ⟨g,rfl⟩⟩
 by_cases hlt:zs.length<ariF op
 ·exact operate_few N off B zs a cap op w c1 hl hlt
 have hn:ariF op=1∨ariF op=2:=by unfold ariF;split<;>omega
 rcases hg with h0|⟨g,rfl⟩
 ·omega
 have hz:zs.length=(zs.length-ariF op)+ariF op:=by omega
 have:=operate_core hInf N off B g (ariF op) (zs.length-ariF op) cap zs op w hn (Lib.hid rfl) (Lib.hid hz) (Lib.hid hop) (Lib.hid hr) (by omega) (by rw [←hz];exact c1) (by rw [←hz];exact ho) hb hN (fun e=>hne (by rw [e];rfl)) hf ht
 rw [←hz]at this
 exact this
structure AppR(NB ND B:Nat)(v v':Value)(s':List Int × List Bool)(dims':List Int)(w w':World):Prop where
 mods:Mods (fun k=>k=NB∨k=ND∨v.ownBlock=some k) w w'
 st:StC w' NB 0 true v' s'.2
 sfr:∀i,w'.frozen? ⟨NB,i,none⟩=w.frozen? ⟨NB,i,none⟩
 dm:CellsAt w' ND 0 (dims'.map (Value.int .i64))
 dfr:∀i,w'.frozen? ⟨ND,i,none⟩=w.frozen? ⟨ND,i,none⟩
 row:w'.ownsRow B 3 1 v' s'.1.length (s'.1.map (Value.int .i64))
 own:∀k,v'.ownBlock=some k→v.ownBlock=some k∨w.heap.size≤k
def AppP(NB ND B:Nat)(v:Value)(o:Option ((List Int × List Bool) × List Int))(w:World)(e:Ending)(w':World):Prop:=
 match o with
 |none=>e= .returned (.bool false)∧Mods (fun k=>k=NB∨k=ND∨v.ownBlock=some k) w w'
 |some p=>e= .returned (.bool true)∧∃v',AppR NB ND B v v' p.1 p.2 w w'
structure AppI(NB ND B:Nat)(v:Value)(s:List Int × List Bool)(dims:List Int)(w:World):Prop where
 nb:NB<w.heap.size
 nd:ND<w.heap.size
 ne:NB≠ND
 vb:v.ownBlock≠some NB
 vd:v.ownBlock≠some ND
 hB:B≤w.heap.size
 st:StC w NB 0 true v s.2
 sf:∀i,w.frozen? ⟨NB,i,none⟩=false
 dm:CellsAt w ND 0 (dims.map (Value.int .i64))
 df:∀i,w.frozen? ⟨ND,i,none⟩=false
 row:w.ownsRow B 3 1 v s.1.length (s.1.map (Value.int .i64))
 len:s.1.length≤24
theorem AppI.grows{NB ND B:Nat}{v:Value}{s:List Int × List Bool}{dims:List Int}{w w':World}(h:AppI NB ND B v s dims w)(hg:w.Grows w'):AppI NB ND B v s dims w':=by
 have hs:=hg.below.size
 have e1:=hg.below.block NB h.nb
 have e2:=hg.below.block ND h.nd
 have hr:w'.ownsRow B 3 1 v s.1.length (s.1.map (Value.int .i64)):=Mods.row (P:=fun _=>False) (.grows hg) h.row fun _ _ e=>e
 exact⟨Nat.lt_of_lt_of_le h.nb hs,Nat.lt_of_lt_of_le h.nd hs,h.ne,h.vb,h.vd,Nat.le_trans h.hB hs,h.st.same fun o=>World.cell?_of_block (a:=⟨NB,o,none⟩) e1,fun i=>(World.frozen?_of_block (a:=⟨NB,i,none⟩) e1).trans (h.sf i),h.dm.same fun o=>World.cell?_of_block (a:=⟨ND,o,none⟩) e2,fun i=>(World.frozen?_of_block (a:=⟨ND,i,none⟩) e2).trans (h.df i),hr,h.len⟩
theorem AppR.of_stk{NB ND B:Nat}{v v':Value}{s:List Int × List Bool}{zs:List Int}{dims:List Int}{w w':World}(h:AppI NB ND B v s dims w)(k:StkR NB 1 B v v' zs w w'):AppR NB ND B v v' (zs,s.2) dims w w':=by
 have e2:w'.heap[ND]? =w.heap[ND]?:=k.upd.mods.block ND h.nd fun q=>by
  rcases q with q|q
  ·exact h.ne q.symm
  ·exact h.vd q
 refine⟨k.upd.mods.mono fun i _ q=>q.imp id .inr,⟨h.st.1,fun i u hu=>?_⟩,k.upd.frz,h.dm.same fun o=>World.cell?_of_block (a:=⟨ND,o,none⟩) e2,fun i=>World.frozen?_of_block (a:=⟨ND,i,none⟩) e2,k.row,k.own⟩
 by_cases hi:i=1
 ·subst hi
  have:=k.upd.cells 0 v' rfl
  simp at hu
  subst hu
  exact this
 ·have h0:=h.st.2 i
  have hne:(Value.bool true::v::s.2.map .bool)[i]? =some u:=by
   match i,hi,hu with
   |0,_,hu=>exact hu
   |i+2,_,hu=>simpa using hu
  exact(k.upd.out _ (by simp;omega)).trans (h0 u hne)
theorem AppR.pre{NB ND B:Nat}{v v':Value}{s s':List Int × List Bool}{dims dims':List Int}{w w1 w':World}(h:AppI NB ND B v s dims w)(hg:w.Grows w1)(k:AppR NB ND B v v' s' dims' w1 w'):AppR NB ND B v v' s' dims' w w':=
 ⟨(Mods.grows hg).trans k.mods,k.st,fun i=>(k.sfr i).trans (World.frozen?_of_block (a:=⟨NB,i,none⟩) (hg.below.block NB h.nb)),k.dm,fun i=>(k.dfr i).trans (World.frozen?_of_block (a:=⟨ND,i,none⟩) (hg.below.block ND h.nd)),k.row,fun i hi=>(k.own i hi).imp id fun e=>Nat.le_trans hg.below.size e⟩
theorem AppI.push{NB ND B:Nat}{v:Value}{s:List Int × List Bool}{dims:List Int}{w:World}(h:AppI NB ND B v s dims w)(dim:Int) :
 Calls Tryz.prog 191 #[.pointer (some ⟨NB,0,none⟩),.int .i64 dim] w fun e w'=>e= .returned (.tuple #[])∧∃v',AppR NB ND B v v' (s.1++[dim],s.2) dims w w':=by
 obtain⟨a,cap,rfl⟩:∃a cap,v= .slice a s.1.length cap:=by
  rcases h.row.2 with ⟨rfl,e⟩|⟨g,cap,cur,rfl,-⟩
  ·exact⟨none,0,by rw [e]⟩
  ·exact⟨_,_,rfl⟩
 have c1:w.cell? ⟨NB,0+1,none⟩=some (.slice a s.1.length cap):=h.st.2 1 _ rfl
 refine(push_any NB 0 B a cap s.1 dim w c1 h.row h.hB h.nb h.vb (by have:=h.len;omega) (fun w1 hg=>(hg.frozen_far ⟨NB,0+1,none⟩ h.nb (fun e=>h.vb e.symm)).trans (h.sf _))).mono ?_
 intro e w' hp
 obtain⟨he,g,cap',hk⟩:=hp.stk c1 h.vb h.nb
 exact⟨he,_,AppR.of_stk h hk⟩
theorem appA_1{x:Ins}{s:List Int × List Bool}{dims:List Int}(h:x.op=1):appA x s dims=some ((s.1++[x.a],s.2),dims):=by unfold appA;rw [if_pos h]
theorem appA_2{x:Ins}{s:List Int × List Bool}{dims:List Int}(h:x.op=2):appA x s dims=some ((s.1++[inDs.getD x.a.toNat 0],s.2),dims):=by unfold appA;rw [if_neg (by omega),if_pos h]
theorem appA_5{x:Ins}{s:List Int × List Bool}{dims:List Int}(h:x.op=5):appA x s dims=some ((s.1++[4],s.2),dims):=by unfold appA;rw [if_neg (by omega),if_neg (by omega),if_pos h]
theorem appA_23{x:Ins}{s:List Int × List Bool}{dims:List Int}(h:x.op=23∨x.op=24):appA x s dims=some ((s.1++[1],s.2),dims):=by unfold appA;rw [if_neg (by omega),if_neg (by omega),if_neg (by omega),if_pos h]
theorem appA_3{x:Ins}{s:List Int × List Bool}{dims:List Int}(h:x.op=3):appA x s dims=if s.2.getD x.a.toNat false=true then some ((s.1++[dims.getD x.a.toNat 0],s.2),dims)else none:=by unfold appA;rw [if_neg (by omega),if_neg (by omega),if_neg (by omega),if_neg (by omega),if_pos h]
theorem appA_4{x:Ins}{s:List Int × List Bool}{dims:List Int}(h:x.op=4):appA x s dims=if s.1= []then none else some ((s.1.dropLast,s.2.set x.a.toNat true),dims.set x.a.toNat (s.1.getLastD 0)):=by unfold appA;rw [if_neg (by omega),if_neg (by omega),if_neg (by omega),if_neg (by omega),if_neg (by omega),if_pos h]
theorem appA_22{x:Ins}{s:List Int × List Bool}{dims:List Int}(h:x.op=22):appA x s dims=if s.1= []∨s.1.getLastD 0≠1 then none else some ((s.1.dropLast,s.2),dims):=by unfold appA;rw [if_neg (by omega),if_neg (by omega),if_neg (by omega),if_neg (by omega),if_neg (by omega),if_neg (by omega),if_pos h]
theorem appA_21{x:Ins}{s:List Int × List Bool}{dims:List Int}(h:x.op=21):appA x s dims=some (s,dims):=by unfold appA;rw [if_neg (by omega),if_neg (by omega),if_neg (by omega),if_neg (by omega),if_neg (by omega),if_neg (by omega),if_neg (by omega),if_pos h]
theorem apply_push1(NB ND B:Nat)(v:Value)(s:List Int × List Bool)(dims:List Int)(x:Ins)(w:World)(h:AppI NB ND B v s dims w)(ho:x.op=1∨x.op=5∨x.op=23∨x.op=24):(Calls Tryz.prog 108 #[.pointer (some ⟨NB,0,none⟩),.agg #[.int .i64 x.op,.int .i64 x.a,.int .i64 x.n,.int .i64 x.d],.pointer (some ⟨ND,0,none⟩)] w (AppP NB ND B v (appA x s dims) w)):=by
 have HP:=Lib.hid (fun w' (hg:w.Grows w')=>(h.grows hg).push)
 have HE:Hid (∀v' z w1 w',w.Grows w1→z=(if x.op=1 then x.a else if x.op=5 then 4 else 1)→AppR NB ND B v v' (s.1++[z],s.2) dims w1 w'→AppP NB ND B v (appA x s dims) w (.returned (.bool true)) w'):=Lib.hid (fun v' z w1 w' hg hz hr=>by
  subst hz
  rcases ho with ho|ho|ho
  ·rw [appA_1 ho];rw [if_pos ho]at hr;exact⟨rfl,v',hr.pre h hg⟩
  ·rw [appA_5 ho];rw [if_neg (by omega),if_pos ho]at hr;exact⟨rfl,v',hr.pre h hg⟩
  ·rw [appA_23 ho];rw [if_neg (by omega),if_neg (by omega)]at hr;exact⟨rfl,v',hr.pre h hg⟩)
 obtain⟨op,a,n,d⟩:=x
 dsimp only at *
 clear h
 rcases ho with rfl|rfl|rfl|rfl
 all_goals
  go_enter Tryz.func108,Tryz.ntmps108
  go_wp2_with (go_at_call 191;refine(HP.out _ growsR _).mono ?_;rintro e' w' ⟨rfl,v',hr⟩;have HR:=Lib.hid hr;clear hr)
  go_returns
  exact HE.out v' _ _ _ growsR rfl HR.out
theorem idx11(k:Nat)(hk:k<11)(w:World):(Instr.index 173 (.agg inpA) (.int .i64 (k:Int))).run Tryz.prog w= .ok (.string (inpNm k)) w:=by
 rcases(by omega:k=0∨k=1∨k=2∨k=3∨k=4∨k=5∨k=6∨k=7∨k=8∨k=9∨k=10)with rfl|rfl|rfl|rfl|rfl|rfl|rfl|rfl|rfl|rfl|rfl<;>simp [Instr.index,go_sem,inpA,inpNm,inpN]
theorem inDs_inpD{k:Nat}(h:k<11):inpD (inpNm k).toList=inDs.getD k 0:=by
 have key:∀k,k<11→inpD (inpNm k).toList=inDs.getD k 0:=by decide+kernel
 exact key k h
theorem apply_load(NB ND B:Nat)(v:Value)(s:List Int × List Bool)(dims:List Int)(x:Ins)(w:World)(h:AppI NB ND B v s dims w)(ho:x.op=2)(ha:0≤x.a∧x.a<11):(Calls Tryz.prog 108 #[.pointer (some ⟨NB,0,none⟩),.agg #[.int .i64 x.op,.int .i64 x.a,.int .i64 x.n,.int .i64 x.d],.pointer (some ⟨ND,0,none⟩)] w (AppP NB ND B v (appA x s dims) w)):=by
 have HP:=Lib.hid (fun w' (hg:w.Grows w')=>(h.grows hg).push)
 rw [appA_2 ho]
 obtain⟨k,hk⟩:∃k:Nat,x.a=(k:Int):=⟨x.a.toNat,by omega⟩
 have hk11:k<11:=by omega
 have hd:=inDs_inpD hk11
 have HX:=Lib.hid (idx11 k hk11)
 have HI:=Lib.hid (fun w=>Input2_any (inpNm k) w)
 rw [hd]at HI
 have hkt:x.a.toNat=k:=by omega
 rw [hkt]
 have HE:Hid (∀v' w1 w',w.Grows w1→AppR NB ND B v v' (s.1++[inDs.getD k 0],s.2) dims w1 w'→AppP NB ND B v (some ((s.1++[inDs.getD k 0],s.2),dims)) w (.returned (.bool true)) w'):=Lib.hid (fun v' w1 w' hg hr=>⟨rfl,v',hr.pre h hg⟩)
 obtain⟨op,a,n,d⟩:=x
 dsimp only at *
 subst ho hk
 clear h hd
 obtain⟨nm,hnm⟩:∃s,inpNm k=s:=⟨_,rfl⟩
 rw [hnm]at HX HI
 obtain⟨z,hz⟩:∃z,inDs.getD k 0=z:=⟨_,rfl⟩
 rw [hz]at HI HE ⊢
 clear hnm hz hkt ha
 have hx:=HX.out
 go_enter Tryz.func108,Tryz.ntmps108
 go_wp2_with fail
 refine TS.begin [9] (World.Grows _) (by kernel_rfl) (by kernel_rfl) grows_drew0 (fun hS=>?_)
 refine TS.wkB 1 hS ?_
 refine TS.wkB 2 hS ?_
 refine TS.one (i:=0) (by kernel_rfl) rfl (fun K1 hK1=>?_)
 have HK1:=Lib.hid hK1
 clear hK1 hS
 dsimp only [List.getElem_toArray,List.getElem_cons_succ,List.getElem_cons_zero]
 go_simp
 go_at_call 101
 refine(inputs2_any _).mono ?_
 rintro e' w' ⟨rfl,bs,d',rfl⟩
 refine TS.go HK1.out growsR (fun hS=>?_)
 clear HK1 K1
 (try simp only [nS])
 refine TS.wkB 3 hS ?_
 refine TS.one (i:=4) (by kernel_rfl) rfl (fun K1 hK1=>?_)
 have HK1:=Lib.hid hK1
 clear hK1 hS
 dsimp only [List.getElem_toArray,List.getElem_cons_succ,List.getElem_cons_zero]
 go_simp
 go_at_call 137
 refine(HI.out _).mono ?_
 rintro e' w' ⟨rfl,rfl⟩
 refine TS.go HK1.out growsR (fun hS=>?_)
 clear HK1 K1
 (try simp only [nS])
 refine TS.wkB 5 hS ?_
 refine TS.wkB 6 hS ?_
 refine TS.wkB 7 hS ?_
 refine TS.wkB 8 hS ?_
 refine TS.weB 9 ?_
 clear hS
 go_wp2_with (go_at_call 191;refine(HP.out _ growsR _).mono ?_;rintro e' w' ⟨rfl,v',hr⟩;have HR:=Lib.hid hr;clear hr)
 go_returns
 exact HE.out v' _ _ growsR HR.out
theorem apply_jump(NB ND B:Nat)(v:Value)(s:List Int × List Bool)(dims:List Int)(x:Ins)(w:World)(h:AppI NB ND B v s dims w)(ho:x.op=21):(Calls Tryz.prog 108 #[.pointer (some ⟨NB,0,none⟩),.agg #[.int .i64 x.op,.int .i64 x.a,.int .i64 x.n,.int .i64 x.d],.pointer (some ⟨ND,0,none⟩)] w (AppP NB ND B v (appA x s dims) w)):=by
 rw [appA_21 ho]
 have HE:Hid (∀w',w.Grows w'→AppP NB ND B v (some (s,dims)) w (.returned (.bool true)) w'):=Lib.hid (fun w' hg=>⟨rfl,v,by
  have hi:=h.grows hg
  exact⟨.grows hg,hi.st,fun i=>(hi.sf i).trans (h.sf i).symm,hi.dm,fun i=>(hi.df i).trans (h.df i).symm,hi.row,fun k hk=>.inl hk⟩⟩)
 obtain⟨op,a,n,d⟩:=x
 dsimp only at *
 subst ho
 clear h
 go_enter Tryz.func108,Tryz.ntmps108
 go_wp2_with fail
 go_returns
 exact HE.out _ growsR
theorem AppI.pop{NB ND B:Nat}{v:Value}{s:List Int × List Bool}{dims:List Int}{w:World}(h:AppI NB ND B v s dims w)(he:s.1≠[]) :
 Calls Tryz.prog 192 #[.pointer (some ⟨NB,0,none⟩)] w fun e w'=>e= .returned (.tuple #[.int .i64 (s.1.getLastD 0),.bool true])∧∃v',StkR NB 1 B v v' s.1.dropLast w w':=by
 have hlen:s.1.length≠0:=fun e=>he (List.eq_nil_of_length_eq_zero e)
 rcases h.row.2 with ⟨-,e⟩|⟨g,cap,cur,hv,-,hg,hn,-⟩
 ·exact absurd e hlen
 subst hv
 obtain⟨n,hn'⟩:∃n,s.1.length=n+1:=⟨s.1.length-1,by omega⟩
 have c1:w.cell? ⟨NB,0+1,none⟩=some (.slice (some ⟨g,0,none⟩) s.1.length cap):=h.st.2 1 _ rfl
 have hrow:=h.row
 have hl:=h.len
 have hne:g≠NB:=fun e=>h.vb (by rw [e];rfl)
 have c2:w.cell? ⟨g,n,none⟩=some (.int .i64 (s.1.getLastD 0)):=by
  have e:s.1.length-1=n:=by omega
  rw [hrow.cellAt n (by omega),List.getElem?_map,List.getLastD_eq_getLast?,List.getLast?_eq_getElem?,e,List.getElem?_eq_getElem (by omega:n<s.1.length)];rfl
 have K:=StkR.cut (m:=n) c1 hrow (by omega) hne
 have hd:s.1.take n=s.1.dropLast:=by rw [List.dropLast_eq_take,hn',Nat.add_sub_cancel]
 rw [hd]at K
 rw [hn']at c1 hn
 refine(pop_some NB 0 g n cap _ w c1 c2 hn (by omega) (h.sf _)).mono ?_
 rintro e w' ⟨rfl,rfl⟩
 exact⟨rfl,.slice (some ⟨g,0,none⟩) n cap,K⟩
theorem AppI.pop0{NB ND B:Nat}{v:Value}{s:List Int × List Bool}{dims:List Int}{w:World}(h:AppI NB ND B v s dims w)(he:s.1= []) :
 Calls Tryz.prog 192 #[.pointer (some ⟨NB,0,none⟩)] w fun e w'=>e= .returned (.tuple #[.int .i64 0,.bool false])∧w'=w:=by
 have hl:s.1.length=0:=by rw [he];rfl
 have hrow:=h.row
 rw [hl]at hrow
 obtain⟨a,cap,rfl⟩:∃a cap,v= .slice a 0 cap:=by
  rcases hrow.2 with ⟨rfl,e⟩|⟨g,cap,cur,rfl,-⟩
  ·exact⟨none,0,rfl⟩
  ·exact⟨_,_,rfl⟩
 exact pop_none NB 0 a cap w (h.st.2 1 _ rfl)
theorem apply_jn(NB ND B:Nat)(v:Value)(s:List Int × List Bool)(dims:List Int)(x:Ins)(w:World)(h:AppI NB ND B v s dims w)(ho:x.op=22):(Calls Tryz.prog 108 #[.pointer (some ⟨NB,0,none⟩),.agg #[.int .i64 x.op,.int .i64 x.a,.int .i64 x.n,.int .i64 x.d],.pointer (some ⟨ND,0,none⟩)] w (AppP NB ND B v (appA x s dims) w)):=by
 rw [appA_22 ho]
 by_cases he:s.1= []
 ·have HP:=Lib.hid (fun w' (hg:w.Grows w')=>(h.grows hg).pop0 he)
  have HE:Hid (∀w',w.Grows w'→AppP NB ND B v (if s.1= []∨s.1.getLastD 0≠1 then none else some ((s.1.dropLast,s.2),dims)) w (.returned (.bool false)) w'):=Lib.hid (fun w' hg=>by rw [if_pos (.inl he)];exact⟨rfl,.grows hg⟩)
  generalize(if s.1= []∨s.1.getLastD 0≠1 then none else some ((s.1.dropLast,s.2),dims))=oo at *
  obtain⟨op,a,n,d⟩:=x
  dsimp only at *
  subst ho
  clear h he
  go_enter Tryz.func108,Tryz.ntmps108
  go_wp2_with (go_at_call 192;refine(HP.out _ growsR).mono ?_;rintro e' w' ⟨rfl,rfl⟩)
  go_returns
  exact HE.out _ growsR
 ·have HP:=Lib.hid (fun w' (hg:w.Grows w')=>(h.grows hg).pop he)
  have HE:Hid (∀v' w1 w' b,w.Grows w1→b=decide (s.1.getLastD 0=1)→StkR NB 1 B v v' s.1.dropLast w1 w'→AppP NB ND B v (if s.1= []∨s.1.getLastD 0≠1 then none else some ((s.1.dropLast,s.2),dims)) w (.returned (.bool b)) w'):=Lib.hid (fun v' w1 w' b hg hb hk=>by
   have hr:=(AppR.of_stk (h.grows hg) hk).pre h hg
   by_cases h1:s.1.getLastD 0=1
   ·rw [decide_eq_true h1]at hb
    subst hb
    rw [if_neg (fun c=>c.elim he (fun c=>c h1))]
    exact⟨rfl,v',hr⟩
   ·rw [decide_eq_false h1]at hb
    subst hb
    rw [if_pos (.inr h1)]
    exact⟨rfl,hr.mods⟩)
  generalize(if s.1= []∨s.1.getLastD 0≠1 then none else some ((s.1.dropLast,s.2),dims))=oo at *
  obtain⟨op,a,n,d⟩:=x
  dsimp only at *
  subst ho
  clear h he
  generalize s.1.getLastD 0=z at *
  by_cases h1:z=1
  ·subst h1
   go_enter Tryz.func108,Tryz.ntmps108
   go_wp2_with (go_at_call 192;refine(HP.out _ growsR).mono ?_;rintro e' w' ⟨rfl,v',hk⟩;have HK:=Lib.hid hk;clear hk)
   go_returns
   exact HE.out v' _ _ _ growsR rfl HK.out
  ·have h1':(z==1)=false:=by simpa using h1
   have HB:Hid (false=decide (z=1)):=Lib.hid (decide_eq_false h1).symm
   clear h1
   go_enter Tryz.func108,Tryz.ntmps108
   go_wp2_with (go_at_call 192;refine(HP.out _ growsR).mono ?_;rintro e' w' ⟨rfl,v',hk⟩;have HK:=Lib.hid hk;clear hk)
   go_returns
   exact HE.out v' _ _ _ growsR HB.out HK.out
theorem apply_get(NB ND B:Nat)(v:Value)(s:List Int × List Bool)(dims:List Int)(x:Ins)(w:World)(h:AppI NB ND B v s dims w)(ho:x.op=3)(ha:0≤x.a∧x.a<12)(hdl:dims.length=12):(Calls Tryz.prog 108 #[.pointer (some ⟨NB,0,none⟩),.agg #[.int .i64 x.op,.int .i64 x.a,.int .i64 x.n,.int .i64 x.d],.pointer (some ⟨ND,0,none⟩)] w (AppP NB ND B v (appA x s dims) w)):=by
 rw [appA_3 ho]
 obtain⟨k,hk⟩:∃k:Nat,x.a=(k:Int):=⟨x.a.toNat,by omega⟩
 have hk12:k<12:=by omega
 have hkt:x.a.toNat=k:=by omega
 rw [hkt]
 have HP:=Lib.hid (fun w' (hg:w.Grows w')=>(h.grows hg).push (dims.getD k 0))
 have hsl:=h.st.1
 have hdc:w.cell? ⟨ND,k,none⟩=some (.int .i64 (dims.getD k 0)):=by
  exact sz31
 have hND:=h.nd
 have HSC:Hid (∀v' zs w1 w',w.Grows w1→AppR NB ND B v v' (zs,s.2) dims w1 w'→w'.cell? ⟨NB,2+k,none⟩=some (.bool (s.2.getD k false))):=Lib.hid (fun v' zs w1 w' hg hr=>by
  have:=hr.st.2 (2+k) (.bool (s.2.getD k false)) (by
   rw [Nat.add_comm,List.getElem?_cons_succ,List.getElem?_cons_succ,List.getElem?_map,List.getD_eq_getElem?_getD,List.getElem?_eq_getElem (by omega:k<s.2.length)];rfl)
  rw [Nat.zero_add]at this;exact this)
 have HBX:Hid (∀v' zs w1 w',w.heap.size<w1.heap.size→AppR NB ND B v v' (zs,s.2) dims w1 w'→(∀o,w'.cell? ⟨w.heap.size,o,none⟩=w1.cell? ⟨w.heap.size,o,none⟩)∧w.heap.size<w'.heap.size):=Lib.hid (fun v' zs w1 w' hg hr=>⟨fun o=>hr.mods.cell hg (fun q=>by
  have:=h.nb
  have:=h.nd
  rcases q with q|q|q
  ·omega
  ·omega
  ·have:=(h.row.lt _ q).2;omega) o,Nat.lt_of_lt_of_le hg hr.mods.size⟩)
 have HNB:Hid (∀v' zs w1 w',w.Grows w1→AppR NB ND B v v' (zs,s.2) dims w1 w'→NB<w'.heap.size):=Lib.hid (fun v' zs w1 w' hg hr=>by have:=h.nb;have:=hg.below.size;have:=hr.mods.size;omega)
 have HE:Hid (∀v' w1 w' w'' b,w.Grows w1→w'.Grows w''→b=s.2.getD k false→AppR NB ND B v v' (s.1++[dims.getD k 0],s.2) dims w1 w'→AppP NB ND B v (if s.2.getD k false=true then some ((s.1++[dims.getD k 0],s.2),dims)else none) w (.returned (.bool b)) w''):=Lib.hid (fun v' w1 w' w'' b hg hg2 hb hr=>by
  have hi:=hr.pre h hg
  have hN':NB<w'.heap.size:=by have:=h.nb;have:=hi.mods.size;omega
  have hD':ND<w'.heap.size:=by have:=h.nd;have:=hi.mods.size;omega
  have e1:=hg2.below.block NB hN'
  have e2:=hg2.below.block ND hD'
  have hi2:AppR NB ND B v v' (s.1++[dims.getD k 0],s.2) dims w w'':=⟨hi.mods.trans (.grows hg2),hi.st.same fun o=>World.cell?_of_block (a:=⟨NB,o,none⟩) e1,fun i=>(World.frozen?_of_block (a:=⟨NB,i,none⟩) e1).trans (hi.sfr i),hi.dm.same fun o=>World.cell?_of_block (a:=⟨ND,o,none⟩) e2,fun i=>(World.frozen?_of_block (a:=⟨ND,i,none⟩) e2).trans (hi.dfr i),Mods.row (P:=fun _=>False) (.grows hg2) hi.row fun _ _ e=>e,hi.own⟩
  cases hc:s.2.getD k false with
  |true=>rw [hc]at hb;subst hb;exact⟨rfl,v',hi2⟩
  |false=>rw [hc]at hb;subst hb;exact⟨rfl,hi2.mods⟩)
 generalize(if s.2.getD k false=true then some ((s.1++[dims.getD k 0],s.2),dims)else none)=oo at *
 obtain⟨z,hz⟩:∃z,dims.getD k 0=z:=⟨_,rfl⟩
 obtain⟨b,hb⟩:∃b,s.2.getD k false=b:=⟨_,rfl⟩
 rw [hz]at HP HE hdc
 rw [hb]at HSC HE
 obtain⟨op,a,n,d⟩:=x
 dsimp only at *
 subst ho hk
 clear h hz hb hkt ha hdl hsl
 have d1:(k:Int)<12:=by omega
 go_enter Tryz.func108,Tryz.ntmps108
 go_wp2_with fail
 refine TS.begin [7] (World.Grows _) (by kernel_rfl) (by kernel_rfl) grows_drew0 (fun hS=>?_)
 refine TS.wkB 0 hS ?_
 refine TS.wkB 1 hS ?_
 refine TS.wkB 2 hS ?_
 refine TS.wkB 3 hS ?_
 refine TS.wkB 4 hS ?_
 refine TS.wkB 5 hS ?_
 refine TS.wkB 6 hS ?_
 refine TS.one (i:=7) (by kernel_rfl) rfl (fun K1 hK1=>?_)
 have HK1:=Lib.hid hK1
 clear hK1 hS
 dsimp only [List.getElem_toArray,List.getElem_cons_succ,List.getElem_cons_zero]
 go_simp
 go_at_call 191
 refine(HP.out _ growsR).mono ?_
 rintro e' w' ⟨rfl,v',hr⟩
 have HR:=Lib.hid hr
 have hsc:=HSC.out _ _ _ _ growsR hr
 have hnb:=HNB.out _ _ _ _ growsR hr
 obtain⟨hbx,hxs⟩:=HBX.out _ _ _ _ (by simp) hr
 have x1:=(hbx 1).trans (show _=some (.int .i64 (k:Int))by simp [go_sem])
 clear hbx
 clear hr
 refine HK1.out _ _ (fun h=>absurd (by decide) h) (TS.done (by kernel_rfl) ?_)
 clear HK1 K1
 go_wp2_with fail
 refine TS.begin [7] (World.Grows _) (by kernel_rfl) (by kernel_rfl) grows_drew0 (fun hS=>?_)
 refine TS.wkB 0 hS ?_
 refine TS.wkB 1 hS ?_
 refine TS.wkB 2 hS ?_
 refine TS.wkB 3 hS ?_
 refine TS.wkB 4 hS ?_
 refine TS.wkB 5 hS ?_
 refine TS.wkB 6 hS ?_
 refine TS.weB 7 ?_
 clear hS
 go_wp2_with fail
 go_returns
 exact HE.out v' _ _ _ _ growsR growsR rfl HR.out
theorem AppR.set{NB ND B:Nat}{v v':Value}{zs:List Int}{bs:List Bool}{dims:List Int}{w w':World}{k:Nat}{z:Int}(hr:AppR NB ND B v v' (zs,bs) dims w w')(hne:NB≠ND)(hk:k<12)(hd:dims.length=12)(hv:∀j,v'.ownBlock=some j→j≠NB∧j≠ND) :
 AppR NB ND B v v' (zs,bs.set k true) (dims.set k z) w ((w'.setCell ⟨ND,k,none⟩ (.int .i64 z)).setCell ⟨NB,2+k,none⟩ (.bool true)):=by
 have hb:bs.length=12:=hr.st.1
 have m1:Mods (fun b=>b=NB∨b=ND∨v.ownBlock=some b) w' ((w'.setCell ⟨ND,k,none⟩ (.int .i64 z)).setCell ⟨NB,2+k,none⟩ (.bool true)):=(Mods.setCell _ _ _ _ (.inr (.inl rfl))).trans (Mods.setCell _ _ _ _ (.inl rfl))
 have m2:Mods (fun b=>b=NB∨b=ND) w' ((w'.setCell ⟨ND,k,none⟩ (.int .i64 z)).setCell ⟨NB,2+k,none⟩ (.bool true)):=(Mods.setCell _ _ _ _ (.inr rfl)).trans (Mods.setCell _ _ _ _ (.inl rfl))
 refine⟨hr.mods.trans m1,⟨by rw [List.length_set];exact hb, ?_⟩,fun i=>by rw [World.frozen?_setCell,World.frozen?_setCell];exact hr.sfr i, ?_,fun i=>by rw [World.frozen?_setCell,World.frozen?_setCell];exact hr.dfr i,m2.row hr.row fun j hj q=>?_,hr.own⟩
 ·have c0:=(hr.st.2.other (M:=ND) (o:=k) (.int .i64 z) (.inl (Ne.symm hne))).set (2+k) (.bool true) (by simp [hb];omega)
  rw [Nat.zero_add]at c0
  have e:(Value.bool true::v'::bs.map .bool).set (2+k) (.bool true)=Value.bool true::v'::(bs.set k true).map .bool:=by
   rw [Nat.add_comm,List.set_cons_succ,List.set_cons_succ,List.map_set]
  rw [e]at c0
  exact c0
 ·have c0:=(hr.dm.set k (.int .i64 z) (by simp [hd];exact hk)).other (M:=NB) (o:=2+k) (.bool true) (.inl hne)
  rw [Nat.zero_add,←List.map_set]at c0
  exact c0
 ·have:=hv j hj
  rcases q with q|q
  ·exact this.1 q
  ·exact this.2 q
theorem AppR.grow{NB ND B:Nat}{v v':Value}{s':List Int × List Bool}{dims':List Int}{w w' w'':World}(hi:AppR NB ND B v v' s' dims' w w')(hN:NB<w.heap.size)(hD:ND<w.heap.size)(hg2:w'.Grows w''):AppR NB ND B v v' s' dims' w w'':=by
 have e1:=hg2.below.block NB (Nat.lt_of_lt_of_le hN hi.mods.size)
 have e2:=hg2.below.block ND (Nat.lt_of_lt_of_le hD hi.mods.size)
 exact⟨hi.mods.trans (.grows hg2),hi.st.same fun o=>World.cell?_of_block (a:=⟨NB,o,none⟩) e1,fun i=>(World.frozen?_of_block (a:=⟨NB,i,none⟩) e1).trans (hi.sfr i),hi.dm.same fun o=>World.cell?_of_block (a:=⟨ND,o,none⟩) e2,fun i=>(World.frozen?_of_block (a:=⟨ND,i,none⟩) e2).trans (hi.dfr i),Mods.row (P:=fun _=>False) (.grows hg2) hi.row fun _ _ e=>e,hi.own⟩
theorem apply_set(NB ND B:Nat)(v:Value)(s:List Int × List Bool)(dims:List Int)(x:Ins)(w:World)(h:AppI NB ND B v s dims w)(ho:x.op=4)(ha:0≤x.a∧x.a<12)(hdl:dims.length=12):(Calls Tryz.prog 108 #[.pointer (some ⟨NB,0,none⟩),.agg #[.int .i64 x.op,.int .i64 x.a,.int .i64 x.n,.int .i64 x.d],.pointer (some ⟨ND,0,none⟩)] w (AppP NB ND B v (appA x s dims) w)):=by
 rw [appA_4 ho]
 obtain⟨k,hk⟩:∃k:Nat,x.a=(k:Int):=⟨x.a.toNat,by omega⟩
 have hk12:k<12:=by omega
 have hkt:x.a.toNat=k:=by omega
 rw [hkt]
 have d1:(k:Int)<12:=by omega
 have hNB:=h.nb
 have hND:=h.nd
 have hne:=h.ne
 have hsf:=h.sf (2+k)
 have hdf:=h.df k
 by_cases he:s.1= []
 ·have HP:=Lib.hid (fun w' (hg:w.Grows w')=>(h.grows hg).pop0 he)
  have HE:Hid (∀w' z b,((w.setCell ⟨ND,k,none⟩ z).setCell ⟨NB,2+k,none⟩ b).Grows w'→AppP NB ND B v (if s.1= []then none else some ((s.1.dropLast,s.2.set k true),dims.set k (s.1.getLastD 0))) w (.returned (.bool false)) w'):=Lib.hid (fun w' z b hg=>by
   rw [if_pos he];exact⟨rfl,((Mods.setCell _ _ _ _ (.inr (.inl rfl))).trans (Mods.setCell _ _ _ _ (.inl rfl))).trans (.grows hg)⟩)
  have hdc:w.cell? ⟨ND,k,none⟩=some (.int .i64 (dims.getD k 0)):=by
   exact sz31
  have hsc:w.cell? ⟨NB,2+k,none⟩=some (.bool (s.2.getD k false)):=by
   have hb:=h.st.1
   have:=h.st.2 (2+k) (.bool (s.2.getD k false)) (by
    rw [Nat.add_comm,List.getElem?_cons_succ,List.getElem?_cons_succ,List.getElem?_map,List.getD_eq_getElem?_getD,List.getElem?_eq_getElem (by omega:k<s.2.length)];rfl)
   rw [Nat.zero_add]at this;exact this
  generalize(if s.1= []then none else some ((s.1.dropLast,s.2.set k true),dims.set k (s.1.getLastD 0)))=oo at *
  generalize dims.getD k 0=z0 at *
  generalize s.2.getD k false=b0 at *
  obtain⟨op,a,n,d⟩:=x
  dsimp only at *
  subst ho hk
  clear h he hkt ha hdl
  go_enter Tryz.func108,Tryz.ntmps108
  go_wp2_with (go_at_call 192;refine(HP.out _ growsR).mono ?_;rintro e' w' ⟨rfl,rfl⟩)
  refine TS.begin [13] (fun X=>X.cell? ⟨w.heap.size,1,none⟩=some (.int .i64 (k:Int))) (by kernel_rfl) (by kernel_rfl) (by simp [go_sem]) (fun hS=>?_)
  refine TS.takeV (i:=0) (v:=?_) rfl (by kernel_rfl) (by kernel_rfl) (by kernel_rfl) (by decide) (fun _ _ _ h=>h) rfl hS ?_ ?_
  rotate_left
  focus
   intro wS hSw
   (try dsimp only at hSw)
   go_simp
   rfl
  (try simp only [nS])
  refine TS.takeV (i:=1) (v:=?_) rfl (by kernel_rfl) (by kernel_rfl) (by kernel_rfl) (by decide) (fun _ _ _ h=>h) rfl hS ?_ ?_
  rotate_left
  focus
   intro wS hSw
   (try dsimp only at hSw)
   go_simp
   rfl
  (try simp only [nS])
  refine TS.takeV (i:=2) (v:=?_) rfl (by kernel_rfl) (by kernel_rfl) (by kernel_rfl) (by decide) (fun _ _ _ h=>h) rfl hS ?_ ?_
  rotate_left
  focus
   intro wS hSw
   (try dsimp only at hSw)
   go_simp
   rfl
  (try simp only [nS])
  refine TS.takeV (i:=3) (v:=?_) rfl (by kernel_rfl) (by kernel_rfl) (by kernel_rfl) (by decide) (fun _ _ _ h=>h) rfl hS ?_ ?_
  rotate_left
  focus
   intro wS hSw
   (try dsimp only at hSw)
   go_simp
   rfl
  (try simp only [nS])
  refine TS.takeV (i:=4) (v:=?_) rfl (by kernel_rfl) (by kernel_rfl) (by kernel_rfl) (by decide) (fun _ _ _ h=>h) rfl hS ?_ ?_
  rotate_left
  focus
   intro wS hSw
   (try dsimp only at hSw)
   go_simp
   rfl
  (try simp only [nS])
  refine TS.takeV (i:=5) (v:=?_) rfl (by kernel_rfl) (by kernel_rfl) (by kernel_rfl) (by decide) (fun _ _ _ h=>h) rfl hS ?_ ?_
  rotate_left
  focus
   intro wS hSw
   (try dsimp only at hSw)
   go_simp
   rfl
  (try simp only [nS])
  refine TS.takeV (i:=6) (v:=?_) rfl (by kernel_rfl) (by kernel_rfl) (by kernel_rfl) (by decide) (fun _ _ _ h=>h) rfl hS ?_ ?_
  rotate_left
  focus
   intro wS hSw
   (try dsimp only at hSw)
   go_simp
   rfl
  (try simp only [nS])
  refine TS.takeV (i:=7) (v:=?_) rfl (by kernel_rfl) (by kernel_rfl) (by kernel_rfl) (by decide) (fun _ _ _ h=>h) rfl hS ?_ ?_
  rotate_left
  focus
   intro wS hSw
   (try dsimp only at hSw)
   go_simp
   rfl
  (try simp only [nS])
  refine TS.takeV (i:=8) (v:=?_) rfl (by kernel_rfl) (by kernel_rfl) (by kernel_rfl) (by decide) (fun _ _ _ h=>h) rfl hS ?_ ?_
  rotate_left
  focus
   intro wS hSw
   (try dsimp only at hSw)
   go_simp
   rfl
  (try simp only [nS])
  refine TS.takeV (i:=10) (v:=?_) rfl (by kernel_rfl) (by kernel_rfl) (by kernel_rfl) (by decide) (fun _ _ _ h=>h) rfl hS ?_ ?_
  rotate_left
  focus
   intro wS hSw
   (try dsimp only at hSw)
   go_simp
   rfl
  (try simp only [nS])
  refine TS.takeV (i:=11) (v:=?_) rfl (by kernel_rfl) (by kernel_rfl) (by kernel_rfl) (by decide) (fun _ _ _ h=>h) rfl hS ?_ ?_
  rotate_left
  focus
   intro wS hSw
   (try dsimp only at hSw)
   go_simp
   rfl
  (try simp only [nS])
  refine TS.one (i:=9) (by kernel_rfl) rfl (fun K1 hK1=>?_)
  have HK1:=Lib.hid hK1
  clear hK1 hS
  dsimp only [List.getElem_toArray,List.getElem_cons_succ,List.getElem_cons_zero]
  go_simp
  refine TS.go HK1.out (by first|(show(w2.setCell _ _).cell? _=_;exact(World.cell?_setCell_other _ _ _ _ (by intro e;have:=congrArg Addr.block e;simp at this;omega)).trans y8)|(show((w.setCell _ _).alloc _).cell? _=_;rw [World.cell?_alloc_at _ _ _ _ (by simp [World.setCell])];rfl)) (fun hS=>?_)
  clear HK1 K1
  (try simp only [nS])
  refine TS.takeV (i:=12) (v:=?_) rfl (by kernel_rfl) (by kernel_rfl) (by kernel_rfl) (by decide) (fun _ _ _ h=>h) rfl hS ?_ ?_
  rotate_left
  focus
   intro wS hSw
   (try dsimp only at hSw)
   go_simp
   rfl
  (try simp only [nS])
  refine TS.weB 13 ?_
  clear hS
  go_wp2_with fail
  go_returns
  exact HE.out _ _ _ growsR
 ·have HP:=Lib.hid (fun w' (hg:w.Grows w')=>(h.grows hg).pop he)
  have HE:Hid (∀v' w1 w2 w',w.Grows w1→StkR NB 1 B v v' s.1.dropLast w1 w2→((w2.setCell ⟨ND,k,none⟩ (.int .i64 (s.1.getLastD 0))).setCell ⟨NB,2+k,none⟩ (.bool true)).Grows w'→AppP NB ND B v (if s.1= []then none else some ((s.1.dropLast,s.2.set k true),dims.set k (s.1.getLastD 0))) w (.returned (.bool true)) w'):=Lib.hid (fun v' w1 w2 w' hg hk hg2=>by
   rw [if_neg he]
   have hr:=(AppR.of_stk (h.grows hg) hk).pre h hg
   have hs:=hr.set (z:=s.1.getLastD 0) hne hk12 hdl (fun j hj=>by
    rcases hr.own j hj with e|e
    ·exact⟨fun q=>h.vb (q ▸ e),fun q=>h.vd (q ▸ e)⟩
    ·omega)
   exact⟨rfl,v',hs.grow hNB hND hg2⟩)
  have HF:Hid (∀v' w1 w2,w.Grows w1→w.heap.size<w1.heap.size→StkR NB 1 B v v' s.1.dropLast w1 w2→w2.cell? ⟨ND,k,none⟩=some (.int .i64 (dims.getD k 0))∧w2.cell? ⟨NB,2+k,none⟩=some (.bool (s.2.getD k false))∧w2.frozen? ⟨ND,k,none⟩=false∧w2.frozen? ⟨NB,2+k,none⟩=false∧NB<w2.heap.size∧ND<w2.heap.size∧w.heap.size<w2.heap.size∧∀o,w2.cell? ⟨w.heap.size,o,none⟩=w1.cell? ⟨w.heap.size,o,none⟩):=Lib.hid (fun v' w1 w2 hg hw hk=>by
   have hr:=(AppR.of_stk (h.grows hg) hk).pre h hg
   have hb:=hr.st.1
   have hb':s.2.length=12:=hb
   have hz:=hr.mods.size
   have hz1:=hk.upd.mods.size
   refine⟨?_, ?_,(hr.dfr k).trans hdf,(hr.sfr _).trans hsf,by omega,by omega,by omega,fun o=>hk.upd.mods.cell hw (fun q=>?_) o⟩
   ·have:=hr.dm k (.int .i64 (dims.getD k 0)) (by rw [List.getElem?_map,List.getD_eq_getElem?_getD,List.getElem?_eq_getElem (by omega:k<dims.length)];rfl)
    rw [Nat.zero_add]at this;exact this
   ·have:=hr.st.2 (2+k) (.bool (s.2.getD k false)) (by
     rw [Nat.add_comm,List.getElem?_cons_succ,List.getElem?_cons_succ,List.getElem?_map,List.getD_eq_getElem?_getD]
     show(s.2[k]?).map _=_
     rw [List.getElem?_eq_getElem (by omega:k<s.2.length)];rfl)
    rw [Nat.zero_add]at this;exact this
   ·rcases q with q|q
    ·omega
    ·have:=(h.row.lt _ q).2;omega)
  generalize(if s.1= []then none else some ((s.1.dropLast,s.2.set k true),dims.set k (s.1.getLastD 0)))=oo at *
  generalize dims.getD k 0=z0 at *
  generalize s.2.getD k false=b0 at *
  generalize s.1.getLastD 0=z at *
  obtain⟨op,a,n,d⟩:=x
  dsimp only at *
  subst ho hk
  have hwN:w.heap.size≠ND:=by omega
  clear h he hkt ha hdl hsf hdf hNB hND
  go_enter Tryz.func108,Tryz.ntmps108
  go_wp2_with (go_at_call 192;refine(HP.out _ growsR).mono ?_;rintro e' w2 ⟨rfl,v',hk⟩;have HK:=Lib.hid hk;obtain⟨y0,y1,y2,y3,y4,y5,y6,y7⟩:=HF.out _ _ _ growsR (by simp) hk;have y8:=(y7 1).trans (show _=some (.int .i64 (k:Int))by simp [go_sem]);clear hk y7)
  refine TS.begin [13] (fun X=>X.cell? ⟨w.heap.size,1,none⟩=some (.int .i64 (k:Int))) (by kernel_rfl) (by kernel_rfl) (show w2.drew.cell? _=_ from y8) (fun hS=>?_)
  refine TS.takeV (i:=0) (v:=?_) rfl (by kernel_rfl) (by kernel_rfl) (by kernel_rfl) (by decide) (fun _ _ _ h=>h) rfl hS ?_ ?_
  rotate_left
  focus
   intro wS hSw
   (try dsimp only at hSw)
   go_simp
   rfl
  (try simp only [nS])
  refine TS.takeV (i:=1) (v:=?_) rfl (by kernel_rfl) (by kernel_rfl) (by kernel_rfl) (by decide) (fun _ _ _ h=>h) rfl hS ?_ ?_
  rotate_left
  focus
   intro wS hSw
   (try dsimp only at hSw)
   go_simp
   rfl
  (try simp only [nS])
  refine TS.takeV (i:=2) (v:=?_) rfl (by kernel_rfl) (by kernel_rfl) (by kernel_rfl) (by decide) (fun _ _ _ h=>h) rfl hS ?_ ?_
  rotate_left
  focus
   intro wS hSw
   (try dsimp only at hSw)
   go_simp
   rfl
  (try simp only [nS])
  refine TS.takeV (i:=3) (v:=?_) rfl (by kernel_rfl) (by kernel_rfl) (by kernel_rfl) (by decide) (fun _ _ _ h=>h) rfl hS ?_ ?_
  rotate_left
  focus
   intro wS hSw
   (try dsimp only at hSw)
   go_simp
   rfl
  (try simp only [nS])
  refine TS.takeV (i:=4) (v:=?_) rfl (by kernel_rfl) (by kernel_rfl) (by kernel_rfl) (by decide) (fun _ _ _ h=>h) rfl hS ?_ ?_
  rotate_left
  focus
   intro wS hSw
   (try dsimp only at hSw)
   go_simp
   rfl
  (try simp only [nS])
  refine TS.takeV (i:=5) (v:=?_) rfl (by kernel_rfl) (by kernel_rfl) (by kernel_rfl) (by decide) (fun _ _ _ h=>h) rfl hS ?_ ?_
  rotate_left
  focus
   intro wS hSw
   (try dsimp only at hSw)
   go_simp
   rfl
  (try simp only [nS])
  refine TS.takeV (i:=6) (v:=?_) rfl (by kernel_rfl) (by kernel_rfl) (by kernel_rfl) (by decide) (fun _ _ _ h=>h) rfl hS ?_ ?_
  rotate_left
  focus
   intro wS hSw
   (try dsimp only at hSw)
   go_simp
   rfl
  (try simp only [nS])
  refine TS.takeV (i:=7) (v:=?_) rfl (by kernel_rfl) (by kernel_rfl) (by kernel_rfl) (by decide) (fun _ _ _ h=>h) rfl hS ?_ ?_
  rotate_left
  focus
   intro wS hSw
   (try dsimp only at hSw)
   go_simp
   rfl
  (try simp only [nS])
  refine TS.takeV (i:=8) (v:=?_) rfl (by kernel_rfl) (by kernel_rfl) (by kernel_rfl) (by decide) (fun _ _ _ h=>h) rfl hS ?_ ?_
  rotate_left
  focus
   intro wS hSw
   (try dsimp only at hSw)
   go_simp
   rfl
  (try simp only [nS])
  refine TS.takeV (i:=10) (v:=?_) rfl (by kernel_rfl) (by kernel_rfl) (by kernel_rfl) (by decide) (fun _ _ _ h=>h) rfl hS ?_ ?_
  rotate_left
  focus
   intro wS hSw
   (try dsimp only at hSw)
   go_simp
   rfl
  (try simp only [nS])
  refine TS.takeV (i:=11) (v:=?_) rfl (by kernel_rfl) (by kernel_rfl) (by kernel_rfl) (by decide) (fun _ _ _ h=>h) rfl hS ?_ ?_
  rotate_left
  focus
   intro wS hSw
   (try dsimp only at hSw)
   go_simp
   rfl
  (try simp only [nS])
  refine TS.one (i:=9) (by kernel_rfl) rfl (fun K1 hK1=>?_)
  have HK1:=Lib.hid hK1
  clear hK1 hS
  dsimp only [List.getElem_toArray,List.getElem_cons_succ,List.getElem_cons_zero]
  go_simp
  refine TS.go HK1.out (by first|(show(w2.setCell _ _).cell? _=_;exact(World.cell?_setCell_other _ _ _ _ (by intro e;have:=congrArg Addr.block e;simp at this;omega)).trans y8)|(show((w.setCell _ _).alloc _).cell? _=_;rw [World.cell?_alloc_at _ _ _ _ (by simp [World.setCell])];rfl)) (fun hS=>?_)
  clear HK1 K1
  (try simp only [nS])
  refine TS.takeV (i:=12) (v:=?_) rfl (by kernel_rfl) (by kernel_rfl) (by kernel_rfl) (by decide) (fun _ _ _ h=>h) rfl hS ?_ ?_
  rotate_left
  focus
   intro wS hSw
   (try dsimp only at hSw)
   go_simp
   rfl
  (try simp only [nS])
  refine TS.weB 13 ?_
  clear hS
  go_wp2_with fail
  go_returns
  exact HE.out v' _ _ _ growsR HK.out growsR
theorem appA_o{x:Ins}{s:List Int × List Bool}{dims:List Int}(h:x.op≠1∧x.op≠2∧x.op≠3∧x.op≠4∧x.op≠5∧x.op≠21∧x.op≠22∧x.op≠23∧x.op≠24) :
 appA x s dims=if s.1.length<ariF (opF x.op)then none else if resD (opF x.op) (s.1.drop (s.1.length-ariF (opF x.op)))=0 then none
  else some ((s.1.take (s.1.length-ariF (opF x.op))++[resD (opF x.op) (s.1.drop (s.1.length-ariF (opF x.op)))],s.2),dims):=by
 unfold appA
 rw [if_neg (by omega),if_neg (by omega),if_neg (by omega),if_neg (by omega),if_neg (by omega),if_neg (by omega),if_neg (by omega),if_neg (by omega)]
theorem opF_rng{op:Int}(h:opF op≠0):4≤opF op∧opF op≤20:=by
 revert h
 unfold opF
 intro h
 split
 ·omega
 split
 ·omega
 split
 ·omega
 split
 ·omega
 split
 ·omega
 split
 ·omega
 ·rename_i a1 a2 a3 a4 a5 a6
  rw [if_neg a1,if_neg a2,if_neg a3,if_neg a4,if_neg a5,if_neg a6]at h
  exact absurd rfl h
theorem apply_oper(hInf:Hid InfSaid)(NB ND B:Nat)(v:Value)(s:List Int × List Bool)(dims:List Int)(x:Ins)(w:World)(h:AppI NB ND B v s dims w)(hr:∀z∈s.1,1≤z∧z≤4)(ht:Tab w)(ho:x.op≠1∧x.op≠2∧x.op≠3∧x.op≠4∧x.op≠5∧x.op≠21∧x.op≠22∧x.op≠23∧x.op≠24)(hop:opF x.op≠0):(Calls Tryz.prog 108 #[.pointer (some ⟨NB,0,none⟩),.agg #[.int .i64 x.op,.int .i64 x.a,.int .i64 x.n,.int .i64 x.d],.pointer (some ⟨ND,0,none⟩)] w (AppP NB ND B v (appA x s dims) w)):=by
 rw [appA_o ho]
 have hop':=opF_rng hop
 have HO:=Lib.hid (fun w=>oper2_any x.op w)
 have HT:=Lib.hid ht
 have HP:=Lib.hid (fun w' (hg:w.Grows w')=>operate_any hInf NB 0 B v s.1 (opF x.op) w' hop' hr (by have:=h.len;omega) ((h.grows hg).st.2 1 _ rfl) (h.grows hg).row (h.grows hg).hB (h.grows hg).nb h.vb ((h.grows hg).sf _) (HT.out.grows hg))
 have HE:Hid (∀w1 w' b,w.Grows w1→OprP NB 0 B v s.1 (opF x.op) w1 (.returned (.bool b)) w'→AppP NB ND B v (if s.1.length<ariF (opF x.op)then none else if resD (opF x.op) (s.1.drop (s.1.length-ariF (opF x.op)))=0 then none
  else some ((s.1.take (s.1.length-ariF (opF x.op))++[resD (opF x.op) (s.1.drop (s.1.length-ariF (opF x.op)))],s.2),dims)) w (.returned (.bool b)) w'):=Lib.hid (fun w1 w' b hg hp=>by
  by_cases c:s.1.length<ariF (opF x.op)∨resD (opF x.op) (s.1.drop (s.1.length-ariF (opF x.op)))=0
  ·obtain⟨e,hg2⟩:=hp.1 c
   have:(if s.1.length<ariF (opF x.op)then none else if resD (opF x.op) (s.1.drop (s.1.length-ariF (opF x.op)))=0 then none
    else some ((s.1.take (s.1.length-ariF (opF x.op))++[resD (opF x.op) (s.1.drop (s.1.length-ariF (opF x.op)))],s.2),dims))=none:=by
    rcases c with c|c
    ·rw [if_pos c]
    ·by_cases c2:s.1.length<ariF (opF x.op)
     ·rw [if_pos c2]
     ·rw [if_neg c2,if_pos c]
   rw [this]
   exact⟨e,(Mods.grows hg).trans (.grows hg2)⟩
  ·obtain⟨e,g,cap,hk⟩:=hp.2 c
   rw [if_neg (fun q=>c (.inl q)),if_neg (fun q=>c (.inr q))]
   exact⟨e,_,(AppR.of_stk (h.grows hg) hk).pre h hg⟩)
 have HB:Hid (∀w1 e w',OprP NB 0 B v s.1 (opF x.op) w1 e w'→∃b,e= .returned (.bool b)):=Lib.hid (fun w1 e w' hp=>by
  by_cases c:s.1.length<ariF (opF x.op)∨resD (opF x.op) (s.1.drop (s.1.length-ariF (opF x.op)))=0
  ·exact⟨_,(hp.1 c).1⟩
  ·exact⟨_,(hp.2 c).1⟩)
 generalize(if s.1.length<ariF (opF x.op)then none else if resD (opF x.op) (s.1.drop (s.1.length-ariF (opF x.op)))=0 then none
  else some ((s.1.take (s.1.length-ariF (opF x.op))++[resD (opF x.op) (s.1.drop (s.1.length-ariF (opF x.op)))],s.2),dims))=oo at *
 generalize opF x.op=q at *
 obtain⟨op,a,n,d⟩:=x
 dsimp only at *
 obtain⟨b1,b2,b3,b4,b5,b21,b22,b23,b24⟩:=ho
 have e1:(op==1)=false:=by simpa using b1
 have e2:(op==2)=false:=by simpa using b2
 have e3:(op==3)=false:=by simpa using b3
 have e4:(op==4)=false:=by simpa using b4
 have e5:(op==5)=false:=by simpa using b5
 have e21:(op==21)=false:=by simpa using b21
 have e22:(op==22)=false:=by simpa using b22
 have e23:(op==23)=false:=by simpa using b23
 have e24:(op==24)=false:=by simpa using b24
 clear h ht hr hop hop' b1 b2 b3 b4 b5 b21 b22 b23 b24
 go_enter Tryz.func108,Tryz.ntmps108
 go_wp2_with (first
  |(go_at_call 103;refine(HO.out _).mono ?_;rintro e' w' ⟨rfl,rfl⟩)
  |(go_at_call 193;refine(HP.out _ growsR).mono ?_;rintro e' w' hp;obtain⟨b,rfl⟩:=HB.out _ _ _ hp;have HQ:=Lib.hid (HE.out _ _ _ growsR hp);clear hp))
 go_returns
 exact HQ.out
theorem apply_any(hInf:Hid InfSaid)(NB ND B m n i:Nat)(v:Value)(s:List Int × List Bool)(dims:List Int)(x:Ins)(w:World)(h:AppI NB ND B v s dims w)(hr:∀z∈s.1,1≤z∧z≤4)(hm:m≤12)(hdl:dims.length=12)(ht:Tab w)(hx:wfF m n i x=true):(Calls Tryz.prog 108 #[.pointer (some ⟨NB,0,none⟩),.agg #[.int .i64 x.op,.int .i64 x.a,.int .i64 x.n,.int .i64 x.d],.pointer (some ⟨ND,0,none⟩)] w (AppP NB ND B v (appA x s dims) w)):=by
 by_cases h1:x.op=1
 ·exact apply_push1 NB ND B v s dims x w h (.inl h1)
 have hw:=wf_rest hx h1
 by_cases h2:x.op=2
 ·exact apply_load NB ND B v s dims x w h h2 (hw.2.1 h2)
 by_cases h3:x.op=3
 ·exact apply_get NB ND B v s dims x w h h3 (by have:=hw.2.2.1 (.inl h3);omega) hdl
 by_cases h4:x.op=4
 ·exact apply_set NB ND B v s dims x w h h4 (by have:=hw.2.2.1 (.inr h4);omega) hdl
 by_cases h5:x.op=5
 ·exact apply_push1 NB ND B v s dims x w h (.inr (.inl h5))
 by_cases h21:x.op=21
 ·exact apply_jump NB ND B v s dims x w h h21
 by_cases h22:x.op=22
 ·exact apply_jn NB ND B v s dims x w h h22
 by_cases h23:x.op=23
 ·exact apply_push1 NB ND B v s dims x w h (.inr (.inr (.inl h23)))
 by_cases h24:x.op=24
 ·exact apply_push1 NB ND B v s dims x w h (.inr (.inr (.inr h24)))
 exact apply_oper hInf NB ND B v s dims x w h hr ht ⟨h1,h2,h3,h4,h5,h21,h22,h23,h24⟩ (hw.2.2.2.2.2 h2 h3 h4 h5 h21 h22 h23 h24)
end Go.Proofs.YtblkcgceefjmjaaGreatDoor
