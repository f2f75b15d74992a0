import Derived.Test.YtblkcgceefjmjaaGreatDoorSMchC
import Derived.Test.YtblkcgceefjmjaaGreatDoorSShelf5
import Derived.Test.YtblkcgceefjmjaaGreatDoorSTyI
import Derived.Test.YtblkcgceefjmjaaGreatDoorSK
import Derived.Deep.AppendLies
import Derived.Laws.OwnMore
import Derived.Lib.ItoaLen
set_option linter.all false
set_option maxHeartbeats 16000000
set_option maxRecDepth 1000000
namespace Go.Proofs.YtblkcgceefjmjaaGreatDoor
open Go.RowKit
def AddC:Prop:=∀w,Calls Tryz.prog 184 #[.agg #[.int .i64 2,.int .i64 1],.agg #[.int .i64 3,.int .i64 1]] w fun e w'=>e= .returned (.tuple #[.agg #[.int .i64 5,.int .i64 1],.int .i64 0])∧w.Grows w'
theorem calc_add(hA:Hid AddC)(g cap:Nat)(w:World)(hg:g<w.heap.size)(c0:w.cell? ⟨g,0,none⟩=some (.int .i64 2))(c1:w.cell? ⟨g,1,none⟩=some (.bool false))(c2:w.cell? ⟨g,2,none⟩=some (.int .i64 2))(c3:w.cell? ⟨g,3,none⟩=some (.int .i64 1))
 (c4:w.cell? ⟨g,4,none⟩=some (.int .i64 2)) (c5:w.cell? ⟨g,5,none⟩=some (.bool false)) (c6:w.cell? ⟨g,6,none⟩=some (.int .i64 3)) (c7:w.cell? ⟨g,7,none⟩=some (.int .i64 1)) :
 Calls Tryz.prog 105 #[.int .i64 7,.slice (some ⟨g,0,none⟩) 2 cap] w fun e w'=>e= .returned (.tuple #[.agg #[.int .i64 2,.bool false,.int .i64 5,.int .i64 1],.int .i64 0])∧w.Grows w':=by
 go_enter Tryz.func105,Tryz.ntmps105
 go_wp2_with (go_at_call 184;refine(hA.out _).mono ?_;rintro e' w' ⟨rfl,bs,d,rfl⟩)
 go_returns
 exact⟨rfl,growsR⟩
def byNm:ByteArray:=⟨#[98,121]⟩
structure CodC(w:World)(bI bS:Nat):Prop where
 hI:bI<w.heap.size
 hS:bS<w.heap.size
 ins:∀i u,[Value.int .i64 1,.int .i64 2,.int .i64 2,.int .i64 1,.int .i64 1,.int .i64 2,.int .i64 3,.int .i64 1,.int .i64 9,.int .i64 0,.int .i64 0,.int .i64 0,.int .i64 4,.int .i64 0,.int .i64 0,.int .i64 0][i]? =some u→w.cell? ⟨bI,i,none⟩=some u
 slt:w.cell? ⟨bS,0,none⟩=some (.string byNm)
theorem CodC.grows{w w':World}{bI bS:Nat}(h:CodC w bI bS)(hg:w.Grows w'):CodC w' bI bS:=
 ⟨Nat.lt_of_lt_of_le h.hI hg.below.size,Nat.lt_of_lt_of_le h.hS hg.below.size,fun i u hu=>(World.cell?_of_block (a:=⟨bI,i,none⟩) (hg.below.block bI h.hI)).trans (h.ins i u hu),(World.cell?_of_block (a:=⟨bS,0,none⟩) (hg.below.block bS h.hS)).trans h.slt⟩
def vw9:Value:=.agg #[.int .i64 0,.int .i64 2000,.int .i64 0,.int .i64 0,.int .i64 0,.int .i64 0,.int .i64 0,.int .i64 0,.int .i64 0,.int .i64 0,.int .i64 0,.int .i64 1,.slice none 0 0]
def RunC9(w:World)(e:Ending)(w':World):Prop:=∃sv,e= .returned (.tuple #[sv,.int .i64 0])∧w.Grows w'∧w'.ownsRow w.heap.size 70 5 sv 1 [.string byNm,.int .i64 2,.bool false,.int .i64 5,.int .i64 1]
theorem infoVa:(Tryz.prog.info? 41).map (fun i=>(i.zero,i.size,i.bytes))=some (some (.agg #[.int .i64 0,.bool false,.int .i64 0,.int .i64 0]),4,32):=by kernel_rfl
theorem infoSp:(Tryz.prog.info? 70).map (fun i=>(i.zero,i.size,i.bytes))=some (some (.agg #[.string ⟨#[]⟩,.int .i64 0,.bool false,.int .i64 0,.int .i64 0]),5,48):=by kernel_rfl
theorem cutW{P:Program}{c:Code}{Q:Exit→Act→World→Prop}{a:Act}{w:World}(S:World→Prop)(h:S w)(k:∀W,S W→c.wp P Q a W):c.wp P Q a w:=k w h
def n9(k:Nat):Nat:=[0,1,2,1].getD k 0
def x9(k:Nat):List Value:=[[],[.int .i64 2,.bool false,.int .i64 2,.int .i64 1],[.int .i64 2,.bool false,.int .i64 2,.int .i64 1,.int .i64 2,.bool false,.int .i64 3,.int .i64 1],[.int .i64 2,.bool false,.int .i64 5,.int .i64 1]].getD k []
structure P9(w Y:World)(B:Nat)(W:World):Prop where
 gr:w.Grows W
 rel:Rel Y (some B) W
 blk:∃cs ty,W.heap[B]? =some (.cells cs ty (0,0))∧cs.size=48
structure L9(w Y:World)(B k:Nat)(s8 s10:Value)(W:World):Prop where
 p:P9 w Y B W
 own:k<4→W.ownsRow Y.heap.size 41 4 s8 (n9 k) (x9 k)
 st:k<4→s10= .slice none 0 0
 fin:k=4→W.ownsRow Y.heap.size 70 5 s10 1 [.string byNm,.int .i64 2,.bool false,.int .i64 5,.int .i64 1]
theorem P9.next{w Y W W2 w1:World}{B:Nat}{row:Option Nat}(h:P9 w Y B W)(hB:B<Y.heap.size)(hY:w.heap.size≤Y.heap.size)(hrow:∀b,row=some b→Y.heap.size≤b)(hg:W.Grows W2)(hgr:W2.grownBy w1 row):P9 w Y B w1:=by
 have h1:=h.gr.trans' hg
 have hs:=Nat.le_trans h.rel.1 hg.below.size
 refine⟨World.Grows.grown h1 hgr fun b e=>Nat.le_trans hY (hrow b e),⟨Nat.le_trans hs hgr.size,fun b hb hne=>?_⟩, ?_⟩
 ·rw [hgr.block b (by omega) (fun e=>by have:=hrow b e.symm;omega)]
  exact(h.rel.grows hg).2 b hb hne
 ·obtain⟨cs,ty,hc,hz⟩:=h.blk
  exact⟨cs,ty,(hgr.block B (by omega) (fun e=>by have:=hrow B e.symm;omega)).trans ((hg.below.block B (Nat.lt_of_lt_of_le hB h.rel.1)).trans hc),hz⟩
theorem P9.grows{w Y W W2:World}{B:Nat}(h:P9 w Y B W)(hB:B<Y.heap.size)(hg:W.Grows W2):P9 w Y B W2:=by
 obtain⟨cs,ty,hc,hz⟩:=h.blk
 exact⟨h.gr.trans' hg,h.rel.grows hg,cs,ty,(hg.below.block B (Nat.lt_of_lt_of_le hB h.rel.1)).trans hc,hz⟩
theorem P9.store{w Y W:World}{B:Nat}(h:P9 w Y B W)(hB:w.heap.size≤B)(j:Nat)(v:Value):P9 w Y B (W.setCell ⟨B,j,none⟩ v):=by
 obtain⟨cs,ty,hc,hz⟩:=h.blk
 exact⟨.of_below (h.gr.below.setCell hB v),⟨by have:=h.rel.1;simpa using this,fun b hb hne=>(Below.heap_setCell _ _ _ _ fun e=>hne (by simpa using e)).trans (h.rel.2 b hb hne)⟩,_,ty,Go.Joins.block_setCell hc v,by simpa using hz⟩
theorem P9.cell{w Y W:World}{B:Nat}(h:P9 w Y B W)(j:Nat)(hj:j<48):∃u,W.cell? ⟨B,j,none⟩=some u:=by
 obtain⟨cs,ty,hc,hz⟩:=h.blk
 exact⟨cs[j],by rw [cell_of_row W _ j _ _ _ hc];simp [hz,hj]⟩
theorem P9.unfr{w Y W:World}{B:Nat}(h:P9 w Y B W)(j:Nat):W.frozen? ⟨B,j,none⟩=false:=by
 obtain⟨cs,ty,hc,hz⟩:=h.blk
 exact Go.Joins.unfrozen_of_block hc j
theorem own_zero{w:World}{b size n g cap:Nat}{e:TypeId}{xs:List Value}(h:w.ownsRow b e size (.slice (some ⟨g,0,none⟩) n cap) n xs):w.ownsRow b e size (.slice (some ⟨g,0,none⟩) 0 cap) 0 []:=by
 rcases h.2 with ⟨h',_⟩|⟨g',cap',cur,h',hb,hg,hnc,hcm,hcs,htake⟩
 ·simp at h'
 ·simp only [Value.slice.injEq,Option.some.injEq,Addr.mk.injEq,and_true,true_and]at h'
  obtain⟨rfl,rfl⟩:=h'
  exact⟨by simp,.inr ⟨g,cap,cur,rfl,hb,hg,Nat.zero_le _,hcm,hcs,by simp⟩⟩
theorem own_grow9{w:World}{base:Nat}{e:TypeId}{size:Nat}{v:Value}{n:Nat}{xs:List Value}(h:w.ownsRow base e size v n xs){w':World}(hg:w.Grows w'):w'.ownsRow base e size v n xs:=
 h.kept (row:=none) ⟨hg.below.os,hg.below.tape,hg.below.output,hg.below.size,fun k hk _=>hg.below.block k hk⟩ (by cases h':v.ownBlock<;>simp)
theorem own_base9{w:World}{b b' size n:Nat}{e:TypeId}{v:Value}{xs:List Value}(hb:b'≤b)(h:w.ownsRow b e size v n xs):w.ownsRow b' e size v n xs:=by
 exact sz41
theorem run9(hA:Hid AddC)(bI bS:Nat)(w:World)(hc:CodC w bI bS)(HVE:Hid (∀W,w.Grows W→Calls Tryz.prog 44 #[.agg #[.slice (some ⟨bI,0,none⟩) 4 4,.slice (some ⟨bS,0,none⟩) 1 1]] W fun e W'=>e= .returned (.tuple #[.int .i64 2,.int .i64 0])∧W.Grows W'))
 (HVW:Hid (∀W,Calls Tryz.prog 99 #[vw9] W fun e W'=>e= .returned (.bool true)∧W.Grows W')) (HOP:Hid (∀W,Calls Tryz.prog 103 #[.int .i64 9] W fun e W'=>e= .returned (.int .i64 7)∧W=W')) (HAR:Hid (∀W,Calls Tryz.prog 104 #[.int .i64 7] W fun e W'=>e= .returned (.int .i64 2)∧W=W')) :
 Calls Tryz.prog 42 #[.agg #[.slice (some ⟨bI,0,none⟩) 4 4,.slice (some ⟨bS,0,none⟩) 1 1],vw9] w (RunC9 w):=by
 obtain⟨i1,hi1,hz11,hz21,hz31⟩:=info_parts infoVa
 obtain⟨i2,hi2,hz12,hz22,hz32⟩:=info_parts infoSp
 have HC:=Lib.hid hc
 unfold vw9 at HVW ⊢
 clear hc
 go_enter Tryz.func42,Tryz.ntmps42
 go_upto_block 0 with (first
  |(go_at_call 44;refine(HVE.out _ growsR).mono ?_;rintro e' w' ⟨rfl,bs,d,rfl⟩)
  |(go_at_call 99;refine(HVW.out _).mono ?_;rintro e' w' ⟨rfl,bs2,d2,rfl⟩))
 refine cutW (fun W=>World.Grows (w.alloc (.cells #[.slice (some ⟨bI,0,none⟩) 4 4,.slice (some ⟨bS,0,none⟩) 1 1] 58)) W∧W.heap.size=w.heap.size+1+1+(bs.size+bs2.size)+1∧∃cs ty,W.heap[w.heap.size+1+1+(bs.size+bs2.size)]? =some (.cells cs ty (0,0))∧cs.size=48) ⟨growsR,by simp,_,_,heap_new _ _ _ (by simp),rfl⟩ ?_
 intro Y hY
 obtain⟨hgY,hsY,hbY⟩:=hY
 have hBw:w.heap.size+1≤w.heap.size+1+1+(bs.size+bs2.size):=by omega
 generalize w.heap.size+1+1+(bs.size+bs2.size)=B at *
 have hwY:w.Grows Y:=World.Grows.trans' growsR hgY
 have hcY:=(hgY.below.block w.heap.size (by simp)).trans (heap_alloc_new _ _)
 clear hgY
 have HcY:=Lib.hid hcY
 have HwY:=Lib.hid hwY
 have HsY:=Lib.hid hsY
 have HBw:=Lib.hid hBw
 have hsz:w.heap.size≤Y.heap.size:=by omega
 have hBY:B<Y.heap.size:=by omega
 have HSZ:=Lib.hid hsz
 have HBY:=Lib.hid hBY
 have H0:Hid (L9 w Y B 0 (.slice none 0 0) (.slice none 0 0) Y):=Lib.hid ⟨⟨hwY,Rel.refl _ _,hbY⟩,fun _=>World.ownsRow_nil _ _ _ _,fun _=>rfl,fun h=>by omega⟩
 clear hcY hwY hsY hBw hsz hBY hbY
 go_wp2_with fail
 go_loopw [8,10,11] (fun v8 v10 v11 wr=>∃k:Nat,k≤4∧v11= .int .i64 k∧Hid (L9 w Y B k v8 v10 wr)) (fun _ _ v11 _=>4-(intOf v11).toNat)
 case atStart=>exact⟨0,by omega,rfl,H0⟩
 clear H0
 obtain⟨k,hk,rfl,HL⟩:=hrel
 have hcb:wr.heap[w.heap.size]? =some (.cells #[.slice (some ⟨bI,0,none⟩) 4 4,.slice (some ⟨bS,0,none⟩) 1 1] 58 (0,0)):=(HL.out.p.rel.2 _ (by have:=HsY.out;have:=HBw.out;omega) (by have:=HBw.out;intro e;cases e;omega)).trans HcY.out
 have cb0:=cell_of_row wr _ 0 _ _ _ hcb
 have cb1:=cell_of_row wr _ 1 _ _ _ hcb
 have hwr:w.heap.size<wr.heap.size:=by have:=HL.out.p.rel.1;have:=HsY.out;have:=HBw.out;omega
 have HG:=Lib.hid HL.out.p.gr
 have HI:=Lib.hid (HC.out.grows HG.out).ins
 have hIw:=(HC.out.grows HG.out).hI
 clear hcb
 obtain rfl|rfl|rfl|rfl|rfl:k=0∨k=1∨k=2∨k=3∨k=4:=by omega
 ·have e0:(((0:Nat):Int))=0:=rfl
  simp only [e0]
  obtain rfl:=HL.out.st (by omega)
  have HO:=Lib.hid (HL.out.own (by omega))
  have j0:=HI.out (0*4) _ rfl
  have j1:=HI.out (0*4+1) _ rfl
  have j2:=HI.out (0*4+2) _ rfl
  have j3:=HI.out (0*4+3) _ rfl
  simp only [Nat.zero_mul,Nat.zero_add,Nat.reduceMul,Nat.reduceAdd]at j0 j1 j2 j3
  go_wp2_with (at_builtin;go_loud (refine wpList_append_lies _ rfl _ _ 143 rfl Y.heap.size 41 i1 _ 4 32 Tryz.underlying143 hi1 hz11 hz21 hz31 rfl (by decide) _ (n9 0) (x9 0) rfl ((HO.out.alloc _).alloc _) ⟨wr.heap.size+1,0,none⟩ 1 1 [.int .i64 2,.bool false,.int .i64 2,.int .i64 1] rfl rfl ?c1 ?c2 (by decide) ?c3 ?c4 ?c5 (wr.heap.size+2) (by simp) ?_))
  case c1=>exact news_cells _ [.int .i64 2,.bool false,.int .i64 2,.int .i64 1] _ _ (by simp)
  case c2=>intro u hu;simp at hu;rcases hu with rfl|rfl|rfl|rfl<;>rfl
  case c3=>simp [n9,maxLen]
  case c4=>simp [n9]
  case c5=>have:=HL.out.p.rel.1;simp;omega
  intro g cap w1 hown hgrow hgg hgl
  have HN:=Lib.hid (HL.out.p.next HBY.out HSZ.out (fun b e=>(HO.out.lt b e).1) growsR hgrow)
  have HO1:=Lib.hid hown
  clear hown hgrow hgg hgl
  go_wp2_with fail
  go_roundw
  case rel=>exact⟨0+1,by omega,rfl,Lib.hid ⟨HN.out,fun _=>HO1.out,fun _=>rfl,fun h=>by omega⟩⟩
  case measure=>simp [intOf]
 ·have e0:(((1:Nat):Int))=1:=rfl
  simp only [e0]
  obtain rfl:=HL.out.st (by omega)
  have HO:=Lib.hid (HL.out.own (by omega))
  have j0:=HI.out (1*4) _ rfl
  have j1:=HI.out (1*4+1) _ rfl
  have j2:=HI.out (1*4+2) _ rfl
  have j3:=HI.out (1*4+3) _ rfl
  simp only [Nat.zero_mul,Nat.zero_add,Nat.reduceMul,Nat.reduceAdd]at j0 j1 j2 j3
  go_wp2_with (at_builtin;go_loud (refine wpList_append_lies _ rfl _ _ 143 rfl Y.heap.size 41 i1 _ 4 32 Tryz.underlying143 hi1 hz11 hz21 hz31 rfl (by decide) _ (n9 1) (x9 1) rfl ((HO.out.alloc _).alloc _) ⟨wr.heap.size+1,0,none⟩ 1 1 [.int .i64 2,.bool false,.int .i64 3,.int .i64 1] rfl rfl ?c1 ?c2 (by decide) ?c3 ?c4 ?c5 (wr.heap.size+2) (by simp) ?_))
  case c1=>exact news_cells _ [.int .i64 2,.bool false,.int .i64 3,.int .i64 1] _ _ (by simp)
  case c2=>intro u hu;simp at hu;rcases hu with rfl|rfl|rfl|rfl<;>rfl
  case c3=>simp [n9,maxLen]
  case c4=>simp [n9]
  case c5=>have:=HL.out.p.rel.1;simp;omega
  intro g cap w1 hown hgrow hgg hgl
  have HN:=Lib.hid (HL.out.p.next HBY.out HSZ.out (fun b e=>(HO.out.lt b e).1) growsR hgrow)
  have HO1:=Lib.hid hown
  clear hown hgrow hgg hgl
  go_wp2_with fail
  go_roundw
  case rel=>exact⟨1+1,by omega,rfl,Lib.hid ⟨HN.out,fun _=>HO1.out,fun _=>rfl,fun h=>by omega⟩⟩
  case measure=>simp [intOf]
 ·have e0:(((2:Nat):Int))=2:=rfl
  simp only [e0]
  obtain rfl:=HL.out.st (by omega)
  have HO:=Lib.hid (HL.out.own (by omega))
  obtain⟨g,cap,rfl,hgY,hgW⟩:=HO.out.form (by decide)
  have hx:=fun j hj=>HO.out.cellAt j hj
  have x0:=hx 0 (by decide)
  have x1:=hx 1 (by decide)
  have x2:=hx 2 (by decide)
  have x3:=hx 3 (by decide)
  have x4:=hx 4 (by decide)
  have x5:=hx 5 (by decide)
  have x6:=hx 6 (by decide)
  have x7:=hx 7 (by decide)
  have HCA:Hid (∀W,wr.Grows W→Calls Tryz.prog 105 #[.int .i64 7,.slice (some ⟨g,0,none⟩) 2 cap] W fun e w'=>e= .returned (.tuple #[.agg #[.int .i64 2,.bool false,.int .i64 5,.int .i64 1],.int .i64 0])∧W.Grows w'):=Lib.hid (fun W hg=>by
   have q:=fun j=>World.cell?_of_block (a:=⟨g,j,none⟩) (hg.below.block g hgW)
   exact calc_add hA g cap W (Nat.lt_of_lt_of_le hgW hg.below.size) ((q 0).trans x0) ((q 1).trans x1) ((q 2).trans x2) ((q 3).trans x3) ((q 4).trans x4) ((q 5).trans x5) ((q 6).trans x6) ((q 7).trans x7))
  have HGY:=Lib.hid hgY
  clear hx x0 x1 x2 x3 x4 x5 x6 x7 hgY
  simp only [show n9 2=2 from rfl]at *
  have j0:=HI.out (2*4) _ rfl
  have j1:=HI.out (2*4+1) _ rfl
  have j2:=HI.out (2*4+2) _ rfl
  have j3:=HI.out (2*4+3) _ rfl
  simp only [Nat.zero_mul,Nat.zero_add,Nat.reduceMul,Nat.reduceAdd]at j0 j1 j2 j3
  go_wp2_with (first
   |(go_at_call 103;refine(HOP.out _).mono ?_;rintro e' w' ⟨rfl,rfl⟩)
   |(go_at_call 104;refine(HAR.out _).mono ?_;rintro e' w' ⟨rfl,rfl⟩)
   |(go_at_call 105;refine(HCA.out _ growsR).mono ?_;rintro e' w' ⟨rfl,bs,d,rfl⟩))
  refine cutW (fun W=>wr.Grows W∧W.heap[wr.heap.size+1+bs.size]? =some (.cells #[.int .i64 2,.bool false,.int .i64 5,.int .i64 1] 41 (0,0))) ⟨growsR,heap_new _ _ _ (by simp)⟩ ?_
  intro W2 hW2
  obtain⟨hg2,hb2⟩:=hW2
  generalize wr.heap.size+1+bs.size=NB at *
  have hNB:=(Array.getElem?_eq_some_iff.1 hb2).1
  have v0:=cell_of_row W2 _ 0 _ _ _ hb2
  have v1:=cell_of_row W2 _ 1 _ _ _ hb2
  have v2:=cell_of_row W2 _ 2 _ _ _ hb2
  have v3:=cell_of_row W2 _ 3 _ _ _ hb2
  have hsz2:Y.heap.size≤W2.heap.size:=Nat.le_trans HL.out.p.rel.1 hg2.below.size
  have HS2:=Lib.hid hsz2
  have HG2:=Lib.hid hg2
  clear hb2 hg2 hsz2 j0 j1 j2 j3 cb0 cb1
  refine TS.begin [5,6] (World.Grows W2) (by kernel_rfl) (by kernel_rfl) grows_drew0 (fun hS=>?_)
  refine TS.wkB 0 hS ?_
  refine TS.wkB 1 hS ?_
  refine TS.wkB 2 hS ?_
  refine TS.wkB 3 hS ?_
  refine TS.one (i:=4) (by kernel_rfl) rfl (fun K1 hK1=>?_)
  have HK1:=Lib.hid hK1
  clear hK1 hS
  dsimp only [List.getElem_toArray,List.getElem_cons_succ,List.getElem_cons_zero]
  go_simp
  refine TS.go HK1.out growsR (fun hS=>?_)
  clear HK1 K1
  (try simp only [nS])
  refine TS.one (i:=5) (by kernel_rfl) rfl (fun K1 hK1=>?_)
  refine step_append_lies _ rfl _ _ 143 rfl Y.heap.size 41 i1 _ 4 32 Tryz.underlying143 hi1 hz11 hz21 hz31 rfl (by decide) (.slice (some ⟨g,0,none⟩) 0 cap) 0 [] rfl (own_grow9 (own_grow9 (own_zero HO.out) HG2.out) growsR) ⟨_,0,none⟩ 1 1 [.int .i64 2,.bool false,.int .i64 5,.int .i64 1] rfl rfl (news_cells _ [.int .i64 2,.bool false,.int .i64 5,.int .i64 1] _ _ (by simp)) (by intro u hu;simp at hu;rcases hu with rfl|rfl|rfl|rfl<;>rfl) (by decide) (by unfold maxLen;omega) (by omega) (by have:=HS2.out;simp;omega) _ rfl ?_
  intro g2 cap2 w1 hown hgrow hgg hgl
  have HN:=Lib.hid (HL.out.p.next (row:=some g) HBY.out HSZ.out (fun b e=>by cases e;exact HGY.out) (HG2.out.trans' growsR) hgrow)
  have HO1:=Lib.hid hown
  refine hK1 _ _ (fun h=>absurd (by decide) h) ?_
  clear hK1 K1 hown hgrow hgg hgl hS v0 v1 v2 v3 hNB HG2 HS2 HO
  (try simp only [nS])
  refine TS.weB 6 ?_
  go_wp2_with fail
  go_roundw
  case rel=>exact⟨2+1,by omega,rfl,Lib.hid ⟨HN.out,fun _=>HO1.out,fun _=>rfl,fun h=>by omega⟩⟩
  case measure=>simp [intOf]
 ·have e0:(((3:Nat):Int))=3:=rfl
  simp only [e0]
  obtain rfl:=HL.out.st (by omega)
  have HO:=Lib.hid (HL.out.own (by omega))
  obtain⟨g,cap,rfl,hgY,hgW⟩:=HO.out.form (by decide)
  have HGY:=Lib.hid hgY
  have HGW:=Lib.hid hgW
  clear hgY hgW
  simp only [show n9 3=1 from rfl]at *
  have j0:=HI.out (3*4) _ rfl
  have j1:=HI.out (3*4+1) _ rfl
  have j2:=HI.out (3*4+2) _ rfl
  have j3:=HI.out (3*4+3) _ rfl
  simp only [Nat.zero_mul,Nat.zero_add,Nat.reduceMul,Nat.reduceAdd]at j0 j1 j2 j3
  go_wp2_with fail
  refine cutW (fun W=>wr.Grows W∧W.heap[wr.heap.size]? =some (.cells #[.int .i64 4,.int .i64 0,.int .i64 0,.int .i64 0] 103 (0,0))) ⟨growsR,heap_new _ _ _ rfl⟩ ?_
  intro W2 hW2
  obtain⟨hg2,hb2⟩:=hW2
  have HX:=Lib.hid hb2
  have HNR:Hid (wr.heap.size=wr.heap.size):=Lib.hid rfl
  generalize hNXe:wr.heap.size=NX at hb2 HX ⊢
  replace HNR:Hid (NX=wr.heap.size):=Lib.hid hNXe.symm
  clear hNXe
  have hNX:=(Array.getElem?_eq_some_iff.1 hb2).1
  have v0:=cell_of_row W2 _ 0 _ _ _ hb2
  have v1:=cell_of_row W2 _ 1 _ _ _ hb2
  have HP2:=Lib.hid (HL.out.p.grows HBY.out hg2)
  have HO2:=Lib.hid (own_grow9 HO.out hg2)
  have hx:=fun j hj=>HO2.out.cellAt j hj
  have x0:W2.cell? ⟨g,0,none⟩=some (.int .i64 2):=hx 0 (by decide)
  have x1:W2.cell? ⟨g,1,none⟩=some (.bool false):=hx 1 (by decide)
  have x2:W2.cell? ⟨g,2,none⟩=some (.int .i64 5):=hx 2 (by decide)
  have x3:W2.cell? ⟨g,3,none⟩=some (.int .i64 1):=hx 3 (by decide)
  obtain⟨b0,y0⟩:=HP2.out.cell 0 (by decide)
  obtain⟨b1,y1⟩:=HP2.out.cell 1 (by decide)
  obtain⟨b2,y2⟩:=HP2.out.cell 2 (by decide)
  obtain⟨b3,y3⟩:=HP2.out.cell 3 (by decide)
  have f0:=HP2.out.unfr 0
  have f1:=HP2.out.unfr 1
  have f2:=HP2.out.unfr 2
  have f3:=HP2.out.unfr 3
  have hB2:=World.block_lt_of_cell? _ _ y0
  have hg2':=World.block_lt_of_cell? _ _ x0
  clear hb2 hg2 hx j0 j1 j2 j3 cb0 cb1
  refine TS.begin [7] (World.Grows W2) (by kernel_rfl) (by kernel_rfl) grows_drew0 (fun hS=>?_)
  refine TS.wkB 0 hS ?_
  refine TS.wkB 1 hS ?_
  refine TS.wkB 2 hS ?_
  refine TS.wkB 3 hS ?_
  refine TS.wkB 4 hS ?_
  refine TS.wkB 5 hS ?_
  refine TS.wkB 6 hS ?_
  refine TS.weB 7 ?_
  go_wp2_with fail
  refine cutW (fun W=>P9 w Y B W∧Next B W2 W) ⟨((((HP2.out.store (by have:=HBw.out;omega) 0 _).store (by have:=HBw.out;omega) 1 _).store (by have:=HBw.out;omega) 2 _).store (by have:=HBw.out;omega) 3 _).grows HBY.out grows_drew0,((((((Next.refl B W2).store 0 _).store 1 _).store 2 _).store 3 _).drew)⟩ ?_
  intro W3 hW3
  obtain⟨hP3,hN3⟩:=hW3
  have HP3:=Lib.hid hP3
  have hgB:g≠B:=by have:=HGY.out;have:=HBY.out;omega
  have hXB:NX≠B:=by have:=HL.out.p.rel.1;have:=HBY.out;have:=HNR.out;omega
  have q:=fun j=>World.cell?_of_block (a:=⟨g,j,none⟩) (hN3.blk g hg2' hgB)
  have qx:=fun j=>World.cell?_of_block (a:=⟨NX,j,none⟩) (hN3.blk NX hNX hXB)
  have z0:=(q 0).trans x0
  have z1:=(q 1).trans x1
  have z2:=(q 2).trans x2
  have z3:=(q 3).trans x3
  have p0:W3.cell? ⟨NX,0,none⟩=some (.int .i64 4):=(qx 0).trans v0
  have p1:W3.cell? ⟨NX,1,none⟩=some (.int .i64 0):=(qx 1).trans v1
  have hcb3:W3.heap[w.heap.size]? =some (.cells #[.slice (some ⟨bI,0,none⟩) 4 4,.slice (some ⟨bS,0,none⟩) 1 1] 58 (0,0)):=(hP3.rel.2 _ (by have:=HsY.out;have:=HBw.out;omega) (by have:=HBw.out;intro e;cases e;omega)).trans HcY.out
  have cc1:W3.cell? ⟨w.heap.size,1,none⟩=some (.slice (some ⟨bS,0,none⟩) 1 1):=cell_of_row W3 _ 1 _ _ _ hcb3
  have hw3:=World.block_lt_of_cell? _ _ cc1
  have cs0:=(HC.out.grows hP3.gr).slt
  have hbS:=World.block_lt_of_cell? _ _ cs0
  have hg3:=World.block_lt_of_cell? _ _ z0
  have hx3:=World.block_lt_of_cell? _ _ p0
  have hsz3:=hP3.rel.1
  have HS3:=Lib.hid hsz3
  clear x0 x1 x2 x3 v0 v1 y0 y1 y2 y3 f0 f1 f2 f3 hB2 hg2' hP3 hN3 hcb3 hNX q qx hsz3 HO2 HP2 HX hS hgB hXB
  refine TS.begin [13,14] (World.Grows W3) (by kernel_rfl) (by kernel_rfl) grows_drew0 (fun hS=>?_)
  refine TS.wkB 0 hS ?_
  refine TS.wkB 1 hS ?_
  refine TS.wkB 2 hS ?_
  refine TS.wkB 3 hS ?_
  refine TS.wkB 4 hS ?_
  refine TS.wkB 5 hS ?_
  refine TS.wkB 6 hS ?_
  refine TS.wkB 7 hS ?_
  refine TS.wkB 8 hS ?_
  refine TS.wkB 9 hS ?_
  refine TS.wkB 10 hS ?_
  refine TS.wkB 11 hS ?_
  refine TS.one (i:=12) (by kernel_rfl) rfl (fun K1 hK1=>?_)
  have HK1:=Lib.hid hK1
  clear hK1 hS
  dsimp only [List.getElem_toArray,List.getElem_cons_succ,List.getElem_cons_zero]
  go_simp
  refine TS.go HK1.out growsR (fun hS=>?_)
  clear HK1 K1
  (try simp only [nS])
  refine TS.one (i:=13) (by kernel_rfl) rfl (fun K1 hK1=>?_)
  refine step_append_lies _ rfl _ _ 66 rfl Y.heap.size 70 i2 _ 5 48 Tryz.underlying66 hi2 hz12 hz22 hz32 rfl (by decide) (.slice none 0 0) 0 [] rfl (World.ownsRow_nil _ _ _ _) ⟨_,0,none⟩ 1 1 [.string byNm,.int .i64 2,.bool false,.int .i64 5,.int .i64 1] rfl rfl (news_cells _ [.string byNm,.int .i64 2,.bool false,.int .i64 5,.int .i64 1] _ _ (by simp)) (by intro u hu;simp at hu;rcases hu with rfl|rfl|rfl|rfl|rfl<;>rfl) (by decide) (by unfold maxLen;omega) (by omega) (by have:=HS3.out;simp;omega) _ rfl ?_
  intro g2 cap2 w1 hown hgrow hgg hgl
  have HN:=Lib.hid (HP3.out.next (row:=none) HBY.out HSZ.out (fun b e=>by cases e) growsR hgrow)
  have HO1:=Lib.hid hown
  refine hK1 _ _ (fun h=>absurd (by decide) h) ?_
  clear hK1 K1 hown hgrow hgg hgl hS z0 z1 z2 z3 p0 p1 cc1 hw3 cs0 hbS hg3 hx3 HS3
  (try simp only [nS])
  refine TS.weB 14 ?_
  go_wp2_with fail
  go_roundw
  case rel=>exact⟨3+1,by omega,rfl,Lib.hid ⟨HN.out,fun h=>by omega,fun h=>by omega,fun _=>HO1.out⟩⟩
  case measure=>simp [intOf]
 ·rw [show(((4:Nat):Int))=4 from rfl]
  have HF:=Lib.hid (HL.out.fin rfl)
  go_wp2_with fail
  go_returns
  exact⟨_,rfl,HG.out,own_base9 HSZ.out HF.out⟩
def MrgP(N off:Nat)(zs:List Int)(bs:List Bool)(w:World)(e:Ending)(w':World):Prop:=
 e= .returned (.bool true)∧∃a n c,Upd (fun k=>k=N) w w' N off (.bool true:: .slice a n c::bs.map .bool)∧w'.ownsRow w.heap.size 3 1 (.slice a n c) zs.length (zs.map (Value.int .i64))
theorem merge_new(N off:Nat)(zs:List Int)(a2:Option Addr)(n2 k2:Nat)(w:World)(r b0 b1 b2 b3 b4 b5 b6 b7 b8 b9 b10 b11:Bool)(hN:N<w.heap.size)(v1:Value)(s0 s1 s2 s3 s4 s5 s6 s7 s8 s9 s10 s11:Bool)(hT:CellsAt w N off [.bool false,v1,.bool s0,.bool s1,.bool s2,.bool s3,.bool s4,.bool s5,.bool s6,.bool s7,.bool s8,.bool s9,.bool s10,.bool s11])(hf:∀i,w.frozen? ⟨N,i,none⟩=false)
 (HCL:Hid (∀w',w.Grows w'→Calls Tryz.prog 194 #[.slice a2 n2 k2] w' fun e w''=>∃va vl vc,e= .returned (.slice va vl vc)∧w'.Grows w''∧w''.ownsRow w.heap.size 3 1 (.slice va vl vc) zs.length (zs.map (Value.int .i64)))) :
 Calls Tryz.prog 109 #[.pointer (some ⟨N,off,none⟩),.agg #[.bool r,.slice a2 n2 k2,.bool b0,.bool b1,.bool b2,.bool b3,.bool b4,.bool b5,.bool b6,.bool b7,.bool b8,.bool b9,.bool b10,.bool b11]] w (MrgP N off zs [b0,b1,b2,b3,b4,b5,b6,b7,b8,b9,b10,b11] w):=by
 have HT:=Lib.hid hT
 have c0:=hT 0 _ rfl
 have c1:=hT 1 _ rfl
 have c2:=hT 2 _ rfl
 have c3:=hT 3 _ rfl
 have c4:=hT 4 _ rfl
 have c5:=hT 5 _ rfl
 have c6:=hT 6 _ rfl
 have c7:=hT 7 _ rfl
 have c8:=hT 8 _ rfl
 have c9:=hT 9 _ rfl
 have c10:=hT 10 _ rfl
 have c11:=hT 11 _ rfl
 have c12:=hT 12 _ rfl
 have c13:=hT 13 _ rfl
 rw [Nat.add_zero]at c0
 clear hT
 go_enter Tryz.func109,Tryz.ntmps109
 go_wp2_with fail
 refine TS.begin [8] (World.Grows _) (by kernel_rfl) (by kernel_rfl) grows_drew0 (fun hS=>?_)
 refine TS.wkB 0 hS ?_
 refine TS.wkB 1 hS ?_
 refine TS.wkB 2 hS ?_
 refine TS.wkB 4 hS ?_
 refine TS.wkB 5 hS ?_
 refine TS.one (i:=3) (by kernel_rfl) rfl (fun K1 hK1=>?_)
 have HK1:=Lib.hid hK1
 clear hK1 hS
 dsimp only [List.getElem_toArray,List.getElem_cons_succ,List.getElem_cons_zero]
 go_simp
 go_at_call 194
 refine(HCL.out _ growsR).mono ?_
 rintro e' w2 ⟨va,vl,vc,rfl,hg2,ho⟩
 have hw2:w.Grows w2:=World.Grows.trans' growsR hg2
 refine TS.go HK1.out (World.Grows.trans' growsR hg2) (fun hS=>?_)
 have HO:=Lib.hid ho
 have HW:=Lib.hid hw2
 have hN2:N<w2.heap.size:=by have:=hw2.below.size;omega
 clear ho hg2
 replace c0:=(World.cell?_of_block (hw2.below.block N hN)).trans c0
 replace c1:=(World.cell?_of_block (hw2.below.block N hN)).trans c1
 replace c2:=(World.cell?_of_block (hw2.below.block N hN)).trans c2
 replace c3:=(World.cell?_of_block (hw2.below.block N hN)).trans c3
 replace c4:=(World.cell?_of_block (hw2.below.block N hN)).trans c4
 replace c5:=(World.cell?_of_block (hw2.below.block N hN)).trans c5
 replace c6:=(World.cell?_of_block (hw2.below.block N hN)).trans c6
 replace c7:=(World.cell?_of_block (hw2.below.block N hN)).trans c7
 replace c8:=(World.cell?_of_block (hw2.below.block N hN)).trans c8
 replace c9:=(World.cell?_of_block (hw2.below.block N hN)).trans c9
 replace c10:=(World.cell?_of_block (hw2.below.block N hN)).trans c10
 replace c11:=(World.cell?_of_block (hw2.below.block N hN)).trans c11
 replace c12:=(World.cell?_of_block (hw2.below.block N hN)).trans c12
 replace c13:=(World.cell?_of_block (hw2.below.block N hN)).trans c13
 replace hf:=fun i=>(World.frozen?_of_block (a:=⟨N,i,none⟩) (hw2.below.block N hN)).trans (hf i)
 clear hw2
 clear HK1 K1
 (try simp only [nS])
 refine TS.wkB 6 hS ?_
 refine TS.wkB 7 hS ?_
 have f0:=hf off
 have f1:=hf (off+1)
 have f2:=hf (off+2)
 have f3:=hf (off+3)
 have f4:=hf (off+4)
 have f5:=hf (off+5)
 have f6:=hf (off+6)
 have f7:=hf (off+7)
 have f8:=hf (off+8)
 have f9:=hf (off+9)
 have f10:=hf (off+10)
 have f11:=hf (off+11)
 have f12:=hf (off+12)
 have f13:=hf (off+13)
 refine TS.one (i:=8) (by kernel_rfl) rfl (fun K1 hK1=>?_)
 go_wp2_with fail
 refine hK1 _ _ (fun h=>absurd (by decide) h) (TS.done (by kernel_rfl) ?_)
 clear hK1 K1 hS
 go_wp2_with fail
 go_returns
 have U0:Upd (fun k=>k=N) w2 w2 N off _:=Upd.refl (HT.out.same fun o=>World.cell?_of_block (a:=⟨N,o,none⟩) (HW.out.below.block N hN))
 have U1:=((((((((((((((U0).set 0 (.bool true) (by simp) rfl).set 1 (.slice va vl vc) (by simp) rfl).set 2 (.bool b0) (by simp) rfl).set 3 (.bool b1) (by simp) rfl).set 4 (.bool b2) (by simp) rfl).set 5 (.bool b3) (by simp) rfl).set 6 (.bool b4) (by simp) rfl).set 7 (.bool b5) (by simp) rfl).set 8 (.bool b6) (by simp) rfl).set 9 (.bool b7) (by simp) rfl).set 10 (.bool b8) (by simp) rfl).set 11 (.bool b9) (by simp) rfl).set 12 (.bool b10) (by simp) rfl).set 13 (.bool b11) (by simp) rfl
 simp only [Nat.add_zero,List.set_cons_zero,List.set_cons_succ]at U1
 have U2:=fun W (hg:World.Grows _ W)=>U1.grows hN2 hg
 refine⟨rfl,va,vl,vc,Upd.pre HW.out hN (U2 _ growsR),Mods.row (U2 _ growsR).mods HO.out fun k hk e=>?_⟩
 subst e
 have:=(HO.out.lt _ hk).1
 omega
theorem own_get{w:World}{B n:Nat}{g cap:Nat}{xs:List Int}(h:w.ownsRow B 3 1 (.slice (some ⟨g,0,none⟩) n cap) n (xs.map (Value.int .i64)))(j:Nat)(hj:j<xs.length):w.cell? ⟨g,0+j,none⟩=some (.int .i64 (xs.getD j 0)):=by
 have hn:xs.length=n:=by have:=h.1;simpa using this
 rw [Nat.zero_add,h.cellAt j (by omega),List.getElem?_map,List.getD_eq_getElem?_getD,List.getElem?_eq_getElem hj];rfl
theorem equal_rows{w:World}{B B':Nat}{v1 v2:Value}{xs ys:List Int}(h1:w.ownsRow B 3 1 v1 xs.length (xs.map (Value.int .i64)))(h2:w.ownsRow B' 3 1 v2 ys.length (ys.map (Value.int .i64)))(hx:xs.length≤1000)(hy:ys.length≤1000) :
 Calls Tryz.prog 195 #[v1,v2] w fun e w'=>e= .returned (.bool (decide (xs=ys)))∧w.Grows w':=by
 obtain⟨a1,c1,rfl,hg1⟩:∃a c,v1= .slice a xs.length c∧(xs.length=0∨∃g,a=some ⟨g,0,none⟩):=by
  rcases row_frm h1 with ⟨rfl,e⟩|⟨g,cap,rfl,-⟩
  ·exact⟨none,0,by rw [e],.inl e⟩
  ·exact⟨_,_,rfl,.inr ⟨g,rfl⟩⟩
 obtain⟨a2,c2,rfl,hg2⟩:∃a c,v2= .slice a ys.length c∧(ys.length=0∨∃g,a=some ⟨g,0,none⟩):=by
  rcases row_frm h2 with ⟨rfl,e⟩|⟨g,cap,rfl,-⟩
  ·exact⟨none,0,by rw [e],.inl e⟩
  ·exact⟨_,_,rfl,.inr ⟨g,rfl⟩⟩
 by_cases hl:xs.length=ys.length
 ·by_cases h0:xs.length=0
  ·have e1:xs= []:=List.eq_nil_of_length_eq_zero h0
   have e2:ys= []:=List.eq_nil_of_length_eq_zero (by omega)
   subst e1 e2
   refine(Tryz.slices_Equal_int_empty a1 a2 c1 0 c2 w (by omega)).mono ?_
   rintro e w' ⟨rfl,rfl⟩
   exact⟨rfl,.refl _⟩
  ·rcases hg1 with e|⟨g1,rfl⟩
   ·omega
   rcases hg2 with e|⟨g2,rfl⟩
   ·omega
   refine(Tryz.slices_Equal_int g1 0 xs.length c1 g2 0 ys.length c2 xs ys w (Nat.le_refl _) (Nat.le_refl _) (by omega) (by omega) (own_get h1) (own_get h2)).mono ?_
   rintro e w' ⟨rfl,q,rfl⟩
   refine⟨?_,.of_below ⟨rfl,rfl,rfl,Nat.le_refl _,fun _ _=>rfl⟩⟩
   rw [List.take_length,List.take_length]
   congr 2
   rw [Bool.eq_iff_iff];simp
 ·refine(Tryz.slices_Equal_int_lens a1 a2 _ c1 _ c2 w hl).mono ?_
  rintro e w' ⟨rfl,rfl⟩
  exact⟨by rw [decide_eq_false (fun e=>hl (by rw [e]))],.refl _⟩
def mrgK(t bs:List Bool)(k:Nat):List Bool:=(List.range 12).map fun j=>if j<k then t.getD j false&&bs.getD j false else t.getD j false
theorem mrgK_len(t bs:List Bool)(k:Nat):(mrgK t bs k).length=12:=by simp [mrgK]
theorem mrgK_get(t bs:List Bool)(k:Nat){j:Nat}(hj:j<12):(mrgK t bs k)[j]? =some (if j<k then t.getD j false&&bs.getD j false else t.getD j false):=by
 simp [mrgK,hj]
theorem mrgK_zero{t:List Bool}(bs:List Bool)(h:t.length=12):mrgK t bs 0=t:=by
 refine List.ext_getElem? fun j=>?_
 by_cases hj:j<12
 ·rw [mrgK_get _ _ _ hj,if_neg (by omega),List.getD_eq_getElem?_getD,List.getElem?_eq_getElem (by omega)];rfl
 ·rw [List.getElem?_eq_none (by rw [mrgK_len];omega),List.getElem?_eq_none (by omega)]
theorem mrgK_all{t bs:List Bool}(h:t.length=12)(h':bs.length=12):mrgK t bs 12=List.zipWith (· && ·) t bs:=by
 refine List.ext_getElem? fun j=>?_
 by_cases hj:j<12
 ·rw [mrgK_get _ _ _ hj,if_pos hj,List.getElem?_zipWith,List.getD_eq_getElem?_getD,List.getD_eq_getElem?_getD,List.getElem?_eq_getElem (by omega),List.getElem?_eq_getElem (by omega)];rfl
 ·rw [List.getElem?_eq_none (by rw [mrgK_len];omega),List.getElem?_eq_none (by simp;omega)]
theorem mrgK_succ(t bs:List Bool){k:Nat}(hk:k<12):(mrgK t bs k).set k (t.getD k false&&bs.getD k false)=mrgK t bs (k+1):=by
 refine List.ext_getElem? fun j=>?_
 rw [List.getElem?_set,mrgK_len]
 by_cases hj:j<12
 ·rw [mrgK_get _ _ _ hj,mrgK_get _ _ _ hj]
  by_cases e:k=j
  ·subst e
   rw [if_pos rfl,if_pos hk,if_pos (by omega)]
  ·rw [if_neg e]
   by_cases h:j<k
   ·rw [if_pos h,if_pos (by omega)]
   ·rw [if_neg h,if_neg (by omega)]
 ·rw [if_neg (by omega),List.getElem?_eq_none (by rw [mrgK_len];omega),List.getElem?_eq_none (by rw [mrgK_len];omega)]
def MrgQ(N off:Nat)(v1:Value)(t:List Int × List Bool)(zs:List Int)(bs:List Bool)(w:World)(e:Ending)(w':World):Prop:=
 e= .returned (.bool (decide (t.1=zs)))∧Upd (fun k=>k=N) w w' N off (.bool true::v1::(List.zipWith (· && ·) t.2 bs).map .bool)
theorem Upd.drew{P:Nat→Prop}{N off:Nat}{L:List Value}{w w':World}(h:Upd P w w' N off L):Upd P w w'.drew N off L:=⟨⟨h.mods.os,h.mods.tape,h.mods.output,h.mods.size,h.mods.block⟩,h.cells,h.out,h.frz⟩
theorem upd_mrg{P:Nat→Prop}{N off k:Nat}{v1:Value}{t bs:List Bool}{c:Bool}{w wr:World}(h:Upd P w wr N off (.bool true::v1::(mrgK t bs k).map .bool))(hk:k<12)(hs:(mrgK t bs k).set k c=mrgK t bs (k+1))(hP:P N):Upd P w (wr.setCell ⟨N,off+2+k,none⟩ (.bool c)) N off (.bool true::v1::(mrgK t bs (k+1)).map .bool):=by
 have h1:=h.set (2+k) (.bool c) (by simp [mrgK_len];omega) hP
 have e:(Value.bool true::v1::(mrgK t bs k).map .bool).set (2+k) (.bool c)=Value.bool true::v1::(mrgK t bs (k+1)).map .bool:=by
  rw [Nat.add_comm,List.set_cons_succ,List.set_cons_succ,←hs,List.map_set]
 rw [e,←Nat.add_assoc]at h1
 exact h1
theorem merge_old(N off B B':Nat)(t:List Int × List Bool)(zs:List Int)(v1 v2:Value)(w:World)(r b0 b1 b2 b3 b4 b5 b6 b7 b8 b9 b10 b11:Bool)(hN:N<w.heap.size)(hT:StC w N off true v1 t.2)(hf:∀i,w.frozen? ⟨N,i,none⟩=false)
 (h1:w.ownsRow B 3 1 v1 t.1.length (t.1.map (Value.int .i64))) (h2:w.ownsRow B' 3 1 v2 zs.length (zs.map (Value.int .i64))) (hl1:t.1.length≤1000) (hl2:zs.length≤1000) (hn1:v1.ownBlock≠some N) (hn2:v2.ownBlock≠some N) :
 Calls Tryz.prog 109 #[.pointer (some ⟨N,off,none⟩),.agg #[.bool r,v2,.bool b0,.bool b1,.bool b2,.bool b3,.bool b4,.bool b5,.bool b6,.bool b7,.bool b8,.bool b9,.bool b10,.bool b11]] w (MrgQ N off v1 t zs [b0,b1,b2,b3,b4,b5,b6,b7,b8,b9,b10,b11] w):=by
 have HEQ:Hid (∀w',Mods (fun k=>k=N) w w'→Calls Tryz.prog 195 #[v1,v2] w' fun e w''=>e= .returned (.bool (decide (t.1=zs)))∧w'.Grows w''):=Lib.hid (fun w' hm=>equal_rows (hm.row h1 fun k hk e=>hn1 (e ▸ hk)) (hm.row h2 fun k hk e=>hn2 (e ▸ hk)) hl1 hl2)
 have c0:w.cell? ⟨N,off,none⟩=some (.bool true):=hT.2 0 _ rfl
 obtain⟨bs,hbs⟩:∃bs:List Bool,[b0,b1,b2,b3,b4,b5,b6,b7,b8,b9,b10,b11]=bs:=⟨_,rfl⟩
 have hbl:bs.length=12:=by rw [←hbs];rfl
 have HT0:=Lib.hid hT
 have HF:=Lib.hid hf
 have HBC:Hid (∀j,j<12→([Value.bool r,v2,.bool b0,.bool b1,.bool b2,.bool b3,.bool b4,.bool b5,.bool b6,.bool b7,.bool b8,.bool b9,.bool b10,.bool b11])[2+j]? =some (.bool (bs.getD j false))):=Lib.hid (fun j hj=>by
  rw [←hbs]
  rcases(by omega:j=0∨j=1∨j=2∨j=3∨j=4∨j=5∨j=6∨j=7∨j=8∨j=9∨j=10∨j=11)with rfl|rfl|rfl|rfl|rfl|rfl|rfl|rfl|rfl|rfl|rfl|rfl<;>rfl)
 rw [hbs]
 have HBL:=Lib.hid hbl
 have HTL:=Lib.hid hT.1
 clear hT hf h1 h2 hbs hbl hl1 hl2 hn1 hn2
 unfold MrgQ
 go_enter Tryz.func109,Tryz.ntmps109
 go_wp2_with fail
 go_loopw [19] (fun v19 wr=>∃k:Nat,k≤12∧v19= .int .i64 k∧Upd (fun k=>k=N) w wr N off (.bool true::v1::(mrgK t.2 bs k).map .bool)∧CellsAt wr w.heap.size 0 [.bool r,v2,.bool b0,.bool b1,.bool b2,.bool b3,.bool b4,.bool b5,.bool b6,.bool b7,.bool b8,.bool b9,.bool b10,.bool b11]∧w.heap.size<wr.heap.size) (fun v19 _=>12-(intOf v19).toNat)
 case atStart=>
  refine⟨0,by omega,rfl, ?_,fun i u hu=>?_,by simp⟩
  ·rw [mrgK_zero _ HTL.out];exact(Upd.refl HT0.out.2).grows hN growsR
  ·rw [Nat.zero_add,cell_of_row _ _ _ _ _ _ (heap_alloc_new w _)];simpa using hu
 case round=>
  obtain⟨k,hk,rfl,hu,hbx,hsz⟩:=hrel
  have HU:=Lib.hid hu
  have HBX:=Lib.hid hbx
  have q0:wr.cell? ⟨N,off,none⟩=some (.bool true):=hu.cells 0 _ rfl
  have q1:wr.cell? ⟨N,off+1,none⟩=some v1:=hu.cells 1 _ rfl
  have x1:wr.cell? ⟨w.heap.size,1,none⟩=some v2:=hbx 1 _ rfl
  have hNr:N<wr.heap.size:=Nat.lt_of_lt_of_le hN hu.mods.size
  by_cases hlt:k<12
  ·have d1:(k:Int)<12:=by omega
   have qk:wr.cell? ⟨N,off+2+k,none⟩=some (.bool (t.2.getD k false)):=by
    have:=hu.cells (2+k) (.bool (t.2.getD k false)) (by
     rw [Nat.add_comm,List.getElem?_cons_succ,List.getElem?_cons_succ,List.getElem?_map,mrgK_get _ _ _ hlt,if_neg (by omega)];rfl)
    rw [←Nat.add_assoc]at this;exact this
   have xk:wr.cell? ⟨w.heap.size,2+k,none⟩=some (.bool (bs.getD k false)):=by
    have:=hbx _ _ (HBC.out k hlt)
    rw [Nat.zero_add]at this;exact this
   have fk:wr.frozen? ⟨N,off+2+k,none⟩=false:=(hu.frz _).trans (HF.out _)
   have HS:=Lib.hid (mrgK_succ t.2 bs hlt)
   have HK:=Lib.hid hlt
   have hNX:N≠w.heap.size:=by omega
   have hNX':w.heap.size≠N:=by omega
   clear hu hbx
   obtain⟨y,hy⟩:∃y,t.2.getD k false=y:=⟨_,rfl⟩
   obtain⟨z,hz⟩:∃z,bs.getD k false=z:=⟨_,rfl⟩
   rw [hy]at qk HS
   rw [hz]at xk HS
   clear hy hz hlt
   cases y with
   |true=>
    go_wp2_with fail
    refine TS.begin [17] (World.Grows wr) (by kernel_rfl) (by kernel_rfl) grows_drew0 (fun hS=>?_)
    refine TS.wkB 0 hS ?_
    refine TS.wkB 1 hS ?_
    refine TS.wkB 2 hS ?_
    refine TS.wkB 3 hS ?_
    refine TS.wkB 4 hS ?_
    refine TS.wkB 5 hS ?_
    refine TS.wkB 6 hS ?_
    refine TS.wkB 7 hS ?_
    refine TS.wkB 8 hS ?_
    refine TS.wkB 9 hS ?_
    refine TS.wkB 10 hS ?_
    refine TS.wkB 11 hS ?_
    refine TS.wkB 12 hS ?_
    refine TS.wkB 13 hS ?_
    refine TS.wkB 14 hS ?_
    refine TS.wkB 15 hS ?_
    refine TS.wkB 16 hS ?_
    refine TS.weB 17 ?_
    clear hS
    go_wp2_with fail
    go_roundw
    case rel=>exact⟨k+1,HK.out,by go_num,(upd_mrg HU.out HK.out HS.out rfl).drew,HBX.out.other _ (.inl hNX),by simp [World.setCell];exact hsz⟩
    case measure=>simp [intOf];have:=HK.out;omega
   |false=>
    go_wp2_with fail
    refine TS.begin [17] (World.Grows wr) (by kernel_rfl) (by kernel_rfl) grows_drew0 (fun hS=>?_)
    refine TS.wkB 0 hS ?_
    refine TS.wkB 1 hS ?_
    refine TS.wkB 2 hS ?_
    refine TS.wkB 3 hS ?_
    refine TS.wkB 4 hS ?_
    refine TS.wkB 5 hS ?_
    refine TS.wkB 6 hS ?_
    refine TS.wkB 7 hS ?_
    refine TS.wkB 8 hS ?_
    refine TS.take (i:=9) (v:=undef) rfl (by kernel_rfl) (by kernel_rfl) (by kernel_rfl) (by decide) (fun _ _ _ h=>h) (.inl ⟨rfl,rfl⟩) hS ?_
    (try simp only [nS])
    refine TS.take (i:=10) (v:=undef) rfl (by kernel_rfl) (by kernel_rfl) (by kernel_rfl) (by decide) (fun _ _ _ h=>h) (.inl ⟨rfl,rfl⟩) hS ?_
    (try simp only [nS])
    refine TS.take (i:=11) (v:=undef) rfl (by kernel_rfl) (by kernel_rfl) (by kernel_rfl) (by decide) (fun _ _ _ h=>h) (.inl ⟨rfl,rfl⟩) hS ?_
    (try simp only [nS])
    refine TS.take (i:=12) (v:=undef) rfl (by kernel_rfl) (by kernel_rfl) (by kernel_rfl) (by decide) (fun _ _ _ h=>h) (.inl ⟨rfl,rfl⟩) hS ?_
    (try simp only [nS])
    refine TS.wkB 13 hS ?_
    refine TS.wkB 14 hS ?_
    refine TS.wkB 15 hS ?_
    refine TS.wkB 16 hS ?_
    refine TS.weB 17 ?_
    clear hS
    go_wp2_with fail
    go_roundw
    case rel=>exact⟨k+1,HK.out,by go_num,(upd_mrg HU.out HK.out HS.out rfl).drew,HBX.out.other _ (.inl hNX),by simp [World.setCell];exact hsz⟩
    case measure=>simp [intOf];have:=HK.out;omega
  ·obtain rfl:k=12:=by omega
   have HM:=Lib.hid hu.mods
   rw [mrgK_all HTL.out HBL.out]at HU
   have HQ:=Lib.hid (fun w' (hg:wr.Grows w')=>HEQ.out w' (HM.out.trans (.grows hg)))
   obtain⟨res,hres⟩:∃r,decide (t.1=zs)=r:=⟨_,rfl⟩
   rw [hres]at HQ
   have HR:=Lib.hid hres
   clear hres HEQ
   have HP:Hid (∀w',wr.Grows w'→Upd (fun k=>k=N) w w' N off (.bool true::v1::(List.zipWith (· && ·) t.2 bs).map .bool)):=Lib.hid (fun w' hg=>HU.out.grows hN hg)
   clear hlt hk hbx hu
   go_wp2_with fail
   refine TS.begin [7] (World.Grows wr) (by kernel_rfl) (by kernel_rfl) grows_drew0 (fun hS=>?_)
   refine TS.wkB 0 hS ?_
   refine TS.wkB 1 hS ?_
   refine TS.wkB 2 hS ?_
   refine TS.wkB 3 hS ?_
   refine TS.wkB 4 hS ?_
   refine TS.wkB 5 hS ?_
   refine TS.one (i:=6) (by kernel_rfl) rfl (fun K1 hK1=>?_)
   have HK1:=Lib.hid hK1
   clear hK1 hS
   dsimp only [List.getElem_toArray,List.getElem_cons_succ,List.getElem_cons_zero]
   go_simp
   go_at_call 195
   refine(HQ.out _ growsR).mono ?_
   rintro e' w2 ⟨rfl,hg2⟩
   refine TS.go HK1.out (World.Grows.trans' growsR hg2) (fun hS=>?_)
   clear HK1 K1
   (try simp only [nS])
   refine TS.weB 7 ?_
   clear hS
   go_wp2_with fail
   go_returns
   exact⟨by rw [HR.out];rfl,HP.out _ (World.Grows.trans' growsR hg2)⟩
theorem own_lower{w:World}{B B' size n:Nat}{e:TypeId}{v:Value}{xs:List Value}(h:w.ownsRow B e size v n xs)(hb:B'≤B):w.ownsRow B' e size v n xs:=⟨h.1,h.2.imp id fun⟨g,cap,cur,hv,hbb,rest⟩=>⟨g,cap,cur,hv,Nat.le_trans hb hbb,rest⟩⟩
theorem clone_rows{w:World}{B:Nat}{v:Value}{zs:List Int}(h:w.ownsRow B 3 1 v zs.length (zs.map (Value.int .i64)))(hl:zs.length≤1000)(hN:Nat)(hNs:hN<w.heap.size)(base:Nat)(hb:base≤w.heap.size) :
 Calls Tryz.prog 194 #[v] w fun e w'=>∃va vl vc,e= .returned (.slice va vl vc)∧w.Grows w'∧w'.ownsRow base 3 1 (.slice va vl vc) zs.length (zs.map (Value.int .i64)):=by
 rcases row_frm h with ⟨rfl,h0⟩|⟨g,cap,rfl,-⟩
 ·refine(Tryz.slices_Clone_int_nil 0 0 w).mono ?_
  rintro e w' ⟨rfl,rfl⟩
  have:zs= []:=List.eq_nil_of_length_eq_zero h0
  subst this
  exact⟨_,_,_,rfl,.refl _,World.ownsRow_nil _ _ _ _⟩
 ·refine(Tryz.slices_Clone_int g 0 zs.length cap zs w (Nat.le_refl _) (by omega) (own_get h)).mono ?_
  rintro e w' ⟨v',rfl,ho,hne,hb'⟩
  rw [List.take_length]at ho
  obtain⟨va,vl,vc,rfl⟩:∃va vl vc,v'= .slice va vl vc:=by
   rcases row_frm ho with ⟨rfl,-⟩|⟨g',cap',rfl,-⟩
   ·exact⟨_,_,_,rfl⟩
   ·exact⟨_,_,_,rfl⟩
  exact⟨_,_,_,rfl,.of_below hb',own_lower ho hb⟩
def MrgA(N off B:Nat)(v1:Value)(o:Option (List Int × List Bool))(s:List Int × List Bool)(w:World)(e:Ending)(w':World):Prop:=
 ∃b,e= .returned (.bool b)∧Mods (fun k=>k=N) w w'∧(∀i,i<off∨off+14≤i→w'.cell? ⟨N,i,none⟩=w.cell? ⟨N,i,none⟩)∧(∀i,w'.frozen? ⟨N,i,none⟩=w.frozen? ⟨N,i,none⟩)∧
  match mrgF o s with
  |none=>b=false
  |some s'=>b=true∧∃v',StM w' N off v' (some s')∧w'.ownsRow B 3 1 v' s'.1.length (s'.1.map (Value.int .i64))∧((o≠none∧v'=v1)∨(o=none∧∀k,v'.ownBlock=some k→w.heap.size≤k))
theorem merge_any(N off B B':Nat)(o:Option (List Int × List Bool))(s:List Int × List Bool)(v1 v2:Value)(w:World)(hN:N<w.heap.size)(hNB:N<B)(hB:B≤w.heap.size)(hT:StM w N off v1 o)(hf:∀i,w.frozen? ⟨N,i,none⟩=false)
 (h1:∀t,o=some t→w.ownsRow B 3 1 v1 t.1.length (t.1.map (Value.int .i64))∧t.1.length≤1000) (h2:w.ownsRow B' 3 1 v2 s.1.length (s.1.map (Value.int .i64))) (hl2:s.1.length≤1000) (hn2:v2.ownBlock≠some N) (hs:s.2.length=12) :
 ∀b0 b1 b2 b3 b4 b5 b6 b7 b8 b9 b10 b11,s.2= [b0,b1,b2,b3,b4,b5,b6,b7,b8,b9,b10,b11]→Calls Tryz.prog 109 #[.pointer (some ⟨N,off,none⟩),.agg #[.bool true,v2,.bool b0,.bool b1,.bool b2,.bool b3,.bool b4,.bool b5,.bool b6,.bool b7,.bool b8,.bool b9,.bool b10,.bool b11]] w (MrgA N off B v1 o s w):=by
 intro b0 b1 b2 b3 b4 b5 b6 b7 b8 b9 b10 b11 hsb
 cases o with
 |none=>
  obtain⟨bs,hbl,hc⟩:=hT
  obtain⟨s0,s1,s2,s3,s4,s5,s6,s7,s8,s9,s10,s11,rfl⟩:=twelve hbl
  obtain⟨a2,n2,k2,rfl⟩:∃a n k,v2= .slice a n k:=by
   rcases row_frm h2 with ⟨rfl,-⟩|⟨g,cap,rfl,-⟩
   ·exact⟨_,_,_,rfl⟩
   ·exact⟨_,_,_,rfl⟩
  refine(merge_new N off s.1 a2 n2 k2 w true b0 b1 b2 b3 b4 b5 b6 b7 b8 b9 b10 b11 hN (.slice none 0 0) s0 s1 s2 s3 s4 s5 s6 s7 s8 s9 s10 s11 hc hf (Lib.hid fun w' hg=>clone_rows (Mods.row (P:=fun _=>False) (.grows hg) h2 fun _ _ e=>e) hl2 N (Nat.lt_of_lt_of_le hN hg.below.size) w.heap.size hg.below.size)).mono ?_
  rintro e w' ⟨rfl,a,n,c,hu,hr⟩
  refine⟨true,rfl,hu.mods,fun i hi=>hu.out i (by simpa using hi),hu.frz,rfl,_,⟨hs,by rw [hsb];exact hu.cells⟩,own_lower hr hB,.inr ⟨rfl,fun k hk=>(hr.lt k hk).1⟩⟩
 |some t=>
  obtain⟨r1,hl1⟩:=h1 t rfl
  have hn1:v1.ownBlock≠some N:=fun e=>by have:=(r1.lt N e).1;omega
  refine(merge_old N off B B' t s.1 v1 v2 w true b0 b1 b2 b3 b4 b5 b6 b7 b8 b9 b10 b11 hN hT hf r1 h2 hl1 hl2 hn1 hn2).mono ?_
  rintro e w' ⟨rfl,hu⟩
  rw [←hsb]at hu
  have hz:(List.zipWith (· && ·) t.2 s.2).length=12:=by rw [List.length_zipWith,hT.1,hs];rfl
  refine⟨_,rfl,hu.mods,fun i hi=>hu.out i (by simp only [List.length_cons,List.length_map,hz];exact hi),hu.frz, ?_⟩
  unfold mrgF
  by_cases e:t.1=s.1
  ·simp only [if_pos e]
   exact⟨decide_eq_true e,v1,⟨hz,hu.cells⟩,hu.mods.row r1 fun k hk q=>hn1 (q ▸ hk),.inl ⟨by simp,rfl⟩⟩
  ·simp only [if_neg e]
   exact decide_eq_false e
def FdPost(n d m:Int)(w:World)(e:Ending)(w':World):Prop:=∃s,e= .returned (.tuple #[.string s,.bool (decOk n d m)])∧(decOk n d m=true→s.data.toList=dec2T n d m)∧w.Grows w'
theorem FdPost.no{n d m:Int}{w w':World}(h:decOk n d m=false)(hw:w.Grows w'):FdPost n d m w (.returned (.tuple #[.string ⟨#[]⟩,.bool false])) w':=
 ⟨⟨#[]⟩,by rw [h],fun k=>(by rw [h]at k;cases k),hw⟩
theorem FdPost.yes{n d m:Int}{w w':World}{s:ByteArray}(h:decOk n d m=true)(hs:s.data.toList=dec2T n d m)(hw:w.Grows w'):FdPost n d m w (.returned (.tuple #[.string s,.bool true])) w':=
 ⟨s,by rw [h],fun _=>hs,hw⟩
def FdAt(n d:Int)(k:Nat)(l:List Int)(r:Int)(s:ByteArray):Prop:=
 fdig d 4 (n % d)=(fdig d (4-k) r).map (l++ ·)∧l.length=k∧s.data.toList=Lib.decDigits (n / d).toNat++dotL l
theorem dotL_snoc{l:List Int}(h:l≠[])(x:Int):dotL (l++[x])=dotL l++[dgB x]:=by
 unfold dotL
 rw [if_neg h,if_neg (by simp)]
 simp
theorem dotL_one(x:Int):dotL [x]= [46,dgB x]:=by unfold dotL;rw [if_neg (by simp)];rfl
theorem dec_dg{x:Int}(h0:0≤x)(h1:x≤9):Lib.decDigits x.toNat= [dgB x]:=by
 rw [Lib.decDigits,dif_pos (by omega)];rfl
theorem app_list(a b:ByteArray):(a++b).data.toList=a.data.toList++b.data.toList:=by
 rw [ByteArray.data_append,Array.toList_append]
theorem fdig_more{d:Int}{f:Nat}{r:Int}(h:0<r):fdig d (f+1) r=(fdig d f (r*10 % d)).map fun l=>r*10 / d::l:=by
 rw [fdig,if_neg (by omega)]
theorem FdAt.first{n d r:Int}{s:ByteArray}(h:FdAt n d 0 [] r s)(hr:0<r)(h0:0≤r*10 / d)(h1:r*10 / d≤9):FdAt n d 1 [r*10 / d] (r*10 % d) (s++⟨#[46]⟩++⟨(Lib.decDigits (r*10 / d).toNat).toArray⟩):=by
 obtain⟨a,-,c⟩:=h
 refine⟨?_,rfl, ?_⟩
 ·rw [a,show 4-0=3+1 by rfl,fdig_more hr]
  cases fdig d 3 (r*10 % d)<;>rfl
 ·rw [app_list,app_list,c,dec_dg h0 h1,dotL_one]
  simp [dotL]
theorem FdAt.more{n d r:Int}{s:ByteArray}{k:Nat}{l:List Int}(h:FdAt n d k l r s)(hk:0<k)(hk4:k<4)(hr:0<r)(h0:0≤r*10 / d)(h1:r*10 / d≤9) :
 FdAt n d (k+1) (l++[r*10 / d]) (r*10 % d) (s++⟨(Lib.decDigits (r*10 / d).toNat).toArray⟩):=by
 obtain⟨a,b,c⟩:=h
 refine⟨?_,by simp [b], ?_⟩
 ·rw [a,show 4-k=(4-(k+1))+1 by omega,fdig_more hr]
  cases fdig d (4-(k+1)) (r*10 % d)<;>simp
 ·rw [app_list,c,dec_dg h0 h1,dotL_snoc (by intro e;rw [e]at b;simp at b;omega),List.append_assoc]
theorem FdAt.none4{n d r:Int}{s:ByteArray}{l:List Int}(h:FdAt n d 4 l r s)(hr:0<r):fdig d 4 (n % d)=none:=by
 rw [h.1];show(fdig d 0 r).map _=none;rw [fdig,if_neg (by omega)];rfl
theorem FdAt.some{n d r:Int}{s:ByteArray}{k:Nat}{l:List Int}(h:FdAt n d k l r s)(hr:r≤0):fdig d 4 (n % d)=some l:=by
 rw [h.1]
 have:fdig d (4-k) r=Option.some []:=by
  cases 4-k with
  |zero=>rw [fdig,if_pos hr]
  |succ f=>rw [fdig,if_pos hr]
 rw [this];simp
theorem dec_cmp{s:ByteArray}{n d m:Int}{l:List Int}(h1:1≤d)(h2:d≤10000)(h3:0≤n)(h4:n≤1000000000000000)(hf:fdig d 4 (n % d)=some l)(hs:s.data.toList=Lib.decDigits (n / d).toNat++dotL l++sufL m) :
 (decF s.data.toList=none∧decOk n d m=false)∨∃a b c,decF s.data.toList=some (a,b,c)∧((a=n∧b=d∧c=m∧decOk n d m=true∧s.data.toList=dec2T n d m)∨(a≠n∧decOk n d m=false)∨(b≠d∧decOk n d m=false)∨(c≠m∧decOk n d m=false)):=by
 have hr:=dec2_read (m:=m) h1 h2 h3 h4 hf
 rw [←hs]at hr
 cases hd:decF s.data.toList with
 |none=>
  left
  refine⟨rfl, ?_⟩
  rw [Bool.eq_false_iff];intro k
  have:=hr.2 k
  rw [hd]at this;cases this
 |some t=>
  right
  obtain⟨a,b,c⟩:=t
  refine⟨a,b,c,rfl, ?_⟩
  by_cases e1:a=n
  ·by_cases e2:b=d
   ·by_cases e3:c=m
    ·left
     refine⟨e1,e2,e3,hr.1 (by rw [hd,e1,e2,e3]), ?_⟩
     unfold dec2T;rw [hf];exact hs
    ·right;right;right
     refine⟨e3, ?_⟩
     rw [Bool.eq_false_iff];intro k
     have:=hr.2 k
     rw [hd]at this
     simp only [Option.some.injEq,Prod.mk.injEq]at this
     exact e3 this.2.2
   ·right;right;left
    refine⟨e2, ?_⟩
    rw [Bool.eq_false_iff];intro k
    have:=hr.2 k
    rw [hd]at this
    simp only [Option.some.injEq,Prod.mk.injEq]at this
    exact e2 this.2.1
  ·right;left
   refine⟨e1, ?_⟩
   rw [Bool.eq_false_iff];intro k
   have:=hr.2 k
   rw [hd]at this
   simp only [Option.some.injEq,Prod.mk.injEq]at this
   exact e1 this.1
theorem FormatDecimal2_any(n d m:Int)(w:World)(h1:I64 n)(h2:I64 d)(h3:I64 m)(ht:Tab w):Calls Tryz.prog 211 #[.agg #[.int .i64 n,.int .i64 d],.int .i64 m] w (FdPost n d m w):=by
 unfold I64 at h1 h2 h3
 by_cases c1:d<1
 ·exact sz19
 by_cases c2:10000<d
 ·exact sz19
 by_cases c3:n<0
 ·exact sz19
 by_cases c4:(1000000000000000:Int)<n
 ·exact sz19
 have d0:1≤d:=by omega
 have d1:d≤10000:=by omega
 have n0:0≤n:=by omega
 have n1:n≤1000000000000000:=by omega
 clear c1 c2 c3 c4
 have hq0:0≤n / d:=Int.ediv_nonneg n0 (by omega)
 have hq1:n / d≤n:=Int.ediv_le_self _ n0
 have hr0:0≤n % d:=Int.emod_nonneg _ (by omega)
 have hr1:n % d<d:=Int.emod_lt_of_pos _ (by omega)
 have et:n.tdiv d=n / d:=Int.tdiv_eq_ediv_of_nonneg n0
 have em:n.tmod d=n % d:=Int.tmod_eq_emod_of_nonneg n0
 have dz:(d==0)=false:=by simp;omega
 have HT:=Lib.hid ht
 have hi:Lib.itoa (n / d)=Lib.decDigits (n / d).toNat:=by unfold Lib.itoa;rw [if_neg (by omega)]
 have HI:Hid (∀w,Tab w→Calls Tryz.prog 257 #[.int .i64 (n / d)] w fun e w'=>e= .returned (.string ⟨(Lib.decDigits (n / d).toNat).toArray⟩)∧w.Grows w'):=Lib.hid (fun w h=>by
  have:=Itoa_any (n / d) (by omega) (by omega) w h
  rwa [hi]at this)
 have HS0:Hid (FdAt n d 0 [] (n % d) ⟨(Lib.decDigits (n / d).toNat).toArray⟩):=Lib.hid ⟨by show _=(fdig d 4 (n % d)).map _;simp,rfl,by simp [dotL]⟩
 have HZ0:Hid ((⟨(Lib.decDigits (n / d).toNat).toArray⟩:ByteArray).size≤20):=Lib.hid (by
  show(Lib.decDigits (n / d).toNat).toArray.size≤20
  rw [List.size_toArray,Lib.decDigits_length]
  exact Lib.nDigits_le20 _ (by omega))
 clear hi ht
 generalize(⟨(Lib.decDigits (n / d).toNat).toArray⟩:ByteArray)=s0 at *
 go_enter Tryz.func211,Tryz.ntmps211
 go_wp2_with (go_at_call 257;(with_reducible refine(HI.out _ (HT.out.alloc _)).mono ?_);rintro e w' ⟨rfl,bs,dr,rfl⟩)
 go_loopw [6,7,8] (fun v6 v7 v8 wr=>∃k:Nat,∃l:List Int,∃r:Int,∃s:ByteArray,k≤4∧v8= .int .i64 k∧v7= .int .i64 r∧v6= .string s∧0≤r∧r<d∧(s.size:Int)≤30+10*k∧Hid (FdAt n d k l r s)∧
  World.Grows (w.alloc (.cells #[.int .i64 n,.int .i64 d] 24)) wr) (fun _ _ v8 _=>5-(intOf v8).toNat)
 case atStart=>exact⟨0,[],_,_,by omega,rfl,rfl,rfl,hr0,hr1,by have:=HZ0.out;omega,HS0,.of_below belB⟩
 case round=>
  obtain⟨k,l,r,s,hk,rfl,rfl,rfl,r0,r1,hsz,HF,bs3,dr3,rfl⟩:=hrel
  clear HI
  by_cases hp:0<r
  ·have x0:0≤r*10 / d:=Int.ediv_nonneg (by omega) (by omega)
   have x1:r*10 / d≤9:=by
    have:r*10 / d<10:=Int.ediv_lt_of_lt_mul (by omega) (by omega)
    omega
   have x2:0≤r*10 % d:=Int.emod_nonneg _ (by omega)
   have x3:r*10 % d<d:=Int.emod_lt_of_pos _ (by omega)
   have x4:(r*10).tdiv d=r*10 / d:=Int.tdiv_eq_ediv_of_nonneg (by omega)
   have x5:(r*10).tmod d=r*10 % d:=Int.tmod_eq_emod_of_nonneg (by omega)
   have HX:Hid _:=Lib.hid (fun w=>Itoa_digit (r*10 / d) x0 x1 w)
   have HXB:=Lib.hid (And.intro x0 x1)
   obtain⟨s9,hs9⟩:∃s9,(⟨(Lib.decDigits (r*10 / d).toNat).toArray⟩:ByteArray)=s9:=⟨_,rfl⟩
   have hz9:s9.size=1:=by rw [←hs9,dec_dg x0 x1];rfl
   rw [hs9]at HX
   have HS9:=Lib.hid hs9
   clear hs9
   by_cases k0:k=0
   ·subst k0
    have hl:l= []:=List.eq_nil_of_length_eq_zero HF.out.2.1
    subst hl
    go_wp2_with (go_at_call 257;(with_reducible refine(HX.out _).mono ?_);rintro e w' ⟨rfl,rfl⟩)
    go_roundw
    case rel=>exact⟨1,_,_,_,by omega,rfl,rfl,rfl,x2,x3,by
     rw [ByteArray.size_append,ByteArray.size_append,hz9]
     show((s.size+1+1:Nat):Int)≤_
     simp at hsz ⊢;omega,Lib.hid (by rw [←HS9.out];exact HF.out.first hp HXB.out.1 HXB.out.2),.of_below belB⟩
    case measure=>simp [intOf]
   ·by_cases k4:k=4
    ·subst k4
     have HN:=Lib.hid (dec2_none (m:=m) d0 d1 n0 n1 (HF.out.none4 hp))
     go_wp2_with fail
     go_returns
     exact FdPost.no HN.out (.of_below belB)
    ·have kz:((k:Int)==0)=false:=by simp;omega
     have k44:((k:Int)==4)=false:=by simp;omega
     go_wp2_with (go_at_call 257;(with_reducible refine(HX.out _).mono ?_);rintro e w' ⟨rfl,rfl⟩)
     go_roundw
     case rel=>exact⟨k+1,_,_,_,by omega,by go_num,rfl,rfl,x2,x3,by
      rw [ByteArray.size_append,hz9];omega,Lib.hid (by rw [←HS9.out];exact HF.out.more (by omega) (by omega) hp HXB.out.1 HXB.out.2),.of_below belB⟩
     case measure=>simp [intOf];omega
  ·clear HS0 HZ0
   have hsz2:(s.size:Int)≤70:=by omega
   by_cases m3:m=3
   ·subst m3
    have HDEC:=Lib.hid (dec_cmp (m:=3) (s:=s++⟨#[100]⟩) d0 d1 n0 n1 (HF.out.some (by omega)) (by rw [app_list,HF.out.2.2];try rfl))
    have HD:Hid _:=Lib.hid (fun w=>Decimal2_any (s++⟨#[100]⟩) w (by rw [ByteArray.size_append];unfold maxLen;show s.size+1≤_;omega))
    clear HF
    rcases HDEC.out with ⟨hn,hno⟩|⟨a,b,c,hs,⟨rfl,rfl,rfl,hy,ht⟩|⟨h1,hno⟩|⟨h1,hno⟩|⟨h1,hno⟩⟩
    ·exact sz35
    ·exact sz14
    ·exact sz24
    ·exact sz28
    ·rw [hs]at HD
     simp only [decFV]at HD
     have HO:=Lib.hid hno
     have q1:(c==3)=false:=by simpa using h1
     exact sz7
   ·by_cases m4:m=4
    ·subst m4
     have HDEC:=Lib.hid (dec_cmp (m:=4) (s:=s++⟨#[109]⟩) d0 d1 n0 n1 (HF.out.some (by omega)) (by rw [app_list,HF.out.2.2];try rfl))
     have HD:Hid _:=Lib.hid (fun w=>Decimal2_any (s++⟨#[109]⟩) w (by rw [ByteArray.size_append];unfold maxLen;show s.size+1≤_;omega))
     clear HF
     rcases HDEC.out with ⟨hn,hno⟩|⟨a,b,c,hs,⟨rfl,rfl,rfl,hy,ht⟩|⟨h1,hno⟩|⟨h1,hno⟩|⟨h1,hno⟩⟩
     ·exact sz35
     ·exact sz14
     ·exact sz24
     ·exact sz28
     ·rw [hs]at HD
      simp only [decFV]at HD
      have HO:=Lib.hid hno
      have q1:(c==4)=false:=by simpa using h1
      exact sz7
    ·have y3:(m==3)=false:=by simpa using m3
     have y4:(m==4)=false:=by simpa using m4
     have hsuf:sufL m= []:=by unfold sufL;rw [if_neg m3,if_neg m4]
     have hap:s.data.toList=s.data.toList++sufL m:=by rw [hsuf,List.append_nil]
     have HAP:=Lib.hid hap
     clear m3 m4 hsuf hap
     have HDEC:=Lib.hid (dec_cmp (m:=m) (s:=s) d0 d1 n0 n1 (HF.out.some (by omega)) (by rw [HAP.out,HF.out.2.2];try rfl))
     have HD:Hid _:=Lib.hid (fun w=>Decimal2_any (s) w (by unfold maxLen;omega))
     clear HF
     rcases HDEC.out with ⟨hn,hno⟩|⟨a,b,c,hs,⟨rfl,rfl,rfl,hy,ht⟩|⟨h1,hno⟩|⟨h1,hno⟩|⟨h1,hno⟩⟩
     ·exact sz35
     ·exact sz14
     ·exact sz24
     ·exact sz28
     ·rw [hs]at HD
      simp only [decFV]at HD
      have HO:=Lib.hid hno
      have q1:(c==m)=false:=by simpa using h1
      exact sz7
def nodeB(e:Ex):Bool:=decide ((e.args.length:Int)=argsN e.op)&&
 (if e.op=1 then decOk e.num e.den e.dim&&e.name.toList.isEmpty
  else if e.op=2 then decide (e.num=0)&&decide (e.den=0)&&decide (e.dim=0)&&nameB e.name
  else if e.op=3 then decide (e.dim=0)&&e.name.toList.isEmpty&&decide (e.den=1)&&decide (1≤e.num)&&decide (e.num≤45)
  else decide (e.num=0)&&decide (e.den=0)&&decide (e.dim=0)&&e.name.toList.isEmpty)
theorem formed_node(e:Ex):formedB e=(nodeB e&&formedsB e.args):=by
 rw [formedB_eq]
 unfold nodeB
 by_cases hl:(e.args.length:Int)=argsN e.op
 ·rw [decide_eq_true hl,Bool.true_and,Bool.true_and]
  have nil (h:e.op=1∨e.op=2∨e.op=3):formedsB e.args=true:=by
   have:e.args= []:=by
    have h0:argsN e.op=0:=by unfold argsN;rw [if_pos (by omega)]
    exact List.eq_nil_of_length_eq_zero (by omega)
   rw [this];rfl
  by_cases o1:e.op=1
  ·rw [if_pos o1,if_pos o1,nil (.inl o1),Bool.and_true]
  ·rw [if_neg o1,if_neg o1]
   by_cases o2:e.op=2
   ·rw [if_pos o2,if_pos o2,nil (.inr (.inl o2)),Bool.and_true]
   ·rw [if_neg o2,if_neg o2]
    by_cases o3:e.op=3
    ·rw [if_pos o3,if_pos o3,nil (.inr (.inr o3)),Bool.and_true]
    ·rw [if_neg o3,if_neg o3,Bool.and_comm]
 ·rw [decide_eq_false hl];rfl
theorem formeds_any(l:List Ex):formedsB l=!(List.range l.length).any fun k=>!formedB (l.getD k default):=by
 induction l with
 |nil=>rfl
 |cons e r ih=>
  rw [formedsB,ih,List.length_cons,List.range_succ_eq_map,List.any_cons,List.any_map]
  simp only [List.getD_cons_zero,Bool.not_or,Bool.not_not]
  congr 1
theorem node2_len(e:Ex)(a:Option Addr)(cap:Nat)(w:World)(hr:ExRng e)(hne:¬(e.args.length:Int)=argsN e.op):(Calls Tryz.prog 208 #[exV e (.slice a e.args.length cap)] w fun r w'=>r= .returned (.bool (nodeB e))∧w.Grows w'):=by
 have HF:Hid (nodeB e=false):=Lib.hid (by unfold nodeB;rw [decide_eq_false hne,Bool.false_and])
 obtain⟨on,od⟩:=hr.num
 obtain⟨pn,pd⟩:=hr.den
 have hsz:=hr.name
 have hi:=Lib.hid (And.intro hr.num (And.intro hr.den hr.dim))
 clear hr
 have h1:((e.args.length:Int)!=argsN e.op)=true:=by simpa using hne
 clear hne
 go_enter Tryz.func208,Tryz.ntmps208
 go_wp2_with fail
 go_quiet ((go_at_call 254;exact Calls.quiet_eq (arity2_any _ _)))
 go_wp2_with fail
 go_returns
 exact⟨ret_bool HF.out.symm,.of_below belB⟩
theorem node2_lit(e:Ex)(a:Option Addr)(cap:Nat)(w:World)(hr:ExRng e)(ht:Tab w)(hle:(e.args.length:Int)=argsN e.op)(ho:e.op=1):(Calls Tryz.prog 208 #[exV e (.slice a e.args.length cap)] w fun r w'=>r= .returned (.bool (nodeB e))∧w.Grows w'):=by
 have HF:Hid (nodeB e=(decOk e.num e.den e.dim&&e.name.toList.isEmpty)):=Lib.hid (by unfold nodeB;rw [decide_eq_true hle,Bool.true_and,if_pos ho])
 obtain⟨on,od⟩:=hr.num
 obtain⟨pn,pd⟩:=hr.den
 have hsz:=hr.name
 have hi:=Lib.hid (And.intro hr.num (And.intro hr.den hr.dim))
 clear hr
 have HT:=Lib.hid ht
 clear ht
 have h1:((e.args.length:Int)!=argsN 1)=false:=by rw [ho]at hle;simpa using hle
 clear hle
 cases hd:decOk e.num e.den e.dim
 all_goals
  have HD:Hid _:=Lib.hid (fun w (ht:Tab w)=>FormatDecimal2_any e.num e.den e.dim w hi.out.1 hi.out.2.1 hi.out.2.2 ht)
  unfold FdPost at HD
  rw [hd]at HD HF
  clear hd
  go_enter Tryz.func208,Tryz.ntmps208
  go_wp2_with fail
  go_quiet ((go_at_call 254;exact Calls.quiet_eq (arity2_any _ _)))
  go_wp2_with (go_at_call 211;refine(HD.out _ ((HT.out.alloc _).drewN _)).mono ?_;rintro e' w' ⟨s,rfl,-,bs,d,rfl⟩)
  all_goals
   go_returns
   exact⟨ret_bool (by rw [HF.out];simp [*]),.of_below belB⟩
theorem node2_name(e:Ex)(a:Option Addr)(cap:Nat)(w:World)(hr:ExRng e)(hle:(e.args.length:Int)=argsN e.op)(ho:e.op=2):(Calls Tryz.prog 208 #[exV e (.slice a e.args.length cap)] w fun r w'=>r= .returned (.bool (nodeB e))∧w.Grows w'):=by
 have HF:Hid (nodeB e=(decide (e.num=0)&&decide (e.den=0)&&decide (e.dim=0)&&nameB e.name)):=Lib.hid (by unfold nodeB;rw [decide_eq_true hle,Bool.true_and,if_neg (by omega),if_pos ho])
 obtain⟨on,od⟩:=hr.num
 obtain⟨pn,pd⟩:=hr.den
 have hsz:=hr.name
 have hi:=Lib.hid (And.intro hr.num (And.intro hr.den hr.dim))
 clear hr
 have h1:((e.args.length:Int)!=argsN 2)=false:=by rw [ho]at hle;simpa using hle
 clear hle
 have HM:=Lib.hid (show e.name.size≤maxLen by unfold maxLen;omega)
 go_enter Tryz.func208,Tryz.ntmps208
 go_wp2_with fail
 go_quiet ((go_at_call 254;exact Calls.quiet_eq (arity2_any _ _)))
 go_wp2_with (go_at_call 255;refine(isName2_any _ _ HM.out).mono ?_;rintro e' w' ⟨rfl,rfl⟩)
 all_goals
  go_returns
  exact⟨ret_bool (by rw [HF.out];first|(simp [*];done)|(simp [*];rfl)),.of_below belB⟩
theorem node2_best(e:Ex)(a:Option Addr)(cap:Nat)(w:World)(hr:ExRng e)(hle:(e.args.length:Int)=argsN e.op)(ho:e.op=3):(Calls Tryz.prog 208 #[exV e (.slice a e.args.length cap)] w fun r w'=>r= .returned (.bool (nodeB e))∧w.Grows w'):=by
 have HF:Hid (nodeB e=(decide (e.dim=0)&&e.name.toList.isEmpty&&decide (e.den=1)&&decide (1≤e.num)&&decide (e.num≤45))):=Lib.hid (by unfold nodeB;rw [decide_eq_true hle,Bool.true_and,if_neg (by omega),if_neg (by omega),if_pos ho])
 obtain⟨on,od⟩:=hr.num
 obtain⟨pn,pd⟩:=hr.den
 have hsz:=hr.name
 have hi:=Lib.hid (And.intro hr.num (And.intro hr.den hr.dim))
 clear hr
 have h1:((e.args.length:Int)!=argsN 3)=false:=by rw [ho]at hle;simpa using hle
 clear hle
 go_enter Tryz.func208,Tryz.ntmps208
 go_wp2_with fail
 go_quiet ((go_at_call 254;exact Calls.quiet_eq (arity2_any _ _)))
 go_wp2_with fail
 all_goals
  go_returns
  exact⟨ret_bool (by rw [HF.out];first|(simp [*];done)|(simp [*];rfl)|(simp [*];intros;omega)),.of_below belB⟩
theorem node2_op(e:Ex)(a:Option Addr)(cap:Nat)(w:World)(hr:ExRng e)(hle:(e.args.length:Int)=argsN e.op)(o1:¬e.op=1)(o2:¬e.op=2)(o3:¬e.op=3):(Calls Tryz.prog 208 #[exV e (.slice a e.args.length cap)] w fun r w'=>r= .returned (.bool (nodeB e))∧w.Grows w'):=by
 have HF:Hid (nodeB e=(decide (e.num=0)&&decide (e.den=0)&&decide (e.dim=0)&&e.name.toList.isEmpty)):=Lib.hid (by unfold nodeB;rw [decide_eq_true hle,Bool.true_and,if_neg o1,if_neg o2,if_neg o3])
 obtain⟨on,od⟩:=hr.num
 obtain⟨pn,pd⟩:=hr.den
 have hsz:=hr.name
 have hi:=Lib.hid (And.intro hr.num (And.intro hr.den hr.dim))
 clear hr
 have h1:((e.args.length:Int)!=argsN e.op)=false:=by simpa using hle
 have p1:(e.op==1)=false:=by simpa using o1
 have p2:(e.op==2)=false:=by simpa using o2
 have p3:(e.op==3)=false:=by simpa using o3
 clear hle o1 o2 o3
 go_enter Tryz.func208,Tryz.ntmps208
 go_wp2_with fail
 go_quiet ((go_at_call 254;exact Calls.quiet_eq (arity2_any _ _)))
 go_wp2_with fail
 all_goals
  go_returns
  exact⟨ret_bool (by rw [HF.out];simp [*]),.of_below belB⟩
theorem node2_any(e:Ex)(a:Option Addr)(cap:Nat)(w:World)(hr:ExRng e)(ht:Tab w):(Calls Tryz.prog 208 #[exV e (.slice a e.args.length cap)] w fun r w'=>r= .returned (.bool (nodeB e))∧w.Grows w'):=by
 by_cases hle:(e.args.length:Int)=argsN e.op
 ·by_cases o1:e.op=1
  ·exact node2_lit e a cap w hr ht hle o1
  ·by_cases o2:e.op=2
   ·exact node2_name e a cap w hr hle o2
   ·by_cases o3:e.op=3
    ·exact node2_best e a cap w hr hle o3
    ·exact node2_op e a cap w hr hle o1 o2 o3
 ·exact node2_len e a cap w hr hle
theorem form_clos:∀args w,(callFunc 210 args).run Tryz.prog w= .ok (.enter 210 args) w:=enters_of Tryz.func210 (by kernel_rfl) rfl
theorem form2_walk(S:Nat→Prop)(n:Nat):∀(e:Ex),e.size≤n→∀(v:Value) (w:World),RepE S w e v→Tab w→
 Calls Tryz.prog 126 #[exV e v] w fun r w'=>r= .returned (.bool (formedB e))∧w.Grows w':=by
 induction n with
 |zero=>intro e he;have:=e.size_pos;omega
 |succ n ih=>
  intro e he v w h ht
  have HR:=Lib.hid h
  have HT:=Lib.hid ht
  have HN:Hid (_):=Lib.hid (fun a cap w (ht:Tab w)=>node2_any e a cap w h.rng ht)
  have hany:=formeds_any e.args
  have hfn:=formed_node e
  obtain⟨a,cap,rfl⟩:=h.form0
  have HC:Hid (∀w',w.Grows w'→Calls Tryz.prog 209 #[.slice a e.args.length cap,.func (.func 210) #[] #[]] w' fun r w''=>r= .returned (.bool (!formedsB e.args))∧w'.Grows w''):=Lib.hid (fun w' hg=>by
   have:=containsE_any S 210 #[] form_clos e (.slice a e.args.length cap) (fun k=>!formedB (e.arg k)) w' (HR.out.grows hg) (Lib.hid (fun k hk ak ck w1 hg1 hR1=>by
    have hsm:=e.size_arg k hk
    have IH:=Lib.hid (fun w2 h1 h2=>ih (e.arg k) (by omega) (.slice ak (e.arg k).args.length ck) w2 h1 h2)
    have hT1:=Lib.hid ((HT.out.grows hg).grows hg1)
    have HR1:=Lib.hid hR1
    dsimp only
    generalize formedB (e.arg k)=q at *
    clear hany hfn HN HR HT hR1 ih hg hg1
    generalize e.arg k=x at *
    show Calls Tryz.prog 210 #[exV x (.slice ak x.args.length ck)] w1 _
    go_enter Tryz.func210,Tryz.ntmps210
    go_wp2_with (go_at_call 126;refine(IH.out _ (HR1.out.alloc _) (hT1.out.alloc _)).mono ?_;rintro e' w' ⟨rfl,bs,d,rfl⟩)
    go_returns
    exact⟨ret_bool rfl,.of_below belB⟩))
   rw [show(List.range e.args.length).any (fun k=>!formedB (e.arg k))=!formedsB e.args by rw [hany,Bool.not_not];rfl]at this
   exact this)
  clear hany ih h ht
  generalize formedsB e.args=q at *
  generalize nodeB e=p at *
  have HF:=Lib.hid hfn
  clear hfn
  cases p
  ·go_enter Tryz.func126,Tryz.ntmps126
   go_wp2_with (go_at_call 208;refine(HN.out _ _ _ (HT.out.alloc _)).mono ?_;rintro e' w' ⟨rfl,bs,d,rfl⟩)
   go_returns
   exact⟨ret_bool (by rw [HF.out];rfl),.of_below belB⟩
  ·go_enter Tryz.func126,Tryz.ntmps126
   go_wp2_with (first|(go_at_call 208;refine(HN.out _ _ _ (HT.out.alloc _)).mono ?_;rintro e' w' ⟨rfl,bs,d,rfl⟩)|(go_at_call 209;refine(HC.out _ (.of_below belB)).mono ?_;rintro e' w' ⟨rfl,bs2,d2,rfl⟩))
   go_returns
   exact⟨ret_bool (by rw [HF.out];simp),.of_below belB⟩
theorem form2_any(S:Nat→Prop)(e:Ex)(v:Value)(w:World)(h:RepE S w e v)(ht:Tab w):Calls Tryz.prog 126 #[exV e v] w fun r w'=>r= .returned (.bool (formedB e))∧w.Grows w':=form2_walk S e.size e (Nat.le_refl _) v w h ht
theorem ValidExpr2_any(S:Nat→Prop)(e:Ex)(v:Value)(w:World)(h:Hid (RepE S w e v))(hbig:Hid (e.size≤2305843009213693952))(ht:Hid (Tab w)):Calls Tryz.prog 56 #[exV e v] w fun r w'=>r= .returned (.bool (validB e))∧w.Grows w':=by
 obtain⟨a,cap,hv⟩:=h.out.form0
 subst hv
 by_cases c1:(e.depth:Int)≤10
 ·by_cases c2:(e.size:Int)≤60
  ·go_enter Tryz.func56,Tryz.ntmps56
   go_wp2_with ((first|(go_at_call 124;refine(Depth2_walk S e.size e (Nat.le_refl _) _ _ (h.out.alloc _) hbig).mono ?_;rintro r w' ⟨rfl,bs,d,rfl⟩)|(go_at_call 125;refine(Size2_walk S e.size e (Nat.le_refl _) _ _ ((h.out.alloc _).grow _ _) hbig).mono ?_;rintro r w' ⟨rfl,bs2,d2,rfl⟩)|(go_at_call 126;refine(form2_any S e _ _ ((h.out.alloc _).grow _ _) ((ht.out.alloc _).grow _ _)).mono ?_;rintro r w' ⟨rfl,bs3,d3,rfl⟩)))
   exact sz42
  ·go_enter Tryz.func56,Tryz.ntmps56
   go_wp2_with ((first|(go_at_call 124;refine(Depth2_walk S e.size e (Nat.le_refl _) _ _ (h.out.alloc _) hbig).mono ?_;rintro r w' ⟨rfl,bs,d,rfl⟩)|(go_at_call 125;refine(Size2_walk S e.size e (Nat.le_refl _) _ _ ((h.out.alloc _).grow _ _) hbig).mono ?_;rintro r w' ⟨rfl,bs2,d2,rfl⟩)|(go_at_call 126;refine(form2_any S e _ _ ((h.out.alloc _).grow _ _) ((ht.out.alloc _).grow _ _)).mono ?_;rintro r w' ⟨rfl,bs3,d3,rfl⟩)))
   exact sz47
 ·go_enter Tryz.func56,Tryz.ntmps56
  go_wp2_with ((first|(go_at_call 124;refine(Depth2_walk S e.size e (Nat.le_refl _) _ _ (h.out.alloc _) hbig).mono ?_;rintro r w' ⟨rfl,bs,d,rfl⟩)|(go_at_call 125;refine(Size2_walk S e.size e (Nat.le_refl _) _ _ ((h.out.alloc _).grow _ _) hbig).mono ?_;rintro r w' ⟨rfl,bs2,d2,rfl⟩)|(go_at_call 126;refine(form2_any S e _ _ ((h.out.alloc _).grow _ _) ((ht.out.alloc _).grow _ _)).mono ?_;rintro r w' ⟨rfl,bs3,d3,rfl⟩)))
  exact sz45
def InfP(r:Int × Int)(w:World)(e:Ending)(w':World):Prop:=e= .returned (.tuple #[.int .i64 r.1,.int .i64 r.2])∧w.Grows w'
theorem infP{r:Int × Int}{a b:Int}{w w':World}(h:r=(a,b))(hg:w.Grows w'):InfP r w (.returned (.tuple #[.int .i64 a,.int .i64 b])) w':=by subst h;exact⟨rfl,hg⟩
theorem formeds_get{l:List Ex}(h:formedsB l=true)(k:Nat)(hk:k<l.length):formedB (l.getD k default)=true:=by
 by_cases hf:formedB (l.getD k default)=true
 ·exact hf
 ·rw [formedsB_no l k hk (by simpa using hf)]at h;cases h
theorem formed_op{e:Ex}(h:formedB e=true)(h1:¬e.op=1)(h2:¬e.op=2)(h3:¬e.op=3):(e.args.length:Int)=argsN e.op∧4≤e.op∧e.op≤21∧formedsB e.args=true:=by
 rw [formedB_eq,Bool.and_eq_true,decide_eq_true_eq,if_neg h1,if_neg h2,if_neg h3,Bool.and_eq_true]at h
 have hop:4≤e.op∧e.op≤21:=by have ha:=h.1;unfold argsN at ha;(repeat' split at ha)<;>omega
 exact⟨h.1,hop.1,hop.2,h.2.1⟩
abbrev infD(env:List (ByteArray × Int))(e:Ex):Int:=(inferF env e).1
abbrev infC(env:List (ByteArray × Int))(e:Ex):Int:=(inferF env e).2
abbrev dimsK(env:List (ByteArray × Int))(e:Ex)(k:Nat):List Int:=(e.args.take k).map (infD env)
theorem dimsK_succ(env:List (ByteArray × Int))(e:Ex)(k:Nat)(hk:k<e.args.length):dimsK env e (k+1)=dimsK env e k++[infD env (e.arg k)]:=by
 unfold dimsK
 rw [List.take_succ_eq_append_getElem hk,List.map_append]
 congr 1
 show [infD env e.args[k]]= [infD env (e.args.getD k default)]
 rw [List.getD_eq_getElem?_getD,List.getElem?_eq_getElem hk];rfl
theorem inf_op(env:List (ByteArray × Int))(e:Ex)(h1:¬e.op=1)(h2:¬e.op=2)(h3:¬e.op=3)(hok:∀j,j<e.args.length→infC env (e.arg j)=0) :
 inferF env e=if resD e.op (dimsK env e e.args.length)=0 then(0,6)else(resD e.op (dimsK env e e.args.length),0):=by
 rw [inferF_eq,infers_ok env e.args hok]
 unfold infNode dimsK
 rw [if_neg h1,if_neg h3,if_neg h2,if_neg (by simp),List.take_length]
theorem inf_bad(env:List (ByteArray × Int))(e:Ex)(h1:¬e.op=1)(h2:¬e.op=2)(h3:¬e.op=3)(k:Nat)(hk:k<e.args.length)(hj:∀j,j<k→infC env (e.arg j)=0)(hb:infC env (e.arg k)≠0):inferF env e=(0,infC env (e.arg k)):=by
 have:=infers_bad env e.args k hk hj hb
 rw [inferF_eq]
 unfold infNode
 have hb2:(infersF env e.args).2≠0:=by rw [this];exact hb
 rw [if_neg h1,if_neg h3,if_neg h2,if_pos hb2,this];rfl
theorem own_grow{w:World}{base:Nat}{e:TypeId}{size:Nat}{v:Value}{n:Nat}{xs:List Value}(h:w.ownsRow base e size v n xs){w':World}(hg:w.Grows w'):w'.ownsRow base e size v n xs:=
 ownsRow_keep h fun k _ hk=>hg.below.block k hk
theorem infoI:(Tryz.prog.info? 3).map (fun i=>(i.zero,i.size,i.bytes))=some (some (.int .i64 0),1,8):=by kernel_rfl
theorem infer2_leaf(env:List (ByteArray × Int))(e:Ex)(a:Option Addr)(cap:Nat)(ve:Value)(w:World)(hv:BindAt w ve env)(ho:e.op=1∨e.op=2∨e.op=3):(Calls Tryz.prog 142 #[exV e (.slice a e.args.length cap),ve] w (InfP (inferF env e) w)):=by
 have HV:=Lib.hid hv
 obtain⟨-,ae,ce,rfl,-⟩:=hv
 have HF:=Lib.hid (inferF_eq env e)
 unfold infNode at HF
 have HL:=Lib.hid (lookV_infer env e.name)
 have HC:Hid (∀w',w.Grows w'→Calls Tryz.prog 215 #[.string e.name,.slice ae env.length ce] w' (LkP env e.name w')):=Lib.hid (fun w' hg=>lookup_any e.name env _ w' (HV.out.grows hg))
 unfold LkP at HC
 rcases ho with ho|ho|ho
 ·go_enter Tryz.func142,Tryz.ntmps142
  go_wp2_with fail
  go_returns
  exact infP (by rw [HF.out,if_pos ho]) (.of_below belB)
 ·cases hb:(lookV env e.name).2
  all_goals
   rw [hb]at HC
   have HB:=Lib.hid hb
   clear hb
   generalize hm:(lookV env e.name).1=m at HC
   have HM:=Lib.hid hm
   clear hm
   go_enter Tryz.func142,Tryz.ntmps142
   go_wp2_with (go_at_call 215;refine(HC.out _ (.of_below belB)).mono ?_;rintro e' w' ⟨rfl,bs,d,rfl⟩)
   go_returns
   exact infP (by rw [HF.out,if_neg (by omega),if_neg (by omega),if_pos ho,HL.out,HB.out];first|(rw [if_pos rfl,HM.out];done)|(rw [if_neg (by simp)];done)) (.of_below belB)
 ·go_enter Tryz.func142,Tryz.ntmps142
  go_wp2_with fail
  go_returns
  exact infP (by rw [HF.out,if_neg (by omega),if_pos ho]) (.of_below belB)
theorem infer2_walk(S:Nat→Prop)(env:List (ByteArray × Int))(hE:dimsOk env=true)(n:Nat):∀(e:Ex),e.size≤n→formedB e=true→∀(v ve:Value) (w:World),RepE S w e v→BindAt w ve env→
 Calls Tryz.prog 142 #[exV e v,ve] w (InfP (inferF env e) w):=by
 induction n with
 |zero=>intro e he;have:=e.size_pos;omega
 |succ n ih=>
  intro e he hf v ve w h hv
  have HR:=Lib.hid h
  have HV:=Lib.hid hv
  have hrng:=h.rng
  obtain⟨a,cap,rfl⟩:=h.form0
  by_cases h1:e.op=1
  ·exact infer2_leaf env e a cap ve w hv (.inl h1)
  by_cases h2:e.op=2
  ·exact infer2_leaf env e a cap ve w hv (.inr (.inl h2))
  by_cases h3:e.op=3
  ·exact infer2_leaf env e a cap ve w hv (.inr (.inr h3))
  obtain⟨hal,ho4,ho21,hfs⟩:=formed_op hf h1 h2 h3
  have hn3:e.args.length≤3∧1≤e.args.length:=by unfold argsN at hal;(repeat' split at hal)<;>omega
  have HOK:=Lib.hid (inf_op env e h1 h2 h3)
  have HBAD:=Lib.hid (inf_bad env e h1 h2 h3)
  have HOP:=Lib.hid (And.intro hal (And.intro ho4 ho21))
  have IH:Hid (∀k,k<e.args.length→∀ak ck w',w.Grows w'→RepE S w' (e.arg k) (.slice ak (e.arg k).args.length ck)→Calls Tryz.prog 142 #[exV (e.arg k) (.slice ak (e.arg k).args.length ck),ve] w' (InfP (inferF env (e.arg k)) w')):=
   Lib.hid (fun k hk ak ck w' hg hr=>by
    have hsm:=e.size_arg k hk
    exact ih (e.arg k) (by omega) (formeds_get hfs k hk) _ ve w' hr (HV.out.grows hg))
  have HDM:Hid (∀k,k<e.args.length→infC env (e.arg k)=0→1≤infD env (e.arg k)):=Lib.hid (fun k hk hc=>(infer_dim hE (e.arg k) (formeds_get hfs k hk) hc).1)
  unfold InfP at IH
  obtain⟨-,ae,ce,rfl,-⟩:=hv
  have p1:(e.op==1)=false:=by simpa using h1
  have p2:(e.op==2)=false:=by simpa using h2
  have p3:(e.op==3)=false:=by simpa using h3
  clear h ih hE hf hfs hal ho4 ho21 he h1 h2 h3
  obtain⟨i0,hi,hz0,hz1,hz2⟩:=info_parts infoI
  go_enter Tryz.func142,Tryz.ntmps142
  go_wp2_with fail
  go_loopw [8,38] (fun v8 v38 wr=>∃k:Nat,k≤e.args.length∧v38= .int .i64 k∧Hid (∀j,j<k→infC env (e.arg j)=0)∧Below (w.heap.size+1) (w.alloc (.cells #[.int .i64 e.op,.int .i64 e.num,.int .i64 e.den,.int .i64 e.dim,.string e.name,.slice a e.args.length cap] 27)) wr∧wr.ownsRow (w.heap.size+1) 3 1 v8 k ((dimsK env e k).map (Value.int .i64))) (fun _ v38 _=>e.args.length-(intOf v38).toNat)
  case atStart=>exact⟨0,by omega,rfl,Lib.hid (fun j hj=>by omega),.refl _ _,World.ownsRow_nil _ _ _ _⟩
  case round=>
   obtain⟨k,hk,rfl,hno,hB,hown⟩:=hrel
   have hsW:w.heap.size+1≤wr.heap.size:=by have:=hB.size;simpa using this
   have hbox:wr.cell? ⟨w.heap.size,0,none⟩=some (.int .i64 e.op):=by
    rw [hB.cell (p:=⟨w.heap.size,0,none⟩) (by simp),World.cell?_alloc_at _ _ _ _ rfl];rfl
   have hG:w.Grows wr:=.of_below ((((Below.refl _ _).alloc (Nat.le_refl _) _)).trans (hB.mono (by omega)))
   have HB:=Lib.hid hB
   have HO:=Lib.hid hown
   have HG:=Lib.hid hG
   by_cases hlt:k<e.args.length
   ·have hRk:=HR.out.grows hG
    cases hRk with
    |mk _ _ _ vs hr hc hs=>
     rcases hc with h0|⟨b,off,rfl,-,hbw,hx⟩
     ·omega
     ·have hR:=hs k hlt
      obtain⟨x0,x1,x2,x3,x4,x5⟩:=hx k hlt
      obtain⟨ak,ck,hvk⟩:=hR.form0
      rw [hvk]at x5 hR
      have HRK:=Lib.hid hR
      have hcall:=fun w' hg hg2=>IH.out k hlt ak ck w' hg (HRK.out.grows hg2)
      have HNX:=Lib.hid (dimsK_succ env e k hlt)
      have HKL:=Lib.hid hlt
      have HBK:=Lib.hid (fun hj hb=>HBAD.out k hlt hj hb)
      have d1:(k:Int)<(e.args.length:Int):=by omega
      clear hx hs hr hvk hG hB hown hR
      unfold exV at hcall
      obtain⟨x,hxe⟩:∃x,e.arg k=x:=⟨_,rfl⟩
      rw [hxe]at hcall x0 x1 x2 x3 x4 x5 HNX HBK
      have HXE:=Lib.hid hxe
      clear hxe
      have HCL:=Lib.hid hcall
      clear hcall
      obtain⟨q,hq⟩:∃q,inferF env x=q:=⟨_,rfl⟩
      unfold infC at HBK
      unfold infD at HNX
      rw [hq]at HCL HBK HNX
      have HQ:=Lib.hid hq
      clear hq
      obtain⟨qd,qc⟩:=q
      dsimp only at HCL HBK HNX
      by_cases hqc:qc=0
      ·subst hqc
       go_wp2_with (first
        |(go_at_call 142;refine(HCL.out _ (World.Grows.trans HG.out (.of_below belB)) (.of_below belB)).mono ?_;rintro e' w' ⟨rfl,bs,d,rfl⟩)
        |(at_builtin;refine wpList_append_own _ rfl _ _ 22 rfl (w.heap.size+1) 3 i0 (.int .i64 0) 1 8 Tryz.underlying22 hi hz0 hz1 hz2 rfl (by decide) _ _ _ rfl ((own_grow (HO.out.alloc _) ⟨bs,d,rfl⟩).alloc _) ⟨wr.heap.size+1+bs.size,0,none⟩ 1 1 [.int .i64 qd] rfl rfl ?c1 ?c2 ?c3 ?c4 ?c5 ?_))
       case c1=>exact news_cells _ [.int .i64 qd] _ _ (by simp)
       case c2=>intro u hu;simp at hu;subst hu;rfl
       case c3=>unfold maxLen;omega
       case c4=>omega
       case c5=>simp;omega
       intro v' w1 hown' hgrow _
       have HB1:=Lib.hid ((show Below (w.heap.size+1) (w.alloc (.cells #[.int .i64 e.op,.int .i64 e.num,.int .i64 e.den,.int .i64 e.dim,.string e.name,.slice (some ⟨b,off,none⟩) e.args.length cap] 27)) _ from by have:=HB.out;(exact belB)).grown hgrow (by simp;omega) (fun k hk=>(HO.out.lt k hk).1))
       have HO1:=Lib.hid hown'
       clear hown' hgrow
       go_wp2_with fail
       go_roundw
       case rel=>exact⟨k+1,HKL.out,by go_num,Lib.hid (fun j hj=>by
        by_cases ej:j=k
        ·subst ej;unfold infC;rw [HXE.out,HQ.out]
        ·exact hno.out j (by omega)),HB1.out,by rw [HNX.out,List.map_append];simpa [dimsK]using HO1.out⟩
       case measure=>simp [intOf];have:=HKL.out;omega
      ·have hq1:(qc !=0)=true:=by simpa using hqc
       have HQC:=Lib.hid hqc
       clear hqc
       go_wp2_with (go_at_call 142;refine(HCL.out _ (World.Grows.trans HG.out (.of_below belB)) (.of_below belB)).mono ?_;rintro e' w' ⟨rfl,bs,d,rfl⟩)
       go_returns
       exact infP (HBK.out hno.out HQC.out) (World.Grows.trans HG.out (.of_below belB))
   ·obtain rfl:k=e.args.length:=by omega
    have hd:=HOK.out hno.out
    have hdl:(dimsK env e e.args.length).length=e.args.length:=by simp [dimsK]
    obtain⟨-,⟨_,h0⟩|⟨g,gc,cu,rfl,hbg,-⟩⟩:=hown
    ·omega
    have hres:=res2_all e.op (dimsK env e e.args.length) (w.heap.size+1) g gc wr HOP.out.2.1 HOP.out.2.2 (by rw [hdl];exact HOP.out.1) (fun y hy=>by
     obtain⟨t,ht,rfl⟩:=List.mem_map.1 hy
     rw [List.take_length]at ht
     obtain⟨j,hj,rfl⟩:=List.mem_iff_getElem.1 ht
     have:=HDM.out j hj (hno.out j hj)
     unfold Ex.arg at this
     rw [List.getD_eq_getElem?_getD,List.getElem?_eq_getElem hj]at this
     exact this) (by rw [hdl];exact HO.out)
    rw [hdl]at hres
    obtain⟨R,hR⟩:∃R,resD e.op (dimsK env e e.args.length)=R:=⟨_,rfl⟩
    rw [hR]at hres hd
    have HD:=Lib.hid hd
    unfold Res2P at hres
    clear hB hG hR hd hdl
    by_cases hR0:R=0
    ·subst hR0
     have HRS:=Lib.hid hres
     clear hres
     go_wp2_with (go_at_call 216;refine(HRS.out).mono ?_;rintro e' w' ⟨⟨m,rfl,-⟩,bs,d,rfl⟩)
     go_returns
     exact infP (by rw [HD.out];simp) (World.Grows.trans HG.out (.of_below belB))
    ·rw [decide_eq_true hR0]at hres
     have HRS:=Lib.hid hres
     have HR0:=Lib.hid hR0
     clear hres hR0
     go_wp2_with (go_at_call 216;refine(HRS.out).mono ?_;rintro e' w' ⟨⟨m,rfl,hm⟩,bs,d,rfl⟩;obtain rfl:=hm HR0.out;clear hm)
     go_returns
     exact infP (by rw [HD.out,if_neg HR0.out]) (World.Grows.trans HG.out (.of_below belB))
end Go.Proofs.YtblkcgceefjmjaaGreatDoor
