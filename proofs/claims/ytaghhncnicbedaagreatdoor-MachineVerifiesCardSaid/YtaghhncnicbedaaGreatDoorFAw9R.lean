import Derived.Test.YtaghhncnicbedaaGreatDoorFTop
import Derived.Test.YtaghhncnicbedaaGreatDoorFMchC
import Derived.Test.YtaghhncnicbedaaGreatDoorFShelf5
import Derived.Test.YtaghhncnicbedaaGreatDoorFK
import Derived.Deep.AppendLies
import Derived.Laws.OwnMore
set_option linter.all false
set_option maxHeartbeats 16000000
set_option maxRecDepth 1000000
namespace Go.Proofs.YtaghhncnicbedaaGreatDoor
open Go.RowKit
def AddC:Prop:=∀w,Calls Tryz.prog 106 #[.agg #[.int .i64 2,.int .i64 1],.agg #[.int .i64 3,.int .i64 1]] w fun e w'=>e= .returned (.tuple #[.agg #[.int .i64 5,.int .i64 1],.int .i64 0])∧w.Grows w'
theorem calc_add(hA:Hid AddC)(g cap:Nat)(w:World)(hg:g<w.heap.size)(c0:w.cell? ⟨g,0,none⟩=some (.int .i64 2))(c1:w.cell? ⟨g,1,none⟩=some (.bool false))(c2:w.cell? ⟨g,2,none⟩=some (.int .i64 2))(c3:w.cell? ⟨g,3,none⟩=some (.int .i64 1))
 (c4:w.cell? ⟨g,4,none⟩=some (.int .i64 2)) (c5:w.cell? ⟨g,5,none⟩=some (.bool false)) (c6:w.cell? ⟨g,6,none⟩=some (.int .i64 3)) (c7:w.cell? ⟨g,7,none⟩=some (.int .i64 1)) :
 Calls Tryz.prog 54 #[.int .i64 7,.slice (some ⟨g,0,none⟩) 2 cap] w fun e w'=>e= .returned (.tuple #[.agg #[.int .i64 2,.bool false,.int .i64 5,.int .i64 1],.int .i64 0])∧w.Grows w':=by
 go_enter Tryz.func54,Tryz.ntmps54
 go_wp2_with (go_at_call 106;refine(hA.out _).mono ?_;rintro e' w' ⟨rfl,bs,d,rfl⟩)
 go_returns
 exact⟨rfl,growsR⟩
def byNm:ByteArray:=⟨#[98,121]⟩
structure CodC(w:World)(bI bS:Nat):Prop where
 hI:bI<w.heap.size
 hS:bS<w.heap.size
 ins:∀i u,[Value.int .i64 1,.int .i64 2,.int .i64 2,.int .i64 1,.int .i64 1,.int .i64 2,.int .i64 3,.int .i64 1,.int .i64 9,.int .i64 0,.int .i64 0,.int .i64 0,.int .i64 4,.int .i64 0,.int .i64 0,.int .i64 0][i]? =some u→w.cell? ⟨bI,i,none⟩=some u
 slt:w.cell? ⟨bS,0,none⟩=some (.string byNm)
theorem CodC.grows{w w':World}{bI bS:Nat}(h:CodC w bI bS)(hg:w.Grows w'):CodC w' bI bS:=
 ⟨Nat.lt_of_lt_of_le h.hI hg.below.size,Nat.lt_of_lt_of_le h.hS hg.below.size,fun i u hu=>(World.cell?_of_block (a:=⟨bI,i,none⟩) (hg.below.block bI h.hI)).trans (h.ins i u hu),(World.cell?_of_block (a:=⟨bS,0,none⟩) (hg.below.block bS h.hS)).trans h.slt⟩
def vw9:Value:=.agg #[.int .i64 0,.int .i64 2000,.int .i64 0,.int .i64 0,.int .i64 0,.int .i64 0,.int .i64 0,.int .i64 0,.int .i64 0,.int .i64 0,.int .i64 0,.int .i64 1,.slice none 0 0]
def RunC9(w:World)(e:Ending)(w':World):Prop:=∃sv,e= .returned (.tuple #[sv,.int .i64 0])∧w.Grows w'∧w'.ownsRow w.heap.size 53 5 sv 1 [.string byNm,.int .i64 2,.bool false,.int .i64 5,.int .i64 1]
theorem infoVa:(Tryz.prog.info? 51).map (fun i=>(i.zero,i.size,i.bytes))=some (some (.agg #[.int .i64 0,.bool false,.int .i64 0,.int .i64 0]),4,32):=by kernel_rfl
theorem infoSp:(Tryz.prog.info? 53).map (fun i=>(i.zero,i.size,i.bytes))=some (some (.agg #[.string ⟨#[]⟩,.int .i64 0,.bool false,.int .i64 0,.int .i64 0]),5,48):=by kernel_rfl
theorem cutW{P:Program}{c:Code}{Q:Exit→Act→World→Prop}{a:Act}{w:World}(S:World→Prop)(h:S w)(k:∀W,S W→c.wp P Q a W):c.wp P Q a w:=k w h
def n9(k:Nat):Nat:=[0,1,2,1].getD k 0
def x9(k:Nat):List Value:=[[],[.int .i64 2,.bool false,.int .i64 2,.int .i64 1],[.int .i64 2,.bool false,.int .i64 2,.int .i64 1,.int .i64 2,.bool false,.int .i64 3,.int .i64 1],[.int .i64 2,.bool false,.int .i64 5,.int .i64 1]].getD k []
structure P9(w Y:World)(B:Nat)(W:World):Prop where
 gr:w.Grows W
 rel:Rel Y (some B) W
 blk:∃cs ty,W.heap[B]? =some (.cells cs ty (0,0))∧cs.size=48
structure L9(w Y:World)(B k:Nat)(s8 s10:Value)(W:World):Prop where
 p:P9 w Y B W
 own:k<4→W.ownsRow Y.heap.size 51 4 s8 (n9 k) (x9 k)
 st:k<4→s10= .slice none 0 0
 fin:k=4→W.ownsRow Y.heap.size 53 5 s10 1 [.string byNm,.int .i64 2,.bool false,.int .i64 5,.int .i64 1]
theorem P9.next{w Y W W2 w1:World}{B:Nat}{row:Option Nat}(h:P9 w Y B W)(hB:B<Y.heap.size)(hY:w.heap.size≤Y.heap.size)(hrow:∀b,row=some b→Y.heap.size≤b)(hg:W.Grows W2)(hgr:W2.grownBy w1 row):P9 w Y B w1:=by
 have h1:=h.gr.trans' hg
 have hs:=Nat.le_trans h.rel.1 hg.below.size
 refine⟨World.Grows.grown h1 hgr fun b e=>Nat.le_trans hY (hrow b e),⟨Nat.le_trans hs hgr.size,fun b hb hne=>?_⟩, ?_⟩
 ·rw [hgr.block b (by omega) (fun e=>by have:=hrow b e.symm;omega)]
  exact(h.rel.grows hg).2 b hb hne
 ·obtain⟨cs,ty,hc,hz⟩:=h.blk
  exact⟨cs,ty,(hgr.block B (by omega) (fun e=>by have:=hrow B e.symm;omega)).trans ((hg.below.block B (Nat.lt_of_lt_of_le hB h.rel.1)).trans hc),hz⟩
theorem P9.grows{w Y W W2:World}{B:Nat}(h:P9 w Y B W)(hB:B<Y.heap.size)(hg:W.Grows W2):P9 w Y B W2:=by
 obtain⟨cs,ty,hc,hz⟩:=h.blk
 exact⟨h.gr.trans' hg,h.rel.grows hg,cs,ty,(hg.below.block B (Nat.lt_of_lt_of_le hB h.rel.1)).trans hc,hz⟩
theorem P9.store{w Y W:World}{B:Nat}(h:P9 w Y B W)(hB:w.heap.size≤B)(j:Nat)(v:Value):P9 w Y B (W.setCell ⟨B,j,none⟩ v):=by
 obtain⟨cs,ty,hc,hz⟩:=h.blk
 exact⟨.of_below (h.gr.below.setCell hB v),⟨by have:=h.rel.1;simpa using this,fun b hb hne=>(Below.heap_setCell _ _ _ _ fun e=>hne (by simpa using e)).trans (h.rel.2 b hb hne)⟩,_,ty,Go.Joins.block_setCell hc v,by simpa using hz⟩
theorem P9.cell{w Y W:World}{B:Nat}(h:P9 w Y B W)(j:Nat)(hj:j<48):∃u,W.cell? ⟨B,j,none⟩=some u:=by
 obtain⟨cs,ty,hc,hz⟩:=h.blk
 exact⟨cs[j],by rw [cell_of_row W _ j _ _ _ hc];simp [hz,hj]⟩
theorem P9.unfr{w Y W:World}{B:Nat}(h:P9 w Y B W)(j:Nat):W.frozen? ⟨B,j,none⟩=false:=by
 obtain⟨cs,ty,hc,hz⟩:=h.blk
 exact Go.Joins.unfrozen_of_block hc j
theorem own_zero{w:World}{b size n g cap:Nat}{e:TypeId}{xs:List Value}(h:w.ownsRow b e size (.slice (some ⟨g,0,none⟩) n cap) n xs):w.ownsRow b e size (.slice (some ⟨g,0,none⟩) 0 cap) 0 []:=by
 rcases h.2 with ⟨h',_⟩|⟨g',cap',cur,h',hb,hg,hnc,hcm,hcs,htake⟩
 ·simp at h'
 ·simp only [Value.slice.injEq,Option.some.injEq,Addr.mk.injEq,and_true,true_and]at h'
  obtain⟨rfl,rfl⟩:=h'
  exact⟨by simp,.inr ⟨g,cap,cur,rfl,hb,hg,Nat.zero_le _,hcm,hcs,by simp⟩⟩
theorem own_grow9{w:World}{base:Nat}{e:TypeId}{size:Nat}{v:Value}{n:Nat}{xs:List Value}(h:w.ownsRow base e size v n xs){w':World}(hg:w.Grows w'):w'.ownsRow base e size v n xs:=
 h.kept (row:=none) ⟨hg.below.os,hg.below.tape,hg.below.output,hg.below.size,fun k hk _=>hg.below.block k hk⟩ (by cases h':v.ownBlock<;>simp)
theorem own_base9{w:World}{b b' size n:Nat}{e:TypeId}{v:Value}{xs:List Value}(hb:b'≤b)(h:w.ownsRow b e size v n xs):w.ownsRow b' e size v n xs:=by
 exact fz47
theorem run9(hA:Hid AddC)(bI bS:Nat)(w:World)(hc:CodC w bI bS)(HVE:Hid (∀W,w.Grows W→Calls Tryz.prog 21 #[.agg #[.slice (some ⟨bI,0,none⟩) 4 4,.slice (some ⟨bS,0,none⟩) 1 1]] W fun e W'=>e= .returned (.tuple #[.int .i64 2,.int .i64 0])∧W.Grows W'))
 (HVW:Hid (∀W,Calls Tryz.prog 48 #[vw9] W fun e W'=>e= .returned (.bool true)∧W.Grows W')) (HOP:Hid (∀W,Calls Tryz.prog 52 #[.int .i64 9] W fun e W'=>e= .returned (.int .i64 7)∧W=W')) (HAR:Hid (∀W,Calls Tryz.prog 53 #[.int .i64 7] W fun e W'=>e= .returned (.int .i64 2)∧W=W')) :
 Calls Tryz.prog 24 #[.agg #[.slice (some ⟨bI,0,none⟩) 4 4,.slice (some ⟨bS,0,none⟩) 1 1],vw9] w (RunC9 w):=by
 obtain⟨i1,hi1,hz11,hz21,hz31⟩:=info_parts infoVa
 obtain⟨i2,hi2,hz12,hz22,hz32⟩:=info_parts infoSp
 have HC:=Lib.hid hc
 unfold vw9 at HVW ⊢
 clear hc
 go_enter Tryz.func24,Tryz.ntmps24
 go_upto_block 0 with (first
  |(go_at_call 21;refine(HVE.out _ growsR).mono ?_;rintro e' w' ⟨rfl,bs,d,rfl⟩)
  |(go_at_call 48;refine(HVW.out _).mono ?_;rintro e' w' ⟨rfl,bs2,d2,rfl⟩))
 refine cutW (fun W=>World.Grows (w.alloc (.cells #[.slice (some ⟨bI,0,none⟩) 4 4,.slice (some ⟨bS,0,none⟩) 1 1] 63)) W∧W.heap.size=w.heap.size+1+1+(bs.size+bs2.size)+1∧∃cs ty,W.heap[w.heap.size+1+1+(bs.size+bs2.size)]? =some (.cells cs ty (0,0))∧cs.size=48) ⟨growsR,by simp,_,_,heap_new _ _ _ (by simp),rfl⟩ ?_
 intro Y hY
 obtain⟨hgY,hsY,hbY⟩:=hY
 have hBw:w.heap.size+1≤w.heap.size+1+1+(bs.size+bs2.size):=by omega
 generalize w.heap.size+1+1+(bs.size+bs2.size)=B at *
 have hwY:w.Grows Y:=World.Grows.trans' growsR hgY
 have hcY:=(hgY.below.block w.heap.size (by simp)).trans (heap_alloc_new _ _)
 clear hgY
 have HcY:=Lib.hid hcY
 have HwY:=Lib.hid hwY
 have HsY:=Lib.hid hsY
 have HBw:=Lib.hid hBw
 have hsz:w.heap.size≤Y.heap.size:=by omega
 have hBY:B<Y.heap.size:=by omega
 have HSZ:=Lib.hid hsz
 have HBY:=Lib.hid hBY
 have H0:Hid (L9 w Y B 0 (.slice none 0 0) (.slice none 0 0) Y):=Lib.hid ⟨⟨hwY,Rel.refl _ _,hbY⟩,fun _=>World.ownsRow_nil _ _ _ _,fun _=>rfl,fun h=>by omega⟩
 clear hcY hwY hsY hBw hsz hBY hbY
 go_wp2_with fail
 go_loopw [8,10,11] (fun v8 v10 v11 wr=>∃k:Nat,k≤4∧v11= .int .i64 k∧Hid (L9 w Y B k v8 v10 wr)) (fun _ _ v11 _=>4-(intOf v11).toNat)
 case atStart=>exact⟨0,by omega,rfl,H0⟩
 clear H0
 obtain⟨k,hk,rfl,HL⟩:=hrel
 have hcb:wr.heap[w.heap.size]? =some (.cells #[.slice (some ⟨bI,0,none⟩) 4 4,.slice (some ⟨bS,0,none⟩) 1 1] 63 (0,0)):=(HL.out.p.rel.2 _ (by have:=HsY.out;have:=HBw.out;omega) (by have:=HBw.out;intro e;cases e;omega)).trans HcY.out
 have cb0:=cell_of_row wr _ 0 _ _ _ hcb
 have cb1:=cell_of_row wr _ 1 _ _ _ hcb
 have hwr:w.heap.size<wr.heap.size:=by have:=HL.out.p.rel.1;have:=HsY.out;have:=HBw.out;omega
 have HG:=Lib.hid HL.out.p.gr
 have HI:=Lib.hid (HC.out.grows HG.out).ins
 have hIw:=(HC.out.grows HG.out).hI
 clear hcb
 obtain rfl|rfl|rfl|rfl|rfl:k=0∨k=1∨k=2∨k=3∨k=4:=by omega
 ·have e0:(((0:Nat):Int))=0:=rfl
  simp only [e0]
  obtain rfl:=HL.out.st (by omega)
  have HO:=Lib.hid (HL.out.own (by omega))
  have j0:=HI.out (0*4) _ rfl
  have j1:=HI.out (0*4+1) _ rfl
  have j2:=HI.out (0*4+2) _ rfl
  have j3:=HI.out (0*4+3) _ rfl
  simp only [Nat.zero_mul,Nat.zero_add,Nat.reduceMul,Nat.reduceAdd]at j0 j1 j2 j3
  go_wp2_with (at_builtin;go_loud (refine wpList_append_lies _ rfl _ _ 126 rfl Y.heap.size 51 i1 _ 4 32 Tryz.underlying126 hi1 hz11 hz21 hz31 rfl (by decide) _ (n9 0) (x9 0) rfl ((HO.out.alloc _).alloc _) ⟨wr.heap.size+1,0,none⟩ 1 1 [.int .i64 2,.bool false,.int .i64 2,.int .i64 1] rfl rfl ?c1 ?c2 (by decide) ?c3 ?c4 ?c5 (wr.heap.size+2) (by simp) ?_))
  case c1=>exact news_cells _ [.int .i64 2,.bool false,.int .i64 2,.int .i64 1] _ _ (by simp)
  case c2=>intro u hu;simp at hu;rcases hu with rfl|rfl|rfl|rfl<;>rfl
  case c3=>simp [n9,maxLen]
  case c4=>simp [n9]
  case c5=>have:=HL.out.p.rel.1;simp;omega
  intro g cap w1 hown hgrow hgg hgl
  have HN:=Lib.hid (HL.out.p.next HBY.out HSZ.out (fun b e=>(HO.out.lt b e).1) growsR hgrow)
  have HO1:=Lib.hid hown
  clear hown hgrow hgg hgl
  go_wp2_with fail
  go_roundw
  case rel=>exact⟨0+1,by omega,rfl,Lib.hid ⟨HN.out,fun _=>HO1.out,fun _=>rfl,fun h=>by omega⟩⟩
  case measure=>simp [intOf]
 ·have e0:(((1:Nat):Int))=1:=rfl
  simp only [e0]
  obtain rfl:=HL.out.st (by omega)
  have HO:=Lib.hid (HL.out.own (by omega))
  have j0:=HI.out (1*4) _ rfl
  have j1:=HI.out (1*4+1) _ rfl
  have j2:=HI.out (1*4+2) _ rfl
  have j3:=HI.out (1*4+3) _ rfl
  simp only [Nat.zero_mul,Nat.zero_add,Nat.reduceMul,Nat.reduceAdd]at j0 j1 j2 j3
  go_wp2_with (at_builtin;go_loud (refine wpList_append_lies _ rfl _ _ 126 rfl Y.heap.size 51 i1 _ 4 32 Tryz.underlying126 hi1 hz11 hz21 hz31 rfl (by decide) _ (n9 1) (x9 1) rfl ((HO.out.alloc _).alloc _) ⟨wr.heap.size+1,0,none⟩ 1 1 [.int .i64 2,.bool false,.int .i64 3,.int .i64 1] rfl rfl ?c1 ?c2 (by decide) ?c3 ?c4 ?c5 (wr.heap.size+2) (by simp) ?_))
  case c1=>exact news_cells _ [.int .i64 2,.bool false,.int .i64 3,.int .i64 1] _ _ (by simp)
  case c2=>intro u hu;simp at hu;rcases hu with rfl|rfl|rfl|rfl<;>rfl
  case c3=>simp [n9,maxLen]
  case c4=>simp [n9]
  case c5=>have:=HL.out.p.rel.1;simp;omega
  intro g cap w1 hown hgrow hgg hgl
  have HN:=Lib.hid (HL.out.p.next HBY.out HSZ.out (fun b e=>(HO.out.lt b e).1) growsR hgrow)
  have HO1:=Lib.hid hown
  clear hown hgrow hgg hgl
  go_wp2_with fail
  go_roundw
  case rel=>exact⟨1+1,by omega,rfl,Lib.hid ⟨HN.out,fun _=>HO1.out,fun _=>rfl,fun h=>by omega⟩⟩
  case measure=>simp [intOf]
 ·have e0:(((2:Nat):Int))=2:=rfl
  simp only [e0]
  obtain rfl:=HL.out.st (by omega)
  have HO:=Lib.hid (HL.out.own (by omega))
  obtain⟨g,cap,rfl,hgY,hgW⟩:=HO.out.form (by decide)
  have hx:=fun j hj=>HO.out.cellAt j hj
  have x0:=hx 0 (by decide)
  have x1:=hx 1 (by decide)
  have x2:=hx 2 (by decide)
  have x3:=hx 3 (by decide)
  have x4:=hx 4 (by decide)
  have x5:=hx 5 (by decide)
  have x6:=hx 6 (by decide)
  have x7:=hx 7 (by decide)
  have HCA:Hid (∀W,wr.Grows W→Calls Tryz.prog 54 #[.int .i64 7,.slice (some ⟨g,0,none⟩) 2 cap] W fun e w'=>e= .returned (.tuple #[.agg #[.int .i64 2,.bool false,.int .i64 5,.int .i64 1],.int .i64 0])∧W.Grows w'):=Lib.hid (fun W hg=>by
   have q:=fun j=>World.cell?_of_block (a:=⟨g,j,none⟩) (hg.below.block g hgW)
   exact calc_add hA g cap W (Nat.lt_of_lt_of_le hgW hg.below.size) ((q 0).trans x0) ((q 1).trans x1) ((q 2).trans x2) ((q 3).trans x3) ((q 4).trans x4) ((q 5).trans x5) ((q 6).trans x6) ((q 7).trans x7))
  have HGY:=Lib.hid hgY
  clear hx x0 x1 x2 x3 x4 x5 x6 x7 hgY
  simp only [show n9 2=2 from rfl]at *
  have j0:=HI.out (2*4) _ rfl
  have j1:=HI.out (2*4+1) _ rfl
  have j2:=HI.out (2*4+2) _ rfl
  have j3:=HI.out (2*4+3) _ rfl
  simp only [Nat.zero_mul,Nat.zero_add,Nat.reduceMul,Nat.reduceAdd]at j0 j1 j2 j3
  go_wp2_with (first
   |(go_at_call 52;refine(HOP.out _).mono ?_;rintro e' w' ⟨rfl,rfl⟩)
   |(go_at_call 53;refine(HAR.out _).mono ?_;rintro e' w' ⟨rfl,rfl⟩)
   |(go_at_call 54;refine(HCA.out _ growsR).mono ?_;rintro e' w' ⟨rfl,bs,d,rfl⟩))
  refine cutW (fun W=>wr.Grows W∧W.heap[wr.heap.size+1+bs.size]? =some (.cells #[.int .i64 2,.bool false,.int .i64 5,.int .i64 1] 51 (0,0))) ⟨growsR,heap_new _ _ _ (by simp)⟩ ?_
  intro W2 hW2
  obtain⟨hg2,hb2⟩:=hW2
  generalize wr.heap.size+1+bs.size=NB at *
  have hNB:=(Array.getElem?_eq_some_iff.1 hb2).1
  have v0:=cell_of_row W2 _ 0 _ _ _ hb2
  have v1:=cell_of_row W2 _ 1 _ _ _ hb2
  have v2:=cell_of_row W2 _ 2 _ _ _ hb2
  have v3:=cell_of_row W2 _ 3 _ _ _ hb2
  have hsz2:Y.heap.size≤W2.heap.size:=Nat.le_trans HL.out.p.rel.1 hg2.below.size
  have HS2:=Lib.hid hsz2
  have HG2:=Lib.hid hg2
  clear hb2 hg2 hsz2 j0 j1 j2 j3 cb0 cb1
  refine TS.begin [5,6] (World.Grows W2) (by kernel_rfl) (by kernel_rfl) grows_drew0 (fun hS=>?_)
  refine TS.wkB 0 hS ?_
  refine TS.wkB 1 hS ?_
  refine TS.wkB 2 hS ?_
  refine TS.wkB 3 hS ?_
  refine TS.one (i:=4) (by kernel_rfl) rfl (fun K1 hK1=>?_)
  have HK1:=Lib.hid hK1
  clear hK1 hS
  dsimp only [List.getElem_toArray,List.getElem_cons_succ,List.getElem_cons_zero]
  go_simp
  refine TS.go HK1.out growsR (fun hS=>?_)
  clear HK1 K1
  (try simp only [nS])
  refine TS.one (i:=5) (by kernel_rfl) rfl (fun K1 hK1=>?_)
  refine step_append_lies _ rfl _ _ 126 rfl Y.heap.size 51 i1 _ 4 32 Tryz.underlying126 hi1 hz11 hz21 hz31 rfl (by decide) (.slice (some ⟨g,0,none⟩) 0 cap) 0 [] rfl (own_grow9 (own_grow9 (own_zero HO.out) HG2.out) growsR) ⟨_,0,none⟩ 1 1 [.int .i64 2,.bool false,.int .i64 5,.int .i64 1] rfl rfl (news_cells _ [.int .i64 2,.bool false,.int .i64 5,.int .i64 1] _ _ (by simp)) (by intro u hu;simp at hu;rcases hu with rfl|rfl|rfl|rfl<;>rfl) (by decide) (by unfold maxLen;omega) (by omega) (by have:=HS2.out;simp;omega) _ rfl ?_
  intro g2 cap2 w1 hown hgrow hgg hgl
  have HN:=Lib.hid (HL.out.p.next (row:=some g) HBY.out HSZ.out (fun b e=>by cases e;exact HGY.out) (HG2.out.trans' growsR) hgrow)
  have HO1:=Lib.hid hown
  refine hK1 _ _ (fun h=>absurd (by decide) h) ?_
  clear hK1 K1 hown hgrow hgg hgl hS v0 v1 v2 v3 hNB HG2 HS2 HO
  (try simp only [nS])
  refine TS.weB 6 ?_
  go_wp2_with fail
  go_roundw
  case rel=>exact⟨2+1,by omega,rfl,Lib.hid ⟨HN.out,fun _=>HO1.out,fun _=>rfl,fun h=>by omega⟩⟩
  case measure=>simp [intOf]
 ·have e0:(((3:Nat):Int))=3:=rfl
  simp only [e0]
  obtain rfl:=HL.out.st (by omega)
  have HO:=Lib.hid (HL.out.own (by omega))
  obtain⟨g,cap,rfl,hgY,hgW⟩:=HO.out.form (by decide)
  have HGY:=Lib.hid hgY
  have HGW:=Lib.hid hgW
  clear hgY hgW
  simp only [show n9 3=1 from rfl]at *
  have j0:=HI.out (3*4) _ rfl
  have j1:=HI.out (3*4+1) _ rfl
  have j2:=HI.out (3*4+2) _ rfl
  have j3:=HI.out (3*4+3) _ rfl
  simp only [Nat.zero_mul,Nat.zero_add,Nat.reduceMul,Nat.reduceAdd]at j0 j1 j2 j3
  go_wp2_with fail
  refine cutW (fun W=>wr.Grows W∧W.heap[wr.heap.size]? =some (.cells #[.int .i64 4,.int .i64 0,.int .i64 0,.int .i64 0] 77 (0,0))) ⟨growsR,heap_new _ _ _ rfl⟩ ?_
  intro W2 hW2
  obtain⟨hg2,hb2⟩:=hW2
  have HX:=Lib.hid hb2
  have HNR:Hid (wr.heap.size=wr.heap.size):=Lib.hid rfl
  generalize hNXe:wr.heap.size=NX at hb2 HX ⊢
  replace HNR:Hid (NX=wr.heap.size):=Lib.hid hNXe.symm
  clear hNXe
  have hNX:=(Array.getElem?_eq_some_iff.1 hb2).1
  have v0:=cell_of_row W2 _ 0 _ _ _ hb2
  have v1:=cell_of_row W2 _ 1 _ _ _ hb2
  have HP2:=Lib.hid (HL.out.p.grows HBY.out hg2)
  have HO2:=Lib.hid (own_grow9 HO.out hg2)
  have hx:=fun j hj=>HO2.out.cellAt j hj
  have x0:W2.cell? ⟨g,0,none⟩=some (.int .i64 2):=hx 0 (by decide)
  have x1:W2.cell? ⟨g,1,none⟩=some (.bool false):=hx 1 (by decide)
  have x2:W2.cell? ⟨g,2,none⟩=some (.int .i64 5):=hx 2 (by decide)
  have x3:W2.cell? ⟨g,3,none⟩=some (.int .i64 1):=hx 3 (by decide)
  obtain⟨b0,y0⟩:=HP2.out.cell 0 (by decide)
  obtain⟨b1,y1⟩:=HP2.out.cell 1 (by decide)
  obtain⟨b2,y2⟩:=HP2.out.cell 2 (by decide)
  obtain⟨b3,y3⟩:=HP2.out.cell 3 (by decide)
  have f0:=HP2.out.unfr 0
  have f1:=HP2.out.unfr 1
  have f2:=HP2.out.unfr 2
  have f3:=HP2.out.unfr 3
  have hB2:=World.block_lt_of_cell? _ _ y0
  have hg2':=World.block_lt_of_cell? _ _ x0
  clear hb2 hg2 hx j0 j1 j2 j3 cb0 cb1
  refine TS.begin [7] (World.Grows W2) (by kernel_rfl) (by kernel_rfl) grows_drew0 (fun hS=>?_)
  refine TS.wkB 0 hS ?_
  refine TS.wkB 1 hS ?_
  refine TS.wkB 2 hS ?_
  refine TS.wkB 3 hS ?_
  refine TS.wkB 4 hS ?_
  refine TS.wkB 5 hS ?_
  refine TS.wkB 6 hS ?_
  refine TS.weB 7 ?_
  go_wp2_with fail
  refine cutW (fun W=>P9 w Y B W∧Next B W2 W) ⟨((((HP2.out.store (by have:=HBw.out;omega) 0 _).store (by have:=HBw.out;omega) 1 _).store (by have:=HBw.out;omega) 2 _).store (by have:=HBw.out;omega) 3 _).grows HBY.out grows_drew0,((((((Next.refl B W2).store 0 _).store 1 _).store 2 _).store 3 _).drew)⟩ ?_
  intro W3 hW3
  obtain⟨hP3,hN3⟩:=hW3
  have HP3:=Lib.hid hP3
  have hgB:g≠B:=by have:=HGY.out;have:=HBY.out;omega
  have hXB:NX≠B:=by have:=HL.out.p.rel.1;have:=HBY.out;have:=HNR.out;omega
  have q:=fun j=>World.cell?_of_block (a:=⟨g,j,none⟩) (hN3.blk g hg2' hgB)
  have qx:=fun j=>World.cell?_of_block (a:=⟨NX,j,none⟩) (hN3.blk NX hNX hXB)
  have z0:=(q 0).trans x0
  have z1:=(q 1).trans x1
  have z2:=(q 2).trans x2
  have z3:=(q 3).trans x3
  have p0:W3.cell? ⟨NX,0,none⟩=some (.int .i64 4):=(qx 0).trans v0
  have p1:W3.cell? ⟨NX,1,none⟩=some (.int .i64 0):=(qx 1).trans v1
  have hcb3:W3.heap[w.heap.size]? =some (.cells #[.slice (some ⟨bI,0,none⟩) 4 4,.slice (some ⟨bS,0,none⟩) 1 1] 63 (0,0)):=(hP3.rel.2 _ (by have:=HsY.out;have:=HBw.out;omega) (by have:=HBw.out;intro e;cases e;omega)).trans HcY.out
  have cc1:W3.cell? ⟨w.heap.size,1,none⟩=some (.slice (some ⟨bS,0,none⟩) 1 1):=cell_of_row W3 _ 1 _ _ _ hcb3
  have hw3:=World.block_lt_of_cell? _ _ cc1
  have cs0:=(HC.out.grows hP3.gr).slt
  have hbS:=World.block_lt_of_cell? _ _ cs0
  have hg3:=World.block_lt_of_cell? _ _ z0
  have hx3:=World.block_lt_of_cell? _ _ p0
  have hsz3:=hP3.rel.1
  have HS3:=Lib.hid hsz3
  clear x0 x1 x2 x3 v0 v1 y0 y1 y2 y3 f0 f1 f2 f3 hB2 hg2' hP3 hN3 hcb3 hNX q qx hsz3 HO2 HP2 HX hS hgB hXB
  refine TS.begin [13,14] (World.Grows W3) (by kernel_rfl) (by kernel_rfl) grows_drew0 (fun hS=>?_)
  refine TS.wkB 0 hS ?_
  refine TS.wkB 1 hS ?_
  refine TS.wkB 2 hS ?_
  refine TS.wkB 3 hS ?_
  refine TS.wkB 4 hS ?_
  refine TS.wkB 5 hS ?_
  refine TS.wkB 6 hS ?_
  refine TS.wkB 7 hS ?_
  refine TS.wkB 8 hS ?_
  refine TS.wkB 9 hS ?_
  refine TS.wkB 10 hS ?_
  refine TS.wkB 11 hS ?_
  refine TS.one (i:=12) (by kernel_rfl) rfl (fun K1 hK1=>?_)
  have HK1:=Lib.hid hK1
  clear hK1 hS
  dsimp only [List.getElem_toArray,List.getElem_cons_succ,List.getElem_cons_zero]
  go_simp
  refine TS.go HK1.out growsR (fun hS=>?_)
  clear HK1 K1
  (try simp only [nS])
  refine TS.one (i:=13) (by kernel_rfl) rfl (fun K1 hK1=>?_)
  refine step_append_lies _ rfl _ _ 44 rfl Y.heap.size 53 i2 _ 5 48 Tryz.underlying44 hi2 hz12 hz22 hz32 rfl (by decide) (.slice none 0 0) 0 [] rfl (World.ownsRow_nil _ _ _ _) ⟨_,0,none⟩ 1 1 [.string byNm,.int .i64 2,.bool false,.int .i64 5,.int .i64 1] rfl rfl (news_cells _ [.string byNm,.int .i64 2,.bool false,.int .i64 5,.int .i64 1] _ _ (by simp)) (by intro u hu;simp at hu;rcases hu with rfl|rfl|rfl|rfl|rfl<;>rfl) (by decide) (by unfold maxLen;omega) (by omega) (by have:=HS3.out;simp;omega) _ rfl ?_
  intro g2 cap2 w1 hown hgrow hgg hgl
  have HN:=Lib.hid (HP3.out.next (row:=none) HBY.out HSZ.out (fun b e=>by cases e) growsR hgrow)
  have HO1:=Lib.hid hown
  refine hK1 _ _ (fun h=>absurd (by decide) h) ?_
  clear hK1 K1 hown hgrow hgg hgl hS z0 z1 z2 z3 p0 p1 cc1 hw3 cs0 hbS hg3 hx3 HS3
  (try simp only [nS])
  refine TS.weB 14 ?_
  go_wp2_with fail
  go_roundw
  case rel=>exact⟨3+1,by omega,rfl,Lib.hid ⟨HN.out,fun h=>by omega,fun h=>by omega,fun _=>HO1.out⟩⟩
  case measure=>simp [intOf]
 ·rw [show(((4:Nat):Int))=4 from rfl]
  have HF:=Lib.hid (HL.out.fin rfl)
  go_wp2_with fail
  go_returns
  exact⟨_,rfl,HG.out,own_base9 HSZ.out HF.out⟩
def MrgP(N off:Nat)(zs:List Int)(bs:List Bool)(w:World)(e:Ending)(w':World):Prop:=
 e= .returned (.bool true)∧∃a n c,Upd (fun k=>k=N) w w' N off (.bool true:: .slice a n c::bs.map .bool)∧w'.ownsRow w.heap.size 3 1 (.slice a n c) zs.length (zs.map (Value.int .i64))
theorem merge_new(N off:Nat)(zs:List Int)(a2:Option Addr)(n2 k2:Nat)(w:World)(r b0 b1 b2 b3 b4 b5 b6 b7 b8 b9 b10 b11:Bool)(hN:N<w.heap.size)(v1:Value)(s0 s1 s2 s3 s4 s5 s6 s7 s8 s9 s10 s11:Bool)(hT:CellsAt w N off [.bool false,v1,.bool s0,.bool s1,.bool s2,.bool s3,.bool s4,.bool s5,.bool s6,.bool s7,.bool s8,.bool s9,.bool s10,.bool s11])(hf:∀i,w.frozen? ⟨N,i,none⟩=false)
 (HCL:Hid (∀w',w.Grows w'→Calls Tryz.prog 92 #[.slice a2 n2 k2] w' fun e w''=>∃va vl vc,e= .returned (.slice va vl vc)∧w'.Grows w''∧w''.ownsRow w.heap.size 3 1 (.slice va vl vc) zs.length (zs.map (Value.int .i64)))) :
 Calls Tryz.prog 43 #[.pointer (some ⟨N,off,none⟩),.agg #[.bool r,.slice a2 n2 k2,.bool b0,.bool b1,.bool b2,.bool b3,.bool b4,.bool b5,.bool b6,.bool b7,.bool b8,.bool b9,.bool b10,.bool b11]] w (MrgP N off zs [b0,b1,b2,b3,b4,b5,b6,b7,b8,b9,b10,b11] w):=by
 have HT:=Lib.hid hT
 have c0:=hT 0 _ rfl
 have c1:=hT 1 _ rfl
 have c2:=hT 2 _ rfl
 have c3:=hT 3 _ rfl
 have c4:=hT 4 _ rfl
 have c5:=hT 5 _ rfl
 have c6:=hT 6 _ rfl
 have c7:=hT 7 _ rfl
 have c8:=hT 8 _ rfl
 have c9:=hT 9 _ rfl
 have c10:=hT 10 _ rfl
 have c11:=hT 11 _ rfl
 have c12:=hT 12 _ rfl
 have c13:=hT 13 _ rfl
 rw [Nat.add_zero]at c0
 clear hT
 go_enter Tryz.func43,Tryz.ntmps43
 go_wp2_with fail
 refine TS.begin [8] (World.Grows _) (by kernel_rfl) (by kernel_rfl) grows_drew0 (fun hS=>?_)
 refine TS.wkB 0 hS ?_
 refine TS.wkB 1 hS ?_
 refine TS.wkB 2 hS ?_
 refine TS.wkB 4 hS ?_
 refine TS.wkB 5 hS ?_
 refine TS.one (i:=3) (by kernel_rfl) rfl (fun K1 hK1=>?_)
 have HK1:=Lib.hid hK1
 clear hK1 hS
 dsimp only [List.getElem_toArray,List.getElem_cons_succ,List.getElem_cons_zero]
 go_simp
 go_at_call 92
 refine(HCL.out _ growsR).mono ?_
 rintro e' w2 ⟨va,vl,vc,rfl,hg2,ho⟩
 have hw2:w.Grows w2:=World.Grows.trans' growsR hg2
 refine TS.go HK1.out (World.Grows.trans' growsR hg2) (fun hS=>?_)
 have HO:=Lib.hid ho
 have HW:=Lib.hid hw2
 have hN2:N<w2.heap.size:=by have:=hw2.below.size;omega
 clear ho hg2
 replace c0:=(World.cell?_of_block (hw2.below.block N hN)).trans c0
 replace c1:=(World.cell?_of_block (hw2.below.block N hN)).trans c1
 replace c2:=(World.cell?_of_block (hw2.below.block N hN)).trans c2
 replace c3:=(World.cell?_of_block (hw2.below.block N hN)).trans c3
 replace c4:=(World.cell?_of_block (hw2.below.block N hN)).trans c4
 replace c5:=(World.cell?_of_block (hw2.below.block N hN)).trans c5
 replace c6:=(World.cell?_of_block (hw2.below.block N hN)).trans c6
 replace c7:=(World.cell?_of_block (hw2.below.block N hN)).trans c7
 replace c8:=(World.cell?_of_block (hw2.below.block N hN)).trans c8
 replace c9:=(World.cell?_of_block (hw2.below.block N hN)).trans c9
 replace c10:=(World.cell?_of_block (hw2.below.block N hN)).trans c10
 replace c11:=(World.cell?_of_block (hw2.below.block N hN)).trans c11
 replace c12:=(World.cell?_of_block (hw2.below.block N hN)).trans c12
 replace c13:=(World.cell?_of_block (hw2.below.block N hN)).trans c13
 replace hf:=fun i=>(World.frozen?_of_block (a:=⟨N,i,none⟩) (hw2.below.block N hN)).trans (hf i)
 clear hw2
 clear HK1 K1
 (try simp only [nS])
 refine TS.wkB 6 hS ?_
 refine TS.wkB 7 hS ?_
 have f0:=hf off
 have f1:=hf (off+1)
 have f2:=hf (off+2)
 have f3:=hf (off+3)
 have f4:=hf (off+4)
 have f5:=hf (off+5)
 have f6:=hf (off+6)
 have f7:=hf (off+7)
 have f8:=hf (off+8)
 have f9:=hf (off+9)
 have f10:=hf (off+10)
 have f11:=hf (off+11)
 have f12:=hf (off+12)
 have f13:=hf (off+13)
 refine TS.one (i:=8) (by kernel_rfl) rfl (fun K1 hK1=>?_)
 go_wp2_with fail
 refine hK1 _ _ (fun h=>absurd (by decide) h) (TS.done (by kernel_rfl) ?_)
 clear hK1 K1 hS
 go_wp2_with fail
 go_returns
 have U0:Upd (fun k=>k=N) w2 w2 N off _:=Upd.refl (HT.out.same fun o=>World.cell?_of_block (a:=⟨N,o,none⟩) (HW.out.below.block N hN))
 have U1:=((((((((((((((U0).set 0 (.bool true) (by simp) rfl).set 1 (.slice va vl vc) (by simp) rfl).set 2 (.bool b0) (by simp) rfl).set 3 (.bool b1) (by simp) rfl).set 4 (.bool b2) (by simp) rfl).set 5 (.bool b3) (by simp) rfl).set 6 (.bool b4) (by simp) rfl).set 7 (.bool b5) (by simp) rfl).set 8 (.bool b6) (by simp) rfl).set 9 (.bool b7) (by simp) rfl).set 10 (.bool b8) (by simp) rfl).set 11 (.bool b9) (by simp) rfl).set 12 (.bool b10) (by simp) rfl).set 13 (.bool b11) (by simp) rfl
 simp only [Nat.add_zero,List.set_cons_zero,List.set_cons_succ]at U1
 have U2:=fun W (hg:World.Grows _ W)=>U1.grows hN2 hg
 refine⟨rfl,va,vl,vc,Upd.pre HW.out hN (U2 _ growsR),Mods.row (U2 _ growsR).mods HO.out fun k hk e=>?_⟩
 subst e
 have:=(HO.out.lt _ hk).1
 omega
theorem own_get{w:World}{B n:Nat}{g cap:Nat}{xs:List Int}(h:w.ownsRow B 3 1 (.slice (some ⟨g,0,none⟩) n cap) n (xs.map (Value.int .i64)))(j:Nat)(hj:j<xs.length):w.cell? ⟨g,0+j,none⟩=some (.int .i64 (xs.getD j 0)):=by
 have hn:xs.length=n:=by have:=h.1;simpa using this
 rw [Nat.zero_add,h.cellAt j (by omega),List.getElem?_map,List.getD_eq_getElem?_getD,List.getElem?_eq_getElem hj];rfl
theorem equal_rows{w:World}{B B':Nat}{v1 v2:Value}{xs ys:List Int}(h1:w.ownsRow B 3 1 v1 xs.length (xs.map (Value.int .i64)))(h2:w.ownsRow B' 3 1 v2 ys.length (ys.map (Value.int .i64)))(hx:xs.length≤1000)(hy:ys.length≤1000) :
 Calls Tryz.prog 93 #[v1,v2] w fun e w'=>e= .returned (.bool (decide (xs=ys)))∧w.Grows w':=by
 obtain⟨a1,c1,rfl,hg1⟩:∃a c,v1= .slice a xs.length c∧(xs.length=0∨∃g,a=some ⟨g,0,none⟩):=by
  rcases row_frm h1 with ⟨rfl,e⟩|⟨g,cap,rfl,-⟩
  ·exact⟨none,0,by rw [e],.inl e⟩
  ·exact⟨_,_,rfl,.inr ⟨g,rfl⟩⟩
 obtain⟨a2,c2,rfl,hg2⟩:∃a c,v2= .slice a ys.length c∧(ys.length=0∨∃g,a=some ⟨g,0,none⟩):=by
  rcases row_frm h2 with ⟨rfl,e⟩|⟨g,cap,rfl,-⟩
  ·exact⟨none,0,by rw [e],.inl e⟩
  ·exact⟨_,_,rfl,.inr ⟨g,rfl⟩⟩
 by_cases hl:xs.length=ys.length
 ·by_cases h0:xs.length=0
  ·have e1:xs= []:=List.eq_nil_of_length_eq_zero h0
   have e2:ys= []:=List.eq_nil_of_length_eq_zero (by omega)
   subst e1 e2
   refine(Tryz.slices_Equal_int_empty a1 a2 c1 0 c2 w (by omega)).mono ?_
   rintro e w' ⟨rfl,rfl⟩
   exact⟨rfl,.refl _⟩
  ·rcases hg1 with e|⟨g1,rfl⟩
   ·omega
   rcases hg2 with e|⟨g2,rfl⟩
   ·omega
   refine(Tryz.slices_Equal_int g1 0 xs.length c1 g2 0 ys.length c2 xs ys w (Nat.le_refl _) (Nat.le_refl _) (by omega) (by omega) (own_get h1) (own_get h2)).mono ?_
   rintro e w' ⟨rfl,q,rfl⟩
   refine⟨?_,.of_below ⟨rfl,rfl,rfl,Nat.le_refl _,fun _ _=>rfl⟩⟩
   rw [List.take_length,List.take_length]
   congr 2
   rw [Bool.eq_iff_iff];simp
 ·refine(Tryz.slices_Equal_int_lens a1 a2 _ c1 _ c2 w hl).mono ?_
  rintro e w' ⟨rfl,rfl⟩
  exact⟨by rw [decide_eq_false (fun e=>hl (by rw [e]))],.refl _⟩
def mrgK(t bs:List Bool)(k:Nat):List Bool:=(List.range 12).map fun j=>if j<k then t.getD j false&&bs.getD j false else t.getD j false
theorem mrgK_len(t bs:List Bool)(k:Nat):(mrgK t bs k).length=12:=by simp [mrgK]
theorem mrgK_get(t bs:List Bool)(k:Nat){j:Nat}(hj:j<12):(mrgK t bs k)[j]? =some (if j<k then t.getD j false&&bs.getD j false else t.getD j false):=by
 simp [mrgK,hj]
theorem mrgK_zero{t:List Bool}(bs:List Bool)(h:t.length=12):mrgK t bs 0=t:=by
 refine List.ext_getElem? fun j=>?_
 by_cases hj:j<12
 ·rw [mrgK_get _ _ _ hj,if_neg (by omega),List.getD_eq_getElem?_getD,List.getElem?_eq_getElem (by omega)];rfl
 ·rw [List.getElem?_eq_none (by rw [mrgK_len];omega),List.getElem?_eq_none (by omega)]
theorem mrgK_all{t bs:List Bool}(h:t.length=12)(h':bs.length=12):mrgK t bs 12=List.zipWith (· && ·) t bs:=by
 refine List.ext_getElem? fun j=>?_
 by_cases hj:j<12
 ·rw [mrgK_get _ _ _ hj,if_pos hj,List.getElem?_zipWith,List.getD_eq_getElem?_getD,List.getD_eq_getElem?_getD,List.getElem?_eq_getElem (by omega),List.getElem?_eq_getElem (by omega)];rfl
 ·rw [List.getElem?_eq_none (by rw [mrgK_len];omega),List.getElem?_eq_none (by simp;omega)]
theorem mrgK_succ(t bs:List Bool){k:Nat}(hk:k<12):(mrgK t bs k).set k (t.getD k false&&bs.getD k false)=mrgK t bs (k+1):=by
 refine List.ext_getElem? fun j=>?_
 rw [List.getElem?_set,mrgK_len]
 by_cases hj:j<12
 ·rw [mrgK_get _ _ _ hj,mrgK_get _ _ _ hj]
  by_cases e:k=j
  ·subst e
   rw [if_pos rfl,if_pos hk,if_pos (by omega)]
  ·rw [if_neg e]
   exact fz42
 ·rw [if_neg (by omega),List.getElem?_eq_none (by rw [mrgK_len];omega),List.getElem?_eq_none (by rw [mrgK_len];omega)]
def MrgQ(N off:Nat)(v1:Value)(t:List Int × List Bool)(zs:List Int)(bs:List Bool)(w:World)(e:Ending)(w':World):Prop:=
 e= .returned (.bool (decide (t.1=zs)))∧Upd (fun k=>k=N) w w' N off (.bool true::v1::(List.zipWith (· && ·) t.2 bs).map .bool)
theorem Upd.drew{P:Nat→Prop}{N off:Nat}{L:List Value}{w w':World}(h:Upd P w w' N off L):Upd P w w'.drew N off L:=⟨⟨h.mods.os,h.mods.tape,h.mods.output,h.mods.size,h.mods.block⟩,h.cells,h.out,h.frz⟩
theorem upd_mrg{P:Nat→Prop}{N off k:Nat}{v1:Value}{t bs:List Bool}{c:Bool}{w wr:World}(h:Upd P w wr N off (.bool true::v1::(mrgK t bs k).map .bool))(hk:k<12)(hs:(mrgK t bs k).set k c=mrgK t bs (k+1))(hP:P N):Upd P w (wr.setCell ⟨N,off+2+k,none⟩ (.bool c)) N off (.bool true::v1::(mrgK t bs (k+1)).map .bool):=by
 have h1:=h.set (2+k) (.bool c) (by simp [mrgK_len];omega) hP
 have e:(Value.bool true::v1::(mrgK t bs k).map .bool).set (2+k) (.bool c)=Value.bool true::v1::(mrgK t bs (k+1)).map .bool:=by
  rw [Nat.add_comm,List.set_cons_succ,List.set_cons_succ,←hs,List.map_set]
 rw [e,←Nat.add_assoc]at h1
 exact h1
theorem merge_old(N off B B':Nat)(t:List Int × List Bool)(zs:List Int)(v1 v2:Value)(w:World)(r b0 b1 b2 b3 b4 b5 b6 b7 b8 b9 b10 b11:Bool)(hN:N<w.heap.size)(hT:StC w N off true v1 t.2)(hf:∀i,w.frozen? ⟨N,i,none⟩=false)
 (h1:w.ownsRow B 3 1 v1 t.1.length (t.1.map (Value.int .i64))) (h2:w.ownsRow B' 3 1 v2 zs.length (zs.map (Value.int .i64))) (hl1:t.1.length≤1000) (hl2:zs.length≤1000) (hn1:v1.ownBlock≠some N) (hn2:v2.ownBlock≠some N) :
 Calls Tryz.prog 43 #[.pointer (some ⟨N,off,none⟩),.agg #[.bool r,v2,.bool b0,.bool b1,.bool b2,.bool b3,.bool b4,.bool b5,.bool b6,.bool b7,.bool b8,.bool b9,.bool b10,.bool b11]] w (MrgQ N off v1 t zs [b0,b1,b2,b3,b4,b5,b6,b7,b8,b9,b10,b11] w):=by
 have HEQ:Hid (∀w',Mods (fun k=>k=N) w w'→Calls Tryz.prog 93 #[v1,v2] w' fun e w''=>e= .returned (.bool (decide (t.1=zs)))∧w'.Grows w''):=Lib.hid (fun w' hm=>equal_rows (hm.row h1 fun k hk e=>hn1 (e ▸ hk)) (hm.row h2 fun k hk e=>hn2 (e ▸ hk)) hl1 hl2)
 have c0:w.cell? ⟨N,off,none⟩=some (.bool true):=hT.2 0 _ rfl
 obtain⟨bs,hbs⟩:∃bs:List Bool,[b0,b1,b2,b3,b4,b5,b6,b7,b8,b9,b10,b11]=bs:=⟨_,rfl⟩
 have hbl:bs.length=12:=by rw [←hbs];rfl
 have HT0:=Lib.hid hT
 have HF:=Lib.hid hf
 have HBC:Hid (∀j,j<12→([Value.bool r,v2,.bool b0,.bool b1,.bool b2,.bool b3,.bool b4,.bool b5,.bool b6,.bool b7,.bool b8,.bool b9,.bool b10,.bool b11])[2+j]? =some (.bool (bs.getD j false))):=Lib.hid (fun j hj=>by
  rw [←hbs]
  rcases(by omega:j=0∨j=1∨j=2∨j=3∨j=4∨j=5∨j=6∨j=7∨j=8∨j=9∨j=10∨j=11)with rfl|rfl|rfl|rfl|rfl|rfl|rfl|rfl|rfl|rfl|rfl|rfl<;>rfl)
 rw [hbs]
 have HBL:=Lib.hid hbl
 have HTL:=Lib.hid hT.1
 clear hT hf h1 h2 hbs hbl hl1 hl2 hn1 hn2
 unfold MrgQ
 go_enter Tryz.func43,Tryz.ntmps43
 go_wp2_with fail
 go_loopw [19] (fun v19 wr=>∃k:Nat,k≤12∧v19= .int .i64 k∧Upd (fun k=>k=N) w wr N off (.bool true::v1::(mrgK t.2 bs k).map .bool)∧CellsAt wr w.heap.size 0 [.bool r,v2,.bool b0,.bool b1,.bool b2,.bool b3,.bool b4,.bool b5,.bool b6,.bool b7,.bool b8,.bool b9,.bool b10,.bool b11]∧w.heap.size<wr.heap.size) (fun v19 _=>12-(intOf v19).toNat)
 case atStart=>
  refine⟨0,by omega,rfl, ?_,fun i u hu=>?_,by simp⟩
  ·rw [mrgK_zero _ HTL.out];exact(Upd.refl HT0.out.2).grows hN growsR
  ·rw [Nat.zero_add,cell_of_row _ _ _ _ _ _ (heap_alloc_new w _)];simpa using hu
 case round=>
  obtain⟨k,hk,rfl,hu,hbx,hsz⟩:=hrel
  have HU:=Lib.hid hu
  have HBX:=Lib.hid hbx
  have q0:wr.cell? ⟨N,off,none⟩=some (.bool true):=hu.cells 0 _ rfl
  have q1:wr.cell? ⟨N,off+1,none⟩=some v1:=hu.cells 1 _ rfl
  have x1:wr.cell? ⟨w.heap.size,1,none⟩=some v2:=hbx 1 _ rfl
  have hNr:N<wr.heap.size:=Nat.lt_of_lt_of_le hN hu.mods.size
  by_cases hlt:k<12
  ·have d1:(k:Int)<12:=by omega
   have qk:wr.cell? ⟨N,off+2+k,none⟩=some (.bool (t.2.getD k false)):=by
    have:=hu.cells (2+k) (.bool (t.2.getD k false)) (by
     rw [Nat.add_comm,List.getElem?_cons_succ,List.getElem?_cons_succ,List.getElem?_map,mrgK_get _ _ _ hlt,if_neg (by omega)];rfl)
    rw [←Nat.add_assoc]at this;exact this
   have xk:wr.cell? ⟨w.heap.size,2+k,none⟩=some (.bool (bs.getD k false)):=by
    have:=hbx _ _ (HBC.out k hlt)
    rw [Nat.zero_add]at this;exact this
   have fk:wr.frozen? ⟨N,off+2+k,none⟩=false:=(hu.frz _).trans (HF.out _)
   have HS:=Lib.hid (mrgK_succ t.2 bs hlt)
   have HK:=Lib.hid hlt
   have hNX:N≠w.heap.size:=by omega
   have hNX':w.heap.size≠N:=by omega
   clear hu hbx
   obtain⟨y,hy⟩:∃y,t.2.getD k false=y:=⟨_,rfl⟩
   obtain⟨z,hz⟩:∃z,bs.getD k false=z:=⟨_,rfl⟩
   rw [hy]at qk HS
   rw [hz]at xk HS
   clear hy hz hlt
   cases y with
   |true=>
    go_wp2_with fail
    refine TS.begin [17] (World.Grows wr) (by kernel_rfl) (by kernel_rfl) grows_drew0 (fun hS=>?_)
    refine TS.wkB 0 hS ?_
    refine TS.wkB 1 hS ?_
    refine TS.wkB 2 hS ?_
    refine TS.wkB 3 hS ?_
    refine TS.wkB 4 hS ?_
    refine TS.wkB 5 hS ?_
    refine TS.wkB 6 hS ?_
    refine TS.wkB 7 hS ?_
    refine TS.wkB 8 hS ?_
    refine TS.wkB 9 hS ?_
    refine TS.wkB 10 hS ?_
    refine TS.wkB 11 hS ?_
    refine TS.wkB 12 hS ?_
    refine TS.wkB 13 hS ?_
    refine TS.wkB 14 hS ?_
    refine TS.wkB 15 hS ?_
    refine TS.wkB 16 hS ?_
    refine TS.weB 17 ?_
    clear hS
    go_wp2_with fail
    go_roundw
    case rel=>exact⟨k+1,HK.out,by go_num,(upd_mrg HU.out HK.out HS.out rfl).drew,HBX.out.other _ (.inl hNX),by simp [World.setCell];exact hsz⟩
    case measure=>simp [intOf];have:=HK.out;omega
   |false=>
    go_wp2_with fail
    refine TS.begin [17] (World.Grows wr) (by kernel_rfl) (by kernel_rfl) grows_drew0 (fun hS=>?_)
    refine TS.wkB 0 hS ?_
    refine TS.wkB 1 hS ?_
    refine TS.wkB 2 hS ?_
    refine TS.wkB 3 hS ?_
    refine TS.wkB 4 hS ?_
    refine TS.wkB 5 hS ?_
    refine TS.wkB 6 hS ?_
    refine TS.wkB 7 hS ?_
    refine TS.wkB 8 hS ?_
    refine TS.take (i:=9) (v:=undef) rfl (by kernel_rfl) (by kernel_rfl) (by kernel_rfl) (by decide) (fun _ _ _ h=>h) (.inl ⟨rfl,rfl⟩) hS ?_
    (try simp only [nS])
    refine TS.take (i:=10) (v:=undef) rfl (by kernel_rfl) (by kernel_rfl) (by kernel_rfl) (by decide) (fun _ _ _ h=>h) (.inl ⟨rfl,rfl⟩) hS ?_
    (try simp only [nS])
    refine TS.take (i:=11) (v:=undef) rfl (by kernel_rfl) (by kernel_rfl) (by kernel_rfl) (by decide) (fun _ _ _ h=>h) (.inl ⟨rfl,rfl⟩) hS ?_
    (try simp only [nS])
    refine TS.take (i:=12) (v:=undef) rfl (by kernel_rfl) (by kernel_rfl) (by kernel_rfl) (by decide) (fun _ _ _ h=>h) (.inl ⟨rfl,rfl⟩) hS ?_
    (try simp only [nS])
    refine TS.wkB 13 hS ?_
    refine TS.wkB 14 hS ?_
    refine TS.wkB 15 hS ?_
    refine TS.wkB 16 hS ?_
    refine TS.weB 17 ?_
    clear hS
    go_wp2_with fail
    go_roundw
    case rel=>exact⟨k+1,HK.out,by go_num,(upd_mrg HU.out HK.out HS.out rfl).drew,HBX.out.other _ (.inl hNX),by simp [World.setCell];exact hsz⟩
    case measure=>simp [intOf];have:=HK.out;omega
  ·obtain rfl:k=12:=by omega
   have HM:=Lib.hid hu.mods
   rw [mrgK_all HTL.out HBL.out]at HU
   have HQ:=Lib.hid (fun w' (hg:wr.Grows w')=>HEQ.out w' (HM.out.trans (.grows hg)))
   obtain⟨res,hres⟩:∃r,decide (t.1=zs)=r:=⟨_,rfl⟩
   rw [hres]at HQ
   have HR:=Lib.hid hres
   clear hres HEQ
   have HP:Hid (∀w',wr.Grows w'→Upd (fun k=>k=N) w w' N off (.bool true::v1::(List.zipWith (· && ·) t.2 bs).map .bool)):=Lib.hid (fun w' hg=>HU.out.grows hN hg)
   clear hlt hk hbx hu
   go_wp2_with fail
   refine TS.begin [7] (World.Grows wr) (by kernel_rfl) (by kernel_rfl) grows_drew0 (fun hS=>?_)
   refine TS.wkB 0 hS ?_
   refine TS.wkB 1 hS ?_
   refine TS.wkB 2 hS ?_
   refine TS.wkB 3 hS ?_
   refine TS.wkB 4 hS ?_
   refine TS.wkB 5 hS ?_
   refine TS.one (i:=6) (by kernel_rfl) rfl (fun K1 hK1=>?_)
   have HK1:=Lib.hid hK1
   clear hK1 hS
   dsimp only [List.getElem_toArray,List.getElem_cons_succ,List.getElem_cons_zero]
   go_simp
   go_at_call 93
   refine(HQ.out _ growsR).mono ?_
   rintro e' w2 ⟨rfl,hg2⟩
   refine TS.go HK1.out (World.Grows.trans' growsR hg2) (fun hS=>?_)
   clear HK1 K1
   (try simp only [nS])
   refine TS.weB 7 ?_
   clear hS
   go_wp2_with fail
   go_returns
   exact⟨by rw [HR.out];rfl,HP.out _ (World.Grows.trans' growsR hg2)⟩
theorem own_lower{w:World}{B B' size n:Nat}{e:TypeId}{v:Value}{xs:List Value}(h:w.ownsRow B e size v n xs)(hb:B'≤B):w.ownsRow B' e size v n xs:=⟨h.1,h.2.imp id fun⟨g,cap,cur,hv,hbb,rest⟩=>⟨g,cap,cur,hv,Nat.le_trans hb hbb,rest⟩⟩
theorem clone_rows{w:World}{B:Nat}{v:Value}{zs:List Int}(h:w.ownsRow B 3 1 v zs.length (zs.map (Value.int .i64)))(hl:zs.length≤1000)(hN:Nat)(hNs:hN<w.heap.size)(base:Nat)(hb:base≤w.heap.size) :
 Calls Tryz.prog 92 #[v] w fun e w'=>∃va vl vc,e= .returned (.slice va vl vc)∧w.Grows w'∧w'.ownsRow base 3 1 (.slice va vl vc) zs.length (zs.map (Value.int .i64)):=by
 rcases row_frm h with ⟨rfl,h0⟩|⟨g,cap,rfl,-⟩
 ·refine(Tryz.slices_Clone_int_nil 0 0 w).mono ?_
  rintro e w' ⟨rfl,rfl⟩
  have:zs= []:=List.eq_nil_of_length_eq_zero h0
  subst this
  exact⟨_,_,_,rfl,.refl _,World.ownsRow_nil _ _ _ _⟩
 ·refine(Tryz.slices_Clone_int g 0 zs.length cap zs w (Nat.le_refl _) (by omega) (own_get h)).mono ?_
  rintro e w' ⟨v',rfl,ho,hne,hb'⟩
  rw [List.take_length]at ho
  obtain⟨va,vl,vc,rfl⟩:∃va vl vc,v'= .slice va vl vc:=by
   rcases row_frm ho with ⟨rfl,-⟩|⟨g',cap',rfl,-⟩
   ·exact⟨_,_,_,rfl⟩
   ·exact⟨_,_,_,rfl⟩
  exact⟨_,_,_,rfl,.of_below hb',own_lower ho hb⟩
def MrgA(N off B:Nat)(v1:Value)(o:Option (List Int × List Bool))(s:List Int × List Bool)(w:World)(e:Ending)(w':World):Prop:=
 ∃b,e= .returned (.bool b)∧Mods (fun k=>k=N) w w'∧(∀i,i<off∨off+14≤i→w'.cell? ⟨N,i,none⟩=w.cell? ⟨N,i,none⟩)∧(∀i,w'.frozen? ⟨N,i,none⟩=w.frozen? ⟨N,i,none⟩)∧
  match mrgF o s with
  |none=>b=false
  |some s'=>b=true∧∃v',StM w' N off v' (some s')∧w'.ownsRow B 3 1 v' s'.1.length (s'.1.map (Value.int .i64))∧((o≠none∧v'=v1)∨(o=none∧∀k,v'.ownBlock=some k→w.heap.size≤k))
theorem merge_any(N off B B':Nat)(o:Option (List Int × List Bool))(s:List Int × List Bool)(v1 v2:Value)(w:World)(hN:N<w.heap.size)(hNB:N<B)(hB:B≤w.heap.size)(hT:StM w N off v1 o)(hf:∀i,w.frozen? ⟨N,i,none⟩=false)
 (h1:∀t,o=some t→w.ownsRow B 3 1 v1 t.1.length (t.1.map (Value.int .i64))∧t.1.length≤1000) (h2:w.ownsRow B' 3 1 v2 s.1.length (s.1.map (Value.int .i64))) (hl2:s.1.length≤1000) (hn2:v2.ownBlock≠some N) (hs:s.2.length=12) :
 ∀b0 b1 b2 b3 b4 b5 b6 b7 b8 b9 b10 b11,s.2= [b0,b1,b2,b3,b4,b5,b6,b7,b8,b9,b10,b11]→Calls Tryz.prog 43 #[.pointer (some ⟨N,off,none⟩),.agg #[.bool true,v2,.bool b0,.bool b1,.bool b2,.bool b3,.bool b4,.bool b5,.bool b6,.bool b7,.bool b8,.bool b9,.bool b10,.bool b11]] w (MrgA N off B v1 o s w):=by
 intro b0 b1 b2 b3 b4 b5 b6 b7 b8 b9 b10 b11 hsb
 cases o with
 |none=>
  obtain⟨bs,hbl,hc⟩:=hT
  obtain⟨s0,s1,s2,s3,s4,s5,s6,s7,s8,s9,s10,s11,rfl⟩:=twelve hbl
  obtain⟨a2,n2,k2,rfl⟩:∃a n k,v2= .slice a n k:=by
   rcases row_frm h2 with ⟨rfl,-⟩|⟨g,cap,rfl,-⟩
   ·exact⟨_,_,_,rfl⟩
   ·exact⟨_,_,_,rfl⟩
  refine(merge_new N off s.1 a2 n2 k2 w true b0 b1 b2 b3 b4 b5 b6 b7 b8 b9 b10 b11 hN (.slice none 0 0) s0 s1 s2 s3 s4 s5 s6 s7 s8 s9 s10 s11 hc hf (Lib.hid fun w' hg=>clone_rows (Mods.row (P:=fun _=>False) (.grows hg) h2 fun _ _ e=>e) hl2 N (Nat.lt_of_lt_of_le hN hg.below.size) w.heap.size hg.below.size)).mono ?_
  rintro e w' ⟨rfl,a,n,c,hu,hr⟩
  refine⟨true,rfl,hu.mods,fun i hi=>hu.out i (by simpa using hi),hu.frz,rfl,_,⟨hs,by rw [hsb];exact hu.cells⟩,own_lower hr hB,.inr ⟨rfl,fun k hk=>(hr.lt k hk).1⟩⟩
 |some t=>
  obtain⟨r1,hl1⟩:=h1 t rfl
  have hn1:v1.ownBlock≠some N:=fun e=>by have:=(r1.lt N e).1;omega
  refine(merge_old N off B B' t s.1 v1 v2 w true b0 b1 b2 b3 b4 b5 b6 b7 b8 b9 b10 b11 hN hT hf r1 h2 hl1 hl2 hn1 hn2).mono ?_
  rintro e w' ⟨rfl,hu⟩
  rw [←hsb]at hu
  have hz:(List.zipWith (· && ·) t.2 s.2).length=12:=by rw [List.length_zipWith,hT.1,hs];rfl
  refine⟨_,rfl,hu.mods,fun i hi=>hu.out i (by simp only [List.length_cons,List.length_map,hz];exact hi),hu.frz, ?_⟩
  unfold mrgF
  by_cases e:t.1=s.1
  ·simp only [if_pos e]
   exact⟨decide_eq_true e,v1,⟨hz,hu.cells⟩,hu.mods.row r1 fun k hk q=>hn1 (q ▸ hk),.inl ⟨by simp,rfl⟩⟩
  ·simp only [if_neg e]
   exact decide_eq_false e
end Go.Proofs.YtaghhncnicbedaaGreatDoor
