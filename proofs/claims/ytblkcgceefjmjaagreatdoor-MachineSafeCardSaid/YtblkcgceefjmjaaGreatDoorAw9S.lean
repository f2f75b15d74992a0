/- pensionlaw9's example. -/
import Derived.Test.YtblkcgceefjmjaaGreatDoorSMchV1
set_option linter.all false
set_option maxHeartbeats 16000000
set_option maxRecDepth 1000000
namespace Go.Proofs.YtblkcgceefjmjaaGreatDoor
open Go.RowKit
def l9:List Ins:=[⟨1,2,2,1⟩,⟨1,2,3,1⟩,⟨9,0,0,0⟩,⟨4,0,0,0⟩]
theorem ver9:verA l9 [byNm]=(2,0):=by decide+kernel
def v9w:Vw:=⟨0,2000,0,0,0,0,0,0,0,0,0,1,[]⟩
theorem CodC.insAt{w:World}{bI bS:Nat}(h:CodC w bI bS):InsAt w (.slice (some ⟨bI,0,none⟩) 4 4) l9:=by
 refine⟨by decide,some ⟨bI,0,none⟩,4,rfl,.inr ⟨bI,0,rfl,h.hI,fun i hi=>?_⟩⟩
 have hi4:i<4:=hi
 match i,hi4 with
 |0,_=>exact⟨⟨⟨by decide,by decide⟩,⟨by decide,by decide⟩⟩,h.ins 0 _ rfl,h.ins 1 _ rfl,h.ins 2 _ rfl,h.ins 3 _ rfl⟩
 |1,_=>exact⟨⟨⟨by decide,by decide⟩,⟨by decide,by decide⟩⟩,h.ins 4 _ rfl,h.ins 5 _ rfl,h.ins 6 _ rfl,h.ins 7 _ rfl⟩
 |2,_=>exact⟨⟨⟨by decide,by decide⟩,⟨by decide,by decide⟩⟩,h.ins 8 _ rfl,h.ins 9 _ rfl,h.ins 10 _ rfl,h.ins 11 _ rfl⟩
 |3,_=>exact⟨⟨⟨by decide,by decide⟩,⟨by decide,by decide⟩⟩,h.ins 12 _ rfl,h.ins 13 _ rfl,h.ins 14 _ rfl,h.ins 15 _ rfl⟩
theorem CodC.slAt{w:World}{bI bS:Nat}(h:CodC w bI bS):SlAt w (.slice (some ⟨bS,0,none⟩) 1 1) [byNm]:=by
 refine⟨by decide,fun s hs=>by simp at hs;subst hs;decide,some ⟨bS,0,none⟩,1,by decide,rfl,.inr ⟨bS,0,rfl,h.hS,fun i hi=>?_⟩⟩
 have hi1:i<1:=hi
 obtain rfl:i=0:=by omega
 exact h.slt
theorem CodC.of{w:World}{bI bS:Nat}{t1 t2:TypeId}(hI:w.heap[bI]? =some (.cells #[.int .i64 1,.int .i64 2,.int .i64 2,.int .i64 1,.int .i64 1,.int .i64 2,.int .i64 3,.int .i64 1,.int .i64 9,.int .i64 0,.int .i64 0,.int .i64 0,.int .i64 4,.int .i64 0,.int .i64 0,.int .i64 0] t1 (0,0)))(hS:w.heap[bS]? =some (.cells #[.string byNm] t2 (0,0))):CodC w bI bS:=
 ⟨(Array.getElem?_eq_some_iff.1 hI).1,(Array.getElem?_eq_some_iff.1 hS).1,fun i u hu=>(cell_of_row w bI i _ _ _ hI).trans (by simpa using hu),cell_of_row w bS 0 _ _ _ hS⟩
theorem verify9(hInf:Hid InfSaid)(bI bS:Nat)(w:World)(hc:CodC w bI bS)(ht:Tab w):Calls Tryz.prog 44 #[.agg #[.slice (some ⟨bI,0,none⟩) 4 4,.slice (some ⟨bS,0,none⟩) 1 1]] w fun e W'=>e= .returned (.tuple #[.int .i64 2,.int .i64 0])∧w.Grows W':=by
 have h:=VerifyM_any hInf l9 [byNm] _ _ w hc.insAt hc.slAt ht
 unfold VrfP at h
 rw [ver9]at h
 exact h
theorem addC:AddC:=fun w=>(Add2_any 2 1 3 1 w ⟨⟨by decide,by decide⟩,⟨by decide,by decide⟩,⟨by decide,by decide⟩,⟨by decide,by decide⟩⟩).mono fun e w' h=>by
 have e1:frV (addF 2 1 3 1)= .tuple #[.agg #[.int .i64 5,.int .i64 1],.int .i64 0]:=by kernel_rfl
 rw [e1]at h
 exact h
theorem view9(w:World):Calls Tryz.prog 99 #[vw9] w fun e W'=>e= .returned (.bool true)∧w.Grows W':=
 (ValidView2_any v9w (.slice none 0 0) w ⟨⟨by decide,by decide⟩,⟨by decide,by decide⟩⟩ ⟨by decide,none,0,rfl,.inl rfl⟩).mono fun e w' h=>⟨h.1.trans (by rw [show v9w.ok=true by decide+kernel]),h.2⟩
theorem runs9(hInf:Hid InfSaid)(bI bS:Nat)(w:World)(hc:CodC w bI bS)(ht:Tab w):Calls Tryz.prog 42 #[.agg #[.slice (some ⟨bI,0,none⟩) 4 4,.slice (some ⟨bS,0,none⟩) 1 1],vw9] w (RunC9 w):=
 run9 (Lib.hid addC) bI bS w hc (Lib.hid fun W hg=>verify9 hInf bI bS W (hc.grows hg) (ht.grows hg)) (Lib.hid view9) (Lib.hid fun W=>(oper2_any 9 W).mono fun e w' h=>⟨h.1.trans (by rw [show opF 9=7 by decide]),h.2⟩)
  (Lib.hid fun W=>(operands_any 7 W).mono fun e w' h=>⟨h.1.trans (by rw [show ariF 7=2 by decide];rfl),h.2⟩)
theorem awake9_any(hInf:Hid InfSaid)(w:World)(ht:Tab w):Calls Tryz.prog 43 #[] w fun e w'=>e= .returned (.bool true)∧w.Grows w':=by
 have HT:=Lib.hid ht
 clear ht
 go_enter Tryz.func43,Tryz.ntmps43
 have HCC:Hid (∀W,World.Grows ((w.alloc (.cells #[.string byNm] 9)).alloc (.cells #[.int .i64 1,.int .i64 2,.int .i64 2,.int .i64 1,.int .i64 1,.int .i64 2,.int .i64 3,.int .i64 1,.int .i64 9,.int .i64 0,.int .i64 0,.int .i64 0,.int .i64 4,.int .i64 0,.int .i64 0,.int .i64 0] 103)) W→CodC W (w.heap.size+1) w.heap.size):=Lib.hid (fun W hg=>CodC.of ((hg.below.block _ (by simp)).trans (heap_new _ _ _ (by simp))) ((hg.below.block _ (by simp;omega)).trans ((Below.heap_alloc _ _ _ (by simp)).trans (heap_alloc_new _ _))))
 have HV:=Lib.hid (fun W hc ht=>verify9 hInf (w.heap.size+1) w.heap.size W hc ht)
 have HR:=Lib.hid (fun W hc ht=>runs9 hInf (w.heap.size+1) w.heap.size W hc ht)
 unfold RunC9 vw9 at HR
 unfold byNm at HCC
 clear hInf
 go_upto_region 4 with (first
  |(go_at_call 44;refine(HV.out _ (HCC.out _ growsR) (HT.out.grows growsR)).mono ?_;rintro e' w' ⟨rfl,bs,d,rfl⟩)
  |(go_at_call 42;refine(HR.out _ (HCC.out _ growsR) (HT.out.grows growsR)).mono ?_;rintro e' w' ⟨sv,rfl,⟨bs2,d2,rfl⟩,hown⟩;obtain⟨g,cap,rfl,-,-⟩:=hown.form (by decide);have HOW:=Lib.hid hown;clear hown))
 refine cutW (fun W=>w.Grows W∧∃b,W.ownsRow b 70 5 (.slice (some ⟨g,0,none⟩) 1 cap) 1 [.string byNm,.int .i64 2,.bool false,.int .i64 5,.int .i64 1]) ⟨growsR,_,by first|exact HOW.out|(have h:=HOW.out;rw [World.grow_grow]at h;exact h)|simpa only [World.grow_grow]using HOW.out⟩ ?_
 intro W hW
 obtain⟨hg,b,ho⟩:=hW
 have c0:W.cell? ⟨g,0,none⟩=some (.string ⟨#[98,121]⟩):=ho.cellAt 0 (by decide)
 have c3:W.cell? ⟨g,3,none⟩=some (.int .i64 5):=ho.cellAt 3 (by decide)
 have c4:W.cell? ⟨g,4,none⟩=some (.int .i64 1):=ho.cellAt 4 (by decide)
 have hgl:=World.block_lt_of_cell? _ _ c0
 have HG:=Lib.hid hg
 clear hg ho HOW HV HR HCC
 go_wp2_with fail
 go_returns
 exact⟨rfl,HG.out.trans' growsR⟩
end Go.Proofs.YtblkcgceefjmjaaGreatDoor
