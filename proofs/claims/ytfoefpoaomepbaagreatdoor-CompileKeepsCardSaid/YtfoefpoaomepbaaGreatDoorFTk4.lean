import Derived.Test.YtfoefpoaomepbaaGreatDoorFTk1
import Derived.Test.YtfoefpoaomepbaaGreatDoorFLeaf
import Derived.Test.YtfoefpoaomepbaaGreatDoorFAdd
import Derived.Test.YtfoefpoaomepbaaGreatDoorFK
import Derived.Deep.AppendLies
import Derived.Deep.QuietTactic
import Derived.BigRegion
import Derived.OrdersHeld
import Derived.Shelf.Spec.BitsCarry
import Derived.Lib.IndexMore
import Derived.Lib.ItoaNum
import Derived.Lib.OthersKept
import Derived.Deep.CutBlock
import Derived.Deep.CutRange
import Derived.Deep.DeepCutAuto
set_option linter.all false
set_option maxHeartbeats 16000000
set_option maxRecDepth 1000000
namespace Go.Proofs.YtfoefpoaomepbaaGreatDoor
open Go.RowKit
abbrev Tk:=Int × ByteArray × Nat
instance:Inhabited Tk:=⟨(0,ByteArray.empty,0)⟩
def tkC(t:Tk):List Value:=[.int .i64 t.1,.string t.2.1,.int .i64 t.2.2]
def tkV(l:List Tk):List Value:=l.flatMap tkC
theorem tkV_app(a b:List Tk):tkV (a++b)=tkV a++tkV b:=by unfold tkV;rw [List.flatMap_append]
theorem infoTk:(Tryz.prog.info? 197).map (fun i=>(i.zero,i.size,i.bytes))=some (some (.agg #[.int .i64 0,.string ⟨#[]⟩,.int .i64 0]),3,32):=by kernel_rfl
theorem own_growT{w w':World}{base:Nat}{T:TypeId}{c n:Nat}{v:Value}{xs:List Value}(h:w.ownsRow base T c v n xs)(hg:w.Grows w'):w'.ownsRow base T c v n xs:=ownsRow_keep h fun k _ hlt=>hg.below.block k hlt
theorem own_formT{w:World}{base:Nat}{T:TypeId}{c n:Nat}{v:Value}{xs:List Value}(h:w.ownsRow base T c v n xs):∃a cap,v= .slice a n cap:=by
 rcases h.2 with ⟨rfl,h0⟩|⟨g,cap,cur,rfl,_⟩
 ·exact⟨none,0,by rw [h0]⟩
 ·exact⟨_,cap,rfl⟩
def slLen:Value→Nat| .slice _ n _=>n|_=>0
def AllP(T:List Tk)(w:World)(e:Ending)(w':World):Prop:=∃v,e= .returned (.tuple #[v,.int .i64 0,.int .i64 0])∧w.Grows w'∧w'.ownsRow w.heap.size 197 3 v T.length (tkV T)
theorem all_any(s:ByteArray)(T:List Tk)(pos:Nat→Nat)(w:World)(hs:s.size≤8000)(hT:T.length≤8000)(h0:pos 0=0)(hpos:∀k,pos k≤8000)(hN:Hid (∀k,k<T.length→NxP s (pos k) (T.getD k default).1 (T.getD k default).2.1 (T.getD k default).2.2 (pos (k+1))))(hK:Hid (∀k,k<T.length→(T.getD k default).1≠0))(hE:Hid (NxP s (pos T.length) 0 ⟨#[]⟩ s.size s.size)):Calls Tryz.prog 127 #[.string s] w (AllP T w):=by
 obtain⟨i0,hi,hz0,hz1,hz2⟩:=info_parts infoTk
 have HPOS:=Lib.hid hpos
 have HH0:=Lib.hid h0
 have h1:¬(8000:Int)<(s.size:Int):=by omega
 have HT8:=Lib.hid hT
 clear hpos h0 hT
 go_enter Tryz.func127,Tryz.ntmps127
 go_wp2_with fail
 go_loopw [5,6] (fun v5 v6 wr=>∃(k:Nat) (a:Option Addr) (c:Nat),k≤T.length∧v5= .slice a k c∧v6= .int .i64 (pos k:Nat)∧w.Grows wr∧Hid (wr.ownsRow w.heap.size 197 3 (.slice a k c) k (tkV (T.take k)))) (fun v5 _ _=>T.length-slLen v5)
 case atStart=>exact⟨0,none,0,by omega,rfl,by rw [HH0.out];rfl,.refl _,Lib.hid (World.ownsRow_nil _ _ _ _)⟩
 case round=>
  obtain⟨k,a,c,hk,rfl,rfl,hg,HR⟩:=hrel
  have HG:=Lib.hid hg
  by_cases hlt:k<T.length
  ·have HNX:=Lib.hid (hN.out k hlt)
   have hkn:=hK.out k hlt
   have HTK:Hid (tkV (T.take (k+1))=tkV (T.take k)++tkC (T.getD k default)):=Lib.hid (by
    rw [List.take_succ_eq_append_getElem hlt,tkV_app]
    congr 1
    rw [List.getD_eq_getElem?_getD,List.getElem?_eq_getElem hlt]
    show List.flatMap tkC [_]=_
    simp)
   obtain⟨⟨kd,tx,ta⟩,ht⟩:∃t,T.getD k default=t:=⟨_,rfl⟩
   rw [ht]at HNX hkn HTK
   dsimp only at HNX hkn
   have hk0:(kd==0)=false:=by simpa using hkn
   have HLT:=Lib.hid hlt
   have HOW:=Lib.hid (fun W (hgW:wr.Grows W)=>own_growT HR.out hgW)
   obtain⟨nx,hnx⟩:∃n,pos (k+1)=n:=⟨_,rfl⟩
   rw [hnx]at HNX
   have HNXE:=Lib.hid hnx
   unfold NxP at HNX
   clear ht hkn hlt hk hnx hg
   go_wp2_with (first
    |(go_at_call 163;refine(HNX.out _).mono ?_;rintro e' w' ⟨rfl,bs,d,rfl⟩)
    |(at_builtin;refine wpList_append_lies _ rfl _ _ 155 rfl w.heap.size 197 i0 _ 3 32 Tryz.underlying155 hi hz0 hz1 hz2 rfl (by decide) (.slice a k c) k (tkV (T.take k)) rfl (HOW.out _ growsR) ⟨_,0,none⟩ 1 1 [.int .i64 kd,.string tx,.int .i64 (ta:Nat)] rfl rfl (news_cells _ [.int .i64 kd,.string tx,.int .i64 (ta:Nat)] _ _ (by simp)) (by intro u hu;simp at hu;rcases hu with rfl|rfl|rfl<;>rfl) (by decide) ?c3 ?c4 ?c5 _ rfl ?_))
   case c3=>have:=HLT.out;have:=HT8.out;unfold maxLen;omega
   case c4=>have:=HLT.out;have:=HT8.out;omega
   case c5=>have:=HG.out.below.size;simp;omega
   intro g' cap' w1 hown' hgrow hat hlt'
   have hg1:w.Grows w1:=World.Grows.grown (World.Grows.trans' HG.out growsR) hgrow (fun j hj=>by have:=(HR.out.lt j hj).1;simpa using this)
   have HG1:=Lib.hid hg1
   have HR1:=Lib.hid hown'
   clear hown' hgrow hat hlt' hg1
   go_wp2_with fail
   go_roundw
   case rel=>exact⟨k+1,some ⟨g',0,none⟩,cap',HLT.out,rfl,by rw [HNXE.out],HG1.out,Lib.hid (by rw [HTK.out];exact HR1.out)⟩
   case measure=>simp [slLen];have:=HLT.out;omega
  ·obtain rfl:k=T.length:=by omega
   have HNX:=Lib.hid hE.out
   unfold NxP at HNX
   clear hg
   go_wp2_with (go_at_call 163;refine(HNX.out _).mono ?_;rintro e' w' ⟨rfl,bs,d,rfl⟩)
   go_returns
   exact⟨_,rfl,World.Grows.trans' HG.out growsR,by have h9:=HR.out;rw [List.take_length]at h9;exact own_growT h9 growsR⟩
theorem heap_newT(w:World)(o:Obj)(k:Nat)(h:k=w.heap.size):(w.alloc o).heap[k]? =some o:=by subst h;exact heap_alloc_new _ _
def BegP(T:List Tk)(n:Nat)(w:World)(e:Ending)(w':World):Prop:=∃v g,e= .returned (.tuple #[.pointer (some ⟨g,0,none⟩),.int .i64 0,.int .i64 0])∧w.Grows w'∧w.heap.size≤g∧w'.heap[g]? =some (.cells #[v,.int .i64 0,.int .i64 n,.bool false] 157 (0,0))∧w'.ownsRow w.heap.size 197 3 v T.length (tkV T)∧v.ownBlock≠some g
theorem begin_any(s:ByteArray)(T:List Tk)(w:World)(hs:s.size≤8000)(HA:Hid (∀w,Calls Tryz.prog 127 #[.string s] w (AllP T w))):Calls Tryz.prog 80 #[.string s] w (BegP T s.size w):=by
 go_enter Tryz.func80,Tryz.ntmps80
 go_wp2_with (go_at_call 127;refine(HA.out _).mono ?_;rintro e' w' ⟨v,rfl,⟨bs,d,rfl⟩,hown⟩;have HO:=Lib.hid hown;obtain⟨a,c,rfl⟩:=own_formT hown;clear hown)
 go_returns
 exact⟨.slice a T.length c,_,rfl,growsR,by simp,heap_newT _ _ _ (by simp),own_growT HO.out growsR,fun e=>by have:=(HO.out.lt _ e).2;simp at this⟩
def TkAt(w:World)(a:Option Addr)(T:List Tk):Prop:=T.length≤8000∧∃b,a=some ⟨b,0,none⟩∧b<w.heap.size∧∀k,k<T.length→w.cell? ⟨b,k*3,none⟩=some (.int .i64 (T.getD k default).1)∧w.cell? ⟨b,k*3+1,none⟩=some (.string (T.getD k default).2.1)∧w.cell? ⟨b,k*3+2,none⟩=some (.int .i64 ((T.getD k default).2.2:Nat))
structure RdAt(T:List Tk)(g:Nat)(a:Option Addr)(c n p:Nat)(w:World):Prop where
 rd:w.heap[g]? =some (.cells #[.slice a T.length c,.int .i64 p,.int .i64 n,.bool false] 157 (0,0))
 tk:TkAt w a T
 ne:∀b,a=some ⟨b,0,none⟩→b≠g
theorem RdAt.lt{T:List Tk}{g c n p:Nat}{a:Option Addr}{w:World}(h:RdAt T g a c n p w):g<w.heap.size:=(Array.getElem?_eq_some_iff.1 h.rd).1
theorem RdAt.keep{T:List Tk}{g c n p:Nat}{a:Option Addr}{w w':World}(h:RdAt T g a c n p w)(hsz:w.heap.size≤w'.heap.size)(hw:∀k,k<w.heap.size→w'.heap[k]? =w.heap[k]?):RdAt T g a c n p w':=by
 obtain⟨h0,b,rfl,hb,hc⟩:=h.tk
 refine⟨(hw g h.lt).trans h.rd,⟨h0,b,rfl,Nat.lt_of_lt_of_le hb hsz,fun k hk=>?_⟩,h.ne⟩
 obtain⟨e0,e1,e2⟩:=hc k hk
 exact⟨(World.cell?_of_block (hw b hb)).trans e0,(World.cell?_of_block (hw b hb)).trans e1,(World.cell?_of_block (hw b hb)).trans e2⟩
theorem RdAt.grows{T:List Tk}{g c n p:Nat}{a:Option Addr}{w w':World}(h:RdAt T g a c n p w)(hg:w.Grows w'):RdAt T g a c n p w':=h.keep hg.below.size fun k hk=>hg.below.block k hk
def isB(T:List Tk)(p:Nat)(s:ByteArray):Bool:=decide (p<T.length)&&((T.getD p default).2.1.toList==s.toList)
def kindB(T:List Tk)(p:Nat)(k:Int):Bool:=decide (p<T.length)&&((T.getD p default).1==k)
theorem is_any(T:List Tk)(g c n p:Nat)(a:Option Addr)(s:ByteArray)(w:World)(h:RdAt T g a c n p w):Calls Tryz.prog 164 #[.pointer (some ⟨g,0,none⟩),.string s] w fun e w'=>e= .returned (.bool (isB T p s))∧w.Grows w':=by
 have c0:=cell_of_row w g 0 _ _ _ h.rd
 have c1:=cell_of_row w g 1 _ _ _ h.rd
 have c3:=cell_of_row w g 3 _ _ _ h.rd
 have hg:=h.lt
 obtain⟨h8,b,rfl,hb,hc⟩:=h.tk
 by_cases hp:p<T.length
 ·obtain⟨-,e1,-⟩:=hc p hp
  have hp1:(p:Int)<(T.length:Int):=by omega
  have HF:Hid (isB T p s=((T.getD p default).2.1.toList==s.toList)):=Lib.hid (by unfold isB;rw [decide_eq_true hp,Bool.true_and])
  generalize(T.getD p default).2.1=tx at *
  rw [HF.out]
  clear hc h HF
  cases hq:tx.toList==s.toList
  all_goals
   go_enter Tryz.func164,Tryz.ntmps164
   exact fz47
 ·have HF:Hid (isB T p s=false):=Lib.hid (by unfold isB;rw [decide_eq_false hp,Bool.false_and])
  have hp1:¬(p:Int)<(T.length:Int):=by omega
  rw [HF.out]
  clear hc h HF
  go_enter Tryz.func164,Tryz.ntmps164
  exact fz47
theorem kind_any(T:List Tk)(g c n p:Nat)(a:Option Addr)(k:Int)(w:World)(h:RdAt T g a c n p w):Calls Tryz.prog 166 #[.pointer (some ⟨g,0,none⟩),.int .i64 k] w fun e w'=>e= .returned (.bool (kindB T p k))∧w.Grows w':=by
 have c0:=cell_of_row w g 0 _ _ _ h.rd
 have c1:=cell_of_row w g 1 _ _ _ h.rd
 have c3:=cell_of_row w g 3 _ _ _ h.rd
 have hg:=h.lt
 obtain⟨h8,b,rfl,hb,hc⟩:=h.tk
 by_cases hp:p<T.length
 ·obtain⟨e1,-,-⟩:=hc p hp
  have hp1:(p:Int)<(T.length:Int):=by omega
  have HF:Hid (kindB T p k=((T.getD p default).1==k)):=Lib.hid (by unfold kindB;rw [decide_eq_true hp,Bool.true_and])
  generalize(T.getD p default).1=tx at *
  rw [HF.out]
  clear hc h HF
  cases hq:tx==k
  all_goals
   go_enter Tryz.func166,Tryz.ntmps166
   exact fz47
 ·have HF:Hid (kindB T p k=false):=Lib.hid (by unfold kindB;rw [decide_eq_false hp,Bool.false_and])
  have hp1:¬(p:Int)<(T.length:Int):=by omega
  rw [HF.out]
  clear hc h HF
  go_enter Tryz.func166,Tryz.ntmps166
  exact fz47
def Kp(B g:Nat)(w w':World):Prop:=Below B w w'∧w.heap.size≤w'.heap.size∧∀k,k<w.heap.size→k≠g→w'.heap[k]? =w.heap[k]?
theorem Kp.refl(B g:Nat)(w:World):Kp B g w w:=⟨Below.refl _ _,Nat.le_refl _,fun _ _ _=>rfl⟩
theorem Kp.grows{B g:Nat}{w w1 w2:World}(h:Kp B g w w1)(hB:B≤w.heap.size)(hg:w1.Grows w2):Kp B g w w2:=by
 have h3:=hg.below.mono (Nat.le_trans hB h.2.1)
 refine⟨h.1.trans h3,Nat.le_trans h.2.1 hg.below.size,fun k hk hne=>(hg.below.block k (Nat.lt_of_lt_of_le hk h.2.1)).trans (h.2.2 k hk hne)⟩
theorem Kp.trans{B g:Nat}{w w1 w2:World}(h:Kp B g w w1)(h2:Kp B g w1 w2):Kp B g w w2:=
 ⟨h.1.trans h2.1,Nat.le_trans h.2.1 h2.2.1,fun k hk hne=>(h2.2.2 k (Nat.lt_of_lt_of_le hk h.2.1) hne).trans (h.2.2 k hk hne)⟩
theorem RdAt.step{T:List Tk}{g c n p:Nat}{a:Option Addr}{w:World}(h:RdAt T g a c n p w):RdAt T g a c n (p+1) (w.setCell ⟨g,1,none⟩ (.int .i64 ((p:Int)+1))):=by
 obtain⟨h0,b,rfl,hb,hc⟩:=h.tk
 have hne:=h.ne b rfl
 have hw:(w.setCell ⟨g,1,none⟩ (.int .i64 ((p:Int)+1))).heap[b]? =w.heap[b]?:=Below.heap_setCell _ _ _ _ hne
 refine⟨?_,⟨h0,b,rfl,by simpa using hb,fun k hk=>?_⟩,h.ne⟩
 ·have:=Joins.block_setCell (i:=1) h.rd (.int .i64 ((p:Int)+1))
  simpa using this
 ·exact fz53
def lvF(op:Int):Int:=if op=21 then 0 else if op=18 then 1 else if op=17 then 2 else if op=5 then 3 else if 11≤op∧op≤16 then 4 else if op=7∨op=8 then 5 else if op=9∨op=10 then 6 else 7
def sgF(op:Int):ByteArray:=if op=7 then⟨#[43]⟩else if op=8 then⟨#[45]⟩else if op=9 then⟨#[42]⟩else if op=10 then⟨#[47]⟩else if op=11 then⟨#[60]⟩else if op=12 then⟨#[60,61]⟩else if op=13 then⟨#[61]⟩else if op=14 then⟨#[60,62]⟩else if op=15 then⟨#[62]⟩else if op=16 then⟨#[62,61]⟩else if op=17 then⟨#[97,110,100]⟩else⟨#[111,114]⟩
theorem level_any(op:Int)(w:World)(h:1≤op∧op≤21):Calls Tryz.prog 133 #[.int .i64 op] w fun e w'=>e= .returned (.int .i64 (lvF op))∧w=w':=by
 rcases(show op=1∨op=2∨op=3∨op=4∨op=5∨op=6∨op=7∨op=8∨op=9∨op=10∨op=11∨op=12∨op=13∨op=14∨op=15∨op=16∨op=17∨op=18∨op=19∨op=20∨op=21 by omega)with rfl|rfl|rfl|rfl|rfl|rfl|rfl|rfl|rfl|rfl|rfl|rfl|rfl|rfl|rfl|rfl|rfl|rfl|rfl|rfl|rfl
 all_goals
  go_enter Tryz.func133,Tryz.ntmps133
  exact fz20
theorem signOf_any(op:Int)(w:World)(h:7≤op∧op≤18):Calls Tryz.prog 171 #[.int .i64 op] w fun e w'=>e= .returned (.string (sgF op))∧w=w':=by
 rcases(show op=7∨op=8∨op=9∨op=10∨op=11∨op=12∨op=13∨op=14∨op=15∨op=16∨op=17∨op=18 by omega)with rfl|rfl|rfl|rfl|rfl|rfl|rfl|rfl|rfl|rfl|rfl|rfl
 all_goals
  go_enter Tryz.func171,Tryz.ntmps171
  exact fz20
def hitB(T:List Tk)(p:Nat)(n:Int)(j:Nat):Bool:=(lvF (7+j)==n)&&isB T p (sgF (7+j))
def BinOk(T:List Tk)(p:Nat)(n r:Int):Prop:=(r=0∧∀j,j<12→hitB T p n j=false)∨∃k:Nat,k<12∧r=7+k∧hitB T p n k=true∧∀j,j<k→hitB T p n j=false
theorem binary_any(T:List Tk)(g c n p:Nat)(a:Option Addr)(lv:Int)(w:World)(h:RdAt T g a c n p w):Calls Tryz.prog 131 #[.pointer (some ⟨g,0,none⟩),.int .i64 lv] w fun e w'=>∃r,e= .returned (.int .i64 r)∧BinOk T p lv r∧w.Grows w':=by
 have HR:=Lib.hid h
 clear h
 go_enter Tryz.func131,Tryz.ntmps131
 go_wp2_with fail
 go_loopw [5] (fun v5 wr=>∃k:Nat,k≤12∧v5= .int .i64 (7+k)∧w.Grows wr∧Hid (∀j,j<k→hitB T p lv j=false)) (fun v5 _=>(19-intOf v5).toNat)
 case atStart=>exact⟨0,by omega,rfl,.refl _,Lib.hid (fun j hj=>by omega)⟩
 case round=>
  obtain⟨k,hk,rfl,hg,HJ⟩:=hrel
  have HG:=Lib.hid hg
  by_cases hk12:k<12
  ·have hk1:(7:Int)+k≤18:=by omega
   have HLV:=Lib.hid (fun W=>level_any (7+k) W (by omega))
   have HSG:=Lib.hid (fun W=>signOf_any (7+k) W (by omega))
   have HIS:=Lib.hid (fun W (hw:w.Grows W)=>is_any T g c n p a (sgF (7+k)) W (HR.out.grows hw))
   have HH:Hid (hitB T p lv k=((lvF (7+k)==lv)&&isB T p (sgF (7+k)))):=Lib.hid rfl
   have HK:=Lib.hid hk12
   generalize sgF (7+k)=sg at *
   generalize lvF (7+k)=l7 at *
   clear hg hk
   cases hl:l7==lv
   ·go_wp2_with (go_at_call 133;refine(HLV.out _).mono ?_;rintro e' w' ⟨rfl,rfl⟩)
    go_roundw
    case rel=>exact⟨k+1,HK.out,by go_num,HG.out,Lib.hid (fun j hj=>by
     by_cases e:j=k
     ·rw [e,HH.out,hl];rfl
     ·exact HJ.out j (by omega))⟩
    case measure=>simp [intOf];omega
   ·cases hb:isB T p sg
    ·rw [hb]at HIS
     go_wp2_with (first
      |(go_at_call 133;refine(HLV.out _).mono ?_;rintro e' w' ⟨rfl,rfl⟩)
      |(go_at_call 171;refine(HSG.out _).mono ?_;rintro e' w' ⟨rfl,rfl⟩)
      |(go_at_call 164;refine(HIS.out _ (World.Grows.trans' HG.out growsR)).mono ?_;rintro e' w' ⟨rfl,bs,d,rfl⟩))
     go_roundw
     case rel=>exact⟨k+1,HK.out,by go_num,World.Grows.trans' HG.out growsR,Lib.hid (fun j hj=>by
      by_cases e:j=k
      ·rw [e,HH.out,hb,Bool.and_false]
      ·exact HJ.out j (by omega))⟩
     case measure=>simp [intOf];omega
    ·rw [hb]at HIS
     go_wp2_with (first
      |(go_at_call 133;refine(HLV.out _).mono ?_;rintro e' w' ⟨rfl,rfl⟩)
      |(go_at_call 171;refine(HSG.out _).mono ?_;rintro e' w' ⟨rfl,rfl⟩)
      |(go_at_call 164;refine(HIS.out _ (World.Grows.trans' HG.out growsR)).mono ?_;rintro e' w' ⟨rfl,bs,d,rfl⟩))
     go_returns
     exact⟨_,rfl,.inr ⟨k,HK.out,rfl,by rw [HH.out,hl,hb];rfl,HJ.out⟩,World.Grows.trans' HG.out growsR⟩
  ·obtain rfl:k=12:=by omega
   clear hg
   go_wp2_with fail
   go_returns
   exact⟨_,rfl,.inl ⟨rfl,HJ.out⟩,HG.out⟩

theorem times2_any(a b:Nat)(w:World)(h1:a<18446744073709551616)(h2:b<18446744073709551616) :
 Calls Tryz.prog 176 #[.int .u64 a,.int .u64 b] w fun e w'=>e= .returned (.agg #[.int .u64 (hiW (a*b)),.int .u64 (loW (a*b))])∧w.Grows w':=by
 have H:Hid (∀w,Calls Tryz.prog 192 #[.int .u64 a,.int .u64 b] w fun e w'=>e= .returned (.tuple #[.int .u64 (hiW (a*b)),.int .u64 (loW (a*b))])∧w'=w):=Tryz.bits_Mul64 a b h1 h2
 generalize a*b=n at *
 go_enter Tryz.func176,Tryz.ntmps176
 go_wp2_with fail
 refine(H.out _).mono ?_
 rintro e w' ⟨rfl,rfl⟩
 clear H
 go_wp2_with fail
 go_returns
 exact⟨rfl,.of_below belB⟩
theorem add64_nat(x y c:Nat)(hc:c≤1)(w:World):(callFunc 193 #[.int .u64 x,.int .u64 y,.int .u64 c]).run Tryz.prog w=
 .ok (.value (.tuple #[.int .u64 (((x+y+c) % 18446744073709551616:Nat):Int),.int .u64 (((x+y+c) / 18446744073709551616:Nat):Int)])) w:=by
 rw [run_callFunc_extern Tryz.func193 (by kernel_rfl) (by kernel_rfl) (by kernel_rfl) (e:=add64Entry) (by kernel_rfl),run_add64 x y c (by omega) (by omega) (by omega) (by omega)]
 simp only [Result.andThen]
 congr 5<;>omega
theorem sub64_nat(x y b:Nat)(hb:b≤1)(w:World):(callFunc 194 #[.int .u64 x,.int .u64 y,.int .u64 b]).run Tryz.prog w=
 .ok (.value (.tuple #[.int .u64 (((x+18446744073709551616-y-b) % 18446744073709551616:Nat):Int),.int .u64 ((if x<y+b then 1 else 0:Nat):Int)])) w:=by
 rw [run_callFunc_extern Tryz.func194 (by kernel_rfl) (by kernel_rfl) (by kernel_rfl) (e:=sub64Entry) (by kernel_rfl),run_sub64 x y b hb]
 rfl
def hiN(n:Nat):Nat:=n / 18446744073709551616
def loN(n:Nat):Nat:=n % 18446744073709551616
theorem add_words(a b:Nat)(h:a+b<340282366920938463463374607431768211456) :
 (loN a+loN b+0) % 18446744073709551616=loN (a+b)∧(loN a+loN b+0) / 18446744073709551616≤1∧(hiN a+hiN b+(loN a+loN b+0) / 18446744073709551616) % 18446744073709551616=hiN (a+b):=by
 unfold loN hiN;omega
theorem sub_words(a b:Nat)(h:b≤a)(ha:a<340282366920938463463374607431768211456) :
 (loN a+18446744073709551616-loN b-0) % 18446744073709551616=loN (a-b)∧(if loN a<loN b+0 then 1 else 0)≤1∧(hiN a+18446744073709551616-hiN b-(if loN a<loN b+0 then 1 else 0)) % 18446744073709551616=hiN (a-b):=by
 unfold loN hiN;split<;>omega
theorem plus2_any(a b:Nat)(w:World)(h:a+b<340282366920938463463374607431768211456) :
 Calls Tryz.prog 178 #[.agg #[.int .u64 (hiW a),.int .u64 (loW a)],.agg #[.int .u64 (hiW b),.int .u64 (loW b)]] w fun e w'=>e= .returned (.agg #[.int .u64 (hiW (a+b)),.int .u64 (loW (a+b))])∧w.Grows w':=by
 obtain⟨e1,e2,e3⟩:=add_words a b h
 obtain⟨c,hc⟩:∃c,(loN a+loN b+0) / 18446744073709551616=c:=⟨_,rfl⟩
 have ha:∀w,(callFunc 193 #[.int .u64 (loW a),.int .u64 (loW b),.int .u64 0]).run Tryz.prog w= .ok (.value (.tuple #[.int .u64 (loW (a+b)),.int .u64 (c:Int)])) w:=by
  intro w;have:=add64_nat (loN a) (loN b) 0 (by omega) w;rw [e1,hc]at this;exact this
 have hb:∀w,(callFunc 193 #[.int .u64 (hiW a),.int .u64 (hiW b),.int .u64 (c:Int)]).run Tryz.prog w= .ok (.value (.tuple #[.int .u64 (hiW (a+b)),.int .u64 ((hiN a+hiN b+c) / 18446744073709551616:Nat)])) w:=by
  intro w;have:=add64_nat (hiN a) (hiN b) c (by omega) w;rw [←hc,e3,hc]at this;exact this
 generalize(((hiN a+hiN b+c) / 18446744073709551616:Nat):Int)=z at *
 generalize(c:Int)=c' at *
 clear e1 e2 e3 hc h
 generalize hiW a=A at *
 generalize hiW b=B at *
 generalize loW a=La at *
 generalize loW b=Lb at *
 generalize hiW (a+b)=S at *
 generalize loW (a+b)=T at *
 go_enter Tryz.func178,Tryz.ntmps178
 go_wp2_with fail
 go_returns
 exact⟨rfl,.of_below belB⟩
theorem minus2_any(a b:Nat)(w:World)(h:b≤a)(h2:a<340282366920938463463374607431768211456) :
 Calls Tryz.prog 180 #[.agg #[.int .u64 (hiW a),.int .u64 (loW a)],.agg #[.int .u64 (hiW b),.int .u64 (loW b)]] w fun e w'=>e= .returned (.agg #[.int .u64 (hiW (a-b)),.int .u64 (loW (a-b))])∧w.Grows w':=by
 obtain⟨e1,e2,e3⟩:=sub_words a b h h2
 obtain⟨c,hc⟩:∃c,(if loN a<loN b+0 then 1 else 0)=c:=⟨_,rfl⟩
 have ha:∀w,(callFunc 194 #[.int .u64 (loW a),.int .u64 (loW b),.int .u64 0]).run Tryz.prog w= .ok (.value (.tuple #[.int .u64 (loW (a-b)),.int .u64 (c:Int)])) w:=by
  intro w;have:=sub64_nat (loN a) (loN b) 0 (by omega) w;rw [e1,hc]at this;exact this
 have hb:∀w,(callFunc 194 #[.int .u64 (hiW a),.int .u64 (hiW b),.int .u64 (c:Int)]).run Tryz.prog w= .ok (.value (.tuple #[.int .u64 (hiW (a-b)),.int .u64 ((if hiN a<hiN b+c then 1 else 0:Nat):Int)])) w:=by
  intro w;have:=sub64_nat (hiN a) (hiN b) c (by omega) w;rw [←hc,e3,hc]at this;exact this
 generalize((if hiN a<hiN b+c then 1 else 0:Nat):Int)=z at *
 generalize(c:Int)=c' at *
 clear e1 e2 e3 hc h h2
 generalize hiW a=A at *
 generalize hiW b=B at *
 generalize loW a=La at *
 generalize loW b=Lb at *
 generalize hiW (a-b)=S at *
 generalize loW (a-b)=T at *
 go_enter Tryz.func180,Tryz.ntmps180
 go_wp2_with fail
 go_returns
 exact⟨rfl,.of_below belB⟩
theorem hi_minus(a b:Nat)(h:b≤a)(ha:a<340282366920938463463374607431768211456):IntKind.u64.wrap (IntKind.u64.wrap (hiW a-hiW b)-((if loN a<loN b+0 then 1 else 0:Nat):Int))=hiW (a-b):=by
 simp only [IntKind.wrap_u64]
 unfold hiW loN
 split<;>omega
theorem minus1_any(a b:Nat)(w:World)(h:b≤a)(h2:a<340282366920938463463374607431768211456) :
 Calls Tryz.prog 159 #[.agg #[.int .u64 (hiW a),.int .u64 (loW a)],.agg #[.int .u64 (hiW b),.int .u64 (loW b)]] w fun e w'=>e= .returned (.agg #[.int .u64 (hiW (a-b)),.int .u64 (loW (a-b))])∧w.Grows w':=by
 have hp:=hi_minus a b h h2
 obtain⟨e1,e2,e3⟩:=sub_words a b h h2
 obtain⟨c,hc⟩:∃c,(if loN a<loN b+0 then 1 else 0)=c:=⟨_,rfl⟩
 have ha:∀w,(callFunc 194 #[.int .u64 (loW a),.int .u64 (loW b),.int .u64 0]).run Tryz.prog w= .ok (.value (.tuple #[.int .u64 (loW (a-b)),.int .u64 (c:Int)])) w:=by
  intro w;have:=sub64_nat (loN a) (loN b) 0 (by omega) w;rw [e1,hc]at this;exact this
 rw [hc]at hp
 generalize(c:Int)=c' at *
 clear e1 e2 e3 hc h h2
 generalize hiW a=A at *
 generalize hiW b=B at *
 generalize loW a=La at *
 generalize loW b=Lb at *
 generalize hiW (a-b)=S at *
 generalize loW (a-b)=T at *
 go_enter Tryz.func159,Tryz.ntmps159
 go_wp2_with fail
 go_returns
 exact⟨rfl,.of_below belB⟩
def wless(ah al bh bl:Int):Bool:=decide (ah<bh) || ((ah==bh)&&decide (al<bl))
theorem wless_nat(a b:Nat):wless (hiW a) (loW a) (hiW b) (loW b)=decide (a<b):=by
 unfold wless
 rw [Bool.eq_iff_iff]
 simp only [Bool.or_eq_true,Bool.and_eq_true,decide_eq_true_eq,beq_iff_eq]
 unfold hiW loW
 omega
theorem less1_any(ah al bh bl:Int)(w:World) :
 Calls Tryz.prog 158 #[.agg #[.int .u64 ah,.int .u64 al],.agg #[.int .u64 bh,.int .u64 bl]] w fun e w'=>e= .returned (.bool (wless ah al bh bl))∧w.Grows w':=by
 by_cases c1:ah<bh
 ·go_enter Tryz.func158,Tryz.ntmps158
  go_wp2_with fail
  go_returns
  exact⟨ret_bool (by simp [wless,c1]),.of_below belB⟩
 ·by_cases c2:ah=bh
  ·subst c2
   go_enter Tryz.func158,Tryz.ntmps158
   go_wp2_with fail
   go_returns
   exact⟨ret_bool (by simp [wless]),.of_below belB⟩
  ·have c3:(ah==bh)=false:=by simpa using c2
   go_enter Tryz.func158,Tryz.ntmps158
   go_wp2_with fail
   go_returns
   exact⟨ret_bool (by simp [wless,c1,c3]),.of_below belB⟩
theorem less2_any(ah al bh bl:Int)(w:World) :
 Calls Tryz.prog 179 #[.agg #[.int .u64 ah,.int .u64 al],.agg #[.int .u64 bh,.int .u64 bl]] w fun e w'=>e= .returned (.bool (wless ah al bh bl))∧w.Grows w':=by
 by_cases c1:ah<bh
 ·go_enter Tryz.func179,Tryz.ntmps179
  go_wp2_with fail
  go_returns
  exact⟨ret_bool (by simp [wless,c1]),.of_below belB⟩
 ·by_cases c2:ah=bh
  ·subst c2
   go_enter Tryz.func179,Tryz.ntmps179
   go_wp2_with fail
   go_returns
   exact⟨ret_bool (by simp [wless]),.of_below belB⟩
  ·have c3:(ah==bh)=false:=by simpa using c2
   go_enter Tryz.func179,Tryz.ntmps179
   go_wp2_with fail
   go_returns
   exact⟨ret_bool (by simp [wless,c1,c3]),.of_below belB⟩
theorem over2_core(H L d q r Q:Int)(w:World)(a1:(d==0)=false)(a2:1≤d)(h0:0≤H)
 (a3:IntKind.u64.wrap (H.tdiv d)=Q)
 (HD:Hid (∀w,Calls Tryz.prog 189 #[.int .u64 (H % d),.int .u64 L,.int .u64 d] w fun e w'=>e= .returned (.tuple #[.int .u64 q,.int .u64 r])∧w.Grows w')) :
 Calls Tryz.prog 184 #[.agg #[.int .u64 H,.int .u64 L],.int .u64 d] w fun e w'=>e= .returned (.agg #[.int .u64 Q,.int .u64 q])∧w.Grows w':=by
 go_enter Tryz.func184,Tryz.ntmps184
 go_wp2_with fail
 go_region
 go_wp2_with fail
 refine(HD.out _).mono ?_
 rintro e w' ⟨rfl,bs,dr,rfl⟩
 clear HD
 go_wp2_with fail
 go_returns
 exact⟨rfl,.of_below belB⟩
theorem over2_any(n d:Nat)(w:World)(h1:n<340282366920938463463374607431768211456)(h2:d<18446744073709551616)(h0:0<d) :
 Calls Tryz.prog 184 #[.agg #[.int .u64 (hiW n),.int .u64 (loW n)],.int .u64 d] w fun e w'=>e= .returned (.agg #[.int .u64 (hiW (n / d)),.int .u64 (loW (n / d))])∧w.Grows w':=by
 obtain⟨e1,e2,e3⟩:=over_nat n d h0 h2
 have hh:=hiW_bd n h1
 refine over2_core _ _ _ _ (remI n d) _ w (by simp;omega) (by omega) hh.1 ?_ ?_
 ·have:(hiW n).tdiv d=((n / 18446744073709551616 / d:Nat):Int):=by
   rw [Int.tdiv_eq_ediv_of_nonneg hh.1];unfold hiW;simp
  rw [this,←e1]
  have h3:n / d≤n:=Nat.div_le_self _ _
  unfold hiW
  generalize n / d=m at *
  exact IntWalk.u64_in _ (by omega)
 ·intro w
  have:=Div64_any (n / 18446744073709551616 % d) (n % 18446744073709551616) d w (Nat.mod_lt _ h0) (Nat.mod_lt _ (by omega)) h2
  rw [←e2,←e3]at this
  simpa [hiW,loW,remI]using this
theorem rem_core(H L d q r:Int)(w:World)(a1:(d==0)=false)(a2:1≤d)(h0:0≤H)
 (HD:Hid (∀w,Calls Tryz.prog 189 #[.int .u64 (H % d),.int .u64 L,.int .u64 d] w fun e w'=>e= .returned (.tuple #[.int .u64 q,.int .u64 r])∧w.Grows w')) :
 Calls Tryz.prog 182 #[.int .u64 H,.int .u64 L,.int .u64 d] w fun e w'=>e= .returned (.int .u64 r)∧w.Grows w':=by
 go_enter Tryz.func182,Tryz.ntmps182
 go_wp2_with fail
 refine(HD.out _).mono ?_
 rintro e w' ⟨rfl,bs,dr,rfl⟩
 clear HD
 go_wp2_with fail
 go_returns
 exact⟨rfl,.of_below belB⟩
theorem Rem64_any(n d:Nat)(w:World)(h1:n<340282366920938463463374607431768211456)(h2:d<18446744073709551616)(h0:0<d) :
 Calls Tryz.prog 182 #[.int .u64 (hiW n),.int .u64 (loW n),.int .u64 d] w fun e w'=>e= .returned (.int .u64 (remI n d))∧w.Grows w':=by
 obtain⟨e1,e2,e3⟩:=over_nat n d h0 h2
 have hh:=hiW_bd n h1
 refine rem_core _ _ _ (loW (n / d)) _ w (by simp;omega) (by omega) hh.1 ?_
 intro w
 have:=Div64_any (n / 18446744073709551616 % d) (n % 18446744073709551616) d w (Nat.mod_lt _ h0) (Nat.mod_lt _ (by omega)) h2
 rw [←e2,←e3]at this
 simpa [hiW,loW,remI]using this
def witV(neg:Bool)(h l k d:Int):Value:=if(h !=0)=true∨1000000000000000<l∨(k !=0)=true∨1000000000<d then .tuple #[.agg #[.int .i64 0,.int .i64 0],.int .i64 2]else .tuple #[.agg #[.int .i64 (if neg then -l else l),.int .i64 d],.int .i64 0]
theorem within2_any(neg:Bool)(h l k d:Int)(w:World)(hl0:0≤l)(hd0:0≤d) :
 Calls Tryz.prog 183 #[.bool neg,.agg #[.int .u64 h,.int .u64 l],.agg #[.int .u64 k,.int .u64 d]] w fun e w'=>e= .returned (witV neg h l k d)∧w.Grows w':=by
 by_cases c1:(h !=0)=true
 ·go_enter Tryz.func183,Tryz.ntmps183
  go_wp2_with fail
  go_returns
  exact⟨by rw [witV,if_pos (.inl c1)],.of_below belB⟩
 ·have c1':(h !=0)=false:=by simpa using c1
  by_cases c2:(1000000000000000:Int)<l
  ·clear c1
   go_enter Tryz.func183,Tryz.ntmps183
   go_wp2_with fail
   go_returns
   exact⟨by rw [witV,if_pos (.inr (.inl c2))],.of_below belB⟩
  ·have c2':decide ((1000000000000000:Int)<l)=false:=by simpa using c2
   by_cases c3:(k !=0)=true
   ·clear c1
    go_enter Tryz.func183,Tryz.ntmps183
    go_wp2_with fail
    go_returns
    exact⟨by rw [witV,if_pos (.inr (.inr (.inl c3)))],.of_below belB⟩
   ·have c3':(k !=0)=false:=by simpa using c3
    by_cases c4:(1000000000:Int)<d
    ·clear c1 c3
     go_enter Tryz.func183,Tryz.ntmps183
     go_wp2_with fail
     go_returns
     exact⟨by rw [witV,if_pos (.inr (.inr (.inr c4)))],.of_below belB⟩
    ·have c4':decide ((1000000000:Int)<d)=false:=by simpa using c4
     have Hn:=Lib.hid (show ¬((h !=0)=true∨1000000000000000<l∨(k !=0)=true∨1000000000<d)by
      rintro(x|x|x|x)
      ·exact c1 x
      ·exact c2 x
      ·exact c3 x
      ·exact c4 x)
     clear c1 c3
     cases neg
     ·go_enter Tryz.func183,Tryz.ntmps183
      go_wp2_with fail
      go_returns
      exact⟨by rw [witV,if_neg Hn.out];rfl,.of_below belB⟩
     ·go_enter Tryz.func183,Tryz.ntmps183
      go_wp2_with fail
      go_returns
      exact⟨by rw [witV,if_neg Hn.out];rfl,.of_below belB⟩
def frV(r:Int × Int × Int):Value:=.tuple #[.agg #[.int .i64 r.1,.int .i64 r.2.1],.int .i64 r.2.2]
theorem Neg1_any(n d:Int)(w:World)(h1:-9223372036854775808≤n)(h2:n≤9223372036854775807)(h3:-9223372036854775808≤d)(h4:d≤9223372036854775807) :
 Calls Tryz.prog 112 #[.agg #[.int .i64 n,.int .i64 d]] w fun e w'=>e= .returned (frV (negF n d))∧w.Grows w':=by
 have hv:=Lib.hid (fun w=>Valid1_any n d w h1 h2 h3 h4)
 generalize hx:vfrac n d=b at *
 cases b
 focus
  have HR:=Lib.hid (show negF n d=(0,0,1)by unfold negF;rw [hx];rfl)
 rotate_left
 focus
  have HR:=Lib.hid (show negF n d=(-n,d,0)by unfold negF;rw [hx];rfl)
  obtain⟨k1,k2,k3,k4⟩:=vfrac_bd hx
 rotate_left
 all_goals
  clear hx
  go_enter Tryz.func112,Tryz.ntmps112
  go_wp2_with fail
  refine(hv.out _).mono ?_
  rintro e w' ⟨rfl,bs,dr,rfl⟩
  clear hv
  go_wp2_with fail
  go_returns
  exact⟨by rw [HR.out];rfl,.of_below belB⟩
theorem Neg2_any(n d:Int)(w:World)(h1:-9223372036854775808≤n)(h2:n≤9223372036854775807)(h3:-9223372036854775808≤d)(h4:d≤9223372036854775807) :
 Calls Tryz.prog 137 #[.agg #[.int .i64 n,.int .i64 d]] w fun e w'=>e= .returned (frV (negF n d))∧w.Grows w':=by
 have hv:=Lib.hid (fun w=>Valid2_any n d w h1 h2 h3 h4)
 generalize hx:vfrac n d=b at *
 cases b
 focus
  have HR:=Lib.hid (show negF n d=(0,0,1)by unfold negF;rw [hx];rfl)
 rotate_left
 focus
  have HR:=Lib.hid (show negF n d=(-n,d,0)by unfold negF;rw [hx];rfl)
  obtain⟨k1,k2,k3,k4⟩:=vfrac_bd hx
 rotate_left
 all_goals
  clear hx
  go_enter Tryz.func137,Tryz.ntmps137
  go_wp2_with fail
  refine(hv.out _).mono ?_
  rintro e w' ⟨rfl,bs,dr,rfl⟩
  clear hv
  go_wp2_with fail
  go_returns
  exact⟨by rw [HR.out];rfl,.of_below belB⟩
theorem gcdI_nat(a b:Nat):gcdI a b=(Nat.gcd a b:Nat):=by unfold gcdI;simp
theorem frV_wit(b:Bool)(p q:Nat):witV b (hiW p) (loW p) (hiW q) (loW q)=frV (if 1000000000000000<p∨1000000000<q then(0,0,2)else(if b then -(p:Int)else p,q,0)):=by
 unfold witV hiW loW
 by_cases c:1000000000000000<p∨1000000000<q
 ·rw [if_pos c,if_pos (by
   by_cases ha:p / 18446744073709551616=0
   ·by_cases hb:q / 18446744073709551616=0
    ·omega
    ·right;right;left;simp;omega
   ·left;simp;omega)]
  rfl
 ·have ha:p / 18446744073709551616=0:=by omega
  have hb:q / 18446744073709551616=0:=by omega
  have hc:p % 18446744073709551616=p:=by omega
  have hd:q % 18446744073709551616=q:=by omega
  rw [if_neg c,if_neg (by rw [ha,hb,hc,hd];simp;omega),hc,hd]
  rfl
theorem quo_u64{a g:Int}(h0:0≤a)(h1:a<18446744073709551616)(hg:1≤g):IntKind.u64.wrap (a.tdiv g)=a / g:=by
 rw [Int.tdiv_eq_ediv_of_nonneg h0]
 have h2:=Int.ediv_nonneg h0 (show 0≤g by omega)
 have h3:a / g≤a:=Int.ediv_le_self g h0
 exact IntWalk.u64_in _ (by omega)
theorem quotient2_core(neg:Bool)(a b c d g h H L K M n1 n2 n3:Int)(w:World)(g0:(g==0)=false)(h0:(h==0)=false)(g1:1≤g)(hh1:1≤h)
 (a0:0≤a) (b0:0≤b) (c0:0≤c) (d0:0≤d) (a1:a<18446744073709551616) (b1:b<18446744073709551616) (c1:c<18446744073709551616) (d1:d<18446744073709551616)
 (G1:Hid (∀w,Calls Tryz.prog 181 #[.int .u64 a,.int .u64 d] w fun e w'=>e= .returned (.int .u64 g)∧w.Grows w'))
 (G2:Hid (∀w,Calls Tryz.prog 181 #[.int .u64 c,.int .u64 b] w fun e w'=>e= .returned (.int .u64 h)∧w.Grows w'))
 (T1:Hid (∀w,Calls Tryz.prog 176 #[.int .u64 (a / g),.int .u64 (c / h)] w fun e w'=>e= .returned (.agg #[.int .u64 H,.int .u64 L])∧w.Grows w'))
 (T2:Hid (∀w,Calls Tryz.prog 176 #[.int .u64 (b / h),.int .u64 (d / g)] w fun e w'=>e= .returned (.agg #[.int .u64 K,.int .u64 M])∧w.Grows w'))
 (W:Hid (∀w,Calls Tryz.prog 183 #[.bool neg,.agg #[.int .u64 H,.int .u64 L],.agg #[.int .u64 K,.int .u64 M]] w fun e w'=>e= .returned (.tuple #[.agg #[.int .i64 n1,.int .i64 n2],.int .i64 n3])∧w.Grows w')) :
 Calls Tryz.prog 185 #[.bool neg,.int .u64 a,.int .u64 b,.int .u64 c,.int .u64 d] w fun e w'=>e= .returned (.tuple #[.agg #[.int .i64 n1,.int .i64 n2],.int .i64 n3])∧w.Grows w':=by
 go_enter Tryz.func185,Tryz.ntmps185
 go_wp2_with (first|(go_at_call 181;(with_reducible refine(G1.out _).mono ?_);rintro e w' ⟨rfl,bs,dr,rfl⟩;clear G1)|(go_at_call 181;(with_reducible refine(G2.out _).mono ?_);rintro e w' ⟨rfl,bs2,dr2,rfl⟩;clear G2))
 have gz:¬g=0:=by omega
 have hz:¬h=0:=by omega
 refine TG.begin 19 (fun _=>True) (by kernel_rfl) (by kernel_rfl) trivial (fun hS=>?_)
 refine TG.tkB 0 hS ?_
 refine TG.tkB 1 hS ?_
 refine TG.tkB 2 hS ?_
 refine TG.takeV (i:=3) (v:=.int .u64 (a / g)) rfl (by kernel_rfl) (by kernel_rfl) (by kernel_rfl) (by decide) (fun _ _ _ h=>h) rfl hS ?_ ?_
 focus
  intro wS hSw
  go_simp
  exact quo_u64 a0 a1 g1
 (try simp only [nS])
 refine TG.tkB 4 hS ?_
 refine TG.tkB 5 hS ?_
 refine TG.takeV (i:=6) (v:=.int .u64 (c / h)) rfl (by kernel_rfl) (by kernel_rfl) (by kernel_rfl) (by decide) (fun _ _ _ h=>h) rfl hS ?_ ?_
 focus
  intro wS hSw
  go_simp
  exact quo_u64 c0 c1 hh1
 (try simp only [nS])
 refine TG.tkB 8 hS ?_
 refine TG.tkB 9 hS ?_
 refine TG.takeV (i:=10) (v:=.int .u64 (b / h)) rfl (by kernel_rfl) (by kernel_rfl) (by kernel_rfl) (by decide) (fun _ _ _ h=>h) rfl hS ?_ ?_
 focus
  intro wS hSw
  go_simp
  exact quo_u64 b0 b1 hh1
 (try simp only [nS])
 refine TG.tkB 11 hS ?_
 refine TG.tkB 12 hS ?_
 refine TG.takeV (i:=13) (v:=.int .u64 (d / g)) rfl (by kernel_rfl) (by kernel_rfl) (by kernel_rfl) (by decide) (fun _ _ _ h=>h) rfl hS ?_ ?_
 focus
  intro wS hSw
  go_simp
  exact quo_u64 d0 d1 g1
 (try simp only [nS])
 refine TG.one (i:=7) (by kernel_rfl) rfl (fun K1 hK1=>?_)
 go_simp
 go_at_call 176
 refine(T1.out _).mono ?_
 rintro e' wA ⟨rfl,b7,d7,rfl⟩
 refine TG.go hK1 trivial (fun hS=>?_)
 clear hK1 K1 T1
 (try simp only [nS])
 refine TG.one (i:=14) (by kernel_rfl) rfl (fun K1 hK1=>?_)
 go_simp
 go_at_call 176
 refine(T2.out _).mono ?_
 rintro e' wA ⟨rfl,b8,d8,rfl⟩
 refine TG.go hK1 trivial (fun hS=>?_)
 clear hK1 K1 T2
 (try simp only [nS])
 refine TG.one (i:=15) (by kernel_rfl) rfl (fun K1 hK1=>?_)
 go_simp
 go_at_call 183
 refine(W.out _).mono ?_
 rintro e' wA ⟨rfl,b9,d9,rfl⟩
 refine TG.go hK1 trivial (fun hS=>?_)
 clear hK1 K1 W
 (try simp only [nS])
 refine TG.tkB 16 hS ?_
 refine TG.tkB 17 hS ?_
 refine TG.one (i:=18) (by kernel_rfl) rfl (fun K1 hK1=>?_)
 go_simp
 refine TG.go hK1 trivial (fun hS=>?_)
 clear hK1 K1
 (try simp only [nS])
 refine TG.one (i:=19) (by kernel_rfl) rfl (fun K1 hK1=>?_)
 go_simp
 refine hK1 _ _ (fun h=>absurd rfl h) (TG.done (by kernel_rfl) ?_)
 clear hK1 K1 hS
 (try simp only [nS])
 go_wp2_with fail
 go_returns
 exact⟨rfl,.of_below belB⟩
theorem prdX_comm(d m k n:Nat):d / Nat.gcd m d*(k / Nat.gcd n k)=prdX d m k n:=by
 unfold prdX;rw [Nat.gcd_comm m d,Nat.gcd_comm n k]
theorem ediv_nat(a b:Nat):(a:Int) / (b:Int)=((a / b:Nat):Int):=by simp
theorem quotient2_any(neg:Bool)(n d m k:Nat)(w:World)(h1:n<18446744073709551616)(h2:d<18446744073709551616)(h3:m<18446744073709551616)(h4:k<18446744073709551616)(hd:0<d)(hk:0<k) :
 Calls Tryz.prog 185 #[.bool neg,.int .u64 n,.int .u64 d,.int .u64 m,.int .u64 k] w fun e w'=>e= .returned (frV (prdF neg n d m k))∧w.Grows w':=by
 have g1:0<Nat.gcd n k:=Nat.gcd_pos_of_pos_right _ hk
 have g2:0<Nat.gcd m d:=Nat.gcd_pos_of_pos_right _ hd
 have b1:n / Nat.gcd n k≤n:=Nat.div_le_self _ _
 have b2:m / Nat.gcd m d≤m:=Nat.div_le_self _ _
 have b3:d / Nat.gcd m d≤d:=Nat.div_le_self _ _
 have b4:k / Nat.gcd n k≤k:=Nat.div_le_self _ _
 refine quotient2_core neg n d m k (Nat.gcd n k:Nat) (Nat.gcd m d:Nat) (hiW (prdX n k m d)) (loW (prdX n k m d)) (hiW (prdX d m k n)) (loW (prdX d m k n)) _ _ _ w
  (by simp;omega) (by simp;omega) (by omega) (by omega) (by omega) (by omega) (by omega) (by omega) (by omega) (by omega) (by omega) (by omega)
  (fun w=>?_) (fun w=>?_) (fun w=>?_) (fun w=>?_) (fun w=>?_)
 ·have:=gcd2_any n k w (by omega) (by omega) (by omega) (by omega)
  rw [gcdI_nat]at this
  exact Calls.quietD this
 ·have:=gcd2_any m d w (by omega) (by omega) (by omega) (by omega)
  rw [gcdI_nat]at this
  exact Calls.quietD this
 ·rw [ediv_nat,ediv_nat]
  exact times2_any _ _ w (by omega) (by omega)
 ·rw [ediv_nat,ediv_nat,←prdX_comm]
  exact times2_any _ _ w (by omega) (by omega)
 ·have:=within2_any neg (hiW (prdX n k m d)) (loW (prdX n k m d)) (hiW (prdX d m k n)) (loW (prdX d m k n)) w (loW_bd _).1 (loW_bd _).1
  rw [frV_wit]at this
  exact this
end Go.Proofs.YtfoefpoaomepbaaGreatDoor
namespace Go.Proofs.YtfoefpoaomepbaaGreatDoor
def fdig(d:Int):Nat→Int→Option (List Int)
 |0,r=>if r≤0 then some []else none
 |f+1,r=>if r≤0 then some []else(fdig d f (r*10 % d)).map fun l=>r*10 / d::l
def partD:List Int→Int
 | []=>0
 |x::r=>x*10 ^ r.length+partD r
theorem fdig_some{d:Int}(hd:1≤d):∀(f:Nat) (r:Int) (l:List Int),0≤r→fdig d f r=some l→partD l*d=r*10 ^ l.length∧l.length≤f
 |0,r,l,h0,h=>by
  unfold fdig at h
  split at h<;>cases h
  have:r=0:=by omega
  subst this;simp [partD]
 |f+1,r,l,h0,h=>by
  unfold fdig at h
  split at h<;>rename_i hc
  ·cases h
   have:r=0:=by omega
   subst this;simp [partD]
  ·obtain⟨q,hq,rfl⟩:=Option.map_eq_some_iff.1 h
   obtain⟨h1,h2⟩:=fdig_some hd f _ q (Int.emod_nonneg _ (by omega)) hq
   refine⟨?_,by simpa using h2⟩
   have e:=Int.mul_ediv_add_emod (r*10) d
   simp only [partD,List.length_cons]
   rw [Int.add_mul,h1,Int.pow_succ]
   generalize(10:Int) ^ q.length=t at *
   have e2:r*(t*10)=(d*(r*10 / d)+r*10 % d)*t:=by rw [e,Int.mul_comm t 10,Int.mul_assoc]
   rw [e2,Int.add_mul,Int.mul_comm d,Int.mul_right_comm]
theorem fdig_none{d:Int}(hd:1≤d):∀(f:Nat) (r:Int),0≤r→r<d→fdig d f r=none→r*10 ^ f % d≠0
 |0,r,h0,h1,h=>by
  unfold fdig at h
  split at h
  ·cases h
  ·rw [Int.pow_zero,Int.mul_one,Int.emod_eq_of_lt h0 h1];omega
 |f+1,r,h0,h1,h=>by
  unfold fdig at h
  split at h
  ·cases h
  ·have h2:=fdig_none hd f (r*10 % d) (Int.emod_nonneg _ (by omega)) (Int.emod_lt_of_pos _ (by omega)) (by simpa using h)
   intro hc
   apply h2
   rw [Int.pow_succ,Int.mul_comm ((10:Int) ^ f),←Int.mul_assoc]at hc
   rw [Int.mul_emod,Int.emod_emod,←Int.mul_emod]
   exact hc
def redP(p:Int):Nat→Int→Int→Int × Int
 |0,a,b=>(a,b)
 |f+1,a,b=>if a % p=0∧b % p=0 then redP p f (a / p) (b / p)else(a,b)
theorem redP_spec{p:Int}(hp:2≤p):∀(f:Nat) (a b:Int),1≤b→b<p ^ f→
 (redP p f a b).1*b=a*(redP p f a b).2∧¬((redP p f a b).1 % p=0∧(redP p f a b).2 % p=0)∧(redP p f a b).2 ∣ b∧1≤(redP p f a b).2∧
 ∀q:Int,¬(a % q=0∧b % q=0)→¬((redP p f a b).1 % q=0∧(redP p f a b).2 % q=0)
 |0,a,b,h1,h2=>by simp at h2;omega
 |f+1,a,b,h1,h2=>by
  unfold redP
  split<;>rename_i hc
  ·obtain⟨a',ha⟩:=Int.dvd_of_emod_eq_zero hc.1
   obtain⟨b',hb⟩:=Int.dvd_of_emod_eq_zero hc.2
   subst ha hb
   rw [Int.mul_ediv_cancel_left _ (by omega),Int.mul_ediv_cancel_left _ (by omega)]
   have hb1:1≤b':=by
    rcases Int.lt_or_le b' 1 with h|h
    ·have:p*b'≤p*0:=Int.mul_le_mul_of_nonneg_left (by omega) (by omega)
     omega
    ·exact h
   have hb2:b'<p ^ f:=by
    rw [Int.pow_succ,Int.mul_comm _ p]at h2
    exact Int.lt_of_mul_lt_mul_left h2 (by omega)
   obtain⟨e1,e2,e3,e4,e5⟩:=redP_spec hp f a' b' hb1 hb2
   refine⟨?_,e2,Int.dvd_trans e3 (Int.dvd_mul_left p b'),e4,fun q hq=>e5 q fun hc=>hq ?_⟩
   ·rw [Int.mul_left_comm,e1,Int.mul_assoc]
   ·exact⟨Int.emod_eq_zero_of_dvd (Int.dvd_trans (Int.dvd_of_emod_eq_zero hc.1) (Int.dvd_mul_left p a')),Int.emod_eq_zero_of_dvd (Int.dvd_trans (Int.dvd_of_emod_eq_zero hc.2) (Int.dvd_mul_left p b'))⟩
  ·exact⟨rfl,hc,Int.dvd_refl b,h1,fun q hq=>hq⟩
def redD(a b:Int):Int × Int:=redP 5 6 (redP 2 14 a b).1 (redP 2 14 a b).2
theorem two_five{g:Nat}{k:Nat}(h:g ∣ 10 ^ k)(h2:¬2 ∣ g)(h5:¬5 ∣ g):g=1:=by
 have c2:Nat.Coprime g 2:=by
  have hd:Nat.gcd g 2 ∣ 2:=Nat.gcd_dvd_right _ _
  have hg:Nat.gcd g 2 ∣ g:=Nat.gcd_dvd_left _ _
  have hle:=Nat.le_of_dvd (by omega) hd
  have:Nat.gcd g 2≠2:=fun e=>h2 (e ▸ hg)
  have h0:Nat.gcd g 2≠0:=fun e=>by rw [e]at hd;omega
  show Nat.gcd g 2=1
  omega
 have c5:Nat.Coprime g 5:=by
  have hd:Nat.gcd g 5 ∣ 5:=Nat.gcd_dvd_right _ _
  have hg:Nat.gcd g 5 ∣ g:=Nat.gcd_dvd_left _ _
  have hle:=Nat.le_of_dvd (by omega) hd
  have:Nat.gcd g 5≠5:=fun e=>h5 (e ▸ hg)
  show Nat.gcd g 5=1
  generalize Nat.gcd g 5=x at *
  obtain rfl|rfl|rfl|rfl|rfl:x=0∨x=1∨x=2∨x=3∨x=4:=by omega
  all_goals first|rfl|(exfalso;revert hd;decide)
 have c10:Nat.Coprime g (10 ^ k):=Nat.Coprime.pow_right k (show Nat.Coprime g (2*5)from Nat.Coprime.mul_right c2 c5)
 exact Nat.Coprime.eq_one_of_dvd c10 h
theorem redD_spec{a:Int}{k:Nat}(hk:k≤4):(redD a (10 ^ k)).1*10 ^ k=a*(redD a (10 ^ k)).2∧(redD a (10 ^ k)).2 ∣ 10 ^ k∧1≤(redD a (10 ^ k)).2∧Nat.Coprime (redD a (10 ^ k)).1.natAbs (redD a (10 ^ k)).2.natAbs:=by
 have hb:(1:Int)≤10 ^ k∧(10:Int) ^ k≤10000:=by
  obtain rfl|rfl|rfl|rfl|rfl:k=0∨k=1∨k=2∨k=3∨k=4:=by omega
  all_goals decide
 obtain⟨e1,e2,e3,e4,e5⟩:=redP_spec (p:=2) (by omega) 14 a (10 ^ k) hb.1 (by rw [show(2:Int) ^ 14=16384 by decide];omega)
 have hle:=Int.le_of_dvd (by omega) e3
 unfold redD
 obtain⟨f1,f2,f3,f4,f5⟩:=redP_spec (p:=5) (by omega) 6 (redP 2 14 a (10 ^ k)).1 (redP 2 14 a (10 ^ k)).2 e4 (by rw [show(5:Int) ^ 6=15625 by decide];omega)
 have f6:=f5 2 e2
 generalize redP 5 6 (redP 2 14 a (10 ^ k)).1 (redP 2 14 a (10 ^ k)).2=z at *
 generalize redP 2 14 a (10 ^ k)=y at *
 have hdv:z.2 ∣ 10 ^ k:=Int.dvd_trans f3 e3
 refine⟨?_,hdv,f4, ?_⟩
 ·have h:z.1*10 ^ k*y.2=a*z.2*y.2:=by
   rw [Int.mul_right_comm,f1,Int.mul_right_comm,e1,Int.mul_right_comm]
  exact Int.eq_of_mul_eq_mul_right (by omega) h
 ·have hg:Nat.gcd z.1.natAbs z.2.natAbs ∣ 10 ^ k:=by
   have h1:z.2.natAbs ∣ 10 ^ k:=by
    have:=Int.natAbs_dvd_natAbs.2 hdv
    rwa [Int.natAbs_pow]at this
   exact Nat.dvd_trans (Nat.gcd_dvd_right _ _) h1
  refine two_five hg (fun h=>f6 ?_) (fun h=>f2 ?_)
  ·exact fz42
  ·exact fz42
theorem cop_eq{an ad bn bd:Int}(h1:1≤ad)(h2:1≤bd)(p:Nat.Coprime an.natAbs ad.natAbs)(q:Nat.Coprime bn.natAbs bd.natAbs)(h:an*bd=bn*ad):an=bn∧ad=bd:=by
 exact fz23
def dec2Ok(n d m:Int):Bool:=
 match fdig d 4 (n % d)with
 |none=>false
 |some l=>decide (n / d≤999999999)&&(decide ((redD (n / d*10 ^ l.length+partD l) (10 ^ l.length)).1=n∧(redD (n / d*10 ^ l.length+partD l) (10 ^ l.length)).2=d)&&decide (2≤m∧m≤4))
theorem dec_law{n d m:Int}(h1:1≤d)(h2:d≤10000)(h3:0≤n)(h4:n≤1000000000000000):dec2Ok n d m=decOk n d m:=by
 have hr0:=Int.emod_nonneg n (show d≠0 by omega)
 have hr1:=Int.emod_lt_of_pos n (show 0<d by omega)
 have hq:=Int.mul_ediv_add_emod n d
 unfold dec2Ok
 cases hf:fdig d 4 (n % d)with
 |none=>
  have:=fdig_none h1 4 _ hr0 hr1 hf
  show false=_
  symm
  rw [Bool.eq_false_iff]
  intro hc
  simp only [decOk,Bool.and_eq_true,decide_eq_true_eq]at hc
  apply this
  have h5:(10000:Int) % d=0:=hc.1.1.1.2
  obtain⟨c,hc⟩:=Int.dvd_of_emod_eq_zero h5
  rw [show(10:Int) ^ 4=10000 by decide,hc,Int.mul_left_comm]
  exact Int.mul_emod_right d _
 |some l=>
  obtain⟨hp,hl⟩:=fdig_some h1 4 _ l hr0 hf
  obtain⟨e1,e2,e3,e4⟩:=redD_spec (a:=n / d*10 ^ l.length+partD l) hl
  have hA:(n / d*10 ^ l.length+partD l)*d=n*10 ^ l.length:=by
   rw [Int.add_mul,hp]
   conv=>rhs;rw [←hq]
   rw [Int.add_mul,Int.mul_comm d,Int.mul_right_comm]
  show(decide (n / d≤999999999)&&_)=_
  generalize redD (n / d*10 ^ l.length+partD l) (10 ^ l.length)=z at *
  rw [Bool.eq_iff_iff]
  simp only [decOk,Bool.and_eq_true,decide_eq_true_eq]
  constructor
  ·rintro⟨a,⟨rfl,rfl⟩,b,c⟩
   refine⟨⟨⟨⟨⟨vfrac_of ⟨by omega,by omega,by omega,by omega⟩ e4,h3⟩, ?_⟩,b⟩,c⟩,a⟩
   refine Int.emod_eq_zero_of_dvd (Int.dvd_trans e2 ?_)
   obtain h|h|h|h|h:l.length=0∨l.length=1∨l.length=2∨l.length=3∨l.length=4:=by omega
   all_goals rw [h];decide
  ·rintro⟨⟨⟨⟨⟨a,-⟩,-⟩,b⟩,c⟩,e⟩
   refine⟨e, ?_,b,c⟩
   have hB:(1:Int)≤10 ^ l.length:=Int.pow_pos (by omega)
   have hx:z.1*d=n*z.2:=by
    have:z.1*d*10 ^ l.length=n*z.2*10 ^ l.length:=by
     rw [Int.mul_right_comm,e1,Int.mul_right_comm,hA,Int.mul_right_comm]
    exact Int.eq_of_mul_eq_mul_right (by omega) this
   exact cop_eq e3 h1 e4 (vfrac_gcd a) hx
theorem decOk_out{n d m:Int}(h:d<1∨10000<d∨n<0∨1000000000000000<n):decOk n d m=false:=by
 rw [Bool.eq_false_iff]
 intro hc
 simp only [decOk,Bool.and_eq_true,decide_eq_true_eq]at hc
 have:=vfrac_bd hc.1.1.1.1.1
 have h5:=Int.le_of_dvd (by omega) (Int.dvd_of_emod_eq_zero hc.1.1.1.2)
 omega
theorem idx_dot:∀(a b:List UInt8),(46:UInt8)∉a→Lib.index (a++46::b) [46]=a.length
 | [],b,_=>by simp [Lib.index,List.isPrefixOf]
 |c::a,b,h=>by
  have h1:(46:UInt8)≠c:=fun e=>h (by simp [e])
  have ih:=idx_dot a b (fun e=>h (by simp [e]))
  simp only [List.cons_append,Lib.index,List.isPrefixOf,ih]
  have h2:((46:UInt8)==c)=false:=by simpa using h1
  rw [h2]
  simp
theorem idx_no:∀(a:List UInt8),(46:UInt8)∉a→Lib.index a [46]= -1
 | [],_=>by simp [Lib.index]
 |c::a,h=>by
  have h1:(46:UInt8)≠c:=fun e=>h (by simp [e])
  have ih:=idx_no a (fun e=>h (by simp [e]))
  simp only [Lib.index,List.isPrefixOf,ih]
  have h2:((46:UInt8)==c)=false:=by simpa using h1
  rw [h2]
  simp
theorem cut_dot(a b:List UInt8)(h:(46:UInt8)∉a):Lib.cut (a++46::b) [46]=(a,b,true):=by
 unfold Lib.cut
 rw [idx_dot a b h,if_pos (by omega)]
 simp
theorem cut_no(a:List UInt8)(h:(46:UInt8)∉a):Lib.cut a [46]=(a,[],false):=by
 unfold Lib.cut
 rw [idx_no a h,if_neg (by omega)]
def natG:Int→List UInt8→Option Int
 |x,[]=>some x
 |x,c::r=>if digc (c.toNat:Int)=true then natG (10*x+((c.toNat:Int)-48)) r else none
theorem natG_append:∀(a b:List UInt8) (x:Int),natG x (a++b)=(natG x a).bind fun y=>natG y b
 | [],b,x=>rfl
 |c::a,b,x=>by
  simp only [List.cons_append,natG]
  split
  ·exact natG_append a b _
  ·rfl
def dgB(x:Int):UInt8:=UInt8.ofNat (48+x.toNat)
theorem dgB_toNat{x:Int}(h0:0≤x)(h1:x≤9):((dgB x).toNat:Int)=48+x:=by
 unfold dgB
 rw [UInt8.toNat_ofNat']
 omega
theorem natG_one(x y:Int)(h0:0≤y)(h1:y≤9):natG x [dgB y]=some (10*x+y):=by
 have e:=dgB_toNat h0 h1
 simp only [natG]
 rw [e,if_pos (by simp [digc];omega)]
 congr 1
 omega
theorem natG_digs:∀(l:List Int) (x:Int),(∀y∈l,0≤y∧y≤9)→natG x (l.map dgB)=some (x*10 ^ l.length+partD l)
 | [],x,_=>by simp [natG,partD]
 |y::l,x,h=>by
  have hy:=h y (by simp)
  have ih:=natG_digs l (10*x+y) (fun z hz=>h z (by simp [hz]))
  have e:=natG_append [dgB y] (l.map dgB) x
  rw [natG_one x y hy.1 hy.2]at e
  simp only [List.map_cons]
  rw [show dgB y::l.map dgB= [dgB y]++l.map dgB from rfl,e]
  simp only [Option.bind_some]
  rw [ih]
  congr 1
  simp only [List.length_cons,partD,Int.pow_succ]
  rw [Int.add_mul,Int.mul_comm 10 x,Int.mul_assoc,Int.mul_comm 10]
  omega
theorem natG_dec(u:Nat):∀x:Int,natG x (Lib.decDigits u)=some (x*10 ^ Lib.nDigits u+u):=by
 induction u using Nat.strongRecOn with
 |_ u ih=>
  intro x
  rw [Lib.decDigits]
  by_cases h:u<10
  ·rw [dif_pos h,Lib.nDigits_small h]
   have:=natG_one x u (by omega) (by omega)
   unfold dgB at this
   rw [Int.toNat_natCast]at this
   rw [this]
   congr 1
   omega
  ·rw [dif_neg h,natG_append,ih (u / 10) (by omega),Lib.nDigits_big h]
   simp only [Option.bind_some]
   have:=natG_one (x*10 ^ Lib.nDigits (u / 10)+(u / 10:Nat)) ((u % 10:Nat):Int) (by omega) (by omega)
   unfold dgB at this
   rw [Int.toNat_natCast]at this
   rw [this]
   congr 1
   rw [Int.pow_succ,Int.mul_add,←Int.mul_assoc,Int.mul_comm 10 x,Int.mul_assoc,Int.mul_comm 10 (10 ^ _)]
   omega
theorem dec_digs(u:Nat):∀c∈Lib.decDigits u,48≤c.toNat∧c.toNat≤57:=by
 induction u using Nat.strongRecOn with
 |_ u ih=>
  intro c hc
  rw [Lib.decDigits]at hc
  by_cases h:u<10
  ·rw [dif_pos h]at hc
   simp only [List.mem_singleton]at hc
   subst hc
   rw [UInt8.toNat_ofNat']
   omega
  ·rw [dif_neg h]at hc
   rcases List.mem_append.1 hc with hc|hc
   ·exact ih (u / 10) (by omega) c hc
   ·simp only [List.mem_singleton]at hc
    subst hc
    rw [UInt8.toNat_ofNat']
    omega
theorem dec_head(u:Nat)(h:1≤u):∃c r,Lib.decDigits u=c::r∧c.toNat≠48:=by
 induction u using Nat.strongRecOn with
 |_ u ih=>
  rw [Lib.decDigits]
  by_cases h2:u<10
  ·rw [dif_pos h2]
   exact⟨_,_,rfl,by rw [UInt8.toNat_ofNat'];omega⟩
  ·rw [dif_neg h2]
   obtain⟨c,r,e,hc⟩:=ih (u / 10) (by omega) (by omega)
   rw [e]
   exact⟨c,_,rfl,hc⟩
def stripM(s:List UInt8):List UInt8 × Int:=if s.getLast? =some 100 then(s.dropLast,3)else if s.getLast? =some 109 then(s.dropLast,4)else(s,2)
def decForm(a b:List UInt8)(pt:Bool):Bool:=decide (1≤a.length)&&decide (a.length≤9)&&!(decide (1<a.length)&&decide (a.head? =some 48))&&!(pt&&(decide (b.length<1) || decide (4<b.length)))
def decP(a b:List UInt8)(pt:Bool)(m:Int):Option (Int × Int × Int):=
 if decForm a b pt=true then(natG 0 a).bind fun x=>(natG 0 b).map fun p=>((redD (x*10 ^ b.length+p) (10 ^ b.length)).1,(redD (x*10 ^ b.length+p) (10 ^ b.length)).2,m)else none
def decF(s:List UInt8):Option (Int × Int × Int):=decP (Lib.cut (stripM s).1 [46]).1 (Lib.cut (stripM s).1 [46]).2.1 (Lib.cut (stripM s).1 [46]).2.2 (stripM s).2
def dotL(l:List Int):List UInt8:=if l= []then []else 46::l.map dgB
def sufL(m:Int):List UInt8:=if m=3 then [100]else if m=4 then [109]else []
def sufM(m:Int):Int:=if m=3 then 3 else if m=4 then 4 else 2
theorem getLast_digs{s:List UInt8}(h0:s≠[])(h:∀c∈s,48≤c.toNat∧c.toNat≤57∨c=46):s.getLast?≠some 100∧s.getLast?≠some 109:=by
 have e:=List.getLast?_eq_some_getLast h0
 have hc:=h _ (List.getLast_mem h0)
 rw [e]
 constructor
 ·exact fz69
 ·exact fz69
theorem strip_suf{s:List UInt8}(h0:s≠[])(h:∀c∈s,48≤c.toNat∧c.toNat≤57∨c=46)(m:Int):stripM (s++sufL m)=(s,sufM m):=by
 obtain⟨h1,h2⟩:=getLast_digs h0 h
 unfold stripM sufL sufM
 by_cases c3:m=3
 ·subst c3
  rw [if_pos rfl,if_pos rfl]
  simp
 ·by_cases c4:m=4
  ·subst c4
   simp
  ·rw [if_neg c3,if_neg c4,if_neg c3,if_neg c4,List.append_nil,if_neg h1,if_neg h2]
theorem dgB_rng{x:Int}(h0:0≤x)(h1:x≤9):48≤(dgB x).toNat∧(dgB x).toNat≤57:=by have:=dgB_toNat h0 h1;omega
theorem body_chars{q:Nat}{l:List Int}(hl:∀y∈l,0≤y∧y≤9):∀c∈Lib.decDigits q++dotL l,48≤c.toNat∧c.toNat≤57∨c=46:=by
 intro c hc
 rcases List.mem_append.1 hc with hc|hc
 ·exact .inl (dec_digs q c hc)
 ·unfold dotL at hc
  split at hc
  ·cases hc
  ·rcases List.mem_cons.1 hc with hc|hc
   ·exact .inr hc
   ·obtain⟨y,hy,rfl⟩:=List.mem_map.1 hc
    have:=hl y hy
    exact .inl (dgB_rng this.1 this.2)
theorem nDigits_nine(q:Nat):Lib.nDigits q≤9↔q≤999999999:=by
 constructor
 ·intro h
  have h1:=Lib.lt_pow_nDigits q
  have h2:10 ^ Lib.nDigits q≤10 ^ 9:=Nat.pow_le_pow_right (by omega) h
  have h3:(10:Nat) ^ 9=1000000000:=by decide
  omega
 ·intro h
  by_cases h9:Lib.nDigits q≤9
  ·exact h9
  ·exfalso
   obtain⟨k,hk⟩:∃k,Lib.nDigits q=k+1:=⟨Lib.nDigits q-1,by have:=Lib.nDigits_pos q;omega⟩
   have hlow:∀(u:Nat) (k:Nat),Lib.nDigits u=k+2→10 ^ (k+1)≤u:=by
    intro u
    induction u using Nat.strongRecOn with
    |_ u ih=>
     intro k hk
     by_cases hs:u<10
     ·rw [Lib.nDigits_small hs]at hk;omega
     ·rw [Lib.nDigits_big hs]at hk
      cases k with
      |zero=>omega
      |succ k=>
       have:=ih (u / 10) (by omega) k (by omega)
       rw [Nat.pow_succ];omega
   have:=hlow q (Lib.nDigits q-2) (by omega)
   have h2:10 ^ 9≤10 ^ (Lib.nDigits q-2+1):=Nat.pow_le_pow_right (by omega) (by omega)
   have h3:(10:Nat) ^ 9=1000000000:=by decide
   omega
theorem dec_no_dot(q:Nat):(46:UInt8)∉Lib.decDigits q:=fun h=>by
 have:=dec_digs q _ h
 revert this;decide
theorem cut_body(q:Nat)(l:List Int):Lib.cut (Lib.decDigits q++dotL l) [46]=(Lib.decDigits q,l.map dgB,decide (l≠[])):=by
 unfold dotL
 by_cases h:l= []
 ·subst h
  rw [if_pos rfl,List.append_nil,cut_no _ (dec_no_dot q)]
  simp
 ·rw [if_neg h,cut_dot _ _ (dec_no_dot q)]
  simp [h]
theorem form_body(q:Nat)(l:List Int)(hn:l.length≤4):decForm (Lib.decDigits q) (l.map dgB) (decide (l≠[]))=decide (q≤999999999):=by
 unfold decForm
 rw [Lib.decDigits_length]
 have h1:=Lib.nDigits_pos q
 have h9:=nDigits_nine q
 have e3:(decide (1<Lib.nDigits q)&&decide ((Lib.decDigits q).head? =some 48))=false:=by
  rw [Bool.and_eq_false_iff]
  by_cases c:1<Lib.nDigits q
  ·right
   have hq:1≤q:=by
    rcases Nat.eq_zero_or_pos q with rfl|h
    ·rw [Lib.nDigits_small (by omega)]at c;omega
    ·exact h
   obtain⟨x,r,e,hx⟩:=dec_head q hq
   rw [e]
   simp only [List.head?_cons,Option.some.injEq,decide_eq_false_iff_not]
   intro k
   rw [k]at hx
   exact hx (by decide)
  ·left;simpa using c
 have e4:(decide (l≠[])&&(decide ((l.map dgB).length<1) || decide (4<(l.map dgB).length)))=false:=by
  rw [List.length_map]
  cases l with
  |nil=>rfl
  |cons a r=>simp at hn ⊢;omega
 have e9:decide (Lib.nDigits q≤9)=decide (q≤999999999):=decide_eq_decide.2 h9
 rw [e3,e4,decide_eq_true (show 1≤Lib.nDigits q from h1),e9]
 simp
theorem decF_text{q:Nat}{l:List Int}(hl:∀y∈l,0≤y∧y≤9)(hn:l.length≤4)(m:Int):decF (Lib.decDigits q++dotL l++sufL m)=
 if q≤999999999 then some ((redD (q*10 ^ l.length+partD l) (10 ^ l.length)).1,(redD (q*10 ^ l.length+partD l) (10 ^ l.length)).2,sufM m)else none:=by
 have h0:Lib.decDigits q++dotL l≠[]:=by
  have k1:=Lib.decDigits_length q
  have k2:=Lib.nDigits_pos q
  intro h
  rw [List.append_eq_nil_iff]at h
  rw [h.1]at k1
  simp at k1
  omega
 unfold decF
 rw [strip_suf h0 (body_chars hl) m]
 simp only [cut_body,decP,form_body q l hn,decide_eq_true_eq]
 have e1:=natG_dec q 0
 have e2:=natG_digs l 0 hl
 rw [Int.zero_mul,Int.zero_add]at e1 e2
 rw [e1,e2]
 simp
theorem fdig_digs{d:Int}(hd:1≤d):∀(f:Nat) (r:Int) (l:List Int),0≤r→r<d→fdig d f r=some l→∀y∈l,0≤y∧y≤9
 |0,r,l,_,_,h=>by
  unfold fdig at h
  split at h<;>cases h
  intro y hy;cases hy
 |f+1,r,l,h0,h1,h=>by
  unfold fdig at h
  split at h<;>rename_i hc
  ·cases h
   intro y hy;cases hy
  ·obtain⟨q,hq,rfl⟩:=Option.map_eq_some_iff.1 h
   intro y hy
   rcases List.mem_cons.1 hy with rfl|hy
   ·constructor
    ·exact Int.ediv_nonneg (by omega) (by omega)
    ·have:r*10 / d<10:=Int.ediv_lt_of_lt_mul (by omega) (by omega)
     omega
   ·exact fdig_digs hd f _ q (Int.emod_nonneg _ (by omega)) (Int.emod_lt_of_pos _ (by omega)) hq y hy
def dec2T(n d m:Int):List UInt8:=match fdig d 4 (n % d)with|some l=>Lib.decDigits (n / d).toNat++dotL l++sufL m|none=>[]
theorem dec2_read{n d m:Int}{l:List Int}(h1:1≤d)(h2:d≤10000)(h3:0≤n)(h4:n≤1000000000000000)(hf:fdig d 4 (n % d)=some l) :
 (decF (Lib.decDigits (n / d).toNat++dotL l++sufL m)=some (n,d,m))↔decOk n d m=true:=by
 have hr0:=Int.emod_nonneg n (show d≠0 by omega)
 have hr1:=Int.emod_lt_of_pos n (show 0<d by omega)
 have hq0:0≤n / d:=Int.ediv_nonneg h3 (by omega)
 obtain⟨-,hn⟩:=fdig_some h1 4 _ l hr0 hf
 rw [decF_text (fdig_digs h1 4 _ l hr0 hr1 hf) hn m,←dec_law h1 h2 h3 h4]
 unfold dec2Ok
 rw [hf]
 have e:(((n / d).toNat:Nat):Int)=n / d:=by omega
 rw [e]
 simp only [Bool.and_eq_true,decide_eq_true_eq]
 have hm:sufM m=m↔2≤m∧m≤4:=by
  unfold sufM
  split
  ·omega
  ·split<;>omega
 constructor
 ·intro h
  split at h<;>rename_i hc
  ·simp only [Option.some.injEq,Prod.mk.injEq]at h
   exact⟨by omega,⟨h.1,h.2.1⟩,hm.1 h.2.2⟩
  ·cases h
 ·rintro⟨a,⟨b,c⟩,k⟩
  rw [if_pos (by omega),b,c,hm.2 k]
theorem dec2_none{n d m:Int}(h1:1≤d)(h2:d≤10000)(h3:0≤n)(h4:n≤1000000000000000)(hf:fdig d 4 (n % d)=none):decOk n d m=false:=by
 rw [←dec_law h1 h2 h3 h4]
 unfold dec2Ok
 rw [hf]
end Go.Proofs.YtfoefpoaomepbaaGreatDoor
namespace Go.Proofs.YtfoefpoaomepbaaGreatDoor
open Go.RowKit
def bfrom(s:ByteArray)(k:Nat):List UInt8:=s.data.toList.drop k
theorem bfrom_step{s:ByteArray}{k:Nat}(h:k<s.size):bfrom s k=s[k]::bfrom s (k+1):=by
 unfold bfrom
 have h2:k<s.data.toList.length:=by simpa using h
 rw [List.drop_eq_getElem_cons h2]
 congr 1
theorem bfrom_end{s:ByteArray}{k:Nat}(h:s.size≤k):bfrom s k= []:=by
 unfold bfrom
 exact List.drop_eq_nil_of_le (by simpa using h)
def natV(r:Option Int):Value:=match r with|some x=>.tuple #[.int .i64 x,.bool true]|none=>.tuple #[.int .i64 0,.bool false]
theorem natG_bd:∀(l:List UInt8) (x y:Int),0≤x→natG x l=some y→x≤y∧y≤(x+1)*10 ^ l.length-1
 | [],x,y,h0,h=>by simp [natG]at h;subst h;simp
 |c::r,x,y,h0,h=>by
  simp only [natG]at h
  split at h
  ·rename_i hd
   simp only [digc,Bool.and_eq_true,decide_eq_true_eq]at hd
   have ih:=natG_bd r _ y (by omega) h
   refine⟨by omega,Int.le_trans ih.2 ?_⟩
   have hp:(0:Int)<10 ^ r.length:=Int.pow_pos (by omega)
   have e:(x+1)*10 ^ (c::r).length=((x+1)*10)*10 ^ r.length:=by rw [List.length_cons,Int.pow_succ,Int.mul_comm (10 ^ r.length) 10,Int.mul_assoc]
   rw [e]
   have:=Int.mul_le_mul_of_nonneg_right (show 10*x+((c.toNat:Int)-48)+1≤(x+1)*10 by omega) (Int.le_of_lt hp)
   omega
  ·cases h
theorem natural2_any(s:ByteArray)(w:World)(hs:s.size≤9):Calls Tryz.prog 204 #[.string s] w fun e w'=>e= .returned (natV (natG 0 s.data.toList))∧w=w':=by
 have h00:s.data.toList=bfrom s 0:=rfl
 rw [h00]
 clear h00
 go_enter Tryz.func204,Tryz.ntmps204
 go_wp2
 go_loop [2,4] (fun v2 v4=>∃k:Nat,∃x:Int,k≤s.size∧v4= .int .i64 k∧v2= .int .i64 x∧0≤x∧x<10 ^ k∧Hid (natG x (bfrom s k)=natG 0 (bfrom s 0))) (fun _ v4=>s.size-(intOf v4).toNat)
 case atStart=>exact⟨0,0,Nat.zero_le _,rfl,rfl,by omega,by simp,Lib.hid rfl⟩
 case round=>
  obtain⟨k,x,hk,rfl,rfl,hx0,hx1,hg⟩:=hrel
  have hb:(10:Int) ^ k≤1000000000:=by
   have:=Nat.pow_le_pow_right (show 1≤10 by omega) (show k≤9 by omega)
   have h2:((10 ^ k:Nat):Int)≤((10 ^ 9:Nat):Int):=by exact_mod_cast this
   simpa using h2
  have hx2:x≤1000000000:=by omega
  have HX:=Lib.hid hx1
  clear hx1 hb
  by_cases hk2:k<s.size
  ·have hst:=bfrom_step hk2
   cases hD:digc (s[k].toNat:Int)
   ·have HG:Hid (natG 0 (bfrom s 0)=none):=Lib.hid (by rw [←hg.out,hst];simp only [natG];rw [hD];rfl)
    clear hst hg
    go_wp2_with (go_at_call 213;(with_reducible refine(digit2_any _ _).mono ?_);rintro e w' ⟨rfl,rfl⟩;simp only [hD])
    go_returns
    exact⟨by rw [HG.out];rfl,rfl⟩
   ·have hd:48≤(s[k].toNat:Int)∧(s[k].toNat:Int)≤57:=by simpa [digc]using hD
    have HG:Hid (natG (10*x+((s[k].toNat:Int)-48)) (bfrom s (k+1))=natG 0 (bfrom s 0)):=Lib.hid (by rw [←hg.out,hst];simp only [natG];rw [hD];rfl)
    clear hst hg
    obtain⟨d,hdd⟩:∃d:Int,(s[k].toNat:Int)=d:=⟨_,rfl⟩
    rw [hdd]at hd hD HG
    obtain⟨hd1,hd2⟩:=hd
    have hw:IntKind.u8.wrap (d-48)=d-48:=by simp only [IntKind.wrap_u8];omega
    go_wp2_with (go_at_call 213;(with_reducible refine(digit2_any _ _).mono ?_);rintro e w' ⟨rfl,rfl⟩;simp only [hD,hdd])
    go_round
    case rel=>exact⟨k+1,_,by omega,by go_num,rfl,by omega,by rw [Int.pow_succ];have:=HX.out;omega,HG⟩
    case measure=>simp [intOf];omega
  ·have HG:Hid (natG 0 (bfrom s 0)=some x):=Lib.hid (by rw [←hg.out,bfrom_end (by omega)];rfl)
   clear hg
   obtain rfl:k=s.size:=by omega
   go_wp2_with fail
   go_returns
   exact⟨by rw [HG.out];rfl,rfl⟩

def tlD:Code→Code
 | .seq _ b=>b
 |c=>c
def decFV(r:Option (Int × Int × Int)):Value:=match r with|some t=>.tuple #[.agg #[.int .i64 t.1,.int .i64 t.2.1],.int .i64 t.2.2,.bool true]|none=>.tuple #[.agg #[.int .i64 0,.int .i64 0],.int .i64 0,.bool false]
theorem iter_grow(Y:World)(bs:Array Obj)(d:Nat)(s:ByteArray)(pos:Nat):(Y.grow bs d).iter s pos=Y.grow (bs.push (.stringIter s pos)) d:=by
 simp [World.iter,World.grow,World.alloc]
theorem grow_at(Y:World)(bs:Array Obj)(d j:Nat):(Y.grow bs d).heap[Y.heap.size+j]? =bs[j]?:=by
 simp only [World.grow]
 rw [Array.getElem?_append_right (by omega)]
 congr 1;omega
theorem iterAt_grow(Y:World)(bs:Array Obj)(d j:Nat)(s:ByteArray)(pos:Nat):(Y.grow bs d).iterAt (Y.heap.size+j) s pos=Y.grow (bs.setIfInBounds j (.stringIter s pos)) d:=by
 simp only [World.iterAt,World.grow]
 congr 1
 rw [Array.setIfInBounds_append_right (by omega)]
 congr 2;omega
theorem redP_go{p:Int}{f:Nat}{A B:Int}(h:A % p=0∧B % p=0):redP p (f+1) A B=redP p f (A / p) (B / p):=by rw [redP,if_pos h]
theorem redP_stop{p:Int}{f:Nat}{A B:Int}(h:¬(A % p=0∧B % p=0)):redP p f A B=(A,B):=by
 cases f with
 |zero=>rfl
 |succ f=>rw [redP,if_neg h]
def RedAt(p:Int)(f0:Nat)(A0 B0:Int)(f:Nat)(A B:Int):Prop:=redP p f A B=redP p f0 A0 B0∧B<p ^ f
theorem RedAt.next{p:Int}{f0:Nat}{A0 B0:Int}{f:Nat}{A B:Int}(hp:2≤p)(h:RedAt p f0 A0 B0 f A B)(hB:1≤B)(hm:A % p=0∧B % p=0):∃g,RedAt p f0 A0 B0 g (A / p) (B / p)∧1≤B / p∧B / p<B:=by
 obtain⟨h1,h2⟩:=h
 cases f with
 |zero=>simp at h2;omega
 |succ g=>
  have e:=Int.mul_ediv_add_emod B p
  rw [hm.2,Int.add_zero]at e
  have hq:1≤B / p:=by
   rcases Int.lt_or_le (B / p) 1 with h|h
   ·have:p*(B / p)≤p*0:=Int.mul_le_mul_of_nonneg_left (by omega) (by omega)
    omega
   ·exact h
  refine⟨g,⟨by rw [←h1,redP_go hm], ?_⟩,hq, ?_⟩
  ·rw [Int.pow_succ,←e,Int.mul_comm _ p]at h2
   exact Int.lt_of_mul_lt_mul_left h2 (by omega)
  ·have:2*(B / p)≤p*(B / p):=Int.mul_le_mul_of_nonneg_right hp (by omega)
   omega
theorem idx_two(w:World):(Instr.index 243 (.agg #[.int .i64 2,.int .i64 5]) (.int .i64 0)).run Tryz.prog w= .ok (.int .i64 2) w:=by simp [Instr.index,go_sem]
theorem idx_five(w:World):(Instr.index 243 (.agg #[.int .i64 2,.int .i64 5]) (.int .i64 1)).run Tryz.prog w= .ok (.int .i64 5) w:=by simp [Instr.index,go_sem]
def boxD(w0 wr:World):Nat:=match wr.cell? ⟨w0.heap.size,1,none⟩with|some (.int _ z)=>z.toNat|_=>0
theorem dec_T3(b:ByteArray)(x p m:Int)(w:World)(bs:Array Obj)(d:Nat)(hb:b.size≤4)(hasc:∀i (h:i<b.size),(b[i]'h).toNat<128)(hx0:0≤x)(hx1:x≤1000000000)(hp0:0≤p)(hp1:p≤10000)
 (u0 u1 u4 u5 u6 u8 u10 u12 u13 u14 u15 u16 u17 u18 u19 u20 u21 u22 u23 u24 u25 u26 u27 u28 u29 u30 u31 u32 u33 u34 u35 u36 u37 u38 u39 u40 u41 u42 u43 u44 u45 u46 u47 u48 u49 u50 u51 u52 u53 u54 u55 u56 u57 u58 u59 u60 u61 u62 u63 u64 u65 u66 u67 u68 u69 u70 u71 u72 u73 u74 u75 u76 u77 u78 u79 u80 u81 u82 u83 u84 u85 u86 u87 u88 u89 u90 u91 u92 u93 u94 u95 u96 u97 u98 u99 u100 u101 u102 u103 u104 u105 u106 u107 u108 u109 u110 u111 u112 u113 u114 u115 u116 u117 u118 u119 u120 u121 u122 u123 u124 u125 u126 u127 u128 u129 u130 u131 u132 u133 u134 u135 u136 u137 u138 u139 u140 u141:Value) :
 Code.wp Tryz.prog (tlD (tlD (tlD (tlD (tlD (tlD (tlD (tlD (Tryz.f187.body.getD .skip))))))))) (bodyPost Tryz.prog Tryz.f187 (fun e w'=>e= .returned (decFV (some ((redD (x*10 ^ b.size+p) (10 ^ b.size)).1,(redD (x*10 ^ b.size+p) (10 ^ b.size)).2,m)))∧w.Grows w')) {tmps:=#[u0,u1,.pointer (some ⟨w.heap.size,0,none⟩),.int .i64 m,u4,u5,u6,.string b,u8,.int .i64 x,u10,.int .i64 p,u12,u13,u14,u15,u16,u17,u18,u19,u20,u21,u22,u23,u24,u25,u26,u27,u28,u29,u30,u31,u32,u33,u34,u35,u36,u37,u38,u39,u40,u41,u42,u43,u44,u45,u46,u47,u48,u49,u50,u51,u52,u53,u54,u55,u56,u57,u58,u59,u60,u61,u62,u63,u64,u65,u66,u67,u68,u69,u70,u71,u72,u73,u74,u75,u76,u77,u78,u79,u80,u81,u82,u83,u84,u85,u86,u87,u88,u89,u90,u91,u92,u93,u94,u95,u96,u97,u98,u99,u100,u101,u102,u103,u104,u105,u106,u107,u108,u109,u110,u111,u112,u113,u114,u115,u116,u117,u118,u119,u120,u121,u122,u123,u124,u125,u126,u127,u128,u129,u130,u131,u132,u133,u134,u135,u136,u137,u138,u139,u140,u141],defers:=[]} ((w.alloc (.cells #[.int .i64 0,.int .i64 0] 24)).grow bs d):=by
 conv=>arg 2;whnf
 have HASC:=Lib.hid hasc
 clear hasc
 go_wp2_with fail
 go_loopw [9] (fun v9 wr=>∃k:Nat,∃X E:Int,∃bs' d',k≤b.size∧v9= .int .i64 X∧wr=((w.alloc (.cells #[.int .i64 0,.int .i64 E] 24)).grow bs' d')∧bs'[bs.size]? =some (.stringIter b k)∧Hid (X=x*10 ^ k∧E=10 ^ k)∧0≤X∧X≤10000000000000∧1≤E∧E≤10000) (fun _ wr=>b.size-wr.iterPos (w.heap.size+1+bs.size))
 case atStart=>exact⟨0,x,1,_,_,Nat.zero_le _,rfl,iter_grow _ _ _ _ _,by simp,Lib.hid (by simp),by omega,by omega,by omega,by omega⟩
 case round=>
  obtain⟨k,X,E,bs2,d2,hk,rfl,rfl,hit,HXE,hX0,hX1,hE0,hE1⟩:=hrel
  have hkk:((w.alloc (.cells #[.int .i64 0,.int .i64 E] 24)).grow bs2 d2).heap[w.heap.size+1+bs.size]? =some (.stringIter b k):=by
   have:=grow_at (w.alloc (.cells #[.int .i64 0,.int .i64 E] 24)) bs2 d2 bs.size
   rw [World.size_alloc]at this
   rw [this];exact hit
  by_cases hlt:k<b.size
  ·have hnext:∀ty,(Instr.next (.pointer (some ⟨w.heap.size+1+bs.size,0,none⟩)) true ty).run Tryz.prog ((w.alloc (.cells #[.int .i64 0,.int .i64 E] 24)).grow bs2 d2)=_:=fun ty=>Lib.run_next_ascii_at _ _ b k ty hkk hlt (HASC.out k hlt)
   have hia:=iterAt_grow (w.alloc (.cells #[.int .i64 0,.int .i64 E] 24)) bs2 d2 bs.size b (k+1)
   rw [World.size_alloc]at hia
   rw [hia]at hnext
   have hbl:bs.size<bs2.size:=(Array.getElem?_eq_some_iff.1 hit).1
   have hit2:(bs2.setIfInBounds bs.size (.stringIter b (k+1)))[bs.size]? =some (.stringIter b (k+1)):=by simp [hbl]
   have hpos:((w.alloc (.cells #[.int .i64 0,.int .i64 E] 24)).grow bs2 d2).iterPos (w.heap.size+1+bs.size)=k:=by simp [World.iterPos,hkk]
   generalize bs2.setIfInBounds bs.size (.stringIter b (k+1))=bs3 at hnext hit2
   have hk3:k≤3:=by omega
   have hE3:E≤1000:=by
    have:=HXE.out.2
    obtain h|h|h|h:k=0∨k=1∨k=2∨k=3:=by omega
    all_goals rw [this,h];decide
   have hX3:X≤1000000000000:=by
    have e:=HXE.out.1
    rw [←HXE.out.2]at e
    have h1:x*E≤1000000000*E:=Int.mul_le_mul_of_nonneg_right hx1 (by omega)
    omega
   have w6:IntKind.i64.wrap (10*X)=10*X:=IntWalk.i64_in _ (by omega)
   have w7:IntKind.i64.wrap (10*E)=10*E:=IntWalk.i64_in _ (by omega)
   have HIT:=Lib.hid (And.intro hit2 (And.intro hkk hpos))
   clear hit hit2 hkk hpos hia
   go_wp2_with fail
   clear hnext
   go_region
   go_wp2_with fail
   go_roundw
   case rel=>exact⟨k+1,_,_,_,_,by omega,rfl,rfl,HIT.out.1,Lib.hid ⟨by rw [Int.pow_succ,←Int.mul_assoc,←HXE.out.1,Int.mul_comm],by rw [Int.pow_succ,←HXE.out.2,Int.mul_comm]⟩,by omega,by omega,by omega,by omega⟩
   case measure=>
    have h2:∀dd,((w.alloc (.cells #[.int .i64 0,.int .i64 (10*E)] 24)).grow bs3 dd).heap[w.heap.size+1+bs.size]? =some (.stringIter b (k+1)):=fun dd=>by
     have:=grow_at (w.alloc (.cells #[.int .i64 0,.int .i64 (10*E)] 24)) bs3 dd bs.size
     rw [World.size_alloc,HIT.out.1]at this
     exact this
    have h1:=HIT.out.2.2
    rw [h1]
    simp only [World.iterPos,h2]
    omega
  ·have hnext:∀ty,(Instr.next (.pointer (some ⟨w.heap.size+1+bs.size,0,none⟩)) true ty).run Tryz.prog ((w.alloc (.cells #[.int .i64 0,.int .i64 E] 24)).grow bs2 d2)=_:=fun ty=>Lib.run_next_end_at _ _ b k ty hkk hlt
   obtain rfl:k=b.size:=by omega
   have hN:X+p≤10000000010000:=by omega
   have HXP:=Lib.hid (show X+p=x*10 ^ b.size+p by rw [HXE.out.1])
   have HE:=Lib.hid HXE.out.2
   have h214:E<2 ^ 14:=by rw [show(2:Int) ^ 14=16384 by decide];omega
   clear hkk hit HXE hlt
   go_wp2_with fail
   clear hnext
   go_loopw [114] (fun v114 wr=>∃A B:Int,∃bs' d',wr=((w.alloc (.cells #[.int .i64 A,.int .i64 B] 24)).grow bs' d')∧0≤A∧A≤100000000000000∧1≤B∧B≤10000∧
    ((v114= .int .i64 0∧A=X+p∧B=E)∨(v114= .int .i64 1∧Hid ((A,B)=redP 2 14 (X+p) E))∨(v114= .int .i64 2∧Hid ((A,B)=redD (X+p) E)))) (fun v114 _=>2-(intOf v114).toNat)
   case atStart=>exact⟨_,_,_,_,rfl,by omega,by omega,by omega,by omega,.inl ⟨rfl,rfl,rfl⟩⟩
   case round=>
    obtain⟨A0,B0,bs4,d4,rfl,hA00,hA01,hB00,hB01,hcase⟩:=hrel
    rcases hcase with ⟨rfl,rfl,rfl⟩|⟨rfl,H1⟩|⟨rfl,H2⟩
    ·have idx2:=idx_two
     have idx5:=idx_five
     go_wp2_with fail
     clear idx2 idx5
     go_loopw [117] (fun _ wr=>∃f:Nat,∃A B:Int,∃bs' d',wr=((w.alloc (.cells #[.int .i64 A,.int .i64 B] 24)).grow bs' d')∧Hid (RedAt 2 14 (X+p) B0 f A B)∧0≤A∧A≤100000000000000∧1≤B∧B≤10000) (fun _ wr=>boxD w wr)
     case atStart=>exact⟨14,_,_,_,_,rfl,Lib.hid ⟨rfl,h214⟩,by omega,by omega,by omega,by omega⟩
     case round=>
      obtain⟨f,A,B,bs3,d3,rfl,HRD,hA0,hA1,hB0,hB1⟩:=hrel
      have e0:=Int.tmod_eq_emod_of_nonneg (b:=2) (show 0≤A from hA0)
      have e1:=Int.tmod_eq_emod_of_nonneg (b:=2) (show 0≤B by omega)
      have e2:=Int.tdiv_eq_ediv_of_nonneg (b:=2) (show 0≤A from hA0)
      have e3:=Int.tdiv_eq_ediv_of_nonneg (b:=2) (show 0≤B by omega)
      have E:=Lib.hid (And.intro e0 (And.intro e1 (And.intro e2 e3)))
      by_cases ha:A % 2=0
      ·by_cases hb2:B % 2=0
       ·obtain⟨g,hg1,hg2,hg3⟩:=HRD.out.next (by omega) hB0 ⟨ha,hb2⟩
        have HG:=Lib.hid hg1
        have hq0:0≤A / 2:=by omega
        have hq1:A / 2≤100000000000000:=by omega
        have m0:(A.tmod 2==0)=true:=by rw [e0];simpa using ha
        have m1:(B.tmod 2==0)=true:=by rw [e1];simpa using hb2
        have w2:IntKind.i64.wrap (A.tdiv 2)=A / 2:=by rw [e2];exact IntWalk.i64_in _ (by omega)
        have w3:IntKind.i64.wrap (B.tdiv 2)=B / 2:=by rw [e3];exact IntWalk.i64_in _ (by omega)
        have w4:IntKind.i64.wrap (A.tmod 2)=0:=by rw [e0,ha];rfl
        have w5:IntKind.i64.wrap (B.tmod 2)=0:=by rw [e1,hb2];rfl
        clear hg1
        clear e0 e1 e2 e3
        go_wp2_with fail
        refine TG.begin 11 (fun w'=>w'.cell? ⟨w.heap.size,1,none⟩=some (.int .i64 B)) (by kernel_rfl) (by kernel_rfl) (by simp [go_sem]) (fun hS=>?_)
        refine TG.tkB 0 hS ?_
        refine TG.tkB 2 hS ?_
        refine TG.tkB 4 hS ?_
        refine TG.tkB 6 hS ?_
        refine TG.tkB 5 hS ?_
        refine TG.tkB 7 hS ?_
        refine TG.one (i:=1) (by kernel_rfl) rfl (fun K1 hK1=>?_)
        go_simp
        refine TG.go hK1 ?_ (fun hS=>?_)
        focus
         (try dsimp only)
         simp [go_sem]
        clear hK1 K1
        (try simp only [nS])
        refine TG.tkB 3 hS ?_
        refine TG.tkB 8 hS ?_
        refine TG.one (i:=9) (by kernel_rfl) rfl (fun K1 hK1=>?_)
        go_simp
        refine TG.go hK1 ?_ (fun hS=>?_)
        focus
         (try dsimp only)
         simp [go_sem]
        clear hK1 K1
        (try simp only [nS])
        refine TG.tkB 10 hS ?_
        refine TG.one (i:=11) (by kernel_rfl) rfl (fun K1 hK1=>?_)
        go_simp
        refine hK1 _ _ (fun h=>absurd rfl h) (TG.done (by kernel_rfl) ?_)
        clear hK1 K1 hS
        (try simp only [nS])
        go_wp2_with fail
        go_roundw
        case rel=>exact⟨g,_,_,_,_,rfl,HG,by omega,by omega,by omega,by omega⟩
        case measure=>simp [boxD,go_sem];omega
       ·have HX:=Lib.hid (redP_stop (p:=2) (f:=f) (A:=A) (B:=B) (fun h=>hb2 h.2))
        have m0:(A.tmod 2==0)=true:=by rw [e0];simpa using ha
        have m1:(B.tmod 2==0)=false:=by rw [e1];simpa using hb2
        have w4:IntKind.i64.wrap (A.tmod 2)=0:=by rw [e0,ha];rfl
        have w5:IntKind.i64.wrap (B.tmod 2)=B.tmod 2:=IntWalk.i64_in _ (by rw [e1];omega)
        have hbd:1≤B.tmod 2:=by rw [e1];omega
        clear e0 e1 e2 e3
        have hb3:(B % 2==0)=false:=by simpa using hb2
        go_wp2_with fail
        go_roundw
        case rel=>exact⟨_,_,_,_,rfl,by omega,by omega,by omega,by omega,.inr (.inl ⟨rfl,Lib.hid (by rw [←HRD.out.1,HX.out])⟩)⟩
        case measure=>simp [intOf]
      ·have HX:=Lib.hid (redP_stop (p:=2) (f:=f) (A:=A) (B:=B) (fun h=>ha h.1))
       have m0:(A.tmod 2==0)=false:=by rw [e0];simpa using ha
       have w4:IntKind.i64.wrap (A.tmod 2)=A.tmod 2:=IntWalk.i64_in _ (by rw [e0];omega)
       have hbd:1≤A.tmod 2:=by rw [e0];omega
       clear e0 e1 e2 e3
       have ha3:(A % 2==0)=false:=by simpa using ha
       go_wp2_with fail
       go_roundw
       case rel=>exact⟨_,_,_,_,rfl,by omega,by omega,by omega,by omega,.inr (.inl ⟨rfl,Lib.hid (by rw [←HRD.out.1,HX.out])⟩)⟩
       case measure=>simp [intOf]
    ·have idx2:=idx_two
     have idx5:=idx_five
     go_wp2_with fail
     clear idx2 idx5
     go_loopw [117] (fun _ wr=>∃f:Nat,∃A B:Int,∃bs' d',wr=((w.alloc (.cells #[.int .i64 A,.int .i64 B] 24)).grow bs' d')∧Hid (RedAt 5 6 A0 B0 f A B)∧0≤A∧A≤100000000000000∧1≤B∧B≤10000) (fun _ wr=>boxD w wr)
     case atStart=>exact⟨6,_,_,_,_,rfl,Lib.hid ⟨rfl,(by rw [show(5:Int) ^ 6=15625 by decide];omega)⟩,by omega,by omega,by omega,by omega⟩
     case round=>
      obtain⟨f,A,B,bs3,d3,rfl,HRD,hA0,hA1,hB0,hB1⟩:=hrel
      have e0:=Int.tmod_eq_emod_of_nonneg (b:=5) (show 0≤A from hA0)
      have e1:=Int.tmod_eq_emod_of_nonneg (b:=5) (show 0≤B by omega)
      have e2:=Int.tdiv_eq_ediv_of_nonneg (b:=5) (show 0≤A from hA0)
      have e3:=Int.tdiv_eq_ediv_of_nonneg (b:=5) (show 0≤B by omega)
      have E:=Lib.hid (And.intro e0 (And.intro e1 (And.intro e2 e3)))
      by_cases ha:A % 5=0
      ·by_cases hb2:B % 5=0
       ·obtain⟨g,hg1,hg2,hg3⟩:=HRD.out.next (by omega) hB0 ⟨ha,hb2⟩
        have HG:=Lib.hid hg1
        have hq0:0≤A / 5:=by omega
        have hq1:A / 5≤100000000000000:=by omega
        have m0:(A.tmod 5==0)=true:=by rw [e0];simpa using ha
        have m1:(B.tmod 5==0)=true:=by rw [e1];simpa using hb2
        have w2:IntKind.i64.wrap (A.tdiv 5)=A / 5:=by rw [e2];exact IntWalk.i64_in _ (by omega)
        have w3:IntKind.i64.wrap (B.tdiv 5)=B / 5:=by rw [e3];exact IntWalk.i64_in _ (by omega)
        have w4:IntKind.i64.wrap (A.tmod 5)=0:=by rw [e0,ha];rfl
        have w5:IntKind.i64.wrap (B.tmod 5)=0:=by rw [e1,hb2];rfl
        clear hg1
        clear e0 e1 e2 e3
        go_wp2_with fail
        refine TG.begin 11 (fun w'=>w'.cell? ⟨w.heap.size,1,none⟩=some (.int .i64 B)) (by kernel_rfl) (by kernel_rfl) (by simp [go_sem]) (fun hS=>?_)
        refine TG.tkB 0 hS ?_
        refine TG.tkB 2 hS ?_
        refine TG.tkB 4 hS ?_
        refine TG.tkB 6 hS ?_
        refine TG.tkB 5 hS ?_
        refine TG.tkB 7 hS ?_
        refine TG.one (i:=1) (by kernel_rfl) rfl (fun K1 hK1=>?_)
        go_simp
        refine TG.go hK1 ?_ (fun hS=>?_)
        focus
         (try dsimp only)
         simp [go_sem]
        clear hK1 K1
        (try simp only [nS])
        refine TG.tkB 3 hS ?_
        refine TG.tkB 8 hS ?_
        refine TG.one (i:=9) (by kernel_rfl) rfl (fun K1 hK1=>?_)
        go_simp
        refine TG.go hK1 ?_ (fun hS=>?_)
        focus
         (try dsimp only)
         simp [go_sem]
        clear hK1 K1
        (try simp only [nS])
        refine TG.tkB 10 hS ?_
        refine TG.one (i:=11) (by kernel_rfl) rfl (fun K1 hK1=>?_)
        go_simp
        refine hK1 _ _ (fun h=>absurd rfl h) (TG.done (by kernel_rfl) ?_)
        clear hK1 K1 hS
        (try simp only [nS])
        go_wp2_with fail
        go_roundw
        case rel=>exact⟨g,_,_,_,_,rfl,HG,by omega,by omega,by omega,by omega⟩
        case measure=>simp [boxD,go_sem];omega
       ·have HX:=Lib.hid (redP_stop (p:=5) (f:=f) (A:=A) (B:=B) (fun h=>hb2 h.2))
        have m0:(A.tmod 5==0)=true:=by rw [e0];simpa using ha
        have m1:(B.tmod 5==0)=false:=by rw [e1];simpa using hb2
        have w4:IntKind.i64.wrap (A.tmod 5)=0:=by rw [e0,ha];rfl
        have w5:IntKind.i64.wrap (B.tmod 5)=B.tmod 5:=IntWalk.i64_in _ (by rw [e1];omega)
        have hbd:1≤B.tmod 5:=by rw [e1];omega
        clear e0 e1 e2 e3
        have hb3:(B % 5==0)=false:=by simpa using hb2
        go_wp2_with fail
        go_roundw
        case rel=>exact⟨_,_,_,_,rfl,by omega,by omega,by omega,by omega,.inr (.inr ⟨rfl,Lib.hid (by unfold redD;rw [←H1.out,←HX.out];exact HRD.out.1)⟩)⟩
        case measure=>simp [intOf]
      ·have HX:=Lib.hid (redP_stop (p:=5) (f:=f) (A:=A) (B:=B) (fun h=>ha h.1))
       have m0:(A.tmod 5==0)=false:=by rw [e0];simpa using ha
       have w4:IntKind.i64.wrap (A.tmod 5)=A.tmod 5:=IntWalk.i64_in _ (by rw [e0];omega)
       have hbd:1≤A.tmod 5:=by rw [e0];omega
       clear e0 e1 e2 e3
       have ha3:(A % 5==0)=false:=by simpa using ha
       go_wp2_with fail
       go_roundw
       case rel=>exact⟨_,_,_,_,rfl,by omega,by omega,by omega,by omega,.inr (.inr ⟨rfl,Lib.hid (by unfold redD;rw [←H1.out,←HX.out];exact HRD.out.1)⟩)⟩
       case measure=>simp [intOf]
    ·go_wp2_with fail
     go_returns
     refine⟨?_,.of_below belB⟩
     have e:=H2.out
     rw [HXP.out,HE.out]at e
     rw [←e]
     rfl

theorem natG_ascii:∀(l:List UInt8) (x y:Int),natG x l=some y→∀c∈l,c.toNat<128
 | [],_,_,_,c,hc=>by cases hc
 |e::r,x,y,h,c,hc=>by
  simp only [natG]at h
  split at h
  ·rename_i hd
   rcases List.mem_cons.1 hc with rfl|hc
   ·simp only [digc,Bool.and_eq_true,decide_eq_true_eq]at hd;omega
   ·exact natG_ascii r _ y h c hc
  ·cases h
def decN(a b:ByteArray)(m:Int):Option (Int × Int × Int):=(natG 0 a.data.toList).bind fun x=>(natG 0 b.data.toList).map fun p=>((redD (x*10 ^ b.size+p) (10 ^ b.size)).1,(redD (x*10 ^ b.size+p) (10 ^ b.size)).2,m)
theorem dec_T2(a b:ByteArray)(m:Int)(w:World)(bs:Array Obj)(d:Nat)(ha:a.size≤9)(hb:b.size≤4)
 (u0 u1 u4 u5 u8 u9 u10 u11 u12 u13 u14 u15 u16 u17 u18 u19 u20 u21 u22 u23 u24 u25 u26 u27 u28 u29 u30 u31 u32 u33 u34 u35 u36 u37 u38 u39 u40 u41 u42 u43 u44 u45 u46 u47 u48 u49 u50 u51 u52 u53 u54 u55 u56 u57 u58 u59 u60 u61 u62 u63 u64 u65 u66 u67 u68 u69 u70 u71 u72 u73 u74 u75 u76 u77 u78 u79 u80 u81 u82 u83 u84 u85 u86 u87 u88 u89 u90 u91 u92 u93 u94 u95 u96 u97 u98 u99 u100 u101 u102 u103 u104 u105 u106 u107 u108 u109 u110 u111 u112 u113 u114 u115 u116 u117 u118 u119 u120 u121 u122 u123 u124 u125 u126 u127 u128 u129 u130 u131 u132 u133 u134 u135 u136 u137 u138 u139 u140 u141:Value) :
 Code.wp Tryz.prog (tlD (tlD (tlD (tlD (tlD (Tryz.f187.body.getD .skip)))))) (bodyPost Tryz.prog Tryz.f187 (fun e w'=>e= .returned (decFV (decN a b m))∧w.Grows w')) {tmps:=#[u0,u1,.pointer (some ⟨w.heap.size,0,none⟩),.int .i64 m,u4,u5,.string a,.string b,u8,u9,u10,u11,u12,u13,u14,u15,u16,u17,u18,u19,u20,u21,u22,u23,u24,u25,u26,u27,u28,u29,u30,u31,u32,u33,u34,u35,u36,u37,u38,u39,u40,u41,u42,u43,u44,u45,u46,u47,u48,u49,u50,u51,u52,u53,u54,u55,u56,u57,u58,u59,u60,u61,u62,u63,u64,u65,u66,u67,u68,u69,u70,u71,u72,u73,u74,u75,u76,u77,u78,u79,u80,u81,u82,u83,u84,u85,u86,u87,u88,u89,u90,u91,u92,u93,u94,u95,u96,u97,u98,u99,u100,u101,u102,u103,u104,u105,u106,u107,u108,u109,u110,u111,u112,u113,u114,u115,u116,u117,u118,u119,u120,u121,u122,u123,u124,u125,u126,u127,u128,u129,u130,u131,u132,u133,u134,u135,u136,u137,u138,u139,u140,u141],defers:=[]} ((w.alloc (.cells #[.int .i64 0,.int .i64 0] 24)).grow bs d):=by
 have HA:Hid _:=Lib.hid (fun w=>natural2_any a w (by omega))
 have HB:Hid _:=Lib.hid (fun w=>natural2_any b w (by omega))
 unfold decN
 cases hna:natG 0 a.data.toList with
 |none=>
  rw [hna]at HA
  simp only [natV,Option.bind_none]at HA ⊢
  clear hna
  cases hnb:natG 0 b.data.toList with
  |none=>
   rw [hnb]at HB
   simp only [natV]at HB
   clear hnb
   conv=>arg 2;whnf
   go_wp2_with ((go_at_call 204;first|(with_reducible refine(HA.out _).mono ?_)|(with_reducible refine(HB.out _).mono ?_));rintro e w' ⟨rfl,rfl⟩)
   go_returns
   exact⟨rfl,.of_below belB⟩
  |some p=>
   rw [hnb]at HB
   simp only [natV]at HB
   clear hnb
   conv=>arg 2;whnf
   go_wp2_with ((go_at_call 204;first|(with_reducible refine(HA.out _).mono ?_)|(with_reducible refine(HB.out _).mono ?_));rintro e w' ⟨rfl,rfl⟩)
   go_returns
   exact⟨rfl,.of_below belB⟩
 |some x=>
  have bx:=natG_bd _ 0 x (by omega) hna
  rw [hna]at HA
  simp only [natV,Option.bind_some]at HA ⊢
  clear hna
  cases hnb:natG 0 b.data.toList with
  |none=>
   rw [hnb]at HB
   simp only [natV,Option.map_none]at HB ⊢
   clear hnb
   conv=>arg 2;whnf
   go_wp2_with ((go_at_call 204;first|(with_reducible refine(HA.out _).mono ?_)|(with_reducible refine(HB.out _).mono ?_));rintro e w' ⟨rfl,rfl⟩)
   go_returns
   exact⟨rfl,.of_below belB⟩
  |some p=>
   have bp:=natG_bd _ 0 p (by omega) hnb
   have hasc:=natG_ascii _ _ _ hnb
   have hx:x≤1000000000:=by
    have h1:a.data.toList.length=a.size:=by simp
    rw [h1]at bx
    have h2:=Nat.pow_le_pow_right (show 1≤10 by omega) ha
    have h3:((10 ^ a.size:Nat):Int)≤((10 ^ 9:Nat):Int):=by exact_mod_cast h2
    simp at h3
    omega
   have hp:p≤10000:=by
    have h1:b.data.toList.length=b.size:=by simp
    rw [h1]at bp
    have h2:=Nat.pow_le_pow_right (show 1≤10 by omega) hb
    have h3:((10 ^ b.size:Nat):Int)≤((10 ^ 4:Nat):Int):=by exact_mod_cast h2
    simp at h3
    omega
   have hx0:=bx.1
   have hp0:=bp.1
   rw [hnb]at HB
   simp only [natV,Option.map_some]at HB ⊢
   clear hnb bx bp
   have hasc2:∀i (h:i<b.size),(b[i]'h).toNat<128:=fun i h=>hasc _ (by
    have:b[i]'h=b.data.toList[i]'(by simpa using h):=by simp;rfl
    rw [this];exact List.getElem_mem _)
   have HH:=Lib.hid (And.intro hasc2 (And.intro hx (And.intro hp (And.intro hx0 hp0))))
   clear hasc hasc2 hx hp hx0 hp0
   conv=>arg 2;whnf
   apply wp_seq_k
   intro K1 hK1
   have HK1:=Lib.hid hK1
   clear hK1
   go_wp2_with ((go_at_call 204;first|(with_reducible refine(HA.out _).mono ?_)|(with_reducible refine(HB.out _).mono ?_));rintro e w' ⟨rfl,rfl⟩)
   refine HK1.out _ _ ?_
   clear HK1 K1
   apply wp_seq_k
   intro K2 hK2
   have HK2:=Lib.hid hK2
   clear hK2
   go_wp2_with ((go_at_call 204;first|(with_reducible refine(HA.out _).mono ?_)|(with_reducible refine(HB.out _).mono ?_));rintro e w' ⟨rfl,rfl⟩)
   refine HK2.out _ _ ?_
   clear HK2 K2
   apply wp_seq_k
   intro K3 hK3
   have HK3:=Lib.hid hK3
   clear hK3
   go_wp2_with ((go_at_call 204;first|(with_reducible refine(HA.out _).mono ?_)|(with_reducible refine(HB.out _).mono ?_));rintro e w' ⟨rfl,rfl⟩)
   refine HK3.out _ _ ?_
   exact dec_T3 b x p m w bs _ hb HH.out.1 HH.out.2.2.2.1 HH.out.2.1 HH.out.2.2.2.2 HH.out.2.2.1 _ _ _ _ _ _ _ _ _ _ _ _ _ _ _ _ _ _ _ _ _ _ _ _ _ _ _ _ _ _ _ _ _ _ _ _ _ _ _ _ _ _ _ _ _ _ _ _ _ _ _ _ _ _ _ _ _ _ _ _ _ _ _ _ _ _ _ _ _ _ _ _ _ _ _ _ _ _ _ _ _ _ _ _ _ _ _ _ _ _ _ _ _ _ _ _ _ _ _ _ _ _ _ _ _ _ _ _ _ _ _ _ _ _ _ _ _ _ _ _ _ _ _ _ _ _ _ _ _ _ _ _ _ _ _ _ _
end Go.Proofs.YtfoefpoaomepbaaGreatDoor
