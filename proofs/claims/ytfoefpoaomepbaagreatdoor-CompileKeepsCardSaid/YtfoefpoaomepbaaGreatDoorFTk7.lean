import Derived.Test.YtfoefpoaomepbaaGreatDoorFTk4
import Derived.Test.YtfoefpoaomepbaaGreatDoorFK
set_option linter.all false
set_option maxHeartbeats 16000000
set_option maxRecDepth 1000000
namespace Go.Proofs.YtfoefpoaomepbaaGreatDoor
open Go.RowKit
theorem RdAt.alloc{T:List Tk}{g c n p:Nat}{a:Option Addr}{w:World}(h:RdAt T g a c n p w)(o:Obj):RdAt T g a c n p (w.alloc o):=h.grows growsR
theorem RdAt.grow{T:List Tk}{g c n p:Nat}{a:Option Addr}{w:World}(h:RdAt T g a c n p w)(bs:Array Obj)(d:Nat):RdAt T g a c n p (w.grow bs d):=h.grows growsR
theorem RdAt.to{T:List Tk}{g c n p:Nat}{a:Option Addr}{w:World}(h:RdAt T g a c n p w)(q:Nat):RdAt T g a c n q (w.setCell ⟨g,1,none⟩ (.int .i64 (q:Nat))):=by
 obtain⟨h0,b,rfl,hb,hc⟩:=h.tk
 have hne:=h.ne b rfl
 have hw:(w.setCell ⟨g,1,none⟩ (.int .i64 (q:Nat))).heap[b]? =w.heap[b]?:=Below.heap_setCell _ _ _ _ hne
 refine⟨?_,⟨h0,b,rfl,by simpa using hb,fun k hk=>?_⟩,h.ne⟩
 ·have:=Joins.block_setCell (i:=1) h.rd (.int .i64 (q:Nat))
  simpa using this
 ·exact fz53
theorem setCell_two(w:World)(g:Nat)(v v':Value):(w.setCell ⟨g,1,none⟩ v).setCell ⟨g,1,none⟩ v'=w.setCell ⟨g,1,none⟩ v':=by
 simp only [World.setCell]
 congr 1
 apply Array.ext_getElem?
 intro k
 simp only [Array.getElem?_modify]
 by_cases hk:g=k
 ·subst hk
  cases w.heap[g]? with
  |none=>simp
  |some o=>cases o<;>simp
 ·simp [hk]
def ExQ(g q:Nat)(E:Ex)(X:World)(e:Ending)(w':World):Prop:=∃v bs d,e= .returned (.agg #[.int .i64 E.op,.int .i64 E.num,.int .i64 E.den,.int .i64 E.dim,.string E.name,v])∧w'=(X.setCell ⟨g,1,none⟩ (.int .i64 (q:Nat))).grow bs d∧RepE (X.heap.size≤·) w' E v
def ExO(T:List Tk)(g c n:Nat)(a:Option Addr)(lev:Int)(p q:Nat)(E:Ex):Prop:=∀X,RdAt T g a c n p X→Calls Tryz.prog 81 #[.pointer (some ⟨g,0,none⟩),.int .i64 lev] X (ExQ g q E X)
def FcO(T:List Tk)(g c n:Nat)(a:Option Addr)(p q:Nat)(E:Ex):Prop:=∀X,RdAt T g a c n p X→Calls Tryz.prog 130 #[.pointer (some ⟨g,0,none⟩)] X (ExQ g q E X)
theorem ExQ.of{g q:Nat}{E:Ex}{X w':World}{v:Value}(hw:(X.setCell ⟨g,1,none⟩ (.int .i64 (q:Nat))).Grows w')(hr:RepE (X.heap.size≤·) w' E v):ExQ g q E X (.returned (.agg #[.int .i64 E.op,.int .i64 E.num,.int .i64 E.den,.int .i64 E.dim,.string E.name,v])) w':=by
 obtain⟨bs,d,rfl⟩:=hw
 exact⟨v,bs,d,rfl,rfl,hr⟩
theorem expr_7(T:List Tk)(g c n p q:Nat)(a:Option Addr)(E:Ex)(HF:Hid (FcO T g c n a p q E)):ExO T g c n a 7 p q E:=by
 intro w h
 have HR:=Lib.hid h
 have c0:=cell_of_row w g 0 _ _ _ h.rd
 have c3:=cell_of_row w g 3 _ _ _ h.rd
 have hf:=fun j=>Joins.unfrozen_of_block h.rd j
 have hg:=h.lt
 clear h
 go_enter Tryz.func81,Tryz.ntmps81
 go_wp2_with (go_at_call 130;refine(HF.out _ (HR.out.alloc _)).mono ?_;rintro e' w' ⟨v,bs,d,rfl,rfl,HRP⟩;obtain⟨va,vc,rfl⟩:=RepE.form HRP;have HRP:=Lib.hid HRP)
 go_returns
 exact ExQ.of growsR ((HRP.out.lift0 (by simp) (by simp) d).mono fun b hb=>by simp at hb;omega)
attribute [local go_sem] setCell_two
theorem RdAt.drew{T:List Tk}{g c n p:Nat}{a:Option Addr}{w:World}(h:RdAt T g a c n p w):RdAt T g a c n p w.drew:=h.keep (Nat.le_refl _) fun _ _=>rfl
theorem box_blk(w:World)(g:Nat)(v v':Value)(z z' o o':Obj)(bs bs2 bs3:Array Obj)(d d2 d' d3 b:Nat)(h:w.heap.size+1≤b)(hne:b≠w.heap.size+1+bs.size)(hlt:b<w.heap.size+1+bs.size+1+bs2.size) :
 (((((w.setCell ⟨g,1,none⟩ v').alloc z').grow bs d').alloc o').grow (bs2++bs3) d3).heap[b]? =(((((w.setCell ⟨g,1,none⟩ v).alloc z).grow bs d).alloc o).grow bs2 d2).heap[b]?:=by
 have e1:∀u,(w.setCell ⟨g,1,none⟩ u).heap.size=w.heap.size:=fun u=>World.size_setCell _ _ _
 simp only [World.grow,World.alloc,Array.getElem?_append,Array.getElem?_push,Array.size_append,Array.size_push,e1]
 repeat' split
 all_goals first|rfl|omega
theorem RepE.boxed{w:World}{g:Nat}{v:Value}{z o:Obj}{bs bs2:Array Obj}{d d2:Nat}{e:Ex}{u:Value}(h:RepE (fun b=>w.heap.size+1≤b∧b≠w.heap.size+1+bs.size) (((((w.setCell ⟨g,1,none⟩ v).alloc z).grow bs d).alloc o).grow bs2 d2) e u)(v':Value)(z' o':Obj)(d' d3:Nat)(bs3:Array Obj) :
 RepE (fun b=>w.heap.size+1≤b∧b≠w.heap.size+1+bs.size) (((((w.setCell ⟨g,1,none⟩ v').alloc z').grow bs d').alloc o').grow (bs2++bs3) d3) e u:=
 h.keep (by simp;try omega) fun b o hb hlt=>World.cell?_of_block (box_blk w g _ _ _ _ _ _ bs bs2 bs3 _ _ _ _ b hb.1 hb.2 (by simpa using hlt))
theorem grows_ex{A W:World}{C:Prop}(h:A.Grows W)(hc:C):∃bs d,W=A.grow bs d∧C:=by
 obtain⟨bs,d,rfl⟩:=h
 exact⟨bs,d,rfl,hc⟩
def Chn(T:List Tk)(g c n:Nat)(a:Option Addr)(lev:Int):Nat→Nat→Ex→Nat→Ex→Prop
 |0,q,E,q',E'=>q=q'∧E=E'∧∀j,j<12→hitB T q lev j=false
 |m+1,q,E,q',E'=>∃(k q2:Nat) (E2:Ex),k<12∧hitB T q lev k=true∧(∀j,j<k→hitB T q lev j=false)∧q<q2∧ExO T g c n a (lev+1) (q+1) q2 E2∧Chn T g c n a lev m q2 (.mk (7+k) 0 0 0 ByteArray.empty [E,E2]) q' E'
theorem BinOk.no{T:List Tk}{p:Nat}{lv r:Int}(h:BinOk T p lv r)(hn:∀j,j<12→hitB T p lv j=false):r=0:=by
 rcases h with h|⟨k,hk,_,hh,_⟩
 ·exact h.1
 ·rw [hn k hk]at hh;cases hh
theorem BinOk.yes{T:List Tk}{p k:Nat}{lv r:Int}(h:BinOk T p lv r)(hk:k<12)(hh:hitB T p lv k=true)(hn:∀j,j<k→hitB T p lv j=false):r=7+k:=by
 rcases h with h|⟨j,hj,e,hh2,hn2⟩
 ·rw [h.2 k hk]at hh;cases hh
 ·rcases Nat.lt_trichotomy j k with h|h|h
  ·rw [hn j h]at hh2;cases hh2
  ·rw [e,h]
  ·rw [hn2 k h]at hh;cases hh
theorem hit_lt{T:List Tk}{p k:Nat}{lv:Int}(h:hitB T p lv k=true):p<T.length:=by
 unfold hitB isB at h
 simp at h
 exact h.2.1
theorem bin_no(T:List Tk)(g c n p:Nat)(a:Option Addr)(lv:Int)(w:World)(h:RdAt T g a c n p w)(hn:∀j,j<12→hitB T p lv j=false):Calls Tryz.prog 131 #[.pointer (some ⟨g,0,none⟩),.int .i64 lv] w fun e w'=>e= .returned (.int .i64 0)∧w.Grows w':=
 (binary_any T g c n p a lv w h).mono fun e w' h=>by obtain⟨r,he,hb,hw⟩:=h;rw [hb.no hn]at he;exact⟨he,hw⟩
theorem bin_yes(T:List Tk)(g c n p k:Nat)(a:Option Addr)(lv:Int)(w:World)(h:RdAt T g a c n p w)(hk:k<12)(hh:hitB T p lv k=true)(hn:∀j,j<k→hitB T p lv j=false):Calls Tryz.prog 131 #[.pointer (some ⟨g,0,none⟩),.int .i64 lv] w fun e w'=>e= .returned (.int .i64 (7+(k:Int)))∧w.Grows w':=
 (binary_any T g c n p a lv w h).mono fun e w' h=>by obtain⟨r,he,hb,hw⟩:=h;rw [hb.yes hk hh hn]at he;exact⟨he,hw⟩
theorem expr_chain(T:List Tk)(g c n p q q9 m:Nat)(a:Option Addr)(lev:Int)(E E9:Ex)(hl:1≤lev∧lev≤6)(h3:(lev==3)=false)(h4:m=0∨(lev==4)=false)(HS:Hid (ExO T g c n a (lev+1) p q E))(HC:Hid (Chn T g c n a lev m q E q9 E9)):ExO T g c n a lev p q9 E9:=by
 intro w h
 have HR:=Lib.hid h
 have HRQ:=Lib.hid h
 have HR1:=Lib.hid h
 have c0:=cell_of_row w g 0 _ _ _ h.rd
 have c1:=cell_of_row w g 1 _ _ _ h.rd
 have c2:=cell_of_row w g 2 _ _ _ h.rd
 have c3:=cell_of_row w g 3 _ _ _ h.rd
 have hf:=fun j=>Joins.unfrozen_of_block h.rd j
 have hg:=h.lt
 have h0:(lev==0)=false:=by simp;omega
 have h7:(lev==7)=false:=by simp;omega
 have H4:=Lib.hid h4
 clear h h4
 go_enter Tryz.func81,Tryz.ntmps81
 go_wp2_with (go_at_call 81;refine(HS.out _ ((by repeat' (first|(with_reducible exact HR.out)|(with_reducible exact HRQ.out)|(with_reducible exact HR1.out)|(with_reducible refine RdAt.grow ?_ _ _)|(with_reducible refine RdAt.alloc ?_ _)|(with_reducible refine RdAt.drew ?_))))).mono ?_;rintro e' w' ⟨v,bs,d,rfl,rfl,HRP⟩;obtain⟨va,vc,rfl⟩:=RepE.form HRP;have HRP:=Lib.hid HRP)
 have HQ0:Hid (RepE (fun b=>w.heap.size+1≤b∧b≠w.heap.size+1+bs.size) ((((w.setCell ⟨g,1,none⟩ (.int .i64 (q:Nat))).alloc ((.cells #[.int .i64 0,.int .i64 0,.int .i64 0,.int .i64 0,.string ⟨#[]⟩,.slice none 0 0] 27))).grow bs d).alloc (.cells #[.int .i64 E.op,.int .i64 E.num,.int .i64 E.den,.int .i64 E.dim,.string E.name,.slice va E.args.length vc] 27)) E (.slice va E.args.length vc)):=Lib.hid (((HRP.out.lift0 (A':=(w.setCell ⟨g,1,none⟩ (.int .i64 (q:Nat))).alloc ((.cells #[.int .i64 0,.int .i64 0,.int .i64 0,.int .i64 0,.string ⟨#[]⟩,.slice none 0 0] 27))) (by simp) (by simp) d).mono' (S':=fun b=>w.heap.size+1≤b∧b≠w.heap.size+1+bs.size) fun b hb hlt=>by simp at hb hlt;omega).alloc _)
 clear HRP
 go_loopw [] (fun wr=>∃(m q:Nat) (E:Ex) (va:Option Addr) (vc:Nat) (bs2:Array Obj) (d2:Nat),wr=((((w.setCell ⟨g,1,none⟩ (.int .i64 (q:Nat))).alloc ((.cells #[.int .i64 0,.int .i64 0,.int .i64 0,.int .i64 0,.string ⟨#[]⟩,.slice none 0 0] 27))).grow bs d).alloc (.cells #[.int .i64 E.op,.int .i64 E.num,.int .i64 E.den,.int .i64 E.dim,.string E.name,.slice va E.args.length vc] 27)).grow bs2 d2∧Hid (RepE (fun b=>w.heap.size+1≤b∧b≠w.heap.size+1+bs.size) wr E (.slice va E.args.length vc))∧Hid (Chn T g c n a lev m q E q9 E9)∧Hid (m=0∨(lev==4)=false)) (fun wr=>T.length-(intOf ((wr.cell? ⟨g,1,none⟩).getD undef)).toNat)
 case atStart=>exact⟨m,q,E,va,vc,#[],_,World.grow_self _,HQ0,HC,H4⟩
 case round=>
  clear HC H4 HQ0 HS
  obtain⟨m,q,E,va,vc,bs2,d2,rfl,HRP,HC,H4⟩:=hrel
  have HRQ:=Lib.hid (HR.out.to q)
  cases m with
  |zero=>
   obtain⟨rfl,rfl,hno⟩:=HC.out
   have HB:=Lib.hid (fun X (hX:RdAt T g a c n q X)=>bin_no T g c n q a lev X hX hno)
   clear HC hno
   go_wp2_with (go_at_call 131;refine(HB.out _ ((by repeat' (first|(with_reducible exact HR.out)|(with_reducible exact HRQ.out)|(with_reducible exact HR1.out)|(with_reducible refine RdAt.grow ?_ _ _)|(with_reducible refine RdAt.alloc ?_ _)|(with_reducible refine RdAt.drew ?_))))).mono ?_;rintro e' w' ⟨rfl,bs3,d3,rfl⟩)
   go_returns
   exact ExQ.of growsR ((HRP.out.boxed _ _ _ _ _ bs3).mono fun b hb=>by have:=hb.1;omega)
  |succ m=>
   obtain⟨k,q2,E2,hk,hh,hn,hq2,HE,HC2⟩:=HC.out
   have HB:=Lib.hid (fun X (hX:RdAt T g a c n q X)=>bin_yes T g c n q k a lev X hX hk hh hn)
   have HQ2:=Lib.hid hq2
   have HQT:=Lib.hid (hit_lt hh)
   have HEX:=Lib.hid HE
   have HC9:=Lib.hid HC2
   have h44:(lev==4)=false:=H4.out.resolve_left (by omega)
   have HR1:Hid (RdAt T g a c n (q+1) (w.setCell ⟨g,1,none⟩ (.int .i64 ((q:Int)+1)))):=Lib.hid (HR.out.to (q+1))
   have h80:q≤8000:=by have:=HR.out.tk.1;have:=HQT.out;omega
   clear HC hh hn hq2 HE HC2
   go_wp2_with (go_at_call 131;refine(HB.out _ ((by repeat' (first|(with_reducible exact HR.out)|(with_reducible exact HRQ.out)|(with_reducible exact HR1.out)|(with_reducible refine RdAt.grow ?_ _ _)|(with_reducible refine RdAt.alloc ?_ _)|(with_reducible refine RdAt.drew ?_))))).mono ?_;rintro e' w' ⟨rfl,bs3,d3,rfl⟩)
   refine TG.begin 8 (fun w'=>w'.cell? ⟨w.heap.size+1+bs.size,0,none⟩=some (.int .i64 E.op)∧w'.cell? ⟨w.heap.size+1+bs.size,1,none⟩=some (.int .i64 E.num)∧w'.cell? ⟨w.heap.size+1+bs.size,2,none⟩=some (.int .i64 E.den)∧w'.cell? ⟨w.heap.size+1+bs.size,3,none⟩=some (.int .i64 E.dim)∧w'.cell? ⟨w.heap.size+1+bs.size,4,none⟩=some (.string E.name)∧w'.cell? ⟨w.heap.size+1+bs.size,5,none⟩=some (.slice va E.args.length vc)) (by kernel_rfl) (by kernel_rfl) ?_ (fun hS=>?_)
   focus(refine⟨?_, ?_, ?_, ?_, ?_, ?_⟩<;>simp [go_sem])
   refine TG.tkB 0 hS ?_
   refine TG.tkB 1 hS ?_
   refine TG.tkB 2 hS ?_
   refine TG.tkB 3 hS ?_
   refine TG.tkB 4 hS ?_
   refine TG.one (i:=5) (by kernel_rfl) rfl (fun K1 hK1=>?_)
   go_simp
   rw [show IntKind.i64.wrap (lev+1)=lev+1 from IntWalk.i64_in _ (by omega)]
   go_at_call 81
   refine(HEX.out _ ((by repeat' (first|(with_reducible exact HR.out)|(with_reducible exact HRQ.out)|(with_reducible exact HR1.out)|(with_reducible refine RdAt.grow ?_ _ _)|(with_reducible refine RdAt.alloc ?_ _)|(with_reducible refine RdAt.drew ?_))))).mono ?_
   rintro e' w' ⟨v2,bs4,d4,rfl,rfl,HRP2⟩
   obtain⟨va2,vc2,rfl⟩:=RepE.form HRP2
   have HRP2:=Lib.hid HRP2
   have H2:=Lib.hid ((HRP2.out.lift0 (A':=(((((w.setCell ⟨g,1,none⟩ (.int .i64 (q2:Nat))).alloc ((.cells #[.int .i64 0,.int .i64 0,.int .i64 0,.int .i64 0,.string ⟨#[]⟩,.slice none 0 0] 27))).grow bs d).alloc (.cells #[.int .i64 E.op,.int .i64 E.num,.int .i64 E.den,.int .i64 E.dim,.string E.name,.slice va E.args.length vc] 27)).grow (bs2++bs3) (d3+1))) (by simp) (by simp) d4).mono' (S':=fun b=>w.heap.size+1≤b∧b≠w.heap.size+1+bs.size) fun b hb hlt=>by simp at hb hlt;omega)
   clear HRP2
   refine TG.go hK1 ?_ (fun hS=>?_)
   focus
    (try dsimp only)
    (refine⟨?_, ?_, ?_, ?_, ?_, ?_⟩<;>simp [go_sem])
   clear hK1 K1
   (try simp only [nS])
   refine TG.one (i:=6) (by kernel_rfl) rfl (fun K1 hK1=>?_)
   go_simp
   refine TG.go hK1 ?_ (fun hS=>?_)
   focus
    (try dsimp only)
    (refine⟨?_, ?_, ?_, ?_, ?_, ?_⟩<;>simp [go_sem])
   clear hK1 K1
   (try simp only [nS])
   refine TG.tkB 7 hS ?_
   refine TG.one (i:=8) (by kernel_rfl) rfl (fun K1 hK1=>?_)
   go_simp
   refine hK1 _ _ (fun h=>absurd rfl h) (TG.done (by kernel_rfl) ?_)
   clear hK1 K1 hS
   (try simp only [nS])
   go_wp2_with fail
   go_roundw
   case rel=>
    have R1:=(HRP.out.boxed (.int .i64 (q2:Nat)) ((.cells #[.int .i64 0,.int .i64 0,.int .i64 0,.int .i64 0,.string ⟨#[]⟩,.slice none 0 0] 27)) ((.cells #[.int .i64 (7+(k:Int)),.int .i64 0,.int .i64 0,.int .i64 0,.string ⟨#[]⟩,.slice (some ⟨w.heap.size+1+bs.size+1+(bs2.size+(bs3.size+bs4.size)),0,none⟩) 2 2] 27)) d d4 (bs3++bs4)).alloc ((.cells #[.int .i64 E.op,.int .i64 E.num,.int .i64 E.den,.int .i64 E.dim,.string E.name,.slice va E.args.length vc,.int .i64 E2.op,.int .i64 E2.num,.int .i64 E2.den,.int .i64 E2.dim,.string E2.name,.slice va2 E2.args.length vc2] 27))
    have R2:=((H2.out.eqw (w':=((((w.setCell ⟨g,1,none⟩ (.int .i64 (q2:Nat))).alloc ((.cells #[.int .i64 0,.int .i64 0,.int .i64 0,.int .i64 0,.string ⟨#[]⟩,.slice none 0 0] 27))).grow bs d).alloc (.cells #[.int .i64 E.op,.int .i64 E.num,.int .i64 E.den,.int .i64 E.dim,.string E.name,.slice va E.args.length vc] 27)).grow (bs2++(bs3++bs4)) d4) (by simp)).boxed (.int .i64 (q2:Nat)) ((.cells #[.int .i64 0,.int .i64 0,.int .i64 0,.int .i64 0,.string ⟨#[]⟩,.slice none 0 0] 27)) ((.cells #[.int .i64 (7+(k:Int)),.int .i64 0,.int .i64 0,.int .i64 0,.string ⟨#[]⟩,.slice (some ⟨w.heap.size+1+bs.size+1+(bs2.size+(bs3.size+bs4.size)),0,none⟩) 2 2] 27)) d d4 #[]).alloc ((.cells #[.int .i64 E.op,.int .i64 E.num,.int .i64 E.den,.int .i64 E.dim,.string E.name,.slice va E.args.length vc,.int .i64 E2.op,.int .i64 E2.num,.int .i64 E2.den,.int .i64 E2.dim,.string E2.name,.slice va2 E2.args.length vc2] 27))
    rw [Array.append_empty]at R2
    have R3:=RepE.pair (7+k) (by omega) (b:=w.heap.size+1+bs.size+1+(bs2.size+(bs3.size+bs4.size))) ⟨by omega,by omega⟩ (heap_new _ _ _ (by simp)) R1 R2
    exact⟨m,q2,.mk (7+k) 0 0 0 ByteArray.empty [E,E2],_,2,grows_ex (A:=(((w.setCell ⟨g,1,none⟩ (.int .i64 (q2:Nat))).alloc ((.cells #[.int .i64 0,.int .i64 0,.int .i64 0,.int .i64 0,.string ⟨#[]⟩,.slice none 0 0] 27))).grow bs d).alloc ((.cells #[.int .i64 (7+(k:Int)),.int .i64 0,.int .i64 0,.int .i64 0,.string ⟨#[]⟩,.slice (some ⟨w.heap.size+1+bs.size+1+(bs2.size+(bs3.size+bs4.size)),0,none⟩) 2 2] 27))) growsR ⟨Lib.hid R3,HC9,Lib.hid (.inr h44)⟩⟩
   case measure=>
    have:=HQ2.out
    have:=HQT.out
    simp [go_sem,intOf,c1,hg]
    omega
end Go.Proofs.YtfoefpoaomepbaaGreatDoor
namespace Go.Proofs.YtfoefpoaomepbaaGreatDoor
open Go.RowKit
attribute [local go_sem] setCell_two
theorem res_blk(w:World)(g:Nat)(v:Value)(z z':Obj)(bs bs2:Array Obj)(d d2 d3 b:Nat)(h:w.heap.size+1+bs.size≤b) :
 (((w.setCell ⟨g,1,none⟩ v).alloc z').grow (bs++bs2) d3).heap[b]? =((((w.alloc z).grow bs d).setCell ⟨g,1,none⟩ v).grow bs2 d2).heap[b]?:=by
 rw [World.grow,World.grow]
 have e1:((w.setCell ⟨g,1,none⟩ v).alloc z').heap.size=w.heap.size+1:=by simp
 have e2:(((w.alloc z).grow bs d).setCell ⟨g,1,none⟩ v).heap.size=w.heap.size+1+bs.size:=by simp
 simp only []
 rw [Array.getElem?_append_right (by omega),Array.getElem?_append_right (by omega),Array.getElem?_append_right (by omega),e1,e2]
 congr 1
 omega
theorem take_no(T:List Tk)(g c n p:Nat)(a:Option Addr)(s:ByteArray)(w:World)(h:RdAt T g a c n p w)(hb:isB T p s=false):Calls Tryz.prog 128 #[.pointer (some ⟨g,0,none⟩),.string s] w fun e w'=>e= .returned (.bool false)∧w.Grows w':=by
 have HI:=Lib.hid (is_any T g c n p a s w h)
 rw [hb]at HI
 have hg:=h.lt
 clear h
 go_enter Tryz.func128,Tryz.ntmps128
 go_wp2_with (go_at_call 164;refine(HI.out).mono ?_;rintro e' w' ⟨rfl,bs,d,rfl⟩)
 exact fz27
theorem expr_3(T:List Tk)(g c n p q:Nat)(a:Option Addr)(E:Ex)(hb:isB T p ⟨#[110,111,116]⟩=false)(HS:Hid (ExO T g c n a 4 p q E)):ExO T g c n a 3 p q E:=by
 intro w h
 have HR:=Lib.hid h
 have HR1:=Lib.hid h
 have c0:=cell_of_row w g 0 _ _ _ h.rd
 have c1:=cell_of_row w g 1 _ _ _ h.rd
 have c2:=cell_of_row w g 2 _ _ _ h.rd
 have c3:=cell_of_row w g 3 _ _ _ h.rd
 have hf:=fun j=>Joins.unfrozen_of_block h.rd j
 have hg:=h.lt
 have HT:=Lib.hid (fun X (hX:RdAt T g a c n p X)=>take_no T g c n p a ⟨#[110,111,116]⟩ X hX hb)
 exact fz13
theorem expr_0(T:List Tk)(g c n p q:Nat)(a:Option Addr)(E:Ex)(hb:isB T p ⟨#[105,102]⟩=false)(HS:Hid (ExO T g c n a 1 p q E)):ExO T g c n a 0 p q E:=by
 intro w h
 have HR:=Lib.hid h
 have HR1:=Lib.hid h
 have c0:=cell_of_row w g 0 _ _ _ h.rd
 have c1:=cell_of_row w g 1 _ _ _ h.rd
 have c2:=cell_of_row w g 2 _ _ _ h.rd
 have c3:=cell_of_row w g 3 _ _ _ h.rd
 have hf:=fun j=>Joins.unfrozen_of_block h.rd j
 have hg:=h.lt
 have HT:=Lib.hid (fun X (hX:RdAt T g a c n p X)=>take_no T g c n p a ⟨#[105,102]⟩ X hX hb)
 exact fz13
end Go.Proofs.YtfoefpoaomepbaaGreatDoor
namespace Go.Proofs.YtfoefpoaomepbaaGreatDoor
open Go.RowKit
attribute [local go_sem] setCell_two
theorem kind_as(T:List Tk)(g c n p:Nat)(a:Option Addr)(k:Int)(b:Bool)(w:World)(h:RdAt T g a c n p w)(hb:kindB T p k=b):Calls Tryz.prog 166 #[.pointer (some ⟨g,0,none⟩),.int .i64 k] w fun e w'=>e= .returned (.bool b)∧w.Grows w':=hb ▸ kind_any T g c n p a k w h
theorem kind_lt{T:List Tk}{p:Nat}{k:Int}(h:kindB T p k=true):p<T.length:=by
 unfold kindB at h
 simp at h
 exact h.1
theorem name_any(T:List Tk)(g c n p:Nat)(a:Option Addr)(t:ByteArray)(w:World)(h:RdAt T g a c n p w)(hk:kindB T p 1=true)(ht:(T.getD p default).2.1=t)(hz:t.size≤maxLen)(hn:nameB t=true):Calls Tryz.prog 170 #[.pointer (some ⟨g,0,none⟩)] w fun e w'=>e= .returned (.string t)∧∃bs d,w'=(w.setCell ⟨g,1,none⟩ (.int .i64 ((p+1:Nat)))).grow bs d:=by
 have HR:=Lib.hid h
 have c0:=cell_of_row w g 0 _ _ _ h.rd
 have c1:=cell_of_row w g 1 _ _ _ h.rd
 have hf:=fun j=>Joins.unfrozen_of_block h.rd j
 have hg:=h.lt
 have hlt:=kind_lt hk
 have HK:=Lib.hid (fun X (hX:RdAt T g a c n p X)=>kind_as T g c n p a 1 true X hX hk)
 have HN:=Lib.hid (fun X=>IsName_any t X hz)
 rw [hn]at HN
 obtain⟨h8,b,rfl,hb,hc⟩:=h.tk
 have hne:=h.ne b rfl
 obtain⟨-,e1,-⟩:=hc p hlt
 rw [ht]at e1
 have hp1:(p:Int)<(T.length:Int):=by omega
 have hp8:p≤8000:=by omega
 have HR1:Hid (RdAt T g (some ⟨b,0,none⟩) c n (p+1) (w.setCell ⟨g,1,none⟩ (.int .i64 ((p:Int)+1)))):=Lib.hid (HR.out.to (p+1))
 clear h hc hk ht
 go_enter Tryz.func170,Tryz.ntmps170
 go_wp2_with (first|(go_at_call 166;refine(HK.out _ ((by repeat' (first|(with_reducible exact HR.out)|(with_reducible exact HR1.out)|(with_reducible refine RdAt.grow ?_ _ _)|(with_reducible refine RdAt.alloc ?_ _)|(with_reducible refine RdAt.drew ?_))))).mono ?_;rintro e' w' ⟨rfl,bs0,d0,rfl⟩)|(go_at_call 44;refine(HN.out _).mono ?_;rintro e' w' ⟨rfl,rfl⟩))
 refine TG.begin 17 (fun w'=>w'.cell? ⟨g,0,none⟩=some (.slice (some ⟨b,0,none⟩) T.length c)∧w'.cell? ⟨g,1,none⟩=some (.int .i64 (p:Nat))∧w'.cell? ⟨b,p*3+1,none⟩=some (.string t)) (by kernel_rfl) (by kernel_rfl) ?_ (fun hS=>?_)
 focus(refine⟨?_, ?_, ?_⟩<;>simp [go_sem,c0,c1,e1])
 refine TG.tkB 0 hS ?_
 refine TG.one (i:=1) (by kernel_rfl) rfl (fun K1 hK1=>?_)
 go_simp
 go_at_call 166
 refine(HK.out _ ((by repeat' (first|(with_reducible exact HR.out)|(with_reducible exact HR1.out)|(with_reducible refine RdAt.grow ?_ _ _)|(with_reducible refine RdAt.alloc ?_ _)|(with_reducible refine RdAt.drew ?_))))).mono ?_
 rintro e' w' ⟨rfl,bs0,d0,rfl⟩
 (try simp only [World.drew_grow])
 refine TG.go hK1 ?_ (fun hS=>?_)
 focus
  (try dsimp only)
  (refine⟨?_, ?_, ?_⟩<;>simp [go_sem,c0,c1,e1,hg,hb])
 clear hK1 K1
 (try simp only [nS])
 refine TG.tkB 2 hS ?_
 refine TG.tkB 3 hS ?_
 refine TG.tkB 4 hS ?_
 refine TG.tkB 5 hS ?_
 refine TG.tkB 6 hS ?_
 refine TG.tkB 7 hS ?_
 refine TG.tkB 8 hS ?_
 refine TG.tkB 9 hS ?_
 refine TG.tkB 10 hS ?_
 refine TG.tkB 11 hS ?_
 refine TG.tkB 12 hS ?_
 refine TG.tkB 13 hS ?_
 refine TG.tkB 14 hS ?_
 refine TG.takeC (i:=15) (v:=.bool true) (fn:=44) (args:=#[.string t]) rfl (by kernel_rfl) (by kernel_rfl) (by kernel_rfl) (by decide) (fun _ _ _ h=>h) rfl hS ?_ ?_ ?_
 focus
  intro wS hSw
  (try dsimp only at hSw)
  go_simp
 focus exact fun wS _=>HN.out wS
 (try simp only [nS])
 refine TG.tkB 16 hS ?_
 refine TG.one (i:=17) (by kernel_rfl) rfl (fun K1 hK1=>?_)
 go_simp
 refine hK1 _ _ (fun h=>absurd rfl h) (TG.done (by kernel_rfl) ?_)
 clear hK1 K1 hS
 (try simp only [nS])
 go_wp2_with fail
 have f0:(w.setCell ⟨g,1,none⟩ (.int .i64 ((p:Int)+1))).cell? ⟨b,p*3+1,none⟩=some (.string t):=by rw [World.cell?_of_block (Below.heap_setCell _ _ _ _ hne)];exact e1
 go_quiet (fail)
 go_wp2_with fail
 go_returns
 exact⟨rfl,(growsR:World.Grows (w.setCell ⟨g,1,none⟩ (.int .i64 ((p:Int)+1))) _)⟩
theorem is_no(T:List Tk)(g c n p:Nat)(a:Option Addr)(s:ByteArray)(w:World)(h:RdAt T g a c n p w)(hb:isB T p s=false):Calls Tryz.prog 164 #[.pointer (some ⟨g,0,none⟩),.string s] w fun e w'=>e= .returned (.bool false)∧w.Grows w':=hb ▸ is_any T g c n p a s w h
theorem rng_name(t:ByteArray)(hz:t.size≤1000):ExRng (.mk 2 0 0 0 t []):=ExRng.lit 0 0 0 (by omega) (by omega) (by omega) 2 (by omega) t (by omega) [] (by simp)
def noWord(T:List Tk)(p:Nat):Bool:=!isB T p ⟨#[45]⟩&&!isB T p ⟨#[40]⟩&&!isB T p ⟨#[98,101,115,116]⟩&&!isB T p ⟨#[102,108,111,111,114]⟩&&!isB T p ⟨#[109,105,110]⟩&&!isB T p ⟨#[109,97,120]⟩
theorem fac_name(T:List Tk)(g c n p:Nat)(a:Option Addr)(t:ByteArray)(hk2:kindB T p 2=false)(hk:kindB T p 1=true)(ht:(T.getD p default).2.1=t)(hz:t.size≤1000)(hn:nameB t=true)(hw:noWord T p=true):FcO T g c n a p (p+1) (.mk 2 0 0 0 t []):=by
 intro w h
 have HR:=Lib.hid h
 have HR1:=Lib.hid h
 have hg:=h.lt
 have HK:=Lib.hid (fun X (hX:RdAt T g a c n p X)=>kind_as T g c n p a 2 false X hX hk2)
 have HN:=Lib.hid (fun X (hX:RdAt T g a c n p X)=>name_any T g c n p a t X hX hk ht (by unfold maxLen;omega) hn)
 have hw2:((((isB T p ⟨#[45]⟩=false∧isB T p ⟨#[40]⟩=false)∧isB T p ⟨#[98,101,115,116]⟩=false)∧isB T p ⟨#[102,108,111,111,114]⟩=false)∧isB T p ⟨#[109,105,110]⟩=false)∧isB T p ⟨#[109,97,120]⟩=false:=by
  unfold noWord at hw;simpa only [Bool.and_eq_true,Bool.not_eq_true']using hw
 obtain⟨⟨⟨⟨⟨b1,b2⟩,b3⟩,b4⟩,b5⟩,b6⟩:=hw2
 have T1:=Lib.hid (fun X (hX:RdAt T g a c n p X)=>take_no T g c n p a ⟨#[45]⟩ X hX b1)
 have T2:=Lib.hid (fun X (hX:RdAt T g a c n p X)=>take_no T g c n p a ⟨#[40]⟩ X hX b2)
 have T3:=Lib.hid (fun X (hX:RdAt T g a c n p X)=>take_no T g c n p a ⟨#[98,101,115,116]⟩ X hX b3)
 have I1:=Lib.hid (fun X (hX:RdAt T g a c n p X)=>is_no T g c n p a ⟨#[102,108,111,111,114]⟩ X hX b4)
 have I2:=Lib.hid (fun X (hX:RdAt T g a c n p X)=>is_no T g c n p a ⟨#[109,105,110]⟩ X hX b5)
 have I3:=Lib.hid (fun X (hX:RdAt T g a c n p X)=>is_no T g c n p a ⟨#[109,97,120]⟩ X hX b6)
 clear h hk2 hk ht hw b1 b2 b3 b4 b5 b6
 go_enter Tryz.func130,Tryz.ntmps130
 go_wp2_with ((first|(go_at_call 166;refine(HK.out _ ((by repeat' (first|(with_reducible exact HR.out)|(with_reducible exact HR1.out)|(with_reducible refine RdAt.grow ?_ _ _)|(with_reducible refine RdAt.alloc ?_ _)|(with_reducible refine RdAt.drew ?_))))).mono ?_;rintro e' w' ⟨rfl,bs0,d0,rfl⟩)|(go_at_call 128;(first|with_reducible refine(T1.out _ ((by repeat' (first|(with_reducible exact HR.out)|(with_reducible exact HR1.out)|(with_reducible refine RdAt.grow ?_ _ _)|(with_reducible refine RdAt.alloc ?_ _)|(with_reducible refine RdAt.drew ?_))))).mono ?_|with_reducible refine(T2.out _ ((by repeat' (first|(with_reducible exact HR.out)|(with_reducible exact HR1.out)|(with_reducible refine RdAt.grow ?_ _ _)|(with_reducible refine RdAt.alloc ?_ _)|(with_reducible refine RdAt.drew ?_))))).mono ?_|with_reducible refine(T3.out _ ((by repeat' (first|(with_reducible exact HR.out)|(with_reducible exact HR1.out)|(with_reducible refine RdAt.grow ?_ _ _)|(with_reducible refine RdAt.alloc ?_ _)|(with_reducible refine RdAt.drew ?_))))).mono ?_);rintro e' w' ⟨rfl,bs0,d0,rfl⟩)|(go_at_call 164;(first|with_reducible refine(I1.out _ ((by repeat' (first|(with_reducible exact HR.out)|(with_reducible exact HR1.out)|(with_reducible refine RdAt.grow ?_ _ _)|(with_reducible refine RdAt.alloc ?_ _)|(with_reducible refine RdAt.drew ?_))))).mono ?_|with_reducible refine(I2.out _ ((by repeat' (first|(with_reducible exact HR.out)|(with_reducible exact HR1.out)|(with_reducible refine RdAt.grow ?_ _ _)|(with_reducible refine RdAt.alloc ?_ _)|(with_reducible refine RdAt.drew ?_))))).mono ?_|with_reducible refine(I3.out _ ((by repeat' (first|(with_reducible exact HR.out)|(with_reducible exact HR1.out)|(with_reducible refine RdAt.grow ?_ _ _)|(with_reducible refine RdAt.alloc ?_ _)|(with_reducible refine RdAt.drew ?_))))).mono ?_);rintro e' w' ⟨rfl,bs0,d0,rfl⟩)|(go_at_call 170;refine(HN.out _ ((by repeat' (first|(with_reducible exact HR.out)|(with_reducible exact HR1.out)|(with_reducible refine RdAt.grow ?_ _ _)|(with_reducible refine RdAt.alloc ?_ _)|(with_reducible refine RdAt.drew ?_))))).mono ?_;rintro e' w' ⟨rfl,bs9,d9,rfl⟩)))
 go_returns
 exact ExQ.of (E:=.mk 2 0 0 0 t []) (growsR:World.Grows (w.setCell ⟨g,1,none⟩ (.int .i64 ((p:Int)+1))) _) (.nil (rng_name t hz) rfl)
end Go.Proofs.YtfoefpoaomepbaaGreatDoor
namespace Go.Proofs.YtfoefpoaomepbaaGreatDoor
open Go.RowKit
attribute [local go_sem] setCell_two
theorem rng_num(m:Int)(hm:0≤m∧m≤1000):ExRng (.mk 1 m 1 2 ByteArray.empty []):=ExRng.lit m 1 2 (by omega) (by omega) (by omega) 1 (by omega) ByteArray.empty (by decide) [] (by simp)
def DcP(t:ByteArray)(m:Int):Prop:=∀w,Calls Tryz.prog 167 #[.string t] w fun e w'=>e= .returned (.tuple #[.agg #[.int .i64 m,.int .i64 1],.int .i64 2,.bool true])∧w.Grows w'
theorem fac_num(T:List Tk)(g c n p:Nat)(a:Option Addr)(t:ByteArray)(m:Int)(hm:0≤m∧m≤1000)(hk2:kindB T p 2=true)(ht:(T.getD p default).2.1=t)(HD:Hid (DcP t m)):FcO T g c n a p (p+1) (.mk 1 m 1 2 ByteArray.empty []):=by
 intro w h
 have HR:=Lib.hid h
 have HR1:=Lib.hid h
 have c0:=cell_of_row w g 0 _ _ _ h.rd
 have c1:=cell_of_row w g 1 _ _ _ h.rd
 have hf:=fun j=>Joins.unfrozen_of_block h.rd j
 have hg:=h.lt
 have hlt:=kind_lt hk2
 have HK:=Lib.hid (fun X (hX:RdAt T g a c n p X)=>kind_as T g c n p a 2 true X hX hk2)
 obtain⟨h8,b,rfl,hb,hc⟩:=h.tk
 have hne:=h.ne b rfl
 obtain⟨-,e1,-⟩:=hc p hlt
 rw [ht]at e1
 have hp1:(p:Int)<(T.length:Int):=by omega
 have hp8:p≤8000:=by omega
 clear h hc hk2 ht
 go_enter Tryz.func130,Tryz.ntmps130
 go_wp2_with (go_at_call 166;refine(HK.out _ ((by repeat' (first|(with_reducible exact HR.out)|(with_reducible exact HR1.out)|(with_reducible refine RdAt.grow ?_ _ _)|(with_reducible refine RdAt.alloc ?_ _)|(with_reducible refine RdAt.drew ?_))))).mono ?_;rintro e' w' ⟨rfl,bs0,d0,rfl⟩)
 refine TS.begin [19] (fun w'=>w'.cell? ⟨g,0,none⟩=some (.slice (some ⟨b,0,none⟩) T.length c)∧w'.cell? ⟨g,1,none⟩=some (.int .i64 (p:Nat))∧w'.cell? ⟨b,p*3+1,none⟩=some (.string t)) (by kernel_rfl) (by kernel_rfl) ?_ (fun hS=>?_)
 focus(refine⟨?_, ?_, ?_⟩<;>simp [go_sem,c0,c1,e1,hg,hb])
 refine TS.takeV (i:=0) (v:=?_) rfl (by kernel_rfl) (by kernel_rfl) (by kernel_rfl) (by decide) (fun _ _ _ h=>h) rfl hS ?_ ?_
 rotate_left
 focus
  intro wS hSw
  (try dsimp only at hSw)
  go_simp
  rfl
 (try simp only [nS])
 refine TS.takeV (i:=1) (v:=?_) rfl (by kernel_rfl) (by kernel_rfl) (by kernel_rfl) (by decide) (fun _ _ _ h=>h) rfl hS ?_ ?_
 rotate_left
 focus
  intro wS hSw
  (try dsimp only at hSw)
  go_simp
  rfl
 (try simp only [nS])
 refine TS.takeV (i:=2) (v:=?_) rfl (by kernel_rfl) (by kernel_rfl) (by kernel_rfl) (by decide) (fun _ _ _ h=>h) rfl hS ?_ ?_
 rotate_left
 focus
  intro wS hSw
  (try dsimp only at hSw)
  go_simp
  rfl
 (try simp only [nS])
 refine TS.takeV (i:=3) (v:=?_) rfl (by kernel_rfl) (by kernel_rfl) (by kernel_rfl) (by decide) (fun _ _ _ h=>h) rfl hS ?_ ?_
 rotate_left
 focus
  intro wS hSw
  (try dsimp only at hSw)
  go_simp
  rfl
 (try simp only [nS])
 refine TS.takeV (i:=4) (v:=?_) rfl (by kernel_rfl) (by kernel_rfl) (by kernel_rfl) (by decide) (fun _ _ _ h=>h) rfl hS ?_ ?_
 rotate_left
 focus
  intro wS hSw
  (try dsimp only at hSw)
  go_simp
  rfl
 (try simp only [nS])
 refine TS.takeV (i:=5) (v:=?_) rfl (by kernel_rfl) (by kernel_rfl) (by kernel_rfl) (by decide) (fun _ _ _ h=>h) rfl hS ?_ ?_
 rotate_left
 focus
  intro wS hSw
  (try dsimp only at hSw)
  go_simp
  rfl
 (try simp only [nS])
 refine TS.takeV (i:=6) (v:=?_) rfl (by kernel_rfl) (by kernel_rfl) (by kernel_rfl) (by decide) (fun _ _ _ h=>h) rfl hS ?_ ?_
 rotate_left
 focus
  intro wS hSw
  (try dsimp only at hSw)
  go_simp
  rfl
 (try simp only [nS])
 refine TS.takeV (i:=7) (v:=?_) rfl (by kernel_rfl) (by kernel_rfl) (by kernel_rfl) (by decide) (fun _ _ _ h=>h) rfl hS ?_ ?_
 rotate_left
 focus
  intro wS hSw
  (try dsimp only at hSw)
  go_simp
  rfl
 (try simp only [nS])
 refine TS.takeV (i:=8) (v:=?_) rfl (by kernel_rfl) (by kernel_rfl) (by kernel_rfl) (by decide) (fun _ _ _ h=>h) rfl hS ?_ ?_
 rotate_left
 focus
  intro wS hSw
  (try dsimp only at hSw)
  go_simp
  rfl
 (try simp only [nS])
 refine TS.takeV (i:=9) (v:=?_) rfl (by kernel_rfl) (by kernel_rfl) (by kernel_rfl) (by decide) (fun _ _ _ h=>h) rfl hS ?_ ?_
 rotate_left
 focus
  intro wS hSw
  (try dsimp only at hSw)
  go_simp
  rfl
 (try simp only [nS])
 refine TS.takeV (i:=10) (v:=?_) rfl (by kernel_rfl) (by kernel_rfl) (by kernel_rfl) (by decide) (fun _ _ _ h=>h) rfl hS ?_ ?_
 rotate_left
 focus
  intro wS hSw
  (try dsimp only at hSw)
  go_simp
  rfl
 (try simp only [nS])
 refine TS.two (i:=11) (k:=16) (by kernel_rfl) rfl rfl (fun K1 hK1=>?_) (fun K1 hK1=>?_)
 case refine_1=>
  go_simp
  go_at_call 167
  refine(HD.out _).mono ?_
  rintro e' w' ⟨rfl,bs1,d1,rfl⟩
  (try simp only [World.drew_grow])
  refine TS.go hK1 ?_ (fun hS=>?_)
  focus
   (try dsimp only)
   (refine⟨?_, ?_, ?_⟩<;>simp [go_sem,c0,c1,e1,hg,hb])
  clear hK1 K1
  (try simp only [nS])
  refine TS.takeV (i:=12) (v:=?_) rfl (by kernel_rfl) (by kernel_rfl) (by kernel_rfl) (by decide) (fun _ _ _ h=>h) rfl hS ?_ ?_
  rotate_left
  focus
   intro wS hSw
   (try dsimp only at hSw)
   go_simp
   rfl
  (try simp only [nS])
  refine TS.takeV (i:=13) (v:=?_) rfl (by kernel_rfl) (by kernel_rfl) (by kernel_rfl) (by decide) (fun _ _ _ h=>h) rfl hS ?_ ?_
  rotate_left
  focus
   intro wS hSw
   (try dsimp only at hSw)
   go_simp
   rfl
  (try simp only [nS])
  refine TS.takeV (i:=14) (v:=?_) rfl (by kernel_rfl) (by kernel_rfl) (by kernel_rfl) (by decide) (fun _ _ _ h=>h) rfl hS ?_ ?_
  rotate_left
  focus
   intro wS hSw
   (try dsimp only at hSw)
   go_simp
   rfl
  (try simp only [nS])
  refine TS.takeV (i:=15) (v:=?_) rfl (by kernel_rfl) (by kernel_rfl) (by kernel_rfl) (by decide) (fun _ _ _ h=>h) rfl hS ?_ ?_
  rotate_left
  focus
   intro wS hSw
   (try dsimp only at hSw)
   go_simp
   rfl
  (try simp only [nS])
  refine TS.one (i:=16) (by kernel_rfl) rfl (fun K1 hK1=>?_)
  go_simp
  refine TS.go hK1 ?_ (fun hS=>?_)
  focus
   (try dsimp only)
   (refine⟨?_, ?_, ?_⟩<;>simp [go_sem,c0,c1,e1,hg,hb])
  clear hK1 K1
  exact fz14
 case refine_2=>
  go_simp
  refine TS.go hK1 ?_ (fun hS=>?_)
  focus
   (try dsimp only)
   (refine⟨?_, ?_, ?_⟩<;>simp [go_sem,c0,c1,e1,hg,hb])
  clear hK1 K1
  (try simp only [nS])
  refine TS.one (i:=11) (by kernel_rfl) rfl (fun K1 hK1=>?_)
  go_simp
  go_at_call 167
  refine(HD.out _).mono ?_
  rintro e' w' ⟨rfl,bs1,d1,rfl⟩
  (try simp only [World.drew_grow])
  refine TS.go hK1 ?_ (fun hS=>?_)
  focus
   (try dsimp only)
   (refine⟨?_, ?_, ?_⟩<;>simp [go_sem,c0,c1,e1,hg,hb])
  clear hK1 K1
  (try simp only [nS])
  refine TS.takeV (i:=12) (v:=?_) rfl (by kernel_rfl) (by kernel_rfl) (by kernel_rfl) (by decide) (fun _ _ _ h=>h) rfl hS ?_ ?_
  rotate_left
  focus
   intro wS hSw
   (try dsimp only at hSw)
   go_simp
   rfl
  (try simp only [nS])
  refine TS.takeV (i:=13) (v:=?_) rfl (by kernel_rfl) (by kernel_rfl) (by kernel_rfl) (by decide) (fun _ _ _ h=>h) rfl hS ?_ ?_
  rotate_left
  focus
   intro wS hSw
   (try dsimp only at hSw)
   go_simp
   rfl
  (try simp only [nS])
  refine TS.takeV (i:=14) (v:=?_) rfl (by kernel_rfl) (by kernel_rfl) (by kernel_rfl) (by decide) (fun _ _ _ h=>h) rfl hS ?_ ?_
  rotate_left
  focus
   intro wS hSw
   (try dsimp only at hSw)
   go_simp
   rfl
  (try simp only [nS])
  refine TS.takeV (i:=15) (v:=?_) rfl (by kernel_rfl) (by kernel_rfl) (by kernel_rfl) (by decide) (fun _ _ _ h=>h) rfl hS ?_ ?_
  rotate_left
  focus
   intro wS hSw
   (try dsimp only at hSw)
   go_simp
   rfl
  exact fz14
end Go.Proofs.YtfoefpoaomepbaaGreatDoor
namespace Go.Proofs.YtfoefpoaomepbaaGreatDoor
open Go.RowKit
theorem tkV_at:∀(T:List Tk) (k:Nat),k<T.length→(tkV T)[k*3]? =some (.int .i64 (T.getD k default).1)∧(tkV T)[k*3+1]? =some (.string (T.getD k default).2.1)∧(tkV T)[k*3+2]? =some (.int .i64 ((T.getD k default).2.2:Nat))
 | [],_,h=>absurd h (by simp)
 |t::T,0,_=>⟨rfl,rfl,rfl⟩
 |t::T,k+1,h=>by
  have ih:=tkV_at T k (by simpa using h)
  have e:tkV (t::T)=tkC t++tkV T:=rfl
  have e3:(tkC t).length=3:=rfl
  have a0:(k+1)*3=3+k*3:=by omega
  have a1:3+k*3+1=3+(k*3+1):=by omega
  have a2:3+k*3+2=3+(k*3+2):=by omega
  rw [e,a0,a1,a2,List.getElem?_append_right (by omega),List.getElem?_append_right (by omega),List.getElem?_append_right (by omega),e3,Nat.add_sub_cancel_left,Nat.add_sub_cancel_left,Nat.add_sub_cancel_left,List.getD_cons_succ]
  exact ih
theorem own_ne0{w:World}{base:Nat}{T:TypeId}{c n:Nat}{v:Value}{xs:List Value}(h:w.ownsRow base T c v n xs)(hn:0<n):∃g cap,v= .slice (some ⟨g,0,none⟩) n cap∧g<w.heap.size:=by
 rcases h.2 with ⟨_,h0⟩|⟨g,cap',cur,hv,hb,hg,_⟩
 ·omega
 ·exact⟨g,cap',hv,(Array.getElem?_eq_some_iff.1 hg).1⟩
theorem TkAt.own{w:World}{base:Nat}{v:Value}{T:List Tk}(h:w.ownsRow base 197 3 v T.length (tkV T))(h8:T.length≤8000)(hn:0<T.length):∃b cap,v= .slice (some ⟨b,0,none⟩) T.length cap∧TkAt w (some ⟨b,0,none⟩) T:=by
 obtain⟨b,cap,rfl,hb⟩:=own_ne0 h hn
 refine⟨b,cap,rfl,h8,b,rfl,hb,fun k hk=>?_⟩
 obtain⟨e0,e1,e2⟩:=tkV_at T k hk
 exact⟨(h.cellAt _ (by omega)).trans e0,(h.cellAt _ (by omega)).trans e1,(h.cellAt _ (by omega)).trans e2⟩
theorem grows_set{A:World}{bs:Array Obj}{d g:Nat}{v:Value}(h:A.heap.size≤g)(bs2:Array Obj)(d2:Nat):A.Grows (((A.grow bs d).setCell ⟨g,1,none⟩ v).grow bs2 d2):=.of_below ((((Below.refl _ _).grow (Nat.le_refl _) bs d).setCell h v).grow (by simp) bs2 d2)
def PxQ(E:Ex)(w:World)(e:Ending)(w':World):Prop:=∃v,e= .returned (.tuple #[.agg #[.int .i64 E.op,.int .i64 E.num,.int .i64 E.den,.int .i64 E.dim,.string E.name,v],.int .i64 0,.int .i64 0])∧w.Grows w'∧RepE (w.heap.size≤·) w' E v
theorem parse_any(s:ByteArray)(T:List Tk)(E:Ex)(w:World)(h8:T.length≤8000)(hn:0<T.length)(hd:E.depth≤10)(hs:E.size≤60)(HB:Hid (∀w,Calls Tryz.prog 80 #[.string s] w (BegP T s.size w)))(HE:Hid (∀g c a,ExO T g c s.size a 0 0 T.length E)):Calls Tryz.prog 33 #[.string s] w (PxQ E w):=by
 have hd1:¬(10:Int)<(E.depth:Int):=by omega
 have hs1:¬(60:Int)<(E.size:Int):=by omega
 have HDW:=Lib.hid (fun S v W (h:RepE S W E v)=>Depth_walk S E.size E (Nat.le_refl _) v W h (Lib.hid (by omega)))
 have HSW:=Lib.hid (fun S v W (h:RepE S W E v)=>Size_walk S E.size E (Nat.le_refl _) v W h (Lib.hid (by omega)))
 unfold exV at HDW HSW
 go_enter Tryz.func33,Tryz.ntmps33
 go_upto_region 4 with (go_at_call 80;refine(HB.out _).mono ?_;rintro e' w' ⟨v,g,rfl,⟨bs,d,rfl⟩,hgB,hgR,hown,hvg⟩)
 obtain⟨b,cap,rfl,htk⟩:=TkAt.own hown h8 hn
 have HR:Hid (RdAt T g (some ⟨b,0,none⟩) cap s.size 0 ((w.alloc ((.cells #[.int .i64 0,.int .i64 0,.int .i64 0,.int .i64 0,.string ⟨#[]⟩,.slice none 0 0] 27))).grow bs d)):=Lib.hid ⟨hgR,htk,fun b' hb' e=>hvg (by subst e;simpa [Value.ownBlock]using hb')⟩
 have HEX:=Lib.hid (HE.out g cap (some ⟨b,0,none⟩))
 have HGB:=Lib.hid hgB
 clear hown hgR htk hvg hgB
 go_upto_region 5 with (go_at_call 81;refine(HEX.out _ HR.out).mono ?_;rintro e' w' ⟨v2,bs2,d2,rfl,hw',HRP⟩;have HRq:RdAt T g (some ⟨b,0,none⟩) cap s.size T.length w':=(hw' ▸ (HR.out.to T.length).grow bs2 d2);have hG:(w.alloc ((.cells #[.int .i64 0,.int .i64 0,.int .i64 0,.int .i64 0,.string ⟨#[]⟩,.slice none 0 0] 27))).Grows w':=(hw' ▸ grows_set HGB.out bs2 d2);obtain⟨bs',d',hX⟩:=hG;clear hw';subst hX;obtain⟨va,vc,rfl⟩:=RepE.form HRP;have HRP:=Lib.hid (HRP.mono (S':=fun x=>w.heap.size+1≤x) (fun b hb=>by simp at hb;omega)))
 have c0:=cell_of_row _ g 0 _ _ _ HRq.rd
 have c1:=cell_of_row _ g 1 _ _ _ HRq.rd
 have c2:=cell_of_row _ g 2 _ _ _ HRq.rd
 have c3:=cell_of_row _ g 3 _ _ _ HRq.rd
 have hg:g<w.heap.size+1+bs'.size:=by simpa using HRq.lt
 go_quiet (fail)
 go_wp2_with (first|(go_at_call 76;refine(HDW.out (fun x=>w.heap.size+1≤x) _ _ ((by repeat' (first|(with_reducible exact HRP.out)|(with_reducible refine RepE.grow ?_ _ _)|(with_reducible refine RepE.alloc ?_ _)|(with_reducible refine RepE.drewN ?_ _))))).mono ?_;rintro e' w' ⟨rfl,bs8,d8,rfl⟩)|(go_at_call 17;refine(HSW.out (fun x=>w.heap.size+1≤x) _ _ ((by repeat' (first|(with_reducible exact HRP.out)|(with_reducible refine RepE.grow ?_ _ _)|(with_reducible refine RepE.alloc ?_ _)|(with_reducible refine RepE.drewN ?_ _))))).mono ?_;rintro e' w' ⟨rfl,bs9,d9,rfl⟩))
 go_returns
 exact⟨_,rfl,growsR,((((HRP.out.lift0 (A':=w.alloc (.cells #[.int .i64 E.op,.int .i64 E.num,.int .i64 E.den,.int .i64 E.dim,.string E.name,.slice va E.args.length vc] 27)) (by simp) (by simp) d').alloc _).grow _ _).mono fun b hb=>by omega)⟩
def tx0:ByteArray:=⟨#[50,32,42,32,51,32,43,32,97,103,101]⟩
def T0:List Tk:=[(2,⟨#[50]⟩,0),(4,⟨#[42]⟩,2),(2,⟨#[51]⟩,4),(4,⟨#[43]⟩,6),(1,⟨#[97,103,101]⟩,8)]
def pos0(k:Nat):Nat:=if k=0 then 0 else if k=1 then 1 else if k=2 then 3 else if k=3 then 5 else if k=4 then 7 else 11
def litE(m:Int):Ex:=.mk 1 m 1 2 ByteArray.empty []
def ageE:Ex:=.mk 2 0 0 0 ⟨#[97,103,101]⟩ []
def E0:Ex:=.mk 7 0 0 0 ByteArray.empty [.mk 9 0 0 0 ByteArray.empty [litE 2,litE 3],ageE]
theorem ext0:tx0.extract 0 1=⟨#[50]⟩∧tx0.extract 2 3=⟨#[42]⟩∧tx0.extract 4 5=⟨#[51]⟩∧tx0.extract 6 7=⟨#[43]⟩∧tx0.extract 8 11=⟨#[97,103,101]⟩:=⟨by kernel_rfl,by kernel_rfl,by kernel_rfl,by kernel_rfl,by kernel_rfl⟩
theorem sk0(p q:Nat)(hq:q≤tx0.size)(hpq:q=p∨(q=p+1∧byt tx0 p=32))(hend:q=tx0.size∨(q<tx0.size∧plainC (byt tx0 q))):Hid (∀w,Calls Tryz.prog 195 #[.string tx0,.int .i64 p] w fun e w'=>e= .returned (.int .i64 q)∧w=w'):=Lib.hid fun w=>skip_any tx0 p q w (by decide) hq hpq hend
theorem nx0:NxP tx0 0 2 ⟨#[50]⟩ 0 1:=by
 have h:=next_num tx0 0 0 (by decide) (by decide) (by decide) (sk0 0 0 (by decide) (by decide+kernel) (.inr ⟨by decide,by unfold plainC;decide+kernel⟩)) (by decide+kernel) (by decide+kernel) (Lib.hid fun w=>run_any5 tx0 0 1 true w (by decide) (by decide) (by decide+kernel) (by decide+kernel)) (Lib.hid fun w=>by rw [ext0.1];exact parts_one ⟨#[50]⟩ w rfl (by decide+kernel) (by kernel_rfl) (by kernel_rfl))
 rw [ext0.1]at h
 exact h
theorem nx1:NxP tx0 1 4 ⟨#[42]⟩ 2 3:=by
 have h:=next_sign tx0 1 2 (by decide) (by decide) (by decide) (sk0 1 2 (by decide) (by decide+kernel) (.inr ⟨by decide,by unfold plainC;decide+kernel⟩)) (by decide+kernel) (by decide+kernel) (by decide+kernel) (Lib.hid fun w=>sign_one tx0 2 w (by decide) (by decide) (by decide+kernel) (by decide+kernel) (by decide+kernel) (by decide+kernel))
 rw [ext0.2.1]at h
 exact h
theorem nx2:NxP tx0 3 2 ⟨#[51]⟩ 4 5:=by
 have h:=next_num tx0 3 4 (by decide) (by decide) (by decide) (sk0 3 4 (by decide) (by decide+kernel) (.inr ⟨by decide,by unfold plainC;decide+kernel⟩)) (by decide+kernel) (by decide+kernel) (Lib.hid fun w=>run_any5 tx0 4 1 true w (by decide) (by decide) (by decide+kernel) (by decide+kernel)) (Lib.hid fun w=>by rw [ext0.2.2.1];exact parts_one ⟨#[51]⟩ w rfl (by decide+kernel) (by kernel_rfl) (by kernel_rfl))
 rw [ext0.2.2.1]at h
 exact h
theorem nx3:NxP tx0 5 4 ⟨#[43]⟩ 6 7:=by
 have h:=next_sign tx0 5 6 (by decide) (by decide) (by decide) (sk0 5 6 (by decide) (by decide+kernel) (.inr ⟨by decide,by unfold plainC;decide+kernel⟩)) (by decide+kernel) (by decide+kernel) (by decide+kernel) (Lib.hid fun w=>sign_one tx0 6 w (by decide) (by decide) (by decide+kernel) (by decide+kernel) (by decide+kernel) (by decide+kernel))
 rw [ext0.2.2.2.1]at h
 exact h
theorem nx4:NxP tx0 7 1 ⟨#[97,103,101]⟩ 8 11:=by
 have h:=next_word tx0 7 8 3 (by decide) (by decide) (by decide) (by decide) (sk0 7 8 (by decide) (by decide+kernel) (.inr ⟨by decide,by unfold plainC;decide+kernel⟩)) (by decide+kernel) (Lib.hid fun w=>run_any5 tx0 8 3 false w (by decide) (by decide) (by decide+kernel) (by decide+kernel))
 rw [ext0.2.2.2.2]at h
 exact h
theorem nx5:NxP tx0 11 0 ⟨#[]⟩ tx0.size tx0.size:=next_end tx0 11 (by decide) (by decide) (sk0 11 11 (by decide) (.inl rfl) (.inl rfl))
theorem all0(w:World):Calls Tryz.prog 127 #[.string tx0] w (AllP T0 w):=by
 refine all_any tx0 T0 pos0 w (by decide) (by decide) rfl (fun k=>?_) (Lib.hid fun k hk=>?_) (Lib.hid fun k hk=>?_) (Lib.hid nx5)
 ·unfold pos0;repeat' split
  all_goals omega
 ·have hk5:k<5:=hk
  rcases(show k=0∨k=1∨k=2∨k=3∨k=4 by omega)with rfl|rfl|rfl|rfl|rfl
  ·exact nx0
  ·exact nx1
  ·exact nx2
  ·exact nx3
  ·exact nx4
 ·have hk5:k<5:=hk
  rcases(show k=0∨k=1∨k=2∨k=3∨k=4 by omega)with rfl|rfl|rfl|rfl|rfl<;>decide
theorem dec0(m:Int)(c:ByteArray)(hz:c.size=1)(hn:byt c 0=48+m)(h0:0≤m∧m≤9)(hex:c.extract 0 1=c)(hap:c++(⟨#[]⟩:ByteArray)=c)(hmk:mkN m 1=m∧mkD m 1=1∧mkE m 1=0):Hid (DcP c m):=Lib.hid fun w=>decimal_one c m w hz hn h0 hex hap (Lib.hid fun w=>(MakeFraction_any m 1 w (by omega) (by omega) (by omega) (by omega)).mono fun e w' h=>by
 obtain⟨he,hg⟩:=h
 rw [hmk.1,hmk.2.1,hmk.2.2]at he
 exact⟨he,hg⟩)
section
variable (g c n : Nat) (a : Option Addr)
theorem ex6:ExO T0 g c n a 6 0 3 (.mk 9 0 0 0 ByteArray.empty [litE 2,litE 3]):=
 expr_chain T0 g c n 0 1 3 1 a 6 (litE 2) _ (by decide) (by decide) (.inr (by decide)) (Lib.hid (expr_7 T0 g c n 0 1 a _ (Lib.hid (fac_num T0 g c n 0 a ⟨#[50]⟩ 2 (by decide) (by decide+kernel) rfl (dec0 2 ⟨#[50]⟩ rfl (by decide+kernel) (by decide) (by kernel_rfl) (by kernel_rfl) (by decide+kernel))))))
  (Lib.hid ⟨2,3,litE 3,by decide,by decide+kernel,by decide+kernel,by decide,expr_7 T0 g c n 2 3 a _ (Lib.hid (fac_num T0 g c n 2 a ⟨#[51]⟩ 3 (by decide) (by decide+kernel) rfl (dec0 3 ⟨#[51]⟩ rfl (by decide+kernel) (by decide) (by kernel_rfl) (by kernel_rfl) (by decide+kernel)))),rfl,rfl,by decide+kernel⟩)
theorem exA:ExO T0 g c n a 6 4 5 ageE:=
 expr_chain T0 g c n 4 5 5 0 a 6 ageE _ (by decide) (by decide) (.inl rfl) (Lib.hid (expr_7 T0 g c n 4 5 a _ (Lib.hid (fac_name T0 g c n 4 a ⟨#[97,103,101]⟩ (by decide+kernel) (by decide+kernel) rfl (by decide) (by decide+kernel) (by decide+kernel))))) (Lib.hid ⟨rfl,rfl,by decide+kernel⟩)
theorem ex5:ExO T0 g c n a 5 0 5 E0:=
 expr_chain T0 g c n 0 3 5 1 a 5 _ _ (by decide) (by decide) (.inr (by decide)) (Lib.hid (ex6 g c n a)) (Lib.hid ⟨0,5,ageE,by decide,by decide+kernel,by decide+kernel,by decide,exA g c n a,rfl,rfl,by decide+kernel⟩)
theorem ex0:ExO T0 g c n a 0 0 5 E0:=
 expr_0 T0 g c n 0 5 a _ (by decide+kernel) (Lib.hid (expr_chain T0 g c n 0 5 5 0 a 1 _ _ (by decide) (by decide) (.inl rfl) (Lib.hid (expr_chain T0 g c n 0 5 5 0 a 2 _ _ (by decide) (by decide) (.inl rfl) (Lib.hid (expr_3 T0 g c n 0 5 a _ (by decide+kernel) (Lib.hid (expr_chain T0 g c n 0 5 5 0 a 4 _ _ (by decide) (by decide) (.inl rfl) (Lib.hid (ex5 g c n a)) (Lib.hid ⟨rfl,rfl,by decide+kernel⟩))))) (Lib.hid ⟨rfl,rfl,by decide+kernel⟩))) (Lib.hid ⟨rfl,rfl,by decide+kernel⟩)))
end
theorem parse0(w:World):Calls Tryz.prog 33 #[.string tx0] w (PxQ E0 w):=
 parse_any tx0 T0 E0 w (by decide) (by decide) (by decide+kernel) (by decide+kernel) (Lib.hid fun w=>begin_any tx0 T0 w (by decide) (Lib.hid all0)) (Lib.hid fun g c a=>ex0 g c _ a)
end Go.Proofs.YtfoefpoaomepbaaGreatDoor
