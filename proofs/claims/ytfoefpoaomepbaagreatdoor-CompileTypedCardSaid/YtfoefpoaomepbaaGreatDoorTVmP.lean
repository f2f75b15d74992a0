import Derived.Test.YtfoefpoaomepbaaGreatDoorTGnD
import Derived.Test.YtfoefpoaomepbaaGreatDoorTTk1
import Derived.Test.YtfoefpoaomepbaaGreatDoorTK
import Derived.Test.YtfoefpoaomepbaaGreatDoorRows
import Derived.ProofKit
import Derived.SizedLaws
import Derived.Below
import Derived.Handed
import Derived.LaidLaws
import Derived.LaidSub
import Derived.Lay
import Derived.Stop.LaidErr
import Derived.MakeChecks
import Derived.Lib.LaidTab
set_option linter.all false
set_option maxHeartbeats 16000000
set_option maxRecDepth 1000000
namespace Go.Proofs.YtfoefpoaomepbaaGreatDoor
open Go.RowKit
theorem twist_lens(n:Int)(V:VerP):(twistP n V).cr.length=V.cr.length∧(twistP n V).se.length=V.se.length∧(twistP n V).le.length=V.le.length∧(twistP n V).gr.length=V.gr.length∧(twistP n V).re.length=V.re.length:=by
 unfold twistP
 repeat' split
 all_goals simp_all
theorem of_lens(R:RawV):(ofP R).cr.length≤1000∧(ofP R).se.length≤1000∧(ofP R).le.length≤10∧(ofP R).gr.length≤1000∧(ofP R).re.length≤1000:=by
 have h:(madeP R).cr.length≤1000∧(madeP R).se.length≤1000∧(madeP R).le.length≤10∧(madeP R).gr.length≤1000∧(madeP R).re.length≤1000:=by
  simp only [madeP,List.length_map,List.length_range]
  unfold nCred nSer nLet nPay nCut
  omega
 unfold ofP
 split
 ·exact h
 ·split
  ·obtain⟨a,b,c,d,e⟩:=twist_lens (pick (R.twist.tdiv 8) 7) (madeP R)
   rw [a,b,c,d,e];exact h
  ·exact h
theorem made_sm(R:RawV):VerSm (madeP R):=by
 refine⟨fun t ht=>?_,fun t ht=>?_,fun t ht=>?_⟩
 ·obtain⟨i,_,rfl⟩:=List.mem_map.1 ht;exact⟨by rw [letN_size];omega,topF_size _ _ _⟩
 ·obtain⟨i,_,rfl⟩:=List.mem_map.1 ht;exact⟨topF_size _ _ _,topF_size _ _ _⟩
 ·obtain⟨i,_,rfl⟩:=List.mem_map.1 ht;exact topF_size _ _ _
theorem twist_sm(n:Int){V:VerP}(h:VerSm V):VerSm (twistP n V):=by
 obtain⟨h1,h2,h3⟩:=h
 unfold twistP
 split
 ·refine⟨h1,fun t ht=>?_,h3⟩
  simp only at ht
  split at ht
  ·rename_i a r he
   rcases List.mem_cons.1 ht with rfl|ht
   ·have:=h2 a (by rw [he];exact List.mem_cons_self);exact⟨this.1,this.1⟩
   ·exact h2 t (by rw [he];exact List.mem_cons_of_mem _ ht)
  ·cases ht
 split
 ·refine⟨h1,fun t ht=>?_,h3⟩
  simp only at ht
  split at ht
  ·rename_i a b r he
   rcases List.mem_cons.1 ht with rfl|ht
   ·exact h2 t (by rw [he];exact List.mem_cons_self)
   ·rcases List.mem_cons.1 ht with rfl|ht
    ·exact h2 b (by rw [he];simp)
    ·exact h2 t (by rw [he];simp [ht])
  ·exact h2 t ht
 split
 ·refine⟨fun t ht=>?_,h2,h3⟩
  simp only at ht
  split at ht
  ·rename_i a b r he
   rcases List.mem_cons.1 ht with rfl|ht
   ·exact h1 t (by rw [he];exact List.mem_cons_self)
   ·rcases List.mem_cons.1 ht with rfl|ht
    ·exact⟨(h1 a (by rw [he];simp)).1,(h1 b (by rw [he];simp)).2⟩
    ·exact h1 t (by rw [he];simp [ht])
  ·exact h1 t ht
 split
 ·refine⟨fun t ht=>?_,h2,h3⟩
  simp only at ht
  split at ht
  ·rename_i a r he
   rcases List.mem_cons.1 ht with rfl|ht
   ·refine⟨(h1 a (by rw [he];exact List.mem_cons_self)).1, ?_⟩
    show laterE.size≤1000000
    simp [laterE,Ex.size,Ex.sizes]
   ·exact h1 t (by rw [he];exact List.mem_cons_of_mem _ ht)
  ·cases ht
 split
 ·exact⟨h1,h2,h3⟩
 split
 ·exact⟨h1,h2,h3⟩
 ·refine⟨fun t ht=>?_,h2,h3⟩
  simp only at ht
  split at ht
  ·rename_i a r he
   rcases List.mem_cons.1 ht with rfl|ht
   ·refine⟨?_,(h1 a (by rw [he];exact List.mem_cons_self)).2⟩
    show ageN.size≤_
    decide
   ·exact h1 t (by rw [he];exact List.mem_cons_of_mem _ ht)
  ·cases ht
theorem of_sm(R:RawV):VerSm (ofP R):=by
 unfold ofP
 split
 ·exact made_sm R
 ·split
  ·exact twist_sm _ (made_sm R)
  ·exact made_sm R
def BrP(o n d m:Int)(nm:ByteArray)(a:Option Addr)(k c:Nat)(t:ByteArray)(W:World):Prop:=Calls Tryz.prog 132 #[.agg #[.int .i64 o,.int .i64 n,.int .i64 d,.int .i64 m,.string nm,.slice a k c]] W fun e w'=>e= .returned (.string t)∧W.Grows w'
theorem put_any(o n d m least:Int)(nm:ByteArray)(a:Option Addr)(k c:Nat)(t:ByteArray)(w:World)(ho:1≤o∧o≤21)(hl:¬lvF o<least)(HB:Hid (∀W,w.Grows W→BrP o n d m nm a k c t W)):Calls Tryz.prog 83 #[.agg #[.int .i64 o,.int .i64 n,.int .i64 d,.int .i64 m,.string nm,.slice a k c],.int .i64 least] w fun e w'=>e= .returned (.string t)∧w.Grows w':=by
 have HL:=Lib.hid (fun W=>level_any o W ho)
 unfold BrP at HB
 go_enter Tryz.func83,Tryz.ntmps83
 go_wp2_with (first|(go_at_call 132;refine(HB.out _ growsR).mono ?_;rintro e' w' ⟨rfl,bs,d,rfl⟩)|(go_at_call 133;refine(HL.out _).mono ?_;rintro e' w' ⟨rfl,rfl⟩))
 exact tz27
theorem bare_name(nm:ByteArray)(a:Option Addr)(k c:Nat)(W:World):BrP 2 0 0 0 nm a k c nm W:=by
 unfold BrP
 have HL:=Lib.hid (fun W=>level_any 2 W (by decide))
 go_enter Tryz.func132,Tryz.ntmps132
 go_wp2_with (go_at_call 133;refine(HL.out _).mono ?_;rintro e' w' ⟨rfl,rfl⟩)
 exact tz27
theorem bare_lit(n d m:Int)(a:Option Addr)(k c:Nat)(t:ByteArray)(W:World)(h:decV n d m= .tuple #[.string t,.bool true])(hn:-1000≤n∧n≤1000)(hd:-1000≤d∧d≤1000):BrP 1 n d m ByteArray.empty a k c t W:=by
 unfold BrP
 have HL:=Lib.hid (fun W=>level_any 1 W (by decide))
 have HF:=Lib.hid (fun W=>FormatDecimal_any n d m W (by omega) (by omega) (by omega) (by omega))
 rw [h]at HF
 go_enter Tryz.func132,Tryz.ntmps132
 go_wp2_with (first|(go_at_call 133;refine(HL.out _).mono ?_;rintro e' w' ⟨rfl,rfl⟩)|(go_at_call 91;refine(HF.out _).mono ?_;rintro e' w' ⟨rfl,bs,d,rfl⟩))
 exact tz27
def E1:Ex:=.mk 7 0 0 0 ByteArray.empty [litE 6,ageE]
def tx1:ByteArray:=⟨#[54,32,43,32,97,103,101]⟩
theorem dec6:decV 6 1 2= .tuple #[.string ⟨#[54]⟩,.bool true]:=by kernel_rfl
theorem bare_add{S:Nat→Prop}(a:Option Addr)(cap:Nat)(w:World)(h:RepE S w E1 (.slice a 2 cap)):BrP 7 0 0 0 ByteArray.empty a 2 cap tx1 w:=by
 obtain⟨b,off,rfl,hb,hx⟩:=RepE.arg_cells (e:=E1) h (by decide)
 obtain⟨a0,k0,h0,-⟩:=hx 0 (by decide)
 obtain⟨a1,k1,h1,-⟩:=hx 1 (by decide)
 clear hx h
 have y0:w.cell? ⟨b,off,none⟩=some (.int .i64 1):=h0.c0
 have y1:w.cell? ⟨b,off+1,none⟩=some (.int .i64 6):=h0.c1
 have y2:w.cell? ⟨b,off+2,none⟩=some (.int .i64 1):=h0.c2
 have y3:w.cell? ⟨b,off+3,none⟩=some (.int .i64 2):=h0.c3
 have y4:w.cell? ⟨b,off+4,none⟩=some (.string ByteArray.empty):=h0.c4
 have y5:w.cell? ⟨b,off+5,none⟩=some (.slice a0 0 k0):=h0.c5
 have z0:w.cell? ⟨b,off+6,none⟩=some (.int .i64 2):=h1.c0
 have z1:w.cell? ⟨b,off+6+1,none⟩=some (.int .i64 0):=h1.c1
 have z2:w.cell? ⟨b,off+6+2,none⟩=some (.int .i64 0):=h1.c2
 have z3:w.cell? ⟨b,off+6+3,none⟩=some (.int .i64 0):=h1.c3
 have z4:w.cell? ⟨b,off+6+4,none⟩=some (.string ⟨#[97,103,101]⟩):=h1.c4
 have z5:w.cell? ⟨b,off+6+5,none⟩=some (.slice a1 0 k1):=h1.c5
 clear h0 h1
 unfold BrP
 have HL:Hid (∀W,Calls Tryz.prog 133 #[.int .i64 7] W fun e w'=>e= .returned (.int .i64 5)∧W=w'):=Lib.hid (fun W=>level_any 7 W (by decide))
 have HS:Hid (∀W,Calls Tryz.prog 171 #[.int .i64 7] W fun e w'=>e= .returned (.string ⟨#[43]⟩)∧W=w'):=Lib.hid (fun W=>signOf_any 7 W (by decide))
 have HP0:=Lib.hid (fun W=>put_any 1 6 1 2 5 ByteArray.empty a0 0 k0 ⟨#[54]⟩ W (by decide) (by decide) (Lib.hid fun W _=>bare_lit 6 1 2 a0 0 k0 ⟨#[54]⟩ W dec6 (by decide) (by decide)))
 have HP1:=Lib.hid (fun W=>put_any 2 0 0 0 6 ⟨#[97,103,101]⟩ a1 0 k1 ⟨#[97,103,101]⟩ W (by decide) (by decide) (Lib.hid fun W _=>bare_name ⟨#[97,103,101]⟩ a1 0 k1 W))
 go_enter Tryz.func132,Tryz.ntmps132
 go_upto_region 25 with (go_at_call 133;refine(HL.out _).mono ?_;rintro e' w' ⟨rfl,rfl⟩)
 refine wp_region_quietG (by kernel_rfl) (by kernel_rfl) ?_
 repeat(go_big_quiet_step (first|(go_at_call 83;(first|with_reducible exact Calls.quietG (HP0.out _)|with_reducible exact Calls.quietG (HP1.out _)))|(go_at_call 171;exact Calls.quietS (HS.out _))))
 refine wpQuiet_nil ?_
 intro _ hw'
 obtain⟨⟨gb,gd⟩,hw''⟩:=hw'
 subst hw''
 go_wp2_with fail
 trace_state
 exact tz27
theorem CalcOk.dims{E:Ex}(ok:CalcOk E):∀x∈E.args.map Ex.dim,1≤x:=by
 intro x hx
 obtain⟨y,hy,rfl⟩:=List.mem_map.1 hx
 have:=decOk_bd (lit_dec (formeds_mem ok.args.1 y hy) (ok.lit y hy))
 omega
def fdF(e:Ex):Ex:=if validB e=true then foldF e else e
theorem cFold_any{S:Nat→Prop}{e:Ex}{v:Value}{w:World}(h:RepE S w e v)(ht:Tab w)(hb:e.size≤1000000):Calls Tryz.prog 13 #[exV e v] w (MadeEx w (fdF e)):=by
 obtain⟨va,vc,rfl⟩:=RepE.form h
 have HR:=Lib.hid h
 have HT:=Lib.hid ht
 have HV:=Lib.hid (fun W (hW:RepE S W e (.slice va e.args.length vc)) (hT:Tab W)=>ValidExpr2_any S e _ W (Lib.hid hW) (Lib.hid (by omega)) (Lib.hid hT))
 clear h ht
 cases hvb:validB e with
 |false=>
  have HF:fdF e=e:=by unfold fdF;rw [hvb];rfl
  rw [HF]
  rw [hvb]at HV
  have HC:=Lib.hid (fun W (hW:RepE S W e (.slice va e.args.length vc))=>cclone_any hW (Lib.hid hb))
  clear HF
  go_enter Tryz.func13,Tryz.ntmps13
  go_wp2_with (first|(go_at_call 35;refine(HV.out _ ((by repeat' (first|(with_reducible exact HR.out)|(with_reducible refine RepE.grow ?_ _ _)|(with_reducible refine RepE.alloc ?_ _)))) ((by repeat' (first|(with_reducible exact HT.out)|(with_reducible refine Tab.grow ?_ _ _)|(with_reducible refine Tab.alloc ?_ _))))).mono ?_;rintro e' w' ⟨rfl,bs,d,rfl⟩)|(go_at_call 36;refine(HC.out _ ((by repeat' (first|(with_reducible exact HR.out)|(with_reducible refine RepE.grow ?_ _ _)|(with_reducible refine RepE.alloc ?_ _))))).mono ?_;(rintro e' w' ⟨v2,rfl,⟨bs2,d2,rfl⟩,HRP⟩;obtain⟨va2,vc2,rfl⟩:=RepE.form HRP;have HRP:=Lib.hid HRP)))
  go_returns
  exact⟨_,rfl,growsR,((HRP.out.eqw (w':=((w.alloc ((.cells #[.int .i64 e.op,.int .i64 e.num,.int .i64 e.den,.int .i64 e.dim,.string e.name,.slice va e.args.length vc] 27))).alloc ((.cells #[.int .i64 0,.int .i64 0,.int .i64 0,.int .i64 0,.string ⟨#[]⟩,.slice none 0 0] 27))).grow (bs++bs2) d2) (by simp)).lift0 (A':=(w.alloc ((.cells #[.int .i64 e.op,.int .i64 e.num,.int .i64 e.den,.int .i64 e.dim,.string e.name,.slice va e.args.length vc] 27))).alloc (.cells #[.int .i64 (e).op,.int .i64 (e).num,.int .i64 (e).den,.int .i64 (e).dim,.string (e).name,.slice va2 (e).args.length vc2] 27)) (by simp) (by simp) d2).mono fun b hb=>by simp at hb;omega⟩
 |true=>
  have HF:fdF e=foldF e:=by unfold fdF;rw [hvb];rfl
  rw [HF]
  rw [hvb]at HV
  have hfm:=valid_formed hvb
  have HC:=Lib.hid (fun W (hW:RepE S W e (.slice va e.args.length vc)) (hT:Tab W)=>cfold_any hW hT hb hfm)
  clear HF hfm
  generalize foldF e=E at *
  go_enter Tryz.func13,Tryz.ntmps13
  go_wp2_with (first|(go_at_call 35;refine(HV.out _ ((by repeat' (first|(with_reducible exact HR.out)|(with_reducible refine RepE.grow ?_ _ _)|(with_reducible refine RepE.alloc ?_ _)))) ((by repeat' (first|(with_reducible exact HT.out)|(with_reducible refine Tab.grow ?_ _ _)|(with_reducible refine Tab.alloc ?_ _))))).mono ?_;rintro e' w' ⟨rfl,bs,d,rfl⟩)|(go_at_call 37;refine(HC.out _ ((by repeat' (first|(with_reducible exact HR.out)|(with_reducible refine RepE.grow ?_ _ _)|(with_reducible refine RepE.alloc ?_ _)))) ((by repeat' (first|(with_reducible exact HT.out)|(with_reducible refine Tab.grow ?_ _ _)|(with_reducible refine Tab.alloc ?_ _))))).mono ?_;(rintro e' w' ⟨v2,rfl,⟨bs2,d2,rfl⟩,HRP⟩;obtain⟨va2,vc2,rfl⟩:=RepE.form HRP;have HRP:=Lib.hid HRP)))
  go_returns
  exact⟨_,rfl,growsR,((HRP.out.eqw (w':=((w.alloc ((.cells #[.int .i64 e.op,.int .i64 e.num,.int .i64 e.den,.int .i64 e.dim,.string e.name,.slice va e.args.length vc] 27))).alloc ((.cells #[.int .i64 0,.int .i64 0,.int .i64 0,.int .i64 0,.string ⟨#[]⟩,.slice none 0 0] 27))).grow (bs++bs2) d2) (by simp)).lift0 (A':=(w.alloc ((.cells #[.int .i64 e.op,.int .i64 e.num,.int .i64 e.den,.int .i64 e.dim,.string e.name,.slice va e.args.length vc] 27))).alloc (.cells #[.int .i64 (E).op,.int .i64 (E).num,.int .i64 (E).den,.int .i64 (E).dim,.string (E).name,.slice va2 (E).args.length vc2] 27)) (by simp) (by simp) d2).mono fun b hb=>by simp at hb;omega⟩
theorem fd0:fdF E0=E1:=by kernel_rfl
theorem tl1:(tx1.toList== [54,32,43,32,97,103,101])=true:=by decide+kernel
theorem val1:validB E1=true:=by decide+kernel
theorem fmt1{S:Nat→Prop}(a:Option Addr)(cap:Nat)(w:World)(h:RepE S w E1 (.slice a 2 cap)):Calls Tryz.prog 34 #[.agg #[.int .i64 7,.int .i64 0,.int .i64 0,.int .i64 0,.string ByteArray.empty,.slice a 2 cap]] w fun e w'=>e= .returned (.tuple #[.string tx1,.bool true])∧w.Grows w':=by
 have HV:=Lib.hid (fun W (hw:w.Grows W)=>ValidExpr_any S E1 (.slice a 2 cap) W (Lib.hid (h.grows hw)) (Lib.hid (by decide)))
 rw [val1]at HV
 have HP:=Lib.hid (fun W (hw:w.Grows W)=>put_any 7 0 0 0 0 ByteArray.empty a 2 cap tx1 W (by decide) (by decide) (Lib.hid fun W2 hW2=>bare_add a cap W2 ((h.grows hw).grows hW2)))
 clear h
 go_enter Tryz.func34,Tryz.ntmps34
 go_wp2_with (first|(go_at_call 31;refine(HV.out _ growsR).mono ?_;rintro e' w' ⟨rfl,bs,d,rfl⟩)|(go_at_call 83;refine(HP.out _ growsR).mono ?_;rintro e' w' ⟨rfl,bs,d,rfl⟩))
 exact tz27
theorem awake10(w:World)(ht:Tab w):Calls Tryz.prog 11 #[] w fun e w'=>e= .returned (.bool true)∧w.Grows w':=by
 have HT:=Lib.hid ht
 have HP:Hid (∀W,Calls Tryz.prog 33 #[.string ⟨#[50,32,42,32,51,32,43,32,97,103,101]⟩] W (PxQ E0 W)):=Lib.hid parse0
 clear ht
 go_enter Tryz.func11,Tryz.ntmps11
 go_upto_region 2 with (go_at_call 33;refine(HP.out _).mono ?_;rintro e' w' ⟨v,rfl,⟨bs,d,rfl⟩,HRP⟩;obtain⟨va,vc,rfl⟩:=RepE.form HRP;have HRP:=Lib.hid HRP)
 have HC:=Lib.hid (fun W (hW:RepE (fun b=>w.heap.size≤b) W E0 (.slice va E0.args.length vc)) (hT:Tab W)=>fd0 ▸ cFold_any hW hT (by decide))
 go_wp2_with (first|(go_at_call 13;refine(HC.out _ (HRP.out.alloc _) ((HT.out.grow _ _).alloc _)).mono ?_;rintro e' w' ⟨v2,rfl,⟨bs2,d2,rfl⟩,HR2⟩;obtain⟨va2,vc2,rfl⟩:=RepE.form HR2;have HR2:=Lib.hid HR2)|(go_at_call 34;refine(fmt1 va2 vc2 _ HR2.out).mono ?_;rintro e' w' ⟨rfl,bs3,d3,rfl⟩))
 go_returns
 exact⟨congrArg (fun b=>Ending.returned (.bool b)) tl1,growsR⟩
end Go.Proofs.YtfoefpoaomepbaaGreatDoor
namespace Go.Proofs.YtfoefpoaomepbaaGreatDoor
open Go.ChangeShapes Go.WideShapes Go.ChangeAt Go.RowKit
abbrev laidsX:List (String × DataW Unit):=[("math/bits.deBruijn32tab",Rows.laid_math_bits_deBruijn32tab),("math/bits.deBruijn64tab",Rows.laid_math_bits_deBruijn64tab),("internal/strconv.uint64pow10",Rows.laid_internal_strconv_uint64pow10)]
theorem pow10_data:(Rows.laid_internal_strconv_uint64pow10:DataW Unit)=Lib.tabData .u64 Lib.pow10Tab:=by kernel_rfl
theorem laids_plain{W:World}(h:laidMetH Tryz.prog laidsX W):laidMet Tryz.prog laidsX W:=by
 rwa [MakeChecks.laidMetH_plain _ _ _ (by kernel_rfl)]at h
theorem below_trodAll{H:Type}{enc:TypeId × Value→H}{P:Program}{W W':World}(hl:laidOutB P=true)(hb:Below W.heap.size W W'):∀(ts:List TypeId) (vs:List Value) (ds:List (DataW H)) (ps:List MemPlace),(∀t∈ts,P.readableRec t=true∧t<P.types.size)→
 DataW.TrodAll enc P W 0 (fun _=>true) true ts vs ds ps→(∀x∈ps,x.block<W.heap.size)→DataW.TrodAll enc P W' 0 (fun b=>decide (b<W.heap.size)) true ts vs ds ps
 | [],[],[],_,_,h,_=>h
 |t::ts,v::vs,d::ds,ps,hr,h,hlt=>by
  obtain⟨p,q,h1,h2,rfl⟩:=h
  exact⟨p,q,Below.trod hl (hr t List.mem_cons_self).1 (hr t List.mem_cons_self).2 h1 hb fun x hx=>hlt x (List.mem_append_left _ hx),
   below_trodAll hl hb ts vs ds q (fun t ht=>hr t (List.mem_cons_of_mem _ ht)) h2 fun x hx=>hlt x (List.mem_append_right _ hx),rfl⟩
 | [],_::_,_,_,_,h,_=>h.elim
 | [],[],_::_,_,_,h,_=>h.elim
 |_::_,[],_,_,_,h,_=>h.elim
 |_::_,_::_,[],_,_,h,_=>h.elim
def LawWalk{H:Type}(enc:TypeId × Value→H)(P:Program)(f:FuncId)(ts:List TypeId):Prop:=
 ∀(W:World) (base:Nat) (args:Array Value) (ds:List (DataW H)) (p:List MemPlace),laidMetH P laidsX W→(∀(j:Nat) t v,ts[j]? =some t→args[j]? =some v→Value.okWide P W .any base t v)→
  DataW.TrodAll enc P W 0 (fun _=>true) true ts args.toList ds p→(∀(j:Nat) t d,ts[j]? =some t→ds[j]? =some d→fits P t d)→
  Calls P f args W fun e W'=>e= .returned (.bool true)∧Below W.heap.size W W'
theorem law_post{H:Type}{enc:TypeId × Value→H}{P:Program}{fn:Func}{s:ChangeSpec}{W W':World}{args:Array Value}{ds gs:List (DataW H)}{before:List MemPlace}(hl:laidOutB P=true)
 (hr:fn.params.toList.all (fun t=>P.readableRec t&&decide (t<P.types.size))=true) (hres:fn.resultTypes=#[4]) (hu:P.underlying 4=some .bool) (hvars:s.vars= [])
 (hspec:∀ds:List (DataW H),ds.length=fn.params.size→s.fn H (ds++[])= {results:=[.lit (.bool true)],args:=ds})
 (hW:DataW.Whole enc P fn.params.toList s.vars false W args.toList ds gs before) (hb:Below W.heap.size W W'):s.post enc P fn false true false false W args (.bool true) W':=by
 have hW':=hW
 obtain⟨p,q,hA,hV,rfl,hfz,hnd⟩:=hW
 rw [hvars]at hV
 obtain⟨rfl,rfl⟩:=trodVars_none hV
 have hlen:∀(ts:List TypeId) (vs:List Value) (ds:List (DataW H)) (ps:List MemPlace),DataW.TrodAll enc P W 0 (fun _=>true) true ts vs ds ps→ds.length=ts.length:=by
  intro ts
  induction ts with
  |nil=>intro vs ds ps h;cases vs<;>cases ds<;>simp_all [DataW.TrodAll]
  |cons t ts ih=>
   intro vs ds ps h
   cases vs with
   |nil=>exact h.elim
   |cons v vs=>
    cases ds with
    |nil=>exact h.elim
    |cons d ds=>
     obtain⟨_,_,_,h2,_⟩:=h
     simp [ih _ _ _ h2]
 have hds:ds.length=fn.params.size:=by rw [hlen _ _ _ _ hA];simp
 have hs:=hspec ds hds
 have hlt:∀x∈p,x.block<W.heap.size:=fun x hx=>by have:=hW'.lt x (by simpa using hx);simpa using this
 refine⟨ds,[],p++[],[],p,[],hW', ?_, ?_, ?_,hb.frame _,fun h=>by cases h⟩
 ·rw [hs,hres]
  exact trodAll_mk1 (shut_bool hu _)
 ·rw [hs]
  refine below_trodAll hl hb _ _ _ _ (fun t ht=>?_) hA hlt
  have:=List.all_eq_true.1 hr t ht
  simpa using this
 ·rw [hs,hvars];rfl
theorem law_lift{H:Type}{enc:TypeId × Value→H}{C:Checked}{os:Os}{f:FuncId}{fn:Func}{s:ChangeSpec}{conds:List PathCond}(own:ownKnob C.prog.godebug=none)(started:os.Started)(noInit:C.prog.inits.idxOf? f=none)(hfn:C.prog.funcs[f]? =some fn)
 (witness:∃(w:World) (tape:Tape) (i:Input),w.os=os∧(w.forCall tape i).Shaped C.prog∧i.vars= []∧Input.okWide C.prog (w.forCall tape i) .any w.heap.size f i∧
  ((s.pre enc C.prog fn conds false (w.forCall tape i).memory i.args∧laidMetH C.prog laidsX (w.forCall tape i).memory)∧sizedMet enc C.prog fn (OpenSpec.ofChange s) false (w.forCall tape i).memory i.args)∧({}:Assume).holds C.prog (lone (Frame.enter C.prog f i.args .normal) [] (w.forCall tape i)))
 (hl:laidOutB C.prog=true) (hr:fn.params.toList.all (fun t=>C.prog.readableRec t&&decide (t<C.prog.types.size))=true) (hres:fn.resultTypes=#[4]) (hu:C.prog.underlying 4=some .bool) (hvars:s.vars= [])
 (hspec:∀ds:List (DataW H),ds.length=fn.params.size→s.fn H (ds++[])= {results:=[.lit (.bool true)],args:=ds}) (walk:LawWalk enc C.prog f fn.params.toList) :
 ReturnsInHanded {} C os f .any (fun w args=>(s.pre enc C.prog fn conds false w args∧laidMetH C.prog laidsX w)∧sizedMet enc C.prog fn (OpenSpec.ofChange s) false w args) (s.post enc C.prog fn false true false false):=by
 refine returnsInHanded_of_change_and (C:=C) (X:=fun w _=>laidMetH C.prog laidsX w) (fun _ _ _ hh h=>h.of_heap hh) own started noInit hfn witness ?_
 intro W base args ds gs before hval hW _ hsz hL _
 have hW':=hW
 obtain⟨p,q,hA,hV,rfl,hfz,hnd⟩:=hW
 have e:s.vars= []:=hvars
 rw [e]at hV
 obtain⟨rfl,rfl⟩:=trodVars_none hV
 refine(walk W base args ds p hL (fun j t v ht ha=>hval j t v (by simpa using ht) ha) hA (fun j t d ht hd n hn=>?_)).mono fun e W' ⟨he,hb⟩=>⟨_,he,law_post hl hr hres hu hvars hspec hW' hb⟩
 have:=List.all_eq_true.1 hsz n (DataW.weights_mem_each (j:=j) (by rw [List.getElem?_append_left (List.getElem?_eq_some_iff.1 ht).1];exact ht) (by rw [List.append_nil];exact hd) n hn)
 exact of_decide_eq_true this
theorem own:ownKnob Tryz.prog.godebug=none:=by kernel_rfl
theorem laidOut:laidOutB Tryz.prog=true:=by kernel_rfl
theorem laidsMet(os:Os)(args:Array Value):laidMetH Tryz.prog laidsX ((World.laidAll Tryz.prog os laidsX).forCall (fun _ _=>0) ⟨#[],args,[]⟩).memory:=by
 rw [MakeChecks.laidMetH_plain _ _ _ (by kernel_rfl)]
 exact laidMet_laidAll args (by kernel_rfl) (by kernel_rfl)
theorem tab_of_laid{W:World}(h:laidMetH Tryz.prog laidsX W):Tab W:=by
 have h2:=(laids_plain h).tail.tail
 rw [pow10_data]at h2
 exact Lib.tabIs_of_head (P:=Tryz.prog) (g:=2) (t:=257) (n:=20) (e:=165) (by kernel_rfl) (by kernel_rfl) (by kernel_rfl) (by kernel_rfl) (by kernel_rfl) (by kernel_rfl) h2
end Go.Proofs.YtfoefpoaomepbaaGreatDoor
namespace Go.Proofs.YtfoefpoaomepbaaGreatDoor
open Go.RowKit Go.ChangeShapes Go.WideShapes Go.Deep
theorem array7{α:Type}{cs:Array α}(h:cs.size=7):∃c0 c1 c2 c3 c4 c5 c6,cs=#[c0,c1,c2,c3,c4,c5,c6]:=by
 obtain⟨l⟩:=cs
 match l,h with
 | [c0,c1,c2,c3,c4,c5,c6],_=>exact⟨c0,c1,c2,c3,c4,c5,c6,rfl⟩
theorem c7w:(Tryz.prog).cellsOf 36=7:=by kernel_rfl
theorem VwR.of_trod{H:Type}{enc:TypeId × Value→H}{w:World}{r:Reach}{b0:Nat}{v:Value}{d:DataW H}{p:List MemPlace}(hv:Value.okWide Tryz.prog w r b0 36 v)
 (h:DataW.Trod enc Tryz.prog w 0 (fun _=>true) true 36 v d p) (hf:fits Tryz.prog 36 d) :
 ∃(R:VwR) (vd vy:Value),v= .agg #[.int .i64 R.age,.int .i64 R.year,.int .i64 R.children,.int .i64 R.base,.int .i64 R.den,vd,vy]∧IntsAt w vd R.days∧IntsAt w vy R.years:=by
 have ht:=Tryz.underlying36
 obtain⟨cs,rfl,hsz⟩:=okWide_struct ht hv
 obtain⟨c0,c1,c2,c3',c4,c5,c6,rfl⟩:=array7 (hsz.trans c7w)
 obtain⟨fuel,h⟩:=h
 obtain⟨xs,n,_,hx,_,hlen,hF⟩:=DataW.trod_struct ht h
 simp only [Prod.mk.injEq]at hx
 obtain⟨rfl,-⟩:=hx
 have k0:=hF 0 _ rfl
 have k1:=hF 1 _ rfl
 have k2:=hF 2 _ rfl
 have k3:=hF 3 _ rfl
 have k4:=hF 4 _ rfl
 have k5:=hF 5 _ rfl
 have k6:=hF 6 _ rfl
 simp only [Value.cells,List.drop_zero,List.drop_succ_cons,List.take_succ_cons,List.take_zero]at k0 k1 k2 k3 k4 k5 k6
 match xs,hlen with
 | [y0,y1,y2,y3,y4,y5,y6],_=>
   obtain⟨n0,rfl,w0⟩:=int_of_trod k0
   obtain⟨n1,rfl,w1⟩:=int_of_trod k1
   obtain⟨n2,rfl,w2⟩:=int_of_trod k2
   obtain⟨n3,rfl,w3⟩:=int_of_trod k3
   obtain⟨n4,rfl,w4⟩:=int_of_trod k4
   obtain⟨z5,w5⟩:=IntsAt.of_trod Tryz.underlying22 Tryz.underlying3 c3 b3 k5 (fits_part ht hf (i:=5) rfl rfl)
   obtain⟨z6,w6⟩:=IntsAt.of_trod Tryz.underlying22 Tryz.underlying3 c3 b3 k6 (fits_part ht hf (i:=6) rfl rfl)
   exact⟨⟨n0,n1,n2,n3,n4,z5,z6⟩,_,_,rfl,w5,w6⟩
theorem ints_of{H:Type}{enc:TypeId × Value→H}{W:World}{v:Value}{d:DataW H}{p:List MemPlace}{r:Reach}{b0:Nat}(hv:Value.okWide Tryz.prog W r b0 22 v)(h:DataW.Trod enc Tryz.prog W 0 (fun _=>true) true 22 v d p)(hf:fits Tryz.prog 22 d):∃zs,IntsAt W v zs:=by
 obtain⟨fuel,h⟩:=h
 obtain⟨a,len,cap,rfl⟩:=okWide_slice Tryz.underlying22 hv
 exact IntsAt.of_trod (v:=.slice a len cap) Tryz.underlying22 Tryz.underlying3 c3 b3 (by simpa [Value.cells]using h) hf
end Go.Proofs.YtfoefpoaomepbaaGreatDoor
