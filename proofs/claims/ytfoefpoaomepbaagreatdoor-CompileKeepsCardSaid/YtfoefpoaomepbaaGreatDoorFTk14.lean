import Derived.Test.YtfoefpoaomepbaaGreatDoorFTk7
import Derived.Test.YtfoefpoaomepbaaGreatDoorFFlA
import Derived.Test.YtfoefpoaomepbaaGreatDoorFApl
import Derived.Test.YtfoefpoaomepbaaGreatDoorFK
set_option linter.all false
set_option maxHeartbeats 16000000
set_option maxRecDepth 1000000
namespace Go.Proofs.YtfoefpoaomepbaaGreatDoor
open Go.RowKit
def BrP(o n d m:Int)(nm:ByteArray)(a:Option Addr)(k c:Nat)(t:ByteArray)(W:World):Prop:=Calls Tryz.prog 132 #[.agg #[.int .i64 o,.int .i64 n,.int .i64 d,.int .i64 m,.string nm,.slice a k c]] W fun e w'=>e= .returned (.string t)∧W.Grows w'
theorem put_any(o n d m least:Int)(nm:ByteArray)(a:Option Addr)(k c:Nat)(t:ByteArray)(w:World)(ho:1≤o∧o≤21)(hl:¬lvF o<least)(HB:Hid (∀W,w.Grows W→BrP o n d m nm a k c t W)):Calls Tryz.prog 83 #[.agg #[.int .i64 o,.int .i64 n,.int .i64 d,.int .i64 m,.string nm,.slice a k c],.int .i64 least] w fun e w'=>e= .returned (.string t)∧w.Grows w':=by
 have HL:=Lib.hid (fun W=>level_any o W ho)
 unfold BrP at HB
 go_enter Tryz.func83,Tryz.ntmps83
 go_wp2_with (first|(go_at_call 132;refine(HB.out _ growsR).mono ?_;rintro e' w' ⟨rfl,bs,d,rfl⟩)|(go_at_call 133;refine(HL.out _).mono ?_;rintro e' w' ⟨rfl,rfl⟩))
 exact fz27
theorem bare_name(nm:ByteArray)(a:Option Addr)(k c:Nat)(W:World):BrP 2 0 0 0 nm a k c nm W:=by
 unfold BrP
 have HL:=Lib.hid (fun W=>level_any 2 W (by decide))
 go_enter Tryz.func132,Tryz.ntmps132
 go_wp2_with (go_at_call 133;refine(HL.out _).mono ?_;rintro e' w' ⟨rfl,rfl⟩)
 exact fz27
theorem bare_lit(n d m:Int)(a:Option Addr)(k c:Nat)(t:ByteArray)(W:World)(h:decV n d m= .tuple #[.string t,.bool true])(hn:-1000≤n∧n≤1000)(hd:-1000≤d∧d≤1000):BrP 1 n d m ByteArray.empty a k c t W:=by
 unfold BrP
 have HL:=Lib.hid (fun W=>level_any 1 W (by decide))
 have HF:=Lib.hid (fun W=>FormatDecimal_any n d m W (by omega) (by omega) (by omega) (by omega))
 rw [h]at HF
 go_enter Tryz.func132,Tryz.ntmps132
 go_wp2_with (first|(go_at_call 133;refine(HL.out _).mono ?_;rintro e' w' ⟨rfl,rfl⟩)|(go_at_call 91;refine(HF.out _).mono ?_;rintro e' w' ⟨rfl,bs,d,rfl⟩))
 exact fz27
def E1:Ex:=.mk 7 0 0 0 ByteArray.empty [litE 6,ageE]
def tx1:ByteArray:=⟨#[54,32,43,32,97,103,101]⟩
theorem dec6:decV 6 1 2= .tuple #[.string ⟨#[54]⟩,.bool true]:=by kernel_rfl
theorem bare_add{S:Nat→Prop}(a:Option Addr)(cap:Nat)(w:World)(h:RepE S w E1 (.slice a 2 cap)):BrP 7 0 0 0 ByteArray.empty a 2 cap tx1 w:=by
 obtain⟨b,off,rfl,hb,hx⟩:=RepE.arg_cells (e:=E1) h (by decide)
 obtain⟨a0,k0,h0,-⟩:=hx 0 (by decide)
 obtain⟨a1,k1,h1,-⟩:=hx 1 (by decide)
 clear hx h
 have y0:w.cell? ⟨b,off,none⟩=some (.int .i64 1):=h0.c0
 have y1:w.cell? ⟨b,off+1,none⟩=some (.int .i64 6):=h0.c1
 have y2:w.cell? ⟨b,off+2,none⟩=some (.int .i64 1):=h0.c2
 have y3:w.cell? ⟨b,off+3,none⟩=some (.int .i64 2):=h0.c3
 have y4:w.cell? ⟨b,off+4,none⟩=some (.string ByteArray.empty):=h0.c4
 have y5:w.cell? ⟨b,off+5,none⟩=some (.slice a0 0 k0):=h0.c5
 have z0:w.cell? ⟨b,off+6,none⟩=some (.int .i64 2):=h1.c0
 have z1:w.cell? ⟨b,off+6+1,none⟩=some (.int .i64 0):=h1.c1
 have z2:w.cell? ⟨b,off+6+2,none⟩=some (.int .i64 0):=h1.c2
 have z3:w.cell? ⟨b,off+6+3,none⟩=some (.int .i64 0):=h1.c3
 have z4:w.cell? ⟨b,off+6+4,none⟩=some (.string ⟨#[97,103,101]⟩):=h1.c4
 have z5:w.cell? ⟨b,off+6+5,none⟩=some (.slice a1 0 k1):=h1.c5
 clear h0 h1
 unfold BrP
 have HL:Hid (∀W,Calls Tryz.prog 133 #[.int .i64 7] W fun e w'=>e= .returned (.int .i64 5)∧W=w'):=Lib.hid (fun W=>level_any 7 W (by decide))
 have HS:Hid (∀W,Calls Tryz.prog 171 #[.int .i64 7] W fun e w'=>e= .returned (.string ⟨#[43]⟩)∧W=w'):=Lib.hid (fun W=>signOf_any 7 W (by decide))
 have HP0:=Lib.hid (fun W=>put_any 1 6 1 2 5 ByteArray.empty a0 0 k0 ⟨#[54]⟩ W (by decide) (by decide) (Lib.hid fun W _=>bare_lit 6 1 2 a0 0 k0 ⟨#[54]⟩ W dec6 (by decide) (by decide)))
 have HP1:=Lib.hid (fun W=>put_any 2 0 0 0 6 ⟨#[97,103,101]⟩ a1 0 k1 ⟨#[97,103,101]⟩ W (by decide) (by decide) (Lib.hid fun W _=>bare_name ⟨#[97,103,101]⟩ a1 0 k1 W))
 go_enter Tryz.func132,Tryz.ntmps132
 go_upto_region 25 with (go_at_call 133;refine(HL.out _).mono ?_;rintro e' w' ⟨rfl,rfl⟩)
 refine wp_region_quietG (by kernel_rfl) (by kernel_rfl) ?_
 repeat(go_big_quiet_step (first|(go_at_call 83;(first|with_reducible exact Calls.quietG (HP0.out _)|with_reducible exact Calls.quietG (HP1.out _)))|(go_at_call 171;exact Calls.quietS (HS.out _))))
 refine wpQuiet_nil ?_
 intro _ hw'
 obtain⟨⟨gb,gd⟩,hw''⟩:=hw'
 subst hw''
 go_wp2_with fail
 trace_state
 exact fz27
theorem cutF{P:Program}{c:Code}{Q:Exit→Act→World→Prop}{a:Act}{w:World}(S:World→Prop)(h:S w)(k:∀W,S W→c.wp P Q a W):c.wp P Q a w:=k w h
theorem heap_newF(w:World)(o:Obj)(k:Nat)(h:k=w.heap.size):(w.alloc o).heap[k]? =some o:=by subst h;exact heap_alloc_new _ _
theorem infoVaF:(Tryz.prog.info? 41).map (fun i=>(i.zero,i.size,i.bytes))=some (some (.agg #[.int .i64 0,.bool false,.int .i64 0,.int .i64 0]),4,32):=by kernel_rfl
theorem infoInF:(Tryz.prog.info? 3).map (fun i=>(i.zero,i.size,i.bytes))=some (some (.int .i64 0),1,8):=by kernel_rfl
def litX(l:List (Ex × Value)):List Ex:=(l.map (·.1)).filter fun e=>e.op==1
theorem litX_yes(l:List (Ex × Value)){z:Ex}(v:Value)(h:(z.op==1)=true):litX (l++[(z,v)])=litX l++[z]:=by
 unfold litX;rw [List.map_append,List.filter_append];simp [List.filter,h]
theorem litX_no(l:List (Ex × Value)){z:Ex}(v:Value)(h:(z.op==1)=false):litX (l++[(z,v)])=litX l:=by
 unfold litX;rw [List.map_append,List.filter_append];simp [List.filter,h]
theorem litX_le(l:List (Ex × Value)):(litX l).length≤l.length:=by
 unfold litX;exact Nat.le_trans (List.length_filter_le _ _) (by simp)
theorem litX_all{l:List (Ex × Value)}(h:(litX l).length=l.length):litX l=l.map (·.1)∧litL l=true:=by
 unfold litX litL at *
 have h2:((l.map (·.1)).filter fun e=>e.op==1).length=(l.map (·.1)).length:=by rw [h];simp
 have h3:=List.length_filter_eq_length_iff.1 h2
 refine⟨List.filter_eq_self.2 h3,List.all_eq_true.2 fun x hx=>h3 _ (List.mem_map_of_mem hx)⟩
theorem litX_not{l:List (Ex × Value)}(h:(litX l).length<l.length):litL l=false:=by
 cases hl:litL l with
 |false=>rfl
 |true=>
  exfalso
  have:litX l=l.map (·.1):=by
   unfold litX litL at *
   refine List.filter_eq_self.2 fun y hy=>?_
   obtain⟨x,hx,rfl⟩:=List.mem_map.1 hy
   exact List.all_eq_true.1 hl x hx
  rw [this]at h;simp at h
theorem foldOp_no{op:Int}(h:foldOp op=false):(op==4)=false∧(op==6)=false∧(op==7)=false∧(op==8)=false∧(op==9)=false∧(op==10)=false∧(op==19)=false∧(op==20)=false:=by
 unfold foldOp at h
 simp only [decide_eq_false_iff_not,not_or]at h
 simp [h]
theorem foldOp_bools{op:Int}(h:foldOp op=true):((op==4)=true)∨((op==4)=false∧(((op==6)=true)∨((op==6)=false∧(((op==7)=true)∨((op==7)=false∧(((op==8)=true)∨((op==8)=false∧(((op==9)=true)∨((op==9)=false∧(((op==10)=true)∨((op==10)=false∧(((op==19)=true)∨((op==19)=false∧((op==20)=true)))))))))))))):=by
 unfold foldOp at h
 simp only [decide_eq_true_eq]at h
 rcases h with rfl|rfl|rfl|rfl|rfl|rfl|rfl|rfl<;>decide
theorem own_ne{w:World}{base:Nat}{T:TypeId}{c n:Nat}{a:Option Addr}{cap:Nat}{xs:List Value}(h:w.ownsRow base T c (.slice a n cap) n xs)(hn:0<n):∃g,a=some ⟨g,0,none⟩∧g<w.heap.size:=by
 rcases h.2 with ⟨_,h0⟩|⟨g,cap',cur,hv,hb,hg,_⟩
 ·omega
 ·injection hv with e1 e2 e3
  exact⟨g,e1,(Array.getElem?_eq_some_iff.1 hg).1⟩
theorem foldOp_list{op:Int}(h:foldOp op=true):op=4∨op=6∨op=7∨op=8∨op=9∨op=10∨op=19∨op=20:=by
 unfold foldOp at h
 simpa using h
theorem own_growF{w w':World}{base:Nat}{T:TypeId}{c n:Nat}{v:Value}{xs:List Value}(h:w.ownsRow base T c v n xs)(hg:w.Grows w'):w'.ownsRow base T c v n xs:=ownsRow_keep h fun k _ hlt=>hg.below.block k hlt
theorem CalcOk.dims{E:Ex}(ok:CalcOk E):∀x∈E.args.map Ex.dim,1≤x:=by
 intro x hx
 obtain⟨y,hy,rfl⟩:=List.mem_map.1 hx
 have:=decOk_bd (lit_dec (formeds_mem ok.args.1 y hy) (ok.lit y hy))
 omega
theorem rsF(E:Ex)(ok:CalcOk E)(base g cap:Nat)(w:World)(ho:w.ownsRow base 3 1 (.slice (some ⟨g,0,none⟩) E.args.length cap) E.args.length ((E.args.map Ex.dim).map (Value.int .i64))):Calls Tryz.prog 90 #[.int .i64 E.op,.slice (some ⟨g,0,none⟩) E.args.length cap] w (Res5P (resD E.op (E.args.map Ex.dim)) w):=by
 have hb:=foldOp_bd ok.op
 have hl:(E.args.map Ex.dim).length=E.args.length:=by simp
 have:=res5_all E.op (E.args.map Ex.dim) base g cap w hb.1 (by omega) (by rw [hl];exact ok.args.2) ok.dims (by rw [hl];exact ho)
 rw [hl]at this
 exact this
theorem apF(E:Ex)(ok:CalcOk E)(hr:resD E.op (E.args.map Ex.dim)≠0)(base g cap:Nat)(w:World)(ho:w.ownsRow base 41 4 (.slice (some ⟨g,0,none⟩) E.args.length cap) E.args.length (vlF (E.args.map litV))):Calls Tryz.prog 60 #[.int .i64 E.op,.slice (some ⟨g,0,none⟩) E.args.length cap] w (ApP (opV E.op (E.args.map litV)) w):=by
 have hb:=foldOp_bd ok.op
 have hne:0<E.args.length:=by
  have:=ok.args.2
  unfold argsN at this
  rw [if_neg (by omega)]at this
  (repeat' split at this)<;>omega
 obtain⟨g',hg',hgl⟩:=own_ne ho hne
 obtain rfl:g=g':=by injection hg' with e;injection e
 have hc:=fun k hk=>ho.cellAt k hk
 by_cases h6:E.op≤6
 ·have ha:=ok.one h6
  have hx:=(ok.arg (i:=0) hne).2
  rw [ha]at hr hc ⊢
  have:=apply1_any E.op (litV (E.arg 0)) g 0 cap w hx hb.1 h6 hr hgl (hc 0 (by simp)) (hc 1 (by simp)) (hc 2 (by simp)) (hc 3 (by simp))
  unfold opV
  rw [if_pos h6]
  exact this
 ·have ha:=ok.two (by omega)
  have h2:E.args.length=2:=by rw [ha];rfl
  have hx:=(ok.arg (i:=0) hne).2
  have hy:=(ok.arg (i:=1) (by omega)).2
  rw [ha]at hr hc ⊢
  have:=apply2_any E.op (litV (E.arg 0)) (litV (E.arg 1)) g 0 cap w hx hy (by have:=foldOp_list ok.op;omega) hr hgl (hc 0 (by simp)) (hc 1 (by simp)) (hc 2 (by simp)) (hc 3 (by simp)) (hc 4 (by simp)) (hc 5 (by simp)) (hc 6 (by simp)) (hc 7 (by simp))
  unfold opV
  rw [if_neg h6]
  exact this
theorem calc_rF{e:Ex}{l:List (Ex × Value)}(ok:CalcOk (.mk e.op e.num e.den e.dim e.name (List.map (fun x:Ex × Value=>x.1) l)))(hres:resD e.op ((l.map (·.1)).map Ex.dim)≠0):∃rm ry rn rd rc,opV e.op ((l.map (·.1)).map litV)=(⟨rm,ry,rn,rd⟩,rc)∧okR (resD e.op ((l.map (·.1)).map Ex.dim)) (⟨rm,ry,rn,rd⟩,rc)∧
 calcF e.op (l.map (·.1))=if rc=0∧decOk rn rd (resD e.op ((l.map (·.1)).map Ex.dim))=true then some (rn,rd,resD e.op ((l.map (·.1)).map Ex.dim))else none:=by
 have h1:=ok.ok hres
 have h2:=fun r hR=>ok.calc r hR hres
 obtain⟨r,hr⟩:∃r,opV e.op ((l.map (·.1)).map litV)=r:=⟨_,rfl⟩
 have h1':okR (resD e.op ((l.map (·.1)).map Ex.dim)) (opV e.op ((l.map (·.1)).map litV)):=h1
 rw [hr]at h1'
 have h3:=h2 (r.1.n,r.1.d,r.2) (by
  show(opV e.op ((l.map (·.1)).map litV)).2=_∧(_→(opV e.op ((l.map (·.1)).map litV)).1.n=_∧(opV e.op ((l.map (·.1)).map litV)).1.d=_)
  rw [hr];exact⟨rfl,fun _=>⟨rfl,rfl⟩⟩)
 obtain⟨⟨rm,ry,rn,rd⟩,rc⟩:=r
 exact⟨rm,ry,rn,rd,rc,hr,h1',h3⟩
theorem val_bdF{m n d:Int}{b:Bool}(h:Val.ok ⟨m,b,n,d⟩=true):-9223372036854775808≤n∧n≤9223372036854775807∧-9223372036854775808≤d∧d≤9223372036854775807:=by
 by_cases hd:m=1
 ·unfold Val.ok at h
  simp [hd]at h
  omega
 ·have:=vfrac_bd (Val.ok_num h hd).2.2.2
  simp only at this
  omega
def FlS(base:Nat)(w:World)(va:Value)(aL:Option Addr)(cL:Nat)(aD:Option Addr)(cD nl:Nat)(l:List (Ex × Value)):Prop:=
 Fl3 base w va (.slice aL nl cL) (.slice aD nl cD) l ((litX l).map litV) ((litX l).map Ex.dim)∧nl=(litX l).length
theorem rfold_walk(n:Nat):∀(e:Ex),e.size≤n→Hid (e.size≤1000000)→Hid (formedB e=true)→∀(S:Nat→Prop) (v:Value) (w:World),RepE S w e v→Calls Tryz.prog 38 #[exV e v] w (MadeEx w (foldF e)):=by
 induction n with
 |zero=>intro e he;have:=e.size_pos;omega
 |succ n ih=>
  intro e he hbig hform S v w h
  have IH:=Lib.hid ih
  clear ih
  obtain⟨i0,hi,hz0,hz1,hz2⟩:=info_parts infoExpr
  obtain⟨i1,hi1,hz11,hz21,hz31⟩:=info_parts infoVaF
  obtain⟨i2,hi2,hz12,hz22,hz32⟩:=info_parts infoInF
  cases h with
  |mk _ a cap vs hr hc hs=>
   have hlen:e.args.length≤1000000:=by have:=hbig.out;have:=e.size_eq;have:=Ex.length_sizes e.args;omega
   have Hr:=Lib.hid hr
   have Hs:=Lib.hid hs
   have He:=Lib.hid he
   have Hc:=Lib.hid hc
   have HLE:=Lib.hid hlen
   clear hr hs he hc
   go_enter Tryz.func38,Tryz.ntmps38
   go_wp2_with fail
   go_loopw [4,5,6] (fun v4 v5 v6 wr=>∃k:Nat,∃l:List (Ex × Value),∃va:Value,∃aL cL aD cD,∃nl:Nat,∃bs d,k≤e.args.length∧v6= .int .i64 k∧v4= .slice aL nl cL∧v5= .slice aD nl cD∧Hid ((e.args.take k).map foldF=l.map (·.1))∧Hid (l.length=k)∧
    wr=(((w.alloc ((.cells #[.int .i64 e.op,.int .i64 e.num,.int .i64 e.den,.int .i64 e.dim,.string e.name,.slice a e.args.length cap] 27))).alloc ((.cells #[.int .i64 0,.int .i64 0,.int .i64 0,.int .i64 0,.string ⟨#[]⟩,.slice none 0 0] 27))).alloc ((.cells #[.int .i64 e.op,.int .i64 e.num,.int .i64 e.den,.int .i64 e.dim,.string e.name,va] 27))).grow bs d∧Hid (FlS (w.heap.size+3) wr va aL cL aD cD nl l)) (fun _ _ v6 _=>e.args.length-(intOf v6).toNat)
   case atStart=>exact⟨0,[],.slice none 0 0,none,0,none,0,0,#[],_,by omega,rfl,rfl,rfl,Lib.hid rfl,Lib.hid rfl,World.grow_self _,Lib.hid ⟨.nil _ _,rfl⟩⟩
   case round=>
    obtain⟨k,l,va,aL,cL,aD,cD,nl,bs,d,hk,rfl,rfl,rfl,HN,HLL,rfl,HF⟩:=hrel
    by_cases hlt:k<e.args.length
    ·rcases Hc.out with h0|⟨b,off,rfl,hS,hbw,hx⟩
     ·omega
     ·obtain⟨x0,x1,x2,x3,x4,x5⟩:=hx k hlt
      clear hx
      have hlt1:(k:Int)<(e.args.length:Int):=by omega
      have hr1:=Hs.out k hlt
      obtain⟨ka,kc,hvk⟩:=hr1.form0
      rw [hvk]at hr1 x5
      have HR1:=Lib.hid hr1
      clear hvk hr1
      have HA:=Lib.hid (e.size_arg k hlt)
      have HZ:=Lib.hid (show(e.arg k).size≤n by have:=He.out;have:=HA.out;omega)
      have HB:=Lib.hid (show(e.arg k).size≤1000000 by have:=hbig.out;have:=HA.out;omega)
      have HFA:=Lib.hid (formed_arg hform.out k hlt)
      have HTK:=Lib.hid (fun ve=>foldsF_take e k hlt HN.out ve)
      generalize e.arg k=y at *
      obtain⟨z,hz⟩:∃z,foldF y=z:=⟨_,rfl⟩
      rw [hz]at HTK
      have HZF:=Lib.hid hz
      obtain⟨aa,acap,hva⟩:=HF.out.1.toRow.form
      have HKL:=Lib.hid hlt
      clear hz hk hlt
      rw [HLL.out]at hva
      subst hva
      have HOWN:=Lib.hid (fun W (hg:World.Grows _ W)=>(show W.ownsRow (w.heap.size+3) 27 6 (.slice aa k acap) k (cellsL l)from by have:=(HF.out.1.grows hg).oa;rw [HLL.out]at this;exact this))
      go_upto_region 8 with (go_at_call 38;refine(IH.out y HZ.out HB HFA S (.slice ka y.args.length kc) _ (HR1.out.grows growsR)).mono ?_;rintro e' w' ⟨ve,rfl,⟨bs2,d2,rfl⟩,hrep⟩;rw [HZF.out]at hrep;obtain⟨za,zc,rfl⟩:=hrep.form0;have H1:=Lib.hid hrep;clear hrep;rw [HZF.out])
      go_upto_region 9 with ((at_builtin;refine wpList_append_lies _ rfl _ _ 25 rfl (w.heap.size+3) 27 i0 _ 6 72 Tryz.underlying25 hi hz0 hz1 hz2 rfl (by decide) (.slice aa k acap) k (cellsL l) rfl (HOWN.out _ growsR) ⟨_,0,none⟩ 1 1 (cells1 z (.slice za z.args.length zc)) rfl rfl ?c1 ?c2 (by decide) ?c3 ?c4 ?c5 _ rfl ?_))
      case c1=>exact news_cells _ (cells1 z (.slice za z.args.length zc)) _ _ (by simp)
      case c2=>exact cells1_one _ _ rfl
      case c3=>have:=HLL.out;have:=HLE.out;have:=HKL.out;unfold maxLen;omega
      case c4=>have:=HLL.out;omega
      case c5=>simp;omega
      intro g' cap' w1 hown' hgrow hat hlt'
      have HRZ:RepE (fun b=>w.heap.size+3+bs.size≤b) (((((((w.alloc (.cells #[.int .i64 e.op,.int .i64 e.num,.int .i64 e.den,.int .i64 e.dim,.string e.name,.slice (some ⟨b,off,none⟩) e.args.length cap] 27)).alloc ((.cells #[.int .i64 0,.int .i64 0,.int .i64 0,.int .i64 0,.string ⟨#[]⟩,.slice none 0 0] 27))).alloc ((.cells #[.int .i64 e.op,.int .i64 e.num,.int .i64 e.den,.int .i64 e.dim,.string e.name,.slice aa k acap] 27)))).grow (bs++bs2) d2).alloc (.cells #[.int .i64 z.op,.int .i64 z.num,.int .i64 z.den,.int .i64 z.dim,.string z.name,.slice za z.args.length zc] 27))) z (.slice za z.args.length zc):=((H1.out.eqw (w':=((((w.alloc (.cells #[.int .i64 e.op,.int .i64 e.num,.int .i64 e.den,.int .i64 e.dim,.string e.name,.slice (some ⟨b,off,none⟩) e.args.length cap] 27)).alloc ((.cells #[.int .i64 0,.int .i64 0,.int .i64 0,.int .i64 0,.string ⟨#[]⟩,.slice none 0 0] 27))).alloc ((.cells #[.int .i64 e.op,.int .i64 e.num,.int .i64 e.den,.int .i64 e.dim,.string e.name,.slice aa k acap] 27)))).grow (bs++bs2) d2) (by simp)).mono (S':=fun b=>w.heap.size+3+bs.size≤b) (fun b hb=>by simpa using hb)).alloc _
      have HF0:Fl3 (w.heap.size+3) (((((((w.alloc (.cells #[.int .i64 e.op,.int .i64 e.num,.int .i64 e.den,.int .i64 e.dim,.string e.name,.slice (some ⟨b,off,none⟩) e.args.length cap] 27)).alloc ((.cells #[.int .i64 0,.int .i64 0,.int .i64 0,.int .i64 0,.string ⟨#[]⟩,.slice none 0 0] 27))).alloc ((.cells #[.int .i64 e.op,.int .i64 e.num,.int .i64 e.den,.int .i64 e.dim,.string e.name,.slice aa k acap] 27)))).grow (bs++bs2) d2).alloc (.cells #[.int .i64 z.op,.int .i64 z.num,.int .i64 z.den,.int .i64 z.dim,.string z.name,.slice za z.args.length zc] 27))) (.slice aa k acap) (.slice aL nl cL) (.slice aD nl cD) l ((litX l).map litV) ((litX l).map Ex.dim):=HF.out.1.grows growsR
      have ba:=fun k hk=>show k<w.heap.size+3+bs.size by have:=(HF.out.1.oa.lt k hk).2;simpa using this
      have bl:=fun k hk=>show k<w.heap.size+3+bs.size by have:=(HF.out.1.ol.lt k hk).2;simpa using this
      have bd:=fun k hk=>show k<w.heap.size+3+bs.size by have:=(HF.out.1.od.lt k hk).2;simpa using this
      have R1:=Fl3.pushA (m:=w.heap.size+3+bs.size) (HF0.alloc _) (HRZ.alloc _) (by omega) ba bl bd (by rw [HLL.out]) rfl hown' hgrow hat (by simp)
      have hx1:=hgrow.block (w.heap.size+1+1+1+(bs.size+bs2.size)) (by first|(simp;done)|(simp;omega)) (fun e=>by have:=ba _ e.symm;omega)
      have G1:=World.Grows.of_below (w:=((((w.alloc (.cells #[.int .i64 e.op,.int .i64 e.num,.int .i64 e.den,.int .i64 e.dim,.string e.name,.slice (some ⟨b,off,none⟩) e.args.length cap] 27)).alloc ((.cells #[.int .i64 0,.int .i64 0,.int .i64 0,.int .i64 0,.string ⟨#[]⟩,.slice none 0 0] 27))).alloc ((.cells #[.int .i64 e.op,.int .i64 e.num,.int .i64 e.den,.int .i64 e.dim,.string e.name,.slice aa k acap] 27))))) ((((Below.refl _ _).grow (Nat.le_refl _) (bs++bs2) d2).alloc (by simp) _).alloc (by simp;omega) _|>.grown hgrow (by simp;omega) (fun j hj=>by have:=(HF.out.1.oa.lt j hj).1;simpa using this))
      rw [Below.heap_alloc _ _ _ (by simp),heap_newF _ _ _ (by simp)]at hx1
      have nL:(Value.slice aL nl cL).ownBlock≠some (w.heap.size+1+1+1+(bs.size+bs2.size)):=fun e=>by have:=bl _ e;omega
      have nD:(Value.slice aD nl cD).ownBlock≠some (w.heap.size+1+1+1+(bs.size+bs2.size)):=fun e=>by have:=bd _ e;omega
      have hxs1:w.heap.size+1+1+1+(bs.size+bs2.size)<w1.heap.size:=(Array.getElem?_eq_some_iff.1 hx1).1
      clear hown' hgrow hat hlt' HF0 HRZ
      obtain⟨bs9,d9,rfl⟩:=G1
      have R2:=Lib.hid (R1.lift0 (A':=((((w.alloc (.cells #[.int .i64 e.op,.int .i64 e.num,.int .i64 e.den,.int .i64 e.dim,.string e.name,.slice (some ⟨b,off,none⟩) e.args.length cap] 27)).alloc ((.cells #[.int .i64 0,.int .i64 0,.int .i64 0,.int .i64 0,.string ⟨#[]⟩,.slice none 0 0] 27))).alloc ((.cells #[.int .i64 e.op,.int .i64 e.num,.int .i64 e.den,.int .i64 e.dim,.string e.name,.slice (some ⟨g',0,none⟩) (k+1) cap'] 27))))) (by simp) (by simp) d9)
      have hx2:(((((w.alloc (.cells #[.int .i64 e.op,.int .i64 e.num,.int .i64 e.den,.int .i64 e.dim,.string e.name,.slice (some ⟨b,off,none⟩) e.args.length cap] 27)).alloc ((.cells #[.int .i64 0,.int .i64 0,.int .i64 0,.int .i64 0,.string ⟨#[]⟩,.slice none 0 0] 27))).alloc ((.cells #[.int .i64 e.op,.int .i64 e.num,.int .i64 e.den,.int .i64 e.dim,.string e.name,.slice (some ⟨g',0,none⟩) (k+1) cap'] 27)))).grow bs9 d9).heap[w.heap.size+1+1+1+(bs.size+bs2.size)]? =_:=(heap_sameF (by simp) bs9 d9 d9 (by first|(simp;done)|(simp;omega))).trans hx1
      have HX2:=Lib.hid hx2
      have HNL:=Lib.hid nL
      have HND:=Lib.hid nD
      clear R1 hx1 hx2 nL nD ba bl bd
      go_upto_region 9 with fail
      have hnl:=HF.out.2
      have HNLL:=Lib.hid (show nl≤1000000 by have:=litX_le l;have:=HLL.out;have:=HKL.out;have:=HLE.out;omega)
      have HNL2:=Lib.hid hnl
      refine cutF (fun W=>((((w.alloc (.cells #[.int .i64 e.op,.int .i64 e.num,.int .i64 e.den,.int .i64 e.dim,.string e.name,.slice (some ⟨b,off,none⟩) e.args.length cap] 27)).alloc ((.cells #[.int .i64 0,.int .i64 0,.int .i64 0,.int .i64 0,.string ⟨#[]⟩,.slice none 0 0] 27))).alloc ((.cells #[.int .i64 e.op,.int .i64 e.num,.int .i64 e.den,.int .i64 e.dim,.string e.name,.slice (some ⟨g',0,none⟩) (k+1) cap'] 27)))).Grows W∧Fl3 (w.heap.size+3) W (.slice (some ⟨g',0,none⟩) (k+1) cap') (.slice aL nl cL) (.slice aD nl cD) (l++[(z,.slice za z.args.length zc)]) ((litX l).map litV) ((litX l).map Ex.dim)∧W.heap[w.heap.size+1+1+1+(bs.size+bs2.size)]? =some (.cells #[.int .i64 z.op,.int .i64 z.num,.int .i64 z.den,.int .i64 z.dim,.string z.name,.slice za z.args.length zc] 27 (0,0))) ⟨growsR,R2.out,HX2.out⟩ ?_
      intro W hW
      obtain⟨hgW,hFW,hXW⟩:=hW
      clear hnl HX2 R2 HF HOWN x0 x1 x2 x3 x4 x5
      generalize w.heap.size+1+1+1+(bs.size+bs2.size)=XB at *
      have z0:=cell_of_row W XB 0 _ _ _ hXW
      have z1:=cell_of_row W XB 1 _ _ _ hXW
      have z2:=cell_of_row W XB 2 _ _ _ hXW
      have z3:=cell_of_row W XB 3 _ _ _ hXW
      have hXl:=(Array.getElem?_eq_some_iff.1 hXW).1
      have hWs:w.heap.size+3≤W.heap.size:=by have:=hgW.below.size;simp at this;omega
      have HWS:=Lib.hid hWs
      have HGW:=Lib.hid hgW
      have HFW:=Lib.hid hFW
      have HXW:=Lib.hid hXW
      clear hgW hFW hXW
      cases hzo:z.op==1 with
      |false=>
       have HLN:=Lib.hid (litX_no l (.slice za z.args.length zc) hzo)
       go_wp2_with fail
       go_roundw
       case rel=>
        obtain⟨bsW,dW,rfl⟩:=HGW.out
        exact⟨k+1,l++[(z,.slice za z.args.length zc)],_,aL,cL,aD,cD,nl,bsW,dW,HKL.out,by go_num,rfl,rfl,Lib.hid (HTK.out _),Lib.hid (by simp;exact HLL.out),rfl,Lib.hid ⟨by rw [HLN.out];exact HFW.out,by rw [HLN.out];exact HNL2.out⟩⟩
       case measure=>simp [intOf];have:=HKL.out;omega
      |true=>
       have HLY:=Lib.hid (litX_yes l (.slice za z.args.length zc) hzo)
       have HOWL:=Lib.hid (fun W' (hg:W.Grows W')=>(show W'.ownsRow (w.heap.size+3) 41 4 (.slice aL nl cL) nl (vlF ((litX l).map litV))from by have:=(HFW.out.grows hg).ol;rw [List.length_map,←HNL2.out]at this;exact this))
       go_upto_region 11 with ((at_builtin;refine wpList_append_lies _ rfl _ _ 125 rfl (w.heap.size+3) 41 i1 _ 4 32 Tryz.underlying125 hi1 hz11 hz21 hz31 rfl (by decide) (.slice aL nl cL) nl (vlF ((litX l).map litV)) rfl (HOWL.out _ growsR) ⟨_,0,none⟩ 1 1 [.int .i64 z.dim,.bool false,.int .i64 z.num,.int .i64 z.den] rfl rfl (news_cells _ [.int .i64 z.dim,.bool false,.int .i64 z.num,.int .i64 z.den] _ _ (by simp)) (by intro u hu;simp at hu;rcases hu with rfl|rfl|rfl|rfl<;>rfl) (by decide) ?c3 ?c4 ?c5 _ rfl ?_))
       case c3=>have:=HNLL.out;unfold maxLen;omega
       case c4=>have:=HNLL.out;omega
       case c5=>simp;omega
       intro g2 c2 w2 ho2 hg2 hat2 hl2
       have R3:=Fl3.pushL (x:=litV z) (HFW.out.alloc (.cells #[.int .i64 z.dim,.bool false,.int .i64 z.num,.int .i64 z.den] 41)) (by rw [List.length_map,←HNL2.out]) rfl ho2 hg2 hat2 (by simp)
       have hG2:((((w.alloc (.cells #[.int .i64 e.op,.int .i64 e.num,.int .i64 e.den,.int .i64 e.dim,.string e.name,.slice (some ⟨b,off,none⟩) e.args.length cap] 27)).alloc ((.cells #[.int .i64 0,.int .i64 0,.int .i64 0,.int .i64 0,.string ⟨#[]⟩,.slice none 0 0] 27))).alloc ((.cells #[.int .i64 e.op,.int .i64 e.num,.int .i64 e.den,.int .i64 e.dim,.string e.name,.slice (some ⟨g',0,none⟩) (k+1) cap'] 27)))).Grows w2:=World.Grows.grown (World.Grows.trans' HGW.out (growsR:W.Grows (W.alloc (.cells #[.int .i64 z.dim,.bool false,.int .i64 z.num,.int .i64 z.den] 41)))) hg2 (fun j hj=>by have:=(HFW.out.ol.lt j hj).1;simpa using this)
       have hX2:=(hg2.block XB (by simp;omega) (fun e=>HNL.out e.symm)).trans ((Below.heap_alloc _ _ _ hXl).trans HXW.out)
       have z0:=cell_of_row w2 XB 0 _ _ _ hX2
       have z1:=cell_of_row w2 XB 1 _ _ _ hX2
       have z2:=cell_of_row w2 XB 2 _ _ _ hX2
       have z3:=cell_of_row w2 XB 3 _ _ _ hX2
       have hXl2:=(Array.getElem?_eq_some_iff.1 hX2).1
       have hw2:w.heap.size+3≤w2.heap.size:=by have:=hG2.below.size;simp at this;omega
       have HR3:=Lib.hid R3
       have HG2:=Lib.hid hG2
       clear ho2 hg2 hat2 hX2 R3 hG2
       have HOWD:=Lib.hid (fun W' (hg:w2.Grows W')=>(show W'.ownsRow (w.heap.size+3) 3 1 (.slice aD nl cD) nl ((litX l).map fun y=>.int .i64 y.dim)from by have:=(HR3.out.grows hg).od;rw [List.length_map,←HNL2.out,List.map_map]at this;exact this))
       go_wp2_with ((at_builtin;refine wpList_append_lies _ rfl _ _ 22 rfl (w.heap.size+3) 3 i2 _ 1 8 Tryz.underlying22 hi2 hz12 hz22 hz32 rfl (by decide) (.slice aD nl cD) nl ((litX l).map fun y=>.int .i64 y.dim) rfl (HOWD.out _ growsR) ⟨_,0,none⟩ 1 1 [.int .i64 z.dim] rfl rfl (news_cells _ [.int .i64 z.dim] _ _ (by simp)) (by intro u hu;simp at hu;rcases hu with rfl<;>rfl) (by decide) ?c3 ?c4 ?c5 _ rfl ?_))
       case c3=>have:=HNLL.out;unfold maxLen;omega
       case c4=>have:=HNLL.out;omega
       case c5=>simp;omega
       intro g3 c3 w3 ho3 hg3 hat3 hl3
       have R4:=Fl3.pushD (x:=z.dim) (HR3.out.alloc (.cells #[.int .i64 z.dim] 3)) (by rw [List.length_map,←HNL2.out]) (by rw [List.map_map];rfl) ho3 hg3 hat3 (by simp)
       have hG3:((((w.alloc (.cells #[.int .i64 e.op,.int .i64 e.num,.int .i64 e.den,.int .i64 e.dim,.string e.name,.slice (some ⟨b,off,none⟩) e.args.length cap] 27)).alloc ((.cells #[.int .i64 0,.int .i64 0,.int .i64 0,.int .i64 0,.string ⟨#[]⟩,.slice none 0 0] 27))).alloc ((.cells #[.int .i64 e.op,.int .i64 e.num,.int .i64 e.den,.int .i64 e.dim,.string e.name,.slice (some ⟨g',0,none⟩) (k+1) cap'] 27)))).Grows w3:=World.Grows.grown (World.Grows.trans' HG2.out (growsR:w2.Grows (w2.alloc (.cells #[.int .i64 z.dim] 3)))) hg3 (fun j hj=>by have:=(HR3.out.od.lt j hj).1;simpa using this)
       have HR4:=Lib.hid R4
       have HG3:=Lib.hid hG3
       clear ho3 hg3 hat3 R4 hG3
       go_wp2_with fail
       go_roundw
       case rel=>
        obtain⟨bsW,dW,rfl⟩:=HG3.out
        exact⟨k+1,l++[(z,.slice za z.args.length zc)],_,_,c2,_,c3,nl+1,bsW,dW,HKL.out,by go_num,rfl,rfl,Lib.hid (HTK.out _),Lib.hid (by simp;exact HLL.out),rfl,Lib.hid ⟨by rw [HLY.out,List.map_append,List.map_append];exact HR4.out,by rw [HLY.out,HNL2.out];simp⟩⟩
       case measure=>simp [intOf];have:=HKL.out;omega
    ·obtain rfl:k=e.args.length:=by omega
     have HN2:=Lib.hid (show e.args.map foldF=l.map (·.1)by have:=HN.out;rw [List.take_length]at this;exact this)
     obtain⟨aa,acap,hva⟩:=HF.out.1.toRow.form
     rw [HLL.out]at hva
     subst hva
     have hrc:=fun(o:Obj)=>((HF.out.1.toRow.lift0 (A':=((w.alloc ((.cells #[.int .i64 e.op,.int .i64 e.num,.int .i64 e.den,.int .i64 e.dim,.string e.name,.slice a e.args.length cap] 27))).alloc o).alloc ((.cells #[.int .i64 e.op,.int .i64 e.num,.int .i64 e.den,.int .i64 e.dim,.string e.name,.slice aa e.args.length acap] 27))) (by simp) (by simp) d).repE (e:=.mk e.op e.num e.den e.dim e.name (l.map (·.1))) (rng_args Hr.out (by rw [List.length_map,HLL.out])) rfl)
     have HRC:=Lib.hid hrc
     have hnl:=HF.out.2
     have hle:=litX_le l
     have HRW:=Lib.hid (And.intro HF.out.1.ol HF.out.1.od)
     clear hrc HN hk hlt
     cases hfo:foldOp e.op with
     |false=>
      have HK:=Lib.hid (fold_keep HN2.out (fold_not (.inr hfo)))
      obtain⟨b4,b6,b7,b8,b9,b10,b19,b20⟩:=foldOp_no hfo
      clear hfo HRW HF hnl hle
      go_wp2_with fail
      go_returns
      rw [HK.out]
      exact⟨.slice aa e.args.length acap,rfl,growsR,((HRC.out ((.cells #[.int .i64 e.op,.int .i64 e.num,.int .i64 e.den,.int .i64 e.dim,.string e.name,.slice aa e.args.length acap] 27))).mono (S':=fun b=>w.heap.size≤b) (fun b hb=>by show w.heap.size≤b;omega)).grows growsR⟩
     |true=>
      have HBO:=Lib.hid (foldOp_bools hfo)
      go_upto_block 2 with fail
      go_cut []from 57 to 67 (fun wx=>wx=(((w.alloc ((.cells #[.int .i64 e.op,.int .i64 e.num,.int .i64 e.den,.int .i64 e.dim,.string e.name,.slice a e.args.length cap] 27))).alloc ((.cells #[.int .i64 0,.int .i64 0,.int .i64 0,.int .i64 0,.string ⟨#[]⟩,.slice none 0 0] 27))).alloc ((.cells #[.int .i64 e.op,.int .i64 e.num,.int .i64 e.den,.int .i64 e.dim,.string e.name,.slice aa e.args.length acap] 27))).grow bs d)
      case first=>
       clear HRW HF hnl hle hfo
       rcases HBO.out with b4|⟨b4,b6|⟨b6,b7|⟨b7,b8|⟨b8,b9|⟨b9,b10|⟨b10,b19|⟨b19,b20⟩⟩⟩⟩⟩⟩⟩
       all_goals
        clear HBO
        go_wp2_with fail
        go_meet
        exact rfl
      case rest=>
      obtain rfl:=hcut
      by_cases hcnt:nl<e.args.length
      ·have HK:=Lib.hid (fold_keep HN2.out (fold_not (.inl (litX_not (by rw [HLL.out,←hnl];exact hcnt)))))
       have hc1:(nl:Int)<(e.args.length:Int):=by omega
       clear hfo HRW HF hnl hle hcnt
       go_wp2_with fail
       go_returns
       rw [HK.out]
       exact⟨.slice aa e.args.length acap,rfl,growsR,((HRC.out ((.cells #[.int .i64 e.op,.int .i64 e.num,.int .i64 e.den,.int .i64 e.dim,.string e.name,.slice aa e.args.length acap] 27))).mono (S':=fun b=>w.heap.size≤b) (fun b hb=>by show w.heap.size≤b;omega)).grows growsR⟩
      ·have hall:(litX l).length=l.length:=by rw [HLL.out]at hle ⊢;omega
       obtain⟨hlx,hll⟩:=litX_all hall
       have hnk:nl=e.args.length:=by rw [hnl,hall,HLL.out]
       have HCK:=Lib.hid (fold_calc HN2.out hform.out hfo hll)
       rw [hlx]at HRW
       subst hnk
       have hE:(Ex.mk e.op e.num e.den e.dim e.name (List.map (fun x:Ex × Value=>x.1) l)).args.length=e.args.length:=by show(l.map (·.1)).length=_;simp;exact HLL.out
       have hl1:(((l.map (·.1)).map Ex.dim).length)=e.args.length:=by simp;exact HLL.out
       have hl2:(((l.map (·.1)).map litV).length)=e.args.length:=by simp;exact HLL.out
       have hoL:((((w.alloc ((.cells #[.int .i64 e.op,.int .i64 e.num,.int .i64 e.den,.int .i64 e.dim,.string e.name,.slice a e.args.length cap] 27))).alloc ((.cells #[.int .i64 0,.int .i64 0,.int .i64 0,.int .i64 0,.string ⟨#[]⟩,.slice none 0 0] 27))).alloc ((.cells #[.int .i64 e.op,.int .i64 e.num,.int .i64 e.den,.int .i64 e.dim,.string e.name,.slice aa e.args.length acap] 27))).grow bs d).ownsRow (w.heap.size+3) 41 4 (.slice aL e.args.length cL) e.args.length (vlF ((l.map (·.1)).map litV)):=by have:=HRW.out.1;rw [hl2]at this;exact this
       have hoD:((((w.alloc ((.cells #[.int .i64 e.op,.int .i64 e.num,.int .i64 e.den,.int .i64 e.dim,.string e.name,.slice a e.args.length cap] 27))).alloc ((.cells #[.int .i64 0,.int .i64 0,.int .i64 0,.int .i64 0,.string ⟨#[]⟩,.slice none 0 0] 27))).alloc ((.cells #[.int .i64 e.op,.int .i64 e.num,.int .i64 e.den,.int .i64 e.dim,.string e.name,.slice aa e.args.length acap] 27))).grow bs d).ownsRow (w.heap.size+3) 3 1 (.slice aD e.args.length cD) e.args.length (((l.map (·.1)).map Ex.dim).map (Value.int .i64)):=by have:=HRW.out.2;rw [hl1]at this;exact this
       have hn0:0<e.args.length:=by
        have h1:=HCK.out.args.2
        rw [hE]at h1
        have h4:(Ex.mk e.op e.num e.den e.dim e.name (l.map (·.1))).op=e.op:=rfl
        rw [h4]at h1
        have:=foldOp_bd hfo
        unfold argsN at h1
        rw [if_neg (by omega)]at h1
        (repeat' split at h1)<;>omega
       obtain⟨gD,rfl,hgD⟩:=own_ne hoD hn0
       obtain⟨gL,rfl,hgL⟩:=own_ne hoL hn0
       clear hgD hgL
       have HRS:Hid (∀W',((((w.alloc ((.cells #[.int .i64 e.op,.int .i64 e.num,.int .i64 e.den,.int .i64 e.dim,.string e.name,.slice a e.args.length cap] 27))).alloc ((.cells #[.int .i64 0,.int .i64 0,.int .i64 0,.int .i64 0,.string ⟨#[]⟩,.slice none 0 0] 27))).alloc ((.cells #[.int .i64 e.op,.int .i64 e.num,.int .i64 e.den,.int .i64 e.dim,.string e.name,.slice aa e.args.length acap] 27))).grow bs d).Grows W'→Calls Tryz.prog 90 #[.int .i64 e.op,.slice (some ⟨gD,0,none⟩) e.args.length cD] W' (Res5P (resD e.op ((l.map (·.1)).map Ex.dim)) W')):=Lib.hid (fun W' hg=>by
        have:=rsF _ HCK.out (w.heap.size+3) gD cD W' (by rw [hE];exact own_growF hoD hg)
        rw [hE]at this
        exact this)
       by_cases hres:resD e.op ((l.map (·.1)).map Ex.dim)=0
       ·have HK:=Lib.hid (fold_keep HN2.out (CalcOk.no (e:=.mk e.op e.num e.den e.dim e.name (List.map (fun x:Ex × Value=>x.1) l)) hres))
        rw [hres]at HRS
        unfold Res5P at HRS
        clear hfo HRW HF hnl hle hcnt hlx hll hall HCK hoL hoD hE hl1 hl2 hres hn0
        go_wp2_with (go_at_call 90;refine(HRS.out _ growsR).mono ?_;rintro e' w' ⟨rfl,bs5,d5,rfl⟩)
        go_returns
        rw [HK.out]
        exact⟨.slice aa e.args.length acap,rfl,growsR,((HRC.out ((.cells #[.int .i64 e.op,.int .i64 e.num,.int .i64 e.den,.int .i64 e.dim,.string e.name,.slice aa e.args.length acap] 27))).mono (S':=fun b=>w.heap.size≤b) (fun b hb=>by show w.heap.size≤b;omega)).grows growsR⟩
       ·have hrb:(resD e.op ((l.map (·.1)).map Ex.dim)==0)=false:=by simpa using hres
        have HAP:Hid (∀W',((((w.alloc ((.cells #[.int .i64 e.op,.int .i64 e.num,.int .i64 e.den,.int .i64 e.dim,.string e.name,.slice a e.args.length cap] 27))).alloc ((.cells #[.int .i64 0,.int .i64 0,.int .i64 0,.int .i64 0,.string ⟨#[]⟩,.slice none 0 0] 27))).alloc ((.cells #[.int .i64 e.op,.int .i64 e.num,.int .i64 e.den,.int .i64 e.dim,.string e.name,.slice aa e.args.length acap] 27))).grow bs d).Grows W'→Calls Tryz.prog 60 #[.int .i64 e.op,.slice (some ⟨gL,0,none⟩) e.args.length cL] W' (ApP (opV e.op ((l.map (·.1)).map litV)) W')):=Lib.hid (fun W' hg=>by
         have:=apF _ HCK.out hres (w.heap.size+3) gL cL W' (by rw [hE];exact own_growF hoL hg)
         rw [hE]at this
         exact this)
        obtain⟨rm,ry,rn,rd,rc,hop,hokR,hcalc⟩:=calc_rF HCK.out hres
        rw [hop]at HAP
        obtain⟨dm,hdm⟩:∃d,resD e.op ((l.map (·.1)).map Ex.dim)=d:=⟨_,rfl⟩
        rw [hdm]at HRS hokR hcalc hrb
        clear hop hdm
        unfold Res5P at HRS
        unfold ApP at HAP
        dsimp only at HAP
        have HHC:=Lib.hid hcalc
        have HOK:=Lib.hid hokR
        clear hfo HRW HF hnl hle hcnt hlx hll hall HCK hoL hoD hE hl1 hl2 hres hn0 hcalc hokR
        by_cases hrc:rc=0
        ·subst hrc
         have hg:=HOK.out.good rfl
         obtain⟨hg1,hg2⟩:=hg
         change rm=dm at hg2
         subst hg2
         have hbd:=val_bdF hg1
         have HFD:=Lib.hid (fun W'=>FormatDecimal_any rn rd rm W' hbd.1 hbd.2.1 hbd.2.2.1 hbd.2.2.2)
         cases hdk:decOk rn rd rm with
         |false=>
          rw [decV_no hdk]at HFD
          have HK:=Lib.hid (fold_keep HN2.out (by rw [HHC.out,if_neg (by rw [hdk];simp)]))
          clear hdk HHC HOK hg1 hbd
          go_wp2_with ((first|(go_at_call 90;refine(HRS.out _ growsR).mono ?_;rintro e' w' ⟨rfl,bs5,d5,rfl⟩)|(go_at_call 60;refine(HAP.out _ growsR).mono ?_;rintro e' w' ⟨rfl,bs6,d6,rfl⟩)|(go_at_call 91;refine(HFD.out _).mono ?_;rintro e' w' ⟨rfl,bs7,d7,rfl⟩)))
          go_returns
          rw [HK.out]
          exact⟨.slice aa e.args.length acap,rfl,growsR,((HRC.out ((.cells #[.int .i64 e.op,.int .i64 e.num,.int .i64 e.den,.int .i64 e.dim,.string e.name,.slice aa e.args.length acap] 27))).mono (S':=fun b=>w.heap.size≤b) (fun b hb=>by show w.heap.size≤b;omega)).grows growsR⟩
         |true=>
          rw [decV_yes hdk]at HFD
          have HK:=Lib.hid (show foldF e= .mk 1 rn rd rm ByteArray.empty []by rw [fold_node HN2.out];unfold foldNode;rw [HHC.out,if_pos ⟨rfl,hdk⟩])
          have HRL:=Lib.hid (rng_lit hdk)
          clear hdk HHC HOK hg1 hbd
          go_wp2_with ((first|(go_at_call 90;refine(HRS.out _ growsR).mono ?_;rintro e' w' ⟨rfl,bs5,d5,rfl⟩)|(go_at_call 60;refine(HAP.out _ growsR).mono ?_;rintro e' w' ⟨rfl,bs6,d6,rfl⟩)|(go_at_call 91;refine(HFD.out _).mono ?_;rintro e' w' ⟨rfl,bs7,d7,rfl⟩)))
          go_returns
          rw [HK.out]
          exact⟨.slice none 0 0,rfl,growsR,RepE.nil HRL.out rfl⟩
        ·have h1:(rc !=0)=true:=by simpa using hrc
         have HK:=Lib.hid (fold_keep HN2.out (by rw [HHC.out,if_neg (fun c=>hrc c.1)]))
         clear hrc HHC HOK
         go_wp2_with (first|(go_at_call 90;refine(HRS.out _ growsR).mono ?_;rintro e' w' ⟨rfl,bs5,d5,rfl⟩)|(go_at_call 60;refine(HAP.out _ growsR).mono ?_;rintro e' w' ⟨rfl,bs6,d6,rfl⟩))
         go_returns
         rw [HK.out]
         exact⟨.slice aa e.args.length acap,rfl,growsR,((HRC.out ((.cells #[.int .i64 e.op,.int .i64 e.num,.int .i64 e.den,.int .i64 e.dim,.string e.name,.slice aa e.args.length acap] 27))).mono (S':=fun b=>w.heap.size≤b) (fun b hb=>by show w.heap.size≤b;omega)).grows growsR⟩
theorem rfold_any{S:Nat→Prop}{e:Ex}{v:Value}{w:World}(h:RepE S w e v)(hb:e.size≤1000000)(hf:formedB e=true):Calls Tryz.prog 38 #[exV e v] w (MadeEx w (foldF e)):=rfold_walk e.size e (Nat.le_refl _) (Lib.hid hb) (Lib.hid hf) S v w h
def fdF(e:Ex):Ex:=if validB e=true then foldF e else e
theorem cFold_any{S:Nat→Prop}{e:Ex}{v:Value}{w:World}(h:RepE S w e v)(ht:Tab w)(hb:e.size≤1000000):Calls Tryz.prog 13 #[exV e v] w (MadeEx w (fdF e)):=by
 obtain⟨va,vc,rfl⟩:=RepE.form h
 have HR:=Lib.hid h
 have HT:=Lib.hid ht
 have HV:=Lib.hid (fun W (hW:RepE S W e (.slice va e.args.length vc)) (hT:Tab W)=>ValidExpr2_any S e _ W (Lib.hid hW) (Lib.hid (by omega)) (Lib.hid hT))
 clear h ht
 cases hvb:validB e with
 |false=>
  have HF:fdF e=e:=by unfold fdF;rw [hvb];rfl
  rw [HF]
  rw [hvb]at HV
  have HC:=Lib.hid (fun W (hW:RepE S W e (.slice va e.args.length vc))=>cclone_any hW (Lib.hid hb))
  clear HF
  go_enter Tryz.func13,Tryz.ntmps13
  go_wp2_with (first|(go_at_call 35;refine(HV.out _ ((by repeat' (first|(with_reducible exact HR.out)|(with_reducible refine RepE.grow ?_ _ _)|(with_reducible refine RepE.alloc ?_ _)))) ((by repeat' (first|(with_reducible exact HT.out)|(with_reducible refine Tab.grow ?_ _ _)|(with_reducible refine Tab.alloc ?_ _))))).mono ?_;rintro e' w' ⟨rfl,bs,d,rfl⟩)|(go_at_call 36;refine(HC.out _ ((by repeat' (first|(with_reducible exact HR.out)|(with_reducible refine RepE.grow ?_ _ _)|(with_reducible refine RepE.alloc ?_ _))))).mono ?_;(rintro e' w' ⟨v2,rfl,⟨bs2,d2,rfl⟩,HRP⟩;obtain⟨va2,vc2,rfl⟩:=RepE.form HRP;have HRP:=Lib.hid HRP)))
  go_returns
  exact⟨_,rfl,growsR,((HRP.out.eqw (w':=((w.alloc ((.cells #[.int .i64 e.op,.int .i64 e.num,.int .i64 e.den,.int .i64 e.dim,.string e.name,.slice va e.args.length vc] 27))).alloc ((.cells #[.int .i64 0,.int .i64 0,.int .i64 0,.int .i64 0,.string ⟨#[]⟩,.slice none 0 0] 27))).grow (bs++bs2) d2) (by simp)).lift0 (A':=(w.alloc ((.cells #[.int .i64 e.op,.int .i64 e.num,.int .i64 e.den,.int .i64 e.dim,.string e.name,.slice va e.args.length vc] 27))).alloc (.cells #[.int .i64 (e).op,.int .i64 (e).num,.int .i64 (e).den,.int .i64 (e).dim,.string (e).name,.slice va2 (e).args.length vc2] 27)) (by simp) (by simp) d2).mono fun b hb=>by simp at hb;omega⟩
 |true=>
  have HF:fdF e=foldF e:=by unfold fdF;rw [hvb];rfl
  rw [HF]
  rw [hvb]at HV
  have hfm:=valid_formed hvb
  have HC:=Lib.hid (fun W (hW:RepE S W e (.slice va e.args.length vc)) (hT:Tab W)=>cfold_any hW hT hb hfm)
  clear HF hfm
  generalize foldF e=E at *
  go_enter Tryz.func13,Tryz.ntmps13
  go_wp2_with (first|(go_at_call 35;refine(HV.out _ ((by repeat' (first|(with_reducible exact HR.out)|(with_reducible refine RepE.grow ?_ _ _)|(with_reducible refine RepE.alloc ?_ _)))) ((by repeat' (first|(with_reducible exact HT.out)|(with_reducible refine Tab.grow ?_ _ _)|(with_reducible refine Tab.alloc ?_ _))))).mono ?_;rintro e' w' ⟨rfl,bs,d,rfl⟩)|(go_at_call 37;refine(HC.out _ ((by repeat' (first|(with_reducible exact HR.out)|(with_reducible refine RepE.grow ?_ _ _)|(with_reducible refine RepE.alloc ?_ _)))) ((by repeat' (first|(with_reducible exact HT.out)|(with_reducible refine Tab.grow ?_ _ _)|(with_reducible refine Tab.alloc ?_ _))))).mono ?_;(rintro e' w' ⟨v2,rfl,⟨bs2,d2,rfl⟩,HRP⟩;obtain⟨va2,vc2,rfl⟩:=RepE.form HRP;have HRP:=Lib.hid HRP)))
  go_returns
  exact⟨_,rfl,growsR,((HRP.out.eqw (w':=((w.alloc ((.cells #[.int .i64 e.op,.int .i64 e.num,.int .i64 e.den,.int .i64 e.dim,.string e.name,.slice va e.args.length vc] 27))).alloc ((.cells #[.int .i64 0,.int .i64 0,.int .i64 0,.int .i64 0,.string ⟨#[]⟩,.slice none 0 0] 27))).grow (bs++bs2) d2) (by simp)).lift0 (A':=(w.alloc ((.cells #[.int .i64 e.op,.int .i64 e.num,.int .i64 e.den,.int .i64 e.dim,.string e.name,.slice va e.args.length vc] 27))).alloc (.cells #[.int .i64 (E).op,.int .i64 (E).num,.int .i64 (E).den,.int .i64 (E).dim,.string (E).name,.slice va2 (E).args.length vc2] 27)) (by simp) (by simp) d2).mono fun b hb=>by simp at hb;omega⟩
def RfQ(S:Nat→Prop)(w:World)(E:Ex)(e:Ending)(w':World):Prop:=∃v,e= .returned (exV E v)∧w.Grows w'∧RepE (fun b=>S b∨w.heap.size≤b) w' E v
theorem rFold_any{S:Nat→Prop}{e:Ex}{v:Value}{w:World}(h:RepE S w e v)(hb:e.size≤1000000):Calls Tryz.prog 14 #[exV e v] w (RfQ S w (fdF e)):=by
 obtain⟨va,vc,rfl⟩:=RepE.form h
 have HR:=Lib.hid h
 have HV:=Lib.hid (fun W (hW:RepE S W e (.slice va e.args.length vc))=>ValidExpr_any S e _ W (Lib.hid hW) (Lib.hid (by omega)))
 clear h
 cases hvb:validB e with
 |false=>
  have HF:fdF e=e:=by unfold fdF;rw [hvb];rfl
  rw [HF]
  rw [hvb]at HV
  clear HF
  go_enter Tryz.func14,Tryz.ntmps14
  go_wp2_with (go_at_call 31;refine(HV.out _ ((by repeat' (first|(with_reducible exact HR.out)|(with_reducible refine RepE.grow ?_ _ _)|(with_reducible refine RepE.alloc ?_ _))))).mono ?_;rintro e' w' ⟨rfl,bs,d,rfl⟩)
  go_returns
  exact⟨_,rfl,growsR,(HR.out.grows growsR).mono fun b hb=>.inl hb⟩
 |true=>
  have HF:fdF e=foldF e:=by unfold fdF;rw [hvb];rfl
  rw [HF]
  rw [hvb]at HV
  have hfm:=valid_formed hvb
  have HC:=Lib.hid (fun W (hW:RepE S W e (.slice va e.args.length vc))=>rfold_any hW hb hfm)
  clear HF hfm
  generalize foldF e=E at *
  go_enter Tryz.func14,Tryz.ntmps14
  go_wp2_with (first|(go_at_call 31;refine(HV.out _ ((by repeat' (first|(with_reducible exact HR.out)|(with_reducible refine RepE.grow ?_ _ _)|(with_reducible refine RepE.alloc ?_ _))))).mono ?_;rintro e' w' ⟨rfl,bs,d,rfl⟩)|(go_at_call 38;refine(HC.out _ ((by repeat' (first|(with_reducible exact HR.out)|(with_reducible refine RepE.grow ?_ _ _)|(with_reducible refine RepE.alloc ?_ _))))).mono ?_;(rintro e' w' ⟨v2,rfl,⟨bs2,d2,rfl⟩,HRP⟩;obtain⟨va2,vc2,rfl⟩:=RepE.form HRP;have HRP:=Lib.hid HRP)))
  go_returns
  exact⟨_,rfl,growsR,((HRP.out.eqw (w':=((w.alloc ((.cells #[.int .i64 e.op,.int .i64 e.num,.int .i64 e.den,.int .i64 e.dim,.string e.name,.slice va e.args.length vc] 27))).alloc ((.cells #[.int .i64 0,.int .i64 0,.int .i64 0,.int .i64 0,.string ⟨#[]⟩,.slice none 0 0] 27))).grow (bs++bs2) d2) (by simp)).lift0 (A':=(w.alloc ((.cells #[.int .i64 e.op,.int .i64 e.num,.int .i64 e.den,.int .i64 e.dim,.string e.name,.slice va e.args.length vc] 27))).alloc (.cells #[.int .i64 E.op,.int .i64 E.num,.int .i64 E.den,.int .i64 E.dim,.string E.name,.slice va2 E.args.length vc2] 27)) (by simp) (by simp) d2).mono fun b hb=>.inr (by simp at hb;omega)⟩
theorem fd0:fdF E0=E1:=by kernel_rfl
theorem tl1:(tx1.toList== [54,32,43,32,97,103,101])=true:=by decide+kernel
theorem val1:validB E1=true:=by decide+kernel
theorem fmt1{S:Nat→Prop}(a:Option Addr)(cap:Nat)(w:World)(h:RepE S w E1 (.slice a 2 cap)):Calls Tryz.prog 34 #[.agg #[.int .i64 7,.int .i64 0,.int .i64 0,.int .i64 0,.string ByteArray.empty,.slice a 2 cap]] w fun e w'=>e= .returned (.tuple #[.string tx1,.bool true])∧w.Grows w':=by
 have HV:=Lib.hid (fun W (hw:w.Grows W)=>ValidExpr_any S E1 (.slice a 2 cap) W (Lib.hid (h.grows hw)) (Lib.hid (by decide)))
 rw [val1]at HV
 have HP:=Lib.hid (fun W (hw:w.Grows W)=>put_any 7 0 0 0 0 ByteArray.empty a 2 cap tx1 W (by decide) (by decide) (Lib.hid fun W2 hW2=>bare_add a cap W2 ((h.grows hw).grows hW2)))
 clear h
 go_enter Tryz.func34,Tryz.ntmps34
 go_wp2_with (first|(go_at_call 31;refine(HV.out _ growsR).mono ?_;rintro e' w' ⟨rfl,bs,d,rfl⟩)|(go_at_call 83;refine(HP.out _ growsR).mono ?_;rintro e' w' ⟨rfl,bs,d,rfl⟩))
 exact fz27
theorem awake10(w:World)(ht:Tab w):Calls Tryz.prog 11 #[] w fun e w'=>e= .returned (.bool true)∧w.Grows w':=by
 have HT:=Lib.hid ht
 have HP:Hid (∀W,Calls Tryz.prog 33 #[.string ⟨#[50,32,42,32,51,32,43,32,97,103,101]⟩] W (PxQ E0 W)):=Lib.hid parse0
 clear ht
 go_enter Tryz.func11,Tryz.ntmps11
 go_upto_region 2 with (go_at_call 33;refine(HP.out _).mono ?_;rintro e' w' ⟨v,rfl,⟨bs,d,rfl⟩,HRP⟩;obtain⟨va,vc,rfl⟩:=RepE.form HRP;have HRP:=Lib.hid HRP)
 have HC:=Lib.hid (fun W (hW:RepE (fun b=>w.heap.size≤b) W E0 (.slice va E0.args.length vc)) (hT:Tab W)=>fd0 ▸ cFold_any hW hT (by decide))
 go_wp2_with (first|(go_at_call 13;refine(HC.out _ (HRP.out.alloc _) ((HT.out.grow _ _).alloc _)).mono ?_;rintro e' w' ⟨v2,rfl,⟨bs2,d2,rfl⟩,HR2⟩;obtain⟨va2,vc2,rfl⟩:=RepE.form HR2;have HR2:=Lib.hid HR2)|(go_at_call 34;refine(fmt1 va2 vc2 _ HR2.out).mono ?_;rintro e' w' ⟨rfl,bs3,d3,rfl⟩))
 go_returns
 exact⟨congrArg (fun b=>Ending.returned (.bool b)) tl1,growsR⟩
theorem IntsAt.growsG{w w':World}{v:Value}{zs:List Int}(h:IntsAt w v zs)(hg:w.Grows w'):IntsAt w' v zs:=by
 obtain⟨bs,d,rfl⟩:=hg
 exact h.grow bs d
theorem IntsAt.list{w:World}{v:Value}{zs:List Int}{s:Nat}(h:IntsAt w v zs)(hs:w.heap.size≤s):ListAt w s v zs:=by
 obtain⟨h0,-,a,cap,hv,h1⟩:=h
 refine⟨h0,a,cap,hv,h1.imp id ?_⟩
 rintro⟨b,off,ha,hb,hc⟩
 exact⟨b,off,ha,hb,by omega,hc⟩
theorem env_no(w:World)(s:Nat):EnvAt w s (.slice none 0 0) []:=⟨by decide,fun _ h=>by(cases h),none,0,rfl,.inl rfl⟩
theorem EnvAt.of_bind{w:World}{v:Value}{l:List (ByteArray × Int)}(h:BindAt w v l)(hn:∀x∈l,x.1.size≤140737488355328):EnvAt w w.heap.size v l:=by
 obtain⟨h0,a,cap,hv,h1⟩:=h
 refine⟨h0,hn,a,cap,hv,h1.imp id ?_⟩
 rintro⟨b,off,ha,hb,hc⟩
 exact⟨b,off,ha,hb,by omega,hc⟩
theorem topF_size(zs:List Int)(env:List (ByteArray × Int))(dim:Int):(topF zs env dim).size≤1000000:=by
 have h1:=exprF_size zs env 5 dim 0 24
 have h2:=leafF_size zs env dim (exprF zs env 5 dim 0 24).2.1 0
 have hc5:costN 5=2307:=rfl
 unfold topF
 split<;>omega
theorem viewP_rng(R:VwR):VwRng (viewP R):=by
 have h:=viewP_ok R
 unfold Vw.ok at h
 simp only [Bool.and_eq_true]at h
 have:=vfrac_bd h.1.2.1
 exact⟨⟨by omega,by omega⟩,⟨by omega,by omega⟩⟩
end Go.Proofs.YtfoefpoaomepbaaGreatDoor
