import Derived.Test.YtfoefpoaomepbaaGreatDoorFEvP
import Derived.Test.YtfoefpoaomepbaaGreatDoorFTk4
import Derived.Test.YtfoefpoaomepbaaGreatDoorFShelf4
import Derived.Test.YtfoefpoaomepbaaGreatDoorFK
import Derived.Deep.QuietTactic
import Derived.BigRegion
import Derived.OrdersHeld
import Derived.RegionTactic
import Derived.StillTail
import Derived.Lib.IndexMore
import Derived.Lib.IndexLaws
import Derived.Lib.ItoaLen
import Derived.Sort.OwnSortedInts
import Derived.RangeFuncNested
import Derived.RangeFuncBound
import Derived.RangeFuncCalls
import Derived.RangeFuncLeaves
import Derived.RangeFuncBox
import Derived.Shelf.Abstract
import Derived.Shelf.RegionOpen
import Derived.WalkKit
import Derived.OwnWalkIn
import Derived.TacticsInMore
import Derived.LoopNIn
import Derived.LoopIn
import Derived.Maps.AppendAt
set_option linter.all false
set_option maxHeartbeats 16000000
set_option maxRecDepth 1000000
namespace Go.Proofs.YtfoefpoaomepbaaGreatDoor
open Go.RowKit
def nodeB(e:Ex):Bool:=decide ((e.args.length:Int)=argsN e.op)&&
 (if e.op=1 then decOk e.num e.den e.dim&&e.name.toList.isEmpty
  else if e.op=2 then decide (e.num=0)&&decide (e.den=0)&&decide (e.dim=0)&&nameB e.name
  else if e.op=3 then decide (e.dim=0)&&e.name.toList.isEmpty&&decide (e.den=1)&&decide (1≤e.num)&&decide (e.num≤45)
  else decide (e.num=0)&&decide (e.den=0)&&decide (e.dim=0)&&e.name.toList.isEmpty)
theorem formed_node(e:Ex):formedB e=(nodeB e&&formedsB e.args):=by
 rw [formedB_eq]
 unfold nodeB
 by_cases hl:(e.args.length:Int)=argsN e.op
 ·rw [decide_eq_true hl,Bool.true_and,Bool.true_and]
  have nil (h:e.op=1∨e.op=2∨e.op=3):formedsB e.args=true:=by
   have:e.args= []:=by
    have h0:argsN e.op=0:=by unfold argsN;rw [if_pos (by omega)]
    exact List.eq_nil_of_length_eq_zero (by omega)
   rw [this];rfl
  by_cases o1:e.op=1
  ·rw [if_pos o1,if_pos o1,nil (.inl o1),Bool.and_true]
  ·rw [if_neg o1,if_neg o1]
   by_cases o2:e.op=2
   ·rw [if_pos o2,if_pos o2,nil (.inr (.inl o2)),Bool.and_true]
   ·rw [if_neg o2,if_neg o2]
    by_cases o3:e.op=3
    ·rw [if_pos o3,if_pos o3,nil (.inr (.inr o3)),Bool.and_true]
    ·rw [if_neg o3,if_neg o3,Bool.and_comm]
 ·rw [decide_eq_false hl];rfl
theorem formeds_any(l:List Ex):formedsB l=!(List.range l.length).any fun k=>!formedB (l.getD k default):=by
 induction l with
 |nil=>rfl
 |cons e r ih=>
  rw [formedsB,ih,List.length_cons,List.range_succ_eq_map,List.any_cons,List.any_map]
  simp only [List.getD_cons_zero,Bool.not_or,Bool.not_not]
  congr 1
theorem node2_len(e:Ex)(a:Option Addr)(cap:Nat)(w:World)(hr:ExRng e)(hne:¬(e.args.length:Int)=argsN e.op):(Calls Tryz.prog 134 #[exV e (.slice a e.args.length cap)] w fun r w'=>r= .returned (.bool (nodeB e))∧w.Grows w'):=by
 have HF:Hid (nodeB e=false):=Lib.hid (by unfold nodeB;rw [decide_eq_false hne,Bool.false_and])
 obtain⟨on,od⟩:=hr.num
 obtain⟨pn,pd⟩:=hr.den
 have hsz:=hr.name
 have hi:=Lib.hid (And.intro hr.num (And.intro hr.den hr.dim))
 clear hr
 have h1:((e.args.length:Int)!=argsN e.op)=true:=by simpa using hne
 clear hne
 go_enter Tryz.func134,Tryz.ntmps134
 go_wp2_with fail
 go_quiet ((go_at_call 172;exact Calls.quiet_eq (arity2_any _ _)))
 go_wp2_with fail
 go_returns
 exact⟨ret_bool HF.out.symm,.of_below belB⟩
theorem node2_name(e:Ex)(a:Option Addr)(cap:Nat)(w:World)(hr:ExRng e)(hle:(e.args.length:Int)=argsN e.op)(ho:e.op=2):(Calls Tryz.prog 134 #[exV e (.slice a e.args.length cap)] w fun r w'=>r= .returned (.bool (nodeB e))∧w.Grows w'):=by
 have HF:Hid (nodeB e=(decide (e.num=0)&&decide (e.den=0)&&decide (e.dim=0)&&nameB e.name)):=Lib.hid (by unfold nodeB;rw [decide_eq_true hle,Bool.true_and,if_neg (by omega),if_pos ho])
 obtain⟨on,od⟩:=hr.num
 obtain⟨pn,pd⟩:=hr.den
 have hsz:=hr.name
 have hi:=Lib.hid (And.intro hr.num (And.intro hr.den hr.dim))
 clear hr
 have h1:((e.args.length:Int)!=argsN 2)=false:=by rw [ho]at hle;simpa using hle
 clear hle
 have HM:=Lib.hid (show e.name.size≤maxLen by unfold maxLen;omega)
 go_enter Tryz.func134,Tryz.ntmps134
 go_wp2_with fail
 go_quiet ((go_at_call 172;exact Calls.quiet_eq (arity2_any _ _)))
 go_wp2_with (go_at_call 173;refine(isName2_any _ _ HM.out).mono ?_;rintro e' w' ⟨rfl,rfl⟩)
 all_goals
  go_returns
  exact⟨ret_bool (by rw [HF.out];first|(simp [*];done)|(simp [*];rfl)),.of_below belB⟩
theorem node2_best(e:Ex)(a:Option Addr)(cap:Nat)(w:World)(hr:ExRng e)(hle:(e.args.length:Int)=argsN e.op)(ho:e.op=3):(Calls Tryz.prog 134 #[exV e (.slice a e.args.length cap)] w fun r w'=>r= .returned (.bool (nodeB e))∧w.Grows w'):=by
 have HF:Hid (nodeB e=(decide (e.dim=0)&&e.name.toList.isEmpty&&decide (e.den=1)&&decide (1≤e.num)&&decide (e.num≤45))):=Lib.hid (by unfold nodeB;rw [decide_eq_true hle,Bool.true_and,if_neg (by omega),if_neg (by omega),if_pos ho])
 obtain⟨on,od⟩:=hr.num
 obtain⟨pn,pd⟩:=hr.den
 have hsz:=hr.name
 have hi:=Lib.hid (And.intro hr.num (And.intro hr.den hr.dim))
 clear hr
 have h1:((e.args.length:Int)!=argsN 3)=false:=by rw [ho]at hle;simpa using hle
 clear hle
 go_enter Tryz.func134,Tryz.ntmps134
 go_wp2_with fail
 go_quiet ((go_at_call 172;exact Calls.quiet_eq (arity2_any _ _)))
 go_wp2_with fail
 all_goals
  go_returns
  exact⟨ret_bool (by rw [HF.out];first|(simp [*];done)|(simp [*];rfl)|(simp [*];intros;omega)),.of_below belB⟩
theorem node2_op(e:Ex)(a:Option Addr)(cap:Nat)(w:World)(hr:ExRng e)(hle:(e.args.length:Int)=argsN e.op)(o1:¬e.op=1)(o2:¬e.op=2)(o3:¬e.op=3):(Calls Tryz.prog 134 #[exV e (.slice a e.args.length cap)] w fun r w'=>r= .returned (.bool (nodeB e))∧w.Grows w'):=by
 have HF:Hid (nodeB e=(decide (e.num=0)&&decide (e.den=0)&&decide (e.dim=0)&&e.name.toList.isEmpty)):=Lib.hid (by unfold nodeB;rw [decide_eq_true hle,Bool.true_and,if_neg o1,if_neg o2,if_neg o3])
 obtain⟨on,od⟩:=hr.num
 obtain⟨pn,pd⟩:=hr.den
 have hsz:=hr.name
 have hi:=Lib.hid (And.intro hr.num (And.intro hr.den hr.dim))
 clear hr
 have h1:((e.args.length:Int)!=argsN e.op)=false:=by simpa using hle
 have p1:(e.op==1)=false:=by simpa using o1
 have p2:(e.op==2)=false:=by simpa using o2
 have p3:(e.op==3)=false:=by simpa using o3
 clear hle o1 o2 o3
 go_enter Tryz.func134,Tryz.ntmps134
 go_wp2_with fail
 go_quiet ((go_at_call 172;exact Calls.quiet_eq (arity2_any _ _)))
 go_wp2_with fail
 all_goals
  go_returns
  exact⟨ret_bool (by rw [HF.out];simp [*]),.of_below belB⟩
def NodeLit:Prop:=∀(e:Ex) (a:Option Addr) (cap:Nat) (w:World),ExRng e→Tab w→(e.args.length:Int)=argsN e.op→e.op=1→(Calls Tryz.prog 134 #[exV e (.slice a e.args.length cap)] w fun r w'=>r= .returned (.bool (nodeB e))∧w.Grows w')
def OkX(e:Ex):Prop:=NodeLit∨noLitB e=true
theorem OkX.arg{e:Ex}(h:OkX e)(k:Nat)(hk:k<e.args.length):OkX (e.arg k):=h.imp id fun h=>noLit_arg h k hk
theorem node2_any(e:Ex)(a:Option Addr)(cap:Nat)(w:World)(hr:ExRng e)(ht:Tab w)(hx:OkX e):(Calls Tryz.prog 134 #[exV e (.slice a e.args.length cap)] w fun r w'=>r= .returned (.bool (nodeB e))∧w.Grows w'):=by
 by_cases hle:(e.args.length:Int)=argsN e.op
 ·by_cases o1:e.op=1
  ·exact hx.elim (fun h=>h e a cap w hr ht hle o1) (fun h=>absurd o1 (noLit_op h))
  ·by_cases o2:e.op=2
   ·exact node2_name e a cap w hr hle o2
   ·by_cases o3:e.op=3
    ·exact node2_best e a cap w hr hle o3
    ·exact node2_op e a cap w hr hle o1 o2 o3
 ·exact node2_len e a cap w hr hle
theorem form_clos:∀args w,(callFunc 136 args).run Tryz.prog w= .ok (.enter 136 args) w:=enters_of Tryz.func136 (by kernel_rfl) rfl
theorem form2_walk(S:Nat→Prop)(n:Nat):∀(e:Ex),e.size≤n→OkX e→∀(v:Value) (w:World),RepE S w e v→Tab w→
 Calls Tryz.prog 86 #[exV e v] w fun r w'=>r= .returned (.bool (formedB e))∧w.Grows w':=by
 induction n with
 |zero=>intro e he;have:=e.size_pos;omega
 |succ n ih=>
  intro e he hx v w h ht
  have HX:=Lib.hid hx
  have HR:=Lib.hid h
  have HT:=Lib.hid ht
  have HN:Hid (_):=Lib.hid (fun a cap w (ht:Tab w)=>node2_any e a cap w h.rng ht hx)
  have hany:=formeds_any e.args
  have hfn:=formed_node e
  obtain⟨a,cap,rfl⟩:=h.form0
  have HC:Hid (∀w',w.Grows w'→Calls Tryz.prog 135 #[.slice a e.args.length cap,.func (.func 136) #[] #[]] w' fun r w''=>r= .returned (.bool (!formedsB e.args))∧w'.Grows w''):=Lib.hid (fun w' hg=>by
   have:=containsE_any S 136 #[] form_clos e (.slice a e.args.length cap) (fun k=>!formedB (e.arg k)) w' (HR.out.grows hg) (Lib.hid (fun k hk ak ck w1 hg1 hR1=>by
    have hsm:=e.size_arg k hk
    have IH:=Lib.hid (fun w2 h1 h2=>ih (e.arg k) (by omega) (HX.out.arg k hk) (.slice ak (e.arg k).args.length ck) w2 h1 h2)
    have hT1:=Lib.hid ((HT.out.grows hg).grows hg1)
    have HR1:=Lib.hid hR1
    dsimp only
    generalize formedB (e.arg k)=q at *
    clear hany hfn HN HR HT hR1 ih hg hg1 HX hx
    generalize e.arg k=x at *
    show Calls Tryz.prog 136 #[exV x (.slice ak x.args.length ck)] w1 _
    go_enter Tryz.func136,Tryz.ntmps136
    go_wp2_with (go_at_call 86;refine(IH.out _ (HR1.out.alloc _) (hT1.out.alloc _)).mono ?_;rintro e' w' ⟨rfl,bs,d,rfl⟩)
    go_returns
    exact⟨ret_bool rfl,.of_below belB⟩))
   rw [show(List.range e.args.length).any (fun k=>!formedB (e.arg k))=!formedsB e.args by rw [hany,Bool.not_not];rfl]at this
   exact this)
  clear hany ih h ht HX hx
  generalize formedsB e.args=q at *
  generalize nodeB e=p at *
  have HF:=Lib.hid hfn
  clear hfn
  cases p
  ·go_enter Tryz.func86,Tryz.ntmps86
   go_wp2_with (go_at_call 134;refine(HN.out _ _ _ (HT.out.alloc _)).mono ?_;rintro e' w' ⟨rfl,bs,d,rfl⟩)
   go_returns
   exact⟨ret_bool (by rw [HF.out];rfl),.of_below belB⟩
  ·go_enter Tryz.func86,Tryz.ntmps86
   go_wp2_with (first|(go_at_call 134;refine(HN.out _ _ _ (HT.out.alloc _)).mono ?_;rintro e' w' ⟨rfl,bs,d,rfl⟩)|(go_at_call 135;refine(HC.out _ (.of_below belB)).mono ?_;rintro e' w' ⟨rfl,bs2,d2,rfl⟩))
   go_returns
   exact⟨ret_bool (by rw [HF.out];simp),.of_below belB⟩
theorem form2_any(S:Nat→Prop)(e:Ex)(v:Value)(w:World)(h:RepE S w e v)(ht:Tab w)(hx:OkX e):Calls Tryz.prog 86 #[exV e v] w fun r w'=>r= .returned (.bool (formedB e))∧w.Grows w':=form2_walk S e.size e (Nat.le_refl _) hx v w h ht
theorem ValidExpr2_g(S:Nat→Prop)(e:Ex)(v:Value)(w:World)(h:Hid (RepE S w e v))(hbig:Hid (e.size≤2305843009213693952))(ht:Hid (Tab w))(hx:Hid (OkX e)):Calls Tryz.prog 35 #[exV e v] w fun r w'=>r= .returned (.bool (validB e))∧w.Grows w':=by
 obtain⟨a,cap,hv⟩:=h.out.form0
 subst hv
 by_cases c1:(e.depth:Int)≤10
 ·by_cases c2:(e.size:Int)≤60
  ·go_enter Tryz.func35,Tryz.ntmps35
   go_wp2_with ((first|(go_at_call 84;refine(Depth2_walk S e.size e (Nat.le_refl _) _ _ (h.out.alloc _) hbig).mono ?_;rintro r w' ⟨rfl,bs,d,rfl⟩)|(go_at_call 85;refine(Size2_walk S e.size e (Nat.le_refl _) _ _ ((h.out.alloc _).grow _ _) hbig).mono ?_;rintro r w' ⟨rfl,bs2,d2,rfl⟩)|(go_at_call 86;refine(form2_any S e _ _ ((h.out.alloc _).grow _ _) ((ht.out.alloc _).grow _ _) hx.out).mono ?_;rintro r w' ⟨rfl,bs3,d3,rfl⟩)))
   exact fz58
  ·go_enter Tryz.func35,Tryz.ntmps35
   go_wp2_with ((first|(go_at_call 84;refine(Depth2_walk S e.size e (Nat.le_refl _) _ _ (h.out.alloc _) hbig).mono ?_;rintro r w' ⟨rfl,bs,d,rfl⟩)|(go_at_call 85;refine(Size2_walk S e.size e (Nat.le_refl _) _ _ ((h.out.alloc _).grow _ _) hbig).mono ?_;rintro r w' ⟨rfl,bs2,d2,rfl⟩)|(go_at_call 86;refine(form2_any S e _ _ ((h.out.alloc _).grow _ _) ((ht.out.alloc _).grow _ _) hx.out).mono ?_;rintro r w' ⟨rfl,bs3,d3,rfl⟩)))
   exact fz63
 ·go_enter Tryz.func35,Tryz.ntmps35
  go_wp2_with ((first|(go_at_call 84;refine(Depth2_walk S e.size e (Nat.le_refl _) _ _ (h.out.alloc _) hbig).mono ?_;rintro r w' ⟨rfl,bs,d,rfl⟩)|(go_at_call 85;refine(Size2_walk S e.size e (Nat.le_refl _) _ _ ((h.out.alloc _).grow _ _) hbig).mono ?_;rintro r w' ⟨rfl,bs2,d2,rfl⟩)|(go_at_call 86;refine(form2_any S e _ _ ((h.out.alloc _).grow _ _) ((ht.out.alloc _).grow _ _) hx.out).mono ?_;rintro r w' ⟨rfl,bs3,d3,rfl⟩)))
  exact fz61
def InfP(r:Int × Int)(w:World)(e:Ending)(w':World):Prop:=e= .returned (.tuple #[.int .i64 r.1,.int .i64 r.2])∧w.Grows w'
theorem infP{r:Int × Int}{a b:Int}{w w':World}(h:r=(a,b))(hg:w.Grows w'):InfP r w (.returned (.tuple #[.int .i64 a,.int .i64 b])) w':=by subst h;exact⟨rfl,hg⟩
theorem formeds_get{l:List Ex}(h:formedsB l=true)(k:Nat)(hk:k<l.length):formedB (l.getD k default)=true:=by
 by_cases hf:formedB (l.getD k default)=true
 ·exact hf
 ·rw [formedsB_no l k hk (by simpa using hf)]at h;cases h
theorem formed_op{e:Ex}(h:formedB e=true)(h1:¬e.op=1)(h2:¬e.op=2)(h3:¬e.op=3):(e.args.length:Int)=argsN e.op∧4≤e.op∧e.op≤21∧formedsB e.args=true:=by
 rw [formedB_eq,Bool.and_eq_true,decide_eq_true_eq,if_neg h1,if_neg h2,if_neg h3,Bool.and_eq_true]at h
 have hop:4≤e.op∧e.op≤21:=by have ha:=h.1;unfold argsN at ha;(repeat' split at ha)<;>omega
 exact⟨h.1,hop.1,hop.2,h.2.1⟩
abbrev infD(env:List (ByteArray × Int))(e:Ex):Int:=(inferF env e).1
abbrev infC(env:List (ByteArray × Int))(e:Ex):Int:=(inferF env e).2
abbrev dimsK(env:List (ByteArray × Int))(e:Ex)(k:Nat):List Int:=(e.args.take k).map (infD env)
theorem dimsK_succ(env:List (ByteArray × Int))(e:Ex)(k:Nat)(hk:k<e.args.length):dimsK env e (k+1)=dimsK env e k++[infD env (e.arg k)]:=by
 unfold dimsK
 rw [List.take_succ_eq_append_getElem hk,List.map_append]
 congr 1
 show [infD env e.args[k]]= [infD env (e.args.getD k default)]
 rw [List.getD_eq_getElem?_getD,List.getElem?_eq_getElem hk];rfl
theorem inf_op(env:List (ByteArray × Int))(e:Ex)(h1:¬e.op=1)(h2:¬e.op=2)(h3:¬e.op=3)(hok:∀j,j<e.args.length→infC env (e.arg j)=0) :
 inferF env e=if resD e.op (dimsK env e e.args.length)=0 then(0,6)else(resD e.op (dimsK env e e.args.length),0):=by
 rw [inferF_eq,infers_ok env e.args hok]
 unfold infNode dimsK
 rw [if_neg h1,if_neg h3,if_neg h2,if_neg (by simp),List.take_length]
theorem inf_bad(env:List (ByteArray × Int))(e:Ex)(h1:¬e.op=1)(h2:¬e.op=2)(h3:¬e.op=3)(k:Nat)(hk:k<e.args.length)(hj:∀j,j<k→infC env (e.arg j)=0)(hb:infC env (e.arg k)≠0):inferF env e=(0,infC env (e.arg k)):=by
 have:=infers_bad env e.args k hk hj hb
 rw [inferF_eq]
 unfold infNode
 have hb2:(infersF env e.args).2≠0:=by rw [this];exact hb
 rw [if_neg h1,if_neg h3,if_neg h2,if_pos hb2,this];rfl
theorem own_grow{w:World}{base:Nat}{e:TypeId}{size:Nat}{v:Value}{n:Nat}{xs:List Value}(h:w.ownsRow base e size v n xs){w':World}(hg:w.Grows w'):w'.ownsRow base e size v n xs:=
 ownsRow_keep h fun k _ hk=>hg.below.block k hk
theorem infoI:(Tryz.prog.info? 3).map (fun i=>(i.zero,i.size,i.bytes))=some (some (.int .i64 0),1,8):=by kernel_rfl
theorem infer2_leaf(env:List (ByteArray × Int))(e:Ex)(a:Option Addr)(cap:Nat)(ve:Value)(w:World)(hv:BindAt w ve env)(ho:e.op=1∨e.op=2∨e.op=3):(Calls Tryz.prog 104 #[exV e (.slice a e.args.length cap),ve] w (InfP (inferF env e) w)):=by
 have HV:=Lib.hid hv
 obtain⟨-,ae,ce,rfl,-⟩:=hv
 have HF:=Lib.hid (inferF_eq env e)
 unfold infNode at HF
 have HL:=Lib.hid (lookV_infer env e.name)
 have HC:Hid (∀w',w.Grows w'→Calls Tryz.prog 150 #[.string e.name,.slice ae env.length ce] w' (LkP env e.name w')):=Lib.hid (fun w' hg=>lookup_any e.name env _ w' (HV.out.grows hg))
 unfold LkP at HC
 rcases ho with ho|ho|ho
 ·go_enter Tryz.func104,Tryz.ntmps104
  go_wp2_with fail
  go_returns
  exact infP (by rw [HF.out,if_pos ho]) (.of_below belB)
 ·cases hb:(lookV env e.name).2
  all_goals
   rw [hb]at HC
   have HB:=Lib.hid hb
   clear hb
   generalize hm:(lookV env e.name).1=m at HC
   have HM:=Lib.hid hm
   clear hm
   go_enter Tryz.func104,Tryz.ntmps104
   go_wp2_with (go_at_call 150;refine(HC.out _ (.of_below belB)).mono ?_;rintro e' w' ⟨rfl,bs,d,rfl⟩)
   go_returns
   exact infP (by rw [HF.out,if_neg (by omega),if_neg (by omega),if_pos ho,HL.out,HB.out];first|(rw [if_pos rfl,HM.out];done)|(rw [if_neg (by simp)];done)) (.of_below belB)
 ·go_enter Tryz.func104,Tryz.ntmps104
  exact fz74
theorem infer2_walk(S:Nat→Prop)(env:List (ByteArray × Int))(hE:dimsOk env=true)(n:Nat):∀(e:Ex),e.size≤n→formedB e=true→∀(v ve:Value) (w:World),RepE S w e v→BindAt w ve env→
 Calls Tryz.prog 104 #[exV e v,ve] w (InfP (inferF env e) w):=by
 induction n with
 |zero=>intro e he;have:=e.size_pos;omega
 |succ n ih=>
  intro e he hf v ve w h hv
  have HR:=Lib.hid h
  have HV:=Lib.hid hv
  have hrng:=h.rng
  obtain⟨a,cap,rfl⟩:=h.form0
  by_cases h1:e.op=1
  ·exact infer2_leaf env e a cap ve w hv (.inl h1)
  by_cases h2:e.op=2
  ·exact infer2_leaf env e a cap ve w hv (.inr (.inl h2))
  by_cases h3:e.op=3
  ·exact infer2_leaf env e a cap ve w hv (.inr (.inr h3))
  obtain⟨hal,ho4,ho21,hfs⟩:=formed_op hf h1 h2 h3
  have hn3:e.args.length≤3∧1≤e.args.length:=by unfold argsN at hal;(repeat' split at hal)<;>omega
  have HOK:=Lib.hid (inf_op env e h1 h2 h3)
  have HBAD:=Lib.hid (inf_bad env e h1 h2 h3)
  have HOP:=Lib.hid (And.intro hal (And.intro ho4 ho21))
  have IH:Hid (∀k,k<e.args.length→∀ak ck w',w.Grows w'→RepE S w' (e.arg k) (.slice ak (e.arg k).args.length ck)→Calls Tryz.prog 104 #[exV (e.arg k) (.slice ak (e.arg k).args.length ck),ve] w' (InfP (inferF env (e.arg k)) w')):=
   Lib.hid (fun k hk ak ck w' hg hr=>by
    have hsm:=e.size_arg k hk
    exact ih (e.arg k) (by omega) (formeds_get hfs k hk) _ ve w' hr (HV.out.grows hg))
  have HDM:Hid (∀k,k<e.args.length→infC env (e.arg k)=0→1≤infD env (e.arg k)):=Lib.hid (fun k hk hc=>(infer_dim hE (e.arg k) (formeds_get hfs k hk) hc).1)
  unfold InfP at IH
  obtain⟨-,ae,ce,rfl,-⟩:=hv
  have p1:(e.op==1)=false:=by simpa using h1
  have p2:(e.op==2)=false:=by simpa using h2
  have p3:(e.op==3)=false:=by simpa using h3
  clear h ih hE hf hfs hal ho4 ho21 he h1 h2 h3
  obtain⟨i0,hi,hz0,hz1,hz2⟩:=info_parts infoI
  go_enter Tryz.func104,Tryz.ntmps104
  go_wp2_with fail
  go_loopw [8,38] (fun v8 v38 wr=>∃k:Nat,k≤e.args.length∧v38= .int .i64 k∧Hid (∀j,j<k→infC env (e.arg j)=0)∧Below (w.heap.size+1) (w.alloc (.cells #[.int .i64 e.op,.int .i64 e.num,.int .i64 e.den,.int .i64 e.dim,.string e.name,.slice a e.args.length cap] 27)) wr∧wr.ownsRow (w.heap.size+1) 3 1 v8 k ((dimsK env e k).map (Value.int .i64))) (fun _ v38 _=>e.args.length-(intOf v38).toNat)
  case atStart=>exact⟨0,by omega,rfl,Lib.hid (fun j hj=>by omega),.refl _ _,World.ownsRow_nil _ _ _ _⟩
  case round=>
   obtain⟨k,hk,rfl,hno,hB,hown⟩:=hrel
   have hsW:w.heap.size+1≤wr.heap.size:=by have:=hB.size;simpa using this
   have hbox:wr.cell? ⟨w.heap.size,0,none⟩=some (.int .i64 e.op):=by
    rw [hB.cell (p:=⟨w.heap.size,0,none⟩) (by simp),World.cell?_alloc_at _ _ _ _ rfl];rfl
   have hG:w.Grows wr:=.of_below ((((Below.refl _ _).alloc (Nat.le_refl _) _)).trans (hB.mono (by omega)))
   have HB:=Lib.hid hB
   have HO:=Lib.hid hown
   have HG:=Lib.hid hG
   by_cases hlt:k<e.args.length
   ·have hRk:=HR.out.grows hG
    cases hRk with
    |mk _ _ _ vs hr hc hs=>
     rcases hc with h0|⟨b,off,rfl,-,hbw,hx⟩
     ·omega
     ·have hR:=hs k hlt
      obtain⟨x0,x1,x2,x3,x4,x5⟩:=hx k hlt
      obtain⟨ak,ck,hvk⟩:=hR.form0
      rw [hvk]at x5 hR
      have HRK:=Lib.hid hR
      have hcall:=fun w' hg hg2=>IH.out k hlt ak ck w' hg (HRK.out.grows hg2)
      have HNX:=Lib.hid (dimsK_succ env e k hlt)
      have HKL:=Lib.hid hlt
      have HBK:=Lib.hid (fun hj hb=>HBAD.out k hlt hj hb)
      have d1:(k:Int)<(e.args.length:Int):=by omega
      clear hx hs hr hvk hG hB hown hR
      unfold exV at hcall
      obtain⟨x,hxe⟩:∃x,e.arg k=x:=⟨_,rfl⟩
      rw [hxe]at hcall x0 x1 x2 x3 x4 x5 HNX HBK
      have HXE:=Lib.hid hxe
      clear hxe
      have HCL:=Lib.hid hcall
      clear hcall
      obtain⟨q,hq⟩:∃q,inferF env x=q:=⟨_,rfl⟩
      unfold infC at HBK
      unfold infD at HNX
      rw [hq]at HCL HBK HNX
      have HQ:=Lib.hid hq
      clear hq
      obtain⟨qd,qc⟩:=q
      dsimp only at HCL HBK HNX
      by_cases hqc:qc=0
      ·subst hqc
       go_wp2_with (first
        |(go_at_call 104;refine(HCL.out _ (World.Grows.trans HG.out (.of_below belB)) (.of_below belB)).mono ?_;rintro e' w' ⟨rfl,bs,d,rfl⟩)
        |(at_builtin;refine wpList_append_own _ rfl _ _ 22 rfl (w.heap.size+1) 3 i0 (.int .i64 0) 1 8 Tryz.underlying22 hi hz0 hz1 hz2 rfl (by decide) _ _ _ rfl ((own_grow (HO.out.alloc _) ⟨bs,d,rfl⟩).alloc _) ⟨wr.heap.size+1+bs.size,0,none⟩ 1 1 [.int .i64 qd] rfl rfl ?c1 ?c2 ?c3 ?c4 ?c5 ?_))
       case c1=>exact news_cells _ [.int .i64 qd] _ _ (by simp)
       case c2=>intro u hu;simp at hu;subst hu;rfl
       case c3=>unfold maxLen;omega
       case c4=>omega
       case c5=>simp;omega
       intro v' w1 hown' hgrow _
       have HB1:=Lib.hid ((show Below (w.heap.size+1) (w.alloc (.cells #[.int .i64 e.op,.int .i64 e.num,.int .i64 e.den,.int .i64 e.dim,.string e.name,.slice (some ⟨b,off,none⟩) e.args.length cap] 27)) _ from by have:=HB.out;(exact belB)).grown hgrow (by simp;omega) (fun k hk=>(HO.out.lt k hk).1))
       have HO1:=Lib.hid hown'
       clear hown' hgrow
       go_wp2_with fail
       go_roundw
       case rel=>exact⟨k+1,HKL.out,by go_num,Lib.hid (fun j hj=>by
        by_cases ej:j=k
        ·subst ej;unfold infC;rw [HXE.out,HQ.out]
        ·exact hno.out j (by omega)),HB1.out,by rw [HNX.out,List.map_append];simpa [dimsK]using HO1.out⟩
       case measure=>simp [intOf];have:=HKL.out;omega
      ·have hq1:(qc !=0)=true:=by simpa using hqc
       have HQC:=Lib.hid hqc
       clear hqc
       go_wp2_with (go_at_call 104;refine(HCL.out _ (World.Grows.trans HG.out (.of_below belB)) (.of_below belB)).mono ?_;rintro e' w' ⟨rfl,bs,d,rfl⟩)
       go_returns
       exact infP (HBK.out hno.out HQC.out) (World.Grows.trans HG.out (.of_below belB))
   ·obtain rfl:k=e.args.length:=by omega
    have hd:=HOK.out hno.out
    have hdl:(dimsK env e e.args.length).length=e.args.length:=by simp [dimsK]
    obtain⟨-,⟨_,h0⟩|⟨g,gc,cu,rfl,hbg,-⟩⟩:=hown
    ·omega
    have hres:=res2_all e.op (dimsK env e e.args.length) (w.heap.size+1) g gc wr HOP.out.2.1 HOP.out.2.2 (by rw [hdl];exact HOP.out.1) (fun y hy=>by
     obtain⟨t,ht,rfl⟩:=List.mem_map.1 hy
     rw [List.take_length]at ht
     obtain⟨j,hj,rfl⟩:=List.mem_iff_getElem.1 ht
     have:=HDM.out j hj (hno.out j hj)
     unfold Ex.arg at this
     rw [List.getD_eq_getElem?_getD,List.getElem?_eq_getElem hj]at this
     exact this) (by rw [hdl];exact HO.out)
    rw [hdl]at hres
    obtain⟨R,hR⟩:∃R,resD e.op (dimsK env e e.args.length)=R:=⟨_,rfl⟩
    rw [hR]at hres hd
    have HD:=Lib.hid hd
    unfold Res2P at hres
    clear hB hG hR hd hdl
    by_cases hR0:R=0
    ·subst hR0
     have HRS:=Lib.hid hres
     clear hres
     go_wp2_with (go_at_call 151;refine(HRS.out).mono ?_;rintro e' w' ⟨⟨m,rfl,-⟩,bs,d,rfl⟩)
     go_returns
     exact infP (by rw [HD.out];simp) (World.Grows.trans HG.out (.of_below belB))
    ·rw [decide_eq_true hR0]at hres
     have HRS:=Lib.hid hres
     have HR0:=Lib.hid hR0
     clear hres hR0
     go_wp2_with (go_at_call 151;refine(HRS.out).mono ?_;rintro e' w' ⟨⟨m,rfl,hm⟩,bs,d,rfl⟩;obtain rfl:=hm HR0.out;clear hm)
     go_returns
     exact infP (by rw [HD.out,if_neg HR0.out]) (World.Grows.trans HG.out (.of_below belB))
theorem dims_any(l:List (ByteArray × Int)):(List.range l.length).any (fun k=>!decide (1≤bdD l k∧bdD l k≤4))=!dimsOk l:=by
 induction l with
 |nil=>rfl
 |cons p r ih=>
  rw [List.length_cons,List.range_succ_eq_map,List.any_cons,List.any_map]
  unfold dimsOk at ih ⊢
  rw [List.all_cons,Bool.not_and,←ih]
  rfl
theorem valid_formed{e:Ex}(h:validB e=true):formedB e=true:=by
 unfold validB at h
 simp only [Bool.and_eq_true]at h
 first|exact h.2|exact h.1.2|exact h.1
theorem inferE_no{env:List (ByteArray × Int)}{e:Ex}(h:validB e=false∨dimsOk env=false):inferE env e=(0,1):=by
 unfold inferE
 rw [if_neg]
 rintro⟨h1,h2⟩
 rcases h with h|h
 ·rw [h]at h1;cases h1
 ·rw [h]at h2;cases h2
theorem inferE_yes{env:List (ByteArray × Int)}{e:Ex}(h1:validB e=true)(h2:dimsOk env=true):inferE env e=inferF env e:=by
 unfold inferE;rw [if_pos ⟨h1,h2⟩]
theorem Infer2_g(S:Nat→Prop)(env:List (ByteArray × Int))(e:Ex)(v ve:Value)(w:World)(h:RepE S w e v)(hbig:e.size≤2305843009213693952)(ht:Tab w)(hv:BindAt w ve env)(hx:Hid (OkX e)) :
 Calls Tryz.prog 46 #[exV e v,ve] w (InfP (inferE env e) w):=by
 have HR:=Lib.hid h
 have HV:=Lib.hid hv
 have HT:=Lib.hid ht
 have hrng:=h.rng
 obtain⟨a,cap,rfl⟩:=h.form0
 have HVE:Hid (∀w',w.Grows w'→Calls Tryz.prog 35 #[exV e (.slice a e.args.length cap)] w' fun r w''=>r= .returned (.bool (validB e))∧w'.Grows w''):=
  Lib.hid (fun w' hg=>ValidExpr2_g S e _ w' (Lib.hid (HR.out.grows hg)) (Lib.hid hbig) (Lib.hid (HT.out.grows hg)) hx)
 have HCB:Hid (∀w',w.Grows w'→Calls Tryz.prog 101 #[ve,.func (.func 103) #[] #[]] w' fun r w''=>r= .returned (.bool (!dimsOk env))∧w'.Grows w''):=
  Lib.hid (fun w' hg=>by
   have:=containsB_any 103 #[] badB_clos env ve (fun k=>!decide (1≤bdD env k∧bdD env k≤4)) w' (HV.out.grows hg) (Lib.hid (fun k hk w2 h2=>badB_one _ _ w2))
   rw [dims_any]at this
   exact this)
 obtain⟨-,ae,ce,rfl,-⟩:=hv
 unfold exV at HVE
 cases hve:validB e with
 |false=>
  have HF:=Lib.hid (inferE_no (env:=env) (.inl hve))
  rw [hve]at HVE
  clear h ht hve
  go_enter Tryz.func46,Tryz.ntmps46
  go_wp2_with (go_at_call 35;refine(HVE.out _ (.of_below belB)).mono ?_;rintro e' w' ⟨rfl,bs,d,rfl⟩)
  go_returns
  exact infP HF.out (.of_below belB)
 |true=>
  rw [hve]at HVE
  cases hde:dimsOk env with
  |false=>
   have HF:=Lib.hid (inferE_no (e:=e) (.inr hde))
   rw [hde]at HCB
   clear h ht hve hde
   go_enter Tryz.func46,Tryz.ntmps46
   go_wp2_with (first
    |(go_at_call 35;refine(HVE.out _ (.of_below belB)).mono ?_;rintro e' w' ⟨rfl,bs,d,rfl⟩)
    |(go_at_call 101;refine(HCB.out _ (.of_below belB)).mono ?_;rintro e' w' ⟨rfl,bs2,d2,rfl⟩))
   go_returns
   exact infP HF.out (.of_below belB)
  |true=>
   have HF:=Lib.hid (inferE_yes hve hde)
   rw [hde]at HCB
   have HI:Hid (∀w',w.Grows w'→Calls Tryz.prog 104 #[exV e (.slice a e.args.length cap),.slice ae env.length ce] w' (InfP (inferF env e) w')):=
    Lib.hid (fun w' hg=>infer2_walk S env hde e.size e (Nat.le_refl _) (valid_formed hve) _ _ w' (HR.out.grows hg) (HV.out.grows hg))
   unfold InfP exV at HI
   clear h ht hve hde
   rw [HF.out]
   generalize inferF env e=q at *
   go_enter Tryz.func46,Tryz.ntmps46
   go_wp2_with (first
    |(go_at_call 35;refine(HVE.out _ (.of_below belB)).mono ?_;rintro e' w' ⟨rfl,bs,d,rfl⟩)
    |(go_at_call 101;refine(HCB.out _ (.of_below belB)).mono ?_;rintro e' w' ⟨rfl,bs2,d2,rfl⟩)
    |(go_at_call 104;refine(HI.out _ (.of_below belB)).mono ?_;rintro e' w' ⟨rfl,bs3,d3,rfl⟩))
   go_returns
   exact infP rfl (.of_below belB)

theorem index_byte:∀(l:List UInt8) (c:UInt8),Lib.index l [c]=Lib.indexByte l c
 | [],c=>by simp [Lib.index,Lib.indexByte]
 |b::l,c=>by
  have ih:=index_byte l c
  have hp:([c]:List UInt8).isPrefixOf (b::l)=(b==c):=by
   simp only [List.isPrefixOf,Bool.and_true]
   exact BEq.comm
  unfold Lib.index Lib.indexByte
  rw [hp,ih]
def cutA(t:ByteArray):ByteArray:=⟨(Lib.cut t.data.toList [46]).1.toArray⟩
def cutB(t:ByteArray):ByteArray:=⟨(Lib.cut t.data.toList [46]).2.1.toArray⟩
def cutP(t:ByteArray):Bool:=(Lib.cut t.data.toList [46]).2.2
theorem cut_some{t:ByteArray}{o:Nat}(h:Lib.indexByte t.data.toList 46=o)(ho:o<t.size):cutA t=t.extract 0 o∧cutB t=t.extract (o+1) t.size∧cutP t=true:=by
 have e:Lib.cut t.data.toList [46]=(t.data.toList.take o,t.data.toList.drop (o+1),true):=by
  unfold Lib.cut
  rw [index_byte,h,if_pos (by omega)]
  simp
 unfold cutA cutB cutP
 rw [e]
 refine⟨?_, ?_,rfl⟩
 ·apply ByteArray.ext
  rw [ByteArray.data_extract]
  apply Array.ext'
  rw [Array.toList_extract]
  simp [List.extract]
 ·apply ByteArray.ext
  rw [ByteArray.data_extract]
  apply Array.ext'
  rw [Array.toList_extract]
  simp only [List.extract]
  rw [List.take_of_length_le]
  rw [List.length_drop,Array.length_toList]
  exact Nat.le_refl _
theorem cut_none{t:ByteArray}(h:Lib.indexByte t.data.toList 46= -1):cutA t=t∧cutB t=⟨#[]⟩∧cutP t=false:=by
 have e:Lib.cut t.data.toList [46]=(t.data.toList,[],false):=by
  unfold Lib.cut
  rw [index_byte,h,if_neg (by omega)]
 unfold cutA cutB cutP
 rw [e]
 exact⟨by apply ByteArray.ext;simp,rfl,rfl⟩
theorem scut_any(t:ByteArray)(w:World)(ht:t.size≤maxLen):Calls Tryz.prog 212 #[.string t,.string ⟨#[46]⟩] w fun e w'=>e= .returned (.tuple #[.string (cutA t),.string (cutB t),.bool (cutP t)])∧w.Grows w':=by
 unfold maxLen at ht
 have HI:Hid _:=Lib.hid (fun w=>Tryz.stringslite_Index_one t 46 w)
 have hge:=Lib.indexByte_ge t.data.toList 46
 by_cases h:Lib.indexByte t.data.toList 46= -1
 ·have HC:=Lib.hid (cut_none h)
  rw [h]at HI
  clear h hge
  go_enter Tryz.func212,Tryz.ntmps212
  go_wp2_with ((go_at_call 221;(with_reducible refine(HI.out _).mono ?_);rintro e w' ⟨rfl,rfl⟩))
  go_returns
  exact⟨by rw [HC.out.1,HC.out.2.1,HC.out.2.2];rfl,.of_below belB⟩
 ·obtain⟨o,ho⟩:∃o:Nat,Lib.indexByte t.data.toList 46=o:=⟨(Lib.indexByte t.data.toList 46).toNat,by omega⟩
  have hlt:o<t.size:=by
   have:=(Lib.indexByte_some ho).1
   have h2:=(List.getElem?_eq_some_iff.1 this).1
   simpa using h2
  have HC:=Lib.hid (cut_some ho hlt)
  rw [ho]at HI
  have h1:(o:Int)+1≤t.size:=by omega
  have h2:¬(o:Int)<0:=by omega
  have h3:(o:Int)≤t.size:=by omega
  have e1:(t.extract 0 (o:Int).toNat)=t.extract 0 o:=by rw [Int.toNat_natCast]
  have e2:t.extract ((o:Int)+1).toNat t.size=t.extract (o+1) t.size:=by congr 1
  have E:=Lib.hid (And.intro e1 e2)
  clear e1 e2 h hge ho
  go_enter Tryz.func212,Tryz.ntmps212
  go_wp2_with ((go_at_call 221;(with_reducible refine(HI.out _).mono ?_);rintro e w' ⟨rfl,rfl⟩))
  go_quiet (fail)
  go_wp2_with fail
  go_returns
  exact⟨by rw [HC.out.1,HC.out.2.1,HC.out.2.2];first|rfl|(simp;done),.of_below belB⟩
theorem Cut_dot(t:ByteArray)(w:World)(ht:t.size≤maxLen):Calls Tryz.prog 203 #[.string t,.string ⟨#[46]⟩] w fun e w'=>e= .returned (.tuple #[.string (cutA t),.string (cutB t),.bool (cutP t)])∧w.Grows w':=by
 have HI:Hid _:=Lib.hid (fun w=>scut_any t w ht)
 generalize cutA t=a at *
 generalize cutB t=b at *
 generalize cutP t=c at *
 go_enter Tryz.func203,Tryz.ntmps203
 go_wp2_with ((go_at_call 212;(with_reducible refine(HI.out _).mono ?_);rintro e w' ⟨rfl,bs,dr,rfl⟩))
 exact fz17

def formB(a b:ByteArray)(pt:Bool):Bool:=decForm a.data.toList b.data.toList pt
def decM(t:ByteArray)(m:Int):Option (Int × Int × Int):=if formB (cutA t) (cutB t) (cutP t)=true then decN (cutA t) (cutB t) m else none
theorem form_eq(a b:ByteArray)(pt:Bool):formB a b pt=(decide (1≤a.size)&&decide (a.size≤9)&&!(decide (1<a.size)&&decide (a.data.toList.head? =some 48))&&!(pt&&(decide (b.size<1) || decide (4<b.size)))):=by
 unfold formB decForm
 have h1:a.data.toList.length=a.size:=by simp
 have h2:b.data.toList.length=b.size:=by simp
 rw [h1,h2]
theorem head_eq{a:ByteArray}(h:0<a.size):(a.data.toList.head? =some 48)↔((a[0]'h).toNat:Int)=48:=by
 have h2:0<a.data.toList.length:=by simpa using h
 rw [List.head?_eq_getElem?,List.getElem?_eq_getElem h2]
 have e:a.data.toList[0]=a[0]'h:=by simp;rfl
 rw [e]
 constructor
 ·intro k;simp only [Option.some.injEq]at k;rw [k];rfl
 ·intro k
  congr 1
  apply UInt8.toNat_inj.1
  have:(48:UInt8).toNat=48:=rfl
  omega
def decK(a b:ByteArray)(pt:Bool)(m:Int):Option (Int × Int × Int):=if formB a b pt=true then decN a b m else none
theorem cutB_nil{t:ByteArray}(h:cutP t=false):(cutB t).size=0:=by
 unfold cutP Lib.cut at h
 unfold cutB Lib.cut
 split at h
 ·simp at h
 ·rename_i hc;rw [if_neg hc];rfl
theorem dec_T1k(t a b:ByteArray)(pt:Bool)(m:Int)(w:World)(hpt:pt=false→b.size=0)
 (HC:Hid (∀w,Calls Tryz.prog 203 #[.string t,.string ⟨#[46]⟩] w fun e w'=>e= .returned (.tuple #[.string a,.string b,.bool pt])∧w.Grows w'))
 (u1 u4 u5 u6 u7 u8 u9 u10 u11 u12 u13 u14 u15 u16 u17 u18 u19 u20 u21 u22 u23 u24 u25 u26 u27 u28 u29 u30 u31 u32 u33 u34 u35 u36 u37 u38 u39 u40 u41 u42 u43 u44 u45 u46 u47 u48 u49 u50 u51 u52 u53 u54 u55 u56 u57 u58 u59 u60 u61 u62 u63 u64 u65 u66 u67 u68 u69 u70 u71 u72 u73 u74 u75 u76 u77 u78 u79 u80 u81 u82 u83 u84 u85 u86 u87 u88 u89 u90 u91 u92 u93 u94 u95 u96 u97 u98 u99 u100 u101 u102 u103 u104 u105 u106 u107 u108 u109 u110 u111 u112 u113 u114 u115 u116 u117 u118 u119 u120 u121 u122 u123 u124 u125 u126 u127 u128 u129 u130 u131 u132 u133 u134 u135 u136 u137 u138 u139 u140 u141:Value) :
 Code.wp Tryz.prog (tlD (tlD (tlD (Tryz.f187.body.getD .skip)))) (bodyPost Tryz.prog Tryz.f187 (fun e w'=>e= .returned (decFV (decK a b pt m))∧w.Grows w')) {tmps:=#[.string t,u1,.pointer (some ⟨w.heap.size,0,none⟩),.int .i64 m,u4,u5,u6,u7,u8,u9,u10,u11,u12,u13,u14,u15,u16,u17,u18,u19,u20,u21,u22,u23,u24,u25,u26,u27,u28,u29,u30,u31,u32,u33,u34,u35,u36,u37,u38,u39,u40,u41,u42,u43,u44,u45,u46,u47,u48,u49,u50,u51,u52,u53,u54,u55,u56,u57,u58,u59,u60,u61,u62,u63,u64,u65,u66,u67,u68,u69,u70,u71,u72,u73,u74,u75,u76,u77,u78,u79,u80,u81,u82,u83,u84,u85,u86,u87,u88,u89,u90,u91,u92,u93,u94,u95,u96,u97,u98,u99,u100,u101,u102,u103,u104,u105,u106,u107,u108,u109,u110,u111,u112,u113,u114,u115,u116,u117,u118,u119,u120,u121,u122,u123,u124,u125,u126,u127,u128,u129,u130,u131,u132,u133,u134,u135,u136,u137,u138,u139,u140,u141],defers:=[]} (w.alloc (.cells #[.int .i64 0,.int .i64 0] 24)):=by
 have hf:=form_eq a b pt
 have hbad (h:formB a b pt=false):decK a b pt m=none:=by unfold decK;rw [h];rfl
 have hgood (h:formB a b pt=true):decK a b pt m=decN a b m:=by unfold decK;rw [h];rfl
 conv=>arg 2;whnf
 apply wp_seq_k
 intro K1 hK1
 have HK1:=Lib.hid hK1
 clear hK1
 go_wp2_with ((go_at_call 203;(with_reducible refine(HC.out _).mono ?_);rintro e w' ⟨rfl,bs,dr,rfl⟩))
 clear HC
 by_cases s1:1≤a.size
 case neg=>
  have HX:=Lib.hid (hbad (by rw [hf,decide_eq_false s1];rfl))
  have z1:(a.size:Int)<1:=by omega
  clear hf hbad hgood
  refine HK1.out _ _ ?_
  apply wp_seq_k
  intro K2 hK2
  have HK2:=Lib.hid hK2
  clear hK2
  go_wp2_with fail
  go_returns
  exact⟨by rw [HX.out];rfl,.of_below belB⟩
 by_cases s2:a.size≤9
 case neg=>
  have HX:=Lib.hid (hbad (by rw [hf,decide_eq_false s2,Bool.and_false];rfl))
  have z1:(9:Int)<(a.size:Int):=by omega
  clear hf hbad hgood
  refine HK1.out _ _ ?_
  apply wp_seq_k
  intro K2 hK2
  have HK2:=Lib.hid hK2
  clear hK2
  go_wp2_with fail
  go_returns
  exact⟨by rw [HX.out];rfl,.of_below belB⟩
 have h0:0<a.size:=by omega
 have hh:=head_eq h0
 have key (hz:(decide (1<a.size)&&decide (a.data.toList.head? =some 48))=false):formB a b pt=!(pt&&(decide (b.size<1) || decide (4<b.size))):=by
  rw [hf,decide_eq_true s1,decide_eq_true s2,hz];rfl
 by_cases s3:1<a.size
 ·by_cases s4:((a[0]'h0).toNat:Int)=48
  ·have HX:=Lib.hid (hbad (by rw [hf,decide_eq_true s3,decide_eq_true (hh.2 s4)];simp))
   have z1:(1:Int)<(a.size:Int):=by omega
   have z2:(a.size:Int)≤9:=by omega
   clear hf hbad hgood key hh
   refine HK1.out _ _ ?_
   apply wp_seq_k
   intro K2 hK2
   have HK2:=Lib.hid hK2
   clear hK2
   go_wp2_with fail
   go_returns
   exact⟨by rw [HX.out];rfl,.of_below belB⟩
  ·have hz:(decide (1<a.size)&&decide (a.data.toList.head? =some 48))=false:=by rw [decide_eq_false (fun h=>s4 (hh.1 h)),Bool.and_false]
   have hk:=key hz
   have s7:(((a[0]'h0).toNat:Int)==48)=false:=by simpa using s4
   have z1:(1:Int)<(a.size:Int):=by omega
   have z2:(a.size:Int)≤9:=by omega
   clear hf key hh hz
   cases pt
   ·have HX:=Lib.hid (hgood (by rw [hk];rfl))
    have hb0:=hpt rfl
    clear hk hbad hgood hpt
    refine HK1.out _ _ ?_
    apply wp_seq_k
    intro K2 hK2
    have HK2:=Lib.hid hK2
    clear hK2
    go_wp2_with fail
    refine HK2.out _ _ ?_
    rw [HX.out]
    exact dec_T2 a b m w bs _ (by omega) (by omega) _ _ _ _ _ _ _ _ _ _ _ _ _ _ _ _ _ _ _ _ _ _ _ _ _ _ _ _ _ _ _ _ _ _ _ _ _ _ _ _ _ _ _ _ _ _ _ _ _ _ _ _ _ _ _ _ _ _ _ _ _ _ _ _ _ _ _ _ _ _ _ _ _ _ _ _ _ _ _ _ _ _ _ _ _ _ _ _ _ _ _ _ _ _ _ _ _ _ _ _ _ _ _ _ _ _ _ _ _ _ _ _ _ _ _ _ _ _ _ _ _ _ _ _ _ _ _ _ _ _ _ _ _ _ _ _ _ _
   ·clear hpt
    by_cases s5:b.size<1
    ·have HX:=Lib.hid (hbad (by rw [hk,decide_eq_true s5];rfl))
     have z3:(b.size:Int)<1:=by omega
     clear hk hbad hgood
     refine HK1.out _ _ ?_
     apply wp_seq_k
     intro K2 hK2
     have HK2:=Lib.hid hK2
     clear hK2
     go_wp2_with fail
     go_returns
     exact⟨by rw [HX.out];rfl,.of_below belB⟩
    ·by_cases s6:4<b.size
     ·have HX:=Lib.hid (hbad (by rw [hk,decide_eq_true s6];simp))
      have z3:(4:Int)<(b.size:Int):=by omega
      clear hk hbad hgood
      refine HK1.out _ _ ?_
      apply wp_seq_k
      intro K2 hK2
      have HK2:=Lib.hid hK2
      clear hK2
      go_wp2_with fail
      go_returns
      exact⟨by rw [HX.out];rfl,.of_below belB⟩
     ·have HX:=Lib.hid (hgood (by rw [hk,decide_eq_false s5,decide_eq_false s6];rfl))
      have z3:(b.size:Int)≤4:=by omega
      have z4:(1:Int)≤(b.size:Int):=by omega
      clear hk hbad hgood
      refine HK1.out _ _ ?_
      apply wp_seq_k
      intro K2 hK2
      have HK2:=Lib.hid hK2
      clear hK2
      go_wp2_with fail
      refine HK2.out _ _ ?_
      rw [HX.out]
      exact dec_T2 a b m w bs _ (by omega) (by omega) _ _ _ _ _ _ _ _ _ _ _ _ _ _ _ _ _ _ _ _ _ _ _ _ _ _ _ _ _ _ _ _ _ _ _ _ _ _ _ _ _ _ _ _ _ _ _ _ _ _ _ _ _ _ _ _ _ _ _ _ _ _ _ _ _ _ _ _ _ _ _ _ _ _ _ _ _ _ _ _ _ _ _ _ _ _ _ _ _ _ _ _ _ _ _ _ _ _ _ _ _ _ _ _ _ _ _ _ _ _ _ _ _ _ _ _ _ _ _ _ _ _ _ _ _ _ _ _ _ _ _ _ _ _ _ _ _ _
 ·have hz:(decide (1<a.size)&&decide (a.data.toList.head? =some 48))=false:=by rw [decide_eq_false s3,Bool.false_and]
  have hk:=key hz
  have z1:(a.size:Int)≤1:=by omega
  have z2:(1:Int)≤(a.size:Int):=by omega
  clear hf key hh hz
  cases pt
  ·have HX:=Lib.hid (hgood (by rw [hk];rfl))
   have hb0:=hpt rfl
   clear hk hbad hgood hpt
   refine HK1.out _ _ ?_
   apply wp_seq_k
   intro K2 hK2
   have HK2:=Lib.hid hK2
   clear hK2
   go_wp2_with fail
   refine HK2.out _ _ ?_
   rw [HX.out]
   exact dec_T2 a b m w bs _ (by omega) (by omega) _ _ _ _ _ _ _ _ _ _ _ _ _ _ _ _ _ _ _ _ _ _ _ _ _ _ _ _ _ _ _ _ _ _ _ _ _ _ _ _ _ _ _ _ _ _ _ _ _ _ _ _ _ _ _ _ _ _ _ _ _ _ _ _ _ _ _ _ _ _ _ _ _ _ _ _ _ _ _ _ _ _ _ _ _ _ _ _ _ _ _ _ _ _ _ _ _ _ _ _ _ _ _ _ _ _ _ _ _ _ _ _ _ _ _ _ _ _ _ _ _ _ _ _ _ _ _ _ _ _ _ _ _ _ _ _ _ _
  ·clear hpt
   by_cases s5:b.size<1
   ·have HX:=Lib.hid (hbad (by rw [hk,decide_eq_true s5];rfl))
    have z3:(b.size:Int)<1:=by omega
    clear hk hbad hgood
    refine HK1.out _ _ ?_
    apply wp_seq_k
    intro K2 hK2
    have HK2:=Lib.hid hK2
    clear hK2
    go_wp2_with fail
    go_returns
    exact⟨by rw [HX.out];rfl,.of_below belB⟩
   ·by_cases s6:4<b.size
    ·have HX:=Lib.hid (hbad (by rw [hk,decide_eq_true s6];simp))
     have z3:(4:Int)<(b.size:Int):=by omega
     clear hk hbad hgood
     refine HK1.out _ _ ?_
     apply wp_seq_k
     intro K2 hK2
     have HK2:=Lib.hid hK2
     clear hK2
     go_wp2_with fail
     go_returns
     exact⟨by rw [HX.out];rfl,.of_below belB⟩
    ·have HX:=Lib.hid (hgood (by rw [hk,decide_eq_false s5,decide_eq_false s6];rfl))
     have z3:(b.size:Int)≤4:=by omega
     have z4:(1:Int)≤(b.size:Int):=by omega
     clear hk hbad hgood
     refine HK1.out _ _ ?_
     apply wp_seq_k
     intro K2 hK2
     have HK2:=Lib.hid hK2
     clear hK2
     go_wp2_with fail
     refine HK2.out _ _ ?_
     rw [HX.out]
     exact dec_T2 a b m w bs _ (by omega) (by omega) _ _ _ _ _ _ _ _ _ _ _ _ _ _ _ _ _ _ _ _ _ _ _ _ _ _ _ _ _ _ _ _ _ _ _ _ _ _ _ _ _ _ _ _ _ _ _ _ _ _ _ _ _ _ _ _ _ _ _ _ _ _ _ _ _ _ _ _ _ _ _ _ _ _ _ _ _ _ _ _ _ _ _ _ _ _ _ _ _ _ _ _ _ _ _ _ _ _ _ _ _ _ _ _ _ _ _ _ _ _ _ _ _ _ _ _ _ _ _ _ _ _ _ _ _ _ _ _ _ _ _ _ _ _ _ _ _ _
theorem decM_eq(t:ByteArray)(m:Int):decM t m=decP (Lib.cut t.data.toList [46]).1 (Lib.cut t.data.toList [46]).2.1 (Lib.cut t.data.toList [46]).2.2 m:=by
 unfold decM formB decN decP cutA cutB cutP
 simp [ByteArray.size]
theorem strip_eq{s t:ByteArray}{m:Int}(h:stripM s.data.toList=(t.data.toList,m)):decF s.data.toList=decM t m:=by
 unfold decF
 rw [h,decM_eq]
theorem last_eq{s:ByteArray}{n:Nat}(h:s.size=n+1):s.data.toList.getLast? =some (s[n]'(by omega)):=by
 have h3:s.data.toList.length=s.size:=by simp
 have h2:s.data.toList≠[]:=by
  intro e
  rw [e]at h3;simp at h3;omega
 rw [List.getLast?_eq_some_getLast h2,List.getLast_eq_getElem]
 congr 1
 have e:s.data.toList.length-1=n:=by omega
 simp only [e]
 rfl
theorem drop_last{s:ByteArray}{n:Nat}(h:s.size=n+1):(s.extract 0 n).data.toList=s.data.toList.dropLast:=by
 rw [ByteArray.data_extract,Array.toList_extract]
 have h3:s.data.toList.length=s.size:=by simp
 simp only [List.extract,List.drop_zero,Nat.sub_zero,List.dropLast_eq_take]
 congr 1
 omega
theorem Decimal2_any(s:ByteArray)(w:World)(hs:s.size≤maxLen):Calls Tryz.prog 187 #[.string s] w fun e w'=>e= .returned (decFV (decF s.data.toList))∧w.Grows w':=by
 by_cases h0:0<s.size
 ·obtain⟨n,hn⟩:∃n,s.size=n+1:=⟨s.size-1,by omega⟩
  have hl:=last_eq hn
  have hd:=drop_last hn
  have hm:s.size≤9223372036854775807:=by unfold maxLen at hs;omega
  have he:(s.extract 0 n).size≤maxLen:=by rw [ByteArray.size_extract];omega
  have hlt:n<s.size:=by omega
  obtain⟨c,hc⟩:∃c,s[n]'hlt=c:=⟨_,rfl⟩
  rw [hc]at hl
  have hN:(s.size:Int)=(n:Int)+1:=by omega
  by_cases c3:c=100
  ·have HF:Hid (decF s.data.toList=decK (cutA (s.extract 0 n)) (cutB (s.extract 0 n)) (cutP (s.extract 0 n)) 3):=Lib.hid (strip_eq (by unfold stripM;rw [hl,c3,if_pos rfl,hd]))
   have HE:=Lib.hid he
   have q1:((c.toNat:Int)==100)=true:=by rw [c3];rfl
   clear he hl hd c3 hs
   exact fz10
  ·by_cases c4:c=109
   focus
    have HF:Hid (decF s.data.toList=decK (cutA (s.extract 0 n)) (cutB (s.extract 0 n)) (cutP (s.extract 0 n)) 4):=Lib.hid (strip_eq (by unfold stripM;rw [hl,c4,if_neg (by decide),if_pos rfl,hd]))
    have HE:=Lib.hid he
    have q1:((c.toNat:Int)==100)=false:=by rw [c4];rfl
    have q2:((c.toNat:Int)==109)=true:=by rw [c4];rfl
   rotate_left
   focus
    have HF:Hid (decF s.data.toList=decK (cutA s) (cutB s) (cutP s) 2):=Lib.hid (strip_eq (by unfold stripM;rw [hl,if_neg (by simpa using c3),if_neg (by simpa using c4)]))
    have HE:=Lib.hid hs
    have q1:((c.toNat:Int)==100)=false:=by
     rw [beq_eq_false_iff_ne];intro k;exact c3 (UInt8.toNat_inj.1 (by have:(100:UInt8).toNat=100:=rfl;omega))
    have q2:((c.toNat:Int)==109)=false:=by
     rw [beq_eq_false_iff_ne];intro k;exact c4 (UInt8.toNat_inj.1 (by have:(109:UInt8).toNat=109:=rfl;omega))
   rotate_left
   all_goals
    clear he hl hd c3 c4 hs
    exact fz10
 ·have h1:s.data.toList= []:=by
   have h3:s.data.toList.length=s.size:=by simp
   exact List.eq_nil_of_length_eq_zero (by omega)
  have HF:Hid (decF s.data.toList=decK (cutA s) (cutB s) (cutP s) 2):=Lib.hid (strip_eq (by rw [h1];rfl))
  have HE:=Lib.hid hs
  have hN:(s.size:Int)=0:=by omega
  clear h1 hs
  exact fz10
def FdPost(n d m:Int)(w:World)(e:Ending)(w':World):Prop:=∃s,e= .returned (.tuple #[.string s,.bool (decOk n d m)])∧(decOk n d m=true→s.data.toList=dec2T n d m)∧w.Grows w'
theorem FdPost.no{n d m:Int}{w w':World}(h:decOk n d m=false)(hw:w.Grows w'):FdPost n d m w (.returned (.tuple #[.string ⟨#[]⟩,.bool false])) w':=
 ⟨⟨#[]⟩,by rw [h],fun k=>(by rw [h]at k;cases k),hw⟩
theorem FdPost.yes{n d m:Int}{w w':World}{s:ByteArray}(h:decOk n d m=true)(hs:s.data.toList=dec2T n d m)(hw:w.Grows w'):FdPost n d m w (.returned (.tuple #[.string s,.bool true])) w':=
 ⟨s,by rw [h],fun _=>hs,hw⟩
def FdAt(n d:Int)(k:Nat)(l:List Int)(r:Int)(s:ByteArray):Prop:=
 fdig d 4 (n % d)=(fdig d (4-k) r).map (l++ ·)∧l.length=k∧s.data.toList=Lib.decDigits (n / d).toNat++dotL l
theorem dotL_snoc{l:List Int}(h:l≠[])(x:Int):dotL (l++[x])=dotL l++[dgB x]:=by
 unfold dotL
 rw [if_neg h,if_neg (by simp)]
 simp
theorem dotL_one(x:Int):dotL [x]= [46,dgB x]:=by unfold dotL;rw [if_neg (by simp)];rfl
theorem dec_dg{x:Int}(h0:0≤x)(h1:x≤9):Lib.decDigits x.toNat= [dgB x]:=by
 rw [Lib.decDigits,dif_pos (by omega)];rfl
theorem app_list(a b:ByteArray):(a++b).data.toList=a.data.toList++b.data.toList:=by
 rw [ByteArray.data_append,Array.toList_append]
theorem fdig_more{d:Int}{f:Nat}{r:Int}(h:0<r):fdig d (f+1) r=(fdig d f (r*10 % d)).map fun l=>r*10 / d::l:=by
 rw [fdig,if_neg (by omega)]
theorem FdAt.first{n d r:Int}{s:ByteArray}(h:FdAt n d 0 [] r s)(hr:0<r)(h0:0≤r*10 / d)(h1:r*10 / d≤9):FdAt n d 1 [r*10 / d] (r*10 % d) (s++⟨#[46]⟩++⟨(Lib.decDigits (r*10 / d).toNat).toArray⟩):=by
 obtain⟨a,-,c⟩:=h
 refine⟨?_,rfl, ?_⟩
 ·rw [a,show 4-0=3+1 by rfl,fdig_more hr]
  cases fdig d 3 (r*10 % d)<;>rfl
 ·rw [app_list,app_list,c,dec_dg h0 h1,dotL_one]
  simp [dotL]
theorem FdAt.more{n d r:Int}{s:ByteArray}{k:Nat}{l:List Int}(h:FdAt n d k l r s)(hk:0<k)(hk4:k<4)(hr:0<r)(h0:0≤r*10 / d)(h1:r*10 / d≤9) :
 FdAt n d (k+1) (l++[r*10 / d]) (r*10 % d) (s++⟨(Lib.decDigits (r*10 / d).toNat).toArray⟩):=by
 obtain⟨a,b,c⟩:=h
 refine⟨?_,by simp [b], ?_⟩
 ·rw [a,show 4-k=(4-(k+1))+1 by omega,fdig_more hr]
  cases fdig d (4-(k+1)) (r*10 % d)<;>simp
 ·rw [app_list,c,dec_dg h0 h1,dotL_snoc (by intro e;rw [e]at b;simp at b;omega),List.append_assoc]
theorem FdAt.none4{n d r:Int}{s:ByteArray}{l:List Int}(h:FdAt n d 4 l r s)(hr:0<r):fdig d 4 (n % d)=none:=by
 rw [h.1];show(fdig d 0 r).map _=none;rw [fdig,if_neg (by omega)];rfl
theorem FdAt.some{n d r:Int}{s:ByteArray}{k:Nat}{l:List Int}(h:FdAt n d k l r s)(hr:r≤0):fdig d 4 (n % d)=some l:=by
 rw [h.1]
 have:fdig d (4-k) r=Option.some []:=by
  cases 4-k with
  |zero=>rw [fdig,if_pos hr]
  |succ f=>rw [fdig,if_pos hr]
 rw [this];simp
theorem dec_cmp{s:ByteArray}{n d m:Int}{l:List Int}(h1:1≤d)(h2:d≤10000)(h3:0≤n)(h4:n≤1000000000000000)(hf:fdig d 4 (n % d)=some l)(hs:s.data.toList=Lib.decDigits (n / d).toNat++dotL l++sufL m) :
 (decF s.data.toList=none∧decOk n d m=false)∨∃a b c,decF s.data.toList=some (a,b,c)∧((a=n∧b=d∧c=m∧decOk n d m=true∧s.data.toList=dec2T n d m)∨(a≠n∧decOk n d m=false)∨(b≠d∧decOk n d m=false)∨(c≠m∧decOk n d m=false)):=by
 have hr:=dec2_read (m:=m) h1 h2 h3 h4 hf
 rw [←hs]at hr
 cases hd:decF s.data.toList with
 |none=>
  left
  refine⟨rfl, ?_⟩
  rw [Bool.eq_false_iff];intro k
  have:=hr.2 k
  rw [hd]at this;cases this
 |some t=>
  right
  obtain⟨a,b,c⟩:=t
  refine⟨a,b,c,rfl, ?_⟩
  by_cases e1:a=n
  ·by_cases e2:b=d
   ·by_cases e3:c=m
    ·left
     refine⟨e1,e2,e3,hr.1 (by rw [hd,e1,e2,e3]), ?_⟩
     unfold dec2T;rw [hf];exact hs
    ·right;right;right
     refine⟨e3, ?_⟩
     rw [Bool.eq_false_iff];intro k
     have:=hr.2 k
     rw [hd]at this
     simp only [Option.some.injEq,Prod.mk.injEq]at this
     exact e3 this.2.2
   ·right;right;left
    refine⟨e2, ?_⟩
    rw [Bool.eq_false_iff];intro k
    have:=hr.2 k
    rw [hd]at this
    simp only [Option.some.injEq,Prod.mk.injEq]at this
    exact e2 this.2.1
  ·right;left
   refine⟨e1, ?_⟩
   rw [Bool.eq_false_iff];intro k
   have:=hr.2 k
   rw [hd]at this
   simp only [Option.some.injEq,Prod.mk.injEq]at this
   exact e1 this.1
theorem FormatDecimal2_any(n d m:Int)(w:World)(h1:I64 n)(h2:I64 d)(h3:I64 m)(ht:Tab w):Calls Tryz.prog 144 #[.agg #[.int .i64 n,.int .i64 d],.int .i64 m] w (FdPost n d m w):=by
 unfold I64 at h1 h2 h3
 by_cases c1:d<1
 ·exact fz28
 by_cases c2:10000<d
 ·exact fz28
 by_cases c3:n<0
 ·exact fz28
 by_cases c4:(1000000000000000:Int)<n
 ·exact fz28
 have d0:1≤d:=by omega
 have d1:d≤10000:=by omega
 have n0:0≤n:=by omega
 have n1:n≤1000000000000000:=by omega
 clear c1 c2 c3 c4
 have hq0:0≤n / d:=Int.ediv_nonneg n0 (by omega)
 have hq1:n / d≤n:=Int.ediv_le_self _ n0
 have hr0:0≤n % d:=Int.emod_nonneg _ (by omega)
 have hr1:n % d<d:=Int.emod_lt_of_pos _ (by omega)
 have et:n.tdiv d=n / d:=Int.tdiv_eq_ediv_of_nonneg n0
 have em:n.tmod d=n % d:=Int.tmod_eq_emod_of_nonneg n0
 have dz:(d==0)=false:=by simp;omega
 have HT:=Lib.hid ht
 have hi:Lib.itoa (n / d)=Lib.decDigits (n / d).toNat:=by unfold Lib.itoa;rw [if_neg (by omega)]
 have HI:Hid (∀w,Tab w→Calls Tryz.prog 186 #[.int .i64 (n / d)] w fun e w'=>e= .returned (.string ⟨(Lib.decDigits (n / d).toNat).toArray⟩)∧w.Grows w'):=Lib.hid (fun w h=>by
  have:=Itoa_any (n / d) (by omega) (by omega) w h
  rwa [hi]at this)
 have HS0:Hid (FdAt n d 0 [] (n % d) ⟨(Lib.decDigits (n / d).toNat).toArray⟩):=Lib.hid ⟨by show _=(fdig d 4 (n % d)).map _;simp,rfl,by simp [dotL]⟩
 have HZ0:Hid ((⟨(Lib.decDigits (n / d).toNat).toArray⟩:ByteArray).size≤20):=Lib.hid (by
  show(Lib.decDigits (n / d).toNat).toArray.size≤20
  rw [List.size_toArray,Lib.decDigits_length]
  exact Lib.nDigits_le20 _ (by omega))
 clear hi ht
 generalize(⟨(Lib.decDigits (n / d).toNat).toArray⟩:ByteArray)=s0 at *
 go_enter Tryz.func144,Tryz.ntmps144
 go_wp2_with (go_at_call 186;(with_reducible refine(HI.out _ (HT.out.alloc _)).mono ?_);rintro e w' ⟨rfl,bs,dr,rfl⟩)
 go_loopw [6,7,8] (fun v6 v7 v8 wr=>∃k:Nat,∃l:List Int,∃r:Int,∃s:ByteArray,k≤4∧v8= .int .i64 k∧v7= .int .i64 r∧v6= .string s∧0≤r∧r<d∧(s.size:Int)≤30+10*k∧Hid (FdAt n d k l r s)∧
  World.Grows (w.alloc (.cells #[.int .i64 n,.int .i64 d] 24)) wr) (fun _ _ v8 _=>5-(intOf v8).toNat)
 case atStart=>exact⟨0,[],_,_,by omega,rfl,rfl,rfl,hr0,hr1,by have:=HZ0.out;omega,HS0,.of_below belB⟩
 case round=>
  obtain⟨k,l,r,s,hk,rfl,rfl,rfl,r0,r1,hsz,HF,bs3,dr3,rfl⟩:=hrel
  clear HI
  by_cases hp:0<r
  ·have x0:0≤r*10 / d:=Int.ediv_nonneg (by omega) (by omega)
   have x1:r*10 / d≤9:=by
    have:r*10 / d<10:=Int.ediv_lt_of_lt_mul (by omega) (by omega)
    omega
   have x2:0≤r*10 % d:=Int.emod_nonneg _ (by omega)
   have x3:r*10 % d<d:=Int.emod_lt_of_pos _ (by omega)
   have x4:(r*10).tdiv d=r*10 / d:=Int.tdiv_eq_ediv_of_nonneg (by omega)
   have x5:(r*10).tmod d=r*10 % d:=Int.tmod_eq_emod_of_nonneg (by omega)
   have HX:Hid _:=Lib.hid (fun w=>Itoa_digit (r*10 / d) x0 x1 w)
   have HXB:=Lib.hid (And.intro x0 x1)
   obtain⟨s9,hs9⟩:∃s9,(⟨(Lib.decDigits (r*10 / d).toNat).toArray⟩:ByteArray)=s9:=⟨_,rfl⟩
   have hz9:s9.size=1:=by rw [←hs9,dec_dg x0 x1];rfl
   rw [hs9]at HX
   have HS9:=Lib.hid hs9
   clear hs9
   by_cases k0:k=0
   ·subst k0
    have hl:l= []:=List.eq_nil_of_length_eq_zero HF.out.2.1
    subst hl
    go_wp2_with (go_at_call 186;(with_reducible refine(HX.out _).mono ?_);rintro e w' ⟨rfl,rfl⟩)
    go_roundw
    case rel=>exact⟨1,_,_,_,by omega,rfl,rfl,rfl,x2,x3,by
     rw [ByteArray.size_append,ByteArray.size_append,hz9]
     show((s.size+1+1:Nat):Int)≤_
     simp at hsz ⊢;omega,Lib.hid (by rw [←HS9.out];exact HF.out.first hp HXB.out.1 HXB.out.2),.of_below belB⟩
    case measure=>simp [intOf]
   ·by_cases k4:k=4
    ·subst k4
     have HN:=Lib.hid (dec2_none (m:=m) d0 d1 n0 n1 (HF.out.none4 hp))
     go_wp2_with fail
     go_returns
     exact FdPost.no HN.out (.of_below belB)
    ·have kz:((k:Int)==0)=false:=by simp;omega
     have k44:((k:Int)==4)=false:=by simp;omega
     go_wp2_with (go_at_call 186;(with_reducible refine(HX.out _).mono ?_);rintro e w' ⟨rfl,rfl⟩)
     go_roundw
     case rel=>exact⟨k+1,_,_,_,by omega,by go_num,rfl,rfl,x2,x3,by
      rw [ByteArray.size_append,hz9];omega,Lib.hid (by rw [←HS9.out];exact HF.out.more (by omega) (by omega) hp HXB.out.1 HXB.out.2),.of_below belB⟩
     case measure=>simp [intOf];omega
  ·clear HS0 HZ0
   have hsz2:(s.size:Int)≤70:=by omega
   by_cases m3:m=3
   ·subst m3
    have HDEC:=Lib.hid (dec_cmp (m:=3) (s:=s++⟨#[100]⟩) d0 d1 n0 n1 (HF.out.some (by omega)) (by rw [app_list,HF.out.2.2];try rfl))
    have HD:Hid _:=Lib.hid (fun w=>Decimal2_any (s++⟨#[100]⟩) w (by rw [ByteArray.size_append];unfold maxLen;show s.size+1≤_;omega))
    clear HF
    rcases HDEC.out with ⟨hn,hno⟩|⟨a,b,c,hs,⟨rfl,rfl,rfl,hy,ht⟩|⟨h1,hno⟩|⟨h1,hno⟩|⟨h1,hno⟩⟩
    ·exact fz48
    ·exact fz24
    ·exact fz35
    ·exact fz39
    ·rw [hs]at HD
     simp only [decFV]at HD
     have HO:=Lib.hid hno
     have q1:(c==3)=false:=by simpa using h1
     exact fz12
   ·by_cases m4:m=4
    ·subst m4
     have HDEC:=Lib.hid (dec_cmp (m:=4) (s:=s++⟨#[109]⟩) d0 d1 n0 n1 (HF.out.some (by omega)) (by rw [app_list,HF.out.2.2];try rfl))
     have HD:Hid _:=Lib.hid (fun w=>Decimal2_any (s++⟨#[109]⟩) w (by rw [ByteArray.size_append];unfold maxLen;show s.size+1≤_;omega))
     clear HF
     rcases HDEC.out with ⟨hn,hno⟩|⟨a,b,c,hs,⟨rfl,rfl,rfl,hy,ht⟩|⟨h1,hno⟩|⟨h1,hno⟩|⟨h1,hno⟩⟩
     ·exact fz48
     ·exact fz24
     ·exact fz35
     ·exact fz39
     ·rw [hs]at HD
      simp only [decFV]at HD
      have HO:=Lib.hid hno
      have q1:(c==4)=false:=by simpa using h1
      exact fz12
    ·have y3:(m==3)=false:=by simpa using m3
     have y4:(m==4)=false:=by simpa using m4
     have hsuf:sufL m= []:=by unfold sufL;rw [if_neg m3,if_neg m4]
     have hap:s.data.toList=s.data.toList++sufL m:=by rw [hsuf,List.append_nil]
     have HAP:=Lib.hid hap
     clear m3 m4 hsuf hap
     have HDEC:=Lib.hid (dec_cmp (m:=m) (s:=s) d0 d1 n0 n1 (HF.out.some (by omega)) (by rw [HAP.out,HF.out.2.2];try rfl))
     have HD:Hid _:=Lib.hid (fun w=>Decimal2_any (s) w (by unfold maxLen;omega))
     clear HF
     rcases HDEC.out with ⟨hn,hno⟩|⟨a,b,c,hs,⟨rfl,rfl,rfl,hy,ht⟩|⟨h1,hno⟩|⟨h1,hno⟩|⟨h1,hno⟩⟩
     ·exact fz48
     ·exact fz24
     ·exact fz35
     ·exact fz39
     ·rw [hs]at HD
      simp only [decFV]at HD
      have HO:=Lib.hid hno
      have q1:(c==m)=false:=by simpa using h1
      exact fz12
theorem node2_lit(e:Ex)(a:Option Addr)(cap:Nat)(w:World)(hr:ExRng e)(ht:Tab w)(hle:(e.args.length:Int)=argsN e.op)(ho:e.op=1):(Calls Tryz.prog 134 #[exV e (.slice a e.args.length cap)] w fun r w'=>r= .returned (.bool (nodeB e))∧w.Grows w'):=by
 have HF:Hid (nodeB e=(decOk e.num e.den e.dim&&e.name.toList.isEmpty)):=Lib.hid (by unfold nodeB;rw [decide_eq_true hle,Bool.true_and,if_pos ho])
 obtain⟨on,od⟩:=hr.num
 obtain⟨pn,pd⟩:=hr.den
 have hsz:=hr.name
 have hi:=Lib.hid (And.intro hr.num (And.intro hr.den hr.dim))
 clear hr
 have HT:=Lib.hid ht
 clear ht
 have h1:((e.args.length:Int)!=argsN 1)=false:=by rw [ho]at hle;simpa using hle
 clear hle
 cases hd:decOk e.num e.den e.dim
 all_goals
  have HD:Hid _:=Lib.hid (fun w (ht:Tab w)=>FormatDecimal2_any e.num e.den e.dim w hi.out.1 hi.out.2.1 hi.out.2.2 ht)
  unfold FdPost at HD
  rw [hd]at HD HF
  clear hd
  go_enter Tryz.func134,Tryz.ntmps134
  go_wp2_with fail
  go_quiet ((go_at_call 172;exact Calls.quiet_eq (arity2_any _ _)))
  go_wp2_with (go_at_call 144;refine(HD.out _ ((HT.out.alloc _).drewN _)).mono ?_;rintro e' w' ⟨s,rfl,-,bs,d,rfl⟩)
  all_goals
   go_returns
   exact⟨ret_bool (by rw [HF.out];simp [*]),.of_below belB⟩
theorem nodeLit:NodeLit:=fun e a cap w hr ht hle ho=>node2_lit e a cap w hr ht hle ho
theorem ValidExpr2_any(S:Nat→Prop)(e:Ex)(v:Value)(w:World)(h:Hid (RepE S w e v))(hbig:Hid (e.size≤2305843009213693952))(ht:Hid (Tab w)):Calls Tryz.prog 35 #[exV e v] w fun r w'=>r= .returned (.bool (validB e))∧w.Grows w':=
 ValidExpr2_g S e v w h hbig ht (Lib.hid (.inl nodeLit))
theorem Infer2_any(S:Nat→Prop)(env:List (ByteArray × Int))(e:Ex)(v ve:Value)(w:World)(h:RepE S w e v)(hbig:e.size≤2305843009213693952)(ht:Tab w)(hv:BindAt w ve env) :
 Calls Tryz.prog 46 #[exV e v,ve] w (InfP (inferE env e) w):=Infer2_g S env e v ve w h hbig ht hv (Lib.hid (.inl nodeLit))
end Go.Proofs.YtfoefpoaomepbaaGreatDoor
namespace Go.Proofs.YtfoefpoaomepbaaGreatDoor
open Go.RowKit Go.Shelf Go.Sort Go.Lib
attribute [local go_sem] Oper.semAt_some
def YrLies(n₀:Nat)(W:World)(v:Value)(l:List Int):Prop:=
 l.length≤1000∧∃a cap,v= .slice a l.length cap∧(l.length=0∨∃b off,a=some ⟨b,off,none⟩∧b<n₀∧∀i,i<l.length→W.cell? ⟨b,off+i,none⟩=some (.int .i64 (l.getD i 0)))
theorem YrLies.below{n₀:Nat}{W W':World}{v:Value}{l:List Int}(h:YrLies n₀ W v l)(hb:Below n₀ W W'):YrLies n₀ W' v l:=by
 obtain⟨h0,a,cap,hv,h1⟩:=h
 refine⟨h0,a,cap,hv,h1.imp id ?_⟩
 rintro⟨b,off,ha,hlt,hc⟩
 exact⟨b,off,ha,hlt,fun i hi=>(hb.cell (p:=⟨b,off+i,none⟩) hlt).trans (hc i hi)⟩
theorem YrAt.lies{w:World}{v:Value}{l:List Int}(h:YrAt w v l):YrLies w.heap.size w v l:=h
theorem infoY:(Tryz.prog.info? 3).map (fun i=>(i.zero,i.size,i.bytes))=some (some (.int .i64 0),1,8):=by kernel_rfl
end Go.Proofs.YtfoefpoaomepbaaGreatDoor
