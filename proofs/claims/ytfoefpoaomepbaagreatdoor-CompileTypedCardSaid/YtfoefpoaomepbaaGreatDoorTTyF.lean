import Derived.Test.YtfoefpoaomepbaaGreatDoorTTyR
import Derived.Test.YtfoefpoaomepbaaGreatDoorTLayA
import Derived.Test.YtfoefpoaomepbaaGreatDoorTBestI
import Derived.Test.YtfoefpoaomepbaaGreatDoorTK
set_option linter.all false
set_option maxHeartbeats 16000000
set_option maxRecDepth 1000000
namespace Go.Proofs.YtfoefpoaomepbaaGreatDoor
open Go.RowKit
def InfP(r:Int × Int)(w:World)(e:Ending)(w':World):Prop:=e= .returned (.tuple #[.int .i64 r.1,.int .i64 r.2])∧w.Grows w'
theorem infP{r:Int × Int}{a b:Int}{w w':World}(h:r=(a,b))(hg:w.Grows w'):InfP r w (.returned (.tuple #[.int .i64 a,.int .i64 b])) w':=by subst h;exact⟨rfl,hg⟩
theorem formeds_get{l:List Ex}(h:formedsB l=true)(k:Nat)(hk:k<l.length):formedB (l.getD k default)=true:=by
 by_cases hf:formedB (l.getD k default)=true
 ·exact hf
 ·rw [formedsB_no l k hk (by simpa using hf)]at h;cases h
theorem formed_op{e:Ex}(h:formedB e=true)(h1:¬e.op=1)(h2:¬e.op=2)(h3:¬e.op=3):(e.args.length:Int)=argsN e.op∧4≤e.op∧e.op≤21∧formedsB e.args=true:=by
 rw [formedB_eq,Bool.and_eq_true,decide_eq_true_eq,if_neg h1,if_neg h2,if_neg h3,Bool.and_eq_true]at h
 have hop:4≤e.op∧e.op≤21:=by have ha:=h.1;unfold argsN at ha;(repeat' split at ha)<;>omega
 exact⟨h.1,hop.1,hop.2,h.2.1⟩
abbrev infD(env:List (ByteArray × Int))(e:Ex):Int:=(inferF env e).1
abbrev infC(env:List (ByteArray × Int))(e:Ex):Int:=(inferF env e).2
abbrev dimsK(env:List (ByteArray × Int))(e:Ex)(k:Nat):List Int:=(e.args.take k).map (infD env)
theorem dimsK_succ(env:List (ByteArray × Int))(e:Ex)(k:Nat)(hk:k<e.args.length):dimsK env e (k+1)=dimsK env e k++[infD env (e.arg k)]:=by
 unfold dimsK
 rw [List.take_succ_eq_append_getElem hk,List.map_append]
 congr 1
 show [infD env e.args[k]]= [infD env (e.args.getD k default)]
 rw [List.getD_eq_getElem?_getD,List.getElem?_eq_getElem hk];rfl
theorem inf_op(env:List (ByteArray × Int))(e:Ex)(h1:¬e.op=1)(h2:¬e.op=2)(h3:¬e.op=3)(hok:∀j,j<e.args.length→infC env (e.arg j)=0) :
 inferF env e=if resD e.op (dimsK env e e.args.length)=0 then(0,6)else(resD e.op (dimsK env e e.args.length),0):=by
 rw [inferF_eq,infers_ok env e.args hok]
 unfold infNode dimsK
 rw [if_neg h1,if_neg h3,if_neg h2,if_neg (by simp),List.take_length]
theorem inf_bad(env:List (ByteArray × Int))(e:Ex)(h1:¬e.op=1)(h2:¬e.op=2)(h3:¬e.op=3)(k:Nat)(hk:k<e.args.length)(hj:∀j,j<k→infC env (e.arg j)=0)(hb:infC env (e.arg k)≠0):inferF env e=(0,infC env (e.arg k)):=by
 have:=infers_bad env e.args k hk hj hb
 rw [inferF_eq]
 unfold infNode
 have hb2:(infersF env e.args).2≠0:=by rw [this];exact hb
 rw [if_neg h1,if_neg h3,if_neg h2,if_pos hb2,this];rfl
theorem own_grow{w:World}{base:Nat}{e:TypeId}{size:Nat}{v:Value}{n:Nat}{xs:List Value}(h:w.ownsRow base e size v n xs){w':World}(hg:w.Grows w'):w'.ownsRow base e size v n xs:=
 ownsRow_keep h fun k _ hk=>hg.below.block k hk
theorem infoI:(Tryz.prog.info? 3).map (fun i=>(i.zero,i.size,i.bytes))=some (some (.int .i64 0),1,8):=by kernel_rfl
theorem infer2_leaf(env:List (ByteArray × Int))(e:Ex)(a:Option Addr)(cap:Nat)(ve:Value)(w:World)(hv:BindAt w ve env)(ho:e.op=1∨e.op=2∨e.op=3):(Calls Tryz.prog 104 #[exV e (.slice a e.args.length cap),ve] w (InfP (inferF env e) w)):=by
 have HV:=Lib.hid hv
 obtain⟨-,ae,ce,rfl,-⟩:=hv
 have HF:=Lib.hid (inferF_eq env e)
 unfold infNode at HF
 have HL:=Lib.hid (lookV_infer env e.name)
 have HC:Hid (∀w',w.Grows w'→Calls Tryz.prog 150 #[.string e.name,.slice ae env.length ce] w' (LkP env e.name w')):=Lib.hid (fun w' hg=>lookup_any e.name env _ w' (HV.out.grows hg))
 unfold LkP at HC
 rcases ho with ho|ho|ho
 ·go_enter Tryz.func104,Tryz.ntmps104
  go_wp2_with fail
  go_returns
  exact infP (by rw [HF.out,if_pos ho]) (.of_below belB)
 ·cases hb:(lookV env e.name).2
  all_goals
   rw [hb]at HC
   have HB:=Lib.hid hb
   clear hb
   generalize hm:(lookV env e.name).1=m at HC
   have HM:=Lib.hid hm
   clear hm
   go_enter Tryz.func104,Tryz.ntmps104
   go_wp2_with (go_at_call 150;refine(HC.out _ (.of_below belB)).mono ?_;rintro e' w' ⟨rfl,bs,d,rfl⟩)
   go_returns
   exact infP (by rw [HF.out,if_neg (by omega),if_neg (by omega),if_pos ho,HL.out,HB.out];first|(rw [if_pos rfl,HM.out];done)|(rw [if_neg (by simp)];done)) (.of_below belB)
 ·go_enter Tryz.func104,Tryz.ntmps104
  exact tz58
theorem infer2_walk(S:Nat→Prop)(env:List (ByteArray × Int))(hE:dimsOk env=true)(n:Nat):∀(e:Ex),e.size≤n→formedB e=true→∀(v ve:Value) (w:World),RepE S w e v→BindAt w ve env→
 Calls Tryz.prog 104 #[exV e v,ve] w (InfP (inferF env e) w):=by
 induction n with
 |zero=>intro e he;have:=e.size_pos;omega
 |succ n ih=>
  intro e he hf v ve w h hv
  have HR:=Lib.hid h
  have HV:=Lib.hid hv
  have hrng:=h.rng
  obtain⟨a,cap,rfl⟩:=h.form0
  by_cases h1:e.op=1
  ·exact infer2_leaf env e a cap ve w hv (.inl h1)
  by_cases h2:e.op=2
  ·exact infer2_leaf env e a cap ve w hv (.inr (.inl h2))
  by_cases h3:e.op=3
  ·exact infer2_leaf env e a cap ve w hv (.inr (.inr h3))
  obtain⟨hal,ho4,ho21,hfs⟩:=formed_op hf h1 h2 h3
  have hn3:e.args.length≤3∧1≤e.args.length:=by unfold argsN at hal;(repeat' split at hal)<;>omega
  have HOK:=Lib.hid (inf_op env e h1 h2 h3)
  have HBAD:=Lib.hid (inf_bad env e h1 h2 h3)
  have HOP:=Lib.hid (And.intro hal (And.intro ho4 ho21))
  have IH:Hid (∀k,k<e.args.length→∀ak ck w',w.Grows w'→RepE S w' (e.arg k) (.slice ak (e.arg k).args.length ck)→Calls Tryz.prog 104 #[exV (e.arg k) (.slice ak (e.arg k).args.length ck),ve] w' (InfP (inferF env (e.arg k)) w')):=
   Lib.hid (fun k hk ak ck w' hg hr=>by
    have hsm:=e.size_arg k hk
    exact ih (e.arg k) (by omega) (formeds_get hfs k hk) _ ve w' hr (HV.out.grows hg))
  have HDM:Hid (∀k,k<e.args.length→infC env (e.arg k)=0→1≤infD env (e.arg k)):=Lib.hid (fun k hk hc=>(infer_dim hE (e.arg k) (formeds_get hfs k hk) hc).1)
  unfold InfP at IH
  obtain⟨-,ae,ce,rfl,-⟩:=hv
  have p1:(e.op==1)=false:=by simpa using h1
  have p2:(e.op==2)=false:=by simpa using h2
  have p3:(e.op==3)=false:=by simpa using h3
  clear h ih hE hf hfs hal ho4 ho21 he h1 h2 h3
  obtain⟨i0,hi,hz0,hz1,hz2⟩:=info_parts infoI
  go_enter Tryz.func104,Tryz.ntmps104
  go_wp2_with fail
  go_loopw [8,38] (fun v8 v38 wr=>∃k:Nat,k≤e.args.length∧v38= .int .i64 k∧Hid (∀j,j<k→infC env (e.arg j)=0)∧Below (w.heap.size+1) (w.alloc (.cells #[.int .i64 e.op,.int .i64 e.num,.int .i64 e.den,.int .i64 e.dim,.string e.name,.slice a e.args.length cap] 27)) wr∧wr.ownsRow (w.heap.size+1) 3 1 v8 k ((dimsK env e k).map (Value.int .i64))) (fun _ v38 _=>e.args.length-(intOf v38).toNat)
  case atStart=>exact⟨0,by omega,rfl,Lib.hid (fun j hj=>by omega),.refl _ _,World.ownsRow_nil _ _ _ _⟩
  case round=>
   obtain⟨k,hk,rfl,hno,hB,hown⟩:=hrel
   have hsW:w.heap.size+1≤wr.heap.size:=by have:=hB.size;simpa using this
   have hbox:wr.cell? ⟨w.heap.size,0,none⟩=some (.int .i64 e.op):=by
    rw [hB.cell (p:=⟨w.heap.size,0,none⟩) (by simp),World.cell?_alloc_at _ _ _ _ rfl];rfl
   have hG:w.Grows wr:=.of_below ((((Below.refl _ _).alloc (Nat.le_refl _) _)).trans (hB.mono (by omega)))
   have HB:=Lib.hid hB
   have HO:=Lib.hid hown
   have HG:=Lib.hid hG
   by_cases hlt:k<e.args.length
   ·have hRk:=HR.out.grows hG
    cases hRk with
    |mk _ _ _ vs hr hc hs=>
     rcases hc with h0|⟨b,off,rfl,-,hbw,hx⟩
     ·omega
     ·have hR:=hs k hlt
      obtain⟨x0,x1,x2,x3,x4,x5⟩:=hx k hlt
      obtain⟨ak,ck,hvk⟩:=hR.form0
      rw [hvk]at x5 hR
      have HRK:=Lib.hid hR
      have hcall:=fun w' hg hg2=>IH.out k hlt ak ck w' hg (HRK.out.grows hg2)
      have HNX:=Lib.hid (dimsK_succ env e k hlt)
      have HKL:=Lib.hid hlt
      have HBK:=Lib.hid (fun hj hb=>HBAD.out k hlt hj hb)
      have d1:(k:Int)<(e.args.length:Int):=by omega
      clear hx hs hr hvk hG hB hown hR
      unfold exV at hcall
      obtain⟨x,hxe⟩:∃x,e.arg k=x:=⟨_,rfl⟩
      rw [hxe]at hcall x0 x1 x2 x3 x4 x5 HNX HBK
      have HXE:=Lib.hid hxe
      clear hxe
      have HCL:=Lib.hid hcall
      clear hcall
      obtain⟨q,hq⟩:∃q,inferF env x=q:=⟨_,rfl⟩
      unfold infC at HBK
      unfold infD at HNX
      rw [hq]at HCL HBK HNX
      have HQ:=Lib.hid hq
      clear hq
      obtain⟨qd,qc⟩:=q
      dsimp only at HCL HBK HNX
      by_cases hqc:qc=0
      ·subst hqc
       go_wp2_with (first
        |(go_at_call 104;refine(HCL.out _ (World.Grows.trans HG.out (.of_below belB)) (.of_below belB)).mono ?_;rintro e' w' ⟨rfl,bs,d,rfl⟩)
        |(at_builtin;refine wpList_append_own _ rfl _ _ 22 rfl (w.heap.size+1) 3 i0 (.int .i64 0) 1 8 Tryz.underlying22 hi hz0 hz1 hz2 rfl (by decide) _ _ _ rfl ((own_grow (HO.out.alloc _) ⟨bs,d,rfl⟩).alloc _) ⟨wr.heap.size+1+bs.size,0,none⟩ 1 1 [.int .i64 qd] rfl rfl ?c1 ?c2 ?c3 ?c4 ?c5 ?_))
       case c1=>exact news_cells _ [.int .i64 qd] _ _ (by simp)
       case c2=>intro u hu;simp at hu;subst hu;rfl
       case c3=>unfold maxLen;omega
       case c4=>omega
       case c5=>simp;omega
       intro v' w1 hown' hgrow _
       have HB1:=Lib.hid ((show Below (w.heap.size+1) (w.alloc (.cells #[.int .i64 e.op,.int .i64 e.num,.int .i64 e.den,.int .i64 e.dim,.string e.name,.slice (some ⟨b,off,none⟩) e.args.length cap] 27)) _ from by have:=HB.out;(exact belB)).grown hgrow (by simp;omega) (fun k hk=>(HO.out.lt k hk).1))
       have HO1:=Lib.hid hown'
       clear hown' hgrow
       go_wp2_with fail
       go_roundw
       case rel=>exact⟨k+1,HKL.out,by go_num,Lib.hid (fun j hj=>by
        by_cases ej:j=k
        ·subst ej;unfold infC;rw [HXE.out,HQ.out]
        ·exact hno.out j (by omega)),HB1.out,by rw [HNX.out,List.map_append];simpa [dimsK]using HO1.out⟩
       case measure=>simp [intOf];have:=HKL.out;omega
      ·have hq1:(qc !=0)=true:=by simpa using hqc
       have HQC:=Lib.hid hqc
       clear hqc
       go_wp2_with (go_at_call 104;refine(HCL.out _ (World.Grows.trans HG.out (.of_below belB)) (.of_below belB)).mono ?_;rintro e' w' ⟨rfl,bs,d,rfl⟩)
       go_returns
       exact infP (HBK.out hno.out HQC.out) (World.Grows.trans HG.out (.of_below belB))
   ·obtain rfl:k=e.args.length:=by omega
    have hd:=HOK.out hno.out
    have hdl:(dimsK env e e.args.length).length=e.args.length:=by simp [dimsK]
    obtain⟨-,⟨_,h0⟩|⟨g,gc,cu,rfl,hbg,-⟩⟩:=hown
    ·omega
    have hres:=res2_all e.op (dimsK env e e.args.length) (w.heap.size+1) g gc wr HOP.out.2.1 HOP.out.2.2 (by rw [hdl];exact HOP.out.1) (fun y hy=>by
     obtain⟨t,ht,rfl⟩:=List.mem_map.1 hy
     rw [List.take_length]at ht
     obtain⟨j,hj,rfl⟩:=List.mem_iff_getElem.1 ht
     have:=HDM.out j hj (hno.out j hj)
     unfold Ex.arg at this
     rw [List.getD_eq_getElem?_getD,List.getElem?_eq_getElem hj]at this
     exact this) (by rw [hdl];exact HO.out)
    rw [hdl]at hres
    obtain⟨R,hR⟩:∃R,resD e.op (dimsK env e e.args.length)=R:=⟨_,rfl⟩
    rw [hR]at hres hd
    have HD:=Lib.hid hd
    unfold Res2P at hres
    clear hB hG hR hd hdl
    by_cases hR0:R=0
    ·subst hR0
     have HRS:=Lib.hid hres
     clear hres
     go_wp2_with (go_at_call 151;refine(HRS.out).mono ?_;rintro e' w' ⟨⟨m,rfl,-⟩,bs,d,rfl⟩)
     go_returns
     exact infP (by rw [HD.out];simp) (World.Grows.trans HG.out (.of_below belB))
    ·rw [decide_eq_true hR0]at hres
     have HRS:=Lib.hid hres
     have HR0:=Lib.hid hR0
     clear hres hR0
     go_wp2_with (go_at_call 151;refine(HRS.out).mono ?_;rintro e' w' ⟨⟨m,rfl,hm⟩,bs,d,rfl⟩;obtain rfl:=hm HR0.out;clear hm)
     go_returns
     exact infP (by rw [HD.out,if_neg HR0.out]) (World.Grows.trans HG.out (.of_below belB))
theorem dims_any(l:List (ByteArray × Int)):(List.range l.length).any (fun k=>!decide (1≤bdD l k∧bdD l k≤4))=!dimsOk l:=by
 induction l with
 |nil=>rfl
 |cons p r ih=>
  rw [List.length_cons,List.range_succ_eq_map,List.any_cons,List.any_map]
  unfold dimsOk at ih ⊢
  rw [List.all_cons,Bool.not_and,←ih]
  rfl
theorem valid_formed{e:Ex}(h:validB e=true):formedB e=true:=by
 unfold validB at h
 simp only [Bool.and_eq_true]at h
 first|exact h.2|exact h.1.2|exact h.1
theorem inferE_no{env:List (ByteArray × Int)}{e:Ex}(h:validB e=false∨dimsOk env=false):inferE env e=(0,1):=by
 unfold inferE
 rw [if_neg]
 rintro⟨h1,h2⟩
 rcases h with h|h
 ·rw [h]at h1;cases h1
 ·rw [h]at h2;cases h2
theorem inferE_yes{env:List (ByteArray × Int)}{e:Ex}(h1:validB e=true)(h2:dimsOk env=true):inferE env e=inferF env e:=by
 unfold inferE;rw [if_pos ⟨h1,h2⟩]
theorem Infer2_g(S:Nat→Prop)(env:List (ByteArray × Int))(e:Ex)(v ve:Value)(w:World)(h:RepE S w e v)(hbig:e.size≤2305843009213693952)(ht:Tab w)(hv:BindAt w ve env)(hx:Hid (OkX e)) :
 Calls Tryz.prog 46 #[exV e v,ve] w (InfP (inferE env e) w):=by
 have HR:=Lib.hid h
 have HV:=Lib.hid hv
 have HT:=Lib.hid ht
 have hrng:=h.rng
 obtain⟨a,cap,rfl⟩:=h.form0
 have HVE:Hid (∀w',w.Grows w'→Calls Tryz.prog 35 #[exV e (.slice a e.args.length cap)] w' fun r w''=>r= .returned (.bool (validB e))∧w'.Grows w''):=
  Lib.hid (fun w' hg=>ValidExpr2_g S e _ w' (Lib.hid (HR.out.grows hg)) (Lib.hid hbig) (Lib.hid (HT.out.grows hg)) hx)
 have HCB:Hid (∀w',w.Grows w'→Calls Tryz.prog 101 #[ve,.func (.func 103) #[] #[]] w' fun r w''=>r= .returned (.bool (!dimsOk env))∧w'.Grows w''):=
  Lib.hid (fun w' hg=>by
   have:=containsB_any 103 #[] badB_clos env ve (fun k=>!decide (1≤bdD env k∧bdD env k≤4)) w' (HV.out.grows hg) (Lib.hid (fun k hk w2 h2=>badB_one _ _ w2))
   rw [dims_any]at this
   exact this)
 obtain⟨-,ae,ce,rfl,-⟩:=hv
 unfold exV at HVE
 cases hve:validB e with
 |false=>
  have HF:=Lib.hid (inferE_no (env:=env) (.inl hve))
  rw [hve]at HVE
  clear h ht hve
  go_enter Tryz.func46,Tryz.ntmps46
  go_wp2_with (go_at_call 35;refine(HVE.out _ (.of_below belB)).mono ?_;rintro e' w' ⟨rfl,bs,d,rfl⟩)
  go_returns
  exact infP HF.out (.of_below belB)
 |true=>
  rw [hve]at HVE
  cases hde:dimsOk env with
  |false=>
   have HF:=Lib.hid (inferE_no (e:=e) (.inr hde))
   rw [hde]at HCB
   clear h ht hve hde
   go_enter Tryz.func46,Tryz.ntmps46
   go_wp2_with (first
    |(go_at_call 35;refine(HVE.out _ (.of_below belB)).mono ?_;rintro e' w' ⟨rfl,bs,d,rfl⟩)
    |(go_at_call 101;refine(HCB.out _ (.of_below belB)).mono ?_;rintro e' w' ⟨rfl,bs2,d2,rfl⟩))
   go_returns
   exact infP HF.out (.of_below belB)
  |true=>
   have HF:=Lib.hid (inferE_yes hve hde)
   rw [hde]at HCB
   have HI:Hid (∀w',w.Grows w'→Calls Tryz.prog 104 #[exV e (.slice a e.args.length cap),.slice ae env.length ce] w' (InfP (inferF env e) w')):=
    Lib.hid (fun w' hg=>infer2_walk S env hde e.size e (Nat.le_refl _) (valid_formed hve) _ _ w' (HR.out.grows hg) (HV.out.grows hg))
   unfold InfP exV at HI
   clear h ht hve hde
   rw [HF.out]
   generalize inferF env e=q at *
   go_enter Tryz.func46,Tryz.ntmps46
   go_wp2_with (first
    |(go_at_call 35;refine(HVE.out _ (.of_below belB)).mono ?_;rintro e' w' ⟨rfl,bs,d,rfl⟩)
    |(go_at_call 101;refine(HCB.out _ (.of_below belB)).mono ?_;rintro e' w' ⟨rfl,bs2,d2,rfl⟩)
    |(go_at_call 104;refine(HI.out _ (.of_below belB)).mono ?_;rintro e' w' ⟨rfl,bs3,d3,rfl⟩))
   go_returns
   exact infP rfl (.of_below belB)
theorem node2_lit(e:Ex)(a:Option Addr)(cap:Nat)(w:World)(hr:ExRng e)(ht:Tab w)(hle:(e.args.length:Int)=argsN e.op)(ho:e.op=1):(Calls Tryz.prog 134 #[exV e (.slice a e.args.length cap)] w fun r w'=>r= .returned (.bool (nodeB e))∧w.Grows w'):=by
 have HF:Hid (nodeB e=(decOk e.num e.den e.dim&&e.name.toList.isEmpty)):=Lib.hid (by unfold nodeB;rw [decide_eq_true hle,Bool.true_and,if_pos ho])
 obtain⟨on,od⟩:=hr.num
 obtain⟨pn,pd⟩:=hr.den
 have hsz:=hr.name
 have hi:=Lib.hid (And.intro hr.num (And.intro hr.den hr.dim))
 clear hr
 have HT:=Lib.hid ht
 clear ht
 have h1:((e.args.length:Int)!=argsN 1)=false:=by rw [ho]at hle;simpa using hle
 clear hle
 cases hd:decOk e.num e.den e.dim
 all_goals
  have HD:Hid _:=Lib.hid (fun w (ht:Tab w)=>FormatDecimal2_any e.num e.den e.dim w hi.out.1 hi.out.2.1 hi.out.2.2 ht)
  unfold FdPost at HD
  rw [hd]at HD HF
  clear hd
  go_enter Tryz.func134,Tryz.ntmps134
  go_wp2_with fail
  go_quiet ((go_at_call 172;exact Calls.quiet_eq (arity2_any _ _)))
  go_wp2_with (go_at_call 144;refine(HD.out _ ((HT.out.alloc _).drewN _)).mono ?_;rintro e' w' ⟨s,rfl,-,bs,d,rfl⟩)
  all_goals
   go_returns
   exact⟨ret_bool (by rw [HF.out];simp [*]),.of_below belB⟩
theorem nodeLit:NodeLit:=fun e a cap w hr ht hle ho=>node2_lit e a cap w hr ht hle ho
theorem ValidExpr2_any(S:Nat→Prop)(e:Ex)(v:Value)(w:World)(h:Hid (RepE S w e v))(hbig:Hid (e.size≤2305843009213693952))(ht:Hid (Tab w)):Calls Tryz.prog 35 #[exV e v] w fun r w'=>r= .returned (.bool (validB e))∧w.Grows w':=
 ValidExpr2_g S e v w h hbig ht (Lib.hid (.inl nodeLit))
end Go.Proofs.YtfoefpoaomepbaaGreatDoor
namespace Go.Proofs.YtfoefpoaomepbaaGreatDoor
def runU(v:Vw)(ls:List (ByteArray × Ex)):List Nat→List Nat→List (ByteArray × Val)→List Nat × List (ByteArray × Val) × Int
 | [],D,st=>(D,st,0)
 |i::r,D,st=>if D.contains i=true then runU v ls r D st
  else if(valueF v st (ls.getD i default).2).2≠0 then(D,st,(valueF v st (ls.getD i default).2).2)
  else runU v ls r (D++[i]) (st++[((ls.getD i default).1,(valueF v st (ls.getD i default).2).1)])
theorem uses_need{e:Ex}{ls:List (ByteArray × Ex)}{j:Nat}(hj:j<ls.length):j∈usesL e ls↔needB e ls j (usesG e ls (ls.length-j-1))=true:=by
 have h1:=usesG_sub (e:=e) (ls:=ls) (i:=j) (ls.length-j-1+1) j (by omega) (by omega) hj
 rw [show ls.length-j-1+1+j=ls.length by omega]at h1
 have h2:=usesG_contains (e:=e) (ls:=ls) (ls.length-j-1) (by omega)
 rw [show ls.length-(ls.length-j-1+1)=j by omega]at h2
 unfold usesL
 rw [h1,←h2,List.contains_iff_mem]
theorem uses_direct{e:Ex}{ls:List (ByteArray × Ex)}{j:Nat}(hj:j<ls.length)(h:mentB (ls.getD j default).1 e=true):j∈usesL e ls:=by
 rw [uses_need hj];unfold needB;rw [h];rfl
theorem uses_closed{e:Ex}{ls:List (ByteArray × Ex)}{i j:Nat}(hi:i∈usesL e ls)(hji:j<i)(h:mentB (ls.getD j default).1 (ls.getD i default).2=true):j∈usesL e ls:=by
 have hil:i<ls.length:=(usesG_mem ls.length (Nat.le_refl _) i hi).2
 rw [uses_need (by omega)]
 unfold needB
 rw [Bool.or_eq_true]
 refine .inr (List.any_eq_true.2 ⟨i, ?_,h⟩)
 have h1:=usesG_sub (e:=e) (ls:=ls) (i:=i) (ls.length-j-1) (j+1) (by omega) (by omega) hil
 rw [show ls.length-j-1+(j+1)=ls.length by omega]at h1
 exact h1.1 hi
theorem uses_lt{e:Ex}{ls:List (ByteArray × Ex)}{i:Nat}(hi:i∈usesL e ls):i<ls.length:=(usesG_mem ls.length (Nat.le_refl _) i hi).2
structure RunAt(v:Vw)(ls:List (ByteArray × Ex))(env:List (ByteArray × Int))(e:Ex)(D0:List Nat)(st0:List (ByteArray × Val))(k:Nat)(D:List Nat)(st:List (ByteArray × Val)):Prop where
 ok:StOk ls env D st
 pre:∀j∈(usesL e ls).take k,j∈D
 run:runU v ls (usesL e ls) D0 st0=runU v ls ((usesL e ls).drop k) D st
theorem RunAt.zero{v:Vw}{ls:List (ByteArray × Ex)}{env:List (ByteArray × Int)}(e:Ex){D:List Nat}{st:List (ByteArray × Val)}(h:StOk ls env D st):RunAt v ls env e D st 0 D st:=⟨h,fun j hj=>by simp at hj,rfl⟩
section
variable {v : Vw} {ls : List (ByteArray × Ex)} {env : List (ByteArray × Int)} {e : Ex} {D0 D : List Nat} {st0 st : List (ByteArray × Val)} {k : Nat}
theorem uses_drop(hk:k<(usesL e ls).length):(usesL e ls).drop k=(usesL e ls).getD k 0::(usesL e ls).drop (k+1):=by
 rw [List.drop_eq_getElem_cons hk,List.getD_eq_getElem?_getD,List.getElem?_eq_getElem hk];rfl
theorem uses_at(hk:k<(usesL e ls).length):(usesL e ls).getD k 0∈usesL e ls:=by
 rw [List.getD_eq_getElem?_getD,List.getElem?_eq_getElem hk];exact List.getElem_mem hk
theorem uses_take(hk:k<(usesL e ls).length):(usesL e ls).take (k+1)=(usesL e ls).take k++[(usesL e ls).getD k 0]:=by
 rw [List.take_succ_eq_append_getElem hk,List.getD_eq_getElem?_getD,List.getElem?_eq_getElem hk];rfl
theorem uses_before(hk:k<(usesL e ls).length){j:Nat}(hj:j∈usesL e ls)(hlt:j<(usesL e ls).getD k 0):j∈(usesL e ls).take k:=by
 obtain⟨m,hm,rfl⟩:=List.mem_iff_getElem.1 hj
 have hp:=usesG_asc (e:=e) (ls:=ls) ls.length (Nat.le_refl _)
 rw [List.getD_eq_getElem?_getD,List.getElem?_eq_getElem hk]at hlt
 refine List.mem_take_iff_getElem.2 ⟨m, ?_,rfl⟩
 rcases Nat.lt_or_ge m k with h|h
 ·omega
 ·exfalso
  rcases Nat.lt_or_eq_of_le h with h|h
  ·have:=List.pairwise_iff_getElem.1 hp k m hk hm h
   simp only [Option.getD_some]at hlt
   unfold usesL at hlt
   omega
  ·subst h;simp at hlt
theorem RunAt.skip(h:RunAt v ls env e D0 st0 k D st)(hk:k<(usesL e ls).length)(hc:D.contains ((usesL e ls).getD k 0)=true):RunAt v ls env e D0 st0 (k+1) D st:=
 ⟨h.ok,fun j hj=>by
  rw [uses_take hk]at hj
  rcases List.mem_append.1 hj with hj|hj
  ·exact h.pre j hj
  ·obtain rfl:j=_:=by simpa using hj
   exact List.contains_iff_mem.1 hc,by rw [h.run,uses_drop hk,runU,if_pos hc]⟩
theorem RunAt.typed(h:RunAt v ls env e D0 st0 k D st)(hl:LsOk ls ls.length env)(hk:k<(usesL e ls).length) :
 formedB (ls.getD ((usesL e ls).getD k 0) default).2=true∧inferF (dimsOf st) (ls.getD ((usesL e ls).getD k 0) default).2=((env.getD ((usesL e ls).getD k 0) default).2,0)∧validB (ls.getD ((usesL e ls).getD k 0) default).2=true:=by
 have hu:=uses_at hk
 have hil:=uses_lt hu
 have hb:=fun j (h1:j∈usesL e ls) h2=>uses_before hk h1 h2
 generalize(usesL e ls).getD k 0=i at *
 have ht:=hl.ty i hil
 unfold inferE at ht
 split at ht
 ·rename_i hv
  have hvb:=hv.1
  have hf:formedB (ls.getD i default).2=true:=by
   unfold validB at hvb;rw [Bool.and_eq_true]at hvb;exact hvb.2
  refine⟨hf, ?_,hvb⟩
  rw [h.ok.typed hl (by omega) hf (by rw [ht]) fun j hj hm=>h.pre j (hb j (uses_closed hu hj hm) hj),ht]
 ·have:=(Prod.mk.inj ht).2
  cases this
theorem RunAt.bad(h:RunAt v ls env e D0 st0 k D st)(hk:k<(usesL e ls).length)(hc:D.contains ((usesL e ls).getD k 0)=false)(hv:(valueF v st (ls.getD ((usesL e ls).getD k 0) default).2).2≠0) :
 runU v ls (usesL e ls) D0 st0=(D,st,(valueF v st (ls.getD ((usesL e ls).getD k 0) default).2).2):=by
 rw [h.run,uses_drop hk,runU,if_neg (by rw [hc];simp),if_pos hv]
theorem RunAt.next(h:RunAt v ls env e D0 st0 k D st)(hl:LsOk ls ls.length env)(hok:v.ok=true)(hk:k<(usesL e ls).length)(hc:D.contains ((usesL e ls).getD k 0)=false)(hv:(valueF v st (ls.getD ((usesL e ls).getD k 0) default).2).2=0) :
 RunAt v ls env e D0 st0 (k+1) (D++[(usesL e ls).getD k 0]) (st++[((ls.getD ((usesL e ls).getD k 0) default).1,(valueF v st (ls.getD ((usesL e ls).getD k 0) default).2).1)]):=by
 obtain⟨hf,ht,-⟩:=h.typed hl hk
 have hval:=value_ok hok h.ok.ok _ hf (by rw [ht])
 rw [ht]at hval
 obtain⟨hx,hd⟩:=hval.good hv
 refine⟨h.ok.push hl (uses_lt (uses_at hk)) hc hx hd,fun j hj=>?_, ?_⟩
 ·rw [uses_take hk]at hj
  rcases List.mem_append.1 hj with hj|hj
  ·exact List.mem_append.2 (.inl (h.pre j hj))
  ·exact List.mem_append.2 (.inr hj)
 ·rw [h.run,uses_drop hk,runU,if_neg (by rw [hc];simp),if_neg (by simpa using hv)]
theorem RunAt.done(h:RunAt v ls env e D0 st0 (usesL e ls).length D st):runU v ls (usesL e ls) D0 st0=(D,st,0):=by
 rw [h.run,List.drop_length,runU]
theorem RunAt.last(h:RunAt v ls env e D0 st0 (usesL e ls).length D st)(hl:LsOk ls ls.length env){m:Int}(hf:formedB e=true)(ht:inferF env e=(m,0)):inferF (dimsOf st) e=(m,0):=by
 have he:env.take ls.length=env:=List.take_of_length_le (by rw [hl.len];exact Nat.le_refl _)
 have:=h.ok.typed hl (Nat.le_refl _) hf (by rw [he,ht]) fun j hj hm=>h.pre j (by rw [List.take_length];exact uses_direct hj hm)
 rw [this,he,ht]
end
def ifN:ByteArray:=⟨#[105,102]⟩
def payN:ByteArray:=⟨#[112,97,121]⟩
def byN:ByteArray:=⟨#[98,121]⟩
theorem kw_names:nameB ifN=false∧nameB payN=false∧nameB byN=false:=by decide+kernel
theorem inferE_ok{env:List (ByteArray × Int)}{e:Ex}{m:Int}(h:inferE env e=(m,0)):validB e=true∧formedB e=true∧inferF env e=(m,0):=by
 unfold inferE at h
 split at h
 ·rename_i hv
  have hvb:=hv.1
  refine⟨hvb, ?_,h⟩
  unfold validB at hvb;rw [Bool.and_eq_true]at hvb;exact hvb.2
 ·have:=(Prod.mk.inj h).2;cases this
theorem need_ok{env:List (ByteArray × Int)}{e:Ex}{want:Int}(h:needF env e want=0):inferE env e=(want,0):=by
 unfold needF at h
 split at h
 ·cases h
 ·rename_i h1
  refine Prod.ext (Decidable.byContradiction fun c=>h1 ⟨h,c⟩) h
theorem gr_typed{env:List (ByteArray × Int)}:∀(l:List (Int × Ex × Ex)) (pre:List Int),grG env pre l=0→∀g∈l,inferE env g.2.1=(1,0)∧inferE env g.2.2=(4,0)
 | [],_,_,_,h=>by cases h
 |g::r,pre,h,x,hx=>by
  rw [grG]at h
  split at h
  ·cases h
  split at h
  ·rename_i h1;exact absurd h h1
  rename_i h1
  split at h
  ·rename_i h2;exact absurd h h2
  rename_i h2
  rcases List.mem_cons.1 hx with rfl|hx
  ·exact⟨need_ok (Decidable.byContradiction h1),need_ok (Decidable.byContradiction h2)⟩
  ·exact gr_typed r _ h x hx
theorem re_typed{env:List (ByteArray × Int)}:∀(l:List (Int × Ex)) (pre:List Int),reG env pre l=0→∀g∈l,inferE env g.2=(2,0)
 | [],_,_,_,h=>by cases h
 |g::r,pre,h,x,hx=>by
  rw [reG]at h
  split at h
  ·cases h
  split at h
  ·rename_i h1;exact absurd h h1
  rename_i h1
  rcases List.mem_cons.1 hx with rfl|hx
  ·exact need_ok (Decidable.byContradiction h1)
  ·exact re_typed r _ h x hx
structure VerOk(V:VerP)(env:List (ByteArray × Int)):Prop where
 ls:LsOk V.le V.le.length env
 gr:∀g∈V.gr,inferE env g.2.1=(1,0)∧inferE env g.2.2=(4,0)
 re:∀g∈V.re,inferE env g.2=(2,0)
theorem VerOk.of{V:VerP}(h:versF V=0):VerOk V (letsF V.le).1:=by
 unfold versF at h
 split at h
 ·rename_i h1;exact absurd h h1
 rename_i h1
 split at h
 ·cases h
 split at h
 ·cases h
 split at h
 ·rename_i h2;exact absurd h h2
 rename_i h2
 have h0:(letsF V.le).2=0:=Decidable.byContradiction h1
 have hg:grG (letsF V.le).1 [] V.gr=0:=Decidable.byContradiction h2
 refine⟨?_,gr_typed _ _ hg,re_typed _ _ h⟩
 have hl:V.le.length≤10:=by
  unfold letsF at h0
  split at h0
  ·cases h0
  ·omega
 rw [letsF_len hl]at h0 ⊢
 exact LsOk.of_lets (Prod.ext rfl h0)
end Go.Proofs.YtfoefpoaomepbaaGreatDoor
namespace Go.Proofs.YtfoefpoaomepbaaGreatDoor
open Go.RowKit Go.Sort Go.Lib
theorem YrAt.of_row{w:World}{base:Nat}{v:Value}{l:List Int}(h:w.ownsRow base 3 1 v l.length (l.map (Value.int .i64)))(hl:l.length≤1000):YrAt w v l:=by
 obtain⟨-,⟨rfl,h0⟩|⟨g,cap,cur,rfl,hb,hg,h2,h3,h4,h5⟩⟩:=id h
 ·exact⟨by omega,none,0,by rw [h0],.inl h0⟩
 ·refine⟨by omega,_,cap,rfl,.inr ⟨g,0,rfl,(Array.getElem?_eq_some_iff.1 hg).1,fun i hi=>?_⟩⟩
  rw [Nat.zero_add,h.cellAt i (by omega),List.getElem?_map,List.getElem?_eq_getElem hi,List.getD_eq_getElem?_getD,List.getElem?_eq_getElem hi]
  rfl
end Go.Proofs.YtfoefpoaomepbaaGreatDoor
namespace Go.Proofs.YtfoefpoaomepbaaGreatDoor
open Go.RowKit
theorem infer5_leaf(env:List (ByteArray × Int))(e:Ex)(a:Option Addr)(cap:Nat)(ve:Value)(w:World)(hv:BindAt w ve env)(ho:e.op=1∨e.op=3):(Calls Tryz.prog 61 #[exV e (.slice a e.args.length cap),ve] w (InfP (inferF env e) w)):=by
 obtain⟨-,ae,ce,rfl,-⟩:=hv
 have HF:=Lib.hid (inferF_eq env e)
 unfold infNode at HF
 rcases ho with ho|ho
 ·go_enter Tryz.func61,Tryz.ntmps61
  go_wp2_with fail
  go_returns
  exact infP (by rw [HF.out,if_pos ho]) (.of_below belB)
 ·go_enter Tryz.func61,Tryz.ntmps61
  exact tz58
theorem infer5_name(env:List (ByteArray × Int))(e:Ex)(a:Option Addr)(cap:Nat)(ve:Value)(w:World)(hv:BindAt w ve env)(ho:e.op=2):(Calls Tryz.prog 61 #[exV e (.slice a e.args.length cap),ve] w (InfP (inferF env e) w)):=by
 have HV:=Lib.hid hv
 obtain⟨hl1000,ae,ce,rfl,-⟩:=hv
 have HF:Hid (inferF env e=inferN env e.name):=Lib.hid (by rw [inferF_eq];unfold infNode;rw [if_neg (by omega),if_neg (by omega),if_pos ho])
 have HI:=Lib.hid (Input5_any e.name)
 unfold inferN at HF
 have p1:(e.op==1)=false:=by rw [ho];rfl
 have p2:(e.op==2)=true:=by rw [ho];rfl
 have p3:(e.op==3)=false:=by rw [ho];rfl
 clear ho
 by_cases hd:inpD e.name.toList=0
 ·rw [if_neg (by omega)]at HF
  rw [hd]at HI
  clear hd
  go_enter Tryz.func61,Tryz.ntmps61
  go_wp2_with (go_at_call 43;refine(HI.out _).mono ?_;rintro e' w' ⟨rfl,rfl⟩)
  go_loopw [8] (fun v8 wr=>∃k:Nat,k≤env.length∧v8= .int .i64 ((env.length:Int)-1-k)∧Hid (∀j,j<env.length→env.length≤j+k→bdN env j≠e.name)∧Below (w.heap.size+1) ((w.alloc (.cells #[.int .i64 e.op,.int .i64 e.num,.int .i64 e.den,.int .i64 e.dim,.string e.name,.slice a e.args.length cap] 27))) wr) (fun v8 _=>(intOf v8+1).toNat)
  case atStart=>exact⟨0,by omega,by simp,Lib.hid (fun j hj _=>by omega),.refl _ _⟩
  case round=>
   obtain⟨k,hk,rfl,hno,hB⟩:=hrel
   have HB:=Lib.hid hB
   have hG:w.Grows wr:=.of_below ((((Below.refl _ _).alloc (Nat.le_refl _) _)).trans (hB.mono (by omega)))
   have HG:=Lib.hid hG
   have hbox:wr.cell? ⟨w.heap.size,4,none⟩=some (.string e.name):=by
    rw [hB.cell (p:=⟨w.heap.size,4,none⟩) (by simp),World.cell?_alloc_at _ _ _ _ rfl];rfl
   by_cases hlt:k<env.length
   ·obtain⟨-,a',c',hvv,hx⟩:=HV.out.grows hG
    simp only [Value.slice.injEq,true_and]at hvv
    obtain⟨rfl,rfl⟩:=hvv
    rcases hx with h0|⟨b,off,rfl,hbw,hx⟩
    ·omega
    obtain⟨i,hi⟩:∃i:Nat,(env.length:Int)-1-k=i:=⟨env.length-1-k,by omega⟩
    have hii:i<env.length:=by omega
    obtain⟨x0,x1⟩:=hx i hii
    have d1:(i:Int)<(env.length:Int):=by omega
    have d0:(0:Int)≤(i:Int):=by omega
    rw [hi]
    have HIX:=Lib.hid (And.intro hi (And.intro hii hlt))
    have HSM:=Lib.hid (fun he hl=>lastN_some env e.name i (ByteArray.empty,0) hii he hl)
    clear hx hi hii hlt hB hG
    obtain⟨nk,hnk⟩:∃nk,bdN env i=nk:=⟨_,rfl⟩
    obtain⟨dk,hdk⟩:∃dk,bdD env i=dk:=⟨_,rfl⟩
    rw [hnk]at x0
    rw [hdk]at x1
    have HNK:=Lib.hid hnk
    have HDK:=Lib.hid hdk
    clear hnk hdk
    by_cases he:nk=e.name
    ·have he2:(nk.toList==e.name.toList)=true:=by rw [he];simp
     have HE:=Lib.hid he
     clear he
     go_wp2_with fail
     go_region
     go_wp2_with fail
     go_returns
     exact infP (by
      have:=HSM.out (by show bdN env i=e.name;rw [HNK.out];exact HE.out) (fun j h1 h2=>hno.out j h2 (by have:=HIX.out.1;omega))
      rw [HF.out,this]
      show(bdD env i,(0:Int))=_
      rw [HDK.out]) (World.Grows.trans HG.out (.of_below belB))
    ·have he2:(nk.toList==e.name.toList)=false:=by
      rw [beq_eq_false_iff_ne];exact fun h=>he (toList_inj h)
     have HE:=Lib.hid he
     clear he
     go_wp2_with fail
     go_region
     go_wp2_with fail
     go_roundw
     case rel=>exact⟨k+1,HIX.out.2.2,by have:=HIX.out.1;first|(congr 1;omega)|(simp;omega),Lib.hid (fun j hj hjk=>by
      by_cases ej:j=i
      ·subst ej;rw [HNK.out];exact HE.out
      ·exact hno.out j hj (by have:=HIX.out.1;omega)),by have:=HB.out;(exact belB)⟩
     case measure=>first|(simp [intOf];done)|(simp [intOf];have:=HIX.out.2.2;omega)|(simp [intOf];have:=HIX.out.1;omega)
   ·obtain rfl:k=env.length:=by omega
    have hz:(env.length:Int)-1-env.length= -1:=by omega
    rw [hz]
    clear hz hB hG
    go_wp2_with fail
    go_returns
    exact infP (by
     have:=lastN_none env e.name (ByteArray.empty,0) (fun j hj=>hno.out j hj (by omega))
     rw [HF.out,this]) (World.Grows.trans HG.out (.of_below belB))
 ·rw [if_pos hd]at HF
  rw [decide_eq_true hd]at HI
  clear hd
  generalize inpD e.name.toList=D at *
  go_enter Tryz.func61,Tryz.ntmps61
  go_wp2_with (go_at_call 43;refine(HI.out _).mono ?_;rintro e' w' ⟨rfl,rfl⟩)
  go_returns
  exact infP HF.out (.of_below belB)
theorem infer5_walk(S:Nat→Prop)(env:List (ByteArray × Int))(hE:dimsOk env=true)(n:Nat):∀(e:Ex),e.size≤n→formedB e=true→∀(v ve:Value) (w:World),RepE S w e v→BindAt w ve env→
 Calls Tryz.prog 61 #[exV e v,ve] w (InfP (inferF env e) w):=by
 induction n with
 |zero=>intro e he;have:=e.size_pos;omega
 |succ n ih=>
  intro e he hf v ve w h hv
  have HR:=Lib.hid h
  have HV:=Lib.hid hv
  have hrng:=h.rng
  obtain⟨a,cap,rfl⟩:=h.form0
  by_cases h1:e.op=1
  ·exact infer5_leaf env e a cap ve w hv (.inl h1)
  by_cases h2:e.op=2
  ·exact infer5_name env e a cap ve w hv h2
  by_cases h3:e.op=3
  ·exact infer5_leaf env e a cap ve w hv (.inr h3)
  obtain⟨hal,ho4,ho21,hfs⟩:=formed_op hf h1 h2 h3
  have hn3:e.args.length≤3∧1≤e.args.length:=by unfold argsN at hal;(repeat' split at hal)<;>omega
  have HOK:=Lib.hid (inf_op env e h1 h2 h3)
  have HBAD:=Lib.hid (inf_bad env e h1 h2 h3)
  have HOP:=Lib.hid (And.intro hal (And.intro ho4 ho21))
  have IH:Hid (∀k,k<e.args.length→∀ak ck w',w.Grows w'→RepE S w' (e.arg k) (.slice ak (e.arg k).args.length ck)→Calls Tryz.prog 61 #[exV (e.arg k) (.slice ak (e.arg k).args.length ck),ve] w' (InfP (inferF env (e.arg k)) w')):=
   Lib.hid (fun k hk ak ck w' hg hr=>by
    have hsm:=e.size_arg k hk
    exact ih (e.arg k) (by omega) (formeds_get hfs k hk) _ ve w' hr (HV.out.grows hg))
  have HDM:Hid (∀k,k<e.args.length→infC env (e.arg k)=0→1≤infD env (e.arg k)):=Lib.hid (fun k hk hc=>(infer_dim hE (e.arg k) (formeds_get hfs k hk) hc).1)
  unfold InfP at IH
  obtain⟨-,ae,ce,rfl,-⟩:=hv
  have p1:(e.op==1)=false:=by simpa using h1
  have p2:(e.op==2)=false:=by simpa using h2
  have p3:(e.op==3)=false:=by simpa using h3
  clear h ih hE hf hfs hal ho4 ho21 he h1 h2 h3
  obtain⟨i0,hi,hz0,hz1,hz2⟩:=info_parts infoI
  go_enter Tryz.func61,Tryz.ntmps61
  go_wp2_with fail
  go_loopw [9,10] (fun v8 v38 wr=>∃k:Nat,k≤e.args.length∧v38= .int .i64 k∧Hid (∀j,j<k→infC env (e.arg j)=0)∧Below (w.heap.size+1) (w.alloc (.cells #[.int .i64 e.op,.int .i64 e.num,.int .i64 e.den,.int .i64 e.dim,.string e.name,.slice a e.args.length cap] 27)) wr∧wr.ownsRow (w.heap.size+1) 3 1 v8 k ((dimsK env e k).map (Value.int .i64))) (fun _ v38 _=>e.args.length-(intOf v38).toNat)
  case atStart=>exact⟨0,by omega,rfl,Lib.hid (fun j hj=>by omega),.refl _ _,World.ownsRow_nil _ _ _ _⟩
  case round=>
   obtain⟨k,hk,rfl,hno,hB,hown⟩:=hrel
   have hsW:w.heap.size+1≤wr.heap.size:=by have:=hB.size;simpa using this
   have hbox:wr.cell? ⟨w.heap.size,0,none⟩=some (.int .i64 e.op):=by
    rw [hB.cell (p:=⟨w.heap.size,0,none⟩) (by simp),World.cell?_alloc_at _ _ _ _ rfl];rfl
   have hbox5:wr.cell? ⟨w.heap.size,5,none⟩=some (.slice a e.args.length cap):=by
    rw [hB.cell (p:=⟨w.heap.size,5,none⟩) (by simp),World.cell?_alloc_at _ _ _ _ rfl];rfl
   have hG:w.Grows wr:=.of_below ((((Below.refl _ _).alloc (Nat.le_refl _) _)).trans (hB.mono (by omega)))
   have HB:=Lib.hid hB
   have HO:=Lib.hid hown
   have HG:=Lib.hid hG
   by_cases hlt:k<e.args.length
   ·have hRk:=HR.out.grows hG
    cases hRk with
    |mk _ _ _ vs hr hc hs=>
     rcases hc with h0|⟨b,off,rfl,-,hbw,hx⟩
     ·omega
     ·have hR:=hs k hlt
      obtain⟨x0,x1,x2,x3,x4,x5⟩:=hx k hlt
      obtain⟨ak,ck,hvk⟩:=hR.form0
      rw [hvk]at x5 hR
      have HRK:=Lib.hid hR
      have hcall:=fun w' hg hg2=>IH.out k hlt ak ck w' hg (HRK.out.grows hg2)
      have HNX:=Lib.hid (dimsK_succ env e k hlt)
      have HKL:=Lib.hid hlt
      have HBK:=Lib.hid (fun hj hb=>HBAD.out k hlt hj hb)
      have d1:(k:Int)<(e.args.length:Int):=by omega
      clear hx hs hr hvk hG hB hown hR
      unfold exV at hcall
      obtain⟨x,hxe⟩:∃x,e.arg k=x:=⟨_,rfl⟩
      rw [hxe]at hcall x0 x1 x2 x3 x4 x5 HNX HBK
      have HXE:=Lib.hid hxe
      clear hxe
      have HCL:=Lib.hid hcall
      clear hcall
      obtain⟨q,hq⟩:∃q,inferF env x=q:=⟨_,rfl⟩
      unfold infC at HBK
      unfold infD at HNX
      rw [hq]at HCL HBK HNX
      have HQ:=Lib.hid hq
      clear hq
      obtain⟨qd,qc⟩:=q
      dsimp only at HCL HBK HNX
      by_cases hqc:qc=0
      ·subst hqc
       go_wp2_with (first
        |(go_at_call 61;refine(HCL.out _ (World.Grows.trans HG.out (.of_below belB)) (.of_below belB)).mono ?_;rintro e' w' ⟨rfl,bs,d,rfl⟩)
        |(at_builtin;refine wpList_append_own _ rfl _ _ 22 rfl (w.heap.size+1) 3 i0 (.int .i64 0) 1 8 Tryz.underlying22 hi hz0 hz1 hz2 rfl (by decide) _ _ _ rfl ((own_grow HO.out ⟨bs,d,rfl⟩).alloc _) ⟨wr.heap.size+bs.size,0,none⟩ 1 1 [.int .i64 qd] rfl rfl ?c1 ?c2 ?c3 ?c4 ?c5 ?_))
       case c1=>exact news_cells _ [.int .i64 qd] _ _ (by simp)
       case c2=>intro u hu;simp at hu;subst hu;rfl
       case c3=>unfold maxLen;omega
       case c4=>omega
       case c5=>simp;omega
       intro v' w1 hown' hgrow _
       have HB1:=Lib.hid ((show Below (w.heap.size+1) (w.alloc (.cells #[.int .i64 e.op,.int .i64 e.num,.int .i64 e.den,.int .i64 e.dim,.string e.name,.slice (some ⟨b,off,none⟩) e.args.length cap] 27)) _ from by have:=HB.out;(exact belB)).grown hgrow (by simp;omega) (fun k hk=>(HO.out.lt k hk).1))
       have HO1:=Lib.hid hown'
       clear hown' hgrow
       go_wp2_with fail
       go_roundw
       case rel=>exact⟨k+1,HKL.out,by go_num,Lib.hid (fun j hj=>by
        by_cases ej:j=k
        ·subst ej;unfold infC;rw [HXE.out,HQ.out]
        ·exact hno.out j (by omega)),HB1.out,by rw [HNX.out,List.map_append];simpa [dimsK]using HO1.out⟩
       case measure=>simp [intOf];have:=HKL.out;omega
      ·have hq1:(qc !=0)=true:=by simpa using hqc
       have HQC:=Lib.hid hqc
       clear hqc
       go_wp2_with (go_at_call 61;refine(HCL.out _ (World.Grows.trans HG.out (.of_below belB)) (.of_below belB)).mono ?_;rintro e' w' ⟨rfl,bs,d,rfl⟩)
       go_returns
       exact infP (HBK.out hno.out HQC.out) (World.Grows.trans HG.out (.of_below belB))
   ·obtain rfl:k=e.args.length:=by omega
    have hd:=HOK.out hno.out
    have hdl:(dimsK env e e.args.length).length=e.args.length:=by simp [dimsK]
    obtain⟨-,⟨_,h0⟩|⟨g,gc,cu,rfl,hbg,-⟩⟩:=hown
    ·omega
    have hres:=res5_all e.op (dimsK env e e.args.length) (w.heap.size+1) g gc wr HOP.out.2.1 HOP.out.2.2 (by rw [hdl];exact HOP.out.1) (fun y hy=>by
     obtain⟨t,ht,rfl⟩:=List.mem_map.1 hy
     rw [List.take_length]at ht
     obtain⟨j,hj,rfl⟩:=List.mem_iff_getElem.1 ht
     have:=HDM.out j hj (hno.out j hj)
     unfold Ex.arg at this
     rw [List.getD_eq_getElem?_getD,List.getElem?_eq_getElem hj]at this
     exact this) (by rw [hdl];exact HO.out)
    rw [hdl]at hres
    obtain⟨R,hR⟩:∃R,resD e.op (dimsK env e e.args.length)=R:=⟨_,rfl⟩
    rw [hR]at hres hd
    have HD:=Lib.hid hd
    unfold Res5P at hres
    clear hB hG hR hd hdl
    by_cases hR0:R=0
    ·subst hR0
     have HRS:=Lib.hid hres
     clear hres
     go_wp2_with (go_at_call 90;refine(HRS.out).mono ?_;rintro e' w' ⟨rfl,bs,d,rfl⟩)
     go_returns
     exact infP (by rw [HD.out];simp) (World.Grows.trans HG.out (.of_below belB))
    ·have hR1:(R==0)=false:=by simpa using hR0
     have HRS:=Lib.hid hres
     have HR0:=Lib.hid hR0
     clear hres hR0
     go_wp2_with (go_at_call 90;refine(HRS.out).mono ?_;rintro e' w' ⟨rfl,bs,d,rfl⟩)
     go_returns
     exact infP (by rw [HD.out,if_neg HR0.out]) (World.Grows.trans HG.out (.of_below belB))
theorem Infer5_any(S:Nat→Prop)(env:List (ByteArray × Int))(e:Ex)(v ve:Value)(w:World)(h:RepE S w e v)(hbig:e.size≤2305843009213693952)(hv:BindAt w ve env) :
 Calls Tryz.prog 25 #[exV e v,ve] w (InfP (inferE env e) w):=by
 have HR:=Lib.hid h
 have HV:=Lib.hid hv
 have hrng:=h.rng
 obtain⟨a,cap,rfl⟩:=h.form0
 have HVE:Hid (∀w',w.Grows w'→Calls Tryz.prog 31 #[exV e (.slice a e.args.length cap)] w' fun r w''=>r= .returned (.bool (validB e))∧w'.Grows w''):=
  Lib.hid (fun w' hg=>ValidExpr_any S e _ w' (Lib.hid (HR.out.grows hg)) (Lib.hid hbig))
 have HDA:=Lib.hid (dims_any env)
 obtain⟨hl1000,ae,ce,rfl,-⟩:=hv
 unfold exV at HVE
 cases hve:validB e with
 |false=>
  have HF:=Lib.hid (inferE_no (env:=env) (.inl hve))
  rw [hve]at HVE
  clear h hve
  go_enter Tryz.func25,Tryz.ntmps25
  go_wp2_with (go_at_call 31;refine(HVE.out _ (.of_below belB)).mono ?_;rintro e' w' ⟨rfl,bs,d,rfl⟩)
  go_returns
  exact infP HF.out (.of_below belB)
 |true=>
  rw [hve]at HVE
  have HNO:=Lib.hid (fun h=>inferE_no (env:=env) (e:=e) (.inr h))
  have HYES:=Lib.hid (fun h=>inferE_yes (env:=env) hve h)
  have HI:Hid (dimsOk env=true→∀w',w.Grows w'→Calls Tryz.prog 61 #[exV e (.slice a e.args.length cap),.slice ae env.length ce] w' (InfP (inferF env e) w')):=
   Lib.hid (fun hde w' hg=>infer5_walk S env hde e.size e (Nat.le_refl _) (valid_formed hve) _ _ w' (HR.out.grows hg) (HV.out.grows hg))
  unfold InfP exV at HI
  clear h hve
  go_enter Tryz.func25,Tryz.ntmps25
  go_wp2_with (go_at_call 31;refine(HVE.out _ (.of_below belB)).mono ?_;rintro e' w' ⟨rfl,bs,d,rfl⟩)
  go_loopw [6] (fun v6 wr=>∃k:Nat,k≤env.length∧v6= .int .i64 k∧Hid (∀j,j<k→1≤bdD env j∧bdD env j≤4)∧Below (w.heap.size+1) ((w.alloc (.cells #[.int .i64 e.op,.int .i64 e.num,.int .i64 e.den,.int .i64 e.dim,.string e.name,.slice a e.args.length cap] 27))) wr) (fun v6 _=>env.length-(intOf v6).toNat)
  case atStart=>exact⟨0,by omega,rfl,Lib.hid (fun j hj=>by omega),by(exact belB)⟩
  case round=>
   obtain⟨k,hk,rfl,hno,hB⟩:=hrel
   have HB:=Lib.hid hB
   have hG:w.Grows wr:=.of_below ((((Below.refl _ _).alloc (Nat.le_refl _) _)).trans (hB.mono (by omega)))
   have HG:=Lib.hid hG
   by_cases hlt:k<env.length
   ·obtain⟨-,a',c',hvv,hx⟩:=HV.out.grows hG
    simp only [Value.slice.injEq,true_and]at hvv
    obtain⟨rfl,rfl⟩:=hvv
    rcases hx with h0|⟨b,off,rfl,hbw,hx⟩
    ·omega
    obtain⟨x0,x1⟩:=hx k hlt
    have d1:(k:Int)<(env.length:Int):=by omega
    have HKL:=Lib.hid hlt
    clear hx hB hG hlt
    obtain⟨dk,hdk⟩:∃dk,bdD env k=dk:=⟨_,rfl⟩
    rw [hdk]at x1
    have HDK:=Lib.hid hdk
    clear hdk
    by_cases hc:1≤dk∧dk≤4
    ·obtain⟨hc1,hc2⟩:=hc
     go_wp2_with fail
     go_roundw
     case rel=>exact⟨k+1,HKL.out,by go_num,Lib.hid (fun j hj=>by
      by_cases ej:j=k
      ·subst ej;rw [HDK.out];exact⟨hc1,hc2⟩
      ·exact hno.out j (by omega)),by have:=HB.out;(exact belB)⟩
     case measure=>simp [intOf];have:=HKL.out;omega
    ·have HC:=Lib.hid hc
     have HBAD:Hid (inferE env e=(0,1)):=Lib.hid (HNO.out (by
      have:=HDA.out
      rw [Bool.eq_false_iff]
      intro h
      rw [h]at this
      have h2:=(List.any_eq_false.1 this) k (List.mem_range.2 HKL.out)
      rw [HDK.out,decide_eq_false HC.out]at h2
      simp at h2))
     by_cases h1:dk<1
     ·clear hc
      go_wp2_with fail
      go_returns
      exact infP HBAD.out (World.Grows.trans HG.out (.of_below belB))
     ·have h2:dk > 4:=by omega
      clear hc
      go_wp2_with fail
      go_returns
      exact infP HBAD.out (World.Grows.trans HG.out (.of_below belB))
   ·obtain rfl:k=env.length:=by omega
    have hde:dimsOk env=true:=by
     have:=HDA.out
     rw [show(List.range env.length).any (fun k=>!decide (1≤bdD env k∧bdD env k≤4))=false from List.any_eq_false.2 fun j hj=>by simp [hno.out j (List.mem_range.1 hj)]]at this
     simpa using this.symm
    have hbx:∀j u,(#[Value.int .i64 e.op,.int .i64 e.num,.int .i64 e.den,.int .i64 e.dim,.string e.name,.slice a e.args.length cap]:Array Value)[j]? =some u→wr.cell? ⟨w.heap.size,j,none⟩=some u:=fun j u hu=>by
     rw [hB.cell (p:=⟨w.heap.size,j,none⟩) (by simp),World.cell?_alloc_at _ _ _ _ rfl];exact hu
    have y0:=hbx 0 _ rfl
    have y1:=hbx 1 _ rfl
    have y2:=hbx 2 _ rfl
    have y3:=hbx 3 _ rfl
    have y4:=hbx 4 _ rfl
    have y5:=hbx 5 _ rfl
    have HI2:=Lib.hid (HI.out hde wr hG)
    have HY:=Lib.hid (HYES.out hde)
    clear hde hbx hB hG
    obtain⟨q,hq⟩:∃q,inferF env e=q:=⟨_,rfl⟩
    rw [hq]at HI2
    have HQ:=Lib.hid hq
    clear hq
    go_wp2_with (go_at_call 61;refine(HI2.out).mono ?_;rintro e' w' ⟨rfl,bs3,d3,rfl⟩)
    go_returns
    exact infP (by rw [HY.out,HQ.out]) (World.Grows.trans HG.out (.of_below belB))
end Go.Proofs.YtfoefpoaomepbaaGreatDoor
