/- typing.infer, typing.Infer: the dimension of an expression, in the program. -/
import Derived.Test.YtaghhncnicbedaaGreatDoorTyIB
import Derived.Test.YtaghhncnicbedaaGreatDoorBFd2
set_option linter.all false
set_option maxHeartbeats 16000000
set_option maxRecDepth 1000000
namespace Go.Proofs.YtaghhncnicbedaaGreatDoor
open Go.RowKit
def InfP(r:Int × Int)(w:World)(e:Ending)(w':World):Prop:=e= .returned (.tuple #[.int .i64 r.1,.int .i64 r.2])∧w.Grows w'
theorem infP{r:Int × Int}{a b:Int}{w w':World}(h:r=(a,b))(hg:w.Grows w'):InfP r w (.returned (.tuple #[.int .i64 a,.int .i64 b])) w':=by subst h;exact⟨rfl,hg⟩
theorem formeds_get{l:List Ex}(h:formedsB l=true)(k:Nat)(hk:k<l.length):formedB (l.getD k default)=true:=by
 by_cases hf:formedB (l.getD k default)=true
 ·exact hf
 ·rw [formedsB_no l k hk (by simpa using hf)]at h;cases h
theorem formed_op{e:Ex}(h:formedB e=true)(h1:¬e.op=1)(h2:¬e.op=2)(h3:¬e.op=3):(e.args.length:Int)=argsN e.op∧4≤e.op∧e.op≤21∧formedsB e.args=true:=by
 rw [formedB_eq,Bool.and_eq_true,decide_eq_true_eq,if_neg h1,if_neg h2,if_neg h3,Bool.and_eq_true]at h
 have hop:4≤e.op∧e.op≤21:=by have ha:=h.1;unfold argsN at ha;(repeat' split at ha)<;>omega
 exact⟨h.1,hop.1,hop.2,h.2.1⟩
abbrev infD(env:List (ByteArray × Int))(e:Ex):Int:=(inferF env e).1
abbrev infC(env:List (ByteArray × Int))(e:Ex):Int:=(inferF env e).2
abbrev dimsK(env:List (ByteArray × Int))(e:Ex)(k:Nat):List Int:=(e.args.take k).map (infD env)
theorem dimsK_succ(env:List (ByteArray × Int))(e:Ex)(k:Nat)(hk:k<e.args.length):dimsK env e (k+1)=dimsK env e k++[infD env (e.arg k)]:=by
 unfold dimsK
 rw [List.take_succ_eq_append_getElem hk,List.map_append]
 congr 1
 show [infD env e.args[k]]= [infD env (e.args.getD k default)]
 rw [List.getD_eq_getElem?_getD,List.getElem?_eq_getElem hk];rfl
theorem inf_op(env:List (ByteArray × Int))(e:Ex)(h1:¬e.op=1)(h2:¬e.op=2)(h3:¬e.op=3)(hok:∀j,j<e.args.length→infC env (e.arg j)=0) :
 inferF env e=if resD e.op (dimsK env e e.args.length)=0 then(0,6)else(resD e.op (dimsK env e e.args.length),0):=by
 rw [inferF_eq,infers_ok env e.args hok]
 unfold infNode dimsK
 rw [if_neg h1,if_neg h3,if_neg h2,if_neg (by simp),List.take_length]
theorem inf_bad(env:List (ByteArray × Int))(e:Ex)(h1:¬e.op=1)(h2:¬e.op=2)(h3:¬e.op=3)(k:Nat)(hk:k<e.args.length)(hj:∀j,j<k→infC env (e.arg j)=0)(hb:infC env (e.arg k)≠0):inferF env e=(0,infC env (e.arg k)):=by
 have:=infers_bad env e.args k hk hj hb
 rw [inferF_eq]
 unfold infNode
 have hb2:(infersF env e.args).2≠0:=by rw [this];exact hb
 rw [if_neg h1,if_neg h3,if_neg h2,if_pos hb2,this];rfl
theorem own_grow{w:World}{base:Nat}{e:TypeId}{size:Nat}{v:Value}{n:Nat}{xs:List Value}(h:w.ownsRow base e size v n xs){w':World}(hg:w.Grows w'):w'.ownsRow base e size v n xs:=
 ownsRow_keep h fun k _ hk=>hg.below.block k hk
theorem infoI:(Tryz.prog.info? 3).map (fun i=>(i.zero,i.size,i.bytes))=some (some (.int .i64 0),1,8):=by kernel_rfl
theorem infer2_leaf(env:List (ByteArray × Int))(e:Ex)(a:Option Addr)(cap:Nat)(ve:Value)(w:World)(hv:BindAt w ve env)(ho:e.op=1∨e.op=2∨e.op=3):(Calls Tryz.prog 186 #[exV e (.slice a e.args.length cap),ve] w (InfP (inferF env e) w)):=by
 have HV:=Lib.hid hv
 obtain⟨-,ae,ce,rfl,-⟩:=hv
 have HF:=Lib.hid (inferF_eq env e)
 unfold infNode at HF
 have HL:=Lib.hid (lookV_infer env e.name)
 have HC:Hid (∀w',w.Grows w'→Calls Tryz.prog 205 #[.string e.name,.slice ae env.length ce] w' (LkP env e.name w')):=Lib.hid (fun w' hg=>lookup_any e.name env _ w' (HV.out.grows hg))
 unfold LkP at HC
 rcases ho with ho|ho|ho
 ·go_enter Tryz.func186,Tryz.ntmps186
  go_wp2_with fail
  go_returns
  exact infP (by rw [HF.out,if_pos ho]) (.of_below belB)
 ·cases hb:(lookV env e.name).2
  all_goals
   rw [hb]at HC
   have HB:=Lib.hid hb
   clear hb
   generalize hm:(lookV env e.name).1=m at HC
   have HM:=Lib.hid hm
   clear hm
   go_enter Tryz.func186,Tryz.ntmps186
   go_wp2_with (go_at_call 205;refine(HC.out _ (.of_below belB)).mono ?_;rintro e' w' ⟨rfl,bs,d,rfl⟩)
   go_returns
   exact infP (by rw [HF.out,if_neg (by omega),if_neg (by omega),if_pos ho,HL.out,HB.out];first|(rw [if_pos rfl,HM.out];done)|(rw [if_neg (by simp)];done)) (.of_below belB)
 ·go_enter Tryz.func186,Tryz.ntmps186
  go_wp2_with fail
  go_returns
  exact infP (by rw [HF.out,if_neg (by omega),if_pos ho]) (.of_below belB)
theorem infer2_walk(S:Nat→Prop)(env:List (ByteArray × Int))(hE:dimsOk env=true)(n:Nat):∀(e:Ex),e.size≤n→formedB e=true→∀(v ve:Value) (w:World),RepE S w e v→BindAt w ve env→
 Calls Tryz.prog 186 #[exV e v,ve] w (InfP (inferF env e) w):=by
 induction n with
 |zero=>intro e he;have:=e.size_pos;omega
 |succ n ih=>
  intro e he hf v ve w h hv
  have HR:=Lib.hid h
  have HV:=Lib.hid hv
  have hrng:=h.rng
  obtain⟨a,cap,rfl⟩:=h.form0
  by_cases h1:e.op=1
  ·exact infer2_leaf env e a cap ve w hv (.inl h1)
  by_cases h2:e.op=2
  ·exact infer2_leaf env e a cap ve w hv (.inr (.inl h2))
  by_cases h3:e.op=3
  ·exact infer2_leaf env e a cap ve w hv (.inr (.inr h3))
  obtain⟨hal,ho4,ho21,hfs⟩:=formed_op hf h1 h2 h3
  have hn3:e.args.length≤3∧1≤e.args.length:=by unfold argsN at hal;(repeat' split at hal)<;>omega
  have HOK:=Lib.hid (inf_op env e h1 h2 h3)
  have HBAD:=Lib.hid (inf_bad env e h1 h2 h3)
  have HOP:=Lib.hid (And.intro hal (And.intro ho4 ho21))
  have IH:Hid (∀k,k<e.args.length→∀ak ck w',w.Grows w'→RepE S w' (e.arg k) (.slice ak (e.arg k).args.length ck)→Calls Tryz.prog 186 #[exV (e.arg k) (.slice ak (e.arg k).args.length ck),ve] w' (InfP (inferF env (e.arg k)) w')):=
   Lib.hid (fun k hk ak ck w' hg hr=>by
    have hsm:=e.size_arg k hk
    exact ih (e.arg k) (by omega) (formeds_get hfs k hk) _ ve w' hr (HV.out.grows hg))
  have HDM:Hid (∀k,k<e.args.length→infC env (e.arg k)=0→1≤infD env (e.arg k)):=Lib.hid (fun k hk hc=>(infer_dim hE (e.arg k) (formeds_get hfs k hk) hc).1)
  unfold InfP at IH
  obtain⟨-,ae,ce,rfl,-⟩:=hv
  have p1:(e.op==1)=false:=by simpa using h1
  have p2:(e.op==2)=false:=by simpa using h2
  have p3:(e.op==3)=false:=by simpa using h3
  clear h ih hE hf hfs hal ho4 ho21 he h1 h2 h3
  obtain⟨i0,hi,hz0,hz1,hz2⟩:=info_parts infoI
  go_enter Tryz.func186,Tryz.ntmps186
  go_wp2_with fail
  go_loopw [8,38] (fun v8 v38 wr=>∃k:Nat,k≤e.args.length∧v38= .int .i64 k∧Hid (∀j,j<k→infC env (e.arg j)=0)∧Below (w.heap.size+1) (w.alloc (.cells #[.int .i64 e.op,.int .i64 e.num,.int .i64 e.den,.int .i64 e.dim,.string e.name,.slice a e.args.length cap] 91)) wr∧wr.ownsRow (w.heap.size+1) 3 1 v8 k ((dimsK env e k).map (Value.int .i64))) (fun _ v38 _=>e.args.length-(intOf v38).toNat)
  case atStart=>exact⟨0,by omega,rfl,Lib.hid (fun j hj=>by omega),.refl _ _,World.ownsRow_nil _ _ _ _⟩
  case round=>
   obtain⟨k,hk,rfl,hno,hB,hown⟩:=hrel
   have hsW:w.heap.size+1≤wr.heap.size:=by have:=hB.size;simpa using this
   have hbox:wr.cell? ⟨w.heap.size,0,none⟩=some (.int .i64 e.op):=by
    rw [hB.cell (p:=⟨w.heap.size,0,none⟩) (by simp),World.cell?_alloc_at _ _ _ _ rfl];rfl
   have hG:w.Grows wr:=.of_below ((((Below.refl _ _).alloc (Nat.le_refl _) _)).trans (hB.mono (by omega)))
   have HB:=Lib.hid hB
   have HO:=Lib.hid hown
   have HG:=Lib.hid hG
   by_cases hlt:k<e.args.length
   ·have hRk:=HR.out.grows hG
    cases hRk with
    |mk _ _ _ vs hr hc hs=>
     rcases hc with h0|⟨b,off,rfl,-,hbw,hx⟩
     ·omega
     ·have hR:=hs k hlt
      obtain⟨x0,x1,x2,x3,x4,x5⟩:=hx k hlt
      obtain⟨ak,ck,hvk⟩:=hR.form0
      rw [hvk]at x5 hR
      have HRK:=Lib.hid hR
      have hcall:=fun w' hg hg2=>IH.out k hlt ak ck w' hg (HRK.out.grows hg2)
      have HNX:=Lib.hid (dimsK_succ env e k hlt)
      have HKL:=Lib.hid hlt
      have HBK:=Lib.hid (fun hj hb=>HBAD.out k hlt hj hb)
      have d1:(k:Int)<(e.args.length:Int):=by omega
      clear hx hs hr hvk hG hB hown hR
      unfold exV at hcall
      obtain⟨x,hxe⟩:∃x,e.arg k=x:=⟨_,rfl⟩
      rw [hxe]at hcall x0 x1 x2 x3 x4 x5 HNX HBK
      have HXE:=Lib.hid hxe
      clear hxe
      have HCL:=Lib.hid hcall
      clear hcall
      obtain⟨q,hq⟩:∃q,inferF env x=q:=⟨_,rfl⟩
      unfold infC at HBK
      unfold infD at HNX
      rw [hq]at HCL HBK HNX
      have HQ:=Lib.hid hq
      clear hq
      obtain⟨qd,qc⟩:=q
      dsimp only at HCL HBK HNX
      by_cases hqc:qc=0
      ·subst hqc
       go_wp2_with (first
        |(go_at_call 186;refine(HCL.out _ (World.Grows.trans HG.out (.of_below belB)) (.of_below belB)).mono ?_;rintro e' w' ⟨rfl,bs,d,rfl⟩)
        |(at_builtin;refine wpList_append_own _ rfl _ _ 22 rfl (w.heap.size+1) 3 i0 (.int .i64 0) 1 8 Tryz.underlying22 hi hz0 hz1 hz2 rfl (by decide) _ _ _ rfl ((own_grow (HO.out.alloc _) ⟨bs,d,rfl⟩).alloc _) ⟨wr.heap.size+1+bs.size,0,none⟩ 1 1 [.int .i64 qd] rfl rfl ?c1 ?c2 ?c3 ?c4 ?c5 ?_))
       case c1=>exact news_cells _ [.int .i64 qd] _ _ (by simp)
       case c2=>intro u hu;simp at hu;subst hu;rfl
       case c3=>unfold maxLen;omega
       case c4=>omega
       case c5=>simp;omega
       intro v' w1 hown' hgrow _
       have HB1:=Lib.hid ((show Below (w.heap.size+1) (w.alloc (.cells #[.int .i64 e.op,.int .i64 e.num,.int .i64 e.den,.int .i64 e.dim,.string e.name,.slice (some ⟨b,off,none⟩) e.args.length cap] 91)) _ from by have:=HB.out;(exact belB)).grown hgrow (by simp;omega) (fun k hk=>(HO.out.lt k hk).1))
       have HO1:=Lib.hid hown'
       clear hown' hgrow
       go_wp2_with fail
       go_roundw
       case rel=>exact⟨k+1,HKL.out,by go_num,Lib.hid (fun j hj=>by
        by_cases ej:j=k
        ·subst ej;unfold infC;rw [HXE.out,HQ.out]
        ·exact hno.out j (by omega)),HB1.out,by rw [HNX.out,List.map_append];simpa [dimsK]using HO1.out⟩
       case measure=>simp [intOf];have:=HKL.out;omega
      ·have hq1:(qc !=0)=true:=by simpa using hqc
       have HQC:=Lib.hid hqc
       clear hqc
       go_wp2_with (go_at_call 186;refine(HCL.out _ (World.Grows.trans HG.out (.of_below belB)) (.of_below belB)).mono ?_;rintro e' w' ⟨rfl,bs,d,rfl⟩)
       go_returns
       exact infP (HBK.out hno.out HQC.out) (World.Grows.trans HG.out (.of_below belB))
   ·obtain rfl:k=e.args.length:=by omega
    have hd:=HOK.out hno.out
    have hdl:(dimsK env e e.args.length).length=e.args.length:=by simp [dimsK]
    obtain⟨-,⟨_,h0⟩|⟨g,gc,cu,rfl,hbg,-⟩⟩:=hown
    ·omega
    have hres:=res2_all e.op (dimsK env e e.args.length) (w.heap.size+1) g gc wr HOP.out.2.1 HOP.out.2.2 (by rw [hdl];exact HOP.out.1) (fun y hy=>by
     obtain⟨t,ht,rfl⟩:=List.mem_map.1 hy
     rw [List.take_length]at ht
     obtain⟨j,hj,rfl⟩:=List.mem_iff_getElem.1 ht
     have:=HDM.out j hj (hno.out j hj)
     unfold Ex.arg at this
     rw [List.getD_eq_getElem?_getD,List.getElem?_eq_getElem hj]at this
     exact this) (by rw [hdl];exact HO.out)
    rw [hdl]at hres
    obtain⟨R,hR⟩:∃R,resD e.op (dimsK env e e.args.length)=R:=⟨_,rfl⟩
    rw [hR]at hres hd
    have HD:=Lib.hid hd
    unfold Res2P at hres
    clear hB hG hR hd hdl
    by_cases hR0:R=0
    ·subst hR0
     have HRS:=Lib.hid hres
     clear hres
     go_wp2_with (go_at_call 206;refine(HRS.out).mono ?_;rintro e' w' ⟨⟨m,rfl,-⟩,bs,d,rfl⟩)
     go_returns
     exact infP (by rw [HD.out];simp) (World.Grows.trans HG.out (.of_below belB))
    ·rw [decide_eq_true hR0]at hres
     have HRS:=Lib.hid hres
     have HR0:=Lib.hid hR0
     clear hres hR0
     go_wp2_with (go_at_call 206;refine(HRS.out).mono ?_;rintro e' w' ⟨⟨m,rfl,hm⟩,bs,d,rfl⟩;obtain rfl:=hm HR0.out;clear hm)
     go_returns
     exact infP (by rw [HD.out,if_neg HR0.out]) (World.Grows.trans HG.out (.of_below belB))
end Go.Proofs.YtaghhncnicbedaaGreatDoor
