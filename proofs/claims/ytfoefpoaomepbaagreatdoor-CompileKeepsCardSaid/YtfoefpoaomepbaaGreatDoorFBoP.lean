import Derived.Test.YtfoefpoaomepbaaGreatDoorFBestI
import Derived.Test.YtfoefpoaomepbaaGreatDoorFSyF
import Derived.Test.YtfoefpoaomepbaaGreatDoorFK
set_option linter.all false
set_option maxHeartbeats 16000000
set_option maxRecDepth 1000000
namespace Go.Proofs.YtfoefpoaomepbaaGreatDoor
theorem mkE_small{n d:Int}(h1:0≤n)(h2:n≤1000000000000000)(h3:1≤d)(h4:d≤1000000000):mkE n d=0:=by
 unfold mkE lowE
 rw [if_neg (by omega),if_neg]
 have a:=Nat.div_le_self n.natAbs (Nat.gcd n.natAbs d.natAbs)
 have b:=Nat.div_le_self d.natAbs (Nat.gcd n.natAbs d.natAbs)
 omega
end Go.Proofs.YtfoefpoaomepbaaGreatDoor
namespace Go.Proofs.YtfoefpoaomepbaaGreatDoor
open Go.RowKit Go.Sort Go.Lib
theorem YrAt.of_row{w:World}{base:Nat}{v:Value}{l:List Int}(h:w.ownsRow base 3 1 v l.length (l.map (Value.int .i64)))(hl:l.length≤1000):YrAt w v l:=by
 obtain⟨-,⟨rfl,h0⟩|⟨g,cap,cur,rfl,hb,hg,h2,h3,h4,h5⟩⟩:=id h
 ·exact⟨by omega,none,0,by rw [h0],.inl h0⟩
 ·refine⟨by omega,_,cap,rfl,.inr ⟨g,0,rfl,(Array.getElem?_eq_some_iff.1 hg).1,fun i hi=>?_⟩⟩
  rw [Nat.zero_add,h.cellAt i (by omega),List.getElem?_map,List.getElem?_eq_getElem hi,List.getD_eq_getElem?_getD,List.getElem?_eq_getElem hi]
  rfl
end Go.Proofs.YtfoefpoaomepbaaGreatDoor
namespace Go.Proofs.YtfoefpoaomepbaaGreatDoor
open Go.RowKit
theorem infer5_leaf(env:List (ByteArray × Int))(e:Ex)(a:Option Addr)(cap:Nat)(ve:Value)(w:World)(hv:BindAt w ve env)(ho:e.op=1∨e.op=3):(Calls Tryz.prog 61 #[exV e (.slice a e.args.length cap),ve] w (InfP (inferF env e) w)):=by
 obtain⟨-,ae,ce,rfl,-⟩:=hv
 have HF:=Lib.hid (inferF_eq env e)
 unfold infNode at HF
 rcases ho with ho|ho
 ·go_enter Tryz.func61,Tryz.ntmps61
  go_wp2_with fail
  go_returns
  exact infP (by rw [HF.out,if_pos ho]) (.of_below belB)
 ·go_enter Tryz.func61,Tryz.ntmps61
  exact fz74
theorem infer5_name(env:List (ByteArray × Int))(e:Ex)(a:Option Addr)(cap:Nat)(ve:Value)(w:World)(hv:BindAt w ve env)(ho:e.op=2):(Calls Tryz.prog 61 #[exV e (.slice a e.args.length cap),ve] w (InfP (inferF env e) w)):=by
 have HV:=Lib.hid hv
 obtain⟨hl1000,ae,ce,rfl,-⟩:=hv
 have HF:Hid (inferF env e=inferN env e.name):=Lib.hid (by rw [inferF_eq];unfold infNode;rw [if_neg (by omega),if_neg (by omega),if_pos ho])
 have HI:=Lib.hid (Input5_any e.name)
 unfold inferN at HF
 have p1:(e.op==1)=false:=by rw [ho];rfl
 have p2:(e.op==2)=true:=by rw [ho];rfl
 have p3:(e.op==3)=false:=by rw [ho];rfl
 clear ho
 by_cases hd:inpD e.name.toList=0
 ·rw [if_neg (by omega)]at HF
  rw [hd]at HI
  clear hd
  go_enter Tryz.func61,Tryz.ntmps61
  go_wp2_with (go_at_call 43;refine(HI.out _).mono ?_;rintro e' w' ⟨rfl,rfl⟩)
  go_loopw [8] (fun v8 wr=>∃k:Nat,k≤env.length∧v8= .int .i64 ((env.length:Int)-1-k)∧Hid (∀j,j<env.length→env.length≤j+k→bdN env j≠e.name)∧Below (w.heap.size+1) ((w.alloc (.cells #[.int .i64 e.op,.int .i64 e.num,.int .i64 e.den,.int .i64 e.dim,.string e.name,.slice a e.args.length cap] 27))) wr) (fun v8 _=>(intOf v8+1).toNat)
  case atStart=>exact⟨0,by omega,by simp,Lib.hid (fun j hj _=>by omega),.refl _ _⟩
  case round=>
   obtain⟨k,hk,rfl,hno,hB⟩:=hrel
   have HB:=Lib.hid hB
   have hG:w.Grows wr:=.of_below ((((Below.refl _ _).alloc (Nat.le_refl _) _)).trans (hB.mono (by omega)))
   have HG:=Lib.hid hG
   have hbox:wr.cell? ⟨w.heap.size,4,none⟩=some (.string e.name):=by
    rw [hB.cell (p:=⟨w.heap.size,4,none⟩) (by simp),World.cell?_alloc_at _ _ _ _ rfl];rfl
   by_cases hlt:k<env.length
   ·obtain⟨-,a',c',hvv,hx⟩:=HV.out.grows hG
    simp only [Value.slice.injEq,true_and]at hvv
    obtain⟨rfl,rfl⟩:=hvv
    rcases hx with h0|⟨b,off,rfl,hbw,hx⟩
    ·omega
    obtain⟨i,hi⟩:∃i:Nat,(env.length:Int)-1-k=i:=⟨env.length-1-k,by omega⟩
    have hii:i<env.length:=by omega
    obtain⟨x0,x1⟩:=hx i hii
    have d1:(i:Int)<(env.length:Int):=by omega
    have d0:(0:Int)≤(i:Int):=by omega
    rw [hi]
    have HIX:=Lib.hid (And.intro hi (And.intro hii hlt))
    have HSM:=Lib.hid (fun he hl=>lastN_some env e.name i (ByteArray.empty,0) hii he hl)
    clear hx hi hii hlt hB hG
    obtain⟨nk,hnk⟩:∃nk,bdN env i=nk:=⟨_,rfl⟩
    obtain⟨dk,hdk⟩:∃dk,bdD env i=dk:=⟨_,rfl⟩
    rw [hnk]at x0
    rw [hdk]at x1
    have HNK:=Lib.hid hnk
    have HDK:=Lib.hid hdk
    clear hnk hdk
    by_cases he:nk=e.name
    ·have he2:(nk.toList==e.name.toList)=true:=by rw [he];simp
     have HE:=Lib.hid he
     clear he
     go_wp2_with fail
     go_region
     go_wp2_with fail
     go_returns
     exact infP (by
      have:=HSM.out (by show bdN env i=e.name;rw [HNK.out];exact HE.out) (fun j h1 h2=>hno.out j h2 (by have:=HIX.out.1;omega))
      rw [HF.out,this]
      show(bdD env i,(0:Int))=_
      rw [HDK.out]) (World.Grows.trans HG.out (.of_below belB))
    ·have he2:(nk.toList==e.name.toList)=false:=by
      rw [beq_eq_false_iff_ne];exact fun h=>he (toList_inj h)
     have HE:=Lib.hid he
     clear he
     go_wp2_with fail
     go_region
     go_wp2_with fail
     go_roundw
     case rel=>exact⟨k+1,HIX.out.2.2,by have:=HIX.out.1;first|(congr 1;omega)|(simp;omega),Lib.hid (fun j hj hjk=>by
      by_cases ej:j=i
      ·subst ej;rw [HNK.out];exact HE.out
      ·exact hno.out j hj (by have:=HIX.out.1;omega)),by have:=HB.out;(exact belB)⟩
     case measure=>first|(simp [intOf];done)|(simp [intOf];have:=HIX.out.2.2;omega)|(simp [intOf];have:=HIX.out.1;omega)
   ·obtain rfl:k=env.length:=by omega
    have hz:(env.length:Int)-1-env.length= -1:=by omega
    rw [hz]
    clear hz hB hG
    go_wp2_with fail
    go_returns
    exact infP (by
     have:=lastN_none env e.name (ByteArray.empty,0) (fun j hj=>hno.out j hj (by omega))
     rw [HF.out,this]) (World.Grows.trans HG.out (.of_below belB))
 ·rw [if_pos hd]at HF
  rw [decide_eq_true hd]at HI
  clear hd
  generalize inpD e.name.toList=D at *
  go_enter Tryz.func61,Tryz.ntmps61
  go_wp2_with (go_at_call 43;refine(HI.out _).mono ?_;rintro e' w' ⟨rfl,rfl⟩)
  go_returns
  exact infP HF.out (.of_below belB)
theorem infer5_walk(S:Nat→Prop)(env:List (ByteArray × Int))(hE:dimsOk env=true)(n:Nat):∀(e:Ex),e.size≤n→formedB e=true→∀(v ve:Value) (w:World),RepE S w e v→BindAt w ve env→
 Calls Tryz.prog 61 #[exV e v,ve] w (InfP (inferF env e) w):=by
 induction n with
 |zero=>intro e he;have:=e.size_pos;omega
 |succ n ih=>
  intro e he hf v ve w h hv
  have HR:=Lib.hid h
  have HV:=Lib.hid hv
  have hrng:=h.rng
  obtain⟨a,cap,rfl⟩:=h.form0
  by_cases h1:e.op=1
  ·exact infer5_leaf env e a cap ve w hv (.inl h1)
  by_cases h2:e.op=2
  ·exact infer5_name env e a cap ve w hv h2
  by_cases h3:e.op=3
  ·exact infer5_leaf env e a cap ve w hv (.inr h3)
  obtain⟨hal,ho4,ho21,hfs⟩:=formed_op hf h1 h2 h3
  have hn3:e.args.length≤3∧1≤e.args.length:=by unfold argsN at hal;(repeat' split at hal)<;>omega
  have HOK:=Lib.hid (inf_op env e h1 h2 h3)
  have HBAD:=Lib.hid (inf_bad env e h1 h2 h3)
  have HOP:=Lib.hid (And.intro hal (And.intro ho4 ho21))
  have IH:Hid (∀k,k<e.args.length→∀ak ck w',w.Grows w'→RepE S w' (e.arg k) (.slice ak (e.arg k).args.length ck)→Calls Tryz.prog 61 #[exV (e.arg k) (.slice ak (e.arg k).args.length ck),ve] w' (InfP (inferF env (e.arg k)) w')):=
   Lib.hid (fun k hk ak ck w' hg hr=>by
    have hsm:=e.size_arg k hk
    exact ih (e.arg k) (by omega) (formeds_get hfs k hk) _ ve w' hr (HV.out.grows hg))
  have HDM:Hid (∀k,k<e.args.length→infC env (e.arg k)=0→1≤infD env (e.arg k)):=Lib.hid (fun k hk hc=>(infer_dim hE (e.arg k) (formeds_get hfs k hk) hc).1)
  unfold InfP at IH
  obtain⟨-,ae,ce,rfl,-⟩:=hv
  have p1:(e.op==1)=false:=by simpa using h1
  have p2:(e.op==2)=false:=by simpa using h2
  have p3:(e.op==3)=false:=by simpa using h3
  clear h ih hE hf hfs hal ho4 ho21 he h1 h2 h3
  obtain⟨i0,hi,hz0,hz1,hz2⟩:=info_parts infoI
  go_enter Tryz.func61,Tryz.ntmps61
  go_wp2_with fail
  go_loopw [9,10] (fun v8 v38 wr=>∃k:Nat,k≤e.args.length∧v38= .int .i64 k∧Hid (∀j,j<k→infC env (e.arg j)=0)∧Below (w.heap.size+1) (w.alloc (.cells #[.int .i64 e.op,.int .i64 e.num,.int .i64 e.den,.int .i64 e.dim,.string e.name,.slice a e.args.length cap] 27)) wr∧wr.ownsRow (w.heap.size+1) 3 1 v8 k ((dimsK env e k).map (Value.int .i64))) (fun _ v38 _=>e.args.length-(intOf v38).toNat)
  case atStart=>exact⟨0,by omega,rfl,Lib.hid (fun j hj=>by omega),.refl _ _,World.ownsRow_nil _ _ _ _⟩
  case round=>
   obtain⟨k,hk,rfl,hno,hB,hown⟩:=hrel
   have hsW:w.heap.size+1≤wr.heap.size:=by have:=hB.size;simpa using this
   have hbox:wr.cell? ⟨w.heap.size,0,none⟩=some (.int .i64 e.op):=by
    rw [hB.cell (p:=⟨w.heap.size,0,none⟩) (by simp),World.cell?_alloc_at _ _ _ _ rfl];rfl
   have hbox5:wr.cell? ⟨w.heap.size,5,none⟩=some (.slice a e.args.length cap):=by
    rw [hB.cell (p:=⟨w.heap.size,5,none⟩) (by simp),World.cell?_alloc_at _ _ _ _ rfl];rfl
   have hG:w.Grows wr:=.of_below ((((Below.refl _ _).alloc (Nat.le_refl _) _)).trans (hB.mono (by omega)))
   have HB:=Lib.hid hB
   have HO:=Lib.hid hown
   have HG:=Lib.hid hG
   by_cases hlt:k<e.args.length
   ·have hRk:=HR.out.grows hG
    cases hRk with
    |mk _ _ _ vs hr hc hs=>
     rcases hc with h0|⟨b,off,rfl,-,hbw,hx⟩
     ·omega
     ·have hR:=hs k hlt
      obtain⟨x0,x1,x2,x3,x4,x5⟩:=hx k hlt
      obtain⟨ak,ck,hvk⟩:=hR.form0
      rw [hvk]at x5 hR
      have HRK:=Lib.hid hR
      have hcall:=fun w' hg hg2=>IH.out k hlt ak ck w' hg (HRK.out.grows hg2)
      have HNX:=Lib.hid (dimsK_succ env e k hlt)
      have HKL:=Lib.hid hlt
      have HBK:=Lib.hid (fun hj hb=>HBAD.out k hlt hj hb)
      have d1:(k:Int)<(e.args.length:Int):=by omega
      clear hx hs hr hvk hG hB hown hR
      unfold exV at hcall
      obtain⟨x,hxe⟩:∃x,e.arg k=x:=⟨_,rfl⟩
      rw [hxe]at hcall x0 x1 x2 x3 x4 x5 HNX HBK
      have HXE:=Lib.hid hxe
      clear hxe
      have HCL:=Lib.hid hcall
      clear hcall
      obtain⟨q,hq⟩:∃q,inferF env x=q:=⟨_,rfl⟩
      unfold infC at HBK
      unfold infD at HNX
      rw [hq]at HCL HBK HNX
      have HQ:=Lib.hid hq
      clear hq
      obtain⟨qd,qc⟩:=q
      dsimp only at HCL HBK HNX
      by_cases hqc:qc=0
      ·subst hqc
       go_wp2_with (first
        |(go_at_call 61;refine(HCL.out _ (World.Grows.trans HG.out (.of_below belB)) (.of_below belB)).mono ?_;rintro e' w' ⟨rfl,bs,d,rfl⟩)
        |(at_builtin;refine wpList_append_own _ rfl _ _ 22 rfl (w.heap.size+1) 3 i0 (.int .i64 0) 1 8 Tryz.underlying22 hi hz0 hz1 hz2 rfl (by decide) _ _ _ rfl ((own_grow HO.out ⟨bs,d,rfl⟩).alloc _) ⟨wr.heap.size+bs.size,0,none⟩ 1 1 [.int .i64 qd] rfl rfl ?c1 ?c2 ?c3 ?c4 ?c5 ?_))
       case c1=>exact news_cells _ [.int .i64 qd] _ _ (by simp)
       case c2=>intro u hu;simp at hu;subst hu;rfl
       case c3=>unfold maxLen;omega
       case c4=>omega
       case c5=>simp;omega
       intro v' w1 hown' hgrow _
       have HB1:=Lib.hid ((show Below (w.heap.size+1) (w.alloc (.cells #[.int .i64 e.op,.int .i64 e.num,.int .i64 e.den,.int .i64 e.dim,.string e.name,.slice (some ⟨b,off,none⟩) e.args.length cap] 27)) _ from by have:=HB.out;(exact belB)).grown hgrow (by simp;omega) (fun k hk=>(HO.out.lt k hk).1))
       have HO1:=Lib.hid hown'
       clear hown' hgrow
       go_wp2_with fail
       go_roundw
       case rel=>exact⟨k+1,HKL.out,by go_num,Lib.hid (fun j hj=>by
        by_cases ej:j=k
        ·subst ej;unfold infC;rw [HXE.out,HQ.out]
        ·exact hno.out j (by omega)),HB1.out,by rw [HNX.out,List.map_append];simpa [dimsK]using HO1.out⟩
       case measure=>simp [intOf];have:=HKL.out;omega
      ·have hq1:(qc !=0)=true:=by simpa using hqc
       have HQC:=Lib.hid hqc
       clear hqc
       go_wp2_with (go_at_call 61;refine(HCL.out _ (World.Grows.trans HG.out (.of_below belB)) (.of_below belB)).mono ?_;rintro e' w' ⟨rfl,bs,d,rfl⟩)
       go_returns
       exact infP (HBK.out hno.out HQC.out) (World.Grows.trans HG.out (.of_below belB))
   ·obtain rfl:k=e.args.length:=by omega
    have hd:=HOK.out hno.out
    have hdl:(dimsK env e e.args.length).length=e.args.length:=by simp [dimsK]
    obtain⟨-,⟨_,h0⟩|⟨g,gc,cu,rfl,hbg,-⟩⟩:=hown
    ·omega
    have hres:=res5_all e.op (dimsK env e e.args.length) (w.heap.size+1) g gc wr HOP.out.2.1 HOP.out.2.2 (by rw [hdl];exact HOP.out.1) (fun y hy=>by
     obtain⟨t,ht,rfl⟩:=List.mem_map.1 hy
     rw [List.take_length]at ht
     obtain⟨j,hj,rfl⟩:=List.mem_iff_getElem.1 ht
     have:=HDM.out j hj (hno.out j hj)
     unfold Ex.arg at this
     rw [List.getD_eq_getElem?_getD,List.getElem?_eq_getElem hj]at this
     exact this) (by rw [hdl];exact HO.out)
    rw [hdl]at hres
    obtain⟨R,hR⟩:∃R,resD e.op (dimsK env e e.args.length)=R:=⟨_,rfl⟩
    rw [hR]at hres hd
    have HD:=Lib.hid hd
    unfold Res5P at hres
    clear hB hG hR hd hdl
    by_cases hR0:R=0
    ·subst hR0
     have HRS:=Lib.hid hres
     clear hres
     go_wp2_with (go_at_call 90;refine(HRS.out).mono ?_;rintro e' w' ⟨rfl,bs,d,rfl⟩)
     go_returns
     exact infP (by rw [HD.out];simp) (World.Grows.trans HG.out (.of_below belB))
    ·have hR1:(R==0)=false:=by simpa using hR0
     have HRS:=Lib.hid hres
     have HR0:=Lib.hid hR0
     clear hres hR0
     go_wp2_with (go_at_call 90;refine(HRS.out).mono ?_;rintro e' w' ⟨rfl,bs,d,rfl⟩)
     go_returns
     exact infP (by rw [HD.out,if_neg HR0.out]) (World.Grows.trans HG.out (.of_below belB))
theorem Infer5_any(S:Nat→Prop)(env:List (ByteArray × Int))(e:Ex)(v ve:Value)(w:World)(h:RepE S w e v)(hbig:e.size≤2305843009213693952)(hv:BindAt w ve env) :
 Calls Tryz.prog 25 #[exV e v,ve] w (InfP (inferE env e) w):=by
 have HR:=Lib.hid h
 have HV:=Lib.hid hv
 have hrng:=h.rng
 obtain⟨a,cap,rfl⟩:=h.form0
 have HVE:Hid (∀w',w.Grows w'→Calls Tryz.prog 31 #[exV e (.slice a e.args.length cap)] w' fun r w''=>r= .returned (.bool (validB e))∧w'.Grows w''):=
  Lib.hid (fun w' hg=>ValidExpr_any S e _ w' (Lib.hid (HR.out.grows hg)) (Lib.hid hbig))
 have HDA:=Lib.hid (dims_any env)
 obtain⟨hl1000,ae,ce,rfl,-⟩:=hv
 unfold exV at HVE
 cases hve:validB e with
 |false=>
  have HF:=Lib.hid (inferE_no (env:=env) (.inl hve))
  rw [hve]at HVE
  clear h hve
  go_enter Tryz.func25,Tryz.ntmps25
  go_wp2_with (go_at_call 31;refine(HVE.out _ (.of_below belB)).mono ?_;rintro e' w' ⟨rfl,bs,d,rfl⟩)
  go_returns
  exact infP HF.out (.of_below belB)
 |true=>
  rw [hve]at HVE
  have HNO:=Lib.hid (fun h=>inferE_no (env:=env) (e:=e) (.inr h))
  have HYES:=Lib.hid (fun h=>inferE_yes (env:=env) hve h)
  have HI:Hid (dimsOk env=true→∀w',w.Grows w'→Calls Tryz.prog 61 #[exV e (.slice a e.args.length cap),.slice ae env.length ce] w' (InfP (inferF env e) w')):=
   Lib.hid (fun hde w' hg=>infer5_walk S env hde e.size e (Nat.le_refl _) (valid_formed hve) _ _ w' (HR.out.grows hg) (HV.out.grows hg))
  unfold InfP exV at HI
  clear h hve
  go_enter Tryz.func25,Tryz.ntmps25
  go_wp2_with (go_at_call 31;refine(HVE.out _ (.of_below belB)).mono ?_;rintro e' w' ⟨rfl,bs,d,rfl⟩)
  go_loopw [6] (fun v6 wr=>∃k:Nat,k≤env.length∧v6= .int .i64 k∧Hid (∀j,j<k→1≤bdD env j∧bdD env j≤4)∧Below (w.heap.size+1) ((w.alloc (.cells #[.int .i64 e.op,.int .i64 e.num,.int .i64 e.den,.int .i64 e.dim,.string e.name,.slice a e.args.length cap] 27))) wr) (fun v6 _=>env.length-(intOf v6).toNat)
  case atStart=>exact⟨0,by omega,rfl,Lib.hid (fun j hj=>by omega),by(exact belB)⟩
  case round=>
   obtain⟨k,hk,rfl,hno,hB⟩:=hrel
   have HB:=Lib.hid hB
   have hG:w.Grows wr:=.of_below ((((Below.refl _ _).alloc (Nat.le_refl _) _)).trans (hB.mono (by omega)))
   have HG:=Lib.hid hG
   by_cases hlt:k<env.length
   ·obtain⟨-,a',c',hvv,hx⟩:=HV.out.grows hG
    simp only [Value.slice.injEq,true_and]at hvv
    obtain⟨rfl,rfl⟩:=hvv
    rcases hx with h0|⟨b,off,rfl,hbw,hx⟩
    ·omega
    obtain⟨x0,x1⟩:=hx k hlt
    have d1:(k:Int)<(env.length:Int):=by omega
    have HKL:=Lib.hid hlt
    clear hx hB hG hlt
    obtain⟨dk,hdk⟩:∃dk,bdD env k=dk:=⟨_,rfl⟩
    rw [hdk]at x1
    have HDK:=Lib.hid hdk
    clear hdk
    by_cases hc:1≤dk∧dk≤4
    ·obtain⟨hc1,hc2⟩:=hc
     go_wp2_with fail
     go_roundw
     case rel=>exact⟨k+1,HKL.out,by go_num,Lib.hid (fun j hj=>by
      by_cases ej:j=k
      ·subst ej;rw [HDK.out];exact⟨hc1,hc2⟩
      ·exact hno.out j (by omega)),by have:=HB.out;(exact belB)⟩
     case measure=>simp [intOf];have:=HKL.out;omega
    ·have HC:=Lib.hid hc
     have HBAD:Hid (inferE env e=(0,1)):=Lib.hid (HNO.out (by
      have:=HDA.out
      rw [Bool.eq_false_iff]
      intro h
      rw [h]at this
      have h2:=(List.any_eq_false.1 this) k (List.mem_range.2 HKL.out)
      rw [HDK.out,decide_eq_false HC.out]at h2
      simp at h2))
     by_cases h1:dk<1
     ·clear hc
      go_wp2_with fail
      go_returns
      exact infP HBAD.out (World.Grows.trans HG.out (.of_below belB))
     ·have h2:dk > 4:=by omega
      clear hc
      go_wp2_with fail
      go_returns
      exact infP HBAD.out (World.Grows.trans HG.out (.of_below belB))
   ·obtain rfl:k=env.length:=by omega
    have hde:dimsOk env=true:=by
     have:=HDA.out
     rw [show(List.range env.length).any (fun k=>!decide (1≤bdD env k∧bdD env k≤4))=false from List.any_eq_false.2 fun j hj=>by simp [hno.out j (List.mem_range.1 hj)]]at this
     simpa using this.symm
    have hbx:∀j u,(#[Value.int .i64 e.op,.int .i64 e.num,.int .i64 e.den,.int .i64 e.dim,.string e.name,.slice a e.args.length cap]:Array Value)[j]? =some u→wr.cell? ⟨w.heap.size,j,none⟩=some u:=fun j u hu=>by
     rw [hB.cell (p:=⟨w.heap.size,j,none⟩) (by simp),World.cell?_alloc_at _ _ _ _ rfl];exact hu
    have y0:=hbx 0 _ rfl
    have y1:=hbx 1 _ rfl
    have y2:=hbx 2 _ rfl
    have y3:=hbx 3 _ rfl
    have y4:=hbx 4 _ rfl
    have y5:=hbx 5 _ rfl
    have HI2:=Lib.hid (HI.out hde wr hG)
    have HY:=Lib.hid (HYES.out hde)
    clear hde hbx hB hG
    obtain⟨q,hq⟩:∃q,inferF env e=q:=⟨_,rfl⟩
    rw [hq]at HI2
    have HQ:=Lib.hid hq
    clear hq
    go_wp2_with (go_at_call 61;refine(HI2.out).mono ?_;rintro e' w' ⟨rfl,bs3,d3,rfl⟩)
    go_returns
    exact infP (by rw [HY.out,HQ.out]) (World.Grows.trans HG.out (.of_below belB))
end Go.Proofs.YtfoefpoaomepbaaGreatDoor
