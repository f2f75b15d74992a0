import Derived.Test.YtlheailebbngiaaGreatDoorGTyI
set_option linter.all false
set_option maxHeartbeats 16000000
set_option maxRecDepth 1000000
namespace Go.Proofs.YtlheailebbngiaaGreatDoor
open Go.Proofs.Tryz List
open Go.RowKit
def jh(r:Int × Int)(w:World)(e:Ending)(w':World):Prop:=e= .returned (.tuple #[.int .i64 r.1,.int .i64 r.2])/\w.Grows w'
theorem kI{r:Int × Int}{a b:Int}{w w':World}(h:r=(a,b))(hg:w.Grows w'):jh r w (.returned (.tuple #[.int .i64 a,.int .i64 b])) w':=by subst h;exact⟨rfl,hg⟩
theorem gM{l:List Ex}(h:aV l=true)(k:Nat)(hk:k<l.length):aL (l.getD k default)=true:=by
 by_cases hf:aL (l.getD k default)=true
 ·exact hf
 ·rw [q9 l k hk (by simpa using hf)]at h;cases h
theorem qA{e:Ex}(h:aL e=true)(h1:¬e.op=1)(h2:¬e.op=2)(h3:¬e.op=3):(e.args.length:Int)=aX e.op/\4<=e.op/\e.op<=21/\aV e.args=true:=by
 rw [eT,Bool.and_eq_true,decide_eq_true_eq,if_neg h1,if_neg h2,if_neg h3,Bool.and_eq_true]at h;have hop:4<=e.op/\e.op<=21:=by have ha:=h.1;unfold aX at ha;(repeat' split at ha)<;>omega
 exact⟨h.1,hop.1,hop.2,h.2.1⟩
abbrev A9(env:List (ByteArray × Int))(e:Ex):Int:=(aD env e).1
abbrev o8(env:List (ByteArray × Int))(e:Ex):Int:=(aD env e).2
abbrev fH(env:List (ByteArray × Int))(e:Ex)(k:Nat):List Int:=(e.args.take k).map (A9 env)
theorem uD(env:List (ByteArray × Int))(e:Ex)(k:Nat)(hk:k<e.args.length):fH env e (k+1)=fH env e k++[A9 env (e.arg k)]:=by
 unfold fH;rw [take_succ_eq_append_getElem hk,map_append]
 congr 1
 show [A9 env e.args[k]]= [A9 env (e.args.getD k default)];rw [getD_eq_getElem?_getD,getElem?_eq_getElem hk];rfl
theorem Dw(env:List (ByteArray × Int))(e:Ex)(h1:¬e.op=1)(h2:¬e.op=2)(h3:¬e.op=3)(hok:∀j,j<e.args.length->o8 env (e.arg j)=0) :
 aD env e=if ax e.op (fH env e e.args.length)=0 then(0,6)else(ax e.op (fH env e e.args.length),0):=by
 rw [iI,wF env e.args hok];unfold fA fH;rw [if_neg h1,if_neg h3,if_neg h2,if_neg zg,take_length]
theorem xK(env:List (ByteArray × Int))(e:Ex)(h1:¬e.op=1)(h2:¬e.op=2)(h3:¬e.op=3)(k:Nat)(hk:k<e.args.length)(hj:∀j,j<k->o8 env (e.arg j)=0)(hb:o8 env (e.arg k)≠0):aD env e=(0,o8 env (e.arg k)):=by
 have:=uu env e.args k hk hj hb;rw [iI];unfold fA;have hb2:(aW env e.args).2≠0:=by rw [this];exact hb
 rw [if_neg h1,if_neg h3,if_neg h2,if_pos hb2,this];rfl
theorem bQ{w:World}{base:Nat}{e:TypeId}{size:Nat}{v:Value}{n:Nat}{xs:List Value}(h:w.ownsRow base e size v n xs){w':World}(hg:w.Grows w'):w'.ownsRow base e size v n xs:=
 jf h fun k _ hk=>hg.below.block k hk
theorem Oz:(prog.info? 3).map (fun i=>(i.zero,i.size,i.bytes))=some (some (.int .i64 0),1,8):=by kernel_rfl
theorem ma(env:List (ByteArray × Int))(e:Ex)(a:Option Addr)(cap:Nat)(ve:Value)(w:World)(hv:aU w ve env)(ho:e.op=1\/e.op=2\/e.op=3):(Calls prog 111 #[exV e (.slice a e.args.length cap),ve] w (jh (aD env e) w)):=by
 have HV:=zh hv;obtain⟨-,ae,ce,rfl,-⟩:=hv;have HF:=zh (iI env e);unfold fA at HF;have HL:=zh (Aw env e.name);have HC:Hid (∀w',w.Grows w'->Calls prog 138 #[.string e.name,.slice ae env.length ce] w' (LkP env e.name w')):=zh (fun w' hg=>Dj e.name env _ w' (HV.out.grows hg));unfold LkP at HC;rcases ho with ho|ho|ho
 ·go_enter func111,ntmps111
  go_wp2_with fail
  go_returns
  exact kI (by rw [HF.out,if_pos ho]) (.of_below af)
 ·cases hb:(l6 env e.name).2
  all_goals
   rw [hb]at HC;have HB:=zh hb;clear hb;generalize hm:(l6 env e.name).1=m at HC;have HM:=zh hm;clear hm
   go_enter func111,ntmps111
   go_wp2_with (go_at_call 138;refine(HC.out _ (.of_below af)).mono ?_;rintro e' w' ⟨rfl,bs,d,rfl⟩)
   go_returns
   exact kI (by rw [HF.out,if_neg ze,if_neg ze,if_pos ho,HL.out,HB.out];first|(rw [if_pos rfl,HM.out];done)|(rw [if_neg zg];done)) (.of_below af)
 ·go_enter func111,ntmps111
  exact Qh
theorem A8(S:Nat->Prop)(env:List (ByteArray × Int))(hE:fV env=true)(n:Nat):∀(e:Ex),e.size<=n->aL e=true->∀(v ve:Value) (w:World),aC S w e v->aU w ve env->
 Calls prog 111 #[exV e v,ve] w (jh (aD env e) w):=by
 induction n with
 |zero=>intro e he;have:=e.size_pos;omega
 |succ n ih=>
  intro e he hf v ve w h hv;have HR:=zh h;have HV:=zh hv;have hrng:=h.rng;obtain⟨a,cap,rfl⟩:=h.form0;by_cases h1:e.op=1
  ·exact ma env e a cap ve w hv (.inl h1)
  by_cases h2:e.op=2
  ·exact ma env e a cap ve w hv (.inr (.inl h2))
  by_cases h3:e.op=3
  ·exact ma env e a cap ve w hv (.inr (.inr h3))
  obtain⟨hal,ho4,ho21,hfs⟩:=qA hf h1 h2 h3;have hn3:e.args.length<=3/\1<=e.args.length:=by unfold aX at hal;(repeat' split at hal)<;>omega
  have HOK:=zh (Dw env e h1 h2 h3);have HBAD:=zh (xK env e h1 h2 h3);have HOP:=zh (And.intro hal (And.intro ho4 ho21))
  have IH:Hid (∀k,k<e.args.length->∀ak ck w',w.Grows w'->aC S w' (e.arg k) (.slice ak (e.arg k).args.length ck)->Calls prog 111 #[exV (e.arg k) (.slice ak (e.arg k).args.length ck),ve] w' (jh (aD env (e.arg k)) w')):=
   zh (fun k hk ak ck w' hg hr=>by
    have hsm:=e.size_arg k hk
    exact ih (e.arg k) ze (gM hfs k hk) _ ve w' hr (HV.out.grows hg))
  have HDM:Hid (∀k,k<e.args.length->o8 env (e.arg k)=0->1<=A9 env (e.arg k)):=zh (fun k hk hc=>(qp hE (e.arg k) (gM hfs k hk) hc).1);unfold jh at IH;obtain⟨-,ae,ce,rfl,-⟩:=hv;have p1:(e.op==1)=false:=by simpa using h1
  have p2:(e.op==2)=false:=by simpa using h2
  have p3:(e.op==3)=false:=by simpa using h3
  clear h ih hE hf hfs hal ho4 ho21 he h1 h2 h3;obtain⟨i0,hi,hz0,hz1,hz2⟩:=info_parts Oz
  go_enter func111,ntmps111
  go_wp2_with fail
  go_loopw [8,38] (fun v8 v38 wr=>∃k:Nat,k<=e.args.length/\v38= .int .i64 k/\Hid (∀j,j<k->o8 env (e.arg j)=0)/\Below (w.heap.size+1) (w.alloc (.cells #[.int .i64 e.op,.int .i64 e.num,.int .i64 e.den,.int .i64 e.dim,.string e.name,.slice a e.args.length cap] 51)) wr/\wr.ownsRow (w.heap.size+1) 3 1 v8 k ((fH env e k).map (Value.int .i64))) (fun _ v38 _=>e.args.length-(intOf v38).toNat)
  case atStart=>exact⟨0,by omega,rfl,zh (fun j hj=>by omega),.refl _ _,World.ownsRow_nil _ _ _ _⟩
  case round=>
   obtain⟨k,hk,rfl,hno,hB,hown⟩:=hrel;have hsW:w.heap.size+1<=wr.heap.size:=by have:=hB.size;simpa using this
   have hbox:wr.cell? ⟨w.heap.size,0,none⟩=some (.int .i64 e.op):=by
    rw [hB.cell (p:=⟨w.heap.size,0,none⟩) zg,World.cell?_alloc_at _ _ _ _ rfl];rfl
   have hG:w.Grows wr:=.of_below ((((Below.refl _ _).alloc (Nat.le_refl _) _)).trans (hB.mono ze));have HB:=zh hB;have HO:=zh hown;have HG:=zh hG;by_cases hlt:k<e.args.length
   ·have hRk:=HR.out.grows hG
    cases hRk with
    |mk _ _ _ vs hr hc hs=>
     rcases hc with h0|⟨b,off,rfl,-,hbw,hx⟩
     ·omega
     ·have hR:=hs k hlt;obtain⟨x0,x1,x2,x3,x4,x5⟩:=hx k hlt;obtain⟨ak,ck,hvk⟩:=hR.form0;rw [hvk]at x5 hR;have HRK:=zh hR;have hcall:=fun w' hg hg2=>IH.out k hlt ak ck w' hg (HRK.out.grows hg2);have HNX:=zh (uD env e k hlt);have HKL:=zh hlt;have HBK:=zh (fun hj hb=>HBAD.out k hlt hj hb);have d1:(k:Int)<(e.args.length:Int):=by omega
      clear hx hs hr hvk hG hB hown hR;unfold exV at hcall;obtain⟨x,hxe⟩:∃x,e.arg k=x:=⟨_,rfl⟩;rw [hxe]at hcall x0 x1 x2 x3 x4 x5 HNX HBK;have HXE:=zh hxe;clear hxe;have HCL:=zh hcall;clear hcall;obtain⟨q,hq⟩:∃q,aD env x=q:=⟨_,rfl⟩;unfold o8 at HBK;unfold A9 at HNX;rw [hq]at HCL HBK HNX;have HQ:=zh hq;clear hq;obtain⟨qd,qc⟩:=q;dsimp only at HCL HBK HNX;by_cases hqc:qc=0
      ·subst hqc
       go_wp2_with (first
        |(go_at_call 111;refine(HCL.out _ (World.Grows.trans HG.out (.of_below af)) (.of_below af)).mono ?_;rintro e' w' ⟨rfl,bs,d,rfl⟩)
        |(at_builtin;refine wpList_append_own _ rfl _ _ 24 rfl (w.heap.size+1) 3 i0 (.int .i64 0) 1 8 underlying24 hi hz0 hz1 hz2 rfl zo _ _ _ rfl ((bQ (HO.out.alloc _) ⟨bs,d,rfl⟩).alloc _) ⟨wr.heap.size+1+bs.size,0,none⟩ 1 1 [.int .i64 qd] rfl rfl ?c1 ?c2 ?c3 ?c4 ?c5 ?_))
       case c1=>exact aR _ [.int .i64 qd] _ _ zg
       case c2=>intro u hu;simp at hu;subst hu;rfl
       case c3=>unfold maxLen;omega
       case c4=>omega
       case c5=>simp;omega
       intro v' w1 hown' hgrow _;have HB1:=zh ((show Below (w.heap.size+1) (w.alloc (.cells #[.int .i64 e.op,.int .i64 e.num,.int .i64 e.den,.int .i64 e.dim,.string e.name,.slice (some ⟨b,off,none⟩) e.args.length cap] 51)) _ from by have:=HB.out;(exact af)).grown hgrow zp (fun k hk=>(HO.out.lt k hk).1));have HO1:=zh hown';clear hown' hgrow
       go_wp2_with fail
       go_roundw
       case rel=>exact⟨k+1,HKL.out,by go_num,zh (fun j hj=>by
        by_cases ej:j=k
        ·subst ej;unfold o8;rw [HXE.out,HQ.out]
        ·exact hno.out j ze),HB1.out,by rw [HNX.out,map_append];simpa [fH]using HO1.out⟩
       case measure=>simp [intOf];have:=HKL.out;omega
      ·have hq1:(qc !=0)=true:=by simpa using hqc
       have HQC:=zh hqc;clear hqc
       go_wp2_with (go_at_call 111;refine(HCL.out _ (World.Grows.trans HG.out (.of_below af)) (.of_below af)).mono ?_;rintro e' w' ⟨rfl,bs,d,rfl⟩)
       go_returns
       exact kI (HBK.out hno.out HQC.out) (World.Grows.trans HG.out (.of_below af))
   ·obtain rfl:k=e.args.length:=by omega
    have hd:=HOK.out hno.out;have hdl:(fH env e e.args.length).length=e.args.length:=by simp [fH]
    obtain⟨-,⟨_,h0⟩|⟨g,gc,cu,rfl,hbg,-⟩⟩:=hown
    ·omega
    have hres:=Jr e.op (fH env e e.args.length) (w.heap.size+1) g gc wr HOP.out.2.1 HOP.out.2.2 (by rw [hdl];exact HOP.out.1) (fun y hy=>by
     obtain⟨t,ht,rfl⟩:=mem_map.1 hy;rw [take_length]at ht;obtain⟨j,hj,rfl⟩:=mem_iff_getElem.1 ht;have:=HDM.out j hj (hno.out j hj);unfold Ex.arg at this;rw [getD_eq_getElem?_getD,getElem?_eq_getElem hj]at this
     exact this) (by rw [hdl];exact HO.out)
    rw [hdl]at hres;obtain⟨R,hR⟩:∃R,ax e.op (fH env e e.args.length)=R:=⟨_,rfl⟩;rw [hR]at hres hd;have HD:=zh hd;unfold gq at hres;clear hB hG hR hd hdl;by_cases hR0:R=0
    ·subst hR0;have HRS:=zh hres;clear hres
     go_wp2_with (go_at_call 139;refine(HRS.out).mono ?_;rintro e' w' ⟨⟨m,rfl,-⟩,bs,d,rfl⟩)
     go_returns
     exact kI (by rw [HD.out];simp) (World.Grows.trans HG.out (.of_below af))
    ·rw [decide_eq_true hR0]at hres;have HRS:=zh hres;have HR0:=zh hR0;clear hres hR0
     go_wp2_with (go_at_call 139;refine(HRS.out).mono ?_;rintro e' w' ⟨⟨m,rfl,hm⟩,bs,d,rfl⟩;obtain rfl:=hm HR0.out;clear hm)
     go_returns
     exact kI (by rw [HD.out,if_neg HR0.out]) (World.Grows.trans HG.out (.of_below af))
theorem BG(l:List (ByteArray × Int)):(List.range l.length).any (fun k=>!decide (1<=bdD l k/\bdD l k<=4))=!fV l:=by
 induction l with
 |nil=>rfl
 |cons p r ih=>
  rw [length_cons,range_succ_eq_map,any_cons,any_map];unfold fV at ih ⊢;rw [all_cons,Bool.not_and,<-ih];rfl
theorem gT{e:Ex}(h:cK e=true):aL e=true:=by
 unfold cK at h;simp only [Bool.and_eq_true]at h;first|exact h.2|exact h.1.2|exact h.1
theorem mW{env:List (ByteArray × Int)}{e:Ex}(h:cK e=false\/fV env=false):aT env e=(0,1):=by
 unfold aT;rw [if_neg];rintro⟨h1,h2⟩;rcases h with h|h
 ·rw [h]at h1;cases h1
 ·rw [h]at h2;cases h2
theorem lg{env:List (ByteArray × Int)}{e:Ex}(h1:cK e=true)(h2:fV env=true):aT env e=aD env e:=by
 unfold aT;rw [if_pos ⟨h1,h2⟩]
theorem ow(S:Nat->Prop)(env:List (ByteArray × Int))(e:Ex)(v ve:Value)(w:World)(h:aC S w e v)(hbig:e.size<=2305843009213693952)(ht:Tab w)(hv:aU w ve env) :
 Calls prog 67 #[exV e v,ve] w (jh (aT env e) w):=by
 have HR:=zh h;have HV:=zh hv;have HT:=zh ht;have hrng:=h.rng;obtain⟨a,cap,rfl⟩:=h.form0
 have HVE:Hid (∀w',w.Grows w'->Calls prog 108 #[exV e (.slice a e.args.length cap)] w' fun r w''=>r= .returned (.bool (cK e))/\w'.Grows w''):=
  zh (fun w' hg=>mF S e _ w' (zh (HR.out.grows hg)) (zh hbig) (zh (HT.out.grows hg)))
 have HCB:Hid (∀w',w.Grows w'->Calls prog 109 #[ve,.func (.func 110) #[] #[]] w' fun r w''=>r= .returned (.bool (!fV env))/\w'.Grows w''):=
  zh (fun w' hg=>by
   have:=nG 110 #[] Ic env ve (fun k=>!decide (1<=bdD env k/\bdD env k<=4)) w' (HV.out.grows hg) (zh (fun k hk w2 h2=>KO _ _ w2));rw [BG]at this
   exact this)
 obtain⟨-,ae,ce,rfl,-⟩:=hv;unfold exV at HVE
 cases hve:cK e with
 |false=>
  have HF:=zh (mW (env:=env) (.inl hve));rw [hve]at HVE;clear h ht hve
  go_enter func67,ntmps67
  go_wp2_with (go_at_call 108;refine(HVE.out _ (.of_below af)).mono ?_;rintro e' w' ⟨rfl,bs,d,rfl⟩)
  go_returns
  exact kI HF.out (.of_below af)
 |true=>
  rw [hve]at HVE
  cases hde:fV env with
  |false=>
   have HF:=zh (mW (e:=e) (.inr hde));rw [hde]at HCB;clear h ht hve hde
   go_enter func67,ntmps67
   go_wp2_with (first
    |(go_at_call 108;refine(HVE.out _ (.of_below af)).mono ?_;rintro e' w' ⟨rfl,bs,d,rfl⟩)
    |(go_at_call 109;refine(HCB.out _ (.of_below af)).mono ?_;rintro e' w' ⟨rfl,bs2,d2,rfl⟩))
   go_returns
   exact kI HF.out (.of_below af)
  |true=>
   have HF:=zh (lg hve hde);rw [hde]at HCB
   have HI:Hid (∀w',w.Grows w'->Calls prog 111 #[exV e (.slice a e.args.length cap),.slice ae env.length ce] w' (jh (aD env e) w')):=
    zh (fun w' hg=>A8 S env hde e.size e (Nat.le_refl _) (gT hve) _ _ w' (HR.out.grows hg) (HV.out.grows hg))
   unfold jh exV at HI;clear h ht hve hde;rw [HF.out];generalize aD env e=q at *
   go_enter func67,ntmps67
   go_wp2_with (first
    |(go_at_call 108;refine(HVE.out _ (.of_below af)).mono ?_;rintro e' w' ⟨rfl,bs,d,rfl⟩)
    |(go_at_call 109;refine(HCB.out _ (.of_below af)).mono ?_;rintro e' w' ⟨rfl,bs2,d2,rfl⟩)
    |(go_at_call 111;refine(HI.out _ (.of_below af)).mono ?_;rintro e' w' ⟨rfl,bs3,d3,rfl⟩))
   go_returns
   exact kI rfl (.of_below af)
theorem q8(env:List (ByteArray × Int))(e:Ex)(a:Option Addr)(cap:Nat)(ve:Value)(w:World)(hv:aU w ve env)(ho:e.op=1\/e.op=3):(Calls prog 119 #[exV e (.slice a e.args.length cap),ve] w (jh (aD env e) w)):=by
 obtain⟨-,ae,ce,rfl,-⟩:=hv;have HF:=zh (iI env e);unfold fA at HF;rcases ho with ho|ho
 ·go_enter func119,ntmps119
  go_wp2_with fail
  go_returns
  exact kI (by rw [HF.out,if_pos ho]) (.of_below af)
 ·go_enter func119,ntmps119
  exact Qh
theorem A7(env:List (ByteArray × Int))(e:Ex)(a:Option Addr)(cap:Nat)(ve:Value)(w:World)(hv:aU w ve env)(ho:e.op=2):(Calls prog 119 #[exV e (.slice a e.args.length cap),ve] w (jh (aD env e) w)):=by
 have HV:=zh hv;obtain⟨hl1000,ae,ce,rfl,-⟩:=hv;have HF:Hid (aD env e=eF env e.name):=zh (by rw [iI];unfold fA;rw [if_neg ze,if_neg ze,if_pos ho]);have HI:=zh (gJ e.name);unfold eF at HF;have p1:(e.op==1)=false:=by rw [ho];rfl
 have p2:(e.op==2)=true:=by rw [ho];rfl
 have p3:(e.op==3)=false:=by rw [ho];rfl
 clear ho;by_cases hd:bT e.name.toList=0
 ·rw [if_neg ze]at HF;rw [hd]at HI;clear hd
  go_enter func119,ntmps119
  go_wp2_with (go_at_call 49;refine(HI.out _).mono ?_;rintro e' w' ⟨rfl,rfl⟩)
  go_loopw [8] (fun v8 wr=>∃k:Nat,k<=env.length/\v8= .int .i64 ((env.length:Int)-1-k)/\Hid (∀j,j<env.length->env.length<=j+k->bdN env j≠e.name)/\Below (w.heap.size+1) ((w.alloc (.cells #[.int .i64 e.op,.int .i64 e.num,.int .i64 e.den,.int .i64 e.dim,.string e.name,.slice a e.args.length cap] 51))) wr) (fun v8 _=>(intOf v8+1).toNat)
  case atStart=>exact⟨0,by omega,by simp,zh (fun j hj _=>by omega),.refl _ _⟩
  case round=>
   obtain⟨k,hk,rfl,hno,hB⟩:=hrel;have HB:=zh hB;have hG:w.Grows wr:=.of_below ((((Below.refl _ _).alloc (Nat.le_refl _) _)).trans (hB.mono ze));have HG:=zh hG
   have hbox:wr.cell? ⟨w.heap.size,4,none⟩=some (.string e.name):=by
    rw [hB.cell (p:=⟨w.heap.size,4,none⟩) zg,World.cell?_alloc_at _ _ _ _ rfl];rfl
   by_cases hlt:k<env.length
   ·obtain⟨-,a',c',hvv,hx⟩:=HV.out.grows hG;simp only [Value.slice.injEq,true_and]at hvv;obtain⟨rfl,rfl⟩:=hvv;rcases hx with h0|⟨b,off,rfl,hbw,hx⟩
    ·omega
    obtain⟨i,hi⟩:∃i:Nat,(env.length:Int)-1-k=i:=⟨env.length-1-k,by omega⟩;have hii:i<env.length:=by omega
    obtain⟨x0,x1⟩:=hx i hii;have d1:(i:Int)<(env.length:Int):=by omega
    have d0:(0:Int)<=(i:Int):=by omega
    rw [hi];have HIX:=zh (And.intro hi (And.intro hii hlt));have HSM:=zh (fun he hl=>jB env e.name i (ByteArray.empty,0) hii he hl);clear hx hi hii hlt hB hG;obtain⟨nk,hnk⟩:∃nk,bdN env i=nk:=⟨_,rfl⟩;obtain⟨dk,hdk⟩:∃dk,bdD env i=dk:=⟨_,rfl⟩;rw [hnk]at x0;rw [hdk]at x1;have HNK:=zh hnk;have HDK:=zh hdk;clear hnk hdk;by_cases he:nk=e.name
    ·have he2:(nk.toList==e.name.toList)=true:=by rw [he];simp
     have HE:=zh he;clear he
     go_wp2_with fail
     go_region
     go_wp2_with fail
     go_returns
     exact kI (by
      have:=HSM.out (by show bdN env i=e.name;rw [HNK.out];exact HE.out) (fun j h1 h2=>hno.out j h2 (by have:=HIX.out.1;omega));rw [HF.out,this];show(bdD env i,(0:Int))=_
      rw [HDK.out]) (World.Grows.trans HG.out (.of_below af))
    ·have he2:(nk.toList==e.name.toList)=false:=by
      rw [beq_eq_false_iff_ne];exact fun h=>he (toList_inj h)
     have HE:=zh he;clear he
     go_wp2_with fail
     go_region
     go_wp2_with fail
     go_roundw
     case rel=>exact⟨k+1,HIX.out.2.2,by have:=HIX.out.1;first|(congr 1;omega)|(simp;omega),zh (fun j hj hjk=>by
      by_cases ej:j=i
      ·subst ej;rw [HNK.out];exact HE.out
      ·exact hno.out j hj (by have:=HIX.out.1;omega)),by have:=HB.out;(exact af)⟩
     case measure=>first|(simp [intOf];done)|(simp [intOf];have:=HIX.out.2.2;omega)|(simp [intOf];have:=HIX.out.1;omega)
   ·obtain rfl:k=env.length:=by omega
    have hz:(env.length:Int)-1-env.length= -1:=by omega
    rw [hz];clear hz hB hG
    go_wp2_with fail
    go_returns
    exact kI (by
     have:=jC env e.name (ByteArray.empty,0) (fun j hj=>hno.out j hj ze)
     rw [HF.out,this]) (World.Grows.trans HG.out (.of_below af))
 ·rw [if_pos hd]at HF;rw [decide_eq_true hd]at HI;clear hd;generalize bT e.name.toList=D at *
  go_enter func119,ntmps119
  go_wp2_with (go_at_call 49;refine(HI.out _).mono ?_;rintro e' w' ⟨rfl,rfl⟩)
  go_returns
  exact kI HF.out (.of_below af)
theorem AZ(S:Nat->Prop)(env:List (ByteArray × Int))(hE:fV env=true)(n:Nat):∀(e:Ex),e.size<=n->aL e=true->∀(v ve:Value) (w:World),aC S w e v->aU w ve env->
 Calls prog 119 #[exV e v,ve] w (jh (aD env e) w):=by
 induction n with
 |zero=>intro e he;have:=e.size_pos;omega
 |succ n ih=>
  intro e he hf v ve w h hv;have HR:=zh h;have HV:=zh hv;have hrng:=h.rng;obtain⟨a,cap,rfl⟩:=h.form0;by_cases h1:e.op=1
  ·exact q8 env e a cap ve w hv (.inl h1)
  by_cases h2:e.op=2
  ·exact A7 env e a cap ve w hv h2
  by_cases h3:e.op=3
  ·exact q8 env e a cap ve w hv (.inr h3)
  obtain⟨hal,ho4,ho21,hfs⟩:=qA hf h1 h2 h3;have hn3:e.args.length<=3/\1<=e.args.length:=by unfold aX at hal;(repeat' split at hal)<;>omega
  have HOK:=zh (Dw env e h1 h2 h3);have HBAD:=zh (xK env e h1 h2 h3);have HOP:=zh (And.intro hal (And.intro ho4 ho21))
  have IH:Hid (∀k,k<e.args.length->∀ak ck w',w.Grows w'->aC S w' (e.arg k) (.slice ak (e.arg k).args.length ck)->Calls prog 119 #[exV (e.arg k) (.slice ak (e.arg k).args.length ck),ve] w' (jh (aD env (e.arg k)) w')):=
   zh (fun k hk ak ck w' hg hr=>by
    have hsm:=e.size_arg k hk
    exact ih (e.arg k) ze (gM hfs k hk) _ ve w' hr (HV.out.grows hg))
  have HDM:Hid (∀k,k<e.args.length->o8 env (e.arg k)=0->1<=A9 env (e.arg k)):=zh (fun k hk hc=>(qp hE (e.arg k) (gM hfs k hk) hc).1);unfold jh at IH;obtain⟨-,ae,ce,rfl,-⟩:=hv;have p1:(e.op==1)=false:=by simpa using h1
  have p2:(e.op==2)=false:=by simpa using h2
  have p3:(e.op==3)=false:=by simpa using h3
  clear h ih hE hf hfs hal ho4 ho21 he h1 h2 h3;obtain⟨i0,hi,hz0,hz1,hz2⟩:=info_parts Oz
  go_enter func119,ntmps119
  go_wp2_with fail
  go_loopw [9,10] (fun v8 v38 wr=>∃k:Nat,k<=e.args.length/\v38= .int .i64 k/\Hid (∀j,j<k->o8 env (e.arg j)=0)/\Below (w.heap.size+1) (w.alloc (.cells #[.int .i64 e.op,.int .i64 e.num,.int .i64 e.den,.int .i64 e.dim,.string e.name,.slice a e.args.length cap] 51)) wr/\wr.ownsRow (w.heap.size+1) 3 1 v8 k ((fH env e k).map (Value.int .i64))) (fun _ v38 _=>e.args.length-(intOf v38).toNat)
  case atStart=>exact⟨0,by omega,rfl,zh (fun j hj=>by omega),.refl _ _,World.ownsRow_nil _ _ _ _⟩
  case round=>
   obtain⟨k,hk,rfl,hno,hB,hown⟩:=hrel;have hsW:w.heap.size+1<=wr.heap.size:=by have:=hB.size;simpa using this
   have hbox:wr.cell? ⟨w.heap.size,0,none⟩=some (.int .i64 e.op):=by
    rw [hB.cell (p:=⟨w.heap.size,0,none⟩) zg,World.cell?_alloc_at _ _ _ _ rfl];rfl
   have hbox5:wr.cell? ⟨w.heap.size,5,none⟩=some (.slice a e.args.length cap):=by
    rw [hB.cell (p:=⟨w.heap.size,5,none⟩) zg,World.cell?_alloc_at _ _ _ _ rfl];rfl
   have hG:w.Grows wr:=.of_below ((((Below.refl _ _).alloc (Nat.le_refl _) _)).trans (hB.mono ze));have HB:=zh hB;have HO:=zh hown;have HG:=zh hG;by_cases hlt:k<e.args.length
   ·have hRk:=HR.out.grows hG
    cases hRk with
    |mk _ _ _ vs hr hc hs=>
     rcases hc with h0|⟨b,off,rfl,-,hbw,hx⟩
     ·omega
     ·have hR:=hs k hlt;obtain⟨x0,x1,x2,x3,x4,x5⟩:=hx k hlt;obtain⟨ak,ck,hvk⟩:=hR.form0;rw [hvk]at x5 hR;have HRK:=zh hR;have hcall:=fun w' hg hg2=>IH.out k hlt ak ck w' hg (HRK.out.grows hg2);have HNX:=zh (uD env e k hlt);have HKL:=zh hlt;have HBK:=zh (fun hj hb=>HBAD.out k hlt hj hb);have d1:(k:Int)<(e.args.length:Int):=by omega
      clear hx hs hr hvk hG hB hown hR;unfold exV at hcall;obtain⟨x,hxe⟩:∃x,e.arg k=x:=⟨_,rfl⟩;rw [hxe]at hcall x0 x1 x2 x3 x4 x5 HNX HBK;have HXE:=zh hxe;clear hxe;have HCL:=zh hcall;clear hcall;obtain⟨q,hq⟩:∃q,aD env x=q:=⟨_,rfl⟩;unfold o8 at HBK;unfold A9 at HNX;rw [hq]at HCL HBK HNX;have HQ:=zh hq;clear hq;obtain⟨qd,qc⟩:=q;dsimp only at HCL HBK HNX;by_cases hqc:qc=0
      ·subst hqc
       go_wp2_with (first
        |(go_at_call 119;refine(HCL.out _ (World.Grows.trans HG.out (.of_below af)) (.of_below af)).mono ?_;rintro e' w' ⟨rfl,bs,d,rfl⟩)
        |(at_builtin;refine wpList_append_own _ rfl _ _ 24 rfl (w.heap.size+1) 3 i0 (.int .i64 0) 1 8 underlying24 hi hz0 hz1 hz2 rfl zo _ _ _ rfl ((bQ HO.out ⟨bs,d,rfl⟩).alloc _) ⟨wr.heap.size+bs.size,0,none⟩ 1 1 [.int .i64 qd] rfl rfl ?c1 ?c2 ?c3 ?c4 ?c5 ?_))
       case c1=>exact aR _ [.int .i64 qd] _ _ zg
       case c2=>intro u hu;simp at hu;subst hu;rfl
       case c3=>unfold maxLen;omega
       case c4=>omega
       case c5=>simp;omega
       intro v' w1 hown' hgrow _;have HB1:=zh ((show Below (w.heap.size+1) (w.alloc (.cells #[.int .i64 e.op,.int .i64 e.num,.int .i64 e.den,.int .i64 e.dim,.string e.name,.slice (some ⟨b,off,none⟩) e.args.length cap] 51)) _ from by have:=HB.out;(exact af)).grown hgrow zp (fun k hk=>(HO.out.lt k hk).1));have HO1:=zh hown';clear hown' hgrow
       go_wp2_with fail
       go_roundw
       case rel=>exact⟨k+1,HKL.out,by go_num,zh (fun j hj=>by
        by_cases ej:j=k
        ·subst ej;unfold o8;rw [HXE.out,HQ.out]
        ·exact hno.out j ze),HB1.out,by rw [HNX.out,map_append];simpa [fH]using HO1.out⟩
       case measure=>simp [intOf];have:=HKL.out;omega
      ·have hq1:(qc !=0)=true:=by simpa using hqc
       have HQC:=zh hqc;clear hqc
       go_wp2_with (go_at_call 119;refine(HCL.out _ (World.Grows.trans HG.out (.of_below af)) (.of_below af)).mono ?_;rintro e' w' ⟨rfl,bs,d,rfl⟩)
       go_returns
       exact kI (HBK.out hno.out HQC.out) (World.Grows.trans HG.out (.of_below af))
   ·obtain rfl:k=e.args.length:=by omega
    have hd:=HOK.out hno.out;have hdl:(fH env e e.args.length).length=e.args.length:=by simp [fH]
    obtain⟨-,⟨_,h0⟩|⟨g,gc,cu,rfl,hbg,-⟩⟩:=hown
    ·omega
    have hres:=sV e.op (fH env e e.args.length) (w.heap.size+1) g gc wr HOP.out.2.1 HOP.out.2.2 (by rw [hdl];exact HOP.out.1) (fun y hy=>by
     obtain⟨t,ht,rfl⟩:=mem_map.1 hy;rw [take_length]at ht;obtain⟨j,hj,rfl⟩:=mem_iff_getElem.1 ht;have:=HDM.out j hj (hno.out j hj);unfold Ex.arg at this;rw [getD_eq_getElem?_getD,getElem?_eq_getElem hj]at this
     exact this) (by rw [hdl];exact HO.out)
    rw [hdl]at hres;obtain⟨R,hR⟩:∃R,ax e.op (fH env e e.args.length)=R:=⟨_,rfl⟩;rw [hR]at hres hd;have HD:=zh hd;unfold fJ at hres;clear hB hG hR hd hdl;by_cases hR0:R=0
    ·subst hR0;have HRS:=zh hres;clear hres
     go_wp2_with (go_at_call 148;refine(HRS.out).mono ?_;rintro e' w' ⟨rfl,bs,d,rfl⟩)
     go_returns
     exact kI (by rw [HD.out];simp) (World.Grows.trans HG.out (.of_below af))
    ·have hR1:(R==0)=false:=by simpa using hR0
     have HRS:=zh hres;have HR0:=zh hR0;clear hres hR0
     go_wp2_with (go_at_call 148;refine(HRS.out).mono ?_;rintro e' w' ⟨rfl,bs,d,rfl⟩)
     go_returns
     exact kI (by rw [HD.out,if_neg HR0.out]) (World.Grows.trans HG.out (.of_below af))
theorem oq(S:Nat->Prop)(env:List (ByteArray × Int))(e:Ex)(v ve:Value)(w:World)(h:aC S w e v)(hbig:e.size<=2305843009213693952)(hv:aU w ve env) :
 Calls prog 69 #[exV e v,ve] w (jh (aT env e) w):=by
 have HR:=zh h;have HV:=zh hv;have hrng:=h.rng;obtain⟨a,cap,rfl⟩:=h.form0
 have HVE:Hid (∀w',w.Grows w'->Calls prog 35 #[exV e (.slice a e.args.length cap)] w' fun r w''=>r= .returned (.bool (cK e))/\w'.Grows w''):=
  zh (fun w' hg=>ku S e _ w' (zh (HR.out.grows hg)) (zh hbig))
 have HDA:=zh (BG env);obtain⟨hl1000,ae,ce,rfl,-⟩:=hv;unfold exV at HVE
 cases hve:cK e with
 |false=>
  have HF:=zh (mW (env:=env) (.inl hve));rw [hve]at HVE;clear h hve
  go_enter func69,ntmps69
  go_wp2_with (go_at_call 35;refine(HVE.out _ (.of_below af)).mono ?_;rintro e' w' ⟨rfl,bs,d,rfl⟩)
  go_returns
  exact kI HF.out (.of_below af)
 |true=>
  rw [hve]at HVE;have HNO:=zh (fun h=>mW (env:=env) (e:=e) (.inr h));have HYES:=zh (fun h=>lg (env:=env) hve h)
  have HI:Hid (fV env=true->∀w',w.Grows w'->Calls prog 119 #[exV e (.slice a e.args.length cap),.slice ae env.length ce] w' (jh (aD env e) w')):=
   zh (fun hde w' hg=>AZ S env hde e.size e (Nat.le_refl _) (gT hve) _ _ w' (HR.out.grows hg) (HV.out.grows hg))
  unfold jh exV at HI;clear h hve
  go_enter func69,ntmps69
  go_wp2_with (go_at_call 35;refine(HVE.out _ (.of_below af)).mono ?_;rintro e' w' ⟨rfl,bs,d,rfl⟩)
  go_loopw [6] (fun v6 wr=>∃k:Nat,k<=env.length/\v6= .int .i64 k/\Hid (∀j,j<k->1<=bdD env j/\bdD env j<=4)/\Below (w.heap.size+1) ((w.alloc (.cells #[.int .i64 e.op,.int .i64 e.num,.int .i64 e.den,.int .i64 e.dim,.string e.name,.slice a e.args.length cap] 51))) wr) (fun v6 _=>env.length-(intOf v6).toNat)
  case atStart=>exact⟨0,by omega,rfl,zh (fun j hj=>by omega),by(exact af)⟩
  case round=>
   obtain⟨k,hk,rfl,hno,hB⟩:=hrel;have HB:=zh hB;have hG:w.Grows wr:=.of_below ((((Below.refl _ _).alloc (Nat.le_refl _) _)).trans (hB.mono ze));have HG:=zh hG;by_cases hlt:k<env.length
   ·obtain⟨-,a',c',hvv,hx⟩:=HV.out.grows hG;simp only [Value.slice.injEq,true_and]at hvv;obtain⟨rfl,rfl⟩:=hvv;rcases hx with h0|⟨b,off,rfl,hbw,hx⟩
    ·omega
    obtain⟨x0,x1⟩:=hx k hlt;have d1:(k:Int)<(env.length:Int):=by omega
    have HKL:=zh hlt;clear hx hB hG hlt;obtain⟨dk,hdk⟩:∃dk,bdD env k=dk:=⟨_,rfl⟩;rw [hdk]at x1;have HDK:=zh hdk;clear hdk;by_cases hc:1<=dk/\dk<=4
    ·obtain⟨hc1,hc2⟩:=hc
     go_wp2_with fail
     go_roundw
     case rel=>exact⟨k+1,HKL.out,by go_num,zh (fun j hj=>by
      by_cases ej:j=k
      ·subst ej;rw [HDK.out];exact⟨hc1,hc2⟩
      ·exact hno.out j ze),by have:=HB.out;(exact af)⟩
     case measure=>simp [intOf];have:=HKL.out;omega
    ·have HC:=zh hc
     have HBAD:Hid (aT env e=(0,1)):=zh (HNO.out (by
      have:=HDA.out;rw [Bool.eq_false_iff];intro h;rw [h]at this;have h2:=(any_eq_false.1 this) k (mem_range.2 HKL.out);rw [HDK.out,decide_eq_false HC.out]at h2
      simp at h2))
     by_cases h1:dk<1
     ·clear hc
      go_wp2_with fail
      go_returns
      exact kI HBAD.out (World.Grows.trans HG.out (.of_below af))
     ·have h2:dk > 4:=by omega
      clear hc
      go_wp2_with fail
      go_returns
      exact kI HBAD.out (World.Grows.trans HG.out (.of_below af))
   ·obtain rfl:k=env.length:=by omega
    have hde:fV env=true:=by
     have:=HDA.out;rw [show(List.range env.length).any (fun k=>!decide (1<=bdD env k/\bdD env k<=4))=false from any_eq_false.2 fun j hj=>by simp [hno.out j (mem_range.1 hj)]]at this;simpa using this.symm
    have hbx:∀j u,(#[Value.int .i64 e.op,.int .i64 e.num,.int .i64 e.den,.int .i64 e.dim,.string e.name,.slice a e.args.length cap]:Array Value)[j]? =some u->wr.cell? ⟨w.heap.size,j,none⟩=some u:=fun j u hu=>by
     rw [hB.cell (p:=⟨w.heap.size,j,none⟩) zg,World.cell?_alloc_at _ _ _ _ rfl];exact hu
    have y0:=hbx 0 _ rfl;have y1:=hbx 1 _ rfl;have y2:=hbx 2 _ rfl;have y3:=hbx 3 _ rfl;have y4:=hbx 4 _ rfl;have y5:=hbx 5 _ rfl;have HI2:=zh (HI.out hde wr hG);have HY:=zh (HYES.out hde);clear hde hbx hB hG;obtain⟨q,hq⟩:∃q,aD env e=q:=⟨_,rfl⟩;rw [hq]at HI2;have HQ:=zh hq;clear hq
    go_wp2_with (go_at_call 119;refine(HI2.out).mono ?_;rintro e' w' ⟨rfl,bs3,d3,rfl⟩)
    go_returns
    exact kI (by rw [HY.out,HQ.out]) (World.Grows.trans HG.out (.of_below af))
end Go.Proofs.YtlheailebbngiaaGreatDoor
