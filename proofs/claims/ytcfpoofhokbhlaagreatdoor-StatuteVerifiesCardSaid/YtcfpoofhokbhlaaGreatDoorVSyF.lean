import Derived.Test.YtcfpoofhokbhlaaGreatDoorVTyR
set_option linter.all false
set_option maxHeartbeats 16000000
set_option maxRecDepth 1000000
namespace Go.Proofs.YtcfpoofhokbhlaaGreatDoor
open Tryz List
open Go.RowKit
def gM(e:Ex):Bool:=decide ((e.args.length:Int)=aU e.op)&&
 (if e.op=1 then dG e.num e.den e.dim&&e.name.toList.isEmpty
  else if e.op=2 then decide (e.num=0)&&decide (e.den=0)&&decide (e.dim=0)&&fq e.name
  else if e.op=3 then decide (e.dim=0)&&e.name.toList.isEmpty&&decide (e.den=1)&&decide (1<=e.num)&&decide (e.num<=45)
  else decide (e.num=0)&&decide (e.den=0)&&decide (e.dim=0)&&e.name.toList.isEmpty)
theorem CE(e:Ex):aN e=(gM e&&aX e.args):=by
 rw [eP];unfold gM;by_cases hl:(e.args.length:Int)=aU e.op
 ·rw [decide_eq_true hl,Bool.true_and,Bool.true_and]
  have nil (h:e.op=1\/e.op=2\/e.op=3):aX e.args=true:=by
   have:e.args= []:=by
    have h0:aU e.op=0:=by unfold aU;rw [if_pos ze]
    exact eq_nil_of_length_eq_zero ze
   rw [this];rfl
  by_cases o1:e.op=1
  ·rw [if_pos o1,if_pos o1,nil (.inl o1),Bool.and_true]
  ·rw [if_neg o1,if_neg o1];by_cases o2:e.op=2
   ·rw [if_pos o2,if_pos o2,nil (.inr (.inl o2)),Bool.and_true]
   ·rw [if_neg o2,if_neg o2];by_cases o3:e.op=3
    ·rw [if_pos o3,if_pos o3,nil (.inr (.inr o3)),Bool.and_true]
    ·rw [if_neg o3,if_neg o3,Bool.and_comm]
 ·rw [decide_eq_false hl];rfl
theorem Cz(l:List Ex):aX l=!(List.range l.length).any fun k=>!aN (l.getD k default):=by
 induction l with
 |nil=>rfl
 |cons e r ih=>
  rw [aX,ih,length_cons,range_succ_eq_map,any_cons,any_map];simp only [getD_cons_zero,Bool.not_or,Bool.not_not]
  congr 1
theorem Ie(e:Ex)(a:Option Addr)(cap:Nat)(w:World)(hr:jW e)(hne:¬(e.args.length:Int)=aU e.op):(Calls prog 167 #[exV e (.slice a e.args.length cap)] w fun r w'=>r= .returned (.bool (gM e))/\w.Grows w'):=by
 have HF:Hid (gM e=false):=yq (by unfold gM;rw [decide_eq_false hne,Bool.false_and]);obtain⟨on,od⟩:=hr.num;obtain⟨pn,pd⟩:=hr.den;have hsz:=hr.name;have hi:=yq (And.intro hr.num (And.intro hr.den hr.dim));clear hr;have h1:((e.args.length:Int)!=aU e.op)=true:=by simpa using hne
 clear hne
 go_enter func167,ntmps167
 go_wp2_with fail
 go_quiet ((go_at_call 180;exact Calls.quiet_eq (jK _ _)))
 exact Qs
theorem Eg(e:Ex)(a:Option Addr)(cap:Nat)(w:World)(hr:jW e)(hle:(e.args.length:Int)=aU e.op)(ho:e.op=2):(Calls prog 167 #[exV e (.slice a e.args.length cap)] w fun r w'=>r= .returned (.bool (gM e))/\w.Grows w'):=by
 have HF:Hid (gM e=(decide (e.num=0)&&decide (e.den=0)&&decide (e.dim=0)&&fq e.name)):=yq (by unfold gM;rw [decide_eq_true hle,Bool.true_and,if_neg ze,if_pos ho]);obtain⟨on,od⟩:=hr.num;obtain⟨pn,pd⟩:=hr.den;have hsz:=hr.name;have hi:=yq (And.intro hr.num (And.intro hr.den hr.dim));clear hr;have h1:((e.args.length:Int)!=aU 2)=false:=by rw [ho]at hle;simpa using hle
 clear hle;have HM:=yq (show e.name.size<=maxLen by unfold maxLen;omega)
 go_enter func167,ntmps167
 go_wp2_with fail
 go_quiet ((go_at_call 180;exact Calls.quiet_eq (jK _ _)))
 go_wp2_with (go_at_call 182;refine gw (BR _ _ HM.out) ?_)
 all_goals
  go_returns
  exact⟨au (by rw [HF.out];first|(simp [*];done)|(simp [*];rfl)),.of_below af⟩
theorem Eh(e:Ex)(a:Option Addr)(cap:Nat)(w:World)(hr:jW e)(hle:(e.args.length:Int)=aU e.op)(ho:e.op=3):(Calls prog 167 #[exV e (.slice a e.args.length cap)] w fun r w'=>r= .returned (.bool (gM e))/\w.Grows w'):=by
 have HF:Hid (gM e=(decide (e.dim=0)&&e.name.toList.isEmpty&&decide (e.den=1)&&decide (1<=e.num)&&decide (e.num<=45))):=yq (by unfold gM;rw [decide_eq_true hle,Bool.true_and,if_neg ze,if_neg ze,if_pos ho]);obtain⟨on,od⟩:=hr.num;obtain⟨pn,pd⟩:=hr.den;have hsz:=hr.name;have hi:=yq (And.intro hr.num (And.intro hr.den hr.dim));clear hr;have h1:((e.args.length:Int)!=aU 3)=false:=by rw [ho]at hle;simpa using hle
 clear hle
 go_enter func167,ntmps167
 go_wp2_with fail
 go_quiet ((go_at_call 180;exact Calls.quiet_eq (jK _ _)))
 go_wp2_with fail
 all_goals
  go_returns
  exact⟨au (by rw [HF.out];first|(simp [*];done)|(simp [*];rfl)|(simp [*];intros;omega)),.of_below af⟩
theorem K5(e:Ex)(a:Option Addr)(cap:Nat)(w:World)(hr:jW e)(hle:(e.args.length:Int)=aU e.op)(o1:¬e.op=1)(o2:¬e.op=2)(o3:¬e.op=3):(Calls prog 167 #[exV e (.slice a e.args.length cap)] w fun r w'=>r= .returned (.bool (gM e))/\w.Grows w'):=by
 have HF:Hid (gM e=(decide (e.num=0)&&decide (e.den=0)&&decide (e.dim=0)&&e.name.toList.isEmpty)):=yq (by unfold gM;rw [decide_eq_true hle,Bool.true_and,if_neg o1,if_neg o2,if_neg o3]);obtain⟨on,od⟩:=hr.num;obtain⟨pn,pd⟩:=hr.den;have hsz:=hr.name;have hi:=yq (And.intro hr.num (And.intro hr.den hr.dim));clear hr;have h1:((e.args.length:Int)!=aU e.op)=false:=by simpa using hle
 have p1:(e.op==1)=false:=by simpa using o1
 have p2:(e.op==2)=false:=by simpa using o2
 have p3:(e.op==3)=false:=by simpa using o3
 clear hle o1 o2 o3
 go_enter func167,ntmps167
 go_wp2_with fail
 go_quiet ((go_at_call 180;exact Calls.quiet_eq (jK _ _)))
 go_wp2_with fail
 all_goals
  go_returns
  exact⟨au yC,.of_below af⟩
def Gz:Prop:=∀(e:Ex) (a:Option Addr) (cap:Nat) (w:World),jW e->Tab w->(e.args.length:Int)=aU e.op->e.op=1->(Calls prog 167 #[exV e (.slice a e.args.length cap)] w fun r w'=>r= .returned (.bool (gM e))/\w.Grows w')
def OkX(e:Ex):Prop:=Gz\/lZ e=true
theorem OkX.arg{e:Ex}(h:OkX e)(k:Nat)(hk:k<e.args.length):OkX (e.arg k):=h.imp id fun h=>Ih h k hk
theorem Ig(e:Ex)(a:Option Addr)(cap:Nat)(w:World)(hr:jW e)(ht:Tab w)(hx:OkX e):(Calls prog 167 #[exV e (.slice a e.args.length cap)] w fun r w'=>r= .returned (.bool (gM e))/\w.Grows w'):=by
 by_cases hle:(e.args.length:Int)=aU e.op
 ·by_cases o1:e.op=1
  ·exact hx.elim (fun h=>h e a cap w hr ht hle o1) (fun h=>absurd o1 (K8 h))
  ·by_cases o2:e.op=2
   ·exact Eg e a cap w hr hle o2
   ·by_cases o3:e.op=3
    ·exact Eh e a cap w hr hle o3
    ·exact K5 e a cap w hr hle o1 o2 o3
 ·exact Ie e a cap w hr hle
theorem IY:∀args w,(callFunc 168 args).run prog w= .ok (.enter 168 args) w:=enters_of func168 zf rfl
theorem ER(S:Nat->Prop)(n:Nat):∀(e:Ex),e.size<=n->OkX e->∀(v:Value) (w:World),aB S w e v->Tab w->
 Calls prog 161 #[exV e v] w fun r w'=>r= .returned (.bool (aN e))/\w.Grows w':=by
 induction n with
 |zero=>intro e he;have:=e.size_pos;omega
 |succ n ih=>
  intro e he hx v w h ht;have HX:=yq hx;have HR:=yq h;have HT:=yq ht;have HN:Hid (_):=yq (fun a cap w (ht:Tab w)=>Ig e a cap w h.rng ht hx);have hany:=Cz e.args;have hfn:=CE e;obtain⟨a,cap,rfl⟩:=h.form0
  have HC:Hid (∀w',w.Grows w'->Calls prog 121 #[.slice a e.args.length cap,.func (.func 168) #[] #[]] w' fun r w''=>r= .returned (.bool (!aX e.args))/\w'.Grows w''):=yq (fun w' hg=>by
   have:=nL S 168 #[] IY e (.slice a e.args.length cap) (fun k=>!aN (e.arg k)) w' (HR.out.grows hg) (yq (fun k hk ak ck w1 hg1 hR1=>by
    have hsm:=e.size_arg k hk;have IH:=yq (fun w2 h1 h2=>ih (e.arg k) ze (HX.out.arg k hk) (.slice ak (e.arg k).args.length ck) w2 h1 h2);have hT1:=yq ((HT.out.grows hg).grows hg1);have HR1:=yq hR1;dsimp only;generalize aN (e.arg k)=q at *;clear hany hfn HN HR HT hR1 ih hg hg1 HX hx;generalize e.arg k=x at *;show Calls prog 168 #[exV x (.slice ak x.args.length ck)] w1 _
    go_enter func168,ntmps168
    go_wp2_with (go_at_call 161;refine gvq (IH.out _ (HR1.out.alloc _) (hT1.out.alloc _)) ?_;intro bs d)
    go_returns
    exact⟨au rfl,.of_below af⟩))
   rw [show(List.range e.args.length).any (fun k=>!aN (e.arg k))=!aX e.args by rw [hany,Bool.not_not];rfl]at this
   exact this)
  clear hany ih h ht HX hx;generalize aX e.args=q at *;generalize gM e=p at *;have HF:=yq hfn;clear hfn;cases p
  ·go_enter func161,ntmps161
   go_wp2_with (go_at_call 167;refine gvq (HN.out _ _ _ (HT.out.alloc _)) ?_;intro bs d)
   go_returns
   exact⟨au (by rw [HF.out];rfl),.of_below af⟩
  ·go_enter func161,ntmps161
   go_wp2_with (first|(go_at_call 167;refine gvq (HN.out _ _ _ (HT.out.alloc _)) ?_;intro bs d)|(go_at_call 121;refine gvq (HC.out _ (.of_below af)) ?_;intro bs2 d2))
   go_returns
   exact⟨au (by rw [HF.out];simp),.of_below af⟩
theorem qH(S:Nat->Prop)(e:Ex)(v:Value)(w:World)(h:aB S w e v)(ht:Tab w)(hx:OkX e):Calls prog 161 #[exV e v] w fun r w'=>r= .returned (.bool (aN e))/\w.Grows w':=ER S e.size e (Nat.le_refl _) hx v w h ht
theorem pQ(S:Nat->Prop)(e:Ex)(v:Value)(w:World)(h:Hid (aB S w e v))(hbig:Hid (e.size<=2305843009213693952))(ht:Hid (Tab w))(hx:Hid (OkX e)):Calls prog 140 #[exV e v] w fun r w'=>r= .returned (.bool (cB e))/\w.Grows w':=by
 obtain⟨a,cap,hv⟩:=h.out.form0;subst hv;by_cases c1:(e.depth:Int)<=10
 ·by_cases c2:(e.size:Int)<=60
  ·go_enter func140,ntmps140
   go_wp2_with ((first|(go_at_call 159;refine gvq (mM S e.size e (Nat.le_refl _) _ _ (h.out.alloc _) hbig) ?_;intro bs d)|(go_at_call 160;refine gvq (oz S e.size e (Nat.le_refl _) _ _ ((h.out.alloc _).grow _ _) hbig) ?_;intro bs2 d2)|(go_at_call 161;refine gvq (qH S e _ _ ((h.out.alloc _).grow _ _) ((ht.out.alloc _).grow _ _) hx.out) ?_;intro bs3 d3)))
   exact Rx
  ·go_enter func140,ntmps140
   go_wp2_with ((first|(go_at_call 159;refine gvq (mM S e.size e (Nat.le_refl _) _ _ (h.out.alloc _) hbig) ?_;intro bs d)|(go_at_call 160;refine gvq (oz S e.size e (Nat.le_refl _) _ _ ((h.out.alloc _).grow _ _) hbig) ?_;intro bs2 d2)|(go_at_call 161;refine gvq (qH S e _ _ ((h.out.alloc _).grow _ _) ((ht.out.alloc _).grow _ _) hx.out) ?_;intro bs3 d3)))
   exact Ru
 ·go_enter func140,ntmps140
  go_wp2_with ((first|(go_at_call 159;refine gvq (mM S e.size e (Nat.le_refl _) _ _ (h.out.alloc _) hbig) ?_;intro bs d)|(go_at_call 160;refine gvq (oz S e.size e (Nat.le_refl _) _ _ ((h.out.alloc _).grow _ _) hbig) ?_;intro bs2 d2)|(go_at_call 161;refine gvq (qH S e _ _ ((h.out.alloc _).grow _ _) ((ht.out.alloc _).grow _ _) hx.out) ?_;intro bs3 d3)))
  exact Rw
def jR(r:Int × Int)(w:World)(e:Ending)(w':World):Prop:=e= .returned (.tuple #[.int .i64 r.1,.int .i64 r.2])/\w.Grows w'
theorem kM{r:Int × Int}{a b:Int}{w w':World}(h:r=(a,b))(hg:w.Grows w'):jR r w (.returned (.tuple #[.int .i64 a,.int .i64 b])) w':=by subst h;exact⟨rfl,hg⟩
theorem gN{l:List Ex}(h:aX l=true)(k:Nat)(hk:k<l.length):aN (l.getD k default)=true:=by
 by_cases hf:aN (l.getD k default)=true
 ·exact hf
 ·rw [rF l k hk (by simpa using hf)]at h;cases h
theorem qG{e:Ex}(h:aN e=true)(h1:¬e.op=1)(h2:¬e.op=2)(h3:¬e.op=3):(e.args.length:Int)=aU e.op/\4<=e.op/\e.op<=21/\aX e.args=true:=by
 rw [eP,Bool.and_eq_true,decide_eq_true_eq,if_neg h1,if_neg h2,if_neg h3,Bool.and_eq_true]at h;have hop:4<=e.op/\e.op<=21:=by have ha:=h.1;unfold aU at ha;(repeat' split at ha)<;>omega
 exact⟨h.1,hop.1,hop.2,h.2.1⟩
abbrev Cj(env:List (ByteArray × Int))(e:Ex):Int:=(aD env e).1
abbrev pq(env:List (ByteArray × Int))(e:Ex):Int:=(aD env e).2
abbrev fJ(env:List (ByteArray × Int))(e:Ex)(k:Nat):List Int:=(e.args.take k).map (Cj env)
theorem uT(env:List (ByteArray × Int))(e:Ex)(k:Nat)(hk:k<e.args.length):fJ env e (k+1)=fJ env e k++[Cj env (e.arg k)]:=by
 unfold fJ;rw [take_succ_eq_append_getElem hk,map_append]
 congr 1
 show [Cj env e.args[k]]= [Cj env (e.args.getD k default)];rw [getD_eq_getElem?_getD,getElem?_eq_getElem hk];rfl
theorem EJ(env:List (ByteArray × Int))(e:Ex)(h1:¬e.op=1)(h2:¬e.op=2)(h3:¬e.op=3)(hok:∀j,j<e.args.length->pq env (e.arg j)=0) :
 aD env e=if av e.op (fJ env e e.args.length)=0 then(0,6)else(av e.op (fJ env e e.args.length),0):=by
 rw [iI,wV env e.args hok];unfold fw fJ;rw [if_neg h1,if_neg h3,if_neg h2,if_neg zg,take_length]
theorem Ap(env:List (ByteArray × Int))(e:Ex)(h1:¬e.op=1)(h2:¬e.op=2)(h3:¬e.op=3)(k:Nat)(hk:k<e.args.length)(hj:∀j,j<k->pq env (e.arg j)=0)(hb:pq env (e.arg k)≠0):aD env e=(0,pq env (e.arg k)):=by
 have:=uK env e.args k hk hj hb;rw [iI];unfold fw;have hb2:(aW env e.args).2≠0:=by rw [this];exact hb
 rw [if_neg h1,if_neg h3,if_neg h2,if_pos hb2,this];rfl
theorem bK{w:World}{base:Nat}{e:TypeId}{size:Nat}{v:Value}{n:Nat}{xs:List Value}(h:w.ownsRow base e size v n xs){w':World}(hg:w.Grows w'):w'.ownsRow base e size v n xs:=
 jh h fun k _ hk=>hg.below.block k hk
theorem P7:(prog.info? 3).map (fun i=>(i.zero,i.size,i.bytes))=some (some (.int .i64 0),1,8):=by kernel_rfl
theorem mh(env:List (ByteArray × Int))(e:Ex)(a:Option Addr)(cap:Nat)(ve:Value)(w:World)(hv:aT w ve env)(ho:e.op=1\/e.op=2\/e.op=3):(Calls prog 143 #[exV e (.slice a e.args.length cap),ve] w (jR (aD env e) w)):=by
 have HV:=yq hv;obtain⟨-,ae,ce,rfl,-⟩:=hv;have HF:=yq (iI env e);unfold fw at HF;have HL:=yq (BL env e.name);have HC:Hid (∀w',w.Grows w'->Calls prog 162 #[.string e.name,.slice ae env.length ce] w' (LkP env e.name w')):=yq (fun w' hg=>Ey e.name env _ w' (HV.out.grows hg));unfold LkP at HC;rcases ho with ho|ho|ho
 ·go_enter func143,ntmps143
  go_wp2_with fail
  go_returns
  exact kM (by rw [HF.out,if_pos ho]) (.of_below af)
 ·cases hb:(l9 env e.name).2
  all_goals
   rw [hb]at HC;have HB:=yq hb;clear hb;generalize hm:(l9 env e.name).1=m at HC;have HM:=yq hm;clear hm
   go_enter func143,ntmps143
   go_wp2_with (go_at_call 162;refine gvq (HC.out _ (.of_below af)) ?_;intro bs d)
   go_returns
   exact kM (by rw [HF.out,if_neg ze,if_neg ze,if_pos ho,HL.out,HB.out];first|(rw [if_pos rfl,HM.out];done)|(rw [if_neg zg];done)) (.of_below af)
 ·go_enter func143,ntmps143
  exact Rl
theorem Ci(S:Nat->Prop)(env:List (ByteArray × Int))(hE:gm env=true)(n:Nat):∀(e:Ex),e.size<=n->aN e=true->∀(v ve:Value) (w:World),aB S w e v->aT w ve env->
 Calls prog 143 #[exV e v,ve] w (jR (aD env e) w):=by
 induction n with
 |zero=>intro e he;have:=e.size_pos;omega
 |succ n ih=>
  intro e he hf v ve w h hv;have HR:=yq h;have HV:=yq hv;have hrng:=h.rng;obtain⟨a,cap,rfl⟩:=h.form0;by_cases h1:e.op=1
  ·exact mh env e a cap ve w hv (.inl h1)
  by_cases h2:e.op=2
  ·exact mh env e a cap ve w hv (.inr (.inl h2))
  by_cases h3:e.op=3
  ·exact mh env e a cap ve w hv (.inr (.inr h3))
  obtain⟨hal,ho4,ho21,hfs⟩:=qG hf h1 h2 h3;have hn3:e.args.length<=3/\1<=e.args.length:=by unfold aU at hal;(repeat' split at hal)<;>omega
  have HOK:=yq (EJ env e h1 h2 h3);have HBAD:=yq (Ap env e h1 h2 h3);have HOP:=yq (And.intro hal (And.intro ho4 ho21))
  have IH:Hid (∀k,k<e.args.length->∀ak ck w',w.Grows w'->aB S w' (e.arg k) (.slice ak (e.arg k).args.length ck)->Calls prog 143 #[exV (e.arg k) (.slice ak (e.arg k).args.length ck),ve] w' (jR (aD env (e.arg k)) w')):=
   yq (fun k hk ak ck w' hg hr=>by
    have hsm:=e.size_arg k hk
    exact ih (e.arg k) ze (gN hfs k hk) _ ve w' hr (HV.out.grows hg))
  have HDM:Hid (∀k,k<e.args.length->pq env (e.arg k)=0->1<=Cj env (e.arg k)):=yq (fun k hk hc=>(qB hE (e.arg k) (gN hfs k hk) hc).1);unfold jR at IH;obtain⟨-,ae,ce,rfl,-⟩:=hv;have p1:(e.op==1)=false:=by simpa using h1
  have p2:(e.op==2)=false:=by simpa using h2
  have p3:(e.op==3)=false:=by simpa using h3
  clear h ih hE hf hfs hal ho4 ho21 he h1 h2 h3;obtain⟨i0,hi,hz0,hz1,hz2⟩:=info_parts P7
  go_enter func143,ntmps143
  go_wp2_with fail
  go_loopw [8,38] (fun v8 v38 wr=>∃k:Nat,k<=e.args.length/\v38= .int .i64 k/\Hid (∀j,j<k->pq env (e.arg j)=0)/\Below (w.heap.size+1) (w.alloc (.cells #[.int .i64 e.op,.int .i64 e.num,.int .i64 e.den,.int .i64 e.dim,.string e.name,.slice a e.args.length cap] 69)) wr/\wr.ownsRow (w.heap.size+1) 3 1 v8 k ((fJ env e k).map (Value.int .i64))) (fun _ v38 _=>e.args.length-(intOf v38).toNat)
  case atStart=>exact⟨0,by omega,rfl,yq (fun j hj=>by omega),.refl _ _,World.ownsRow_nil _ _ _ _⟩
  case round=>
   obtain⟨k,hk,rfl,hno,hB,hown⟩:=hrel;have hsW:w.heap.size+1<=wr.heap.size:=by have:=hB.size;simpa using this
   have hbox:wr.cell? ⟨w.heap.size,0,none⟩=some (.int .i64 e.op):=by
    rw [hB.cell (p:=⟨w.heap.size,0,none⟩) zg,World.cell?_alloc_at _ _ _ _ rfl];rfl
   have hG:w.Grows wr:=.of_below ((((Below.refl _ _).alloc (Nat.le_refl _) _)).trans (hB.mono ze));have HB:=yq hB;have HO:=yq hown;have HG:=yq hG;by_cases hlt:k<e.args.length
   ·have hRk:=HR.out.grows hG
    cases hRk with
    |mk _ _ _ vs hr hc hs=>
     rcases hc with h0|⟨b,off,rfl,-,hbw,hx⟩
     ·omega
     ·have hR:=hs k hlt;obtain⟨x0,x1,x2,x3,x4,x5⟩:=hx k hlt;obtain⟨ak,ck,hvk⟩:=hR.form0;rw [hvk]at x5 hR;have HRK:=yq hR;have hcall:=fun w' hg hg2=>IH.out k hlt ak ck w' hg (HRK.out.grows hg2);have HNX:=yq (uT env e k hlt);have HKL:=yq hlt;have HBK:=yq (fun hj hb=>HBAD.out k hlt hj hb);have d1:(k:Int)<(e.args.length:Int):=by omega
      clear hx hs hr hvk hG hB hown hR;unfold exV at hcall;obtain⟨x,hxe⟩:∃x,e.arg k=x:=⟨_,rfl⟩;rw [hxe]at hcall x0 x1 x2 x3 x4 x5 HNX HBK;have HXE:=yq hxe;clear hxe;have HCL:=yq hcall;clear hcall;obtain⟨q,hq⟩:∃q,aD env x=q:=⟨_,rfl⟩;unfold pq at HBK;unfold Cj at HNX;rw [hq]at HCL HBK HNX;have HQ:=yq hq;clear hq;obtain⟨qd,qc⟩:=q;dsimp only at HCL HBK HNX;by_cases hqc:qc=0
      ·subst hqc
       go_wp2_with (first
        |(go_at_call 143;refine gvq (HCL.out _ (World.Grows.trans HG.out (.of_below af)) (.of_below af)) ?_;intro bs d)
        |(at_builtin;refine wpList_append_own _ rfl _ _ 22 rfl (w.heap.size+1) 3 i0 (.int .i64 0) 1 8 underlying22 hi hz0 hz1 hz2 rfl zo _ _ _ rfl ((bK (HO.out.alloc _) ⟨bs,d,rfl⟩).alloc _) ⟨wr.heap.size+1+bs.size,0,none⟩ 1 1 [.int .i64 qd] rfl rfl ?c1 ?c2 ?c3 ?c4 ?c5 ?_))
       case c1=>exact aQ _ [.int .i64 qd] _ _ zg
       case c2=>intro u hu;simp at hu;subst hu;rfl
       case c3=>unfold maxLen;omega
       case c4=>omega
       case c5=>simp;omega
       intro v' w1 hown' hgrow _;have HB1:=yq ((show Below (w.heap.size+1) (w.alloc (.cells #[.int .i64 e.op,.int .i64 e.num,.int .i64 e.den,.int .i64 e.dim,.string e.name,.slice (some ⟨b,off,none⟩) e.args.length cap] 69)) _ from by have:=HB.out;(exact af)).grown hgrow zp (fun k hk=>(HO.out.lt k hk).1));have HO1:=yq hown';clear hown' hgrow
       go_wp2_with fail
       go_roundw
       case rel=>exact⟨k+1,HKL.out,by go_num,yq (fun j hj=>by
        by_cases ej:j=k
        ·subst ej;unfold pq;rw [HXE.out,HQ.out]
        ·exact hno.out j ze),HB1.out,by rw [HNX.out,map_append];simpa [fJ]using HO1.out⟩
       case measure=>simp [intOf];have:=HKL.out;omega
      ·have hq1:(qc !=0)=true:=by simpa using hqc
       have HQC:=yq hqc;clear hqc
       go_wp2_with (go_at_call 143;refine gvq (HCL.out _ (World.Grows.trans HG.out (.of_below af)) (.of_below af)) ?_;intro bs d)
       go_returns
       exact kM (HBK.out hno.out HQC.out) (World.Grows.trans HG.out (.of_below af))
   ·obtain rfl:k=e.args.length:=by omega
    have hd:=HOK.out hno.out;have hdl:(fJ env e e.args.length).length=e.args.length:=by simp [fJ]
    obtain⟨-,⟨_,h0⟩|⟨g,gc,cu,rfl,hbg,-⟩⟩:=hown
    ·omega
    have hres:=KQ e.op (fJ env e e.args.length) (w.heap.size+1) g gc wr HOP.out.2.1 HOP.out.2.2 (by rw [hdl];exact HOP.out.1) (fun y hy=>by
     obtain⟨t,ht,rfl⟩:=mem_map.1 hy;rw [take_length]at ht;obtain⟨j,hj,rfl⟩:=mem_iff_getElem.1 ht;have:=HDM.out j hj (hno.out j hj);unfold Ex.arg at this;rw [getD_eq_getElem?_getD,getElem?_eq_getElem hj]at this
     exact this) (by rw [hdl];exact HO.out)
    rw [hdl]at hres;obtain⟨R,hR⟩:∃R,av e.op (fJ env e e.args.length)=R:=⟨_,rfl⟩;rw [hR]at hres hd;have HD:=yq hd;unfold gy at hres;clear hB hG hR hd hdl;by_cases hR0:R=0
    ·subst hR0;have HRS:=yq hres;clear hres
     go_wp2_with (go_at_call 163;refine(HRS.out).mono ?_;rintro e' w' ⟨⟨m,rfl,-⟩,bs,d,rfl⟩)
     go_returns
     exact kM (by rw [HD.out];simp) (World.Grows.trans HG.out (.of_below af))
    ·rw [decide_eq_true hR0]at hres;have HRS:=yq hres;have HR0:=yq hR0;clear hres hR0
     go_wp2_with (go_at_call 163;refine(HRS.out).mono ?_;rintro e' w' ⟨⟨m,rfl,hm⟩,bs,d,rfl⟩;obtain rfl:=hm HR0.out;clear hm)
     go_returns
     exact kM (by rw [HD.out,if_neg HR0.out]) (World.Grows.trans HG.out (.of_below af))
theorem CU(l:List (ByteArray × Int)):(List.range l.length).any (fun k=>!decide (1<=bdD l k/\bdD l k<=4))=!gm l:=by
 induction l with
 |nil=>rfl
 |cons p r ih=>
  rw [length_cons,range_succ_eq_map,any_cons,any_map];unfold gm at ih ⊢;rw [all_cons,Bool.not_and,<-ih];rfl
theorem jf{e:Ex}(h:cB e=true):aN e=true:=by
 unfold cB at h;simp only [Bool.and_eq_true]at h;first|exact h.2|exact h.1.2|exact h.1
theorem ng{env:List (ByteArray × Int)}{e:Ex}(h:cB e=false\/gm env=false):aR env e=(0,1):=by
 unfold aR;rw [if_neg];rintro⟨h1,h2⟩;rcases h with h|h
 ·rw [h]at h1;cases h1
 ·rw [h]at h2;cases h2
theorem nW{env:List (ByteArray × Int)}{e:Ex}(h1:cB e=true)(h2:gm env=true):aR env e=aD env e:=by
 unfold aR;rw [if_pos ⟨h1,h2⟩]
theorem MW(S:Nat->Prop)(env:List (ByteArray × Int))(e:Ex)(v ve:Value)(w:World)(h:aB S w e v)(hbig:e.size<=2305843009213693952)(ht:Tab w)(hv:aT w ve env)(hx:Hid (OkX e)) :
 Calls prog 118 #[exV e v,ve] w (jR (aR env e) w):=by
 have HR:=yq h;have HV:=yq hv;have HT:=yq ht;have hrng:=h.rng;obtain⟨a,cap,rfl⟩:=h.form0
 have HVE:Hid (∀w',w.Grows w'->Calls prog 140 #[exV e (.slice a e.args.length cap)] w' fun r w''=>r= .returned (.bool (cB e))/\w'.Grows w''):=
  yq (fun w' hg=>pQ S e _ w' (yq (HR.out.grows hg)) (yq hbig) (yq (HT.out.grows hg)) hx)
 have HCB:Hid (∀w',w.Grows w'->Calls prog 116 #[ve,.func (.func 142) #[] #[]] w' fun r w''=>r= .returned (.bool (!gm env))/\w'.Grows w''):=
  yq (fun w' hg=>by
   have:=nM 142 #[] JE env ve (fun k=>!decide (1<=bdD env k/\bdD env k<=4)) w' (HV.out.grows hg) (yq (fun k hk w2 h2=>Mx _ _ w2));rw [CU]at this
   exact this)
 obtain⟨-,ae,ce,rfl,-⟩:=hv;unfold exV at HVE
 cases hve:cB e with
 |false=>
  have HF:=yq (ng (env:=env) (.inl hve));rw [hve]at HVE;clear h ht hve
  go_enter func118,ntmps118
  go_wp2_with (go_at_call 140;refine gvq (HVE.out _ (.of_below af)) ?_;intro bs d)
  go_returns
  exact kM HF.out (.of_below af)
 |true=>
  rw [hve]at HVE
  cases hde:gm env with
  |false=>
   have HF:=yq (ng (e:=e) (.inr hde));rw [hde]at HCB;clear h ht hve hde
   go_enter func118,ntmps118
   go_wp2_with (first
    |(go_at_call 140;refine gvq (HVE.out _ (.of_below af)) ?_;intro bs d)
    |(go_at_call 116;refine gvq (HCB.out _ (.of_below af)) ?_;intro bs2 d2))
   go_returns
   exact kM HF.out (.of_below af)
  |true=>
   have HF:=yq (nW hve hde);rw [hde]at HCB
   have HI:Hid (∀w',w.Grows w'->Calls prog 143 #[exV e (.slice a e.args.length cap),.slice ae env.length ce] w' (jR (aD env e) w')):=
    yq (fun w' hg=>Ci S env hde e.size e (Nat.le_refl _) (jf hve) _ _ w' (HR.out.grows hg) (HV.out.grows hg))
   unfold jR exV at HI;clear h ht hve hde;rw [HF.out];generalize aD env e=q at *
   go_enter func118,ntmps118
   go_wp2_with (first
    |(go_at_call 140;refine gvq (HVE.out _ (.of_below af)) ?_;intro bs d)
    |(go_at_call 116;refine gvq (HCB.out _ (.of_below af)) ?_;intro bs2 d2)
    |(go_at_call 143;refine gvq (HI.out _ (.of_below af)) ?_;intro bs3 d3))
   go_returns
   exact kM rfl (.of_below af)
theorem rE(env:List (ByteArray × Int))(e:Ex)(a:Option Addr)(cap:Nat)(ve:Value)(w:World)(hv:aT w ve env)(ho:e.op=1\/e.op=3):(Calls prog 74 #[exV e (.slice a e.args.length cap),ve] w (jR (aD env e) w)):=by
 obtain⟨-,ae,ce,rfl,-⟩:=hv;have HF:=yq (iI env e);unfold fw at HF;rcases ho with ho|ho
 ·go_enter func74,ntmps74
  go_wp2_with fail
  go_returns
  exact kM (by rw [HF.out,if_pos ho]) (.of_below af)
 ·go_enter func74,ntmps74
  exact Rl
theorem Ch(env:List (ByteArray × Int))(e:Ex)(a:Option Addr)(cap:Nat)(ve:Value)(w:World)(hv:aT w ve env)(ho:e.op=2):(Calls prog 74 #[exV e (.slice a e.args.length cap),ve] w (jR (aD env e) w)):=by
 have HV:=yq hv;obtain⟨hl1000,ae,ce,rfl,-⟩:=hv;have HF:Hid (aD env e=eu env e.name):=yq (by rw [iI];unfold fw;rw [if_neg ze,if_neg ze,if_pos ho]);have HI:=yq (gJ e.name);unfold eu at HF;have p1:(e.op==1)=false:=by rw [ho];rfl
 have p2:(e.op==2)=true:=by rw [ho];rfl
 have p3:(e.op==3)=false:=by rw [ho];rfl
 clear ho;by_cases hd:bQ e.name.toList=0
 ·rw [if_neg ze]at HF;rw [hd]at HI;clear hd
  go_enter func74,ntmps74
  go_wp2_with (go_at_call 55;refine gw (HI.out _) ?_)
  go_loopw [8] (fun v8 wr=>∃k:Nat,k<=env.length/\v8= .int .i64 ((env.length:Int)-1-k)/\Hid (∀j,j<env.length->env.length<=j+k->bdN env j≠e.name)/\Below (w.heap.size+1) ((w.alloc (.cells #[.int .i64 e.op,.int .i64 e.num,.int .i64 e.den,.int .i64 e.dim,.string e.name,.slice a e.args.length cap] 69))) wr) (fun v8 _=>(intOf v8+1).toNat)
  case atStart=>exact⟨0,by omega,by simp,yq (fun j hj _=>by omega),.refl _ _⟩
  case round=>
   obtain⟨k,hk,rfl,hno,hB⟩:=hrel;have HB:=yq hB;have hG:w.Grows wr:=.of_below ((((Below.refl _ _).alloc (Nat.le_refl _) _)).trans (hB.mono ze));have HG:=yq hG
   have hbox:wr.cell? ⟨w.heap.size,4,none⟩=some (.string e.name):=by
    rw [hB.cell (p:=⟨w.heap.size,4,none⟩) zg,World.cell?_alloc_at _ _ _ _ rfl];rfl
   by_cases hlt:k<env.length
   ·obtain⟨-,a',c',hvv,hx⟩:=HV.out.grows hG;simp only [Value.slice.injEq,true_and]at hvv;obtain⟨rfl,rfl⟩:=hvv;rcases hx with h0|⟨b,off,rfl,hbw,hx⟩
    ·omega
    obtain⟨i,hi⟩:∃i:Nat,(env.length:Int)-1-k=i:=⟨env.length-1-k,by omega⟩;have hii:i<env.length:=by omega
    obtain⟨x0,x1⟩:=hx i hii;have d1:(i:Int)<(env.length:Int):=by omega
    have d0:(0:Int)<=(i:Int):=by omega
    rw [hi];have HIX:=yq (And.intro hi (And.intro hii hlt));have HSM:=yq (fun he hl=>jC env e.name i (ByteArray.empty,0) hii he hl);clear hx hi hii hlt hB hG;obtain⟨nk,hnk⟩:∃nk,bdN env i=nk:=⟨_,rfl⟩;obtain⟨dk,hdk⟩:∃dk,bdD env i=dk:=⟨_,rfl⟩;rw [hnk]at x0;rw [hdk]at x1;have HNK:=yq hnk;have HDK:=yq hdk;clear hnk hdk;by_cases he:nk=e.name
    ·have he2:(nk.toList==e.name.toList)=true:=by rw [he];simp
     have HE:=yq he;clear he
     go_wp2_with fail
     go_region
     go_wp2_with fail
     go_returns
     exact kM (by
      have:=HSM.out (by show bdN env i=e.name;rw [HNK.out];exact HE.out) (fun j h1 h2=>hno.out j h2 (by have:=HIX.out.1;omega));rw [HF.out,this];show(bdD env i,(0:Int))=_
      rw [HDK.out]) (World.Grows.trans HG.out (.of_below af))
    ·have he2:(nk.toList==e.name.toList)=false:=by
      rw [beq_eq_false_iff_ne];exact fun h=>he (toList_inj h)
     have HE:=yq he;clear he
     go_wp2_with fail
     go_region
     go_wp2_with fail
     go_roundw
     case rel=>exact⟨k+1,HIX.out.2.2,by have:=HIX.out.1;first|(congr 1;omega)|(simp;omega),yq (fun j hj hjk=>by
      by_cases ej:j=i
      ·subst ej;rw [HNK.out];exact HE.out
      ·exact hno.out j hj (by have:=HIX.out.1;omega)),by have:=HB.out;(exact af)⟩
     case measure=>first|(simp [intOf];done)|(simp [intOf];have:=HIX.out.2.2;omega)|(simp [intOf];have:=HIX.out.1;omega)
   ·obtain rfl:k=env.length:=by omega
    have hz:(env.length:Int)-1-env.length= -1:=by omega
    rw [hz];clear hz hB hG
    go_wp2_with fail
    go_returns
    exact kM (by
     have:=jD env e.name (ByteArray.empty,0) (fun j hj=>hno.out j hj ze)
     rw [HF.out,this]) (World.Grows.trans HG.out (.of_below af))
 ·rw [if_pos hd]at HF;rw [decide_eq_true hd]at HI;clear hd;generalize bQ e.name.toList=D at *
  go_enter func74,ntmps74
  go_wp2_with (go_at_call 55;refine gw (HI.out _) ?_)
  go_returns
  exact kM HF.out (.of_below af)
theorem Cg(S:Nat->Prop)(env:List (ByteArray × Int))(hE:gm env=true)(n:Nat):∀(e:Ex),e.size<=n->aN e=true->∀(v ve:Value) (w:World),aB S w e v->aT w ve env->
 Calls prog 74 #[exV e v,ve] w (jR (aD env e) w):=by
 induction n with
 |zero=>intro e he;have:=e.size_pos;omega
 |succ n ih=>
  intro e he hf v ve w h hv;have HR:=yq h;have HV:=yq hv;have hrng:=h.rng;obtain⟨a,cap,rfl⟩:=h.form0;by_cases h1:e.op=1
  ·exact rE env e a cap ve w hv (.inl h1)
  by_cases h2:e.op=2
  ·exact Ch env e a cap ve w hv h2
  by_cases h3:e.op=3
  ·exact rE env e a cap ve w hv (.inr h3)
  obtain⟨hal,ho4,ho21,hfs⟩:=qG hf h1 h2 h3;have hn3:e.args.length<=3/\1<=e.args.length:=by unfold aU at hal;(repeat' split at hal)<;>omega
  have HOK:=yq (EJ env e h1 h2 h3);have HBAD:=yq (Ap env e h1 h2 h3);have HOP:=yq (And.intro hal (And.intro ho4 ho21))
  have IH:Hid (∀k,k<e.args.length->∀ak ck w',w.Grows w'->aB S w' (e.arg k) (.slice ak (e.arg k).args.length ck)->Calls prog 74 #[exV (e.arg k) (.slice ak (e.arg k).args.length ck),ve] w' (jR (aD env (e.arg k)) w')):=
   yq (fun k hk ak ck w' hg hr=>by
    have hsm:=e.size_arg k hk
    exact ih (e.arg k) ze (gN hfs k hk) _ ve w' hr (HV.out.grows hg))
  have HDM:Hid (∀k,k<e.args.length->pq env (e.arg k)=0->1<=Cj env (e.arg k)):=yq (fun k hk hc=>(qB hE (e.arg k) (gN hfs k hk) hc).1);unfold jR at IH;obtain⟨-,ae,ce,rfl,-⟩:=hv;have p1:(e.op==1)=false:=by simpa using h1
  have p2:(e.op==2)=false:=by simpa using h2
  have p3:(e.op==3)=false:=by simpa using h3
  clear h ih hE hf hfs hal ho4 ho21 he h1 h2 h3;obtain⟨i0,hi,hz0,hz1,hz2⟩:=info_parts P7
  go_enter func74,ntmps74
  go_wp2_with fail
  go_loopw [9,10] (fun v8 v38 wr=>∃k:Nat,k<=e.args.length/\v38= .int .i64 k/\Hid (∀j,j<k->pq env (e.arg j)=0)/\Below (w.heap.size+1) (w.alloc (.cells #[.int .i64 e.op,.int .i64 e.num,.int .i64 e.den,.int .i64 e.dim,.string e.name,.slice a e.args.length cap] 69)) wr/\wr.ownsRow (w.heap.size+1) 3 1 v8 k ((fJ env e k).map (Value.int .i64))) (fun _ v38 _=>e.args.length-(intOf v38).toNat)
  case atStart=>exact⟨0,by omega,rfl,yq (fun j hj=>by omega),.refl _ _,World.ownsRow_nil _ _ _ _⟩
  case round=>
   obtain⟨k,hk,rfl,hno,hB,hown⟩:=hrel;have hsW:w.heap.size+1<=wr.heap.size:=by have:=hB.size;simpa using this
   have hbox:wr.cell? ⟨w.heap.size,0,none⟩=some (.int .i64 e.op):=by
    rw [hB.cell (p:=⟨w.heap.size,0,none⟩) zg,World.cell?_alloc_at _ _ _ _ rfl];rfl
   have hbox5:wr.cell? ⟨w.heap.size,5,none⟩=some (.slice a e.args.length cap):=by
    rw [hB.cell (p:=⟨w.heap.size,5,none⟩) zg,World.cell?_alloc_at _ _ _ _ rfl];rfl
   have hG:w.Grows wr:=.of_below ((((Below.refl _ _).alloc (Nat.le_refl _) _)).trans (hB.mono ze));have HB:=yq hB;have HO:=yq hown;have HG:=yq hG;by_cases hlt:k<e.args.length
   ·have hRk:=HR.out.grows hG
    cases hRk with
    |mk _ _ _ vs hr hc hs=>
     rcases hc with h0|⟨b,off,rfl,-,hbw,hx⟩
     ·omega
     ·have hR:=hs k hlt;obtain⟨x0,x1,x2,x3,x4,x5⟩:=hx k hlt;obtain⟨ak,ck,hvk⟩:=hR.form0;rw [hvk]at x5 hR;have HRK:=yq hR;have hcall:=fun w' hg hg2=>IH.out k hlt ak ck w' hg (HRK.out.grows hg2);have HNX:=yq (uT env e k hlt);have HKL:=yq hlt;have HBK:=yq (fun hj hb=>HBAD.out k hlt hj hb);have d1:(k:Int)<(e.args.length:Int):=by omega
      clear hx hs hr hvk hG hB hown hR;unfold exV at hcall;obtain⟨x,hxe⟩:∃x,e.arg k=x:=⟨_,rfl⟩;rw [hxe]at hcall x0 x1 x2 x3 x4 x5 HNX HBK;have HXE:=yq hxe;clear hxe;have HCL:=yq hcall;clear hcall;obtain⟨q,hq⟩:∃q,aD env x=q:=⟨_,rfl⟩;unfold pq at HBK;unfold Cj at HNX;rw [hq]at HCL HBK HNX;have HQ:=yq hq;clear hq;obtain⟨qd,qc⟩:=q;dsimp only at HCL HBK HNX;by_cases hqc:qc=0
      ·subst hqc
       go_wp2_with (first
        |(go_at_call 74;refine gvq (HCL.out _ (World.Grows.trans HG.out (.of_below af)) (.of_below af)) ?_;intro bs d)
        |(at_builtin;refine wpList_append_own _ rfl _ _ 22 rfl (w.heap.size+1) 3 i0 (.int .i64 0) 1 8 underlying22 hi hz0 hz1 hz2 rfl zo _ _ _ rfl ((bK HO.out ⟨bs,d,rfl⟩).alloc _) ⟨wr.heap.size+bs.size,0,none⟩ 1 1 [.int .i64 qd] rfl rfl ?c1 ?c2 ?c3 ?c4 ?c5 ?_))
       case c1=>exact aQ _ [.int .i64 qd] _ _ zg
       case c2=>intro u hu;simp at hu;subst hu;rfl
       case c3=>unfold maxLen;omega
       case c4=>omega
       case c5=>simp;omega
       intro v' w1 hown' hgrow _;have HB1:=yq ((show Below (w.heap.size+1) (w.alloc (.cells #[.int .i64 e.op,.int .i64 e.num,.int .i64 e.den,.int .i64 e.dim,.string e.name,.slice (some ⟨b,off,none⟩) e.args.length cap] 69)) _ from by have:=HB.out;(exact af)).grown hgrow zp (fun k hk=>(HO.out.lt k hk).1));have HO1:=yq hown';clear hown' hgrow
       go_wp2_with fail
       go_roundw
       case rel=>exact⟨k+1,HKL.out,by go_num,yq (fun j hj=>by
        by_cases ej:j=k
        ·subst ej;unfold pq;rw [HXE.out,HQ.out]
        ·exact hno.out j ze),HB1.out,by rw [HNX.out,map_append];simpa [fJ]using HO1.out⟩
       case measure=>simp [intOf];have:=HKL.out;omega
      ·have hq1:(qc !=0)=true:=by simpa using hqc
       have HQC:=yq hqc;clear hqc
       go_wp2_with (go_at_call 74;refine gvq (HCL.out _ (World.Grows.trans HG.out (.of_below af)) (.of_below af)) ?_;intro bs d)
       go_returns
       exact kM (HBK.out hno.out HQC.out) (World.Grows.trans HG.out (.of_below af))
   ·obtain rfl:k=e.args.length:=by omega
    have hd:=HOK.out hno.out;have hdl:(fJ env e e.args.length).length=e.args.length:=by simp [fJ]
    obtain⟨-,⟨_,h0⟩|⟨g,gc,cu,rfl,hbg,-⟩⟩:=hown
    ·omega
    have hres:=tO e.op (fJ env e e.args.length) (w.heap.size+1) g gc wr HOP.out.2.1 HOP.out.2.2 (by rw [hdl];exact HOP.out.1) (fun y hy=>by
     obtain⟨t,ht,rfl⟩:=mem_map.1 hy;rw [take_length]at ht;obtain⟨j,hj,rfl⟩:=mem_iff_getElem.1 ht;have:=HDM.out j hj (hno.out j hj);unfold Ex.arg at this;rw [getD_eq_getElem?_getD,getElem?_eq_getElem hj]at this
     exact this) (by rw [hdl];exact HO.out)
    rw [hdl]at hres;obtain⟨R,hR⟩:∃R,av e.op (fJ env e e.args.length)=R:=⟨_,rfl⟩;rw [hR]at hres hd;have HD:=yq hd;unfold fK at hres;clear hB hG hR hd hdl;by_cases hR0:R=0
    ·subst hR0;have HRS:=yq hres;clear hres
     go_wp2_with (go_at_call 105;refine gvq (HRS.out) ?_;intro bs d)
     go_returns
     exact kM (by rw [HD.out];simp) (World.Grows.trans HG.out (.of_below af))
    ·have hR1:(R==0)=false:=by simpa using hR0
     have HRS:=yq hres;have HR0:=yq hR0;clear hres hR0
     go_wp2_with (go_at_call 105;refine gvq (HRS.out) ?_;intro bs d)
     go_returns
     exact kM (by rw [HD.out,if_neg HR0.out]) (World.Grows.trans HG.out (.of_below af))
theorem oF(S:Nat->Prop)(env:List (ByteArray × Int))(e:Ex)(v ve:Value)(w:World)(h:aB S w e v)(hbig:e.size<=2305843009213693952)(hv:aT w ve env) :
 Calls prog 57 #[exV e v,ve] w (jR (aR env e) w):=by
 have HR:=yq h;have HV:=yq hv;have hrng:=h.rng;obtain⟨a,cap,rfl⟩:=h.form0
 have HVE:Hid (∀w',w.Grows w'->Calls prog 25 #[exV e (.slice a e.args.length cap)] w' fun r w''=>r= .returned (.bool (cB e))/\w'.Grows w''):=
  yq (fun w' hg=>ky S e _ w' (yq (HR.out.grows hg)) (yq hbig))
 have HDA:=yq (CU env);obtain⟨hl1000,ae,ce,rfl,-⟩:=hv;unfold exV at HVE
 cases hve:cB e with
 |false=>
  have HF:=yq (ng (env:=env) (.inl hve));rw [hve]at HVE;clear h hve
  go_enter func57,ntmps57
  go_wp2_with (go_at_call 25;refine gvq (HVE.out _ (.of_below af)) ?_;intro bs d)
  go_returns
  exact kM HF.out (.of_below af)
 |true=>
  rw [hve]at HVE;have HNO:=yq (fun h=>ng (env:=env) (e:=e) (.inr h));have HYES:=yq (fun h=>nW (env:=env) hve h)
  have HI:Hid (gm env=true->∀w',w.Grows w'->Calls prog 74 #[exV e (.slice a e.args.length cap),.slice ae env.length ce] w' (jR (aD env e) w')):=
   yq (fun hde w' hg=>Cg S env hde e.size e (Nat.le_refl _) (jf hve) _ _ w' (HR.out.grows hg) (HV.out.grows hg))
  unfold jR exV at HI;clear h hve
  go_enter func57,ntmps57
  go_wp2_with (go_at_call 25;refine gvq (HVE.out _ (.of_below af)) ?_;intro bs d)
  go_loopw [6] (fun v6 wr=>∃k:Nat,k<=env.length/\v6= .int .i64 k/\Hid (∀j,j<k->1<=bdD env j/\bdD env j<=4)/\Below (w.heap.size+1) ((w.alloc (.cells #[.int .i64 e.op,.int .i64 e.num,.int .i64 e.den,.int .i64 e.dim,.string e.name,.slice a e.args.length cap] 69))) wr) (fun v6 _=>env.length-(intOf v6).toNat)
  case atStart=>exact⟨0,by omega,rfl,yq (fun j hj=>by omega),by(exact af)⟩
  case round=>
   obtain⟨k,hk,rfl,hno,hB⟩:=hrel;have HB:=yq hB;have hG:w.Grows wr:=.of_below ((((Below.refl _ _).alloc (Nat.le_refl _) _)).trans (hB.mono ze));have HG:=yq hG;by_cases hlt:k<env.length
   ·obtain⟨-,a',c',hvv,hx⟩:=HV.out.grows hG;simp only [Value.slice.injEq,true_and]at hvv;obtain⟨rfl,rfl⟩:=hvv;rcases hx with h0|⟨b,off,rfl,hbw,hx⟩
    ·omega
    obtain⟨x0,x1⟩:=hx k hlt;have d1:(k:Int)<(env.length:Int):=by omega
    have HKL:=yq hlt;clear hx hB hG hlt;obtain⟨dk,hdk⟩:∃dk,bdD env k=dk:=⟨_,rfl⟩;rw [hdk]at x1;have HDK:=yq hdk;clear hdk;by_cases hc:1<=dk/\dk<=4
    ·obtain⟨hc1,hc2⟩:=hc
     go_wp2_with fail
     go_roundw
     case rel=>exact⟨k+1,HKL.out,by go_num,yq (fun j hj=>by
      by_cases ej:j=k
      ·subst ej;rw [HDK.out];exact⟨hc1,hc2⟩
      ·exact hno.out j ze),by have:=HB.out;(exact af)⟩
     case measure=>simp [intOf];have:=HKL.out;omega
    ·have HC:=yq hc
     have HBAD:Hid (aR env e=(0,1)):=yq (HNO.out (by
      have:=HDA.out;rw [Bool.eq_false_iff];intro h;rw [h]at this;have h2:=(any_eq_false.1 this) k (mem_range.2 HKL.out);rw [HDK.out,decide_eq_false HC.out]at h2
      simp at h2))
     by_cases h1:dk<1
     ·clear hc
      go_wp2_with fail
      go_returns
      exact kM HBAD.out (World.Grows.trans HG.out (.of_below af))
     ·have h2:dk > 4:=by omega
      clear hc
      go_wp2_with fail
      go_returns
      exact kM HBAD.out (World.Grows.trans HG.out (.of_below af))
   ·obtain rfl:k=env.length:=by omega
    have hde:gm env=true:=by
     have:=HDA.out;rw [show(List.range env.length).any (fun k=>!decide (1<=bdD env k/\bdD env k<=4))=false from any_eq_false.2 fun j hj=>by simp [hno.out j (mem_range.1 hj)]]at this;simpa using this.symm
    have hbx:∀j u,(#[Value.int .i64 e.op,.int .i64 e.num,.int .i64 e.den,.int .i64 e.dim,.string e.name,.slice a e.args.length cap]:Array Value)[j]? =some u->wr.cell? ⟨w.heap.size,j,none⟩=some u:=fun j u hu=>by
     rw [hB.cell (p:=⟨w.heap.size,j,none⟩) zg,World.cell?_alloc_at _ _ _ _ rfl];exact hu
    have y0:=hbx 0 _ rfl;have y1:=hbx 1 _ rfl;have y2:=hbx 2 _ rfl;have y3:=hbx 3 _ rfl;have y4:=hbx 4 _ rfl;have y5:=hbx 5 _ rfl;have HI2:=yq (HI.out hde wr hG);have HY:=yq (HYES.out hde);clear hde hbx hB hG;obtain⟨q,hq⟩:∃q,aD env e=q:=⟨_,rfl⟩;rw [hq]at HI2;have HQ:=yq hq;clear hq
    go_wp2_with (go_at_call 74;refine gvq (HI2.out) ?_;intro bs3 d3)
    go_returns
    exact kM (by rw [HY.out,HQ.out]) (World.Grows.trans HG.out (.of_below af))
def eU(n d:Int):Bool:=ay n d&&decide (0<n/\n<=10000000000000/\d<=10000)
theorem DR{n d:Int}(h:ay n d=false):eU n d=false:=by simp [eU,h]
theorem Bg{n d:Int}(h:ay n d=true):eU n d=decide (0<n/\n<=10000000000000/\d<=10000):=by simp [eU,h]
theorem tF{n d:Int}(h:eU n d=true):0<n/\n<=10000000000000/\1<=d/\d<=10000:=by
 simp only [eU,Bool.and_eq_true,decide_eq_true_eq]at h;have:=aC h.1;omega

theorem q8(n d:Int)(w:World)(h1:-9223372036854775808<=n)(h2:n<=9223372036854775807)(h3:-9223372036854775808<=d)(h4:d<=9223372036854775807) :
 Calls prog 36 #[.agg #[.int .i64 n,.int .i64 d]] w fun e w'=>e= .returned (.bool (eU n d))/\w.Grows w':=by
 have hv:=yq (fun w=>dN n d w h1 h2 h3 h4);generalize hx:ay n d=b at *;cases b
 ·have hu:=yq (DR hx);clear hx
  go_enter func36,ntmps36
  go_wp2_with fail
  refine gvq (hv.out _) ?_;intro bs dr;clear hv
  go_wp2_with fail
  go_returns
  exact⟨au (by rw [hu.out]),.of_below af⟩
 ·have hu:Hid (eU n d=decide (0<n/\n<=10000000000000/\d<=10000)):=Bg hx;clear hx;by_cases c1:0<n
  ·by_cases c2:n<=10000000000000
   ·by_cases c3:d<=10000
    focus
     have hu:Hid (eU n d=true):=by rw [Hid,hu.out];simp;omega
    rotate_left
    focus
     have hu:Hid (eU n d=false):=by rw [Hid,hu.out];simp;omega
     have d3:decide (d<=10000)=false:=by simpa using c3
    rotate_left
    all_goals
     go_enter func36,ntmps36
     go_wp2_with fail
     refine gvq (hv.out _) ?_;intro bs dr;clear hv
     go_wp2_with fail
     go_returns
     exact⟨au (by rw [hu.out]),.of_below af⟩
   ·have hu:Hid (eU n d=false):=by rw [Hid,hu.out];simp;omega
    have d3:decide (n<=10000000000000)=false:=by simpa using c2
    go_enter func36,ntmps36
    go_wp2_with fail
    refine gvq (hv.out _) ?_;intro bs dr;clear hv
    go_wp2_with fail
    go_returns
    exact⟨au (by rw [hu.out]),.of_below af⟩
  ·have hu:Hid (eU n d=false):=by rw [Hid,hu.out];simp;omega
   have d3:decide (0<n)=false:=by simpa using c1
   go_enter func36,ntmps36
   go_wp2_with fail
   refine gvq (hv.out _) ?_;intro bs dr;clear hv
   go_wp2_with fail
   go_returns
   exact⟨au (by rw [hu.out]),.of_below af⟩

def dI(y:Nat->Int)(year:Int):Nat->Int
 |0=>-1
 |k+1=>if y k<=year/\(dI y year k<0\/y (dI y year k).toNat<y k)then(k:Int)else dI y year k

theorem qP(y:Nat->Int)(year:Int)(k:Nat):-1<=dI y year k/\dI y year k<k:=by
 induction k with
 |zero=>simp [dI]
 |succ k ih=>unfold dI;split<;>omega

def mJ(w:World)(v:Value)(n:Nat)(y nu de:Nat->Int):Prop:=
 n<=140737488355328/\∃a cap,v= .slice a n cap/\(n=0\/∃b off,a=some ⟨b,off,none⟩/\b<w.heap.size/\∀i,i<n->
  w.cell? ⟨b,off+i*3,none⟩=some (.int .i64 (y i))/\w.cell? ⟨b,off+i*3+1,none⟩=some (.int .i64 (nu i))/\w.cell? ⟨b,off+i*3+2,none⟩=some (.int .i64 (de i)))

theorem mJ.grow{w:World}{v:Value}{n:Nat}{y nu de:Nat->Int}(h:mJ w v n y nu de)(bs:Array Obj)(d:Nat):mJ (w.grow bs d) v n y nu de:=by
 obtain⟨h0,a,cap,hv,h1⟩:=h;refine⟨h0,a,cap,hv,h1.imp id ?_⟩;rintro⟨b,off,ha,hb,hc⟩;refine⟨b,off,ha,by simp;omega,fun i hi=>?_⟩;rw [World.cell?_grow _ _ _ hb,World.cell?_grow _ _ _ hb,World.cell?_grow _ _ _ hb];exact hc i hi

def fZ(y nu:Nat->Int)(year:Int)(n:Nat):Int:=if dI y year n<0 then 1 else nu (dI y year n).toNat

theorem Fj{y:Nat->Int}{year:Int}{k:Nat}(h:¬y k<=year):dI y year (k+1)=dI y year k:=by rw [dI,if_neg (by intro h1;exact h h1.1)]
theorem Fh{y:Nat->Int}{year:Int}{k m:Nat}(hm:dI y year k=m)(h:¬y m<y k):dI y year (k+1)=m:=by
 rw [dI,if_neg (by rw [hm];simp;omega),hm]
theorem Dg{y:Nat->Int}{year:Int}{k:Nat}(h:y k<=year)(hb:dI y year k= -1):dI y year (k+1)=k:=by rw [dI,if_pos ⟨h,.inl ze⟩]
theorem Df{y:Nat->Int}{year:Int}{k m:Nat}(h:y k<=year)(hm:dI y year k=m)(h2:y m<y k):dI y year (k+1)=k:=by
 rw [dI,if_pos ⟨h,.inr (by rw [hm];simpa using h2)⟩]


theorem pV(c0 c1 c2 c3 c5 c6 c7:Value)(a:Option Addr)(cap:Nat)(year:Int)(w:World) :
 Calls prog 35 #[.agg #[c0,c1,c2,c3,.slice a 0 cap,c5,c6,c7],.int .i64 year] w fun e w'=>e= .returned (.agg #[.int .i64 1,.int .i64 1])/\w.Grows w':=by
 go_enter func35,ntmps35
 go_wp2_with fail
 refine wp_loop_rounds 1 ?_;rw [rounds_succ]
 go_wp2_with fail
 go_returns
 exact⟨rfl,.of_below af⟩

theorem A8(c0 c1 c2 c3 c5 c6 c7:Value)(b off n cap:Nat)(y nu de:Nat->Int)(year:Int)(w:World)(h0:0<n)(hn:n<=140737488355328)(hb:b<w.heap.size)
 (hcs:Hid (∀i,i<n->w.cell? ⟨b,off+i*3,none⟩=some (.int .i64 (y i))/\w.cell? ⟨b,off+i*3+1,none⟩=some (.int .i64 (nu i))/\w.cell? ⟨b,off+i*3+2,none⟩=some (.int .i64 (de i)))) :
 Calls prog 35 #[.agg #[c0,c1,c2,c3,.slice (some ⟨b,off,none⟩) n cap,c5,c6,c7],.int .i64 year] w fun e w'=>e= .returned (.agg #[.int .i64 (fZ y nu year n),.int .i64 (fZ y de year n)])/\w.Grows w':=by
 have hcs2:=hcs
 go_enter func35,ntmps35
 go_wp2_with fail
 go_loopw [5,11] (fun v5 v11 wr=>∃k:Nat,k<=n/\v5= .int .i64 (dI y year k)/\v11= .int .i64 k/\
  World.Grows ((w.alloc (.cells #[c0,c1,c2,c3,.slice (some ⟨b,off,none⟩) n cap,c5,c6,c7] 36)).alloc (.cells #[.int .i64 0,.int .i64 0] 39)) wr) (fun _ v11 _=>n-(intOf v11).toNat)
 case atStart=>exact⟨0,by omega,rfl,rfl,.refl _⟩
 case round=>
  obtain⟨k,hk,rfl,rfl,bs,d,rfl⟩:=hrel;have hbd:=qP y year k;have hbn:=qP y year n;generalize hB:dI y year k=B at *;have HB:=yq hB;clear hB;by_cases hlt:k<n
  ·obtain⟨q0,q1,q2⟩:=hcs.out k hlt;by_cases t1:y k<=year
   ·by_cases t2:B<0
    ·obtain rfl:B= -1:=by omega
     have HN:=yq (Dg t1 HB.out)
     go_wp2_with fail
     go_quiet (fail)
     go_wp2_with fail
     go_roundw
     case rel=>exact⟨k+1,by omega,by rw [HN.out],by go_num,.of_below af⟩
     case measure=>simp [intOf];omega
    ·obtain⟨m,rfl⟩:=Int.eq_ofNat_of_zero_le (show 0<=B by omega);obtain⟨p0,p1,p2⟩:=hcs.out m ze;have hm0:(0:Int)<=(m:Int):=by omega
     have hm1:(m:Int)<(n:Int):=by omega
     have d2:decide ((m:Int)<0)=false:=by simp;try omega
     by_cases t3:y m<y k
     ·have HN:=yq (Df t1 HB.out t3)
      go_wp2_with fail
      go_quiet (fail)
      go_wp2_with fail
      go_roundw
      case rel=>exact⟨k+1,by omega,by rw [HN.out],by go_num,.of_below af⟩
      case measure=>simp [intOf];omega
     ·have HN:=yq (Fh HB.out t3);have d3:decide (y m<y k)=false:=by simpa using t3
      go_wp2_with fail
      go_quiet (fail)
      go_wp2_with fail
      go_roundw
      case rel=>exact⟨k+1,by omega,by rw [HN.out],by go_num,.of_below af⟩
      case measure=>simp [intOf];omega
   ·have HN:=yq ((Fj t1).trans HB.out);have d1:decide (y k<=year)=false:=by simpa using t1
    go_wp2_with fail
    go_quiet (fail)
    go_wp2_with fail
    go_roundw
    case rel=>exact⟨k+1,by omega,by rw [HN.out],by go_num,.of_below af⟩
    case measure=>simp [intOf];omega
  ·obtain rfl:k=n:=by omega
   clear hcs2;by_cases t2:B<0
   ·obtain rfl:B= -1:=by omega
    go_wp2_with fail
    go_returns
    exact⟨by simp only [fZ,HB.out];rfl,.of_below af⟩
   ·obtain⟨m,rfl⟩:=Int.eq_ofNat_of_zero_le (show 0<=B by omega);obtain⟨p0,p1,p2⟩:=hcs.out m ze;have hm0:(0:Int)<=(m:Int):=by omega
    have hm1:(m:Int)<(k:Int):=by omega
    have d2:decide ((m:Int)<0)=false:=by simp;try omega
    go_wp2_with fail
    go_returns
    exact⟨by simp only [fZ,HB.out];rfl,.of_below af⟩

theorem rU(c0 c1 c2 c3 c4 c5 c6 c7:Value)(n:Nat)(y nu de:Nat->Int)(year:Int)(w:World)(h:mJ w c4 n y nu de) :
 Calls prog 35 #[.agg #[c0,c1,c2,c3,c4,c5,c6,c7],.int .i64 year] w fun e w'=>e= .returned (.agg #[.int .i64 (fZ y nu year n),.int .i64 (fZ y de year n)])/\w.Grows w':=by
 obtain⟨hn,a,cap,rfl,h0|⟨b,off,rfl,hb,hc⟩⟩:=h
 ·subst h0;have e:∀z:Nat->Int,fZ y z year 0=1:=fun z=>by simp [fZ,dI]
  rw [e,e];exact pV c0 c1 c2 c3 c5 c6 c7 _ cap year w
 ·by_cases h0:n=0
  ·subst h0;have e:∀z:Nat->Int,fZ y z year 0=1:=fun z=>by simp [fZ,dI]
   rw [e,e];exact pV c0 c1 c2 c3 c5 c6 c7 _ cap year w
  ·exact A8 _ _ _ _ _ _ _ b off n cap y nu de year w ze hn hb hc


def rX(amount tn td fn fd:Int):Int:=(amount*(tn*fd)) / (td*fn)
def mi(amount tn td fn fd:Int):Bool:=decide (0<=amount/\amount<=1000000000000)&&eU tn td&&eU fn fd
def Ar(amount tn td fn fd:Int):Int:=if mi amount tn td fn fd=true then(if 1000000000000<rX amount tn td fn fd then 0 else rX amount tn td fn fd)else 0
def Au(amount tn td fn fd:Int):Int:=if mi amount tn td fn fd=true then(if 1000000000000<rX amount tn td fn fd then 2 else 0)else 1

theorem F8{amount tn td fn fd:Int}(h:mi amount tn td fn fd=false):Ar amount tn td fn fd=0/\Au amount tn td fn fd=1:=by simp [Ar,Au,h]
theorem Gc{amount tn td fn fd:Int}(h:mi amount tn td fn fd=true)(h2:1000000000000<rX amount tn td fn fd):Ar amount tn td fn fd=0/\Au amount tn td fn fd=2:=by simp only [Ar,Au,h,h2,if_true,and_self]
theorem F9{amount tn td fn fd:Int}(h:mi amount tn td fn fd=true)(h2:¬1000000000000<rX amount tn td fn fd):Ar amount tn td fn fd=rX amount tn td fn fd/\Au amount tn td fn fd=0:=by simp only [Ar,Au,h,h2,if_true,if_false,and_self]
def Cm(Y h q:Int):Value:=if Y<=h\/1000000000000<q then .tuple #[.int .i64 0,.int .i64 2]else .tuple #[.int .i64 q,.int .i64 0]

theorem Dv(c0 c1 c2 c3 c4 c5 c6 c7:Value)(amount year ref tn td fn fd:Int)(ut uf:Bool)(w:World)(hno:amount<0\/1000000000000<amount\/ut=false\/uf=false)
 (HT:Hid (∀w':World,w.Grows w'->Calls prog 35 #[.agg #[c0,c1,c2,c3,c4,c5,c6,c7],.int .i64 ref] w' fun e w''=>e= .returned (.agg #[.int .i64 tn,.int .i64 td])/\w'.Grows w''))
 (HF:Hid (∀w':World,w.Grows w'->Calls prog 35 #[.agg #[c0,c1,c2,c3,c4,c5,c6,c7],.int .i64 year] w' fun e w''=>e= .returned (.agg #[.int .i64 fn,.int .i64 fd])/\w'.Grows w''))
 (HU:Hid (∀w':World,Calls prog 36 #[.agg #[.int .i64 tn,.int .i64 td]] w' fun e w''=>e= .returned (.bool ut)/\w'.Grows w''))
 (HV:Hid (∀w':World,Calls prog 36 #[.agg #[.int .i64 fn,.int .i64 fd]] w' fun e w''=>e= .returned (.bool uf)/\w'.Grows w''))
 :
 Calls prog 19 #[.agg #[c0,c1,c2,c3,c4,c5,c6,c7],.int .i64 amount,.int .i64 year,.int .i64 ref] w fun e w'=>e= .returned (.tuple #[.int .i64 0,.int .i64 1])/\w.Grows w':=by
 by_cases d1:amount<0
 ·clear hno
  go_enter func19,ntmps19
  go_wp2_with fail
  apply dE 8 (6,10,.cells #[.int .i64 0,.int .i64 0] 39) (7,11,.cells #[.int .i64 0,.int .i64 0] 39) zf zf
  case hrx=>
   intro o ho ρ w;obtain rfl:=Option.some.inj ho;simp [go_sem]
  case hry=>
   intro o ho ρ w;obtain rfl:=Option.some.inj ho;simp [go_sem]
  case h1=>
   intro bs d;simp only [take_succ_cons,take_zero,map_cons,map_nil,Oper.mask];repeat(go_big_quiet_step ((go_at_call 35;first|(with_reducible exact Calls.quietM (HT.out _ (.of_below af)))|(with_reducible exact Calls.quietM (HF.out _ (.of_below af))))))
   exact wpQuiet_nil rfl
  all_goals
   intro gb1 gd1 gb2 gd2 gb gd;simp only [drop_succ_cons,drop_zero,Act.put,setIfInBounds_toArray,set_cons_zero,set_cons_succ]
  all_goals
   clear HT HF
   go_wp2_with (first|(go_at_call 36;(with_reducible refine gvq (HU.out _) ?_);intro bs dr)|(go_at_call 36;(with_reducible refine gvq (HV.out _) ?_);intro bs dr)|(go_at_call 37;(with_reducible refine gw (HM.out _) ?_))|(go_at_call 38;(with_reducible refine gvq (HD.out _) ?_);intro bs dr)|(go_at_call 99999;(with_reducible refine gvq (HQ.out _) ?_);intro bs dr))
   go_returns
   first
    |exact⟨rfl,.of_below af⟩
    |(refine⟨?_,.of_below af⟩
      unfold Cm
      split<;>first|rfl|(exfalso;omega))
 ·by_cases d2:(1000000000000:Int)<amount
  ·clear hno
   go_enter func19,ntmps19
   go_wp2_with fail
   apply dE 8 (6,10,.cells #[.int .i64 0,.int .i64 0] 39) (7,11,.cells #[.int .i64 0,.int .i64 0] 39) zf zf
   case hrx=>
    intro o ho ρ w;obtain rfl:=Option.some.inj ho;simp [go_sem]
   case hry=>
    intro o ho ρ w;obtain rfl:=Option.some.inj ho;simp [go_sem]
   case h1=>
    intro bs d;simp only [take_succ_cons,take_zero,map_cons,map_nil,Oper.mask];repeat(go_big_quiet_step ((go_at_call 35;first|(with_reducible exact Calls.quietM (HT.out _ (.of_below af)))|(with_reducible exact Calls.quietM (HF.out _ (.of_below af))))))
    exact wpQuiet_nil rfl
   all_goals
    intro gb1 gd1 gb2 gd2 gb gd;simp only [drop_succ_cons,drop_zero,Act.put,setIfInBounds_toArray,set_cons_zero,set_cons_succ]
   all_goals
    clear HT HF
    go_wp2_with (first|(go_at_call 36;(with_reducible refine gvq (HU.out _) ?_);intro bs dr)|(go_at_call 36;(with_reducible refine gvq (HV.out _) ?_);intro bs dr)|(go_at_call 37;(with_reducible refine gw (HM.out _) ?_))|(go_at_call 38;(with_reducible refine gvq (HD.out _) ?_);intro bs dr)|(go_at_call 99999;(with_reducible refine gvq (HQ.out _) ?_);intro bs dr))
    go_returns
    first
     |exact⟨rfl,.of_below af⟩
     |(refine⟨?_,.of_below af⟩
       unfold Cm
       split<;>first|rfl|(exfalso;omega))
  ·have d1':decide (amount<0)=false:=by simpa using d1
   have d2':decide ((1000000000000:Int)<amount)=false:=by simpa using d2
   cases ut
   focus
    clear hno
   rotate_left
   focus
    obtain rfl:uf=false:=by rcases hno with h|h|h|h<;>first|exact h|omega|cases h
   rotate_left
   all_goals
    go_enter func19,ntmps19
    go_wp2_with fail
    apply dE 8 (6,10,.cells #[.int .i64 0,.int .i64 0] 39) (7,11,.cells #[.int .i64 0,.int .i64 0] 39) zf zf
    case hrx=>
     intro o ho ρ w;obtain rfl:=Option.some.inj ho;simp [go_sem]
    case hry=>
     intro o ho ρ w;obtain rfl:=Option.some.inj ho;simp [go_sem]
    case h1=>
     intro bs d;simp only [take_succ_cons,take_zero,map_cons,map_nil,Oper.mask];repeat(go_big_quiet_step ((go_at_call 35;first|(with_reducible exact Calls.quietM (HT.out _ (.of_below af)))|(with_reducible exact Calls.quietM (HF.out _ (.of_below af))))))
     exact wpQuiet_nil rfl
    all_goals
     intro gb1 gd1 gb2 gd2 gb gd;simp only [drop_succ_cons,drop_zero,Act.put,setIfInBounds_toArray,set_cons_zero,set_cons_succ]
    all_goals
     clear HT HF
     go_wp2_with (first|(go_at_call 36;(with_reducible refine gvq (HU.out _) ?_);intro bs dr)|(go_at_call 36;(with_reducible refine gvq (HV.out _) ?_);intro bs dr)|(go_at_call 37;(with_reducible refine gw (HM.out _) ?_))|(go_at_call 38;(with_reducible refine gvq (HD.out _) ?_);intro bs dr)|(go_at_call 99999;(with_reducible refine gvq (HQ.out _) ?_);intro bs dr))
     go_returns
     first
      |exact⟨rfl,.of_below af⟩
      |(refine⟨?_,.of_below af⟩
        unfold Cm
        split<;>first|rfl|(exfalso;omega))
theorem AZ(c0 c1 c2 c3 c4 c5 c6 c7:Value)(amount year ref tn td fn fd X Y h l q r:Int)(ut uf:Bool)(w:World)(hut:ut=true)(huf:uf=true)
 (b1:0<=amount) (b2:amount<=1000000000000) (b3:0<tn) (b4:tn<=10000000000000) (b5:1<=td) (b6:td<=10000) (b7:0<fn) (b8:fn<=10000000000000) (b9:1<=fd) (b10:fd<=10000)
 (e1:IntKind.u64.wrap (tn*fd)=X) (e2:IntKind.u64.wrap (td*fn)=Y) (hq0:0<=q)
 (HT:Hid (∀w':World,w.Grows w'->Calls prog 35 #[.agg #[c0,c1,c2,c3,c4,c5,c6,c7],.int .i64 ref] w' fun e w''=>e= .returned (.agg #[.int .i64 tn,.int .i64 td])/\w'.Grows w''))
 (HF:Hid (∀w':World,w.Grows w'->Calls prog 35 #[.agg #[c0,c1,c2,c3,c4,c5,c6,c7],.int .i64 year] w' fun e w''=>e= .returned (.agg #[.int .i64 fn,.int .i64 fd])/\w'.Grows w''))
 (HU:Hid (∀w':World,Calls prog 36 #[.agg #[.int .i64 tn,.int .i64 td]] w' fun e w''=>e= .returned (.bool ut)/\w'.Grows w''))
 (HV:Hid (∀w':World,Calls prog 36 #[.agg #[.int .i64 fn,.int .i64 fd]] w' fun e w''=>e= .returned (.bool uf)/\w'.Grows w''))
 (HM:Hid (∀w':World,Calls prog 37 #[.int .u64 amount,.int .u64 X] w' fun e w''=>e= .returned (.tuple #[.int .u64 h,.int .u64 l])/\w'=w''))
 (HD:Hid (h<Y->∀w':World,Calls prog 38 #[.int .u64 h,.int .u64 l,.int .u64 Y] w' fun e w''=>e= .returned (.tuple #[.int .u64 q,.int .u64 r])/\w'.Grows w''))
 :
 Calls prog 19 #[.agg #[c0,c1,c2,c3,c4,c5,c6,c7],.int .i64 amount,.int .i64 year,.int .i64 ref] w fun e w'=>e= .returned (Cm Y h q)/\w.Grows w':=by
 subst hut huf;have d1':decide (amount<0)=false:=by simp;omega
 have d2':decide ((1000000000000:Int)<amount)=false:=by simp;omega
 by_cases g1:Y<=h
 ·have g1':¬h<Y:=by omega
  clear HD
  go_enter func19,ntmps19
  go_wp2_with fail
  apply dE 8 (6,10,.cells #[.int .i64 0,.int .i64 0] 39) (7,11,.cells #[.int .i64 0,.int .i64 0] 39) zf zf
  case hrx=>
   intro o ho ρ w;obtain rfl:=Option.some.inj ho;simp [go_sem]
  case hry=>
   intro o ho ρ w;obtain rfl:=Option.some.inj ho;simp [go_sem]
  case h1=>
   intro bs d;simp only [take_succ_cons,take_zero,map_cons,map_nil,Oper.mask];repeat(go_big_quiet_step ((go_at_call 35;first|(with_reducible exact Calls.quietM (HT.out _ (.of_below af)))|(with_reducible exact Calls.quietM (HF.out _ (.of_below af))))))
   exact wpQuiet_nil rfl
  all_goals
   intro gb1 gd1 gb2 gd2 gb gd;simp only [drop_succ_cons,drop_zero,Act.put,setIfInBounds_toArray,set_cons_zero,set_cons_succ]
  all_goals
   clear HT HF
   go_wp2_with (first|(go_at_call 36;(with_reducible refine gvq (HU.out _) ?_);intro bs dr)|(go_at_call 36;(with_reducible refine gvq (HV.out _) ?_);intro bs dr)|(go_at_call 37;(with_reducible refine gw (HM.out _) ?_))|(go_at_call 38;(with_reducible refine gvq (HD.out _) ?_);intro bs dr)|(go_at_call 99999;(with_reducible refine gvq (HQ.out _) ?_);intro bs dr))
   go_returns
   first
    |exact⟨rfl,.of_below af⟩
    |(refine⟨?_,.of_below af⟩
      unfold Cm
      split<;>first|rfl|(exfalso;omega))
 ·have g1':h<Y:=by omega
  have HD:=yq (HD.out g1');by_cases g2:1000000000000<q
  focus
   go_enter func19,ntmps19
  rotate_left
  focus
   go_enter func19,ntmps19
  rotate_left
  all_goals
   go_wp2_with fail
   apply dE 8 (6,10,.cells #[.int .i64 0,.int .i64 0] 39) (7,11,.cells #[.int .i64 0,.int .i64 0] 39) zf zf
   case hrx=>
    intro o ho ρ w;obtain rfl:=Option.some.inj ho;simp [go_sem]
   case hry=>
    intro o ho ρ w;obtain rfl:=Option.some.inj ho;simp [go_sem]
   case h1=>
    intro bs d;simp only [take_succ_cons,take_zero,map_cons,map_nil,Oper.mask];repeat(go_big_quiet_step ((go_at_call 35;first|(with_reducible exact Calls.quietM (HT.out _ (.of_below af)))|(with_reducible exact Calls.quietM (HF.out _ (.of_below af))))))
    exact wpQuiet_nil rfl
   all_goals
    intro gb1 gd1 gb2 gd2 gb gd;simp only [drop_succ_cons,drop_zero,Act.put,setIfInBounds_toArray,set_cons_zero,set_cons_succ]
   all_goals
    clear HT HF
    go_wp2_with (first|(go_at_call 36;(with_reducible refine gvq (HU.out _) ?_);intro bs dr)|(go_at_call 36;(with_reducible refine gvq (HV.out _) ?_);intro bs dr)|(go_at_call 37;(with_reducible refine gw (HM.out _) ?_))|(go_at_call 38;(with_reducible refine gvq (HD.out _) ?_);intro bs dr)|(go_at_call 99999;(with_reducible refine gvq (HQ.out _) ?_);intro bs dr))
    go_returns
    first
     |exact⟨rfl,.of_below af⟩
     |(refine⟨?_,.of_below af⟩
       unfold Cm
       split<;>first|rfl|(exfalso;omega))
end Go.Proofs.YtcfpoofhokbhlaaGreatDoor
