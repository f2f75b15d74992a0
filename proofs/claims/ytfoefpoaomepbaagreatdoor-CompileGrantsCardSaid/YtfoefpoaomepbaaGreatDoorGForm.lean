import Derived.Test.YtfoefpoaomepbaaGreatDoorGAdd
import Derived.Lib.IndexMore
import Derived.Shelf.Spec.BitsCarry
set_option linter.all false
set_option maxHeartbeats 16000000
set_option maxRecDepth 1000000
namespace Go.Proofs.YtfoefpoaomepbaaGreatDoor
open Tryz List
open Go.RowKit

theorem Calls.quiet_eq{P:Program}{f:FuncId}{args:Array Value}{w:World}{n:Nat}{v:Value}
 (h:Calls P f args (w.drewN n) fun e w'=>e= .returned v/\w.drewN n=w'):Calls P f args (w.drewN n) fun e w''=>e= .returned v/\∃m,w''=w.drewN m:=
 h.mono fun _ _ ⟨he,hm⟩=>⟨he,n,hm.symm⟩
theorem ax.form0{S:Nat->Prop}{w:World}{e:Ex}{v:Value}(h:ax S w e v):∃a cap,v= .slice a e.args.length cap:=by cases h;exact⟨_,_,rfl⟩
mutual
def ay:Ex->Bool
 | .mk o n d m s l=>decide ((l.length:Int)=aJ o)&&
  (if o=1 then aV n d m&&s.toList.isEmpty
   else if o=2 then decide (n=0)&&decide (d=0)&&decide (m=0)&&dI s
   else if o=3 then decide (m=0)&&s.toList.isEmpty&&decide (d=1)&&decide (1<=n)&&decide (n<=45)
   else aC l&&(decide (n=0)&&decide (d=0)&&decide (m=0)&&s.toList.isEmpty))
def aC:List Ex->Bool
 | []=>true
 |e::r=>ay e&&aC r
end
theorem dh(e:Ex):ay e=(decide ((e.args.length:Int)=aJ e.op)&&
 (if e.op=1 then aV e.num e.den e.dim&&e.name.toList.isEmpty
  else if e.op=2 then decide (e.num=0)&&decide (e.den=0)&&decide (e.dim=0)&&dI e.name
  else if e.op=3 then decide (e.dim=0)&&e.name.toList.isEmpty&&decide (e.den=1)&&decide (1<=e.num)&&decide (e.num<=45)
  else aC e.args&&(decide (e.num=0)&&decide (e.den=0)&&decide (e.dim=0)&&e.name.toList.isEmpty))):=by
 cases e;rw [ay];rfl
theorem vT(l:List Ex)(k:Nat)(h:k<l.length):aC (l.take (k+1))=(aC (l.take k)&&ay (l.getD k default)):=by
 induction l generalizing k with
 |nil=>simp at h
 |cons e r ih=>
  cases k with
  |zero=>simp [aC]
  |succ k=>simp only [take_succ_cons,aC,getD_cons_succ];rw [ih k zy,Bool.and_assoc]
theorem rF(l:List Ex)(k:Nat)(h:k<l.length)(hf:ay (l.getD k default)=false):aC l=false:=by
 induction l generalizing k with
 |nil=>simp at h
 |cons e r ih=>
  cases k with
  |zero=>simp only [getD_cons_zero]at hf;simp [aC,hf]
  |succ k=>simp only [getD_cons_succ]at hf;simp [aC,ih k zy hf]

theorem ER
 (S:Nat->Prop) (e:Ex) (v:Value) (w:World) (h:ax S w e v)
 (hne:¬(e.args.length:Int)=aJ e.op):(Calls prog 77 #[exV e v] w fun r w'=>r= .returned (.bool (ay e))/\w.Grows w'):=by
 have HF:Hid (ay e=false):=yq (by rw [dh,decide_eq_false hne,Bool.false_and]);have hr:=h.rng;obtain⟨a,cap,hv⟩:∃a cap,v= .slice a e.args.length cap:=by cases h;exact⟨_,_,rfl⟩
 subst hv;clear h;obtain⟨on,od⟩:=hr.num;obtain⟨pn,pd⟩:=hr.den;have hsz:=hr.name;clear hr;have h1:((e.args.length:Int)!=aJ e.op)=true:=by simpa using hne
 clear hne
 go_enter func77,ntmps77
 go_wp2_with fail
 go_quiet ((go_at_call 59;exact Calls.quiet_eq (kI _ _)))
 go_wp2_with fail
 go_returns
 exact⟨av HF.out.symm,.of_below af⟩
theorem EQ
 (S:Nat->Prop) (e:Ex) (v:Value) (w:World) (h:ax S w e v)
 (hle:(e.args.length:Int)=aJ e.op) (ho:e.op=1):(Calls prog 77 #[exV e v] w fun r w'=>r= .returned (.bool (ay e))/\w.Grows w'):=by
 have HF:Hid (ay e=(aV e.num e.den e.dim&&e.name.toList.isEmpty)):=yq (by rw [dh,decide_eq_true hle,Bool.true_and,if_pos ho]);have hr:=h.rng;obtain⟨a,cap,hv⟩:∃a cap,v= .slice a e.args.length cap:=by cases h;exact⟨_,_,rfl⟩
 subst hv;clear h;obtain⟨on,od⟩:=hr.num;obtain⟨pn,pd⟩:=hr.den;have hsz:=hr.name;clear hr;have h1:((e.args.length:Int)!=aJ 1)=false:=by rw [ho]at hle;simpa using hle
 clear hle
 go_enter func77,ntmps77
 go_wp2_with fail
 go_quiet ((go_at_call 59;exact Calls.quiet_eq (kI _ _)))
 go_wp2_with (go_at_call 91;refine gv (jJ _ _ _ _ zb zb zb zb) ?_;intro bs d;simp only [vV])
 all_goals
  go_returns
  exact⟨av yk,.of_below af⟩
theorem CV
 (S:Nat->Prop) (e:Ex) (v:Value) (w:World) (h:ax S w e v)
 (hle:(e.args.length:Int)=aJ e.op) (ho:e.op=2):(Calls prog 77 #[exV e v] w fun r w'=>r= .returned (.bool (ay e))/\w.Grows w'):=by
 have HF:Hid (ay e=(decide (e.num=0)&&decide (e.den=0)&&decide (e.dim=0)&&dI e.name)):=yq (by rw [dh,decide_eq_true hle,Bool.true_and,if_neg zb,if_pos ho]);have hr:=h.rng;obtain⟨a,cap,hv⟩:∃a cap,v= .slice a e.args.length cap:=by cases h;exact⟨_,_,rfl⟩
 subst hv;clear h;obtain⟨on,od⟩:=hr.num;obtain⟨pn,pd⟩:=hr.den;have hsz:=hr.name;clear hr;have h1:((e.args.length:Int)!=aJ 2)=false:=by rw [ho]at hle;simpa using hle
 clear hle;have hm:e.name.size<=maxLen:=by unfold maxLen;omega
 have HM:=yq hm;clear hm
 go_enter func77,ntmps77
 go_wp2_with fail
 go_quiet ((go_at_call 59;exact Calls.quiet_eq (kI _ _)))
 go_wp2_with (go_at_call 44;refine gw (oL _ _ HM.out) ?_)
 all_goals
  go_returns
  exact⟨av yk,.of_below af⟩
theorem CY
 (S:Nat->Prop) (e:Ex) (v:Value) (w:World) (h:ax S w e v)
 (hle:(e.args.length:Int)=aJ e.op) (ho:e.op=3):(Calls prog 77 #[exV e v] w fun r w'=>r= .returned (.bool (ay e))/\w.Grows w'):=by
 have HF:Hid (ay e=(decide (e.dim=0)&&e.name.toList.isEmpty&&decide (e.den=1)&&decide (1<=e.num)&&decide (e.num<=45))):=yq (by rw [dh,decide_eq_true hle,Bool.true_and,if_neg zb,if_neg zb,if_pos ho]);have hr:=h.rng;obtain⟨a,cap,hv⟩:∃a cap,v= .slice a e.args.length cap:=by cases h;exact⟨_,_,rfl⟩
 subst hv;clear h;obtain⟨on,od⟩:=hr.num;obtain⟨pn,pd⟩:=hr.den;have hsz:=hr.name;clear hr;have h1:((e.args.length:Int)!=aJ 3)=false:=by rw [ho]at hle;simpa using hle
 clear hle
 go_enter func77,ntmps77
 go_wp2_with fail
 go_quiet ((go_at_call 59;exact Calls.quiet_eq (kI _ _)))
 go_wp2_with fail
 all_goals
  go_returns
  exact⟨av (by rw [HF.out];first|(simp [*];done)|(simp [*];intros;omega)),.of_below af⟩
def fT(e:Ex)(k:Nat):Bool:=aC (e.args.take k)
theorem PI(e:Ex):fT e 0=true:=rfl
theorem PK(e:Ex)(k:Nat)(h:k<e.args.length)(h1:fT e k=true)(h2:ay (e.arg k)=true):fT e (k+1)=true:=by
 unfold fT at *;rw [vT _ _ h,h1,Bool.true_and];exact h2
theorem CS(S:Nat->Prop)(n:Nat):∀(e:Ex),e.size<=n->∀(v:Value) (w:World),ax S w e v->(Calls prog 77 #[exV e v] w fun r w'=>r= .returned (.bool (ay e))/\w.Grows w'):=by
 induction n with
 |zero=>intro e he;have:=e.size_pos;omega
 |succ n ih=>
  intro e he v w h;by_cases hle:(e.args.length:Int)=aJ e.op
  ·by_cases o1:e.op=1
   ·exact EQ S e v w h hle o1
   ·by_cases o2:e.op=2
    ·exact CV S e v w h hle o2
    ·by_cases o3:e.op=3
     ·exact CY S e v w h hle o3
     ·have HF:Hid (ay e=(aC e.args&&(decide (e.num=0)&&decide (e.den=0)&&decide (e.dim=0)&&e.name.toList.isEmpty))):=yq (by rw [dh,decide_eq_true hle,Bool.true_and,if_neg o1,if_neg o2,if_neg o3]);have IH:=yq ih;clear ih;have h1:((e.args.length:Int)!=aJ e.op)=false:=by simpa using hle
      have p1:(e.op==1)=false:=by simpa using o1
      have p2:(e.op==2)=false:=by simpa using o2
      have p3:(e.op==3)=false:=by simpa using o3
      clear hle o1 o2 o3
      cases h with
      |mk _ a cap vs hr hc hs=>
       have hlen:=hr.len;have Hs:=yq hs;have He:=yq he;have Hc:=yq hc;clear hr hs he hc;generalize hz:(decide (e.num=0)&&decide (e.den=0)&&decide (e.dim=0)&&e.name.toList.isEmpty)=z at HF;have HZ:=yq hz;clear hz
       go_enter func77,ntmps77
       go_wp2_with fail
       go_quiet ((go_at_call 59;exact Calls.quiet_eq (kI _ _)))
       go_wp2_with fail
       all_goals
        go_loopw [6] (fun v6 wr=>∃k:Nat,k<=e.args.length/\v6= .int .i64 k/\Hid (fT e k=true)/\
         ∃x1 x2 x3:Int,World.Grows (w.alloc (.cells #[.int .i64 e.op,.int .i64 x1,.int .i64 x2,.int .i64 x3,.string e.name,.slice a e.args.length cap] 27)) wr) (fun v6 _=>e.args.length-(intOf v6).toNat)
        case atStart=>exact⟨0,by omega,rfl,yq (PI e),_,_,_,.of_below af⟩
        case round=>
         obtain⟨k,hk,rfl,HT,x1,x2,x3,bs,d,rfl⟩:=hrel;by_cases hlt:k<e.args.length
         ·rcases Hc.out with h0|⟨b,off,rfl,hS,hbw,hx⟩
          ·omega
          ·obtain⟨y0,y1,y2,y3,y4,y5⟩:=hx k hlt;clear hx;have hlt1:(k:Int)<(e.args.length:Int):=by omega
           have HA:=yq (e.size_arg k hlt);cases hb:ay (e.arg k)
           ·have HB:=yq hb;clear hb
            go_wp2_with fail
            refine gv (IH.out (e.arg k) zF (vs k) _ (((Hs.out k hlt).alloc _).grow _ _)) ?_;intro bs2 d2;simp only [HB.out]
            go_wp2_with fail
            go_returns
            exact⟨av (by rw [HF.out,rF _ k hlt HB.out,Bool.false_and]),.of_below af⟩
           ·have HB:=yq hb;clear hb
            go_wp2_with fail
            refine gv (IH.out (e.arg k) zF (vs k) _ (((Hs.out k hlt).alloc _).grow _ _)) ?_;intro bs2 d2;simp only [HB.out]
            go_wp2_with fail
            go_roundw
            case rel=>exact⟨k+1,by omega,by go_num,yq (PK e k hlt HT.out HB.out),x1,x2,x3,.of_below af⟩
            case measure=>simp [intOf];omega
         ·obtain rfl:k=e.args.length:=by omega
          have HT2:Hid (aC e.args=true):=yq (by have:=HT.out;unfold fT at this;rw [take_length]at this;exact this);clear HT
          go_wp2_with fail
          go_returns
          exact⟨av (by rw [HF.out,HT2.out,Bool.true_and,<-HZ.out];simp [*]),.of_below af⟩
  ·exact ER S e v w h hle

theorem ow(S:Nat->Prop)(e:Ex)(v:Value)(w:World)(h:ax S w e v):(Calls prog 77 #[exV e v] w fun r w'=>r= .returned (.bool (ay e))/\w.Grows w'):=CS S e.size e (Nat.le_refl _) v w h
def bB(e:Ex):Bool:=decide (e.depth<=10)&&decide (e.size<=60)&&ay e
theorem iw(S:Nat->Prop)(e:Ex)(v:Value)(w:World)(h:Hid (ax S w e v))(hbig:Hid (e.size<=2305843009213693952)):Calls prog 31 #[exV e v] w fun r w'=>r= .returned (.bool (bB e))/\w.Grows w':=by
 obtain⟨a,cap,hv⟩:=h.out.form0;subst hv;by_cases c1:(e.depth:Int)<=10
 ·by_cases c2:(e.size:Int)<=60
  ·go_enter func31,ntmps31
   go_wp2_with ((first|(go_at_call 76;refine gv (kX S e.size e (Nat.le_refl _) _ _ (h.out.alloc _) hbig) ?_;intro bs d)|(go_at_call 17;refine gv (nE S e.size e (Nat.le_refl _) _ _ ((h.out.alloc _).grow _ _) hbig) ?_;intro bs2 d2)|(go_at_call 77;refine gv (ow S e _ _ ((h.out.alloc _).grow _ _)) ?_;intro bs3 d3)))
   exact Tf
  ·go_enter func31,ntmps31
   go_wp2_with ((first|(go_at_call 76;refine gv (kX S e.size e (Nat.le_refl _) _ _ (h.out.alloc _) hbig) ?_;intro bs d)|(go_at_call 17;refine gv (nE S e.size e (Nat.le_refl _) _ _ ((h.out.alloc _).grow _ _) hbig) ?_;intro bs2 d2)|(go_at_call 77;refine gv (ow S e _ _ ((h.out.alloc _).grow _ _)) ?_;intro bs3 d3)))
   exact Tc
 ·go_enter func31,ntmps31
  go_wp2_with ((first|(go_at_call 76;refine gv (kX S e.size e (Nat.le_refl _) _ _ (h.out.alloc _) hbig) ?_;intro bs d)|(go_at_call 17;refine gv (nE S e.size e (Nat.le_refl _) _ _ ((h.out.alloc _).grow _ _) hbig) ?_;intro bs2 d2)|(go_at_call 77;refine gv (ow S e _ _ ((h.out.alloc _).grow _ _)) ?_;intro bs3 d3)))
  exact Te
def FE(n:Nat)(p:Nat->Bool)(r:Int):Prop:=(r= -1/\∀k,k<n->p k=false)\/∃k:Nat,k<n/\r=k/\p k=true
theorem FE.any{n:Nat}{p:Nat->Bool}{r:Int}(h:FE n p r):decide (0<=r)=(List.range n).any p:=by
 rcases h with ⟨rfl,h⟩|⟨k,hk,rfl,hp⟩
 ·symm;rw [show decide ((0:Int)<=-1)=false by decide,Bool.eq_false_iff];intro hc;obtain⟨k,hk,hp⟩:=any_eq_true.1 hc;rw [h k (mem_range.1 hk)]at hp;cases hp
 ·rw [decide_eq_true (show(0:Int)<=k by omega)];symm;exact any_eq_true.2 ⟨k,mem_range.2 hk,hp⟩
def QO(S:Nat->Prop)(g:FuncId)(lb:Array Value)(e:Ex)(p:Nat->Bool)(w:World):Prop:=
 ∀k,k<e.args.length->∀a c w',w.Grows w'->ax S w' (e.arg k) (.slice a (e.arg k).args.length c)->Calls prog g (#[exV (e.arg k) (.slice a (e.arg k).args.length c)]++lb) w' fun r w''=>r= .returned (.bool (p k))/\w'.Grows w''
theorem ax.grows{S:Nat->Prop}{w w':World}{e:Ex}{v:Value}(h:ax S w e v)(hg:w.Grows w'):ax S w' e v:=by
 obtain⟨bs,d,rfl⟩:=hg;exact h.grow bs d
theorem Mj(S:Nat->Prop)(g:FuncId)(lb:Array Value)(eg:∀args w,(callFunc g args).run prog w= .ok (.enter g args) w)(e:Ex)(v:Value)(p:Nat->Bool)(w:World)(h:ax S w e v)(hp:Hid (QO S g lb e p w)) :
 Calls prog 174 #[v,.func (.func g) #[] lb] w fun r w'=>(∃z,r= .returned (.int .i64 z)/\FE e.args.length p z)/\w.Grows w':=by
 cases h with
 |mk _ a cap vs hr hc hs=>
  have hlen:=hr.len;have Hs:=yq hs;have Hc:=yq hc;clear hr hs hc
  go_enter func174,ntmps174
  go_wp2_with fail
  go_loopw [5,8] (fun _ v8 wr=>∃k:Nat,k<=e.args.length/\v8= .int .i64 k/\Hid (∀j,j<k->p j=false)/\w.Grows wr) (fun _ v8 _=>e.args.length-(intOf v8).toNat)
  case atStart=>exact⟨0,by omega,rfl,yq (fun j hj=>by omega),.refl _⟩
  case round=>
   obtain⟨k,hk,rfl,hno,hgr⟩:=hrel;have HG:=yq hgr;obtain⟨bs,d,rfl⟩:=hgr;by_cases hlt2:k<e.args.length
   ·rcases Hc.out with h0|⟨b,off,rfl,hg,hbw,hx⟩
    ·omega
    ·obtain⟨x0,x1,x2,x3,x4,x5⟩:=hx k hlt2;clear hx;have hR:=Hs.out k hlt2;obtain⟨ak,ck,hvk⟩:=hR.form0;rw [hvk]at x5 hR;have d1:(k:Int)<(e.args.length:Int):=by omega
     have hcall:=hp.out k hlt2 ak ck _ HG.out (hR.grow bs d);have HLT:=yq hlt2;clear hR hvk
     cases hq:p k with
     |true=>
      rw [hq]at hcall;have HQ:=yq hq;clear hq;have HCL:=yq hcall;clear hcall
      go_wp2_with (go_at_fn g;refine HCL.out.mono ?_;rintro e' w' ⟨rfl,bs2,d2,rfl⟩)
      go_returns
      exact⟨⟨_,rfl,.inr ⟨k,HLT.out,rfl,HQ.out⟩⟩,.of_below af⟩
     |false=>
      rw [hq]at hcall;have HQ:=yq hq;clear hq;have HCL:=yq hcall;clear hcall
      go_wp2_with (go_at_fn g;refine HCL.out.mono ?_;rintro e' w' ⟨rfl,bs2,d2,rfl⟩)
      go_roundw
      case rel=>exact⟨k+1,by omega,by go_num,yq (fun j hj=>by
       by_cases ej:j=k
       ·subst ej;exact HQ.out
       ·exact hno.out j zb),.of_below af⟩
      case measure=>simp [intOf];omega
   ·obtain rfl:k=e.args.length:=by omega
    go_wp2_with fail
    go_returns
    exact⟨⟨_,rfl,.inl ⟨rfl,hno.out⟩⟩,.of_below af⟩
theorem nO(S:Nat->Prop)(g:FuncId)(lb:Array Value)(eg:∀args w,(callFunc g args).run prog w= .ok (.enter g args) w)(e:Ex)(v:Value)(p:Nat->Bool)(w:World)(h:ax S w e v)(hp:Hid (QO S g lb e p w)) :
 Calls prog 135 #[v,.func (.func g) #[] lb] w fun r w'=>r= .returned (.bool ((List.range e.args.length).any p))/\w.Grows w':=by
 have HI:=yq (Mj S g lb eg e v p w h hp);obtain⟨a,cap,rfl⟩:=h.form0;clear h hp;generalize hX:(List.range e.args.length).any p=X;have HX:=yq hX;clear hX
 go_enter func135,ntmps135
 go_wp2_with (go_at_call 174;refine HI.out.mono ?_;rintro e' w' ⟨⟨z,rfl,hz⟩,bs2,d2,rfl⟩;have HZ:=yq hz.any;clear hz)
 go_returns
 exact⟨av zZ,.of_below af⟩
theorem oI(S:Nat->Prop)(n:Nat):∀(e:Ex),e.size<=n->∀(v:Value) (w:World),ax S w e v->Hid (e.size<=2305843009213693952)->
 Calls prog 85 #[exV e v] w fun r w'=>r= .returned (.int .i64 (e.size:Nat))/\w.Grows w':=by
 induction n with
 |zero=>intro e he;have:=e.size_pos;omega
 |succ n ih=>
  intro e he v w h hbig;have IH:=yq ih;clear ih
  cases h with
  |mk _ a cap vs hr hc hs=>
   have hlen:=hr.len;have Hs:=yq hs;have He:=yq he;have Hc:=yq hc;clear hr hs he hc
   go_enter func85,ntmps85
   go_wp2_with fail
   go_loopw [3,9] (fun v3 v4 wr=>∃k:Nat,k<=e.args.length/\v3= .int .i64 (szT e k)/\v4= .int .i64 k/\
    World.Grows (w.alloc (.cells #[.int .i64 e.op,.int .i64 e.num,.int .i64 e.den,.int .i64 e.dim,.string e.name,.slice a e.args.length cap] 27)) wr) (fun _ v4 _=>e.args.length-(intOf v4).toNat)
   case atStart=>exact⟨0,by omega,by rw [Bt],rfl,.refl _⟩
   case round=>
    obtain⟨k,hk,rfl,rfl,bs,d,rfl⟩:=hrel;have hb:=KJ e k;have hb0:1<=szT e k:=hb.1;have hb1:szT e k<=2305843009213693952:=by have:=hbig.out;omega
    clear hb;by_cases hlt:k<e.args.length
    ·rcases Hc.out with h0|⟨b,off,rfl,hS,hbw,hx⟩
     ·omega
     ·obtain⟨x0,x1,x2,x3,x4,x5⟩:=hx k hlt;clear hx;have hR:=Hs.out k hlt;obtain⟨ak,ck,hvk⟩:=hR.form0;rw [hvk]at x5 hR;have HR:=yq hR;clear hR hvk;have hlt1:(k:Int)<(e.args.length:Int):=by omega
      have HN:=yq (Bu e k hlt);have HA:=yq (e.size_arg k hlt);have hs1:((e.arg k).size:Int)<=2305843009213693952:=by have:=hbig.out;have:=HA.out;omega
      go_wp2_with fail
      refine gv (IH.out (e.arg k) zF (.slice ak _ ck) _ (((HR.out.alloc _).grow _ _).alloc _) yi) ?_;intro bs2 d2
      go_wp2_with fail
      go_roundw
      case rel=>exact⟨k+1,by omega,by rw [HN.out],by go_num,.of_below af⟩
      case measure=>simp [intOf];omega
    ·have HN:=yq (FN e k zb);obtain rfl:k=e.args.length:=by omega
     go_wp2_with fail
     go_returns
     exact⟨ret_int HN.out,.of_below af⟩

theorem mO(S:Nat->Prop)(n:Nat):∀(e:Ex),e.size<=n->∀(v:Value) (w:World),ax S w e v->Hid (e.size<=2305843009213693952)->
 Calls prog 84 #[exV e v] w fun r w'=>r= .returned (.int .i64 (e.depth:Nat))/\w.Grows w':=by
 induction n with
 |zero=>intro e he;have:=e.size_pos;omega
 |succ n ih=>
  intro e he v w h hbig;have IH:=yq ih;clear ih
  cases h with
  |mk _ a cap vs hr hc hs=>
   have hlen:=hr.len;have Hs:=yq hs;have He:=yq he;have Hc:=yq hc;clear hr hs he hc
   go_enter func84,ntmps84
   go_wp2_with fail
   go_loopw [3,9] (fun v3 v4 wr=>∃k:Nat,k<=e.args.length/\v3= .int .i64 (dpT e k)/\v4= .int .i64 k/\
    World.Grows (w.alloc (.cells #[.int .i64 e.op,.int .i64 e.num,.int .i64 e.den,.int .i64 e.dim,.string e.name,.slice a e.args.length cap] 27)) wr) (fun _ v4 _=>e.args.length-(intOf v4).toNat)
   case atStart=>exact⟨0,by omega,by rw [Df],rfl,.refl _⟩
   case round=>
    obtain⟨k,hk,rfl,rfl,bs,d,rfl⟩:=hrel;have hb:=MK e k;have hb0:0<=dpT e k:=hb.1;have hb1:dpT e k<=2305843009213693952:=by have:=hbig.out;omega
    clear hb;by_cases hlt:k<e.args.length
    ·rcases Hc.out with h0|⟨b,off,rfl,hS,hbw,hx⟩
     ·omega
     ·obtain⟨x0,x1,x2,x3,x4,x5⟩:=hx k hlt;clear hx;have hR:=Hs.out k hlt;obtain⟨ak,ck,hvk⟩:=hR.form0;rw [hvk]at x5 hR;have HR:=yq hR;clear hR hvk;have hlt1:(k:Int)<(e.args.length:Int):=by omega
      have HN:=yq (Dg e k hlt);have HA:=yq (e.size_arg k hlt);have hs1:((e.arg k).depth:Int)<=2305843009213693952:=by have:=hbig.out;have:=HA.out;have:=(e.arg k).depth_size;omega
      go_wp2_with fail
      refine gv (IH.out (e.arg k) zF (.slice ak _ ck) _ (((HR.out.alloc _).grow _ _).alloc _) yi) ?_;intro bs2 d2
      go_wp2_with fail
      go_roundw
      case rel=>exact⟨k+1,by omega,by rw [HN.out],by go_num,.of_below af⟩
      case measure=>simp [intOf];omega
    ·have HN:=yq (GI e k zb);obtain rfl:k=e.args.length:=by omega
     go_wp2_with fail
     go_returns
     exact⟨ret_int HN.out,.of_below af⟩
theorem dV(c:Int)(w:World):Calls prog 209 #[.int .u8 c] w fun e w'=>e= .returned (.bool (nI c))/\w=w':=by
 by_cases c1:97<=c
 ·by_cases c2:c<=122
  ·go_enter func209,ntmps209
   go_wp2
   go_returns
   exact⟨av (by simp [nI,c1,c2]),rfl⟩
  ·go_enter func209,ntmps209
   exact Pn
 ·go_enter func209,ntmps209
  exact Pn
theorem ib(c:Int)(w:World):Calls prog 213 #[.int .u8 c] w fun e w'=>e= .returned (.bool (iI c))/\w=w':=by
 by_cases c1:48<=c
 ·by_cases c2:c<=57
  ·go_enter func213,ntmps213
   go_wp2
   go_returns
   exact⟨av (by simp [iI,c1,c2]),rfl⟩
  ·go_enter func213,ntmps213
   exact Pm
 ·go_enter func213,ntmps213
  exact Pm
def AB(c:Int):Bool:=nI c || (iI c || decide (c=95))
theorem iB(c:Int)(w:World):Calls prog 210 #[.int .u8 c] w fun e w'=>e= .returned (.bool (AB c))/\w=w':=by
 cases hL:nI c
 ·cases hD:iI c
  ·by_cases hU:c=95
   ·subst hU
    go_enter func210,ntmps210
    go_wp2_with ((first|(go_at_call 209;(with_reducible refine gw (dV _ _) ?_);simp only [hL])|(go_at_call 213;(with_reducible refine gw (ib _ _) ?_);simp only [hD])))
    go_returns
    exact⟨av (by simp [AB]),rfl⟩
   ·have hU2:(c==95)=false:=by simpa using hU
    go_enter func210,ntmps210
    go_wp2_with ((first|(go_at_call 209;(with_reducible refine gw (dV _ _) ?_);simp only [hL])|(go_at_call 213;(with_reducible refine gw (ib _ _) ?_);simp only [hD])))
    go_returns
    exact⟨av (by simp [AB,hL,hD,hU]),rfl⟩
  ·go_enter func210,ntmps210
   go_wp2_with ((first|(go_at_call 209;(with_reducible refine gw (dV _ _) ?_);simp only [hL])|(go_at_call 213;(with_reducible refine gw (ib _ _) ?_);simp only [hD])))
   go_returns
   exact⟨av (by simp [AB,hD]),rfl⟩
 ·go_enter func210,ntmps210
  go_wp2_with ((first|(go_at_call 209;(with_reducible refine gw (dV _ _) ?_);simp only [hL])|(go_at_call 213;(with_reducible refine gw (ib _ _) ?_);simp only [hD])))
  go_returns
  exact⟨av (by simp [AB,hL]),rfl⟩
theorem Kn{k:Nat}{c:Int}(h:AB c=false):iJ k c=false:=by
 simp only [AB,Bool.or_eq_false_iff]at h;simp [iJ,h.1,h.2.1,h.2.2]
theorem Km{k:Nat}{c:Int}(h:AB c=true)(h0:k=0->nI c=true):iJ k c=true:=by
 unfold iJ;by_cases e:k=0
 ·simp [h0 e]
 ·have:(k !=0)=true:=by simpa using e
  rw [this,Bool.true_and];exact h
theorem DI(s:ByteArray)(w:World)(hs:s.size<=maxLen):Calls prog 200 #[.string s] w fun e w'=>e= .returned (.bool (isWord s))/\w=w':=by
 unfold maxLen at hs;have hI:True:=trivial;by_cases c1:1<=s.size
 ·by_cases c2:s.size<=12
  ·have c3:0<s.size:=by omega
   cases hL:nI (s[0].toNat:Int)
   ·go_enter func200,ntmps200
    go_wp2_with ((first|(go_at_call 209;(with_reducible refine gw (dV _ _) ?_);simp only [hL])|(go_at_call 210;(with_reducible refine gw (iB _ _) ?_);simp only [hI])))
    go_ret
    exact⟨av (ny s 0 zb (by simp [iJ,hL])).symm,rfl⟩
   ·go_enter func200,ntmps200
    go_wp2_with ((first|(go_at_call 209;(with_reducible refine gw (dV _ _) ?_);simp only [hL])|(go_at_call 210;(with_reducible refine gw (iB _ _) ?_);simp only [hI])))
    go_loop [3] (fun i=>∃k:Nat,k<=s.size/\i= .int .i64 k/\∀j,j<k->iJ j (byt s j)=true) (fun i=>s.size-(intOf i).toNat)
    case atStart=>exact⟨0,Nat.zero_le _,rfl,fun j hj=>absurd hj (Nat.not_lt_zero _)⟩
    case round=>
     obtain⟨k,hk,rfl,hall⟩:=hrel;by_cases hk2:k<s.size
     ·clear hI;cases hI:AB (s[k].toNat:Int)
      ·go_wp2_with ((first|(go_at_call 209;(with_reducible refine gw (dV _ _) ?_);simp only [hL])|(go_at_call 210;(with_reducible refine gw (iB _ _) ?_);simp only [hI])))
       go_ret
       exact⟨av (ny s k hk2 (Kn hI)).symm,rfl⟩
      ·go_wp2_with ((first|(go_at_call 209;(with_reducible refine gw (dV _ _) ?_);simp only [hL])|(go_at_call 210;(with_reducible refine gw (iB _ _) ?_);simp only [hI])))
       go_round
       case rel=>exact⟨k+1,by omega,by go_num,fun i hi=>by
        by_cases e:i=k
        ·subst e;rw [fH s i hk2];exact Km hI (fun e0=>by subst e0;exact hL)
        ·exact hall i zb⟩
       case measure=>simp [intOf];omega
     ·have:k=s.size:=by omega
      subst this
      go_wp2_with fail
      go_ret
      exact⟨av (by rw [oo s hall];simp [c1,c2]),rfl⟩
  ·have hL:True:=trivial;have hw:isWord s=false:=by unfold isWord;rw [decide_eq_false c2,Bool.and_false]
   have c4:12<(s.size:Int):=by omega
   exact Tx
 ·have hL:True:=trivial;have hw:isWord s=false:=by unfold isWord;rw [decide_eq_false c1,Bool.and_false,Bool.false_and]
  have c4:(s.size:Int)<1:=by omega
  exact Tx
theorem AA(s:ByteArray)(w:World):Calls prog 201 #[.string s] w fun e w'=>e= .returned (.bool (Pg s))/\w=w':=by
 go_enter func201,ntmps201
 exact Ta
theorem Cn(s:ByteArray)(w:World)(hs:s.size<=maxLen):Calls prog 173 #[.string s] w fun e w'=>e= .returned (.bool (dI s))/\w=w':=by
 cases hW:isWord s<;>
 ·go_enter func173,ntmps173
  go_wp2_with (first|(go_at_call 200;(with_reducible refine gw (DI _ _ zq) ?_);simp only [hW])|(go_at_call 201;(with_reducible refine gw (AA _ _) ?_)))
  go_returns
  exact⟨av (by simp [dI,hW]),rfl⟩
theorem jl(op:Int)(w:World):Calls prog 172 #[.int .i64 op] w fun e w'=>e= .returned (.int .i64 (aJ op))/\w=w':=by
 go_enter func172,ntmps172
 go_wp2
 all_goals
  go_returns
  exact⟨ret_int (by unfold aJ;(repeat' split)<;>first|omega|(simp_all;done)|(simp_all;omega)),rfl⟩
def fG(d:Int):Nat->Int->Option (List Int)
 |0,r=>if r<=0 then some []else none
 |f+1,r=>if r<=0 then some []else(fG d f (r*10 % d)).map fun l=>r*10 / d::l
def iY:List Int->Int
 | []=>0
 |x::r=>x*10 ^ r.length+iY r
theorem qL{d:Int}(hd:1<=d):∀(f:Nat) (r:Int) (l:List Int),0<=r->fG d f r=some l->iY l*d=r*10 ^ l.length/\l.length<=f
 |0,r,l,h0,h=>by
  unfold fG at h
  split at h<;>cases h
  have:r=0:=by omega
  subst this;simp [iY]
 |f+1,r,l,h0,h=>by
  unfold fG at h
  split at h<;>rename_i hc
  ·cases h;have:r=0:=by omega
   subst this;simp [iY]
  ·obtain⟨q,hq,rfl⟩:=Option.map_eq_some_iff.1 h;obtain⟨h1,h2⟩:=qL hd f _ q (Int.emod_nonneg _ zb) hq;refine⟨?_,by simpa using h2⟩;have e:=Int.mul_ediv_add_emod (r*10) d;simp only [iY,length_cons];rw [Int.add_mul,h1,Int.pow_succ];generalize(10:Int) ^ q.length=t at *;have e2:r*(t*10)=(d*(r*10 / d)+r*10 % d)*t:=by rw [e,Int.mul_comm t 10,Int.mul_assoc]
   rw [e2,Int.add_mul,Int.mul_comm d,Int.mul_right_comm]
theorem xH{d:Int}(hd:1<=d):∀(f:Nat) (r:Int),0<=r->r<d->fG d f r=none->r*10 ^ f % d≠0
 |0,r,h0,h1,h=>by
  unfold fG at h
  split at h
  ·cases h
  ·rw [Int.pow_zero,Int.mul_one,Int.emod_eq_of_lt h0 h1];omega
 |f+1,r,h0,h1,h=>by
  unfold fG at h
  split at h
  ·cases h
  ·have h2:=xH hd f (r*10 % d) (Int.emod_nonneg _ zb) (Int.emod_lt_of_pos _ zb) zy;intro hc;apply h2;rw [Int.pow_succ,Int.mul_comm ((10:Int) ^ f),<-Int.mul_assoc]at hc;rw [Int.mul_emod,Int.emod_emod,<-Int.mul_emod];exact hc
def gQ(p:Int):Nat->Int->Int->Int × Int
 |0,a,b=>(a,b)
 |f+1,a,b=>if a % p=0/\b % p=0 then gQ p f (a / p) (b / p)else(a,b)
theorem qo{p:Int}(hp:2<=p):∀(f:Nat) (a b:Int),1<=b->b<p ^ f->
 (gQ p f a b).1*b=a*(gQ p f a b).2/\¬((gQ p f a b).1 % p=0/\(gQ p f a b).2 % p=0)/\(gQ p f a b).2 ∣ b/\1<=(gQ p f a b).2/\
 ∀q:Int,¬(a % q=0/\b % q=0)->¬((gQ p f a b).1 % q=0/\(gQ p f a b).2 % q=0)
 |0,a,b,h1,h2=>by simp at h2;omega
 |f+1,a,b,h1,h2=>by
  unfold gQ
  split<;>rename_i hc
  ·obtain⟨a',ha⟩:=Int.dvd_of_emod_eq_zero hc.1;obtain⟨b',hb⟩:=Int.dvd_of_emod_eq_zero hc.2;subst ha hb;rw [Int.mul_ediv_cancel_left _ zb,Int.mul_ediv_cancel_left _ zb]
   have hb1:1<=b':=by
    rcases Int.lt_or_le b' 1 with h|h
    ·have:p*b'<=p*0:=Int.mul_le_mul_of_nonneg_left zb zb;omega
    ·exact h
   have hb2:b'<p ^ f:=by
    rw [Int.pow_succ,Int.mul_comm _ p]at h2;exact Int.lt_of_mul_lt_mul_left h2 zb
   obtain⟨e1,e2,e3,e4,e5⟩:=qo hp f a' b' hb1 hb2;refine⟨?_,e2,Int.dvd_trans e3 (Int.dvd_mul_left p b'),e4,fun q hq=>e5 q fun hc=>hq ?_⟩
   ·rw [Int.mul_left_comm,e1,Int.mul_assoc]
   ·exact⟨Int.emod_eq_zero_of_dvd (Int.dvd_trans (Int.dvd_of_emod_eq_zero hc.1) (Int.dvd_mul_left p a')),Int.emod_eq_zero_of_dvd (Int.dvd_trans (Int.dvd_of_emod_eq_zero hc.2) (Int.dvd_mul_left p b'))⟩
  ·exact⟨rfl,hc,Int.dvd_refl b,h1,fun q hq=>hq⟩
def kg(a b:Int):Int × Int:=gQ 5 6 (gQ 2 14 a b).1 (gQ 2 14 a b).2
theorem Kz{g:Nat}{k:Nat}(h:g ∣ 10 ^ k)(h2:¬2 ∣ g)(h5:¬5 ∣ g):g=1:=by
 have c2:Nat.Coprime g 2:=by
  have hd:Nat.gcd g 2 ∣ 2:=Nat.gcd_dvd_right _ _;have hg:Nat.gcd g 2 ∣ g:=Nat.gcd_dvd_left _ _;have hle:=Nat.le_of_dvd zb hd;have:Nat.gcd g 2≠2:=fun e=>h2 (e ▸ hg);have h0:Nat.gcd g 2≠0:=fun e=>by rw [e]at hd;omega
  show Nat.gcd g 2=1;omega
 have c5:Nat.Coprime g 5:=by
  have hd:Nat.gcd g 5 ∣ 5:=Nat.gcd_dvd_right _ _;have hg:Nat.gcd g 5 ∣ g:=Nat.gcd_dvd_left _ _;have hle:=Nat.le_of_dvd zb hd;have:Nat.gcd g 5≠5:=fun e=>h5 (e ▸ hg);show Nat.gcd g 5=1;generalize Nat.gcd g 5=x at *;obtain rfl|rfl|rfl|rfl|rfl:x=0\/x=1\/x=2\/x=3\/x=4:=by omega
  all_goals first|rfl|(exfalso;revert hd;decide)
 have c10:Nat.Coprime g (10 ^ k):=Nat.Coprime.pow_right k (show Nat.Coprime g (2*5)from Nat.Coprime.mul_right c2 c5);exact Nat.Coprime.eq_one_of_dvd c10 h
theorem Im{a:Int}{k:Nat}(hk:k<=4):(kg a (10 ^ k)).1*10 ^ k=a*(kg a (10 ^ k)).2/\(kg a (10 ^ k)).2 ∣ 10 ^ k/\1<=(kg a (10 ^ k)).2/\Nat.Coprime (kg a (10 ^ k)).1.natAbs (kg a (10 ^ k)).2.natAbs:=by
 have hb:(1:Int)<=10 ^ k/\(10:Int) ^ k<=10000:=by
  obtain rfl|rfl|rfl|rfl|rfl:k=0\/k=1\/k=2\/k=3\/k=4:=by omega
  all_goals decide
 obtain⟨e1,e2,e3,e4,e5⟩:=qo (p:=2) zb 14 a (10 ^ k) hb.1 (by rw [show(2:Int) ^ 14=16384 by decide];omega);have hle:=Int.le_of_dvd zb e3;unfold kg;obtain⟨f1,f2,f3,f4,f5⟩:=qo (p:=5) zb 6 (gQ 2 14 a (10 ^ k)).1 (gQ 2 14 a (10 ^ k)).2 e4 xg;have f6:=f5 2 e2;generalize gQ 5 6 (gQ 2 14 a (10 ^ k)).1 (gQ 2 14 a (10 ^ k)).2=z at *;generalize gQ 2 14 a (10 ^ k)=y at *;have hdv:z.2 ∣ 10 ^ k:=Int.dvd_trans f3 e3;refine⟨?_,hdv,f4, ?_⟩
 ·have h:z.1*10 ^ k*y.2=a*z.2*y.2:=by
   rw [Int.mul_right_comm,f1,Int.mul_right_comm,e1,Int.mul_right_comm]
  exact Int.eq_of_mul_eq_mul_right zb h
 ·have hg:Nat.gcd z.1.natAbs z.2.natAbs ∣ 10 ^ k:=by
   have h1:z.2.natAbs ∣ 10 ^ k:=by
    have:=Int.natAbs_dvd_natAbs.2 hdv
    rwa [Int.natAbs_pow]at this
   exact Nat.dvd_trans (Nat.gcd_dvd_right _ _) h1
  refine Kz hg (fun h=>f6 ?_) (fun h=>f2 ?_)
  ·exact Tv
  ·exact Tv
theorem RX{an ad bn bd:Int}(h1:1<=ad)(h2:1<=bd)(p:Nat.Coprime an.natAbs ad.natAbs)(q:Nat.Coprime bn.natAbs bd.natAbs)(h:an*bd=bn*ad):an=bn/\ad=bd:=by
 exact TB
def AZ(n d m:Int):Bool:=
 match fG d 4 (n % d)with
 |none=>false
 |some l=>decide (n / d<=999999999)&&(decide ((kg (n / d*10 ^ l.length+iY l) (10 ^ l.length)).1=n/\(kg (n / d*10 ^ l.length+iY l) (10 ^ l.length)).2=d)&&decide (2<=m/\m<=4))
theorem GN{n d m:Int}(h1:1<=d)(h2:d<=10000)(h3:0<=n)(h4:n<=1000000000000000):AZ n d m=aV n d m:=by
 have hr0:=Int.emod_nonneg n (show d≠0 by omega);have hr1:=Int.emod_lt_of_pos n (show 0<d by omega);have hq:=Int.mul_ediv_add_emod n d;unfold AZ
 cases hf:fG d 4 (n % d)with
 |none=>
  have:=xH h1 4 _ hr0 hr1 hf;show false=_;symm;rw [Bool.eq_false_iff];intro hc;simp only [aV,Bool.and_eq_true,decide_eq_true_eq]at hc;apply this;have h5:(10000:Int) % d=0:=hc.1.1.1.2;obtain⟨c,hc⟩:=Int.dvd_of_emod_eq_zero h5;rw [show(10:Int) ^ 4=10000 by decide,hc,Int.mul_left_comm];exact Int.mul_emod_right d _
 |some l=>
  obtain⟨hp,hl⟩:=qL h1 4 _ l hr0 hf;obtain⟨e1,e2,e3,e4⟩:=Im (a:=n / d*10 ^ l.length+iY l) hl
  have hA:(n / d*10 ^ l.length+iY l)*d=n*10 ^ l.length:=by
   rw [Int.add_mul,hp]
   conv=>rhs;rw [<-hq]
   rw [Int.add_mul,Int.mul_comm d,Int.mul_right_comm]
  show(decide (n / d<=999999999)&&_)=_;generalize kg (n / d*10 ^ l.length+iY l) (10 ^ l.length)=z at *;rw [Bool.eq_iff_iff];simp only [aV,Bool.and_eq_true,decide_eq_true_eq];constructor
  ·rintro⟨a,⟨rfl,rfl⟩,b,c⟩;refine⟨⟨⟨⟨⟨oQ ⟨by omega,by omega,by omega,by omega⟩ e4,h3⟩, ?_⟩,b⟩,c⟩,a⟩;refine Int.emod_eq_zero_of_dvd (Int.dvd_trans e2 ?_);obtain h|h|h|h|h:l.length=0\/l.length=1\/l.length=2\/l.length=3\/l.length=4:=by omega
   all_goals rw [h];decide
  ·rintro⟨⟨⟨⟨⟨a,-⟩,-⟩,b⟩,c⟩,e⟩;refine⟨e, ?_,b,c⟩;have hB:(1:Int)<=10 ^ l.length:=Int.pow_pos zb
   have hx:z.1*d=n*z.2:=by
    have:z.1*d*10 ^ l.length=n*z.2*10 ^ l.length:=by
     rw [Int.mul_right_comm,e1,Int.mul_right_comm,hA,Int.mul_right_comm]
    exact Int.eq_of_mul_eq_mul_right zb this
   exact RX e3 h1 e4 (wD a) hx
theorem JJ{n d m:Int}(h:d<1\/10000<d\/n<0\/1000000000000000<n):aV n d m=false:=by
 rw [Bool.eq_false_iff];intro hc;simp only [aV,Bool.and_eq_true,decide_eq_true_eq]at hc;have:=aG hc.1.1.1.1.1;have h5:=Int.le_of_dvd zb (Int.dvd_of_emod_eq_zero hc.1.1.1.2);omega
theorem Gv:∀(a b:List UInt8),(46:UInt8)∉a->Lib.index (a++46::b) [46]=a.length
 | [],b,_=>by simp [Lib.index,isPrefixOf]
 |c::a,b,h=>by
  have h1:(46:UInt8)≠c:=fun e=>h zW;have ih:=Gv a b (fun e=>h zW);simp only [cons_append,Lib.index,isPrefixOf,ih];have h2:((46:UInt8)==c)=false:=by simpa using h1
  rw [h2];simp
theorem Mh:∀(a:List UInt8),(46:UInt8)∉a->Lib.index a [46]= -1
 | [],_=>by simp [Lib.index]
 |c::a,h=>by
  have h1:(46:UInt8)≠c:=fun e=>h zW;have ih:=Mh a (fun e=>h zW);simp only [Lib.index,isPrefixOf,ih];have h2:((46:UInt8)==c)=false:=by simpa using h1
  rw [h2];simp
theorem Qf(a b:List UInt8)(h:(46:UInt8)∉a):Lib.cut (a++46::b) [46]=(a,b,true):=by
 unfold Lib.cut;rw [Gv a b h,if_pos zb];simp
theorem RV(a:List UInt8)(h:(46:UInt8)∉a):Lib.cut a [46]=(a,[],false):=by
 unfold Lib.cut;rw [Mh a h,if_neg zb]
def fU:Int->List UInt8->Option Int
 |x,[]=>some x
 |x,c::r=>if iI (c.toNat:Int)=true then fU (10*x+((c.toNat:Int)-48)) r else none
theorem lW:∀(a b:List UInt8) (x:Int),fU x (a++b)=(fU x a).bind fun y=>fU y b
 | [],b,x=>rfl
 |c::a,b,x=>by
  simp only [cons_append,fU]
  split
  ·exact lW a b _
  ·rfl
def dgB(x:Int):UInt8:=UInt8.ofNat (48+x.toNat)
theorem xL{x:Int}(h0:0<=x)(h1:x<=9):((dgB x).toNat:Int)=48+x:=by
 unfold dgB;rw [UInt8.toNat_ofNat'];omega
theorem tV(x y:Int)(h0:0<=y)(h1:y<=9):fU x [dgB y]=some (10*x+y):=by
 have e:=xL h0 h1;simp only [fU];rw [e,if_pos (by simp [iI];omega)]
 congr 1
 omega
theorem wU:∀(l:List Int) (x:Int),(∀y∈l,0<=y/\y<=9)->fU x (l.map dgB)=some (x*10 ^ l.length+iY l)
 | [],x,_=>by simp [fU,iY]
 |y::l,x,h=>by
  have hy:=h y zd;have ih:=wU l (10*x+y) (fun z hz=>h z (by simp [hz]));have e:=lW [dgB y] (l.map dgB) x;rw [tV x y hy.1 hy.2]at e;simp only [map_cons];rw [show dgB y::l.map dgB= [dgB y]++l.map dgB from rfl,e];simp only [Option.bind_some];rw [ih]
  congr 1
  simp only [length_cons,iY,Int.pow_succ];rw [Int.add_mul,Int.mul_comm 10 x,Int.mul_assoc,Int.mul_comm 10];omega
theorem LB(u:Nat):∀x:Int,fU x (Lib.decDigits u)=some (x*10 ^ Lib.nDigits u+u):=by
 induction u using Nat.strongRecOn with
 |_ u ih=>
  intro x;rw [Lib.decDigits];by_cases h:u<10
  ·rw [dif_pos h,Lib.nDigits_small h];have:=tV x u zb zb;unfold dgB at this;rw [Int.toNat_natCast]at this;rw [this]
   congr 1
   omega
  ·rw [dif_neg h,lW,ih (u / 10) zb,Lib.nDigits_big h];simp only [Option.bind_some];have:=tV (x*10 ^ Lib.nDigits (u / 10)+(u / 10:Nat)) ((u % 10:Nat):Int) zb zb;unfold dgB at this;rw [Int.toNat_natCast]at this;rw [this]
   congr 1
   rw [Int.pow_succ,Int.mul_add,<-Int.mul_assoc,Int.mul_comm 10 x,Int.mul_assoc,Int.mul_comm 10 (10 ^ _)];omega
theorem Dl(u:Nat):∀c∈Lib.decDigits u,48<=c.toNat/\c.toNat<=57:=by
 induction u using Nat.strongRecOn with
 |_ u ih=>
  intro c hc;rw [Lib.decDigits]at hc;by_cases h:u<10
  ·rw [dif_pos h]at hc;simp only [mem_singleton]at hc;subst hc;rw [UInt8.toNat_ofNat'];omega
  ·rw [dif_neg h]at hc;rcases mem_append.1 hc with hc|hc
   ·exact ih (u / 10) zb c hc
   ·simp only [mem_singleton]at hc;subst hc;rw [UInt8.toNat_ofNat'];omega
theorem MP(u:Nat)(h:1<=u):∃c r,Lib.decDigits u=c::r/\c.toNat≠48:=by
 induction u using Nat.strongRecOn with
 |_ u ih=>
  rw [Lib.decDigits];by_cases h2:u<10
  ·rw [dif_pos h2];exact⟨_,_,rfl,by rw [UInt8.toNat_ofNat'];omega⟩
  ·rw [dif_neg h2];obtain⟨c,r,e,hc⟩:=ih (u / 10) zb zb;rw [e];exact⟨c,_,rfl,hc⟩
def jK(s:List UInt8):List UInt8 × Int:=if s.getLast? =some 100 then(s.dropLast,3)else if s.getLast? =some 109 then(s.dropLast,4)else(s,2)
def pU(a b:List UInt8)(pt:Bool):Bool:=decide (1<=a.length)&&decide (a.length<=9)&&!(decide (1<a.length)&&decide (a.head? =some 48))&&!(pt&&(decide (b.length<1) || decide (4<b.length)))
def Qd(a b:List UInt8)(pt:Bool)(m:Int):Option (Int × Int × Int):=
 if pU a b pt=true then(fU 0 a).bind fun x=>(fU 0 b).map fun p=>((kg (x*10 ^ b.length+p) (10 ^ b.length)).1,(kg (x*10 ^ b.length+p) (10 ^ b.length)).2,m)else none
def qP(s:List UInt8):Option (Int × Int × Int):=Qd (Lib.cut (jK s).1 [46]).1 (Lib.cut (jK s).1 [46]).2.1 (Lib.cut (jK s).1 [46]).2.2 (jK s).2
def mq(l:List Int):List UInt8:=if l= []then []else 46::l.map dgB
def Ad(m:Int):List UInt8:=if m=3 then [100]else if m=4 then [109]else []
def KL(m:Int):Int:=if m=3 then 3 else if m=4 then 4 else 2
theorem AP{s:List UInt8}(h0:s≠[])(h:∀c∈s,48<=c.toNat/\c.toNat<=57\/c=46):s.getLast?≠some 100/\s.getLast?≠some 109:=by
 have e:=getLast?_eq_some_getLast h0;have hc:=h _ (getLast_mem h0);rw [e];constructor
 ·exact S9
 ·exact S9
theorem Ia{s:List UInt8}(h0:s≠[])(h:∀c∈s,48<=c.toNat/\c.toNat<=57\/c=46)(m:Int):jK (s++Ad m)=(s,KL m):=by
 obtain⟨h1,h2⟩:=AP h0 h;unfold jK Ad KL;by_cases c3:m=3
 ·subst c3;rw [if_pos rfl,if_pos rfl];simp
 ·by_cases c4:m=4
  ·subst c4;simp
  ·rw [if_neg c3,if_neg c4,if_neg c3,if_neg c4,append_nil,if_neg h1,if_neg h2]
theorem P6{x:Int}(h0:0<=x)(h1:x<=9):48<=(dgB x).toNat/\(dgB x).toNat<=57:=by have:=xL h0 h1;omega
theorem Fy{q:Nat}{l:List Int}(hl:∀y∈l,0<=y/\y<=9):∀c∈Lib.decDigits q++mq l,48<=c.toNat/\c.toNat<=57\/c=46:=by
 intro c hc;rcases mem_append.1 hc with hc|hc
 ·exact .inl (Dl q c hc)
 ·unfold mq at hc
  split at hc
  ·cases hc
  ·rcases mem_cons.1 hc with hc|hc
   ·exact .inr hc
   ·obtain⟨y,hy,rfl⟩:=mem_map.1 hc;have:=hl y hy;exact .inl (P6 this.1 this.2)
theorem Ao(q:Nat):Lib.nDigits q<=9↔q<=999999999:=by
 constructor
 ·intro h;have h1:=Lib.lt_pow_nDigits q;have h2:10 ^ Lib.nDigits q<=10 ^ 9:=Nat.pow_le_pow_right zb h;have h3:(10:Nat) ^ 9=1000000000:=by decide
  omega
 ·intro h;by_cases h9:Lib.nDigits q<=9
  ·exact h9
  ·exfalso;obtain⟨k,hk⟩:∃k,Lib.nDigits q=k+1:=⟨Lib.nDigits q-1,by have:=Lib.nDigits_pos q;omega⟩
   have hlow:∀(u:Nat) (k:Nat),Lib.nDigits u=k+2->10 ^ (k+1)<=u:=by
    intro u
    induction u using Nat.strongRecOn with
    |_ u ih=>
     intro k hk;by_cases hs:u<10
     ·rw [Lib.nDigits_small hs]at hk;omega
     ·rw [Lib.nDigits_big hs]at hk
      cases k with
      |zero=>omega
      |succ k=>
       have:=ih (u / 10) zb k zb;rw [Nat.pow_succ];omega
   have:=hlow q (Lib.nDigits q-2) zb;have h2:10 ^ 9<=10 ^ (Lib.nDigits q-2+1):=Nat.pow_le_pow_right zb zb;have h3:(10:Nat) ^ 9=1000000000:=by decide
   omega
theorem uU(q:Nat):(46:UInt8)∉Lib.decDigits q:=fun h=>by
 have:=Dl q _ h;revert this;decide
theorem MU(q:Nat)(l:List Int):Lib.cut (Lib.decDigits q++mq l) [46]=(Lib.decDigits q,l.map dgB,decide (l≠[])):=by
 unfold mq;by_cases h:l= []
 ·subst h;rw [if_pos rfl,append_nil,RV _ (uU q)];simp
 ·rw [if_neg h,Qf _ _ (uU q)];simp [h]
theorem Ju(q:Nat)(l:List Int)(hn:l.length<=4):pU (Lib.decDigits q) (l.map dgB) (decide (l≠[]))=decide (q<=999999999):=by
 unfold pU;rw [Lib.decDigits_length];have h1:=Lib.nDigits_pos q;have h9:=Ao q
 have e3:(decide (1<Lib.nDigits q)&&decide ((Lib.decDigits q).head? =some 48))=false:=by
  rw [Bool.and_eq_false_iff];by_cases c:1<Lib.nDigits q
  ·right
   have hq:1<=q:=by
    rcases Nat.eq_zero_or_pos q with rfl|h
    ·rw [Lib.nDigits_small zb]at c;omega
    ·exact h
   obtain⟨x,r,e,hx⟩:=MP q hq;rw [e];simp only [head?_cons,Option.some.injEq,decide_eq_false_iff_not];intro k;rw [k]at hx;exact hx zf
  ·left;simpa using c
 have e4:(decide (l≠[])&&(decide ((l.map dgB).length<1) || decide (4<(l.map dgB).length)))=false:=by
  rw [length_map]
  cases l with
  |nil=>rfl
  |cons a r=>simp at hn ⊢;omega
 have e9:decide (Lib.nDigits q<=9)=decide (q<=999999999):=decide_eq_decide.2 h9;rw [e3,e4,decide_eq_true (show 1<=Lib.nDigits q from h1),e9];simp
theorem JL{q:Nat}{l:List Int}(hl:∀y∈l,0<=y/\y<=9)(hn:l.length<=4)(m:Int):qP (Lib.decDigits q++mq l++Ad m)=
 if q<=999999999 then some ((kg (q*10 ^ l.length+iY l) (10 ^ l.length)).1,(kg (q*10 ^ l.length+iY l) (10 ^ l.length)).2,KL m)else none:=by
 have h0:Lib.decDigits q++mq l≠[]:=by
  have k1:=Lib.decDigits_length q;have k2:=Lib.nDigits_pos q;intro h;rw [append_eq_nil_iff]at h;rw [h.1]at k1;simp at k1;omega
 unfold qP;rw [Ia h0 (Fy hl) m];simp only [MU,Qd,Ju q l hn,decide_eq_true_eq];have e1:=LB q 0;have e2:=wU l 0 hl;rw [Int.zero_mul,Int.zero_add]at e1 e2;rw [e1,e2];simp
theorem xJ{d:Int}(hd:1<=d):∀(f:Nat) (r:Int) (l:List Int),0<=r->r<d->fG d f r=some l->∀y∈l,0<=y/\y<=9
 |0,r,l,_,_,h=>by
  unfold fG at h
  split at h<;>cases h
  intro y hy;cases hy
 |f+1,r,l,h0,h1,h=>by
  unfold fG at h
  split at h<;>rename_i hc
  ·cases h;intro y hy;cases hy
  ·obtain⟨q,hq,rfl⟩:=Option.map_eq_some_iff.1 h;intro y hy;rcases mem_cons.1 hy with rfl|hy
   ·constructor
    ·exact Int.ediv_nonneg zb zb
    ·have:r*10 / d<10:=Int.ediv_lt_of_lt_mul zb zb;omega
   ·exact xJ hd f _ q (Int.emod_nonneg _ zb) (Int.emod_lt_of_pos _ zb) hq y hy
def GQ(n d m:Int):List UInt8:=match fG d 4 (n % d)with|some l=>Lib.decDigits (n / d).toNat++mq l++Ad m|none=>[]
theorem JM{n d m:Int}{l:List Int}(h1:1<=d)(h2:d<=10000)(h3:0<=n)(h4:n<=1000000000000000)(hf:fG d 4 (n % d)=some l) :
 (qP (Lib.decDigits (n / d).toNat++mq l++Ad m)=some (n,d,m))↔aV n d m=true:=by
 have hr0:=Int.emod_nonneg n (show d≠0 by omega);have hr1:=Int.emod_lt_of_pos n (show 0<d by omega);have hq0:0<=n / d:=Int.ediv_nonneg h3 zb;obtain⟨-,hn⟩:=qL h1 4 _ l hr0 hf;rw [JL (xJ h1 4 _ l hr0 hr1 hf) hn m,<-GN h1 h2 h3 h4];unfold AZ;rw [hf];have e:(((n / d).toNat:Nat):Int)=n / d:=by omega
 rw [e];simp only [Bool.and_eq_true,decide_eq_true_eq]
 have hm:KL m=m↔2<=m/\m<=4:=by
  unfold KL
  split
  ·omega
  ·split<;>omega
 constructor
 ·intro h
  split at h<;>rename_i hc
  ·simp only [Option.some.injEq,Prod.mk.injEq]at h;exact⟨by omega,⟨h.1,h.2.1⟩,hm.1 h.2.2⟩
  ·cases h
 ·rintro⟨a,⟨b,c⟩,k⟩;rw [if_pos zb,b,c,hm.2 k]
theorem JN{n d m:Int}(h1:1<=d)(h2:d<=10000)(h3:0<=n)(h4:n<=1000000000000000)(hf:fG d 4 (n % d)=none):aV n d m=false:=by
 rw [<-GN h1 h2 h3 h4];unfold AZ;rw [hf]

theorem gP(a b:Nat)(w:World)(h1:a<18446744073709551616)(h2:b<18446744073709551616) :
 Calls prog 176 #[.int .u64 a,.int .u64 b] w fun e w'=>e= .returned (.agg #[.int .u64 (hiW (a*b)),.int .u64 (loW (a*b))])/\w.Grows w':=by
 have H:Hid (∀w,Calls prog 192 #[.int .u64 a,.int .u64 b] w fun e w'=>e= .returned (.tuple #[.int .u64 (hiW (a*b)),.int .u64 (loW (a*b))])/\w'=w):=bits_Mul64 a b h1 h2;generalize a*b=n at *
 go_enter func176,ntmps176
 go_wp2_with fail
 refine gw (H.out _) ?_;clear H
 go_wp2_with fail
 go_returns
 exact⟨rfl,.of_below af⟩
theorem xU(x y c:Nat)(hc:c<=1)(w:World):(callFunc 193 #[.int .u64 x,.int .u64 y,.int .u64 c]).run prog w=
 .ok (.value (.tuple #[.int .u64 (((x+y+c) % 18446744073709551616:Nat):Int),.int .u64 (((x+y+c) / 18446744073709551616:Nat):Int)])) w:=by
 rw [run_callFunc_extern func193 ze ze ze (e:=add64Entry) ze,run_add64 x y c zb zb zb zb];simp only [Result.andThen]
 congr 5<;>omega
theorem wI(x y b:Nat)(hb:b<=1)(w:World):(callFunc 194 #[.int .u64 x,.int .u64 y,.int .u64 b]).run prog w=
 .ok (.value (.tuple #[.int .u64 (((x+18446744073709551616-y-b) % 18446744073709551616:Nat):Int),.int .u64 ((if x<y+b then 1 else 0:Nat):Int)])) w:=by
 rw [run_callFunc_extern func194 ze ze ze (e:=sub64Entry) ze,run_sub64 x y b hb];rfl
def hiN(n:Nat):Nat:=n / 18446744073709551616
def loN(n:Nat):Nat:=n % 18446744073709551616
theorem J8(a b:Nat)(h:a+b<340282366920938463463374607431768211456) :
 (loN a+loN b+0) % 18446744073709551616=loN (a+b)/\(loN a+loN b+0) / 18446744073709551616<=1/\(hiN a+hiN b+(loN a+loN b+0) / 18446744073709551616) % 18446744073709551616=hiN (a+b):=by
 unfold loN hiN;omega
theorem H9(a b:Nat)(h:b<=a)(ha:a<340282366920938463463374607431768211456) :
 (loN a+18446744073709551616-loN b-0) % 18446744073709551616=loN (a-b)/\(if loN a<loN b+0 then 1 else 0)<=1/\(hiN a+18446744073709551616-hiN b-(if loN a<loN b+0 then 1 else 0)) % 18446744073709551616=hiN (a-b):=by
 unfold loN hiN;split<;>omega
theorem Ir(a b:Nat)(w:World)(h:a+b<340282366920938463463374607431768211456) :
 Calls prog 178 #[.agg #[.int .u64 (hiW a),.int .u64 (loW a)],.agg #[.int .u64 (hiW b),.int .u64 (loW b)]] w fun e w'=>e= .returned (.agg #[.int .u64 (hiW (a+b)),.int .u64 (loW (a+b))])/\w.Grows w':=by
 obtain⟨e1,e2,e3⟩:=J8 a b h;obtain⟨c,hc⟩:∃c,(loN a+loN b+0) / 18446744073709551616=c:=⟨_,rfl⟩
 have ha:∀w,(callFunc 193 #[.int .u64 (loW a),.int .u64 (loW b),.int .u64 0]).run prog w= .ok (.value (.tuple #[.int .u64 (loW (a+b)),.int .u64 (c:Int)])) w:=by
  intro w;have:=xU (loN a) (loN b) 0 zb w;rw [e1,hc]at this;exact this
 have hb:∀w,(callFunc 193 #[.int .u64 (hiW a),.int .u64 (hiW b),.int .u64 (c:Int)]).run prog w= .ok (.value (.tuple #[.int .u64 (hiW (a+b)),.int .u64 ((hiN a+hiN b+c) / 18446744073709551616:Nat)])) w:=by
  intro w;have:=xU (hiN a) (hiN b) c zb w;rw [<-hc,e3,hc]at this;exact this
 generalize(((hiN a+hiN b+c) / 18446744073709551616:Nat):Int)=z at *;generalize(c:Int)=c' at *;clear e1 e2 e3 hc h;generalize hiW a=A at *;generalize hiW b=B at *;generalize loW a=La at *;generalize loW b=Lb at *;generalize hiW (a+b)=S at *;generalize loW (a+b)=T at *
 go_enter func178,ntmps178
 go_wp2_with fail
 go_returns
 exact⟨rfl,.of_below af⟩
theorem tZ(a b:Nat)(w:World)(h:b<=a)(h2:a<340282366920938463463374607431768211456) :
 Calls prog 180 #[.agg #[.int .u64 (hiW a),.int .u64 (loW a)],.agg #[.int .u64 (hiW b),.int .u64 (loW b)]] w fun e w'=>e= .returned (.agg #[.int .u64 (hiW (a-b)),.int .u64 (loW (a-b))])/\w.Grows w':=by
 obtain⟨e1,e2,e3⟩:=H9 a b h h2;obtain⟨c,hc⟩:∃c,(if loN a<loN b+0 then 1 else 0)=c:=⟨_,rfl⟩
 have ha:∀w,(callFunc 194 #[.int .u64 (loW a),.int .u64 (loW b),.int .u64 0]).run prog w= .ok (.value (.tuple #[.int .u64 (loW (a-b)),.int .u64 (c:Int)])) w:=by
  intro w;have:=wI (loN a) (loN b) 0 zb w;rw [e1,hc]at this;exact this
 have hb:∀w,(callFunc 194 #[.int .u64 (hiW a),.int .u64 (hiW b),.int .u64 (c:Int)]).run prog w= .ok (.value (.tuple #[.int .u64 (hiW (a-b)),.int .u64 ((if hiN a<hiN b+c then 1 else 0:Nat):Int)])) w:=by
  intro w;have:=wI (hiN a) (hiN b) c zb w;rw [<-hc,e3,hc]at this;exact this
 generalize((if hiN a<hiN b+c then 1 else 0:Nat):Int)=z at *;generalize(c:Int)=c' at *;clear e1 e2 e3 hc h h2;generalize hiW a=A at *;generalize hiW b=B at *;generalize loW a=La at *;generalize loW b=Lb at *;generalize hiW (a-b)=S at *;generalize loW (a-b)=T at *
 go_enter func180,ntmps180
 go_wp2_with fail
 go_returns
 exact⟨rfl,.of_below af⟩
def wy(ah al bh bl:Int):Bool:=decide (ah<bh) || ((ah==bh)&&decide (al<bl))
theorem qh(a b:Nat):wy (hiW a) (loW a) (hiW b) (loW b)=decide (a<b):=by
 unfold wy;rw [Bool.eq_iff_iff];simp only [Bool.or_eq_true,Bool.and_eq_true,decide_eq_true_eq,beq_iff_eq];unfold hiW loW;omega
theorem qz(ah al bh bl:Int)(w:World) :
 Calls prog 179 #[.agg #[.int .u64 ah,.int .u64 al],.agg #[.int .u64 bh,.int .u64 bl]] w fun e w'=>e= .returned (.bool (wy ah al bh bl))/\w.Grows w':=by
 by_cases c1:ah<bh
 ·go_enter func179,ntmps179
  go_wp2_with fail
  go_returns
  exact⟨av (by simp [wy,c1]),.of_below af⟩
 ·by_cases c2:ah=bh
  ·subst c2
   go_enter func179,ntmps179
   go_wp2_with fail
   go_returns
   exact⟨av (by simp [wy]),.of_below af⟩
  ·have c3:(ah==bh)=false:=by simpa using c2
   go_enter func179,ntmps179
   go_wp2_with fail
   go_returns
   exact⟨av (by simp [wy,c1,c3]),.of_below af⟩
theorem D8(H L d q r Q:Int)(w:World)(a1:(d==0)=false)(a2:1<=d)(h0:0<=H)
 (a3:IntKind.u64.wrap (H.tdiv d)=Q)
 (HD:Hid (∀w,Calls prog 189 #[.int .u64 (H % d),.int .u64 L,.int .u64 d] w fun e w'=>e= .returned (.tuple #[.int .u64 q,.int .u64 r])/\w.Grows w')) :
 Calls prog 184 #[.agg #[.int .u64 H,.int .u64 L],.int .u64 d] w fun e w'=>e= .returned (.agg #[.int .u64 Q,.int .u64 q])/\w.Grows w':=by
 go_enter func184,ntmps184
 go_wp2_with fail
 go_region
 go_wp2_with fail
 refine gv (HD.out _) ?_;intro bs dr;clear HD
 go_wp2_with fail
 go_returns
 exact⟨rfl,.of_below af⟩
theorem Iz(n d:Nat)(w:World)(h1:n<340282366920938463463374607431768211456)(h2:d<18446744073709551616)(h0:0<d) :
 Calls prog 184 #[.agg #[.int .u64 (hiW n),.int .u64 (loW n)],.int .u64 d] w fun e w'=>e= .returned (.agg #[.int .u64 (hiW (n / d)),.int .u64 (loW (n / d))])/\w.Grows w':=by
 obtain⟨e1,e2,e3⟩:=tQ n d h0 h2;have hh:=EM n h1;refine D8 _ _ _ _ (lT n d) _ w zg zb hh.1 ?_ ?_
 ·have:(hiW n).tdiv d=((n / 18446744073709551616 / d:Nat):Int):=by
   rw [Int.tdiv_eq_ediv_of_nonneg hh.1];unfold hiW;simp
  rw [this,<-e1];have h3:n / d<=n:=Nat.div_le_self _ _;unfold hiW;generalize n / d=m at *;exact IntWalk.u64_in _ zb
 ·intro w;have:=qY (n / 18446744073709551616 % d) (n % 18446744073709551616) d w (Nat.mod_lt _ h0) (Nat.mod_lt _ zb) h2;rw [<-e2,<-e3]at this;simpa [hiW,loW,lT]using this
theorem Lg(H L d q r:Int)(w:World)(a1:(d==0)=false)(a2:1<=d)(h0:0<=H)
 (HD:Hid (∀w,Calls prog 189 #[.int .u64 (H % d),.int .u64 L,.int .u64 d] w fun e w'=>e= .returned (.tuple #[.int .u64 q,.int .u64 r])/\w.Grows w')) :
 Calls prog 182 #[.int .u64 H,.int .u64 L,.int .u64 d] w fun e w'=>e= .returned (.int .u64 r)/\w.Grows w':=by
 go_enter func182,ntmps182
 go_wp2_with fail
 refine gv (HD.out _) ?_;intro bs dr;clear HD
 go_wp2_with fail
 go_returns
 exact⟨rfl,.of_below af⟩
theorem Kg(n d:Nat)(w:World)(h1:n<340282366920938463463374607431768211456)(h2:d<18446744073709551616)(h0:0<d) :
 Calls prog 182 #[.int .u64 (hiW n),.int .u64 (loW n),.int .u64 d] w fun e w'=>e= .returned (.int .u64 (lT n d))/\w.Grows w':=by
 obtain⟨e1,e2,e3⟩:=tQ n d h0 h2;have hh:=EM n h1;refine Lg _ _ _ (loW (n / d)) _ w zg zb hh.1 ?_;intro w;have:=qY (n / 18446744073709551616 % d) (n % 18446744073709551616) d w (Nat.mod_lt _ h0) (Nat.mod_lt _ zb) h2;rw [<-e2,<-e3]at this;simpa [hiW,loW,lT]using this
def vK(neg:Bool)(h l k d:Int):Value:=if(h !=0)=true\/1000000000000000<l\/(k !=0)=true\/1000000000<d then .tuple #[.agg #[.int .i64 0,.int .i64 0],.int .i64 2]else .tuple #[.agg #[.int .i64 (if neg then -l else l),.int .i64 d],.int .i64 0]
theorem qZ(neg:Bool)(h l k d:Int)(w:World)(hl0:0<=l)(hd0:0<=d) :
 Calls prog 183 #[.bool neg,.agg #[.int .u64 h,.int .u64 l],.agg #[.int .u64 k,.int .u64 d]] w fun e w'=>e= .returned (vK neg h l k d)/\w.Grows w':=by
 by_cases c1:(h !=0)=true
 ·go_enter func183,ntmps183
  go_wp2_with fail
  go_returns
  exact⟨by rw [vK,if_pos (.inl c1)],.of_below af⟩
 ·have c1':(h !=0)=false:=by simpa using c1
  by_cases c2:(1000000000000000:Int)<l
  ·clear c1
   go_enter func183,ntmps183
   go_wp2_with fail
   go_returns
   exact⟨by rw [vK,if_pos (.inr (.inl c2))],.of_below af⟩
  ·have c2':decide ((1000000000000000:Int)<l)=false:=by simpa using c2
   by_cases c3:(k !=0)=true
   ·clear c1
    go_enter func183,ntmps183
    go_wp2_with fail
    go_returns
    exact⟨by rw [vK,if_pos (.inr (.inr (.inl c3)))],.of_below af⟩
   ·have c3':(k !=0)=false:=by simpa using c3
    by_cases c4:(1000000000:Int)<d
    ·clear c1 c3
     go_enter func183,ntmps183
     go_wp2_with fail
     go_returns
     exact⟨by rw [vK,if_pos (.inr (.inr (.inr c4)))],.of_below af⟩
    ·have c4':decide ((1000000000:Int)<d)=false:=by simpa using c4
     have Hn:=yq (show ¬((h !=0)=true\/1000000000000000<l\/(k !=0)=true\/1000000000<d)by
      rintro(x|x|x|x)
      ·exact c1 x
      ·exact c2 x
      ·exact c3 x
      ·exact c4 x)
     clear c1 c3;cases neg
     ·go_enter func183,ntmps183
      go_wp2_with fail
      go_returns
      exact⟨by rw [vK,if_neg Hn.out];rfl,.of_below af⟩
     ·go_enter func183,ntmps183
      go_wp2_with fail
      go_returns
      exact⟨by rw [vK,if_neg Hn.out];rfl,.of_below af⟩
def frV(r:Int × Int × Int):Value:=.tuple #[.agg #[.int .i64 r.1,.int .i64 r.2.1],.int .i64 r.2.2]
theorem DF(n d:Int)(w:World)(h1:-9223372036854775808<=n)(h2:n<=9223372036854775807)(h3:-9223372036854775808<=d)(h4:d<=9223372036854775807) :
 Calls prog 137 #[.agg #[.int .i64 n,.int .i64 d]] w fun e w'=>e= .returned (frV (nW n d))/\w.Grows w':=by
 have hv:=yq (fun w=>dL n d w h1 h2 h3 h4);generalize hx:aL n d=b at *;cases b
 focus
  have HR:=yq (show nW n d=(0,0,1)by unfold nW;rw [hx];rfl)
 rotate_left
 focus
  have HR:=yq (show nW n d=(-n,d,0)by unfold nW;rw [hx];rfl);obtain⟨k1,k2,k3,k4⟩:=aG hx
 rotate_left
 all_goals
  clear hx
  go_enter func137,ntmps137
  go_wp2_with fail
  refine gv (hv.out _) ?_;intro bs dr;clear hv
  go_wp2_with fail
  go_returns
  exact⟨by rw [HR.out];rfl,.of_below af⟩
theorem CO(a b:Nat):kR a b=(Nat.gcd a b:Nat):=by unfold kR;simp
theorem GD(b:Bool)(p q:Nat):vK b (hiW p) (loW p) (hiW q) (loW q)=frV (if 1000000000000000<p\/1000000000<q then(0,0,2)else(if b then -(p:Int)else p,q,0)):=by
 unfold vK hiW loW;by_cases c:1000000000000000<p\/1000000000<q
 ·rw [if_pos c,if_pos (by
   by_cases ha:p / 18446744073709551616=0
   ·by_cases hb:q / 18446744073709551616=0
    ·omega
    ·right;right;left;simp;omega
   ·left;simp;omega)]
  rfl
 ·have ha:p / 18446744073709551616=0:=by omega
  have hb:q / 18446744073709551616=0:=by omega
  have hc:p % 18446744073709551616=p:=by omega
  have hd:q % 18446744073709551616=q:=by omega
  rw [if_neg c,if_neg (by rw [ha,hb,hc,hd];simp;omega),hc,hd];rfl
theorem o7{a g:Int}(h0:0<=a)(h1:a<18446744073709551616)(hg:1<=g):IntKind.u64.wrap (a.tdiv g)=a / g:=by
 rw [Int.tdiv_eq_ediv_of_nonneg h0];have h2:=Int.ediv_nonneg h0 (show 0<=g by omega);have h3:a / g<=a:=Int.ediv_le_self g h0;exact IntWalk.u64_in _ zb
theorem tK(neg:Bool)(a b c d g h H L K M n1 n2 n3:Int)(w:World)(g0:(g==0)=false)(h0:(h==0)=false)(g1:1<=g)(hh1:1<=h)
 (a0:0<=a) (b0:0<=b) (c0:0<=c) (d0:0<=d) (a1:a<18446744073709551616) (b1:b<18446744073709551616) (c1:c<18446744073709551616) (d1:d<18446744073709551616)
 (G1:Hid (∀w,Calls prog 181 #[.int .u64 a,.int .u64 d] w fun e w'=>e= .returned (.int .u64 g)/\w.Grows w'))
 (G2:Hid (∀w,Calls prog 181 #[.int .u64 c,.int .u64 b] w fun e w'=>e= .returned (.int .u64 h)/\w.Grows w'))
 (T1:Hid (∀w,Calls prog 176 #[.int .u64 (a / g),.int .u64 (c / h)] w fun e w'=>e= .returned (.agg #[.int .u64 H,.int .u64 L])/\w.Grows w'))
 (T2:Hid (∀w,Calls prog 176 #[.int .u64 (b / h),.int .u64 (d / g)] w fun e w'=>e= .returned (.agg #[.int .u64 K,.int .u64 M])/\w.Grows w'))
 (W:Hid (∀w,Calls prog 183 #[.bool neg,.agg #[.int .u64 H,.int .u64 L],.agg #[.int .u64 K,.int .u64 M]] w fun e w'=>e= .returned (.tuple #[.agg #[.int .i64 n1,.int .i64 n2],.int .i64 n3])/\w.Grows w')) :
 Calls prog 185 #[.bool neg,.int .u64 a,.int .u64 b,.int .u64 c,.int .u64 d] w fun e w'=>e= .returned (.tuple #[.agg #[.int .i64 n1,.int .i64 n2],.int .i64 n3])/\w.Grows w':=by
 go_enter func185,ntmps185
 go_wp2_with (first|(go_at_call 181;(with_reducible refine gv (G1.out _) ?_);intro bs dr;clear G1)|(go_at_call 181;(with_reducible refine gv (G2.out _) ?_);intro bs2 dr2;clear G2))
 have gz:¬g=0:=by omega
 have hz:¬h=0:=by omega
 refine TG.begin 19 (fun _=>True) ze ze trivial (fun hS=>?_);refine TG.tkB 0 hS ?_;refine TG.tkB 1 hS ?_;refine TG.tkB 2 hS ?_;refine TG.takeV (i:=3) (v:=.int .u64 (a / g)) rfl ze ze ze zf (fun _ _ _ h=>h) rfl hS ?_ ?_
 focus
  intro wS hSw
  go_simp
  exact o7 a0 a1 g1
 (try simp only [nS])
 refine TG.tkB 4 hS ?_;refine TG.tkB 5 hS ?_;refine TG.takeV (i:=6) (v:=.int .u64 (c / h)) rfl ze ze ze zf (fun _ _ _ h=>h) rfl hS ?_ ?_
 focus
  intro wS hSw
  go_simp
  exact o7 c0 c1 hh1
 (try simp only [nS])
 refine TG.tkB 8 hS ?_;refine TG.tkB 9 hS ?_;refine TG.takeV (i:=10) (v:=.int .u64 (b / h)) rfl ze ze ze zf (fun _ _ _ h=>h) rfl hS ?_ ?_
 focus
  intro wS hSw
  go_simp
  exact o7 b0 b1 hh1
 (try simp only [nS])
 refine TG.tkB 11 hS ?_;refine TG.tkB 12 hS ?_;refine TG.takeV (i:=13) (v:=.int .u64 (d / g)) rfl ze ze ze zf (fun _ _ _ h=>h) rfl hS ?_ ?_
 focus
  intro wS hSw
  go_simp
  exact o7 d0 d1 g1
 (try simp only [nS])
 refine TG.one (i:=7) ze rfl (fun K1 hK1=>?_)
 go_simp
 go_at_call 176
 refine gv (T1.out _) ?_;intro b7 d7;refine TG.go hK1 trivial (fun hS=>?_);clear hK1 K1 T1
 (try simp only [nS])
 refine TG.one (i:=14) ze rfl (fun K1 hK1=>?_)
 go_simp
 go_at_call 176
 refine gv (T2.out _) ?_;intro b8 d8;refine TG.go hK1 trivial (fun hS=>?_);clear hK1 K1 T2
 (try simp only [nS])
 refine TG.one (i:=15) ze rfl (fun K1 hK1=>?_)
 go_simp
 go_at_call 183
 refine gv (W.out _) ?_;intro b9 d9;refine TG.go hK1 trivial (fun hS=>?_);clear hK1 K1 W
 (try simp only [nS])
 refine TG.tkB 16 hS ?_;refine TG.tkB 17 hS ?_;refine TG.one (i:=18) ze rfl (fun K1 hK1=>?_)
 go_simp
 refine TG.go hK1 trivial (fun hS=>?_);clear hK1 K1
 (try simp only [nS])
 refine TG.one (i:=19) ze rfl (fun K1 hK1=>?_)
 go_simp
 refine hK1 _ _ (fun h=>absurd rfl h) (TG.done ze ?_);clear hK1 K1 hS
 (try simp only [nS])
 go_wp2_with fail
 go_returns
 exact⟨rfl,.of_below af⟩
theorem Iq(d m k n:Nat):d / Nat.gcd m d*(k / Nat.gcd n k)=iO d m k n:=by
 unfold iO;rw [Nat.gcd_comm m d,Nat.gcd_comm n k]
theorem mi(a b:Nat):(a:Int) / (b:Int)=((a / b:Nat):Int):=by simp
theorem nN(neg:Bool)(n d m k:Nat)(w:World)(h1:n<18446744073709551616)(h2:d<18446744073709551616)(h3:m<18446744073709551616)(h4:k<18446744073709551616)(hd:0<d)(hk:0<k) :
 Calls prog 185 #[.bool neg,.int .u64 n,.int .u64 d,.int .u64 m,.int .u64 k] w fun e w'=>e= .returned (frV (tN neg n d m k))/\w.Grows w':=by
 have g1:0<Nat.gcd n k:=Nat.gcd_pos_of_pos_right _ hk;have g2:0<Nat.gcd m d:=Nat.gcd_pos_of_pos_right _ hd;have b1:n / Nat.gcd n k<=n:=Nat.div_le_self _ _;have b2:m / Nat.gcd m d<=m:=Nat.div_le_self _ _;have b3:d / Nat.gcd m d<=d:=Nat.div_le_self _ _;have b4:k / Nat.gcd n k<=k:=Nat.div_le_self _ _
 refine tK neg n d m k (Nat.gcd n k:Nat) (Nat.gcd m d:Nat) (hiW (iO n k m d)) (loW (iO n k m d)) (hiW (iO d m k n)) (loW (iO d m k n)) _ _ _ w
  zg zg zb zb zb zb zb zb zb zb zb zb
  (fun w=>?_) (fun w=>?_) (fun w=>?_) (fun w=>?_) (fun w=>?_)
 ·have:=pO n k w zb zb zb zb;rw [CO]at this;exact Calls.quietD this
 ·have:=pO m d w zb zb zb zb;rw [CO]at this;exact Calls.quietD this
 ·rw [mi,mi];exact gP _ _ w zb zb
 ·rw [mi,mi,<-Iq];exact gP _ _ w zb zb
 ·have:=qZ neg (hiW (iO n k m d)) (loW (iO n k m d)) (hiW (iO d m k n)) (loW (iO d m k n)) w (Av _).1 (Av _).1;rw [GD]at this;exact this
end Go.Proofs.YtfoefpoaomepbaaGreatDoor
