import Derived.Test.YtcfpoofhokbhlaaGreatDoorVWide
set_option linter.all false
set_option maxHeartbeats 16000000
set_option maxRecDepth 1000000
namespace Go.Proofs.YtcfpoofhokbhlaaGreatDoor
open Tryz List
open Go.RowKit

theorem Calls.quiet_eq{P:Program}{f:FuncId}{args:Array Value}{w:World}{n:Nat}{v:Value}
 (h:Calls P f args (w.drewN n) fun e w'=>e= .returned v/\w.drewN n=w'):Calls P f args (w.drewN n) fun e w''=>e= .returned v/\∃m,w''=w.drewN m:=
 h.mono fun _ _ ⟨he,hm⟩=>⟨he,n,hm.symm⟩
theorem aB.form0{S:Nat->Prop}{w:World}{e:Ex}{v:Value}(h:aB S w e v):∃a cap,v= .slice a e.args.length cap:=by cases h;exact⟨_,_,rfl⟩
mutual
def aN:Ex->Bool
 | .mk o n d m s l=>decide ((l.length:Int)=aU o)&&
  (if o=1 then dG n d m&&s.toList.isEmpty
   else if o=2 then decide (n=0)&&decide (d=0)&&decide (m=0)&&fq s
   else if o=3 then decide (m=0)&&s.toList.isEmpty&&decide (d=1)&&decide (1<=n)&&decide (n<=45)
   else aX l&&(decide (n=0)&&decide (d=0)&&decide (m=0)&&s.toList.isEmpty))
def aX:List Ex->Bool
 | []=>true
 |e::r=>aN e&&aX r
end
theorem eP(e:Ex):aN e=(decide ((e.args.length:Int)=aU e.op)&&
 (if e.op=1 then dG e.num e.den e.dim&&e.name.toList.isEmpty
  else if e.op=2 then decide (e.num=0)&&decide (e.den=0)&&decide (e.dim=0)&&fq e.name
  else if e.op=3 then decide (e.dim=0)&&e.name.toList.isEmpty&&decide (e.den=1)&&decide (1<=e.num)&&decide (e.num<=45)
  else aX e.args&&(decide (e.num=0)&&decide (e.den=0)&&decide (e.dim=0)&&e.name.toList.isEmpty))):=by
 cases e;rw [aN];rfl
theorem vL(l:List Ex)(k:Nat)(h:k<l.length):aX (l.take (k+1))=(aX (l.take k)&&aN (l.getD k default)):=by
 induction l generalizing k with
 |nil=>simp at h
 |cons e r ih=>
  cases k with
  |zero=>simp [aX]
  |succ k=>simp only [take_succ_cons,aX,getD_cons_succ];rw [ih k zF,Bool.and_assoc]
theorem rF(l:List Ex)(k:Nat)(h:k<l.length)(hf:aN (l.getD k default)=false):aX l=false:=by
 induction l generalizing k with
 |nil=>simp at h
 |cons e r ih=>
  cases k with
  |zero=>simp only [getD_cons_zero]at hf;simp [aX,hf]
  |succ k=>simp only [getD_cons_succ]at hf;simp [aX,ih k zF hf]

theorem EQ
 (S:Nat->Prop) (e:Ex) (v:Value) (w:World) (h:aB S w e v)
 (hne:¬(e.args.length:Int)=aU e.op):(Calls prog 50 #[exV e v] w fun r w'=>r= .returned (.bool (aN e))/\w.Grows w'):=by
 have HF:Hid (aN e=false):=yq (by rw [eP,decide_eq_false hne,Bool.false_and]);have hr:=h.rng;obtain⟨a,cap,hv⟩:∃a cap,v= .slice a e.args.length cap:=by cases h;exact⟨_,_,rfl⟩
 subst hv;clear h;obtain⟨on,od⟩:=hr.num;obtain⟨pn,pd⟩:=hr.den;have hsz:=hr.name;clear hr;have h1:((e.args.length:Int)!=aU e.op)=true:=by simpa using hne
 clear hne
 go_enter func50,ntmps50
 go_wp2_with fail
 go_quiet ((go_at_call 67;exact Calls.quiet_eq (mO _ _)))
 go_wp2_with fail
 go_returns
 exact⟨au HF.out.symm,.of_below af⟩
theorem EP
 (S:Nat->Prop) (e:Ex) (v:Value) (w:World) (h:aB S w e v)
 (hle:(e.args.length:Int)=aU e.op) (ho:e.op=1):(Calls prog 50 #[exV e v] w fun r w'=>r= .returned (.bool (aN e))/\w.Grows w'):=by
 have HF:Hid (aN e=(dG e.num e.den e.dim&&e.name.toList.isEmpty)):=yq (by rw [eP,decide_eq_true hle,Bool.true_and,if_pos ho]);have hr:=h.rng;obtain⟨a,cap,hv⟩:∃a cap,v= .slice a e.args.length cap:=by cases h;exact⟨_,_,rfl⟩
 subst hv;clear h;obtain⟨on,od⟩:=hr.num;obtain⟨pn,pd⟩:=hr.den;have hsz:=hr.name;clear hr;have h1:((e.args.length:Int)!=aU 1)=false:=by rw [ho]at hle;simpa using hle
 clear hle
 go_enter func50,ntmps50
 go_wp2_with fail
 go_quiet ((go_at_call 67;exact Calls.quiet_eq (mO _ _)))
 go_wp2_with (go_at_call 68;refine gvq (pU _ _ _ _ ze ze ze ze) ?_;intro bs d;simp only [CY])
 all_goals
  go_returns
  exact⟨au yC,.of_below af⟩
theorem CF
 (S:Nat->Prop) (e:Ex) (v:Value) (w:World) (h:aB S w e v)
 (hle:(e.args.length:Int)=aU e.op) (ho:e.op=2):(Calls prog 50 #[exV e v] w fun r w'=>r= .returned (.bool (aN e))/\w.Grows w'):=by
 have HF:Hid (aN e=(decide (e.num=0)&&decide (e.den=0)&&decide (e.dim=0)&&fq e.name)):=yq (by rw [eP,decide_eq_true hle,Bool.true_and,if_neg ze,if_pos ho]);have hr:=h.rng;obtain⟨a,cap,hv⟩:∃a cap,v= .slice a e.args.length cap:=by cases h;exact⟨_,_,rfl⟩
 subst hv;clear h;obtain⟨on,od⟩:=hr.num;obtain⟨pn,pd⟩:=hr.den;have hsz:=hr.name;clear hr;have h1:((e.args.length:Int)!=aU 2)=false:=by rw [ho]at hle;simpa using hle
 clear hle;have hm:e.name.size<=maxLen:=by unfold maxLen;omega
 have HM:=yq hm;clear hm
 go_enter func50,ntmps50
 go_wp2_with fail
 go_quiet ((go_at_call 67;exact Calls.quiet_eq (mO _ _)))
 go_wp2_with (go_at_call 56;refine gw (vD _ _ HM.out) ?_)
 all_goals
  go_returns
  exact⟨au yC,.of_below af⟩
theorem CJ
 (S:Nat->Prop) (e:Ex) (v:Value) (w:World) (h:aB S w e v)
 (hle:(e.args.length:Int)=aU e.op) (ho:e.op=3):(Calls prog 50 #[exV e v] w fun r w'=>r= .returned (.bool (aN e))/\w.Grows w'):=by
 have HF:Hid (aN e=(decide (e.dim=0)&&e.name.toList.isEmpty&&decide (e.den=1)&&decide (1<=e.num)&&decide (e.num<=45))):=yq (by rw [eP,decide_eq_true hle,Bool.true_and,if_neg ze,if_neg ze,if_pos ho]);have hr:=h.rng;obtain⟨a,cap,hv⟩:∃a cap,v= .slice a e.args.length cap:=by cases h;exact⟨_,_,rfl⟩
 subst hv;clear h;obtain⟨on,od⟩:=hr.num;obtain⟨pn,pd⟩:=hr.den;have hsz:=hr.name;clear hr;have h1:((e.args.length:Int)!=aU 3)=false:=by rw [ho]at hle;simpa using hle
 clear hle
 go_enter func50,ntmps50
 go_wp2_with fail
 go_quiet ((go_at_call 67;exact Calls.quiet_eq (mO _ _)))
 go_wp2_with fail
 all_goals
  go_returns
  exact⟨au (by rw [HF.out];first|(simp [*];done)|(simp [*];intros;omega)),.of_below af⟩
def fT(e:Ex)(k:Nat):Bool:=aX (e.args.take k)
theorem O4(e:Ex):fT e 0=true:=rfl
theorem O5(e:Ex)(k:Nat)(h:k<e.args.length)(h1:fT e k=true)(h2:aN (e.arg k)=true):fT e (k+1)=true:=by
 unfold fT at *;rw [vL _ _ h,h1,Bool.true_and];exact h2
theorem CB(S:Nat->Prop)(n:Nat):∀(e:Ex),e.size<=n->∀(v:Value) (w:World),aB S w e v->(Calls prog 50 #[exV e v] w fun r w'=>r= .returned (.bool (aN e))/\w.Grows w'):=by
 induction n with
 |zero=>intro e he;have:=e.size_pos;omega
 |succ n ih=>
  intro e he v w h;by_cases hle:(e.args.length:Int)=aU e.op
  ·by_cases o1:e.op=1
   ·exact EP S e v w h hle o1
   ·by_cases o2:e.op=2
    ·exact CF S e v w h hle o2
    ·by_cases o3:e.op=3
     ·exact CJ S e v w h hle o3
     ·have HF:Hid (aN e=(aX e.args&&(decide (e.num=0)&&decide (e.den=0)&&decide (e.dim=0)&&e.name.toList.isEmpty))):=yq (by rw [eP,decide_eq_true hle,Bool.true_and,if_neg o1,if_neg o2,if_neg o3]);have IH:=yq ih;clear ih;have h1:((e.args.length:Int)!=aU e.op)=false:=by simpa using hle
      have p1:(e.op==1)=false:=by simpa using o1
      have p2:(e.op==2)=false:=by simpa using o2
      have p3:(e.op==3)=false:=by simpa using o3
      clear hle o1 o2 o3
      cases h with
      |mk _ a cap vs hr hc hs=>
       have hlen:=hr.len;have Hs:=yq hs;have He:=yq he;have Hc:=yq hc;clear hr hs he hc;generalize hz:(decide (e.num=0)&&decide (e.den=0)&&decide (e.dim=0)&&e.name.toList.isEmpty)=z at HF;have HZ:=yq hz;clear hz
       go_enter func50,ntmps50
       go_wp2_with fail
       go_quiet ((go_at_call 67;exact Calls.quiet_eq (mO _ _)))
       go_wp2_with fail
       all_goals
        go_loopw [6] (fun v6 wr=>∃k:Nat,k<=e.args.length/\v6= .int .i64 k/\Hid (fT e k=true)/\
         ∃x1 x2 x3:Int,World.Grows (w.alloc (.cells #[.int .i64 e.op,.int .i64 x1,.int .i64 x2,.int .i64 x3,.string e.name,.slice a e.args.length cap] 69)) wr) (fun v6 _=>e.args.length-(intOf v6).toNat)
        case atStart=>exact⟨0,by omega,rfl,yq (O4 e),_,_,_,.of_below af⟩
        case round=>
         obtain⟨k,hk,rfl,HT,x1,x2,x3,bs,d,rfl⟩:=hrel;by_cases hlt:k<e.args.length
         ·rcases Hc.out with h0|⟨b,off,rfl,hS,hbw,hx⟩
          ·omega
          ·obtain⟨y0,y1,y2,y3,y4,y5⟩:=hx k hlt;clear hx;have hlt1:(k:Int)<(e.args.length:Int):=by omega
           have HA:=yq (e.size_arg k hlt);cases hb:aN (e.arg k)
           ·have HB:=yq hb;clear hb
            go_wp2_with fail
            refine gvq (IH.out (e.arg k) zL (vs k) _ (((Hs.out k hlt).alloc _).grow _ _)) ?_;intro bs2 d2;simp only [HB.out]
            go_wp2_with fail
            go_returns
            exact⟨au (by rw [HF.out,rF _ k hlt HB.out,Bool.false_and]),.of_below af⟩
           ·have HB:=yq hb;clear hb
            go_wp2_with fail
            refine gvq (IH.out (e.arg k) zL (vs k) _ (((Hs.out k hlt).alloc _).grow _ _)) ?_;intro bs2 d2;simp only [HB.out]
            go_wp2_with fail
            go_roundw
            case rel=>exact⟨k+1,by omega,by go_num,yq (O5 e k hlt HT.out HB.out),x1,x2,x3,.of_below af⟩
            case measure=>simp [intOf];omega
         ·obtain rfl:k=e.args.length:=by omega
          have HT2:Hid (aX e.args=true):=yq (by have:=HT.out;unfold fT at this;rw [take_length]at this;exact this);clear HT
          go_wp2_with fail
          go_returns
          exact⟨au (by rw [HF.out,HT2.out,Bool.true_and,<-HZ.out];simp [*]),.of_below af⟩
  ·exact EQ S e v w h hle

theorem nY(S:Nat->Prop)(e:Ex)(v:Value)(w:World)(h:aB S w e v):(Calls prog 50 #[exV e v] w fun r w'=>r= .returned (.bool (aN e))/\w.Grows w'):=CB S e.size e (Nat.le_refl _) v w h
def cB(e:Ex):Bool:=decide (e.depth<=10)&&decide (e.size<=60)&&aN e
theorem ky(S:Nat->Prop)(e:Ex)(v:Value)(w:World)(h:Hid (aB S w e v))(hbig:Hid (e.size<=2305843009213693952)):Calls prog 25 #[exV e v] w fun r w'=>r= .returned (.bool (cB e))/\w.Grows w':=by
 obtain⟨a,cap,hv⟩:=h.out.form0;subst hv;by_cases c1:(e.depth:Int)<=10
 ·by_cases c2:(e.size:Int)<=60
  ·go_enter func25,ntmps25
   go_wp2_with ((first|(go_at_call 48;refine gvq (oH S e.size e (Nat.le_refl _) _ _ (h.out.alloc _) hbig) ?_;intro bs d)|(go_at_call 49;refine gvq (qW S e.size e (Nat.le_refl _) _ _ ((h.out.alloc _).grow _ _) hbig) ?_;intro bs2 d2)|(go_at_call 50;refine gvq (nY S e _ _ ((h.out.alloc _).grow _ _)) ?_;intro bs3 d3)))
   exact Rx
  ·go_enter func25,ntmps25
   go_wp2_with ((first|(go_at_call 48;refine gvq (oH S e.size e (Nat.le_refl _) _ _ (h.out.alloc _) hbig) ?_;intro bs d)|(go_at_call 49;refine gvq (qW S e.size e (Nat.le_refl _) _ _ ((h.out.alloc _).grow _ _) hbig) ?_;intro bs2 d2)|(go_at_call 50;refine gvq (nY S e _ _ ((h.out.alloc _).grow _ _)) ?_;intro bs3 d3)))
   exact Ru
 ·go_enter func25,ntmps25
  go_wp2_with ((first|(go_at_call 48;refine gvq (oH S e.size e (Nat.le_refl _) _ _ (h.out.alloc _) hbig) ?_;intro bs d)|(go_at_call 49;refine gvq (qW S e.size e (Nat.le_refl _) _ _ ((h.out.alloc _).grow _ _) hbig) ?_;intro bs2 d2)|(go_at_call 50;refine gvq (nY S e _ _ ((h.out.alloc _).grow _ _)) ?_;intro bs3 d3)))
  exact Rw
def Dw(n:Nat)(p:Nat->Bool)(r:Int):Prop:=(r= -1/\∀k,k<n->p k=false)\/∃k:Nat,k<n/\r=k/\p k=true
theorem Dw.any{n:Nat}{p:Nat->Bool}{r:Int}(h:Dw n p r):decide (0<=r)=(List.range n).any p:=by
 rcases h with ⟨rfl,h⟩|⟨k,hk,rfl,hp⟩
 ·symm;rw [show decide ((0:Int)<=-1)=false by decide,Bool.eq_false_iff];intro hc;obtain⟨k,hk,hp⟩:=any_eq_true.1 hc;rw [h k (mem_range.1 hk)]at hp;cases hp
 ·rw [decide_eq_true (show(0:Int)<=k by omega)];symm;exact any_eq_true.2 ⟨k,mem_range.2 hk,hp⟩
def Qd(S:Nat->Prop)(g:FuncId)(lb:Array Value)(e:Ex)(p:Nat->Bool)(w:World):Prop:=
 ∀k,k<e.args.length->∀a c w',w.Grows w'->aB S w' (e.arg k) (.slice a (e.arg k).args.length c)->Calls prog g (#[exV (e.arg k) (.slice a (e.arg k).args.length c)]++lb) w' fun r w''=>r= .returned (.bool (p k))/\w'.Grows w''
theorem aB.grows{S:Nat->Prop}{w w':World}{e:Ex}{v:Value}(h:aB S w e v)(hg:w.Grows w'):aB S w' e v:=by
 obtain⟨bs,d,rfl⟩:=hg;exact h.grow bs d
theorem LB(S:Nat->Prop)(g:FuncId)(lb:Array Value)(eg:∀args w,(callFunc g args).run prog w= .ok (.enter g args) w)(e:Ex)(v:Value)(p:Nat->Bool)(w:World)(h:aB S w e v)(hp:Hid (Qd S g lb e p w)) :
 Calls prog 144 #[v,.func (.func g) #[] lb] w fun r w'=>(∃z,r= .returned (.int .i64 z)/\Dw e.args.length p z)/\w.Grows w':=by
 cases h with
 |mk _ a cap vs hr hc hs=>
  have hlen:=hr.len;have Hs:=yq hs;have Hc:=yq hc;clear hr hs hc
  go_enter func144,ntmps144
  go_wp2_with fail
  go_loopw [5,8] (fun _ v8 wr=>∃k:Nat,k<=e.args.length/\v8= .int .i64 k/\Hid (∀j,j<k->p j=false)/\w.Grows wr) (fun _ v8 _=>e.args.length-(intOf v8).toNat)
  case atStart=>exact⟨0,by omega,rfl,yq (fun j hj=>by omega),.refl _⟩
  case round=>
   obtain⟨k,hk,rfl,hno,hgr⟩:=hrel;have HG:=yq hgr;obtain⟨bs,d,rfl⟩:=hgr;by_cases hlt2:k<e.args.length
   ·rcases Hc.out with h0|⟨b,off,rfl,hg,hbw,hx⟩
    ·omega
    ·obtain⟨x0,x1,x2,x3,x4,x5⟩:=hx k hlt2;clear hx;have hR:=Hs.out k hlt2;obtain⟨ak,ck,hvk⟩:=hR.form0;rw [hvk]at x5 hR;have d1:(k:Int)<(e.args.length:Int):=by omega
     have hcall:=hp.out k hlt2 ak ck _ HG.out (hR.grow bs d);have HLT:=yq hlt2;clear hR hvk
     cases hq:p k with
     |true=>
      rw [hq]at hcall;have HQ:=yq hq;clear hq;have HCL:=yq hcall;clear hcall
      go_wp2_with (go_at_fn g;refine HCL.out.mono ?_;rintro e' w' ⟨rfl,bs2,d2,rfl⟩)
      go_returns
      exact⟨⟨_,rfl,.inr ⟨k,HLT.out,rfl,HQ.out⟩⟩,.of_below af⟩
     |false=>
      rw [hq]at hcall;have HQ:=yq hq;clear hq;have HCL:=yq hcall;clear hcall
      go_wp2_with (go_at_fn g;refine HCL.out.mono ?_;rintro e' w' ⟨rfl,bs2,d2,rfl⟩)
      go_roundw
      case rel=>exact⟨k+1,by omega,by go_num,yq (fun j hj=>by
       by_cases ej:j=k
       ·subst ej;exact HQ.out
       ·exact hno.out j ze),.of_below af⟩
      case measure=>simp [intOf];omega
   ·obtain rfl:k=e.args.length:=by omega
    go_wp2_with fail
    go_returns
    exact⟨⟨_,rfl,.inl ⟨rfl,hno.out⟩⟩,.of_below af⟩
theorem nL(S:Nat->Prop)(g:FuncId)(lb:Array Value)(eg:∀args w,(callFunc g args).run prog w= .ok (.enter g args) w)(e:Ex)(v:Value)(p:Nat->Bool)(w:World)(h:aB S w e v)(hp:Hid (Qd S g lb e p w)) :
 Calls prog 121 #[v,.func (.func g) #[] lb] w fun r w'=>r= .returned (.bool ((List.range e.args.length).any p))/\w.Grows w':=by
 have HI:=yq (LB S g lb eg e v p w h hp);obtain⟨a,cap,rfl⟩:=h.form0;clear h hp;generalize hX:(List.range e.args.length).any p=X;have HX:=yq hX;clear hX
 go_enter func121,ntmps121
 go_wp2_with (go_at_call 144;refine HI.out.mono ?_;rintro e' w' ⟨⟨z,rfl,hz⟩,bs2,d2,rfl⟩;have HZ:=yq hz.any;clear hz)
 go_returns
 exact⟨au zV,.of_below af⟩
theorem oz(S:Nat->Prop)(n:Nat):∀(e:Ex),e.size<=n->∀(v:Value) (w:World),aB S w e v->Hid (e.size<=2305843009213693952)->
 Calls prog 160 #[exV e v] w fun r w'=>r= .returned (.int .i64 (e.size:Nat))/\w.Grows w':=by
 induction n with
 |zero=>intro e he;have:=e.size_pos;omega
 |succ n ih=>
  intro e he v w h hbig;have IH:=yq ih;clear ih
  cases h with
  |mk _ a cap vs hr hc hs=>
   have hlen:=hr.len;have Hs:=yq hs;have He:=yq he;have Hc:=yq hc;clear hr hs he hc
   go_enter func160,ntmps160
   go_wp2_with fail
   go_loopw [3,9] (fun v3 v4 wr=>∃k:Nat,k<=e.args.length/\v3= .int .i64 (szT e k)/\v4= .int .i64 k/\
    World.Grows (w.alloc (.cells #[.int .i64 e.op,.int .i64 e.num,.int .i64 e.den,.int .i64 e.dim,.string e.name,.slice a e.args.length cap] 69)) wr) (fun _ v4 _=>e.args.length-(intOf v4).toNat)
   case atStart=>exact⟨0,by omega,by rw [Bj],rfl,.refl _⟩
   case round=>
    obtain⟨k,hk,rfl,rfl,bs,d,rfl⟩:=hrel;have hb:=KD e k;have hb0:1<=szT e k:=hb.1;have hb1:szT e k<=2305843009213693952:=by have:=hbig.out;omega
    clear hb;by_cases hlt:k<e.args.length
    ·rcases Hc.out with h0|⟨b,off,rfl,hS,hbw,hx⟩
     ·omega
     ·obtain⟨x0,x1,x2,x3,x4,x5⟩:=hx k hlt;clear hx;have hR:=Hs.out k hlt;obtain⟨ak,ck,hvk⟩:=hR.form0;rw [hvk]at x5 hR;have HR:=yq hR;clear hR hvk;have hlt1:(k:Int)<(e.args.length:Int):=by omega
      have HN:=yq (Bl e k hlt);have HA:=yq (e.size_arg k hlt);have hs1:((e.arg k).size:Int)<=2305843009213693952:=by have:=hbig.out;have:=HA.out;omega
      go_wp2_with fail
      refine gvq (IH.out (e.arg k) zL (.slice ak _ ck) _ (((HR.out.alloc _).grow _ _).alloc _) yx) ?_;intro bs2 d2
      go_wp2_with fail
      go_roundw
      case rel=>exact⟨k+1,by omega,by rw [HN.out],by go_num,.of_below af⟩
      case measure=>simp [intOf];omega
    ·have HN:=yq (FH e k ze);obtain rfl:k=e.args.length:=by omega
     go_wp2_with fail
     go_returns
     exact⟨ret_int HN.out,.of_below af⟩

theorem mM(S:Nat->Prop)(n:Nat):∀(e:Ex),e.size<=n->∀(v:Value) (w:World),aB S w e v->Hid (e.size<=2305843009213693952)->
 Calls prog 159 #[exV e v] w fun r w'=>r= .returned (.int .i64 (e.depth:Nat))/\w.Grows w':=by
 induction n with
 |zero=>intro e he;have:=e.size_pos;omega
 |succ n ih=>
  intro e he v w h hbig;have IH:=yq ih;clear ih
  cases h with
  |mk _ a cap vs hr hc hs=>
   have hlen:=hr.len;have Hs:=yq hs;have He:=yq he;have Hc:=yq hc;clear hr hs he hc
   go_enter func159,ntmps159
   go_wp2_with fail
   go_loopw [3,9] (fun v3 v4 wr=>∃k:Nat,k<=e.args.length/\v3= .int .i64 (dpT e k)/\v4= .int .i64 k/\
    World.Grows (w.alloc (.cells #[.int .i64 e.op,.int .i64 e.num,.int .i64 e.den,.int .i64 e.dim,.string e.name,.slice a e.args.length cap] 69)) wr) (fun _ v4 _=>e.args.length-(intOf v4).toNat)
   case atStart=>exact⟨0,by omega,by rw [CQ],rfl,.refl _⟩
   case round=>
    obtain⟨k,hk,rfl,rfl,bs,d,rfl⟩:=hrel;have hb:=L9 e k;have hb0:0<=dpT e k:=hb.1;have hb1:dpT e k<=2305843009213693952:=by have:=hbig.out;omega
    clear hb;by_cases hlt:k<e.args.length
    ·rcases Hc.out with h0|⟨b,off,rfl,hS,hbw,hx⟩
     ·omega
     ·obtain⟨x0,x1,x2,x3,x4,x5⟩:=hx k hlt;clear hx;have hR:=Hs.out k hlt;obtain⟨ak,ck,hvk⟩:=hR.form0;rw [hvk]at x5 hR;have HR:=yq hR;clear hR hvk;have hlt1:(k:Int)<(e.args.length:Int):=by omega
      have HN:=yq (CR e k hlt);have HA:=yq (e.size_arg k hlt);have hs1:((e.arg k).depth:Int)<=2305843009213693952:=by have:=hbig.out;have:=HA.out;have:=(e.arg k).depth_size;omega
      go_wp2_with fail
      refine gvq (IH.out (e.arg k) zL (.slice ak _ ck) _ (((HR.out.alloc _).grow _ _).alloc _) yx) ?_;intro bs2 d2
      go_wp2_with fail
      go_roundw
      case rel=>exact⟨k+1,by omega,by rw [HN.out],by go_num,.of_below af⟩
      case measure=>simp [intOf];omega
    ·have HN:=yq (Gn e k ze);obtain rfl:k=e.args.length:=by omega
     go_wp2_with fail
     go_returns
     exact⟨ret_int HN.out,.of_below af⟩
theorem fu(c:Int)(w:World):Calls prog 198 #[.int .u8 c] w fun e w'=>e= .returned (.bool (uC c))/\w=w':=by
 by_cases c1:97<=c
 ·by_cases c2:c<=122
  ·go_enter func198,ntmps198
   go_wp2
   go_returns
   exact⟨au (by simp [uC,c1,c2]),rfl⟩
  ·go_enter func198,ntmps198
   exact M5
 ·go_enter func198,ntmps198
  exact M5
theorem iL(c:Int)(w:World):Calls prog 202 #[.int .u8 c] w fun e w'=>e= .returned (.bool (om c))/\w=w':=by
 by_cases c1:48<=c
 ·by_cases c2:c<=57
  ·go_enter func202,ntmps202
   go_wp2
   go_returns
   exact⟨au (by simp [om,c1,c2]),rfl⟩
  ·go_enter func202,ntmps202
   exact M4
 ·go_enter func202,ntmps202
  exact M4
def Ao(c:Int):Bool:=uC c || (om c || decide (c=95))
theorem iQ(c:Int)(w:World):Calls prog 199 #[.int .u8 c] w fun e w'=>e= .returned (.bool (Ao c))/\w=w':=by
 cases hL:uC c
 ·cases hD:om c
  ·by_cases hU:c=95
   ·subst hU
    go_enter func199,ntmps199
    go_wp2_with ((first|(go_at_call 198;(with_reducible refine gw (fu _ _) ?_);simp only [hL])|(go_at_call 202;(with_reducible refine gw (iL _ _) ?_);simp only [hD])))
    go_returns
    exact⟨au (by simp [Ao]),rfl⟩
   ·have hU2:(c==95)=false:=by simpa using hU
    go_enter func199,ntmps199
    go_wp2_with ((first|(go_at_call 198;(with_reducible refine gw (fu _ _) ?_);simp only [hL])|(go_at_call 202;(with_reducible refine gw (iL _ _) ?_);simp only [hD])))
    go_returns
    exact⟨au (by simp [Ao,hL,hD,hU]),rfl⟩
  ·go_enter func199,ntmps199
   go_wp2_with ((first|(go_at_call 198;(with_reducible refine gw (fu _ _) ?_);simp only [hL])|(go_at_call 202;(with_reducible refine gw (iL _ _) ?_);simp only [hD])))
   go_returns
   exact⟨au (by simp [Ao,hD]),rfl⟩
 ·go_enter func199,ntmps199
  go_wp2_with ((first|(go_at_call 198;(with_reducible refine gw (fu _ _) ?_);simp only [hL])|(go_at_call 202;(with_reducible refine gw (iL _ _) ?_);simp only [hD])))
  go_returns
  exact⟨au (by simp [Ao,hL]),rfl⟩
theorem J9{k:Nat}{c:Int}(h:Ao c=false):jb k c=false:=by
 simp only [Ao,Bool.or_eq_false_iff]at h;simp [jb,h.1,h.2.1,h.2.2]
theorem J8{k:Nat}{c:Int}(h:Ao c=true)(h0:k=0->uC c=true):jb k c=true:=by
 unfold jb;by_cases e:k=0
 ·simp [h0 e]
 ·have:(k !=0)=true:=by simpa using e
  rw [this,Bool.true_and];exact h
theorem Du(s:ByteArray)(w:World)(hs:s.size<=maxLen):Calls prog 192 #[.string s] w fun e w'=>e= .returned (.bool (isWord s))/\w=w':=by
 unfold maxLen at hs;have hI:True:=trivial;by_cases c1:1<=s.size
 ·by_cases c2:s.size<=12
  ·have c3:0<s.size:=by omega
   cases hL:uC (s[0].toNat:Int)
   ·go_enter func192,ntmps192
    go_wp2_with ((first|(go_at_call 198;(with_reducible refine gw (fu _ _) ?_);simp only [hL])|(go_at_call 199;(with_reducible refine gw (iQ _ _) ?_);simp only [hI])))
    go_ret
    exact⟨au (mZ s 0 ze (by simp [jb,hL])).symm,rfl⟩
   ·go_enter func192,ntmps192
    go_wp2_with ((first|(go_at_call 198;(with_reducible refine gw (fu _ _) ?_);simp only [hL])|(go_at_call 199;(with_reducible refine gw (iQ _ _) ?_);simp only [hI])))
    go_loop [3] (fun i=>∃k:Nat,k<=s.size/\i= .int .i64 k/\∀j,j<k->jb j (byt s j)=true) (fun i=>s.size-(intOf i).toNat)
    case atStart=>exact⟨0,Nat.zero_le _,rfl,fun j hj=>absurd hj (Nat.not_lt_zero _)⟩
    case round=>
     obtain⟨k,hk,rfl,hall⟩:=hrel;by_cases hk2:k<s.size
     ·clear hI;cases hI:Ao (s[k].toNat:Int)
      ·go_wp2_with ((first|(go_at_call 198;(with_reducible refine gw (fu _ _) ?_);simp only [hL])|(go_at_call 199;(with_reducible refine gw (iQ _ _) ?_);simp only [hI])))
       go_ret
       exact⟨au (mZ s k hk2 (J9 hI)).symm,rfl⟩
      ·go_wp2_with ((first|(go_at_call 198;(with_reducible refine gw (fu _ _) ?_);simp only [hL])|(go_at_call 199;(with_reducible refine gw (iQ _ _) ?_);simp only [hI])))
       go_round
       case rel=>exact⟨k+1,by omega,by go_num,fun i hi=>by
        by_cases e:i=k
        ·subst e;rw [vo s i hk2];exact J8 hI (fun e0=>by subst e0;exact hL)
        ·exact hall i ze⟩
       case measure=>simp [intOf];omega
     ·have:k=s.size:=by omega
      subst this
      go_wp2_with fail
      go_ret
      exact⟨au (by rw [nV s hall];simp [c1,c2]),rfl⟩
  ·have hL:True:=trivial;have hw:isWord s=false:=by unfold isWord;rw [decide_eq_false c2,Bool.and_false]
   have c4:12<(s.size:Int):=by omega
   exact RP
 ·have hL:True:=trivial;have hw:isWord s=false:=by unfold isWord;rw [decide_eq_false c1,Bool.and_false,Bool.false_and]
  have c4:(s.size:Int)<1:=by omega
  exact RP
theorem Am(s:ByteArray)(w:World):Calls prog 193 #[.string s] w fun e w'=>e= .returned (.bool (OT s))/\w=w':=by
 go_enter func193,ntmps193
 exact Rp
theorem BR(s:ByteArray)(w:World)(hs:s.size<=maxLen):Calls prog 182 #[.string s] w fun e w'=>e= .returned (.bool (fq s))/\w=w':=by
 cases hW:isWord s<;>
 ·go_enter func182,ntmps182
  go_wp2_with (first|(go_at_call 192;(with_reducible refine gw (Du _ _ zv) ?_);simp only [hW])|(go_at_call 193;(with_reducible refine gw (Am _ _) ?_)))
  go_returns
  exact⟨au (by simp [fq,hW]),rfl⟩
theorem jK(op:Int)(w:World):Calls prog 180 #[.int .i64 op] w fun e w'=>e= .returned (.int .i64 (aU op))/\w=w':=by
 go_enter func180,ntmps180
 go_wp2
 all_goals
  go_returns
  exact⟨ret_int (by unfold aU;(repeat' split)<;>first|omega|(simp_all;done)|(simp_all;omega)),rfl⟩
end Go.Proofs.YtcfpoofhokbhlaaGreatDoor
