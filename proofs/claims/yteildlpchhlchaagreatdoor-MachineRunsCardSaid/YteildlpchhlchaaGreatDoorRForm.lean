import Derived.Test.YteildlpchhlchaaGreatDoorRWide
import Derived.Shelf.Spec.BitsCarry
set_option linter.all false
set_option maxHeartbeats 16000000
set_option maxRecDepth 1000000
namespace Go.Proofs.YteildlpchhlchaaGreatDoor
open Tryz List
open Go.RowKit

theorem Calls.quiet_eq{P:Program}{f:FuncId}{args:Array Value}{w:World}{n:Nat}{v:Value}
 (h:Calls P f args (w.drewN n) fun e w'=>e= .returned v/\w.drewN n=w'):Calls P f args (w.drewN n) fun e w''=>e= .returned v/\∃m,w''=w.drewN m:=
 h.mono fun _ _ ⟨he,hm⟩=>⟨he,n,hm.symm⟩
theorem aT.form0{S:Nat->Prop}{w:World}{e:Ex}{v:Value}(h:aT S w e v):∃a cap,v= .slice a e.args.length cap:=by cases h;exact⟨_,_,rfl⟩
mutual
def aM:Ex->Bool
 | .mk o n d m s l=>decide ((l.length:Int)=aY o)&&
  (if o=1 then fB n d m&&s.toList.isEmpty
   else if o=2 then decide (n=0)&&decide (d=0)&&decide (m=0)&&ib s
   else if o=3 then decide (m=0)&&s.toList.isEmpty&&decide (d=1)&&decide (1<=n)&&decide (n<=45)
   else aW l&&(decide (n=0)&&decide (d=0)&&decide (m=0)&&s.toList.isEmpty))
def aW:List Ex->Bool
 | []=>true
 |e::r=>aM e&&aW r
end
theorem dn(e:Ex):aM e=(decide ((e.args.length:Int)=aY e.op)&&
 (if e.op=1 then fB e.num e.den e.dim&&e.name.toList.isEmpty
  else if e.op=2 then decide (e.num=0)&&decide (e.den=0)&&decide (e.dim=0)&&ib e.name
  else if e.op=3 then decide (e.dim=0)&&e.name.toList.isEmpty&&decide (e.den=1)&&decide (1<=e.num)&&decide (e.num<=45)
  else aW e.args&&(decide (e.num=0)&&decide (e.den=0)&&decide (e.dim=0)&&e.name.toList.isEmpty))):=by
 cases e;rw [aM];rfl
theorem uH(l:List Ex)(k:Nat)(h:k<l.length):aW (l.take (k+1))=(aW (l.take k)&&aM (l.getD k default)):=by
 induction l generalizing k with
 |nil=>simp at h
 |cons e r ih=>
  cases k with
  |zero=>simp [aW]
  |succ k=>simp only [take_succ_cons,aW,getD_cons_succ];rw [ih k zy,Bool.and_assoc]
theorem qG(l:List Ex)(k:Nat)(h:k<l.length)(hf:aM (l.getD k default)=false):aW l=false:=by
 induction l generalizing k with
 |nil=>simp at h
 |cons e r ih=>
  cases k with
  |zero=>simp only [getD_cons_zero]at hf;simp [aW,hf]
  |succ k=>simp only [getD_cons_succ]at hf;simp [aW,ih k zy hf]

theorem EG
 (S:Nat->Prop) (e:Ex) (v:Value) (w:World) (h:aT S w e v)
 (hne:¬(e.args.length:Int)=aY e.op):(Calls prog 77 #[exV e v] w fun r w'=>r= .returned (.bool (aM e))/\w.Grows w'):=by
 have HF:Hid (aM e=false):=yq (by rw [dn,decide_eq_false hne,Bool.false_and]);have hr:=h.rng;obtain⟨a,cap,hv⟩:∃a cap,v= .slice a e.args.length cap:=by cases h;exact⟨_,_,rfl⟩
 subst hv;clear h;obtain⟨on,od⟩:=hr.num;obtain⟨pn,pd⟩:=hr.den;have hsz:=hr.name;clear hr;have h1:((e.args.length:Int)!=aY e.op)=true:=by simpa using hne
 clear hne
 go_enter func77,ntmps77
 go_wp2_with fail
 go_quiet ((go_at_call 61;exact Calls.quiet_eq (jB _ _)))
 go_wp2_with fail
 go_returns
 exact⟨av HF.out.symm,.of_below au⟩
theorem EF
 (S:Nat->Prop) (e:Ex) (v:Value) (w:World) (h:aT S w e v)
 (hle:(e.args.length:Int)=aY e.op) (ho:e.op=1):(Calls prog 77 #[exV e v] w fun r w'=>r= .returned (.bool (aM e))/\w.Grows w'):=by
 have HF:Hid (aM e=(fB e.num e.den e.dim&&e.name.toList.isEmpty)):=yq (by rw [dn,decide_eq_true hle,Bool.true_and,if_pos ho]);have hr:=h.rng;obtain⟨a,cap,hv⟩:∃a cap,v= .slice a e.args.length cap:=by cases h;exact⟨_,_,rfl⟩
 subst hv;clear h;obtain⟨on,od⟩:=hr.num;obtain⟨pn,pd⟩:=hr.den;have hsz:=hr.name;clear hr;have h1:((e.args.length:Int)!=aY 1)=false:=by rw [ho]at hle;simpa using hle
 clear hle
 go_enter func77,ntmps77
 go_wp2_with fail
 go_quiet ((go_at_call 61;exact Calls.quiet_eq (jB _ _)))
 go_wp2_with (go_at_call 91;refine gvq (pE _ _ _ _ zb zb zb zb) ?_;intro bs d;simp only [CR])
 all_goals
  go_returns
  exact⟨av (by rw [HF.out];simp [*]),.of_below au⟩
theorem Cy
 (S:Nat->Prop) (e:Ex) (v:Value) (w:World) (h:aT S w e v)
 (hle:(e.args.length:Int)=aY e.op) (ho:e.op=2):(Calls prog 77 #[exV e v] w fun r w'=>r= .returned (.bool (aM e))/\w.Grows w'):=by
 have HF:Hid (aM e=(decide (e.num=0)&&decide (e.den=0)&&decide (e.dim=0)&&ib e.name)):=yq (by rw [dn,decide_eq_true hle,Bool.true_and,if_neg zb,if_pos ho]);have hr:=h.rng;obtain⟨a,cap,hv⟩:∃a cap,v= .slice a e.args.length cap:=by cases h;exact⟨_,_,rfl⟩
 subst hv;clear h;obtain⟨on,od⟩:=hr.num;obtain⟨pn,pd⟩:=hr.den;have hsz:=hr.name;clear hr;have h1:((e.args.length:Int)!=aY 2)=false:=by rw [ho]at hle;simpa using hle
 clear hle;have hm:e.name.size<=maxLen:=by unfold maxLen;omega
 have HM:=yq hm;clear hm
 go_enter func77,ntmps77
 go_wp2_with fail
 go_quiet ((go_at_call 61;exact Calls.quiet_eq (jB _ _)))
 go_wp2_with (go_at_call 46;refine gw (Fb _ _ HM.out) ?_)
 all_goals
  go_returns
  exact⟨av (by rw [HF.out];simp [*]),.of_below au⟩
theorem CE
 (S:Nat->Prop) (e:Ex) (v:Value) (w:World) (h:aT S w e v)
 (hle:(e.args.length:Int)=aY e.op) (ho:e.op=3):(Calls prog 77 #[exV e v] w fun r w'=>r= .returned (.bool (aM e))/\w.Grows w'):=by
 have HF:Hid (aM e=(decide (e.dim=0)&&e.name.toList.isEmpty&&decide (e.den=1)&&decide (1<=e.num)&&decide (e.num<=45))):=yq (by rw [dn,decide_eq_true hle,Bool.true_and,if_neg zb,if_neg zb,if_pos ho]);have hr:=h.rng;obtain⟨a,cap,hv⟩:∃a cap,v= .slice a e.args.length cap:=by cases h;exact⟨_,_,rfl⟩
 subst hv;clear h;obtain⟨on,od⟩:=hr.num;obtain⟨pn,pd⟩:=hr.den;have hsz:=hr.name;clear hr;have h1:((e.args.length:Int)!=aY 3)=false:=by rw [ho]at hle;simpa using hle
 clear hle
 go_enter func77,ntmps77
 go_wp2_with fail
 go_quiet ((go_at_call 61;exact Calls.quiet_eq (jB _ _)))
 go_wp2_with fail
 all_goals
  go_returns
  exact⟨av (by rw [HF.out];first|(simp [*];done)|(simp [*];intros;omega)),.of_below au⟩
def fT(e:Ex)(k:Nat):Bool:=aW (e.args.take k)
theorem OD(e:Ex):fT e 0=true:=rfl
theorem OE(e:Ex)(k:Nat)(h:k<e.args.length)(h1:fT e k=true)(h2:aM (e.arg k)=true):fT e (k+1)=true:=by
 unfold fT at *;rw [uH _ _ h,h1,Bool.true_and];exact h2
theorem Cw(S:Nat->Prop)(n:Nat):∀(e:Ex),e.size<=n->∀(v:Value) (w:World),aT S w e v->(Calls prog 77 #[exV e v] w fun r w'=>r= .returned (.bool (aM e))/\w.Grows w'):=by
 induction n with
 |zero=>intro e he;have:=e.size_pos;omega
 |succ n ih=>
  intro e he v w h;by_cases hle:(e.args.length:Int)=aY e.op
  ·by_cases o1:e.op=1
   ·exact EF S e v w h hle o1
   ·by_cases o2:e.op=2
    ·exact Cy S e v w h hle o2
    ·by_cases o3:e.op=3
     ·exact CE S e v w h hle o3
     ·have HF:Hid (aM e=(aW e.args&&(decide (e.num=0)&&decide (e.den=0)&&decide (e.dim=0)&&e.name.toList.isEmpty))):=yq (by rw [dn,decide_eq_true hle,Bool.true_and,if_neg o1,if_neg o2,if_neg o3]);have IH:=yq ih;clear ih;have h1:((e.args.length:Int)!=aY e.op)=false:=by simpa using hle
      have p1:(e.op==1)=false:=by simpa using o1
      have p2:(e.op==2)=false:=by simpa using o2
      have p3:(e.op==3)=false:=by simpa using o3
      clear hle o1 o2 o3
      cases h with
      |mk _ a cap vs hr hc hs=>
       have hlen:=hr.len;have Hs:=yq hs;have He:=yq he;have Hc:=yq hc;clear hr hs he hc;generalize hz:(decide (e.num=0)&&decide (e.den=0)&&decide (e.dim=0)&&e.name.toList.isEmpty)=z at HF;have HZ:=yq hz;clear hz
       go_enter func77,ntmps77
       go_wp2_with fail
       go_quiet ((go_at_call 61;exact Calls.quiet_eq (jB _ _)))
       go_wp2_with fail
       all_goals
        go_loopw [6] (fun v6 wr=>∃k:Nat,k<=e.args.length/\v6= .int .i64 k/\Hid (fT e k=true)/\
         ∃x1 x2 x3:Int,World.Grows (w.alloc (.cells #[.int .i64 e.op,.int .i64 x1,.int .i64 x2,.int .i64 x3,.string e.name,.slice a e.args.length cap] 27)) wr) (fun v6 _=>e.args.length-(intOf v6).toNat)
        case atStart=>exact⟨0,by omega,rfl,yq (OD e),_,_,_,.of_below au⟩
        case round=>
         obtain⟨k,hk,rfl,HT,x1,x2,x3,bs,d,rfl⟩:=hrel;by_cases hlt:k<e.args.length
         ·rcases Hc.out with h0|⟨b,off,rfl,hS,hbw,hx⟩
          ·omega
          ·obtain⟨y0,y1,y2,y3,y4,y5⟩:=hx k hlt;clear hx;have hlt1:(k:Int)<(e.args.length:Int):=by omega
           have HA:=yq (e.size_arg k hlt);cases hb:aM (e.arg k)
           ·have HB:=yq hb;clear hb
            go_wp2_with fail
            refine gvq (IH.out (e.arg k) zR (vs k) _ (((Hs.out k hlt).alloc _).grow _ _)) ?_;intro bs2 d2;simp only [HB.out]
            go_wp2_with fail
            go_returns
            exact⟨av (by rw [HF.out,qG _ k hlt HB.out,Bool.false_and]),.of_below au⟩
           ·have HB:=yq hb;clear hb
            go_wp2_with fail
            refine gvq (IH.out (e.arg k) zR (vs k) _ (((Hs.out k hlt).alloc _).grow _ _)) ?_;intro bs2 d2;simp only [HB.out]
            go_wp2_with fail
            go_roundw
            case rel=>exact⟨k+1,by omega,by go_num,yq (OE e k hlt HT.out HB.out),x1,x2,x3,.of_below au⟩
            case measure=>simp [intOf];omega
         ·obtain rfl:k=e.args.length:=by omega
          have HT2:Hid (aW e.args=true):=yq (by have:=HT.out;unfold fT at this;rw [take_length]at this;exact this);clear HT
          go_wp2_with fail
          go_returns
          exact⟨av (by rw [HF.out,HT2.out,Bool.true_and,<-HZ.out];simp [*]),.of_below au⟩
  ·exact EG S e v w h hle

theorem nK(S:Nat->Prop)(e:Ex)(v:Value)(w:World)(h:aT S w e v):(Calls prog 77 #[exV e v] w fun r w'=>r= .returned (.bool (aM e))/\w.Grows w'):=Cw S e.size e (Nat.le_refl _) v w h
def eF(e:Ex):Bool:=decide (e.depth<=10)&&decide (e.size<=60)&&aM e
theorem nz(S:Nat->Prop)(e:Ex)(v:Value)(w:World)(h:Hid (aT S w e v))(hbig:Hid (e.size<=2305843009213693952)):Calls prog 32 #[exV e v] w fun r w'=>r= .returned (.bool (eF e))/\w.Grows w':=by
 obtain⟨a,cap,hv⟩:=h.out.form0;subst hv;by_cases c1:(e.depth:Int)<=10
 ·by_cases c2:(e.size:Int)<=60
  ·go_enter func32,ntmps32
   go_wp2_with ((first|(go_at_call 76;refine gvq (nV S e.size e (Nat.le_refl _) _ _ (h.out.alloc _) hbig) ?_;intro bs d)|(go_at_call 17;refine gvq (qm S e.size e (Nat.le_refl _) _ _ ((h.out.alloc _).grow _ _) hbig) ?_;intro bs2 d2)|(go_at_call 77;refine gvq (nK S e _ _ ((h.out.alloc _).grow _ _)) ?_;intro bs3 d3)))
   exact RA
  ·go_enter func32,ntmps32
   go_wp2_with ((first|(go_at_call 76;refine gvq (nV S e.size e (Nat.le_refl _) _ _ (h.out.alloc _) hbig) ?_;intro bs d)|(go_at_call 17;refine gvq (qm S e.size e (Nat.le_refl _) _ _ ((h.out.alloc _).grow _ _) hbig) ?_;intro bs2 d2)|(go_at_call 77;refine gvq (nK S e _ _ ((h.out.alloc _).grow _ _)) ?_;intro bs3 d3)))
   exact Rv
 ·go_enter func32,ntmps32
  go_wp2_with ((first|(go_at_call 76;refine gvq (nV S e.size e (Nat.le_refl _) _ _ (h.out.alloc _) hbig) ?_;intro bs d)|(go_at_call 17;refine gvq (qm S e.size e (Nat.le_refl _) _ _ ((h.out.alloc _).grow _ _) hbig) ?_;intro bs2 d2)|(go_at_call 77;refine gvq (nK S e _ _ ((h.out.alloc _).grow _ _)) ?_;intro bs3 d3)))
  exact Rx
def MK(n:Nat)(p:Nat->Bool)(r:Int):Prop:=(r= -1/\∀k,k<n->p k=false)\/∃k:Nat,k<n/\r=k/\p k=true
theorem MK.any{n:Nat}{p:Nat->Bool}{r:Int}(h:MK n p r):decide (0<=r)=(List.range n).any p:=by
 rcases h with ⟨rfl,h⟩|⟨k,hk,rfl,hp⟩
 ·symm;rw [show decide ((0:Int)<=-1)=false by decide,Bool.eq_false_iff];intro hc;obtain⟨k,hk,hp⟩:=any_eq_true.1 hc;rw [h k (mem_range.1 hk)]at hp;cases hp
 ·rw [decide_eq_true (show(0:Int)<=k by omega)];symm;exact any_eq_true.2 ⟨k,mem_range.2 hk,hp⟩
def PP(S:Nat->Prop)(g:FuncId)(lb:Array Value)(e:Ex)(p:Nat->Bool)(w:World):Prop:=
 ∀k,k<e.args.length->∀a c w',w.Grows w'->aT S w' (e.arg k) (.slice a (e.arg k).args.length c)->Calls prog g (#[exV (e.arg k) (.slice a (e.arg k).args.length c)]++lb) w' fun r w''=>r= .returned (.bool (p k))/\w'.Grows w''
theorem aT.grows{S:Nat->Prop}{w w':World}{e:Ex}{v:Value}(h:aT S w e v)(hg:w.Grows w'):aT S w' e v:=by
 obtain⟨bs,d,rfl⟩:=hg;exact h.grow bs d
theorem LA(S:Nat->Prop)(g:FuncId)(lb:Array Value)(eg:∀args w,(callFunc g args).run prog w= .ok (.enter g args) w)(e:Ex)(v:Value)(p:Nat->Bool)(w:World)(h:aT S w e v)(hp:Hid (PP S g lb e p w)) :
 Calls prog 200 #[v,.func (.func g) #[] lb] w fun r w'=>(∃z,r= .returned (.int .i64 z)/\MK e.args.length p z)/\w.Grows w':=by
 cases h with
 |mk _ a cap vs hr hc hs=>
  have hlen:=hr.len;have Hs:=yq hs;have Hc:=yq hc;clear hr hs hc
  go_enter func200,ntmps200
  go_wp2_with fail
  go_loopw [5,8] (fun _ v8 wr=>∃k:Nat,k<=e.args.length/\v8= .int .i64 k/\Hid (∀j,j<k->p j=false)/\w.Grows wr) (fun _ v8 _=>e.args.length-(intOf v8).toNat)
  case atStart=>exact⟨0,by omega,rfl,yq (fun j hj=>by omega),.refl _⟩
  case round=>
   obtain⟨k,hk,rfl,hno,hgr⟩:=hrel;have HG:=yq hgr;obtain⟨bs,d,rfl⟩:=hgr;by_cases hlt2:k<e.args.length
   ·rcases Hc.out with h0|⟨b,off,rfl,hg,hbw,hx⟩
    ·omega
    ·obtain⟨x0,x1,x2,x3,x4,x5⟩:=hx k hlt2;clear hx;have hR:=Hs.out k hlt2;obtain⟨ak,ck,hvk⟩:=hR.form0;rw [hvk]at x5 hR;have d1:(k:Int)<(e.args.length:Int):=by omega
     have hcall:=hp.out k hlt2 ak ck _ HG.out (hR.grow bs d);have HLT:=yq hlt2;clear hR hvk
     cases hq:p k with
     |true=>
      rw [hq]at hcall;have HQ:=yq hq;clear hq;have HCL:=yq hcall;clear hcall
      go_wp2_with (go_at_fn g;refine HCL.out.mono ?_;rintro e' w' ⟨rfl,bs2,d2,rfl⟩)
      go_returns
      exact⟨⟨_,rfl,.inr ⟨k,HLT.out,rfl,HQ.out⟩⟩,.of_below au⟩
     |false=>
      rw [hq]at hcall;have HQ:=yq hq;clear hq;have HCL:=yq hcall;clear hcall
      go_wp2_with (go_at_fn g;refine HCL.out.mono ?_;rintro e' w' ⟨rfl,bs2,d2,rfl⟩)
      go_roundw
      case rel=>exact⟨k+1,by omega,by go_num,yq (fun j hj=>by
       by_cases ej:j=k
       ·subst ej;exact HQ.out
       ·exact hno.out j zb),.of_below au⟩
      case measure=>simp [intOf];omega
   ·obtain rfl:k=e.args.length:=by omega
    go_wp2_with fail
    go_returns
    exact⟨⟨_,rfl,.inl ⟨rfl,hno.out⟩⟩,.of_below au⟩
theorem uK(S:Nat->Prop)(g:FuncId)(lb:Array Value)(eg:∀args w,(callFunc g args).run prog w= .ok (.enter g args) w)(e:Ex)(v:Value)(p:Nat->Bool)(w:World)(h:aT S w e v)(hp:Hid (PP S g lb e p w)) :
 Calls prog 148 #[v,.func (.func g) #[] lb] w fun r w'=>r= .returned (.bool ((List.range e.args.length).any p))/\w.Grows w':=by
 have HI:=yq (LA S g lb eg e v p w h hp);obtain⟨a,cap,rfl⟩:=h.form0;clear h hp;generalize hX:(List.range e.args.length).any p=X;have HX:=yq hX;clear hX
 go_enter func148,ntmps148
 go_wp2_with (go_at_call 200;refine HI.out.mono ?_;rintro e' w' ⟨⟨z,rfl,hz⟩,bs2,d2,rfl⟩;have HZ:=yq hz.any;clear hz)
 go_returns
 exact⟨av xe,.of_below au⟩
theorem nT(S:Nat->Prop)(n:Nat):∀(e:Ex),e.size<=n->∀(v:Value) (w:World),aT S w e v->Hid (e.size<=2305843009213693952)->
 Calls prog 85 #[exV e v] w fun r w'=>r= .returned (.int .i64 (e.size:Nat))/\w.Grows w':=by
 induction n with
 |zero=>intro e he;have:=e.size_pos;omega
 |succ n ih=>
  intro e he v w h hbig;have IH:=yq ih;clear ih
  cases h with
  |mk _ a cap vs hr hc hs=>
   have hlen:=hr.len;have Hs:=yq hs;have He:=yq he;have Hc:=yq hc;clear hr hs he hc
   go_enter func85,ntmps85
   go_wp2_with fail
   go_loopw [3,9] (fun v3 v4 wr=>∃k:Nat,k<=e.args.length/\v3= .int .i64 (szT e k)/\v4= .int .i64 k/\
    World.Grows (w.alloc (.cells #[.int .i64 e.op,.int .i64 e.num,.int .i64 e.den,.int .i64 e.dim,.string e.name,.slice a e.args.length cap] 27)) wr) (fun _ v4 _=>e.args.length-(intOf v4).toNat)
   case atStart=>exact⟨0,by omega,by rw [A8],rfl,.refl _⟩
   case round=>
    obtain⟨k,hk,rfl,rfl,bs,d,rfl⟩:=hrel;have hb:=JW e k;have hb0:1<=szT e k:=hb.1;have hb1:szT e k<=2305843009213693952:=by have:=hbig.out;omega
    clear hb;by_cases hlt:k<e.args.length
    ·rcases Hc.out with h0|⟨b,off,rfl,hS,hbw,hx⟩
     ·omega
     ·obtain⟨x0,x1,x2,x3,x4,x5⟩:=hx k hlt;clear hx;have hR:=Hs.out k hlt;obtain⟨ak,ck,hvk⟩:=hR.form0;rw [hvk]at x5 hR;have HR:=yq hR;clear hR hvk;have hlt1:(k:Int)<(e.args.length:Int):=by omega
      have HN:=yq (A9 e k hlt);have HA:=yq (e.size_arg k hlt);have hs1:((e.arg k).size:Int)<=2305843009213693952:=by have:=hbig.out;have:=HA.out;omega
      go_wp2_with fail
      refine gvq (IH.out (e.arg k) zR (.slice ak _ ck) _ (((HR.out.alloc _).grow _ _).alloc _) yu) ?_;intro bs2 d2
      go_wp2_with fail
      go_roundw
      case rel=>exact⟨k+1,by omega,by rw [HN.out],by go_num,.of_below au⟩
      case measure=>simp [intOf];omega
    ·have HN:=yq (Fs e k zb);obtain rfl:k=e.args.length:=by omega
     go_wp2_with fail
     go_returns
     exact⟨ret_int HN.out,.of_below au⟩

theorem mo(S:Nat->Prop)(n:Nat):∀(e:Ex),e.size<=n->∀(v:Value) (w:World),aT S w e v->Hid (e.size<=2305843009213693952)->
 Calls prog 84 #[exV e v] w fun r w'=>r= .returned (.int .i64 (e.depth:Nat))/\w.Grows w':=by
 induction n with
 |zero=>intro e he;have:=e.size_pos;omega
 |succ n ih=>
  intro e he v w h hbig;have IH:=yq ih;clear ih
  cases h with
  |mk _ a cap vs hr hc hs=>
   have hlen:=hr.len;have Hs:=yq hs;have He:=yq he;have Hc:=yq hc;clear hr hs he hc
   go_enter func84,ntmps84
   go_wp2_with fail
   go_loopw [3,9] (fun v3 v4 wr=>∃k:Nat,k<=e.args.length/\v3= .int .i64 (dpT e k)/\v4= .int .i64 k/\
    World.Grows (w.alloc (.cells #[.int .i64 e.op,.int .i64 e.num,.int .i64 e.den,.int .i64 e.dim,.string e.name,.slice a e.args.length cap] 27)) wr) (fun _ v4 _=>e.args.length-(intOf v4).toNat)
   case atStart=>exact⟨0,by omega,by rw [CK],rfl,.refl _⟩
   case round=>
    obtain⟨k,hk,rfl,rfl,bs,d,rfl⟩:=hrel;have hb:=LV e k;have hb0:0<=dpT e k:=hb.1;have hb1:dpT e k<=2305843009213693952:=by have:=hbig.out;omega
    clear hb;by_cases hlt:k<e.args.length
    ·rcases Hc.out with h0|⟨b,off,rfl,hS,hbw,hx⟩
     ·omega
     ·obtain⟨x0,x1,x2,x3,x4,x5⟩:=hx k hlt;clear hx;have hR:=Hs.out k hlt;obtain⟨ak,ck,hvk⟩:=hR.form0;rw [hvk]at x5 hR;have HR:=yq hR;clear hR hvk;have hlt1:(k:Int)<(e.args.length:Int):=by omega
      have HN:=yq (CL e k hlt);have HA:=yq (e.size_arg k hlt);have hs1:((e.arg k).depth:Int)<=2305843009213693952:=by have:=hbig.out;have:=HA.out;have:=(e.arg k).depth_size;omega
      go_wp2_with fail
      refine gvq (IH.out (e.arg k) zR (.slice ak _ ck) _ (((HR.out.alloc _).grow _ _).alloc _) yu) ?_;intro bs2 d2
      go_wp2_with fail
      go_roundw
      case rel=>exact⟨k+1,by omega,by rw [HN.out],by go_num,.of_below au⟩
      case measure=>simp [intOf];omega
    ·have HN:=yq (F7 e k zb);obtain rfl:k=e.args.length:=by omega
     go_wp2_with fail
     go_returns
     exact⟨ret_int HN.out,.of_below au⟩
theorem eX(c:Int)(w:World):Calls prog 210 #[.int .u8 c] w fun e w'=>e= .returned (.bool (sP c))/\w=w':=by
 by_cases c1:97<=c
 ·by_cases c2:c<=122
  ·go_enter func210,ntmps210
   go_wp2
   go_returns
   exact⟨av (by simp [sP,c1,c2]),rfl⟩
  ·go_enter func210,ntmps210
   exact M9
 ·go_enter func210,ntmps210
  exact M9
theorem kV(c:Int)(w:World):Calls prog 227 #[.int .u8 c] w fun e w'=>e= .returned (.bool (Ay c))/\w=w':=by
 by_cases c1:48<=c
 ·by_cases c2:c<=57
  ·go_enter func227,ntmps227
   go_wp2
   go_returns
   exact⟨av (by simp [Ay,c1,c2]),rfl⟩
  ·go_enter func227,ntmps227
   exact M8
 ·go_enter func227,ntmps227
  exact M8
def Am(c:Int):Bool:=sP c || (Ay c || decide (c=95))
theorem iR(c:Int)(w:World):Calls prog 211 #[.int .u8 c] w fun e w'=>e= .returned (.bool (Am c))/\w=w':=by
 cases hL:sP c
 ·cases hD:Ay c
  ·by_cases hU:c=95
   ·subst hU
    go_enter func211,ntmps211
    go_wp2_with ((first|(go_at_call 210;(with_reducible refine gw (eX _ _) ?_);simp only [hL])|(go_at_call 227;(with_reducible refine gw (kV _ _) ?_);simp only [hD])))
    go_returns
    exact⟨av (by simp [Am]),rfl⟩
   ·have hU2:(c==95)=false:=by simpa using hU
    go_enter func211,ntmps211
    go_wp2_with ((first|(go_at_call 210;(with_reducible refine gw (eX _ _) ?_);simp only [hL])|(go_at_call 227;(with_reducible refine gw (kV _ _) ?_);simp only [hD])))
    go_returns
    exact⟨av (by simp [Am,hL,hD,hU]),rfl⟩
  ·go_enter func211,ntmps211
   go_wp2_with ((first|(go_at_call 210;(with_reducible refine gw (eX _ _) ?_);simp only [hL])|(go_at_call 227;(with_reducible refine gw (kV _ _) ?_);simp only [hD])))
   go_returns
   exact⟨av (by simp [Am,hD]),rfl⟩
 ·go_enter func211,ntmps211
  go_wp2_with ((first|(go_at_call 210;(with_reducible refine gw (eX _ _) ?_);simp only [hL])|(go_at_call 227;(with_reducible refine gw (kV _ _) ?_);simp only [hD])))
  go_returns
  exact⟨av (by simp [Am,hL]),rfl⟩
theorem JO{k:Nat}{c:Int}(h:Am c=false):iY k c=false:=by
 simp only [Am,Bool.or_eq_false_iff]at h;simp [iY,h.1,h.2.1,h.2.2]
theorem JN{k:Nat}{c:Int}(h:Am c=true)(h0:k=0->sP c=true):iY k c=true:=by
 unfold iY;by_cases e:k=0
 ·simp [h0 e]
 ·have:(k !=0)=true:=by simpa using e
  rw [this,Bool.true_and];exact h
theorem qN(s:ByteArray)(w:World)(hs:s.size<=maxLen):Calls prog 167 #[.string s] w fun e w'=>e= .returned (.bool (isWord s))/\w=w':=by
 unfold maxLen at hs;have hI:True:=trivial;by_cases c1:1<=s.size
 ·by_cases c2:s.size<=12
  ·have c3:0<s.size:=by omega
   cases hL:sP (s[0].toNat:Int)
   ·go_enter func167,ntmps167
    go_wp2_with ((first|(go_at_call 210;(with_reducible refine gw (eX _ _) ?_);simp only [hL])|(go_at_call 211;(with_reducible refine gw (iR _ _) ?_);simp only [hI])))
    go_ret
    exact⟨av (mJ s 0 zb (by simp [iY,hL])).symm,rfl⟩
   ·go_enter func167,ntmps167
    go_wp2_with ((first|(go_at_call 210;(with_reducible refine gw (eX _ _) ?_);simp only [hL])|(go_at_call 211;(with_reducible refine gw (iR _ _) ?_);simp only [hI])))
    go_loop [3] (fun i=>∃k:Nat,k<=s.size/\i= .int .i64 k/\∀j,j<k->iY j (byt s j)=true) (fun i=>s.size-(intOf i).toNat)
    case atStart=>exact⟨0,Nat.zero_le _,rfl,fun j hj=>absurd hj (Nat.not_lt_zero _)⟩
    case round=>
     obtain⟨k,hk,rfl,hall⟩:=hrel;by_cases hk2:k<s.size
     ·clear hI;cases hI:Am (s[k].toNat:Int)
      ·go_wp2_with ((first|(go_at_call 210;(with_reducible refine gw (eX _ _) ?_);simp only [hL])|(go_at_call 211;(with_reducible refine gw (iR _ _) ?_);simp only [hI])))
       go_ret
       exact⟨av (mJ s k hk2 (JO hI)).symm,rfl⟩
      ·go_wp2_with ((first|(go_at_call 210;(with_reducible refine gw (eX _ _) ?_);simp only [hL])|(go_at_call 211;(with_reducible refine gw (iR _ _) ?_);simp only [hI])))
       go_round
       case rel=>exact⟨k+1,by omega,by go_num,fun i hi=>by
        by_cases e:i=k
        ·subst e;rw [ui s i hk2];exact JN hI (fun e0=>by subst e0;exact hL)
        ·exact hall i zb⟩
       case measure=>simp [intOf];omega
     ·have:k=s.size:=by omega
      subst this
      go_wp2_with fail
      go_ret
      exact⟨av (by rw [nI s hall];simp [c1,c2]),rfl⟩
  ·have hL:True:=trivial;have hw:isWord s=false:=by unfold isWord;rw [decide_eq_false c2,Bool.and_false]
   have c4:12<(s.size:Int):=by omega
   exact RQ
 ·have hL:True:=trivial;have hw:isWord s=false:=by unfold isWord;rw [decide_eq_false c1,Bool.and_false,Bool.false_and]
  have c4:(s.size:Int)<1:=by omega
  exact RQ
theorem Al(s:ByteArray)(w:World):Calls prog 221 #[.string s] w fun e w'=>e= .returned (.bool (Oo s))/\w=w':=by
 go_enter func221,ntmps221
 exact Rp
theorem Cf(s:ByteArray)(w:World)(hs:s.size<=maxLen):Calls prog 199 #[.string s] w fun e w'=>e= .returned (.bool (ib s))/\w=w':=by
 cases hW:isWord s<;>
 ·go_enter func199,ntmps199
  go_wp2_with (first|(go_at_call 167;(with_reducible refine gw (qN _ _ zm) ?_);simp only [hW])|(go_at_call 221;(with_reducible refine gw (Al _ _) ?_)))
  go_returns
  exact⟨av (by simp [ib,hW]),rfl⟩
theorem kX(op:Int)(w:World):Calls prog 198 #[.int .i64 op] w fun e w'=>e= .returned (.int .i64 (aY op))/\w=w':=by
 go_enter func198,ntmps198
 go_wp2
 all_goals
  go_returns
  exact⟨ret_int (by unfold aY;(repeat' split)<;>first|omega|(simp_all;done)|(simp_all;omega)),rfl⟩

theorem ik(a b:Nat)(w:World)(h1:a<18446744073709551616)(h2:b<18446744073709551616) :
 Calls prog 182 #[.int .u64 a,.int .u64 b] w fun e w'=>e= .returned (.agg #[.int .u64 (hiW (a*b)),.int .u64 (loW (a*b))])/\w.Grows w':=by
 have H:Hid (∀w,Calls prog 207 #[.int .u64 a,.int .u64 b] w fun e w'=>e= .returned (.tuple #[.int .u64 (hiW (a*b)),.int .u64 (loW (a*b))])/\w'=w):=bits_Mul64 a b h1 h2;generalize a*b=n at *
 go_enter func182,ntmps182
 go_wp2_with fail
 refine gw (H.out _) ?_;clear H
 go_wp2_with fail
 go_returns
 exact⟨rfl,.of_below au⟩
theorem xQ(x y c:Nat)(hc:c<=1)(w:World):(callFunc 208 #[.int .u64 x,.int .u64 y,.int .u64 c]).run prog w=
 .ok (.value (.tuple #[.int .u64 (((x+y+c) % 18446744073709551616:Nat):Int),.int .u64 (((x+y+c) / 18446744073709551616:Nat):Int)])) w:=by
 rw [run_callFunc_extern func208 zd zd zd (e:=add64Entry) zd,run_add64 x y c zb zb zb zb];simp only [Result.andThen]
 congr 5<;>omega
theorem pI(x y b:Nat)(hb:b<=1)(w:World):(callFunc 209 #[.int .u64 x,.int .u64 y,.int .u64 b]).run prog w=
 .ok (.value (.tuple #[.int .u64 (((x+18446744073709551616-y-b) % 18446744073709551616:Nat):Int),.int .u64 ((if x<y+b then 1 else 0:Nat):Int)])) w:=by
 rw [run_callFunc_extern func209 zd zd zd (e:=sub64Entry) zd,run_sub64 x y b hb];rfl
def hiN(n:Nat):Nat:=n / 18446744073709551616
def loN(n:Nat):Nat:=n % 18446744073709551616
theorem Jr(a b:Nat)(h:a+b<340282366920938463463374607431768211456) :
 (loN a+loN b+0) % 18446744073709551616=loN (a+b)/\(loN a+loN b+0) / 18446744073709551616<=1/\(hiN a+hiN b+(loN a+loN b+0) / 18446744073709551616) % 18446744073709551616=hiN (a+b):=by
 unfold loN hiN;omega
theorem vo(a b:Nat)(h:b<=a)(ha:a<340282366920938463463374607431768211456) :
 (loN a+18446744073709551616-loN b-0) % 18446744073709551616=loN (a-b)/\(if loN a<loN b+0 then 1 else 0)<=1/\(hiN a+18446744073709551616-hiN b-(if loN a<loN b+0 then 1 else 0)) % 18446744073709551616=hiN (a-b):=by
 unfold loN hiN;split<;>omega
theorem GU(a b:Nat)(w:World)(h:a+b<340282366920938463463374607431768211456) :
 Calls prog 183 #[.agg #[.int .u64 (hiW a),.int .u64 (loW a)],.agg #[.int .u64 (hiW b),.int .u64 (loW b)]] w fun e w'=>e= .returned (.agg #[.int .u64 (hiW (a+b)),.int .u64 (loW (a+b))])/\w.Grows w':=by
 obtain⟨e1,e2,e3⟩:=Jr a b h;obtain⟨c,hc⟩:∃c,(loN a+loN b+0) / 18446744073709551616=c:=⟨_,rfl⟩
 have ha:∀w,(callFunc 208 #[.int .u64 (loW a),.int .u64 (loW b),.int .u64 0]).run prog w= .ok (.value (.tuple #[.int .u64 (loW (a+b)),.int .u64 (c:Int)])) w:=by
  intro w;have:=xQ (loN a) (loN b) 0 zb w;rw [e1,hc]at this;exact this
 have hb:∀w,(callFunc 208 #[.int .u64 (hiW a),.int .u64 (hiW b),.int .u64 (c:Int)]).run prog w= .ok (.value (.tuple #[.int .u64 (hiW (a+b)),.int .u64 ((hiN a+hiN b+c) / 18446744073709551616:Nat)])) w:=by
  intro w;have:=xQ (hiN a) (hiN b) c zb w;rw [<-hc,e3,hc]at this;exact this
 generalize(((hiN a+hiN b+c) / 18446744073709551616:Nat):Int)=z at *;generalize(c:Int)=c' at *;clear e1 e2 e3 hc h;generalize hiW a=A at *;generalize hiW b=B at *;generalize loW a=La at *;generalize loW b=Lb at *;generalize hiW (a+b)=S at *;generalize loW (a+b)=T at *
 go_enter func183,ntmps183
 go_wp2_with fail
 go_returns
 exact⟨rfl,.of_below au⟩
theorem sM(a b:Nat)(w:World)(h:b<=a)(h2:a<340282366920938463463374607431768211456) :
 Calls prog 185 #[.agg #[.int .u64 (hiW a),.int .u64 (loW a)],.agg #[.int .u64 (hiW b),.int .u64 (loW b)]] w fun e w'=>e= .returned (.agg #[.int .u64 (hiW (a-b)),.int .u64 (loW (a-b))])/\w.Grows w':=by
 obtain⟨e1,e2,e3⟩:=vo a b h h2;obtain⟨c,hc⟩:∃c,(if loN a<loN b+0 then 1 else 0)=c:=⟨_,rfl⟩
 have ha:∀w,(callFunc 209 #[.int .u64 (loW a),.int .u64 (loW b),.int .u64 0]).run prog w= .ok (.value (.tuple #[.int .u64 (loW (a-b)),.int .u64 (c:Int)])) w:=by
  intro w;have:=pI (loN a) (loN b) 0 zb w;rw [e1,hc]at this;exact this
 have hb:∀w,(callFunc 209 #[.int .u64 (hiW a),.int .u64 (hiW b),.int .u64 (c:Int)]).run prog w= .ok (.value (.tuple #[.int .u64 (hiW (a-b)),.int .u64 ((if hiN a<hiN b+c then 1 else 0:Nat):Int)])) w:=by
  intro w;have:=pI (hiN a) (hiN b) c zb w;rw [<-hc,e3,hc]at this;exact this
 generalize((if hiN a<hiN b+c then 1 else 0:Nat):Int)=z at *;generalize(c:Int)=c' at *;clear e1 e2 e3 hc h h2;generalize hiW a=A at *;generalize hiW b=B at *;generalize loW a=La at *;generalize loW b=Lb at *;generalize hiW (a-b)=S at *;generalize loW (a-b)=T at *
 go_enter func185,ntmps185
 go_wp2_with fail
 go_returns
 exact⟨rfl,.of_below au⟩
theorem LD(a b:Nat)(h:b<=a)(ha:a<340282366920938463463374607431768211456):IntKind.u64.wrap (IntKind.u64.wrap (hiW a-hiW b)-((if loN a<loN b+0 then 1 else 0:Nat):Int))=hiW (a-b):=by
 simp only [IntKind.wrap_u64];unfold hiW loN
 split<;>omega
theorem sN(a b:Nat)(w:World)(h:b<=a)(h2:a<340282366920938463463374607431768211456) :
 Calls prog 165 #[.agg #[.int .u64 (hiW a),.int .u64 (loW a)],.agg #[.int .u64 (hiW b),.int .u64 (loW b)]] w fun e w'=>e= .returned (.agg #[.int .u64 (hiW (a-b)),.int .u64 (loW (a-b))])/\w.Grows w':=by
 have hp:=LD a b h h2;obtain⟨e1,e2,e3⟩:=vo a b h h2;obtain⟨c,hc⟩:∃c,(if loN a<loN b+0 then 1 else 0)=c:=⟨_,rfl⟩
 have ha:∀w,(callFunc 209 #[.int .u64 (loW a),.int .u64 (loW b),.int .u64 0]).run prog w= .ok (.value (.tuple #[.int .u64 (loW (a-b)),.int .u64 (c:Int)])) w:=by
  intro w;have:=pI (loN a) (loN b) 0 zb w;rw [e1,hc]at this;exact this
 rw [hc]at hp;generalize(c:Int)=c' at *;clear e1 e2 e3 hc h h2;generalize hiW a=A at *;generalize hiW b=B at *;generalize loW a=La at *;generalize loW b=Lb at *;generalize hiW (a-b)=S at *;generalize loW (a-b)=T at *
 go_enter func165,ntmps165
 go_wp2_with fail
 go_returns
 exact⟨rfl,.of_below au⟩
def mX(ah al bh bl:Int):Bool:=decide (ah<bh) || ((ah==bh)&&decide (al<bl))
theorem kg(a b:Nat):mX (hiW a) (loW a) (hiW b) (loW b)=decide (a<b):=by
 unfold mX;rw [Bool.eq_iff_iff];simp only [Bool.or_eq_true,Bool.and_eq_true,decide_eq_true_eq,beq_iff_eq];unfold hiW loW;omega
theorem vY(ah al bh bl:Int)(w:World) :
 Calls prog 164 #[.agg #[.int .u64 ah,.int .u64 al],.agg #[.int .u64 bh,.int .u64 bl]] w fun e w'=>e= .returned (.bool (mX ah al bh bl))/\w.Grows w':=by
 by_cases c1:ah<bh
 ·go_enter func164,ntmps164
  go_wp2_with fail
  go_returns
  exact⟨av (by simp [mX,c1]),.of_below au⟩
 ·by_cases c2:ah=bh
  ·subst c2
   go_enter func164,ntmps164
   go_wp2_with fail
   go_returns
   exact⟨av (by simp [mX]),.of_below au⟩
  ·have c3:(ah==bh)=false:=by simpa using c2
   go_enter func164,ntmps164
   go_wp2_with fail
   go_returns
   exact⟨av (by simp [mX,c1,c3]),.of_below au⟩
theorem pR(ah al bh bl:Int)(w:World) :
 Calls prog 184 #[.agg #[.int .u64 ah,.int .u64 al],.agg #[.int .u64 bh,.int .u64 bl]] w fun e w'=>e= .returned (.bool (mX ah al bh bl))/\w.Grows w':=by
 by_cases c1:ah<bh
 ·go_enter func184,ntmps184
  go_wp2_with fail
  go_returns
  exact⟨av (by simp [mX,c1]),.of_below au⟩
 ·by_cases c2:ah=bh
  ·subst c2
   go_enter func184,ntmps184
   go_wp2_with fail
   go_returns
   exact⟨av (by simp [mX]),.of_below au⟩
  ·have c3:(ah==bh)=false:=by simpa using c2
   go_enter func184,ntmps184
   go_wp2_with fail
   go_returns
   exact⟨av (by simp [mX,c1,c3]),.of_below au⟩
theorem D8(H L d q r Q:Int)(w:World)(a1:(d==0)=false)(a2:1<=d)(h0:0<=H)
 (a3:IntKind.u64.wrap (H.tdiv d)=Q)
 (HD:Hid (∀w,Calls prog 204 #[.int .u64 (H % d),.int .u64 L,.int .u64 d] w fun e w'=>e= .returned (.tuple #[.int .u64 q,.int .u64 r])/\w.Grows w')) :
 Calls prog 187 #[.agg #[.int .u64 H,.int .u64 L],.int .u64 d] w fun e w'=>e= .returned (.agg #[.int .u64 Q,.int .u64 q])/\w.Grows w':=by
 go_enter func187,ntmps187
 go_wp2_with fail
 go_region
 go_wp2_with fail
 refine gvq (HD.out _) ?_;intro bs dr;clear HD
 go_wp2_with fail
 go_returns
 exact⟨rfl,.of_below au⟩
theorem GX(n d:Nat)(w:World)(h1:n<340282366920938463463374607431768211456)(h2:d<18446744073709551616)(h0:0<d) :
 Calls prog 187 #[.agg #[.int .u64 (hiW n),.int .u64 (loW n)],.int .u64 d] w fun e w'=>e= .returned (.agg #[.int .u64 (hiW (n / d)),.int .u64 (loW (n / d))])/\w.Grows w':=by
 obtain⟨e1,e2,e3⟩:=su n d h0 h2;have hh:=ED n h1;refine D8 _ _ _ _ (lL n d) _ w zg zb hh.1 ?_ ?_
 ·have:(hiW n).tdiv d=((n / 18446744073709551616 / d:Nat):Int):=by
   rw [Int.tdiv_eq_ediv_of_nonneg hh.1];unfold hiW;simp
  rw [this,<-e1];have h3:n / d<=n:=Nat.div_le_self _ _;unfold hiW;generalize n / d=m at *;exact IntWalk.u64_in _ zb
 ·intro w;have:=qw (n / 18446744073709551616 % d) (n % 18446744073709551616) d w (Nat.mod_lt _ h0) (Nat.mod_lt _ zb) h2;rw [<-e2,<-e3]at this;simpa [hiW,loW,lL]using this
theorem Kw(H L d q r:Int)(w:World)(a1:(d==0)=false)(a2:1<=d)(h0:0<=H)
 (HD:Hid (∀w,Calls prog 204 #[.int .u64 (H % d),.int .u64 L,.int .u64 d] w fun e w'=>e= .returned (.tuple #[.int .u64 q,.int .u64 r])/\w.Grows w')) :
 Calls prog 186 #[.int .u64 H,.int .u64 L,.int .u64 d] w fun e w'=>e= .returned (.int .u64 r)/\w.Grows w':=by
 go_enter func186,ntmps186
 go_wp2_with fail
 refine gvq (HD.out _) ?_;intro bs dr;clear HD
 go_wp2_with fail
 go_returns
 exact⟨rfl,.of_below au⟩
theorem JF(n d:Nat)(w:World)(h1:n<340282366920938463463374607431768211456)(h2:d<18446744073709551616)(h0:0<d) :
 Calls prog 186 #[.int .u64 (hiW n),.int .u64 (loW n),.int .u64 d] w fun e w'=>e= .returned (.int .u64 (lL n d))/\w.Grows w':=by
 obtain⟨e1,e2,e3⟩:=su n d h0 h2;have hh:=ED n h1;refine Kw _ _ _ (loW (n / d)) _ w zg zb hh.1 ?_;intro w;have:=qw (n / 18446744073709551616 % d) (n % 18446744073709551616) d w (Nat.mod_lt _ h0) (Nat.mod_lt _ zb) h2;rw [<-e2,<-e3]at this;simpa [hiW,loW,lL]using this
def jg(neg:Bool)(h l k d:Int):Value:=if(h !=0)=true\/1000000000000000<l\/(k !=0)=true\/1000000000<d then .tuple #[.agg #[.int .i64 0,.int .i64 0],.int .i64 2]else .tuple #[.agg #[.int .i64 (if neg then -l else l),.int .i64 d],.int .i64 0]
theorem lI(neg:Bool)(h l k d:Int)(w:World)(hl0:0<=l)(hd0:0<=d) :
 Calls prog 181 #[.bool neg,.agg #[.int .u64 h,.int .u64 l],.agg #[.int .u64 k,.int .u64 d]] w fun e w'=>e= .returned (jg neg h l k d)/\w.Grows w':=by
 by_cases c1:(h !=0)=true
 ·go_enter func181,ntmps181
  go_wp2_with fail
  go_returns
  exact⟨by rw [jg,if_pos (.inl c1)],.of_below au⟩
 ·have c1':(h !=0)=false:=by simpa using c1
  by_cases c2:(1000000000000000:Int)<l
  ·clear c1
   go_enter func181,ntmps181
   go_wp2_with fail
   go_returns
   exact⟨by rw [jg,if_pos (.inr (.inl c2))],.of_below au⟩
  ·have c2':decide ((1000000000000000:Int)<l)=false:=by simpa using c2
   by_cases c3:(k !=0)=true
   ·clear c1
    go_enter func181,ntmps181
    go_wp2_with fail
    go_returns
    exact⟨by rw [jg,if_pos (.inr (.inr (.inl c3)))],.of_below au⟩
   ·have c3':(k !=0)=false:=by simpa using c3
    by_cases c4:(1000000000:Int)<d
    ·clear c1 c3
     go_enter func181,ntmps181
     go_wp2_with fail
     go_returns
     exact⟨by rw [jg,if_pos (.inr (.inr (.inr c4)))],.of_below au⟩
    ·have c4':decide ((1000000000:Int)<d)=false:=by simpa using c4
     have Hn:=yq (show ¬((h !=0)=true\/1000000000000000<l\/(k !=0)=true\/1000000000<d)by
      rintro(x|x|x|x)
      ·exact c1 x
      ·exact c2 x
      ·exact c3 x
      ·exact c4 x)
     clear c1 c3;cases neg
     ·go_enter func181,ntmps181
      go_wp2_with fail
      go_returns
      exact⟨by rw [jg,if_neg Hn.out];rfl,.of_below au⟩
     ·go_enter func181,ntmps181
      go_wp2_with fail
      go_returns
      exact⟨by rw [jg,if_neg Hn.out];rfl,.of_below au⟩
def frV(r:Int × Int × Int):Value:=.tuple #[.agg #[.int .i64 r.1,.int .i64 r.2.1],.int .i64 r.2.2]
theorem Dm(n d:Int)(w:World)(h1:-9223372036854775808<=n)(h2:n<=9223372036854775807)(h3:-9223372036854775808<=d)(h4:d<=9223372036854775807) :
 Calls prog 115 #[.agg #[.int .i64 n,.int .i64 d]] w fun e w'=>e= .returned (frV (iA n d))/\w.Grows w':=by
 have hv:=yq (fun w=>bP n d w h1 h2 h3 h4);generalize hx:az n d=b at *;cases b
 focus
  have HR:=yq (show iA n d=(0,0,1)by unfold iA;rw [hx];rfl)
 rotate_left
 focus
  have HR:=yq (show iA n d=(-n,d,0)by unfold iA;rw [hx];rfl);obtain⟨k1,k2,k3,k4⟩:=aF hx
 rotate_left
 all_goals
  clear hx
  go_enter func115,ntmps115
  go_wp2_with fail
  refine gvq (hv.out _) ?_;intro bs dr;clear hv
  go_wp2_with fail
  go_returns
  exact⟨by rw [HR.out];rfl,.of_below au⟩
theorem Dl(n d:Int)(w:World)(h1:-9223372036854775808<=n)(h2:n<=9223372036854775807)(h3:-9223372036854775808<=d)(h4:d<=9223372036854775807) :
 Calls prog 133 #[.agg #[.int .i64 n,.int .i64 d]] w fun e w'=>e= .returned (frV (iA n d))/\w.Grows w':=by
 have hv:=yq (fun w=>dE n d w h1 h2 h3 h4);generalize hx:az n d=b at *;cases b
 focus
  have HR:=yq (show iA n d=(0,0,1)by unfold iA;rw [hx];rfl)
 rotate_left
 focus
  have HR:=yq (show iA n d=(-n,d,0)by unfold iA;rw [hx];rfl);obtain⟨k1,k2,k3,k4⟩:=aF hx
 rotate_left
 all_goals
  clear hx
  go_enter func133,ntmps133
  go_wp2_with fail
  refine gvq (hv.out _) ?_;intro bs dr;clear hv
  go_wp2_with fail
  go_returns
  exact⟨by rw [HR.out];rfl,.of_below au⟩
theorem oP(a b:Nat):jP a b=(Nat.gcd a b:Nat):=by unfold jP;simp
theorem q9(b:Bool)(p q:Nat):jg b (hiW p) (loW p) (hiW q) (loW q)=frV (if 1000000000000000<p\/1000000000<q then(0,0,2)else(if b then -(p:Int)else p,q,0)):=by
 unfold jg hiW loW;by_cases c:1000000000000000<p\/1000000000<q
 ·rw [if_pos c,if_pos (by
   by_cases ha:p / 18446744073709551616=0
   ·by_cases hb:q / 18446744073709551616=0
    ·omega
    ·right;right;left;simp;omega
   ·left;simp;omega)]
  rfl
 ·have ha:p / 18446744073709551616=0:=by omega
  have hb:q / 18446744073709551616=0:=by omega
  have hc:p % 18446744073709551616=p:=by omega
  have hd:q % 18446744073709551616=q:=by omega
  rw [if_neg c,if_neg (by rw [ha,hb,hc,hd];simp;omega),hc,hd];rfl
theorem gQ{a g:Int}(h0:0<=a)(h1:a<18446744073709551616)(hg:1<=g):IntKind.u64.wrap (a.tdiv g)=a / g:=by
 rw [Int.tdiv_eq_ediv_of_nonneg h0];have h2:=Int.ediv_nonneg h0 (show 0<=g by omega);have h3:a / g<=a:=Int.ediv_le_self g h0;exact IntWalk.u64_in _ zb
theorem rX(neg:Bool)(a b c d g h H L K M n1 n2 n3:Int)(w:World)(g0:(g==0)=false)(h0:(h==0)=false)(g1:1<=g)(hh1:1<=h)
 (a0:0<=a) (b0:0<=b) (c0:0<=c) (d0:0<=d) (a1:a<18446744073709551616) (b1:b<18446744073709551616) (c1:c<18446744073709551616) (d1:d<18446744073709551616)
 (G1:Hid (∀w,Calls prog 176 #[.int .u64 a,.int .u64 d] w fun e w'=>e= .returned (.int .u64 g)/\w.Grows w'))
 (G2:Hid (∀w,Calls prog 176 #[.int .u64 c,.int .u64 b] w fun e w'=>e= .returned (.int .u64 h)/\w.Grows w'))
 (T1:Hid (∀w,Calls prog 182 #[.int .u64 (a / g),.int .u64 (c / h)] w fun e w'=>e= .returned (.agg #[.int .u64 H,.int .u64 L])/\w.Grows w'))
 (T2:Hid (∀w,Calls prog 182 #[.int .u64 (b / h),.int .u64 (d / g)] w fun e w'=>e= .returned (.agg #[.int .u64 K,.int .u64 M])/\w.Grows w'))
 (W:Hid (∀w,Calls prog 181 #[.bool neg,.agg #[.int .u64 H,.int .u64 L],.agg #[.int .u64 K,.int .u64 M]] w fun e w'=>e= .returned (.tuple #[.agg #[.int .i64 n1,.int .i64 n2],.int .i64 n3])/\w.Grows w')) :
 Calls prog 188 #[.bool neg,.int .u64 a,.int .u64 b,.int .u64 c,.int .u64 d] w fun e w'=>e= .returned (.tuple #[.agg #[.int .i64 n1,.int .i64 n2],.int .i64 n3])/\w.Grows w':=by
 go_enter func188,ntmps188
 go_wp2_with (first|(go_at_call 176;(with_reducible refine gvq (G1.out _) ?_);intro bs dr;clear G1)|(go_at_call 176;(with_reducible refine gvq (G2.out _) ?_);intro bs2 dr2;clear G2))
 have gz:¬g=0:=by omega
 have hz:¬h=0:=by omega
 refine TG.begin 19 (fun _=>True) zd zd trivial (fun hS=>?_);refine TG.tkB 0 hS ?_;refine TG.tkB 1 hS ?_;refine TG.tkB 2 hS ?_;refine TG.takeV (i:=3) (v:=.int .u64 (a / g)) rfl zd zd zd zf (fun _ _ _ h=>h) rfl hS ?_ ?_
 focus
  intro wS hSw
  go_simp
  exact gQ a0 a1 g1
 (try simp only [nS])
 refine TG.tkB 4 hS ?_;refine TG.tkB 5 hS ?_;refine TG.takeV (i:=6) (v:=.int .u64 (c / h)) rfl zd zd zd zf (fun _ _ _ h=>h) rfl hS ?_ ?_
 focus
  intro wS hSw
  go_simp
  exact gQ c0 c1 hh1
 (try simp only [nS])
 refine TG.tkB 8 hS ?_;refine TG.tkB 9 hS ?_;refine TG.takeV (i:=10) (v:=.int .u64 (b / h)) rfl zd zd zd zf (fun _ _ _ h=>h) rfl hS ?_ ?_
 focus
  intro wS hSw
  go_simp
  exact gQ b0 b1 hh1
 (try simp only [nS])
 refine TG.tkB 11 hS ?_;refine TG.tkB 12 hS ?_;refine TG.takeV (i:=13) (v:=.int .u64 (d / g)) rfl zd zd zd zf (fun _ _ _ h=>h) rfl hS ?_ ?_
 focus
  intro wS hSw
  go_simp
  exact gQ d0 d1 g1
 (try simp only [nS])
 refine TG.one (i:=7) zd rfl (fun K1 hK1=>?_)
 go_simp
 go_at_call 182
 refine gvq (T1.out _) ?_;intro b7 d7;refine TG.go hK1 trivial (fun hS=>?_);clear hK1 K1 T1
 (try simp only [nS])
 refine TG.one (i:=14) zd rfl (fun K1 hK1=>?_)
 go_simp
 go_at_call 182
 refine gvq (T2.out _) ?_;intro b8 d8;refine TG.go hK1 trivial (fun hS=>?_);clear hK1 K1 T2
 (try simp only [nS])
 refine TG.one (i:=15) zd rfl (fun K1 hK1=>?_)
 go_simp
 go_at_call 181
 refine gvq (W.out _) ?_;intro b9 d9;refine TG.go hK1 trivial (fun hS=>?_);clear hK1 K1 W
 (try simp only [nS])
 refine TG.tkB 16 hS ?_;refine TG.tkB 17 hS ?_;refine TG.one (i:=18) zd rfl (fun K1 hK1=>?_)
 go_simp
 refine TG.go hK1 trivial (fun hS=>?_);clear hK1 K1
 (try simp only [nS])
 refine TG.one (i:=19) zd rfl (fun K1 hK1=>?_)
 go_simp
 refine hK1 _ _ (fun h=>absurd rfl h) (TG.done zd ?_);clear hK1 K1 hS
 (try simp only [nS])
 go_wp2_with fail
 go_returns
 exact⟨rfl,.of_below au⟩
theorem vL(d m k n:Nat):d / Nat.gcd m d*(k / Nat.gcd n k)=gV d m k n:=by
 unfold gV;rw [Nat.gcd_comm m d,Nat.gcd_comm n k]
theorem fC(a b:Nat):(a:Int) / (b:Int)=((a / b:Nat):Int):=by simp
theorem ng(neg:Bool)(n d m k:Nat)(w:World)(h1:n<18446744073709551616)(h2:d<18446744073709551616)(h3:m<18446744073709551616)(h4:k<18446744073709551616)(hd:0<d)(hk:0<k) :
 Calls prog 188 #[.bool neg,.int .u64 n,.int .u64 d,.int .u64 m,.int .u64 k] w fun e w'=>e= .returned (frV (nD neg n d m k))/\w.Grows w':=by
 have g1:0<Nat.gcd n k:=Nat.gcd_pos_of_pos_right _ hk;have g2:0<Nat.gcd m d:=Nat.gcd_pos_of_pos_right _ hd;have b1:n / Nat.gcd n k<=n:=Nat.div_le_self _ _;have b2:m / Nat.gcd m d<=m:=Nat.div_le_self _ _;have b3:d / Nat.gcd m d<=d:=Nat.div_le_self _ _;have b4:k / Nat.gcd n k<=k:=Nat.div_le_self _ _
 refine rX neg n d m k (Nat.gcd n k:Nat) (Nat.gcd m d:Nat) (hiW (gV n k m d)) (loW (gV n k m d)) (hiW (gV d m k n)) (loW (gV d m k n)) _ _ _ w
  zg zg zb zb zb zb zb zb zb zb zb zb
  (fun w=>?_) (fun w=>?_) (fun w=>?_) (fun w=>?_) (fun w=>?_)
 ·have:=l5 n k w zb zb zb zb;rw [oP]at this;exact Calls.quietD this
 ·have:=l5 m d w zb zb zb zb;rw [oP]at this;exact Calls.quietD this
 ·rw [fC,fC];exact ik _ _ w zb zb
 ·rw [fC,fC,<-vL];exact ik _ _ w zb zb
 ·have:=lI neg (hiW (gV n k m d)) (loW (gV n k m d)) (hiW (gV d m k n)) (loW (gV d m k n)) w (pQ _).1 (pQ _).1;rw [q9]at this;exact this
end Go.Proofs.YteildlpchhlchaaGreatDoor
