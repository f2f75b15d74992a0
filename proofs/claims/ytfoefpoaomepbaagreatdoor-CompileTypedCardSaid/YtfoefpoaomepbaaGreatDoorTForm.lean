import Derived.Test.YtfoefpoaomepbaaGreatDoorTWide
import Derived.Test.YtfoefpoaomepbaaGreatDoorTK
import Derived.Lib.IndexMore
import Derived.Lib.ItoaNum
set_option linter.all false
set_option maxHeartbeats 16000000
set_option maxRecDepth 1000000
namespace Go.Proofs.YtfoefpoaomepbaaGreatDoor
open Go.RowKit

theorem Calls.quiet_eq{P:Program}{f:FuncId}{args:Array Value}{w:World}{n:Nat}{v:Value}
 (h:Calls P f args (w.drewN n) fun e w'=>e= .returned v∧w.drewN n=w'):Calls P f args (w.drewN n) fun e w''=>e= .returned v∧∃m,w''=w.drewN m:=
 h.mono fun _ _ ⟨he,hm⟩=>⟨he,n,hm.symm⟩
theorem RepE.form0{S:Nat→Prop}{w:World}{e:Ex}{v:Value}(h:RepE S w e v):∃a cap,v= .slice a e.args.length cap:=by cases h;exact⟨_,_,rfl⟩
mutual
def formedB:Ex→Bool
 | .mk o n d m s l=>decide ((l.length:Int)=argsN o)&&
  (if o=1 then decOk n d m&&s.toList.isEmpty
   else if o=2 then decide (n=0)&&decide (d=0)&&decide (m=0)&&nameB s
   else if o=3 then decide (m=0)&&s.toList.isEmpty&&decide (d=1)&&decide (1≤n)&&decide (n≤45)
   else formedsB l&&(decide (n=0)&&decide (d=0)&&decide (m=0)&&s.toList.isEmpty))
def formedsB:List Ex→Bool
 | []=>true
 |e::r=>formedB e&&formedsB r
end
theorem formedB_eq(e:Ex):formedB e=(decide ((e.args.length:Int)=argsN e.op)&&
 (if e.op=1 then decOk e.num e.den e.dim&&e.name.toList.isEmpty
  else if e.op=2 then decide (e.num=0)&&decide (e.den=0)&&decide (e.dim=0)&&nameB e.name
  else if e.op=3 then decide (e.dim=0)&&e.name.toList.isEmpty&&decide (e.den=1)&&decide (1≤e.num)&&decide (e.num≤45)
  else formedsB e.args&&(decide (e.num=0)&&decide (e.den=0)&&decide (e.dim=0)&&e.name.toList.isEmpty))):=by
 cases e;rw [formedB];rfl
theorem formedsB_take(l:List Ex)(k:Nat)(h:k<l.length):formedsB (l.take (k+1))=(formedsB (l.take k)&&formedB (l.getD k default)):=by
 induction l generalizing k with
 |nil=>simp at h
 |cons e r ih=>
  cases k with
  |zero=>simp [formedsB]
  |succ k=>simp only [List.take_succ_cons,formedsB,List.getD_cons_succ];rw [ih k (by simpa using h),Bool.and_assoc]
theorem formedsB_no(l:List Ex)(k:Nat)(h:k<l.length)(hf:formedB (l.getD k default)=false):formedsB l=false:=by
 induction l generalizing k with
 |nil=>simp at h
 |cons e r ih=>
  cases k with
  |zero=>simp only [List.getD_cons_zero]at hf;simp [formedsB,hf]
  |succ k=>simp only [List.getD_cons_succ]at hf;simp [formedsB,ih k (by simpa using h) hf]

theorem formed_len
 (S:Nat→Prop) (e:Ex) (v:Value) (w:World) (h:RepE S w e v)
 (hne:¬(e.args.length:Int)=argsN e.op):(Calls Tryz.prog 77 #[exV e v] w fun r w'=>r= .returned (.bool (formedB e))∧w.Grows w'):=by
 have HF:Hid (formedB e=false):=Lib.hid (by rw [formedB_eq,decide_eq_false hne,Bool.false_and])
 have hr:=h.rng
 obtain⟨a,cap,hv⟩:∃a cap,v= .slice a e.args.length cap:=by cases h;exact⟨_,_,rfl⟩
 subst hv
 clear h
 obtain⟨on,od⟩:=hr.num
 obtain⟨pn,pd⟩:=hr.den
 have hsz:=hr.name
 clear hr
 have h1:((e.args.length:Int)!=argsN e.op)=true:=by simpa using hne
 clear hne
 go_enter Tryz.func77,Tryz.ntmps77
 go_wp2_with fail
 go_quiet ((go_at_call 59;exact Calls.quiet_eq (Args_any _ _)))
 go_wp2_with fail
 go_returns
 exact⟨ret_bool HF.out.symm,.of_below belB⟩
theorem formed_lit
 (S:Nat→Prop) (e:Ex) (v:Value) (w:World) (h:RepE S w e v)
 (hle:(e.args.length:Int)=argsN e.op) (ho:e.op=1):(Calls Tryz.prog 77 #[exV e v] w fun r w'=>r= .returned (.bool (formedB e))∧w.Grows w'):=by
 have HF:Hid (formedB e=(decOk e.num e.den e.dim&&e.name.toList.isEmpty)):=Lib.hid (by rw [formedB_eq,decide_eq_true hle,Bool.true_and,if_pos ho])
 have hr:=h.rng
 obtain⟨a,cap,hv⟩:∃a cap,v= .slice a e.args.length cap:=by cases h;exact⟨_,_,rfl⟩
 subst hv
 clear h
 obtain⟨on,od⟩:=hr.num
 obtain⟨pn,pd⟩:=hr.den
 have hsz:=hr.name
 clear hr
 have h1:((e.args.length:Int)!=argsN 1)=false:=by rw [ho]at hle;simpa using hle
 clear hle
 go_enter Tryz.func77,Tryz.ntmps77
 go_wp2_with fail
 go_quiet ((go_at_call 59;exact Calls.quiet_eq (Args_any _ _)))
 go_wp2_with (go_at_call 91;refine(FormatDecimal_any _ _ _ _ (by omega) (by omega) (by omega) (by omega)).mono ?_;rintro e' w' ⟨rfl,bs,d,rfl⟩;simp only [decV])
 all_goals
  go_returns
  exact⟨ret_bool (by rw [HF.out];simp [*]),.of_below belB⟩
theorem formed_name
 (S:Nat→Prop) (e:Ex) (v:Value) (w:World) (h:RepE S w e v)
 (hle:(e.args.length:Int)=argsN e.op) (ho:e.op=2):(Calls Tryz.prog 77 #[exV e v] w fun r w'=>r= .returned (.bool (formedB e))∧w.Grows w'):=by
 have HF:Hid (formedB e=(decide (e.num=0)&&decide (e.den=0)&&decide (e.dim=0)&&nameB e.name)):=Lib.hid (by rw [formedB_eq,decide_eq_true hle,Bool.true_and,if_neg (by omega),if_pos ho])
 have hr:=h.rng
 obtain⟨a,cap,hv⟩:∃a cap,v= .slice a e.args.length cap:=by cases h;exact⟨_,_,rfl⟩
 subst hv
 clear h
 obtain⟨on,od⟩:=hr.num
 obtain⟨pn,pd⟩:=hr.den
 have hsz:=hr.name
 clear hr
 have h1:((e.args.length:Int)!=argsN 2)=false:=by rw [ho]at hle;simpa using hle
 clear hle
 have hm:e.name.size≤maxLen:=by unfold maxLen;omega
 have HM:=Lib.hid hm
 clear hm
 go_enter Tryz.func77,Tryz.ntmps77
 go_wp2_with fail
 go_quiet ((go_at_call 59;exact Calls.quiet_eq (Args_any _ _)))
 go_wp2_with (go_at_call 44;refine(IsName_any _ _ HM.out).mono ?_;rintro e' w' ⟨rfl,rfl⟩)
 all_goals
  go_returns
  exact⟨ret_bool (by rw [HF.out];simp [*]),.of_below belB⟩
theorem formed_best
 (S:Nat→Prop) (e:Ex) (v:Value) (w:World) (h:RepE S w e v)
 (hle:(e.args.length:Int)=argsN e.op) (ho:e.op=3):(Calls Tryz.prog 77 #[exV e v] w fun r w'=>r= .returned (.bool (formedB e))∧w.Grows w'):=by
 have HF:Hid (formedB e=(decide (e.dim=0)&&e.name.toList.isEmpty&&decide (e.den=1)&&decide (1≤e.num)&&decide (e.num≤45))):=Lib.hid (by rw [formedB_eq,decide_eq_true hle,Bool.true_and,if_neg (by omega),if_neg (by omega),if_pos ho])
 have hr:=h.rng
 obtain⟨a,cap,hv⟩:∃a cap,v= .slice a e.args.length cap:=by cases h;exact⟨_,_,rfl⟩
 subst hv
 clear h
 obtain⟨on,od⟩:=hr.num
 obtain⟨pn,pd⟩:=hr.den
 have hsz:=hr.name
 clear hr
 have h1:((e.args.length:Int)!=argsN 3)=false:=by rw [ho]at hle;simpa using hle
 clear hle
 go_enter Tryz.func77,Tryz.ntmps77
 go_wp2_with fail
 go_quiet ((go_at_call 59;exact Calls.quiet_eq (Args_any _ _)))
 go_wp2_with fail
 all_goals
  go_returns
  exact⟨ret_bool (by rw [HF.out];first|(simp [*];done)|(simp [*];intros;omega)),.of_below belB⟩
def fT(e:Ex)(k:Nat):Bool:=formedsB (e.args.take k)
theorem fT_zero(e:Ex):fT e 0=true:=rfl
theorem fT_succ(e:Ex)(k:Nat)(h:k<e.args.length)(h1:fT e k=true)(h2:formedB (e.arg k)=true):fT e (k+1)=true:=by
 unfold fT at *;rw [formedsB_take _ _ h,h1,Bool.true_and];exact h2
theorem formed_walk(S:Nat→Prop)(n:Nat):∀(e:Ex),e.size≤n→∀(v:Value) (w:World),RepE S w e v→(Calls Tryz.prog 77 #[exV e v] w fun r w'=>r= .returned (.bool (formedB e))∧w.Grows w'):=by
 induction n with
 |zero=>intro e he;have:=e.size_pos;omega
 |succ n ih=>
  intro e he v w h
  by_cases hle:(e.args.length:Int)=argsN e.op
  ·by_cases o1:e.op=1
   ·exact formed_lit S e v w h hle o1
   ·by_cases o2:e.op=2
    ·exact formed_name S e v w h hle o2
    ·by_cases o3:e.op=3
     ·exact formed_best S e v w h hle o3
     ·have HF:Hid (formedB e=(formedsB e.args&&(decide (e.num=0)&&decide (e.den=0)&&decide (e.dim=0)&&e.name.toList.isEmpty))):=Lib.hid (by rw [formedB_eq,decide_eq_true hle,Bool.true_and,if_neg o1,if_neg o2,if_neg o3])
      have IH:=Lib.hid ih
      clear ih
      have h1:((e.args.length:Int)!=argsN e.op)=false:=by simpa using hle
      have p1:(e.op==1)=false:=by simpa using o1
      have p2:(e.op==2)=false:=by simpa using o2
      have p3:(e.op==3)=false:=by simpa using o3
      clear hle o1 o2 o3
      cases h with
      |mk _ a cap vs hr hc hs=>
       have hlen:=hr.len
       have Hs:=Lib.hid hs
       have He:=Lib.hid he
       have Hc:=Lib.hid hc
       clear hr hs he hc
       generalize hz:(decide (e.num=0)&&decide (e.den=0)&&decide (e.dim=0)&&e.name.toList.isEmpty)=z at HF
       have HZ:=Lib.hid hz
       clear hz
       go_enter Tryz.func77,Tryz.ntmps77
       go_wp2_with fail
       go_quiet ((go_at_call 59;exact Calls.quiet_eq (Args_any _ _)))
       go_wp2_with fail
       all_goals
        go_loopw [6] (fun v6 wr=>∃k:Nat,k≤e.args.length∧v6= .int .i64 k∧Hid (fT e k=true)∧
         ∃x1 x2 x3:Int,World.Grows (w.alloc (.cells #[.int .i64 e.op,.int .i64 x1,.int .i64 x2,.int .i64 x3,.string e.name,.slice a e.args.length cap] 27)) wr) (fun v6 _=>e.args.length-(intOf v6).toNat)
        case atStart=>exact⟨0,by omega,rfl,Lib.hid (fT_zero e),_,_,_,.of_below belB⟩
        case round=>
         obtain⟨k,hk,rfl,HT,x1,x2,x3,bs,d,rfl⟩:=hrel
         by_cases hlt:k<e.args.length
         ·rcases Hc.out with h0|⟨b,off,rfl,hS,hbw,hx⟩
          ·omega
          ·obtain⟨y0,y1,y2,y3,y4,y5⟩:=hx k hlt
           clear hx
           have hlt1:(k:Int)<(e.args.length:Int):=by omega
           have HA:=Lib.hid (e.size_arg k hlt)
           cases hb:formedB (e.arg k)
           ·have HB:=Lib.hid hb
            clear hb
            go_wp2_with fail
            refine(IH.out (e.arg k) (by have:=He.out;have:=HA.out;omega) (vs k) _ (((Hs.out k hlt).alloc _).grow _ _)).mono ?_
            rintro r w' ⟨rfl,bs2,d2,rfl⟩
            simp only [HB.out]
            go_wp2_with fail
            go_returns
            exact⟨ret_bool (by rw [HF.out,formedsB_no _ k hlt HB.out,Bool.false_and]),.of_below belB⟩
           ·have HB:=Lib.hid hb
            clear hb
            go_wp2_with fail
            refine(IH.out (e.arg k) (by have:=He.out;have:=HA.out;omega) (vs k) _ (((Hs.out k hlt).alloc _).grow _ _)).mono ?_
            rintro r w' ⟨rfl,bs2,d2,rfl⟩
            simp only [HB.out]
            go_wp2_with fail
            go_roundw
            case rel=>exact⟨k+1,by omega,by go_num,Lib.hid (fT_succ e k hlt HT.out HB.out),x1,x2,x3,.of_below belB⟩
            case measure=>simp [intOf];omega
         ·obtain rfl:k=e.args.length:=by omega
          have HT2:Hid (formedsB e.args=true):=Lib.hid (by have:=HT.out;unfold fT at this;rw [List.take_length]at this;exact this)
          clear HT
          go_wp2_with fail
          go_returns
          exact⟨ret_bool (by rw [HF.out,HT2.out,Bool.true_and,←HZ.out];simp [*]),.of_below belB⟩
  ·exact formed_len S e v w h hle

theorem formed_any(S:Nat→Prop)(e:Ex)(v:Value)(w:World)(h:RepE S w e v):(Calls Tryz.prog 77 #[exV e v] w fun r w'=>r= .returned (.bool (formedB e))∧w.Grows w'):=formed_walk S e.size e (Nat.le_refl _) v w h
def validB(e:Ex):Bool:=decide (e.depth≤10)&&decide (e.size≤60)&&formedB e
theorem ValidExpr_any(S:Nat→Prop)(e:Ex)(v:Value)(w:World)(h:Hid (RepE S w e v))(hbig:Hid (e.size≤2305843009213693952)):Calls Tryz.prog 31 #[exV e v] w fun r w'=>r= .returned (.bool (validB e))∧w.Grows w':=by
 obtain⟨a,cap,hv⟩:=h.out.form0
 subst hv
 by_cases c1:(e.depth:Int)≤10
 ·by_cases c2:(e.size:Int)≤60
  ·go_enter Tryz.func31,Tryz.ntmps31
   go_wp2_with ((first|(go_at_call 76;refine(Depth_walk S e.size e (Nat.le_refl _) _ _ (h.out.alloc _) hbig).mono ?_;rintro r w' ⟨rfl,bs,d,rfl⟩)|(go_at_call 17;refine(Size_walk S e.size e (Nat.le_refl _) _ _ ((h.out.alloc _).grow _ _) hbig).mono ?_;rintro r w' ⟨rfl,bs2,d2,rfl⟩)|(go_at_call 77;refine(formed_any S e _ _ ((h.out.alloc _).grow _ _)).mono ?_;rintro r w' ⟨rfl,bs3,d3,rfl⟩)))
   exact tz48
  ·go_enter Tryz.func31,Tryz.ntmps31
   go_wp2_with ((first|(go_at_call 76;refine(Depth_walk S e.size e (Nat.le_refl _) _ _ (h.out.alloc _) hbig).mono ?_;rintro r w' ⟨rfl,bs,d,rfl⟩)|(go_at_call 17;refine(Size_walk S e.size e (Nat.le_refl _) _ _ ((h.out.alloc _).grow _ _) hbig).mono ?_;rintro r w' ⟨rfl,bs2,d2,rfl⟩)|(go_at_call 77;refine(formed_any S e _ _ ((h.out.alloc _).grow _ _)).mono ?_;rintro r w' ⟨rfl,bs3,d3,rfl⟩)))
   exact tz51
 ·go_enter Tryz.func31,Tryz.ntmps31
  go_wp2_with ((first|(go_at_call 76;refine(Depth_walk S e.size e (Nat.le_refl _) _ _ (h.out.alloc _) hbig).mono ?_;rintro r w' ⟨rfl,bs,d,rfl⟩)|(go_at_call 17;refine(Size_walk S e.size e (Nat.le_refl _) _ _ ((h.out.alloc _).grow _ _) hbig).mono ?_;rintro r w' ⟨rfl,bs2,d2,rfl⟩)|(go_at_call 77;refine(formed_any S e _ _ ((h.out.alloc _).grow _ _)).mono ?_;rintro r w' ⟨rfl,bs3,d3,rfl⟩)))
  exact tz49
def IdxE(n:Nat)(p:Nat→Bool)(r:Int):Prop:=(r= -1∧∀k,k<n→p k=false)∨∃k:Nat,k<n∧r=k∧p k=true
theorem IdxE.any{n:Nat}{p:Nat→Bool}{r:Int}(h:IdxE n p r):decide (0≤r)=(List.range n).any p:=by
 rcases h with ⟨rfl,h⟩|⟨k,hk,rfl,hp⟩
 ·symm
  rw [show decide ((0:Int)≤-1)=false by decide,Bool.eq_false_iff]
  intro hc
  obtain⟨k,hk,hp⟩:=List.any_eq_true.1 hc
  rw [h k (List.mem_range.1 hk)]at hp;cases hp
 ·rw [decide_eq_true (show(0:Int)≤k by omega)]
  symm
  exact List.any_eq_true.2 ⟨k,List.mem_range.2 hk,hp⟩
def PredE(S:Nat→Prop)(g:FuncId)(lb:Array Value)(e:Ex)(p:Nat→Bool)(w:World):Prop:=
 ∀k,k<e.args.length→∀a c w',w.Grows w'→RepE S w' (e.arg k) (.slice a (e.arg k).args.length c)→Calls Tryz.prog g (#[exV (e.arg k) (.slice a (e.arg k).args.length c)]++lb) w' fun r w''=>r= .returned (.bool (p k))∧w'.Grows w''
theorem RepE.grows{S:Nat→Prop}{w w':World}{e:Ex}{v:Value}(h:RepE S w e v)(hg:w.Grows w'):RepE S w' e v:=by
 obtain⟨bs,d,rfl⟩:=hg;exact h.grow bs d
theorem idxE_any(S:Nat→Prop)(g:FuncId)(lb:Array Value)(eg:∀args w,(callFunc g args).run Tryz.prog w= .ok (.enter g args) w)(e:Ex)(v:Value)(p:Nat→Bool)(w:World)(h:RepE S w e v)(hp:Hid (PredE S g lb e p w)) :
 Calls Tryz.prog 174 #[v,.func (.func g) #[] lb] w fun r w'=>(∃z,r= .returned (.int .i64 z)∧IdxE e.args.length p z)∧w.Grows w':=by
 cases h with
 |mk _ a cap vs hr hc hs=>
  have hlen:=hr.len
  have Hs:=Lib.hid hs
  have Hc:=Lib.hid hc
  clear hr hs hc
  go_enter Tryz.func174,Tryz.ntmps174
  go_wp2_with fail
  go_loopw [5,8] (fun _ v8 wr=>∃k:Nat,k≤e.args.length∧v8= .int .i64 k∧Hid (∀j,j<k→p j=false)∧w.Grows wr) (fun _ v8 _=>e.args.length-(intOf v8).toNat)
  case atStart=>exact⟨0,by omega,rfl,Lib.hid (fun j hj=>by omega),.refl _⟩
  case round=>
   obtain⟨k,hk,rfl,hno,hgr⟩:=hrel
   have HG:=Lib.hid hgr
   obtain⟨bs,d,rfl⟩:=hgr
   by_cases hlt2:k<e.args.length
   ·rcases Hc.out with h0|⟨b,off,rfl,hg,hbw,hx⟩
    ·omega
    ·obtain⟨x0,x1,x2,x3,x4,x5⟩:=hx k hlt2
     clear hx
     have hR:=Hs.out k hlt2
     obtain⟨ak,ck,hvk⟩:=hR.form0
     rw [hvk]at x5 hR
     have d1:(k:Int)<(e.args.length:Int):=by omega
     have hcall:=hp.out k hlt2 ak ck _ HG.out (hR.grow bs d)
     have HLT:=Lib.hid hlt2
     clear hR hvk
     cases hq:p k with
     |true=>
      rw [hq]at hcall
      have HQ:=Lib.hid hq
      clear hq
      have HCL:=Lib.hid hcall
      clear hcall
      go_wp2_with (go_at_fn g;refine HCL.out.mono ?_;rintro e' w' ⟨rfl,bs2,d2,rfl⟩)
      go_returns
      exact⟨⟨_,rfl,.inr ⟨k,HLT.out,rfl,HQ.out⟩⟩,.of_below belB⟩
     |false=>
      rw [hq]at hcall
      have HQ:=Lib.hid hq
      clear hq
      have HCL:=Lib.hid hcall
      clear hcall
      go_wp2_with (go_at_fn g;refine HCL.out.mono ?_;rintro e' w' ⟨rfl,bs2,d2,rfl⟩)
      go_roundw
      case rel=>exact⟨k+1,by omega,by go_num,Lib.hid (fun j hj=>by
       by_cases ej:j=k
       ·subst ej;exact HQ.out
       ·exact hno.out j (by omega)),.of_below belB⟩
      case measure=>simp [intOf];omega
   ·obtain rfl:k=e.args.length:=by omega
    go_wp2_with fail
    go_returns
    exact⟨⟨_,rfl,.inl ⟨rfl,hno.out⟩⟩,.of_below belB⟩
theorem containsE_any(S:Nat→Prop)(g:FuncId)(lb:Array Value)(eg:∀args w,(callFunc g args).run Tryz.prog w= .ok (.enter g args) w)(e:Ex)(v:Value)(p:Nat→Bool)(w:World)(h:RepE S w e v)(hp:Hid (PredE S g lb e p w)) :
 Calls Tryz.prog 135 #[v,.func (.func g) #[] lb] w fun r w'=>r= .returned (.bool ((List.range e.args.length).any p))∧w.Grows w':=by
 have HI:=Lib.hid (idxE_any S g lb eg e v p w h hp)
 obtain⟨a,cap,rfl⟩:=h.form0
 clear h hp
 generalize hX:(List.range e.args.length).any p=X
 have HX:=Lib.hid hX
 clear hX
 go_enter Tryz.func135,Tryz.ntmps135
 go_wp2_with (go_at_call 174;refine HI.out.mono ?_;rintro e' w' ⟨⟨z,rfl,hz⟩,bs2,d2,rfl⟩;have HZ:=Lib.hid hz.any;clear hz)
 go_returns
 exact⟨ret_bool (by rw [←HX.out,←HZ.out]),.of_below belB⟩
theorem Size2_walk(S:Nat→Prop)(n:Nat):∀(e:Ex),e.size≤n→∀(v:Value) (w:World),RepE S w e v→Hid (e.size≤2305843009213693952)→
 Calls Tryz.prog 85 #[exV e v] w fun r w'=>r= .returned (.int .i64 (e.size:Nat))∧w.Grows w':=by
 induction n with
 |zero=>intro e he;have:=e.size_pos;omega
 |succ n ih=>
  intro e he v w h hbig
  have IH:=Lib.hid ih
  clear ih
  cases h with
  |mk _ a cap vs hr hc hs=>
   have hlen:=hr.len
   have Hs:=Lib.hid hs
   have He:=Lib.hid he
   have Hc:=Lib.hid hc
   clear hr hs he hc
   go_enter Tryz.func85,Tryz.ntmps85
   go_wp2_with fail
   go_loopw [3,9] (fun v3 v4 wr=>∃k:Nat,k≤e.args.length∧v3= .int .i64 (szT e k)∧v4= .int .i64 k∧
    World.Grows (w.alloc (.cells #[.int .i64 e.op,.int .i64 e.num,.int .i64 e.den,.int .i64 e.dim,.string e.name,.slice a e.args.length cap] 27)) wr) (fun _ v4 _=>e.args.length-(intOf v4).toNat)
   case atStart=>exact⟨0,by omega,by rw [szT_zero],rfl,.refl _⟩
   case round=>
    obtain⟨k,hk,rfl,rfl,bs,d,rfl⟩:=hrel
    have hb:=szT_bd e k
    have hb0:1≤szT e k:=hb.1
    have hb1:szT e k≤2305843009213693952:=by have:=hbig.out;omega
    clear hb
    by_cases hlt:k<e.args.length
    ·rcases Hc.out with h0|⟨b,off,rfl,hS,hbw,hx⟩
     ·omega
     ·obtain⟨x0,x1,x2,x3,x4,x5⟩:=hx k hlt
      clear hx
      have hR:=Hs.out k hlt
      obtain⟨ak,ck,hvk⟩:=hR.form0
      rw [hvk]at x5 hR
      have HR:=Lib.hid hR
      clear hR hvk
      have hlt1:(k:Int)<(e.args.length:Int):=by omega
      have HN:=Lib.hid (szT_succ e k hlt)
      have HA:=Lib.hid (e.size_arg k hlt)
      have hs1:((e.arg k).size:Int)≤2305843009213693952:=by have:=hbig.out;have:=HA.out;omega
      go_wp2_with fail
      refine(IH.out (e.arg k) (by have:=He.out;have:=HA.out;omega) (.slice ak _ ck) _ (((HR.out.alloc _).grow _ _).alloc _) (by have:=hbig.out;have:=HA.out;show _≤_;omega)).mono ?_
      rintro r w' ⟨rfl,bs2,d2,rfl⟩
      go_wp2_with fail
      go_roundw
      case rel=>exact⟨k+1,by omega,by rw [HN.out],by go_num,.of_below belB⟩
      case measure=>simp [intOf];omega
    ·have HN:=Lib.hid (szT_all e k (by omega))
     obtain rfl:k=e.args.length:=by omega
     go_wp2_with fail
     go_returns
     exact⟨ret_int HN.out,.of_below belB⟩

theorem Depth2_walk(S:Nat→Prop)(n:Nat):∀(e:Ex),e.size≤n→∀(v:Value) (w:World),RepE S w e v→Hid (e.size≤2305843009213693952)→
 Calls Tryz.prog 84 #[exV e v] w fun r w'=>r= .returned (.int .i64 (e.depth:Nat))∧w.Grows w':=by
 induction n with
 |zero=>intro e he;have:=e.size_pos;omega
 |succ n ih=>
  intro e he v w h hbig
  have IH:=Lib.hid ih
  clear ih
  cases h with
  |mk _ a cap vs hr hc hs=>
   have hlen:=hr.len
   have Hs:=Lib.hid hs
   have He:=Lib.hid he
   have Hc:=Lib.hid hc
   clear hr hs he hc
   go_enter Tryz.func84,Tryz.ntmps84
   go_wp2_with fail
   go_loopw [3,9] (fun v3 v4 wr=>∃k:Nat,k≤e.args.length∧v3= .int .i64 (dpT e k)∧v4= .int .i64 k∧
    World.Grows (w.alloc (.cells #[.int .i64 e.op,.int .i64 e.num,.int .i64 e.den,.int .i64 e.dim,.string e.name,.slice a e.args.length cap] 27)) wr) (fun _ v4 _=>e.args.length-(intOf v4).toNat)
   case atStart=>exact⟨0,by omega,by rw [dpT_zero],rfl,.refl _⟩
   case round=>
    obtain⟨k,hk,rfl,rfl,bs,d,rfl⟩:=hrel
    have hb:=dpT_bd e k
    have hb0:0≤dpT e k:=hb.1
    have hb1:dpT e k≤2305843009213693952:=by have:=hbig.out;omega
    clear hb
    by_cases hlt:k<e.args.length
    ·rcases Hc.out with h0|⟨b,off,rfl,hS,hbw,hx⟩
     ·omega
     ·obtain⟨x0,x1,x2,x3,x4,x5⟩:=hx k hlt
      clear hx
      have hR:=Hs.out k hlt
      obtain⟨ak,ck,hvk⟩:=hR.form0
      rw [hvk]at x5 hR
      have HR:=Lib.hid hR
      clear hR hvk
      have hlt1:(k:Int)<(e.args.length:Int):=by omega
      have HN:=Lib.hid (dpT_succ e k hlt)
      have HA:=Lib.hid (e.size_arg k hlt)
      have hs1:((e.arg k).depth:Int)≤2305843009213693952:=by have:=hbig.out;have:=HA.out;have:=(e.arg k).depth_size;omega
      go_wp2_with fail
      refine(IH.out (e.arg k) (by have:=He.out;have:=HA.out;omega) (.slice ak _ ck) _ (((HR.out.alloc _).grow _ _).alloc _) (by have:=hbig.out;have:=HA.out;show _≤_;omega)).mono ?_
      rintro r w' ⟨rfl,bs2,d2,rfl⟩
      go_wp2_with fail
      go_roundw
      case rel=>exact⟨k+1,by omega,by rw [HN.out],by go_num,.of_below belB⟩
      case measure=>simp [intOf];omega
    ·have HN:=Lib.hid (dpT_all e k (by omega))
     obtain rfl:k=e.args.length:=by omega
     go_wp2_with fail
     go_returns
     exact⟨ret_int HN.out,.of_below belB⟩
theorem lower2_any(c:Int)(w:World):Calls Tryz.prog 209 #[.int .u8 c] w fun e w'=>e= .returned (.bool (lowc c))∧w=w':=by
 by_cases c1:97≤c
 ·by_cases c2:c≤122
  ·go_enter Tryz.func209,Tryz.ntmps209
   go_wp2
   go_returns
   exact⟨ret_bool (by simp [lowc,c1,c2]),rfl⟩
  ·go_enter Tryz.func209,Tryz.ntmps209
   exact tz38
 ·go_enter Tryz.func209,Tryz.ntmps209
  exact tz38
theorem digit2_any(c:Int)(w:World):Calls Tryz.prog 213 #[.int .u8 c] w fun e w'=>e= .returned (.bool (digc c))∧w=w':=by
 by_cases c1:48≤c
 ·by_cases c2:c≤57
  ·go_enter Tryz.func213,Tryz.ntmps213
   go_wp2
   go_returns
   exact⟨ret_bool (by simp [digc,c1,c2]),rfl⟩
  ·go_enter Tryz.func213,Tryz.ntmps213
   exact tz39
 ·go_enter Tryz.func213,Tryz.ntmps213
  exact tz39
def inwC(c:Int):Bool:=lowc c || (digc c || decide (c=95))
theorem inWord2_any(c:Int)(w:World):Calls Tryz.prog 210 #[.int .u8 c] w fun e w'=>e= .returned (.bool (inwC c))∧w=w':=by
 cases hL:lowc c
 ·cases hD:digc c
  ·by_cases hU:c=95
   ·subst hU
    go_enter Tryz.func210,Tryz.ntmps210
    go_wp2_with ((first|(go_at_call 209;(with_reducible refine(lower2_any _ _).mono ?_);rintro e w' ⟨rfl,rfl⟩;simp only [hL])|(go_at_call 213;(with_reducible refine(digit2_any _ _).mono ?_);rintro e w' ⟨rfl,rfl⟩;simp only [hD])))
    go_returns
    exact⟨ret_bool (by simp [inwC]),rfl⟩
   ·have hU2:(c==95)=false:=by simpa using hU
    go_enter Tryz.func210,Tryz.ntmps210
    go_wp2_with ((first|(go_at_call 209;(with_reducible refine(lower2_any _ _).mono ?_);rintro e w' ⟨rfl,rfl⟩;simp only [hL])|(go_at_call 213;(with_reducible refine(digit2_any _ _).mono ?_);rintro e w' ⟨rfl,rfl⟩;simp only [hD])))
    go_returns
    exact⟨ret_bool (by simp [inwC,hL,hD,hU]),rfl⟩
  ·go_enter Tryz.func210,Tryz.ntmps210
   go_wp2_with ((first|(go_at_call 209;(with_reducible refine(lower2_any _ _).mono ?_);rintro e w' ⟨rfl,rfl⟩;simp only [hL])|(go_at_call 213;(with_reducible refine(digit2_any _ _).mono ?_);rintro e w' ⟨rfl,rfl⟩;simp only [hD])))
   go_returns
   exact⟨ret_bool (by simp [inwC,hD]),rfl⟩
 ·go_enter Tryz.func210,Tryz.ntmps210
  go_wp2_with ((first|(go_at_call 209;(with_reducible refine(lower2_any _ _).mono ?_);rintro e w' ⟨rfl,rfl⟩;simp only [hL])|(go_at_call 213;(with_reducible refine(digit2_any _ _).mono ?_);rintro e w' ⟨rfl,rfl⟩;simp only [hD])))
  go_returns
  exact⟨ret_bool (by simp [inwC,hL]),rfl⟩
theorem wordC_in{k:Nat}{c:Int}(h:inwC c=false):wordC k c=false:=by
 simp only [inwC,Bool.or_eq_false_iff]at h
 simp [wordC,h.1,h.2.1,h.2.2]
theorem wordC_of{k:Nat}{c:Int}(h:inwC c=true)(h0:k=0→lowc c=true):wordC k c=true:=by
 unfold wordC
 by_cases e:k=0
 ·simp [h0 e]
 ·have:(k !=0)=true:=by simpa using e
  rw [this,Bool.true_and];exact h
theorem IsWord2_any(s:ByteArray)(w:World)(hs:s.size≤maxLen):Calls Tryz.prog 200 #[.string s] w fun e w'=>e= .returned (.bool (isWord s))∧w=w':=by
 unfold maxLen at hs
 have hI:True:=trivial
 by_cases c1:1≤s.size
 ·by_cases c2:s.size≤12
  ·have c3:0<s.size:=by omega
   cases hL:lowc (s[0].toNat:Int)
   ·go_enter Tryz.func200,Tryz.ntmps200
    go_wp2_with ((first|(go_at_call 209;(with_reducible refine(lower2_any _ _).mono ?_);rintro e w' ⟨rfl,rfl⟩;simp only [hL])|(go_at_call 210;(with_reducible refine(inWord2_any _ _).mono ?_);rintro e w' ⟨rfl,rfl⟩;simp only [hI])))
    go_ret
    exact⟨ret_bool (isWord_no s 0 (by omega) (by simp [wordC,hL])).symm,rfl⟩
   ·go_enter Tryz.func200,Tryz.ntmps200
    go_wp2_with ((first|(go_at_call 209;(with_reducible refine(lower2_any _ _).mono ?_);rintro e w' ⟨rfl,rfl⟩;simp only [hL])|(go_at_call 210;(with_reducible refine(inWord2_any _ _).mono ?_);rintro e w' ⟨rfl,rfl⟩;simp only [hI])))
    go_loop [3] (fun i=>∃k:Nat,k≤s.size∧i= .int .i64 k∧∀j,j<k→wordC j (byt s j)=true) (fun i=>s.size-(intOf i).toNat)
    case atStart=>exact⟨0,Nat.zero_le _,rfl,fun j hj=>absurd hj (Nat.not_lt_zero _)⟩
    case round=>
     obtain⟨k,hk,rfl,hall⟩:=hrel
     by_cases hk2:k<s.size
     ·clear hI
      cases hI:inwC (s[k].toNat:Int)
      ·go_wp2_with ((first|(go_at_call 209;(with_reducible refine(lower2_any _ _).mono ?_);rintro e w' ⟨rfl,rfl⟩;simp only [hL])|(go_at_call 210;(with_reducible refine(inWord2_any _ _).mono ?_);rintro e w' ⟨rfl,rfl⟩;simp only [hI])))
       go_ret
       exact⟨ret_bool (isWord_no s k hk2 (wordC_in hI)).symm,rfl⟩
      ·go_wp2_with ((first|(go_at_call 209;(with_reducible refine(lower2_any _ _).mono ?_);rintro e w' ⟨rfl,rfl⟩;simp only [hL])|(go_at_call 210;(with_reducible refine(inWord2_any _ _).mono ?_);rintro e w' ⟨rfl,rfl⟩;simp only [hI])))
       go_round
       case rel=>exact⟨k+1,by omega,by go_num,fun i hi=>by
        by_cases e:i=k
        ·subst e;rw [byt_eq s i hk2];exact wordC_of hI (fun e0=>by subst e0;exact hL)
        ·exact hall i (by omega)⟩
       case measure=>simp [intOf];omega
     ·have:k=s.size:=by omega
      subst this
      go_wp2_with fail
      go_ret
      exact⟨ret_bool (by rw [isWord_all s hall];simp [c1,c2]),rfl⟩
  ·have hL:True:=trivial
   have hw:isWord s=false:=by unfold isWord;rw [decide_eq_false c2,Bool.and_false]
   have c4:12<(s.size:Int):=by omega
   exact tz26
 ·have hL:True:=trivial
  have hw:isWord s=false:=by unfold isWord;rw [decide_eq_false c1,Bool.and_false,Bool.false_and]
  have c4:(s.size:Int)<1:=by omega
  exact tz26
theorem keyword2_any(s:ByteArray)(w:World):Calls Tryz.prog 201 #[.string s] w fun e w'=>e= .returned (.bool (keyB s))∧w=w':=by
 go_enter Tryz.func201,Tryz.ntmps201
 exact tz52
theorem isName2_any(s:ByteArray)(w:World)(hs:s.size≤maxLen):Calls Tryz.prog 173 #[.string s] w fun e w'=>e= .returned (.bool (nameB s))∧w=w':=by
 cases hW:isWord s<;>
 ·go_enter Tryz.func173,Tryz.ntmps173
  go_wp2_with (first|(go_at_call 200;(with_reducible refine(IsWord2_any _ _ (by assumption)).mono ?_);rintro e w' ⟨rfl,rfl⟩;simp only [hW])|(go_at_call 201;(with_reducible refine(keyword2_any _ _).mono ?_);rintro e w' ⟨rfl,rfl⟩))
  go_returns
  exact⟨ret_bool (by simp [nameB,hW]),rfl⟩
theorem arity2_any(op:Int)(w:World):Calls Tryz.prog 172 #[.int .i64 op] w fun e w'=>e= .returned (.int .i64 (argsN op))∧w=w':=by
 go_enter Tryz.func172,Tryz.ntmps172
 go_wp2
 all_goals
  go_returns
  exact⟨ret_int (by unfold argsN;(repeat' split)<;>first|omega|(simp_all;done)|(simp_all;omega)),rfl⟩
end Go.Proofs.YtfoefpoaomepbaaGreatDoor
namespace Go.Proofs.YtfoefpoaomepbaaGreatDoor
def fdig(d:Int):Nat→Int→Option (List Int)
 |0,r=>if r≤0 then some []else none
 |f+1,r=>if r≤0 then some []else(fdig d f (r*10 % d)).map fun l=>r*10 / d::l
def partD:List Int→Int
 | []=>0
 |x::r=>x*10 ^ r.length+partD r
theorem fdig_some{d:Int}(hd:1≤d):∀(f:Nat) (r:Int) (l:List Int),0≤r→fdig d f r=some l→partD l*d=r*10 ^ l.length∧l.length≤f
 |0,r,l,h0,h=>by
  unfold fdig at h
  split at h<;>cases h
  have:r=0:=by omega
  subst this;simp [partD]
 |f+1,r,l,h0,h=>by
  unfold fdig at h
  split at h<;>rename_i hc
  ·cases h
   have:r=0:=by omega
   subst this;simp [partD]
  ·obtain⟨q,hq,rfl⟩:=Option.map_eq_some_iff.1 h
   obtain⟨h1,h2⟩:=fdig_some hd f _ q (Int.emod_nonneg _ (by omega)) hq
   refine⟨?_,by simpa using h2⟩
   have e:=Int.mul_ediv_add_emod (r*10) d
   simp only [partD,List.length_cons]
   rw [Int.add_mul,h1,Int.pow_succ]
   generalize(10:Int) ^ q.length=t at *
   have e2:r*(t*10)=(d*(r*10 / d)+r*10 % d)*t:=by rw [e,Int.mul_comm t 10,Int.mul_assoc]
   rw [e2,Int.add_mul,Int.mul_comm d,Int.mul_right_comm]
theorem fdig_none{d:Int}(hd:1≤d):∀(f:Nat) (r:Int),0≤r→r<d→fdig d f r=none→r*10 ^ f % d≠0
 |0,r,h0,h1,h=>by
  unfold fdig at h
  split at h
  ·cases h
  ·rw [Int.pow_zero,Int.mul_one,Int.emod_eq_of_lt h0 h1];omega
 |f+1,r,h0,h1,h=>by
  unfold fdig at h
  split at h
  ·cases h
  ·have h2:=fdig_none hd f (r*10 % d) (Int.emod_nonneg _ (by omega)) (Int.emod_lt_of_pos _ (by omega)) (by simpa using h)
   intro hc
   apply h2
   rw [Int.pow_succ,Int.mul_comm ((10:Int) ^ f),←Int.mul_assoc]at hc
   rw [Int.mul_emod,Int.emod_emod,←Int.mul_emod]
   exact hc
def redP(p:Int):Nat→Int→Int→Int × Int
 |0,a,b=>(a,b)
 |f+1,a,b=>if a % p=0∧b % p=0 then redP p f (a / p) (b / p)else(a,b)
theorem redP_spec{p:Int}(hp:2≤p):∀(f:Nat) (a b:Int),1≤b→b<p ^ f→
 (redP p f a b).1*b=a*(redP p f a b).2∧¬((redP p f a b).1 % p=0∧(redP p f a b).2 % p=0)∧(redP p f a b).2 ∣ b∧1≤(redP p f a b).2∧
 ∀q:Int,¬(a % q=0∧b % q=0)→¬((redP p f a b).1 % q=0∧(redP p f a b).2 % q=0)
 |0,a,b,h1,h2=>by simp at h2;omega
 |f+1,a,b,h1,h2=>by
  unfold redP
  split<;>rename_i hc
  ·obtain⟨a',ha⟩:=Int.dvd_of_emod_eq_zero hc.1
   obtain⟨b',hb⟩:=Int.dvd_of_emod_eq_zero hc.2
   subst ha hb
   rw [Int.mul_ediv_cancel_left _ (by omega),Int.mul_ediv_cancel_left _ (by omega)]
   have hb1:1≤b':=by
    rcases Int.lt_or_le b' 1 with h|h
    ·have:p*b'≤p*0:=Int.mul_le_mul_of_nonneg_left (by omega) (by omega)
     omega
    ·exact h
   have hb2:b'<p ^ f:=by
    rw [Int.pow_succ,Int.mul_comm _ p]at h2
    exact Int.lt_of_mul_lt_mul_left h2 (by omega)
   obtain⟨e1,e2,e3,e4,e5⟩:=redP_spec hp f a' b' hb1 hb2
   refine⟨?_,e2,Int.dvd_trans e3 (Int.dvd_mul_left p b'),e4,fun q hq=>e5 q fun hc=>hq ?_⟩
   ·rw [Int.mul_left_comm,e1,Int.mul_assoc]
   ·exact⟨Int.emod_eq_zero_of_dvd (Int.dvd_trans (Int.dvd_of_emod_eq_zero hc.1) (Int.dvd_mul_left p a')),Int.emod_eq_zero_of_dvd (Int.dvd_trans (Int.dvd_of_emod_eq_zero hc.2) (Int.dvd_mul_left p b'))⟩
  ·exact⟨rfl,hc,Int.dvd_refl b,h1,fun q hq=>hq⟩
def redD(a b:Int):Int × Int:=redP 5 6 (redP 2 14 a b).1 (redP 2 14 a b).2
theorem two_five{g:Nat}{k:Nat}(h:g ∣ 10 ^ k)(h2:¬2 ∣ g)(h5:¬5 ∣ g):g=1:=by
 have c2:Nat.Coprime g 2:=by
  have hd:Nat.gcd g 2 ∣ 2:=Nat.gcd_dvd_right _ _
  have hg:Nat.gcd g 2 ∣ g:=Nat.gcd_dvd_left _ _
  have hle:=Nat.le_of_dvd (by omega) hd
  have:Nat.gcd g 2≠2:=fun e=>h2 (e ▸ hg)
  have h0:Nat.gcd g 2≠0:=fun e=>by rw [e]at hd;omega
  show Nat.gcd g 2=1
  omega
 have c5:Nat.Coprime g 5:=by
  have hd:Nat.gcd g 5 ∣ 5:=Nat.gcd_dvd_right _ _
  have hg:Nat.gcd g 5 ∣ g:=Nat.gcd_dvd_left _ _
  have hle:=Nat.le_of_dvd (by omega) hd
  have:Nat.gcd g 5≠5:=fun e=>h5 (e ▸ hg)
  show Nat.gcd g 5=1
  generalize Nat.gcd g 5=x at *
  obtain rfl|rfl|rfl|rfl|rfl:x=0∨x=1∨x=2∨x=3∨x=4:=by omega
  all_goals first|rfl|(exfalso;revert hd;decide)
 have c10:Nat.Coprime g (10 ^ k):=Nat.Coprime.pow_right k (show Nat.Coprime g (2*5)from Nat.Coprime.mul_right c2 c5)
 exact Nat.Coprime.eq_one_of_dvd c10 h
theorem redD_spec{a:Int}{k:Nat}(hk:k≤4):(redD a (10 ^ k)).1*10 ^ k=a*(redD a (10 ^ k)).2∧(redD a (10 ^ k)).2 ∣ 10 ^ k∧1≤(redD a (10 ^ k)).2∧Nat.Coprime (redD a (10 ^ k)).1.natAbs (redD a (10 ^ k)).2.natAbs:=by
 have hb:(1:Int)≤10 ^ k∧(10:Int) ^ k≤10000:=by
  obtain rfl|rfl|rfl|rfl|rfl:k=0∨k=1∨k=2∨k=3∨k=4:=by omega
  all_goals decide
 obtain⟨e1,e2,e3,e4,e5⟩:=redP_spec (p:=2) (by omega) 14 a (10 ^ k) hb.1 (by rw [show(2:Int) ^ 14=16384 by decide];omega)
 have hle:=Int.le_of_dvd (by omega) e3
 unfold redD
 obtain⟨f1,f2,f3,f4,f5⟩:=redP_spec (p:=5) (by omega) 6 (redP 2 14 a (10 ^ k)).1 (redP 2 14 a (10 ^ k)).2 e4 (by rw [show(5:Int) ^ 6=15625 by decide];omega)
 have f6:=f5 2 e2
 generalize redP 5 6 (redP 2 14 a (10 ^ k)).1 (redP 2 14 a (10 ^ k)).2=z at *
 generalize redP 2 14 a (10 ^ k)=y at *
 have hdv:z.2 ∣ 10 ^ k:=Int.dvd_trans f3 e3
 refine⟨?_,hdv,f4, ?_⟩
 ·have h:z.1*10 ^ k*y.2=a*z.2*y.2:=by
   rw [Int.mul_right_comm,f1,Int.mul_right_comm,e1,Int.mul_right_comm]
  exact Int.eq_of_mul_eq_mul_right (by omega) h
 ·have hg:Nat.gcd z.1.natAbs z.2.natAbs ∣ 10 ^ k:=by
   have h1:z.2.natAbs ∣ 10 ^ k:=by
    have:=Int.natAbs_dvd_natAbs.2 hdv
    rwa [Int.natAbs_pow]at this
   exact Nat.dvd_trans (Nat.gcd_dvd_right _ _) h1
  refine two_five hg (fun h=>f6 ?_) (fun h=>f2 ?_)
  ·exact tz35
  ·exact tz35
theorem cop_eq{an ad bn bd:Int}(h1:1≤ad)(h2:1≤bd)(p:Nat.Coprime an.natAbs ad.natAbs)(q:Nat.Coprime bn.natAbs bd.natAbs)(h:an*bd=bn*ad):an=bn∧ad=bd:=by
 exact tz19
def dec2Ok(n d m:Int):Bool:=
 match fdig d 4 (n % d)with
 |none=>false
 |some l=>decide (n / d≤999999999)&&(decide ((redD (n / d*10 ^ l.length+partD l) (10 ^ l.length)).1=n∧(redD (n / d*10 ^ l.length+partD l) (10 ^ l.length)).2=d)&&decide (2≤m∧m≤4))
theorem dec_law{n d m:Int}(h1:1≤d)(h2:d≤10000)(h3:0≤n)(h4:n≤1000000000000000):dec2Ok n d m=decOk n d m:=by
 have hr0:=Int.emod_nonneg n (show d≠0 by omega)
 have hr1:=Int.emod_lt_of_pos n (show 0<d by omega)
 have hq:=Int.mul_ediv_add_emod n d
 unfold dec2Ok
 cases hf:fdig d 4 (n % d)with
 |none=>
  have:=fdig_none h1 4 _ hr0 hr1 hf
  show false=_
  symm
  rw [Bool.eq_false_iff]
  intro hc
  simp only [decOk,Bool.and_eq_true,decide_eq_true_eq]at hc
  apply this
  have h5:(10000:Int) % d=0:=hc.1.1.1.2
  obtain⟨c,hc⟩:=Int.dvd_of_emod_eq_zero h5
  rw [show(10:Int) ^ 4=10000 by decide,hc,Int.mul_left_comm]
  exact Int.mul_emod_right d _
 |some l=>
  obtain⟨hp,hl⟩:=fdig_some h1 4 _ l hr0 hf
  obtain⟨e1,e2,e3,e4⟩:=redD_spec (a:=n / d*10 ^ l.length+partD l) hl
  have hA:(n / d*10 ^ l.length+partD l)*d=n*10 ^ l.length:=by
   rw [Int.add_mul,hp]
   conv=>rhs;rw [←hq]
   rw [Int.add_mul,Int.mul_comm d,Int.mul_right_comm]
  show(decide (n / d≤999999999)&&_)=_
  generalize redD (n / d*10 ^ l.length+partD l) (10 ^ l.length)=z at *
  rw [Bool.eq_iff_iff]
  simp only [decOk,Bool.and_eq_true,decide_eq_true_eq]
  constructor
  ·rintro⟨a,⟨rfl,rfl⟩,b,c⟩
   refine⟨⟨⟨⟨⟨vfrac_of ⟨by omega,by omega,by omega,by omega⟩ e4,h3⟩, ?_⟩,b⟩,c⟩,a⟩
   refine Int.emod_eq_zero_of_dvd (Int.dvd_trans e2 ?_)
   obtain h|h|h|h|h:l.length=0∨l.length=1∨l.length=2∨l.length=3∨l.length=4:=by omega
   all_goals rw [h];decide
  ·rintro⟨⟨⟨⟨⟨a,-⟩,-⟩,b⟩,c⟩,e⟩
   refine⟨e, ?_,b,c⟩
   have hB:(1:Int)≤10 ^ l.length:=Int.pow_pos (by omega)
   have hx:z.1*d=n*z.2:=by
    have:z.1*d*10 ^ l.length=n*z.2*10 ^ l.length:=by
     rw [Int.mul_right_comm,e1,Int.mul_right_comm,hA,Int.mul_right_comm]
    exact Int.eq_of_mul_eq_mul_right (by omega) this
   exact cop_eq e3 h1 e4 (vfrac_gcd a) hx
theorem decOk_out{n d m:Int}(h:d<1∨10000<d∨n<0∨1000000000000000<n):decOk n d m=false:=by
 rw [Bool.eq_false_iff]
 intro hc
 simp only [decOk,Bool.and_eq_true,decide_eq_true_eq]at hc
 have:=vfrac_bd hc.1.1.1.1.1
 have h5:=Int.le_of_dvd (by omega) (Int.dvd_of_emod_eq_zero hc.1.1.1.2)
 omega
theorem idx_dot:∀(a b:List UInt8),(46:UInt8)∉a→Lib.index (a++46::b) [46]=a.length
 | [],b,_=>by simp [Lib.index,List.isPrefixOf]
 |c::a,b,h=>by
  have h1:(46:UInt8)≠c:=fun e=>h (by simp [e])
  have ih:=idx_dot a b (fun e=>h (by simp [e]))
  simp only [List.cons_append,Lib.index,List.isPrefixOf,ih]
  have h2:((46:UInt8)==c)=false:=by simpa using h1
  rw [h2]
  simp
theorem idx_no:∀(a:List UInt8),(46:UInt8)∉a→Lib.index a [46]= -1
 | [],_=>by simp [Lib.index]
 |c::a,h=>by
  have h1:(46:UInt8)≠c:=fun e=>h (by simp [e])
  have ih:=idx_no a (fun e=>h (by simp [e]))
  simp only [Lib.index,List.isPrefixOf,ih]
  have h2:((46:UInt8)==c)=false:=by simpa using h1
  rw [h2]
  simp
theorem cut_dot(a b:List UInt8)(h:(46:UInt8)∉a):Lib.cut (a++46::b) [46]=(a,b,true):=by
 unfold Lib.cut
 rw [idx_dot a b h,if_pos (by omega)]
 simp
theorem cut_no(a:List UInt8)(h:(46:UInt8)∉a):Lib.cut a [46]=(a,[],false):=by
 unfold Lib.cut
 rw [idx_no a h,if_neg (by omega)]
def natG:Int→List UInt8→Option Int
 |x,[]=>some x
 |x,c::r=>if digc (c.toNat:Int)=true then natG (10*x+((c.toNat:Int)-48)) r else none
theorem natG_append:∀(a b:List UInt8) (x:Int),natG x (a++b)=(natG x a).bind fun y=>natG y b
 | [],b,x=>rfl
 |c::a,b,x=>by
  simp only [List.cons_append,natG]
  split
  ·exact natG_append a b _
  ·rfl
def dgB(x:Int):UInt8:=UInt8.ofNat (48+x.toNat)
theorem dgB_toNat{x:Int}(h0:0≤x)(h1:x≤9):((dgB x).toNat:Int)=48+x:=by
 unfold dgB
 rw [UInt8.toNat_ofNat']
 omega
theorem natG_one(x y:Int)(h0:0≤y)(h1:y≤9):natG x [dgB y]=some (10*x+y):=by
 have e:=dgB_toNat h0 h1
 simp only [natG]
 rw [e,if_pos (by simp [digc];omega)]
 congr 1
 omega
theorem natG_digs:∀(l:List Int) (x:Int),(∀y∈l,0≤y∧y≤9)→natG x (l.map dgB)=some (x*10 ^ l.length+partD l)
 | [],x,_=>by simp [natG,partD]
 |y::l,x,h=>by
  have hy:=h y (by simp)
  have ih:=natG_digs l (10*x+y) (fun z hz=>h z (by simp [hz]))
  have e:=natG_append [dgB y] (l.map dgB) x
  rw [natG_one x y hy.1 hy.2]at e
  simp only [List.map_cons]
  rw [show dgB y::l.map dgB= [dgB y]++l.map dgB from rfl,e]
  simp only [Option.bind_some]
  rw [ih]
  congr 1
  simp only [List.length_cons,partD,Int.pow_succ]
  rw [Int.add_mul,Int.mul_comm 10 x,Int.mul_assoc,Int.mul_comm 10]
  omega
theorem natG_dec(u:Nat):∀x:Int,natG x (Lib.decDigits u)=some (x*10 ^ Lib.nDigits u+u):=by
 induction u using Nat.strongRecOn with
 |_ u ih=>
  intro x
  rw [Lib.decDigits]
  by_cases h:u<10
  ·rw [dif_pos h,Lib.nDigits_small h]
   have:=natG_one x u (by omega) (by omega)
   unfold dgB at this
   rw [Int.toNat_natCast]at this
   rw [this]
   congr 1
   omega
  ·rw [dif_neg h,natG_append,ih (u / 10) (by omega),Lib.nDigits_big h]
   simp only [Option.bind_some]
   have:=natG_one (x*10 ^ Lib.nDigits (u / 10)+(u / 10:Nat)) ((u % 10:Nat):Int) (by omega) (by omega)
   unfold dgB at this
   rw [Int.toNat_natCast]at this
   rw [this]
   congr 1
   rw [Int.pow_succ,Int.mul_add,←Int.mul_assoc,Int.mul_comm 10 x,Int.mul_assoc,Int.mul_comm 10 (10 ^ _)]
   omega
theorem dec_digs(u:Nat):∀c∈Lib.decDigits u,48≤c.toNat∧c.toNat≤57:=by
 induction u using Nat.strongRecOn with
 |_ u ih=>
  intro c hc
  rw [Lib.decDigits]at hc
  by_cases h:u<10
  ·rw [dif_pos h]at hc
   simp only [List.mem_singleton]at hc
   subst hc
   rw [UInt8.toNat_ofNat']
   omega
  ·rw [dif_neg h]at hc
   rcases List.mem_append.1 hc with hc|hc
   ·exact ih (u / 10) (by omega) c hc
   ·simp only [List.mem_singleton]at hc
    subst hc
    rw [UInt8.toNat_ofNat']
    omega
theorem dec_head(u:Nat)(h:1≤u):∃c r,Lib.decDigits u=c::r∧c.toNat≠48:=by
 induction u using Nat.strongRecOn with
 |_ u ih=>
  rw [Lib.decDigits]
  by_cases h2:u<10
  ·rw [dif_pos h2]
   exact⟨_,_,rfl,by rw [UInt8.toNat_ofNat'];omega⟩
  ·rw [dif_neg h2]
   obtain⟨c,r,e,hc⟩:=ih (u / 10) (by omega) (by omega)
   rw [e]
   exact⟨c,_,rfl,hc⟩
def stripM(s:List UInt8):List UInt8 × Int:=if s.getLast? =some 100 then(s.dropLast,3)else if s.getLast? =some 109 then(s.dropLast,4)else(s,2)
def decForm(a b:List UInt8)(pt:Bool):Bool:=decide (1≤a.length)&&decide (a.length≤9)&&!(decide (1<a.length)&&decide (a.head? =some 48))&&!(pt&&(decide (b.length<1) || decide (4<b.length)))
def decP(a b:List UInt8)(pt:Bool)(m:Int):Option (Int × Int × Int):=
 if decForm a b pt=true then(natG 0 a).bind fun x=>(natG 0 b).map fun p=>((redD (x*10 ^ b.length+p) (10 ^ b.length)).1,(redD (x*10 ^ b.length+p) (10 ^ b.length)).2,m)else none
def decF(s:List UInt8):Option (Int × Int × Int):=decP (Lib.cut (stripM s).1 [46]).1 (Lib.cut (stripM s).1 [46]).2.1 (Lib.cut (stripM s).1 [46]).2.2 (stripM s).2
def dotL(l:List Int):List UInt8:=if l= []then []else 46::l.map dgB
def sufL(m:Int):List UInt8:=if m=3 then [100]else if m=4 then [109]else []
def sufM(m:Int):Int:=if m=3 then 3 else if m=4 then 4 else 2
theorem getLast_digs{s:List UInt8}(h0:s≠[])(h:∀c∈s,48≤c.toNat∧c.toNat≤57∨c=46):s.getLast?≠some 100∧s.getLast?≠some 109:=by
 have e:=List.getLast?_eq_some_getLast h0
 have hc:=h _ (List.getLast_mem h0)
 rw [e]
 constructor
 ·exact tz54
 ·exact tz54
theorem strip_suf{s:List UInt8}(h0:s≠[])(h:∀c∈s,48≤c.toNat∧c.toNat≤57∨c=46)(m:Int):stripM (s++sufL m)=(s,sufM m):=by
 obtain⟨h1,h2⟩:=getLast_digs h0 h
 unfold stripM sufL sufM
 by_cases c3:m=3
 ·subst c3
  rw [if_pos rfl,if_pos rfl]
  simp
 ·by_cases c4:m=4
  ·subst c4
   simp
  ·rw [if_neg c3,if_neg c4,if_neg c3,if_neg c4,List.append_nil,if_neg h1,if_neg h2]
theorem dgB_rng{x:Int}(h0:0≤x)(h1:x≤9):48≤(dgB x).toNat∧(dgB x).toNat≤57:=by have:=dgB_toNat h0 h1;omega
theorem body_chars{q:Nat}{l:List Int}(hl:∀y∈l,0≤y∧y≤9):∀c∈Lib.decDigits q++dotL l,48≤c.toNat∧c.toNat≤57∨c=46:=by
 intro c hc
 rcases List.mem_append.1 hc with hc|hc
 ·exact .inl (dec_digs q c hc)
 ·unfold dotL at hc
  split at hc
  ·cases hc
  ·rcases List.mem_cons.1 hc with hc|hc
   ·exact .inr hc
   ·obtain⟨y,hy,rfl⟩:=List.mem_map.1 hc
    have:=hl y hy
    exact .inl (dgB_rng this.1 this.2)
theorem nDigits_nine(q:Nat):Lib.nDigits q≤9↔q≤999999999:=by
 constructor
 ·intro h
  have h1:=Lib.lt_pow_nDigits q
  have h2:10 ^ Lib.nDigits q≤10 ^ 9:=Nat.pow_le_pow_right (by omega) h
  have h3:(10:Nat) ^ 9=1000000000:=by decide
  omega
 ·intro h
  by_cases h9:Lib.nDigits q≤9
  ·exact h9
  ·exfalso
   obtain⟨k,hk⟩:∃k,Lib.nDigits q=k+1:=⟨Lib.nDigits q-1,by have:=Lib.nDigits_pos q;omega⟩
   have hlow:∀(u:Nat) (k:Nat),Lib.nDigits u=k+2→10 ^ (k+1)≤u:=by
    intro u
    induction u using Nat.strongRecOn with
    |_ u ih=>
     intro k hk
     by_cases hs:u<10
     ·rw [Lib.nDigits_small hs]at hk;omega
     ·rw [Lib.nDigits_big hs]at hk
      cases k with
      |zero=>omega
      |succ k=>
       have:=ih (u / 10) (by omega) k (by omega)
       rw [Nat.pow_succ];omega
   have:=hlow q (Lib.nDigits q-2) (by omega)
   have h2:10 ^ 9≤10 ^ (Lib.nDigits q-2+1):=Nat.pow_le_pow_right (by omega) (by omega)
   have h3:(10:Nat) ^ 9=1000000000:=by decide
   omega
theorem dec_no_dot(q:Nat):(46:UInt8)∉Lib.decDigits q:=fun h=>by
 have:=dec_digs q _ h
 revert this;decide
theorem cut_body(q:Nat)(l:List Int):Lib.cut (Lib.decDigits q++dotL l) [46]=(Lib.decDigits q,l.map dgB,decide (l≠[])):=by
 unfold dotL
 by_cases h:l= []
 ·subst h
  rw [if_pos rfl,List.append_nil,cut_no _ (dec_no_dot q)]
  simp
 ·rw [if_neg h,cut_dot _ _ (dec_no_dot q)]
  simp [h]
theorem form_body(q:Nat)(l:List Int)(hn:l.length≤4):decForm (Lib.decDigits q) (l.map dgB) (decide (l≠[]))=decide (q≤999999999):=by
 unfold decForm
 rw [Lib.decDigits_length]
 have h1:=Lib.nDigits_pos q
 have h9:=nDigits_nine q
 have e3:(decide (1<Lib.nDigits q)&&decide ((Lib.decDigits q).head? =some 48))=false:=by
  rw [Bool.and_eq_false_iff]
  by_cases c:1<Lib.nDigits q
  ·right
   have hq:1≤q:=by
    rcases Nat.eq_zero_or_pos q with rfl|h
    ·rw [Lib.nDigits_small (by omega)]at c;omega
    ·exact h
   obtain⟨x,r,e,hx⟩:=dec_head q hq
   rw [e]
   simp only [List.head?_cons,Option.some.injEq,decide_eq_false_iff_not]
   intro k
   rw [k]at hx
   exact hx (by decide)
  ·left;simpa using c
 have e4:(decide (l≠[])&&(decide ((l.map dgB).length<1) || decide (4<(l.map dgB).length)))=false:=by
  rw [List.length_map]
  cases l with
  |nil=>rfl
  |cons a r=>simp at hn ⊢;omega
 have e9:decide (Lib.nDigits q≤9)=decide (q≤999999999):=decide_eq_decide.2 h9
 rw [e3,e4,decide_eq_true (show 1≤Lib.nDigits q from h1),e9]
 simp
theorem decF_text{q:Nat}{l:List Int}(hl:∀y∈l,0≤y∧y≤9)(hn:l.length≤4)(m:Int):decF (Lib.decDigits q++dotL l++sufL m)=
 if q≤999999999 then some ((redD (q*10 ^ l.length+partD l) (10 ^ l.length)).1,(redD (q*10 ^ l.length+partD l) (10 ^ l.length)).2,sufM m)else none:=by
 have h0:Lib.decDigits q++dotL l≠[]:=by
  have k1:=Lib.decDigits_length q
  have k2:=Lib.nDigits_pos q
  intro h
  rw [List.append_eq_nil_iff]at h
  rw [h.1]at k1
  simp at k1
  omega
 unfold decF
 rw [strip_suf h0 (body_chars hl) m]
 simp only [cut_body,decP,form_body q l hn,decide_eq_true_eq]
 have e1:=natG_dec q 0
 have e2:=natG_digs l 0 hl
 rw [Int.zero_mul,Int.zero_add]at e1 e2
 rw [e1,e2]
 simp
theorem fdig_digs{d:Int}(hd:1≤d):∀(f:Nat) (r:Int) (l:List Int),0≤r→r<d→fdig d f r=some l→∀y∈l,0≤y∧y≤9
 |0,r,l,_,_,h=>by
  unfold fdig at h
  split at h<;>cases h
  intro y hy;cases hy
 |f+1,r,l,h0,h1,h=>by
  unfold fdig at h
  split at h<;>rename_i hc
  ·cases h
   intro y hy;cases hy
  ·obtain⟨q,hq,rfl⟩:=Option.map_eq_some_iff.1 h
   intro y hy
   rcases List.mem_cons.1 hy with rfl|hy
   ·constructor
    ·exact Int.ediv_nonneg (by omega) (by omega)
    ·have:r*10 / d<10:=Int.ediv_lt_of_lt_mul (by omega) (by omega)
     omega
   ·exact fdig_digs hd f _ q (Int.emod_nonneg _ (by omega)) (Int.emod_lt_of_pos _ (by omega)) hq y hy
def dec2T(n d m:Int):List UInt8:=match fdig d 4 (n % d)with|some l=>Lib.decDigits (n / d).toNat++dotL l++sufL m|none=>[]
theorem dec2_read{n d m:Int}{l:List Int}(h1:1≤d)(h2:d≤10000)(h3:0≤n)(h4:n≤1000000000000000)(hf:fdig d 4 (n % d)=some l) :
 (decF (Lib.decDigits (n / d).toNat++dotL l++sufL m)=some (n,d,m))↔decOk n d m=true:=by
 have hr0:=Int.emod_nonneg n (show d≠0 by omega)
 have hr1:=Int.emod_lt_of_pos n (show 0<d by omega)
 have hq0:0≤n / d:=Int.ediv_nonneg h3 (by omega)
 obtain⟨-,hn⟩:=fdig_some h1 4 _ l hr0 hf
 rw [decF_text (fdig_digs h1 4 _ l hr0 hr1 hf) hn m,←dec_law h1 h2 h3 h4]
 unfold dec2Ok
 rw [hf]
 have e:(((n / d).toNat:Nat):Int)=n / d:=by omega
 rw [e]
 simp only [Bool.and_eq_true,decide_eq_true_eq]
 have hm:sufM m=m↔2≤m∧m≤4:=by
  unfold sufM
  split
  ·omega
  ·split<;>omega
 constructor
 ·intro h
  split at h<;>rename_i hc
  ·simp only [Option.some.injEq,Prod.mk.injEq]at h
   exact⟨by omega,⟨h.1,h.2.1⟩,hm.1 h.2.2⟩
  ·cases h
 ·rintro⟨a,⟨b,c⟩,k⟩
  rw [if_pos (by omega),b,c,hm.2 k]
theorem dec2_none{n d m:Int}(h1:1≤d)(h2:d≤10000)(h3:0≤n)(h4:n≤1000000000000000)(hf:fdig d 4 (n % d)=none):decOk n d m=false:=by
 rw [←dec_law h1 h2 h3 h4]
 unfold dec2Ok
 rw [hf]
end Go.Proofs.YtfoefpoaomepbaaGreatDoor
