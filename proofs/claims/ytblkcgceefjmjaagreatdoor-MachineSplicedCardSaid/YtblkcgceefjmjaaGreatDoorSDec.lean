import Derived.Test.YtblkcgceefjmjaaGreatDoorSWord
import Derived.Test.YtblkcgceefjmjaaGreatDoorSK
import Derived.ProofKit
import Derived.SizedLaws
import Derived.Deep.Matrix
import Derived.Deep.Fields
import Derived.OpenShut
set_option linter.all false
set_option maxHeartbeats 16000000
set_option maxRecDepth 1000000
namespace Go.Proofs.YtblkcgceefjmjaaGreatDoor
open Go.RowKit

def decG:Nat→Int→Int→ByteArray→ByteArray
 |0,_,_,s=>s
 |f+1,r,k,s=>if 0<r then decG f (r % k) (k / 10) (s++tenS.extract (r / k).toNat (r / k+1).toNat)else s
def decOk(n d m:Int):Bool:=vfrac n d&&decide (0≤n)&&decide (10000 % d=0)&&decide (2≤m)&&decide (m≤4)&&decide (n / d≤999999999)
def restI(n d:Int):Int:=(n-n / d*d)*(10000 / d)
def sufS(m:Int):ByteArray:=if m=2 then⟨#[]⟩else if m=3 then⟨#[100]⟩else⟨#[109]⟩
def decS(n d m:Int):ByteArray:=
 (if 0<restI n d then decG 4 (restI n d) 1000 (digS (n / d) 1++⟨#[46]⟩)else digS (n / d) 1)++sufS m
theorem ret_dec{a b:ByteArray}{p q:Bool}(h:a=b)(g:p=q):Ending.returned (.tuple #[.string a,.bool p])= .returned (.tuple #[.string b,.bool q]):=by rw [h,g]
def decV(n d m:Int):Value:=.tuple #[.string (if decOk n d m=true then decS n d m else⟨#[]⟩),.bool (decOk n d m)]
theorem decV_no{n d m:Int}(h:decOk n d m=false):decV n d m= .tuple #[.string ⟨#[]⟩,.bool false]:=by simp [decV,h]
theorem decV_yes{n d m:Int}(h:decOk n d m=true):decV n d m= .tuple #[.string (decS n d m),.bool true]:=by simp [decV,h]
theorem FormatDecimal_no(n d m:Int)(w:World)(h1:-9223372036854775808≤n)(h2:n≤9223372036854775807)(h3:-9223372036854775808≤d)(h4:d≤9223372036854775807)(h:decOk n d m=false):Calls Tryz.prog 131 #[.agg #[.int .i64 n,.int .i64 d],.int .i64 m] w fun e w'=>e= .returned (decV n d m)∧w.Grows w':=by
 cases hv:vfrac n d
 ·have hq:Hid True:=Lib.hid trivial
  exact sz2
 ·have⟨b1,b2,b3,b4⟩:=vfrac_bd hv
  have hq:Hid True:=Lib.hid trivial
  by_cases c1:n<0
  ·exact sz2
  ·by_cases c2:10000 % d=0
   ·by_cases c3:m<2
    ·exact sz2
    ·by_cases c4:4<m
     ·exact sz2
     ·by_cases c5:n / d≤999999999
      ·exfalso;simp [decOk,hv,c2]at h;omega
      ·exact sz2
   ·exact sz2
theorem fracS_whole(q:Int)(h0:0≤q)(h1:q≤999999999):fracS q 1=digS q 1:=by
 have hv:vfrac q 1=true:=vfrac_of (by omega) (by simp)
 have ha:absI q=q:=absI_of_nonneg h0
 simp [fracS,hv,ha];intro h;omega
theorem rest_bd(n d:Int)(h0:0≤n)(h1:1≤d)(h2:10000 % d=0):0≤n / d∧0≤n / d*d∧n / d*d≤n∧n-n / d*d<d∧0≤10000 / d∧10000 / d≤10000∧0≤restI n d∧restI n d<10000:=by
 have a1:0≤n / d:=Int.ediv_nonneg h0 (by omega)
 have a2:0≤n % d:=Int.emod_nonneg _ (by omega)
 have a3:n % d<d:=Int.emod_lt_of_pos _ (by omega)
 have a4:d*(n / d)+n % d=n:=Int.mul_ediv_add_emod n d
 rw [Int.mul_comm]at a4
 have a5:0≤10000 / d:=Int.ediv_nonneg (by omega) (by omega)
 have a6:10000 / d≤10000:=Int.ediv_le_self _ (by omega)
 have a7:d*(10000 / d)+10000 % d=10000:=Int.mul_ediv_add_emod 10000 d
 have a8:n-n / d*d=n % d:=by omega
 have a9:0≤n / d*d:=Int.mul_nonneg a1 (by omega)
 refine⟨a1,a9,by omega,by omega,a5,a6, ?_, ?_⟩
 ·unfold restI;rw [a8];exact Int.mul_nonneg a2 a5
 ·unfold restI;rw [a8]
  have a10:0<10000 / d:=by
   rcases Int.lt_or_eq_of_le a5 with h|h
   ·exact h
   ·rw [←h]at a7;omega
  have:=Int.mul_lt_mul_of_pos_right a3 a10
  omega
theorem decG_stop(f:Nat)(r k:Int)(s:ByteArray)(h:¬0<r):decG f r k s=s:=by cases f<;>simp [decG,h]
theorem decG_go(f:Nat)(r k:Int)(s:ByteArray)(h:0<r):decG (f+1) r k s=decG f (r % k) (k / 10) (s++tenS.extract (r / k).toNat (r / k+1).toNat):=by simp [decG,h]
theorem ten_app(s:ByteArray)(x:Int)(h0:0≤x)(h1:x<10):(s++(⟨#[48,49,50,51,52,53,54,55,56,57]⟩:ByteArray).extract x.toNat (x+1).toNat).size=s.size+1:=by
 show(s++tenS.extract _ _).size=_
 rw [ByteArray.size_append,ByteArray.size_extract,tenS_size];omega
theorem dot_size(s:ByteArray):(s++(⟨#[46]⟩:ByteArray)).size=s.size+1:=by rw [ByteArray.size_append];rfl
theorem decS_dot{n d m r k:Int}{j:Nat}{s:ByteArray}(hp:0<restI n d)(g:decG j r k s=decG 4 (restI n d) 1000 (digS (n / d) 1++⟨#[46]⟩))(g6:decG j r k s=s):s++sufS m=decS n d m:=by
 unfold decS
 rw [if_pos hp,←g,g6]
theorem decS_whole{n d m r k:Int}{j:Nat}{s:ByteArray}(hp:¬0<restI n d)(g:decG j r k s=decG 4 (restI n d) 1000 (digS (n / d) 1))(g6:decG j r k s=s):s++sufS m=decS n d m:=by
 unfold decS
 rw [if_neg hp,←g6,g,decG_stop _ _ _ _ hp]
theorem FormatDecimal_yes(n d m:Int)(w:World)(h1:-9223372036854775808≤n)(h2:n≤9223372036854775807)(h3:-9223372036854775808≤d)(h4:d≤9223372036854775807)(h:decOk n d m=true):Calls Tryz.prog 131 #[.agg #[.int .i64 n,.int .i64 d],.int .i64 m] w fun e w'=>e= .returned (decV n d m)∧w.Grows w':=by
 rw [decV_yes h]
 simp only [decOk,Bool.and_eq_true,decide_eq_true_eq]at h
 obtain⟨⟨⟨⟨⟨hv,c1⟩,c2⟩,c3⟩,c4⟩,c5⟩:=h
 have⟨b1,b2,b3,b4⟩:=vfrac_bd hv
 have⟨r1,r2,r3,r4,r5,r6,r7,r8⟩:=rest_bd n d c1 b1 c2
 have hR:Hid (_):=Lib.hid (show restI n d=(n-n / d*d)*(10000 / d)from rfl)
 unfold restI at r7 r8
 have hq:=Lib.hid (fracS_whole (n / d) r1 c5)
 have z:=digS_size (n / d) 1 r1
 have z1:((digS (n / d) 1).size:Int)≤1000000000:=by omega
 clear z
 go_enter Tryz.func131,Tryz.ntmps131
 by_cases hp:0<(n-n / d*d)*(10000 / d)
 ·have HP:=Lib.hid (show 0<restI n d from hp)
  go_wp2_with ((first|(go_at_call 110;(with_reducible refine(Valid1_any _ _ _ (by omega) (by omega) (by omega) (by omega)).mono ?_);rintro e w' ⟨rfl,bs,dr,rfl⟩;simp only [hv])|(go_at_call 212;(with_reducible refine(FormatFraction_any _ _ _ (by omega) (by omega) (by omega) (by omega)).mono ?_);rintro e w' ⟨rfl,bs2,dr2,rfl⟩;simp only [hq.out])))
  go_quiet (fail)
  go_wp2_with fail
  go_loopw [7,8,9] (fun v7 v8 v9 wr=>∃j:Nat,∃r k:Int,∃s:ByteArray,v7= .string s∧v8= .int .i64 r∧v9= .int .i64 k∧0≤r∧((s.size:Int)≤1000000010-j)∧
   ((j=4∧k=1000∧r<10000)∨(j=3∧k=100∧r<1000)∨(j=2∧k=10∧r<100)∨(j=1∧k=1∧r<10)∨(j=0∧k=0∧r=0))∧
   Hid (decG j r k s=decG 4 (restI n d) 1000 (digS (n / d) 1++⟨#[46]⟩))∧World.Grows (w.alloc (.cells #[.int .i64 n,.int .i64 d] 24)) wr) (fun _ _ v9 _=>(intOf v9).toNat)
  case atStart=>exact⟨4,_,_,_,rfl,rfl,rfl,by omega,by first|(rw [dot_size];omega)|omega,.inl ⟨rfl,rfl,by omega⟩,Lib.hid (by rw [hR.out]),.of_below belB⟩
  case round=>
   obtain⟨j,r,k,s,rfl,rfl,rfl,g1,g2,g3,g4,bs3,dr3,rfl⟩:=hrel
   by_cases g0:0<r
   ·exact sz3
   ·have G6:=Lib.hid (decG_stop j r k s g0)
    obtain rfl|rfl|rfl:m=2∨m=3∨m=4:=by omega
    ·go_wp2_with fail
     go_returns
     exact⟨ret_dec (show s++sufS 2=decS n d 2 from decS_dot (by have:=HP.out;omega) g4.out G6.out) rfl,.of_below belB⟩
    ·go_wp2_with fail
     go_returns
     exact⟨ret_dec (show s++sufS 3=decS n d 3 from decS_dot (by have:=HP.out;omega) g4.out G6.out) rfl,.of_below belB⟩
    ·go_wp2_with fail
     go_returns
     exact⟨ret_dec (show s++sufS 4=decS n d 4 from decS_dot (by have:=HP.out;omega) g4.out G6.out) rfl,.of_below belB⟩
 ·have HP:=Lib.hid (show ¬0<restI n d from hp)
  go_wp2_with ((first|(go_at_call 110;(with_reducible refine(Valid1_any _ _ _ (by omega) (by omega) (by omega) (by omega)).mono ?_);rintro e w' ⟨rfl,bs,dr,rfl⟩;simp only [hv])|(go_at_call 212;(with_reducible refine(FormatFraction_any _ _ _ (by omega) (by omega) (by omega) (by omega)).mono ?_);rintro e w' ⟨rfl,bs2,dr2,rfl⟩;simp only [hq.out])))
  go_quiet (fail)
  go_wp2_with fail
  go_loopw [7,8,9] (fun v7 v8 v9 wr=>∃j:Nat,∃r k:Int,∃s:ByteArray,v7= .string s∧v8= .int .i64 r∧v9= .int .i64 k∧0≤r∧((s.size:Int)≤1000000010-j)∧
   ((j=4∧k=1000∧r<10000)∨(j=3∧k=100∧r<1000)∨(j=2∧k=10∧r<100)∨(j=1∧k=1∧r<10)∨(j=0∧k=0∧r=0))∧
   Hid (decG j r k s=decG 4 (restI n d) 1000 (digS (n / d) 1))∧World.Grows (w.alloc (.cells #[.int .i64 n,.int .i64 d] 24)) wr) (fun _ _ v9 _=>(intOf v9).toNat)
  case atStart=>exact⟨4,_,_,_,rfl,rfl,rfl,by omega,by first|(rw [dot_size];omega)|omega,.inl ⟨rfl,rfl,by omega⟩,Lib.hid (by rw [hR.out]),.of_below belB⟩
  case round=>
   obtain⟨j,r,k,s,rfl,rfl,rfl,g1,g2,g3,g4,bs3,dr3,rfl⟩:=hrel
   by_cases g0:0<r
   ·exact sz3
   ·have G6:=Lib.hid (decG_stop j r k s g0)
    obtain rfl|rfl|rfl:m=2∨m=3∨m=4:=by omega
    ·go_wp2_with fail
     go_returns
     exact⟨ret_dec (show s++sufS 2=decS n d 2 from decS_whole (by have:=HP.out;omega) g4.out G6.out) rfl,.of_below belB⟩
    ·go_wp2_with fail
     go_returns
     exact⟨ret_dec (show s++sufS 3=decS n d 3 from decS_whole (by have:=HP.out;omega) g4.out G6.out) rfl,.of_below belB⟩
    ·go_wp2_with fail
     go_returns
     exact⟨ret_dec (show s++sufS 4=decS n d 4 from decS_whole (by have:=HP.out;omega) g4.out G6.out) rfl,.of_below belB⟩
theorem FormatDecimal_any(n d m:Int)(w:World)(h1:-9223372036854775808≤n)(h2:n≤9223372036854775807)(h3:-9223372036854775808≤d)(h4:d≤9223372036854775807):Calls Tryz.prog 131 #[.agg #[.int .i64 n,.int .i64 d],.int .i64 m] w fun e w'=>e= .returned (decV n d m)∧w.Grows w':=by
 cases h:decOk n d m
 ·exact FormatDecimal_no n d m w h1 h2 h3 h4 h
 ·exact FormatDecimal_yes n d m w h1 h2 h3 h4 h

theorem Calls.quiet_eq{P:Program}{f:FuncId}{args:Array Value}{w:World}{n:Nat}{v:Value}
 (h:Calls P f args (w.drewN n) fun e w'=>e= .returned v∧w.drewN n=w'):Calls P f args (w.drewN n) fun e w''=>e= .returned v∧∃m,w''=w.drewN m:=
 h.mono fun _ _ ⟨he,hm⟩=>⟨he,n,hm.symm⟩
theorem RepE.form0{S:Nat→Prop}{w:World}{e:Ex}{v:Value}(h:RepE S w e v):∃a cap,v= .slice a e.args.length cap:=by cases h;exact⟨_,_,rfl⟩
mutual
def formedB:Ex→Bool
 | .mk o n d m s l=>decide ((l.length:Int)=argsN o)&&
  (if o=1 then decOk n d m&&s.toList.isEmpty
   else if o=2 then decide (n=0)&&decide (d=0)&&decide (m=0)&&nameB s
   else if o=3 then decide (m=0)&&s.toList.isEmpty&&decide (d=1)&&decide (1≤n)&&decide (n≤45)
   else formedsB l&&(decide (n=0)&&decide (d=0)&&decide (m=0)&&s.toList.isEmpty))
def formedsB:List Ex→Bool
 | []=>true
 |e::r=>formedB e&&formedsB r
end
theorem formedB_eq(e:Ex):formedB e=(decide ((e.args.length:Int)=argsN e.op)&&
 (if e.op=1 then decOk e.num e.den e.dim&&e.name.toList.isEmpty
  else if e.op=2 then decide (e.num=0)&&decide (e.den=0)&&decide (e.dim=0)&&nameB e.name
  else if e.op=3 then decide (e.dim=0)&&e.name.toList.isEmpty&&decide (e.den=1)&&decide (1≤e.num)&&decide (e.num≤45)
  else formedsB e.args&&(decide (e.num=0)&&decide (e.den=0)&&decide (e.dim=0)&&e.name.toList.isEmpty))):=by
 cases e;rw [formedB];rfl
theorem formedsB_take(l:List Ex)(k:Nat)(h:k<l.length):formedsB (l.take (k+1))=(formedsB (l.take k)&&formedB (l.getD k default)):=by
 induction l generalizing k with
 |nil=>simp at h
 |cons e r ih=>
  cases k with
  |zero=>simp [formedsB]
  |succ k=>simp only [List.take_succ_cons,formedsB,List.getD_cons_succ];rw [ih k (by simpa using h),Bool.and_assoc]
theorem formedsB_no(l:List Ex)(k:Nat)(h:k<l.length)(hf:formedB (l.getD k default)=false):formedsB l=false:=by
 induction l generalizing k with
 |nil=>simp at h
 |cons e r ih=>
  cases k with
  |zero=>simp only [List.getD_cons_zero]at hf;simp [formedsB,hf]
  |succ k=>simp only [List.getD_cons_succ]at hf;simp [formedsB,ih k (by simpa using h) hf]

theorem formed_len
 (S:Nat→Prop) (e:Ex) (v:Value) (w:World) (h:RepE S w e v)
 (hne:¬(e.args.length:Int)=argsN e.op):(Calls Tryz.prog 117 #[exV e v] w fun r w'=>r= .returned (.bool (formedB e))∧w.Grows w'):=by
 have HF:Hid (formedB e=false):=Lib.hid (by rw [formedB_eq,decide_eq_false hne,Bool.false_and])
 have hr:=h.rng
 obtain⟨a,cap,hv⟩:∃a cap,v= .slice a e.args.length cap:=by cases h;exact⟨_,_,rfl⟩
 subst hv
 clear h
 obtain⟨on,od⟩:=hr.num
 obtain⟨pn,pd⟩:=hr.den
 have hsz:=hr.name
 clear hr
 have h1:((e.args.length:Int)!=argsN e.op)=true:=by simpa using hne
 clear hne
 go_enter Tryz.func117,Tryz.ntmps117
 go_wp2_with fail
 go_quiet ((go_at_call 79;exact Calls.quiet_eq (Args_any _ _)))
 go_wp2_with fail
 go_returns
 exact⟨ret_bool HF.out.symm,.of_below belB⟩
theorem formed_lit
 (S:Nat→Prop) (e:Ex) (v:Value) (w:World) (h:RepE S w e v)
 (hle:(e.args.length:Int)=argsN e.op) (ho:e.op=1):(Calls Tryz.prog 117 #[exV e v] w fun r w'=>r= .returned (.bool (formedB e))∧w.Grows w'):=by
 have HF:Hid (formedB e=(decOk e.num e.den e.dim&&e.name.toList.isEmpty)):=Lib.hid (by rw [formedB_eq,decide_eq_true hle,Bool.true_and,if_pos ho])
 have hr:=h.rng
 obtain⟨a,cap,hv⟩:∃a cap,v= .slice a e.args.length cap:=by cases h;exact⟨_,_,rfl⟩
 subst hv
 clear h
 obtain⟨on,od⟩:=hr.num
 obtain⟨pn,pd⟩:=hr.den
 have hsz:=hr.name
 clear hr
 have h1:((e.args.length:Int)!=argsN 1)=false:=by rw [ho]at hle;simpa using hle
 clear hle
 go_enter Tryz.func117,Tryz.ntmps117
 go_wp2_with fail
 go_quiet ((go_at_call 79;exact Calls.quiet_eq (Args_any _ _)))
 go_wp2_with (go_at_call 131;refine(FormatDecimal_any _ _ _ _ (by omega) (by omega) (by omega) (by omega)).mono ?_;rintro e' w' ⟨rfl,bs,d,rfl⟩;simp only [decV])
 all_goals
  go_returns
  exact⟨ret_bool (by rw [HF.out];simp [*]),.of_below belB⟩
theorem formed_name
 (S:Nat→Prop) (e:Ex) (v:Value) (w:World) (h:RepE S w e v)
 (hle:(e.args.length:Int)=argsN e.op) (ho:e.op=2):(Calls Tryz.prog 117 #[exV e v] w fun r w'=>r= .returned (.bool (formedB e))∧w.Grows w'):=by
 have HF:Hid (formedB e=(decide (e.num=0)&&decide (e.den=0)&&decide (e.dim=0)&&nameB e.name)):=Lib.hid (by rw [formedB_eq,decide_eq_true hle,Bool.true_and,if_neg (by omega),if_pos ho])
 have hr:=h.rng
 obtain⟨a,cap,hv⟩:∃a cap,v= .slice a e.args.length cap:=by cases h;exact⟨_,_,rfl⟩
 subst hv
 clear h
 obtain⟨on,od⟩:=hr.num
 obtain⟨pn,pd⟩:=hr.den
 have hsz:=hr.name
 clear hr
 have h1:((e.args.length:Int)!=argsN 2)=false:=by rw [ho]at hle;simpa using hle
 clear hle
 have hm:e.name.size≤maxLen:=by unfold maxLen;omega
 have HM:=Lib.hid hm
 clear hm
 go_enter Tryz.func117,Tryz.ntmps117
 go_wp2_with fail
 go_quiet ((go_at_call 79;exact Calls.quiet_eq (Args_any _ _)))
 go_wp2_with (go_at_call 64;refine(IsName_any _ _ HM.out).mono ?_;rintro e' w' ⟨rfl,rfl⟩)
 all_goals
  go_returns
  exact⟨ret_bool (by rw [HF.out];simp [*]),.of_below belB⟩
theorem formed_best
 (S:Nat→Prop) (e:Ex) (v:Value) (w:World) (h:RepE S w e v)
 (hle:(e.args.length:Int)=argsN e.op) (ho:e.op=3):(Calls Tryz.prog 117 #[exV e v] w fun r w'=>r= .returned (.bool (formedB e))∧w.Grows w'):=by
 have HF:Hid (formedB e=(decide (e.dim=0)&&e.name.toList.isEmpty&&decide (e.den=1)&&decide (1≤e.num)&&decide (e.num≤45))):=Lib.hid (by rw [formedB_eq,decide_eq_true hle,Bool.true_and,if_neg (by omega),if_neg (by omega),if_pos ho])
 have hr:=h.rng
 obtain⟨a,cap,hv⟩:∃a cap,v= .slice a e.args.length cap:=by cases h;exact⟨_,_,rfl⟩
 subst hv
 clear h
 obtain⟨on,od⟩:=hr.num
 obtain⟨pn,pd⟩:=hr.den
 have hsz:=hr.name
 clear hr
 have h1:((e.args.length:Int)!=argsN 3)=false:=by rw [ho]at hle;simpa using hle
 clear hle
 go_enter Tryz.func117,Tryz.ntmps117
 go_wp2_with fail
 go_quiet ((go_at_call 79;exact Calls.quiet_eq (Args_any _ _)))
 go_wp2_with fail
 all_goals
  go_returns
  exact⟨ret_bool (by rw [HF.out];first|(simp [*];done)|(simp [*];intros;omega)),.of_below belB⟩
def fT(e:Ex)(k:Nat):Bool:=formedsB (e.args.take k)
theorem fT_zero(e:Ex):fT e 0=true:=rfl
theorem fT_succ(e:Ex)(k:Nat)(h:k<e.args.length)(h1:fT e k=true)(h2:formedB (e.arg k)=true):fT e (k+1)=true:=by
 unfold fT at *;rw [formedsB_take _ _ h,h1,Bool.true_and];exact h2
theorem formed_walk(S:Nat→Prop)(n:Nat):∀(e:Ex),e.size≤n→∀(v:Value) (w:World),RepE S w e v→(Calls Tryz.prog 117 #[exV e v] w fun r w'=>r= .returned (.bool (formedB e))∧w.Grows w'):=by
 induction n with
 |zero=>intro e he;have:=e.size_pos;omega
 |succ n ih=>
  intro e he v w h
  by_cases hle:(e.args.length:Int)=argsN e.op
  ·by_cases o1:e.op=1
   ·exact formed_lit S e v w h hle o1
   ·by_cases o2:e.op=2
    ·exact formed_name S e v w h hle o2
    ·by_cases o3:e.op=3
     ·exact formed_best S e v w h hle o3
     ·have HF:Hid (formedB e=(formedsB e.args&&(decide (e.num=0)&&decide (e.den=0)&&decide (e.dim=0)&&e.name.toList.isEmpty))):=Lib.hid (by rw [formedB_eq,decide_eq_true hle,Bool.true_and,if_neg o1,if_neg o2,if_neg o3])
      have IH:=Lib.hid ih
      clear ih
      have h1:((e.args.length:Int)!=argsN e.op)=false:=by simpa using hle
      have p1:(e.op==1)=false:=by simpa using o1
      have p2:(e.op==2)=false:=by simpa using o2
      have p3:(e.op==3)=false:=by simpa using o3
      clear hle o1 o2 o3
      cases h with
      |mk _ a cap vs hr hc hs=>
       have hlen:=hr.len
       have Hs:=Lib.hid hs
       have He:=Lib.hid he
       have Hc:=Lib.hid hc
       clear hr hs he hc
       generalize hz:(decide (e.num=0)&&decide (e.den=0)&&decide (e.dim=0)&&e.name.toList.isEmpty)=z at HF
       have HZ:=Lib.hid hz
       clear hz
       go_enter Tryz.func117,Tryz.ntmps117
       go_wp2_with fail
       go_quiet ((go_at_call 79;exact Calls.quiet_eq (Args_any _ _)))
       go_wp2_with fail
       all_goals
        go_loopw [6] (fun v6 wr=>∃k:Nat,k≤e.args.length∧v6= .int .i64 k∧Hid (fT e k=true)∧
         ∃x1 x2 x3:Int,World.Grows (w.alloc (.cells #[.int .i64 e.op,.int .i64 x1,.int .i64 x2,.int .i64 x3,.string e.name,.slice a e.args.length cap] 27)) wr) (fun v6 _=>e.args.length-(intOf v6).toNat)
        case atStart=>exact⟨0,by omega,rfl,Lib.hid (fT_zero e),_,_,_,.of_below belB⟩
        case round=>
         obtain⟨k,hk,rfl,HT,x1,x2,x3,bs,d,rfl⟩:=hrel
         by_cases hlt:k<e.args.length
         ·rcases Hc.out with h0|⟨b,off,rfl,hS,hbw,hx⟩
          ·omega
          ·obtain⟨y0,y1,y2,y3,y4,y5⟩:=hx k hlt
           clear hx
           have hlt1:(k:Int)<(e.args.length:Int):=by omega
           have HA:=Lib.hid (e.size_arg k hlt)
           cases hb:formedB (e.arg k)
           ·have HB:=Lib.hid hb
            clear hb
            go_wp2_with fail
            refine(IH.out (e.arg k) (by have:=He.out;have:=HA.out;omega) (vs k) _ (((Hs.out k hlt).alloc _).grow _ _)).mono ?_
            rintro r w' ⟨rfl,bs2,d2,rfl⟩
            simp only [HB.out]
            go_wp2_with fail
            go_returns
            exact⟨ret_bool (by rw [HF.out,formedsB_no _ k hlt HB.out,Bool.false_and]),.of_below belB⟩
           ·have HB:=Lib.hid hb
            clear hb
            go_wp2_with fail
            refine(IH.out (e.arg k) (by have:=He.out;have:=HA.out;omega) (vs k) _ (((Hs.out k hlt).alloc _).grow _ _)).mono ?_
            rintro r w' ⟨rfl,bs2,d2,rfl⟩
            simp only [HB.out]
            go_wp2_with fail
            go_roundw
            case rel=>exact⟨k+1,by omega,by go_num,Lib.hid (fT_succ e k hlt HT.out HB.out),x1,x2,x3,.of_below belB⟩
            case measure=>simp [intOf];omega
         ·obtain rfl:k=e.args.length:=by omega
          have HT2:Hid (formedsB e.args=true):=Lib.hid (by have:=HT.out;unfold fT at this;rw [List.take_length]at this;exact this)
          clear HT
          go_wp2_with fail
          go_returns
          exact⟨ret_bool (by rw [HF.out,HT2.out,Bool.true_and,←HZ.out];simp [*]),.of_below belB⟩
  ·exact formed_len S e v w h hle

theorem formed_any(S:Nat→Prop)(e:Ex)(v:Value)(w:World)(h:RepE S w e v):(Calls Tryz.prog 117 #[exV e v] w fun r w'=>r= .returned (.bool (formedB e))∧w.Grows w'):=formed_walk S e.size e (Nat.le_refl _) v w h
def validB(e:Ex):Bool:=decide (e.depth≤10)&&decide (e.size≤60)&&formedB e
theorem ValidExpr_any(S:Nat→Prop)(e:Ex)(v:Value)(w:World)(h:Hid (RepE S w e v))(hbig:Hid (e.size≤2305843009213693952)):Calls Tryz.prog 52 #[exV e v] w fun r w'=>r= .returned (.bool (validB e))∧w.Grows w':=by
 obtain⟨a,cap,hv⟩:=h.out.form0
 subst hv
 by_cases c1:(e.depth:Int)≤10
 ·by_cases c2:(e.size:Int)≤60
  ·go_enter Tryz.func52,Tryz.ntmps52
   go_wp2_with ((first|(go_at_call 116;refine(Depth_walk S e.size e (Nat.le_refl _) _ _ (h.out.alloc _) hbig).mono ?_;rintro r w' ⟨rfl,bs,d,rfl⟩)|(go_at_call 24;refine(Size_walk S e.size e (Nat.le_refl _) _ _ ((h.out.alloc _).grow _ _) hbig).mono ?_;rintro r w' ⟨rfl,bs2,d2,rfl⟩)|(go_at_call 117;refine(formed_any S e _ _ ((h.out.alloc _).grow _ _)).mono ?_;rintro r w' ⟨rfl,bs3,d3,rfl⟩)))
   exact sz42
  ·go_enter Tryz.func52,Tryz.ntmps52
   go_wp2_with ((first|(go_at_call 116;refine(Depth_walk S e.size e (Nat.le_refl _) _ _ (h.out.alloc _) hbig).mono ?_;rintro r w' ⟨rfl,bs,d,rfl⟩)|(go_at_call 24;refine(Size_walk S e.size e (Nat.le_refl _) _ _ ((h.out.alloc _).grow _ _) hbig).mono ?_;rintro r w' ⟨rfl,bs2,d2,rfl⟩)|(go_at_call 117;refine(formed_any S e _ _ ((h.out.alloc _).grow _ _)).mono ?_;rintro r w' ⟨rfl,bs3,d3,rfl⟩)))
   exact sz47
 ·go_enter Tryz.func52,Tryz.ntmps52
  go_wp2_with ((first|(go_at_call 116;refine(Depth_walk S e.size e (Nat.le_refl _) _ _ (h.out.alloc _) hbig).mono ?_;rintro r w' ⟨rfl,bs,d,rfl⟩)|(go_at_call 24;refine(Size_walk S e.size e (Nat.le_refl _) _ _ ((h.out.alloc _).grow _ _) hbig).mono ?_;rintro r w' ⟨rfl,bs2,d2,rfl⟩)|(go_at_call 117;refine(formed_any S e _ _ ((h.out.alloc _).grow _ _)).mono ?_;rintro r w' ⟨rfl,bs3,d3,rfl⟩)))
  exact sz45
end Go.Proofs.YtblkcgceefjmjaaGreatDoor
namespace Go.Proofs.YtblkcgceefjmjaaGreatDoor

theorem lowN_neg{b c:Bool}{n d:Nat}(h:n=0∨b=c):lowN b n d=lowN c n d:=by
 rcases h with rfl|rfl
 ·unfold lowN;simp
 ·rfl
theorem lowE_cases(n d:Nat):lowE n d=0∨lowE n d=2:=by unfold lowE;split<;>simp
theorem low_bad{n d:Nat}(b:Bool)(h:lowE n d≠0):lowN b n d=0∧lowD n d=0:=by
 unfold lowE at h
 unfold lowN lowD
 split at h<;>rename_i hc
 ·rw [if_pos hc,if_pos hc];exact⟨rfl,rfl⟩
 ·exact absurd rfl h
theorem vfrac_nat{n d:Nat}(b:Bool)(h1:1≤d)(h2:d≤1000000000)(h3:n≤1000000000000000)(hg:Nat.gcd n d=1):vfrac (if b then -(n:Int)else n) d=true:=by
 refine vfrac_of ⟨by omega,by omega, ?_, ?_⟩ ?_
 ·cases b<;>simp<;>omega
 ·cases b<;>simp<;>omega
 ·cases b<;>simpa using hg
theorem low_ok{n d:Nat}(b:Bool)(hd:0<d)(h:lowE n d=0):vfrac (lowN b n d) (lowD n d)=true:=by
 have hg:0<Nat.gcd n d:=Nat.gcd_pos_of_pos_right _ hd
 unfold lowE at h
 unfold lowN lowD
 split at h<;>rename_i hc
 ·simp at h
 ·rw [if_neg hc,if_neg hc]
  have h1:0<d / Nat.gcd n d:=Nat.div_pos (Nat.gcd_le_right _ hd) hg
  exact vfrac_nat b (by omega) (by omega) (by omega) (Nat.coprime_div_gcd_div_gcd hg)

def prdX(n k m h:Nat):Nat:=n / Nat.gcd n k*(m / Nat.gcd m h)
def prdF(b:Bool)(n d m k:Nat):Int × Int × Int:=
 if 1000000000000000<prdX n k m d∨1000000000<prdX d m k n then(0,0,2)else(if b then -(prdX n k m d:Int)else prdX n k m d,prdX d m k n,0)

def negF(n d:Int):Int × Int × Int:=if vfrac n d then(-n,d,0)else(0,0,1)
def addS(an ad bn bd:Int):Int:=an*bd+bn*ad
def addF(an ad bn bd:Int):Int × Int × Int:=
 if vfrac an ad&&vfrac bn bd then
  (lowN (decide (addS an ad bn bd<0)) (addS an ad bn bd).natAbs (ad.natAbs*bd.natAbs),lowD (addS an ad bn bd).natAbs (ad.natAbs*bd.natAbs),lowE (addS an ad bn bd).natAbs (ad.natAbs*bd.natAbs))
 else(0,0,1)
def subF(an ad bn bd:Int):Int × Int × Int:=if vfrac bn bd then addF an ad (-bn) bd else(0,0,1)
def mulF(an ad bn bd:Int):Int × Int × Int:=
 if vfrac an ad&&vfrac bn bd then prdF (decide (an<0)!=decide (bn<0)) an.natAbs ad.natAbs bn.natAbs bd.natAbs else(0,0,1)
def divF(an ad bn bd:Int):Int × Int × Int:=
 if vfrac an ad&&vfrac bn bd then if bn=0 then(0,0,3)else prdF (decide (an<0)!=decide (bn<0)) an.natAbs ad.natAbs bd.natAbs bn.natAbs else(0,0,1)
def cmpI(an ad bn bd:Int):Int:=if an*bd<bn*ad then -1 else if bn*ad<an*bd then 1 else 0
def cmpF(an ad bn bd:Int):Int × Int:=if vfrac an ad&&vfrac bn bd then(cmpI an ad bn bd,0)else(0,1)
def floorF(n d:Int):Int × Int:=if vfrac n d then(n / d,0)else(0,1)

theorem vfrac_neg{n d:Int}:vfrac (-n) d=vfrac n d:=by
 unfold vfrac absI
 rw [Int.natAbs_neg]
 congr 1
 refine decide_eq_decide.2 ?_
 omega
theorem vfrac_prime{n d:Int}(h:vfrac n d=true):Nat.Coprime n.natAbs d.natAbs:=vfrac_gcd h

theorem addS_same{a d b e:Nat}(s:Bool):addS (if s then -(a:Int)else a) d (if s then -(b:Int)else b) e=if s then -((a*e+b*d:Nat):Int)else((a*e+b*d:Nat):Int):=by
 unfold addS
 cases s<;>simp [Int.neg_mul];omega
theorem addS_diff{a d b e:Nat}(s:Bool):addS (if s then -(a:Int)else a) d (if s then(b:Int)else -b) e=if s then((b*d:Nat):Int)-(a*e:Nat)else((a*e:Nat):Int)-(b*d:Nat):=by
 unfold addS
 cases s<;>simp [Int.neg_mul]<;>omega
theorem sign_form(n:Int):n=if decide (n<0)then -(n.natAbs:Int)else n.natAbs:=by
 by_cases h:n<0<;>simp [h]<;>omega

theorem add_same{an ad bn bd:Int}(h1:1≤ad)(h2:1≤bd)(hs:decide (an<0)=decide (bn<0)) :
 (addS an ad bn bd).natAbs=an.natAbs*bd.natAbs+bn.natAbs*ad.natAbs∧((addS an ad bn bd).natAbs=0∨decide (addS an ad bn bd<0)=decide (an<0)):=by
 have e:=addS_same (a:=an.natAbs) (d:=ad.natAbs) (b:=bn.natAbs) (e:=bd.natAbs) (decide (an<0))
 have e1:=sign_form an
 have e2:=sign_form bn
 rw [←hs]at e2
 rw [←e1,←e2,show((ad.natAbs:Nat):Int)=ad by omega,show((bd.natAbs:Nat):Int)=bd by omega]at e
 rw [e]
 generalize an.natAbs*bd.natAbs+bn.natAbs*ad.natAbs=N at *
 by_cases h:an<0
 ·simp [h];omega
 ·simp [h]
theorem add_diff{an ad bn bd:Int}(h1:1≤ad)(h2:1≤bd)(hs:decide (an<0)≠decide (bn<0)) :
 (an.natAbs*bd.natAbs<bn.natAbs*ad.natAbs→(addS an ad bn bd).natAbs=bn.natAbs*ad.natAbs-an.natAbs*bd.natAbs∧((addS an ad bn bd).natAbs=0∨decide (addS an ad bn bd<0)=decide (bn<0)))∧
 (bn.natAbs*ad.natAbs≤an.natAbs*bd.natAbs→(addS an ad bn bd).natAbs=an.natAbs*bd.natAbs-bn.natAbs*ad.natAbs∧((addS an ad bn bd).natAbs=0∨decide (addS an ad bn bd<0)=decide (an<0))):=by
 have e:=addS_diff (a:=an.natAbs) (d:=ad.natAbs) (b:=bn.natAbs) (e:=bd.natAbs) (decide (an<0))
 have e1:=sign_form an
 have e2:=sign_form bn
 rw [←e1,show((ad.natAbs:Nat):Int)=ad by omega,show((bd.natAbs:Nat):Int)=bd by omega]at e
 have e3:(if decide (an<0)=true then(bn.natAbs:Int)else -(bn.natAbs:Int))=bn:=by
  clear e e1 e2
  by_cases c1:an<0<;>by_cases c2:bn<0<;>simp [c1,c2]at hs ⊢<;>omega
 rw [e3]at e
 rw [e]
 generalize an.natAbs*bd.natAbs=M at *
 generalize bn.natAbs*ad.natAbs=N at *
 clear e e1 e2 e3
 by_cases c1:an<0<;>by_cases c2:bn<0<;>simp [c1,c2]at hs ⊢<;>omega

theorem frac_eq{an ad bn bd:Int}(ha:vfrac an ad=true)(hb:vfrac bn bd=true)(h:an*bd=bn*ad):an=bn∧ad=bd:=by
 have p:=vfrac_prime ha
 have q:=vfrac_prime hb
 have h1:=vfrac_bd ha
 have h2:=vfrac_bd hb
 exact sz13
theorem prdX_pos{n k m h:Nat}(h1:0<n)(h2:0<m):0<prdX n k m h:=by
 unfold prdX
 exact Nat.mul_pos (Nat.div_pos (Nat.gcd_le_left _ h1) (Nat.gcd_pos_of_pos_left _ h1)) (Nat.div_pos (Nat.gcd_le_left _ h2) (Nat.gcd_pos_of_pos_left _ h2))
theorem prd_prime{n d m k:Nat}(hd:0<d)(hk:0<k)(p:Nat.Coprime n d)(q:Nat.Coprime m k):Nat.Coprime (prdX n k m d) (prdX d m k n):=by
 unfold prdX
 have g1:0<Nat.gcd n k:=Nat.gcd_pos_of_pos_right _ hk
 have g2:0<Nat.gcd m d:=Nat.gcd_pos_of_pos_right _ hd
 have a1:=Nat.coprime_div_gcd_div_gcd g1
 have a2:=Nat.coprime_div_gcd_div_gcd g2
 rw [Nat.gcd_comm d m,Nat.gcd_comm k n]
 have dv (x y:Nat):x / Nat.gcd x y ∣ x:=Nat.div_dvd_of_dvd (Nat.gcd_dvd_left x y)
 have dw (x y:Nat):y / Nat.gcd x y ∣ y:=Nat.div_dvd_of_dvd (Nat.gcd_dvd_right x y)
 refine Nat.Coprime.mul_left (Nat.Coprime.mul_right ?_ a1) (Nat.Coprime.mul_right a2 ?_)
 ·exact Nat.Coprime.coprime_dvd_left (dv n k) (Nat.Coprime.coprime_dvd_right (dw m d) p)
 ·exact Nat.Coprime.coprime_dvd_left (dv m d) (Nat.Coprime.coprime_dvd_right (dw n k) q)
def okF(r:Int × Int × Int):Prop:=(r.2.2=0∧vfrac r.1 r.2.1=true)∨(r.1=0∧r.2.1=0∧(r.2.2=2∨r.2.2=3))
theorem prdF_ok{n d m k:Nat}(b:Bool)(hd:0<d)(hk:0<k)(p:Nat.Coprime n d)(q:Nat.Coprime m k):okF (prdF b n d m k):=by
 unfold prdF
 split<;>rename_i hc
 ·exact .inr ⟨rfl,rfl,.inl rfl⟩
 ·have h1:=prdX_pos (k:=m) (h:=n) hd hk
  exact .inl ⟨rfl,vfrac_nat b (by omega) (by omega) (by omega) (prd_prime hd hk p q)⟩
theorem addF_ok{an ad bn bd:Int}(ha:vfrac an ad=true)(hb:vfrac bn bd=true):okF (addF an ad bn bd):=by
 have h1:=vfrac_bd ha
 have h2:=vfrac_bd hb
 unfold addF
 rw [ha,hb]
 simp only [Bool.and_self,if_true]
 have hd:0<ad.natAbs*bd.natAbs:=Nat.mul_pos (by omega) (by omega)
 rcases lowE_cases (addS an ad bn bd).natAbs (ad.natAbs*bd.natAbs)with h|h
 ·exact .inl ⟨h,low_ok _ hd h⟩
 ·have h3:=low_bad (decide (addS an ad bn bd<0)) (show lowE (addS an ad bn bd).natAbs (ad.natAbs*bd.natAbs)≠0 by omega)
  exact .inr ⟨h3.1,h3.2,.inl h⟩
theorem subF_ok{an ad bn bd:Int}(ha:vfrac an ad=true)(hb:vfrac bn bd=true):okF (subF an ad bn bd):=by
 unfold subF
 rw [hb]
 exact addF_ok ha (by rw [vfrac_neg];exact hb)
theorem mulF_ok{an ad bn bd:Int}(ha:vfrac an ad=true)(hb:vfrac bn bd=true):okF (mulF an ad bn bd):=by
 have h1:=vfrac_bd ha
 have h2:=vfrac_bd hb
 unfold mulF
 rw [ha,hb]
 exact prdF_ok _ (by omega) (by omega) (vfrac_prime ha) (vfrac_prime hb)
theorem divF_ok{an ad bn bd:Int}(ha:vfrac an ad=true)(hb:vfrac bn bd=true):okF (divF an ad bn bd):=by
 have h1:=vfrac_bd ha
 have h2:=vfrac_bd hb
 unfold divF
 rw [ha,hb]
 simp only [Bool.and_self,if_true]
 split<;>rename_i hc
 ·exact .inr ⟨rfl,rfl,.inr rfl⟩
 ·exact prdF_ok _ (by omega) (by omega) (vfrac_prime ha) (vfrac_prime hb).symm
end Go.Proofs.YtblkcgceefjmjaaGreatDoor
namespace Go
theorem Calls.quietM3{P:Program}{f:FuncId}{args:Array Value}{w:World}{B bs cs:Array Obj}{d:Nat}{v:Value}
 (h:Calls P f args (w.grow (B++(bs++cs)) d) fun e w'=>e= .returned v∧(w.grow (B++(bs++cs)) d).Grows w'):Calls P f args (w.grow (B++(bs++cs)) d) fun e w''=>e= .returned v∧∃g:Growth,w''=w.grow (B++(bs++g.bs)) g.d:=
 h.mono fun _ _ ⟨he,bs',d',hw⟩=>⟨he,⟨cs++bs',d'⟩,by rw [hw,World.grow_grow,Array.append_assoc,Array.append_assoc]⟩
theorem Calls.quietMS3{P:Program}{f:FuncId}{args:Array Value}{w:World}{B bs cs:Array Obj}{d:Nat}{v:Value}
 (h:Calls P f args (w.grow (B++(bs++cs)) d) fun e w'=>e= .returned v∧(w.grow (B++(bs++cs)) d)=w'):Calls P f args (w.grow (B++(bs++cs)) d) fun e w''=>e= .returned v∧∃g:Growth,w''=w.grow (B++(bs++g.bs)) g.d:=
 h.mono fun _ _ ⟨he,hw⟩=>⟨he,⟨cs,d⟩,hw.symm⟩
end Go
namespace Go
section
variable {P : Program} {l : List Oper} {Q : Exit → Act → World → Prop} {a afin : Act} {w : World} {id : Nat}
theorem wp_region_made2b(n:Nat)(x y:Nat × Tmp × Obj)(hm:P.follows .mixedOrders=true)(hB:Region.madeB l n [(x.1,x.2.1),(y.1,y.2.1)]=true)
 (hrx:∀o,l[x.1]? =some o→∀ρ w,(execOp ρ o).run P w= .ok (.value (.pointer (some ⟨w.heap.size,0,none⟩))) (w.alloc x.2.2))
 (hry:∀o,l[y.1]? =some o→∀ρ w,(execOp ρ o).run P w= .ok (.value (.pointer (some ⟨w.heap.size,0,none⟩))) (w.alloc y.2.2))
 (h1:∀bs d,wpQuiet P ((l.take n).map Oper.mask).toArray (fun w'=>∃g:Growth,w'=(w.grow bs d).grow g.bs g.d) (· =afin) ((l.take n).map Oper.mask) a)
 (h2:∀gb1 gd1 gb2 gd2 gb gd,wpList P l.toArray Q (l.drop n) ((afin.put (some x.2.1) (.pointer (some ⟨(w.grow gb1 gd1).heap.size,0,none⟩))).put (some y.2.1) (.pointer (some ⟨(((w.grow gb1 gd1).alloc x.2.2).grow gb2 gd2).heap.size,0,none⟩))) (((((w.grow gb1 gd1).alloc x.2.2).grow gb2 gd2).alloc y.2.2).grow gb gd))
 (h3:∀gb1 gd1 gb2 gd2 gb gd,wpList P l.toArray Q (l.drop n) ((afin.put (some y.2.1) (.pointer (some ⟨(w.grow gb1 gd1).heap.size,0,none⟩))).put (some x.2.1) (.pointer (some ⟨(((w.grow gb1 gd1).alloc y.2.2).grow gb2 gd2).heap.size,0,none⟩))) (((((w.grow gb1 gd1).alloc y.2.2).grow gb2 gd2).alloc x.2.2).grow gb gd)):(Code.region id l.toArray true).wp P Q a w:=
 wp_region_made2 n x y hm hB hrx hry h1
  (fun gb1 gd1 gb2 gd2 gb gd=>by have:=h2 gb1 gd1 gb2 gd2 gb gd;simpa only [World.size_grow,World.size_alloc]using this)
  (fun gb1 gd1 gb2 gd2 gb gd=>by have:=h3 gb1 gd1 gb2 gd2 gb gd;simpa only [World.size_grow,World.size_alloc]using this)
end
end Go
namespace Go
theorem grows_drew{w:World}{bs:Array Obj}{d:Nat}:World.Grows w (w.grow bs d).drew:=⟨bs,d+1,rfl⟩
theorem grows_drew0{w:World}:World.Grows w w.drew:=⟨#[],w.drawn+1,by simp only [World.grow,Array.append_empty];rfl⟩
end Go
namespace Go.Proofs.YtblkcgceefjmjaaGreatDoor
open Go.RowKit
def IdxE(n:Nat)(p:Nat→Bool)(r:Int):Prop:=(r= -1∧∀k,k<n→p k=false)∨∃k:Nat,k<n∧r=k∧p k=true
theorem IdxE.any{n:Nat}{p:Nat→Bool}{r:Int}(h:IdxE n p r):decide (0≤r)=(List.range n).any p:=by
 rcases h with ⟨rfl,h⟩|⟨k,hk,rfl,hp⟩
 ·symm
  rw [show decide ((0:Int)≤-1)=false by decide,Bool.eq_false_iff]
  intro hc
  obtain⟨k,hk,hp⟩:=List.any_eq_true.1 hc
  rw [h k (List.mem_range.1 hk)]at hp;cases hp
 ·rw [decide_eq_true (show(0:Int)≤k by omega)]
  symm
  exact List.any_eq_true.2 ⟨k,List.mem_range.2 hk,hp⟩
def PredE(S:Nat→Prop)(g:FuncId)(lb:Array Value)(e:Ex)(p:Nat→Bool)(w:World):Prop:=
 ∀k,k<e.args.length→∀a c w',w.Grows w'→RepE S w' (e.arg k) (.slice a (e.arg k).args.length c)→Calls Tryz.prog g (#[exV (e.arg k) (.slice a (e.arg k).args.length c)]++lb) w' fun r w''=>r= .returned (.bool (p k))∧w'.Grows w''
theorem RepE.grows{S:Nat→Prop}{w w':World}{e:Ex}{v:Value}(h:RepE S w e v)(hg:w.Grows w'):RepE S w' e v:=by
 obtain⟨bs,d,rfl⟩:=hg;exact h.grow bs d
theorem idxE_any(S:Nat→Prop)(g:FuncId)(lb:Array Value)(eg:∀args w,(callFunc g args).run Tryz.prog w= .ok (.enter g args) w)(e:Ex)(v:Value)(p:Nat→Bool)(w:World)(h:RepE S w e v)(hp:Hid (PredE S g lb e p w)) :
 Calls Tryz.prog 256 #[v,.func (.func g) #[] lb] w fun r w'=>(∃z,r= .returned (.int .i64 z)∧IdxE e.args.length p z)∧w.Grows w':=by
 cases h with
 |mk _ a cap vs hr hc hs=>
  have hlen:=hr.len
  have Hs:=Lib.hid hs
  have Hc:=Lib.hid hc
  clear hr hs hc
  go_enter Tryz.func256,Tryz.ntmps256
  go_wp2_with fail
  go_loopw [5,8] (fun _ v8 wr=>∃k:Nat,k≤e.args.length∧v8= .int .i64 k∧Hid (∀j,j<k→p j=false)∧w.Grows wr) (fun _ v8 _=>e.args.length-(intOf v8).toNat)
  case atStart=>exact⟨0,by omega,rfl,Lib.hid (fun j hj=>by omega),.refl _⟩
  case round=>
   obtain⟨k,hk,rfl,hno,hgr⟩:=hrel
   have HG:=Lib.hid hgr
   obtain⟨bs,d,rfl⟩:=hgr
   by_cases hlt2:k<e.args.length
   ·rcases Hc.out with h0|⟨b,off,rfl,hg,hbw,hx⟩
    ·omega
    ·obtain⟨x0,x1,x2,x3,x4,x5⟩:=hx k hlt2
     clear hx
     have hR:=Hs.out k hlt2
     obtain⟨ak,ck,hvk⟩:=hR.form0
     rw [hvk]at x5 hR
     have d1:(k:Int)<(e.args.length:Int):=by omega
     have hcall:=hp.out k hlt2 ak ck _ HG.out (hR.grow bs d)
     have HLT:=Lib.hid hlt2
     clear hR hvk
     cases hq:p k with
     |true=>
      rw [hq]at hcall
      have HQ:=Lib.hid hq
      clear hq
      have HCL:=Lib.hid hcall
      clear hcall
      go_wp2_with (go_at_fn g;refine HCL.out.mono ?_;rintro e' w' ⟨rfl,bs2,d2,rfl⟩)
      go_returns
      exact⟨⟨_,rfl,.inr ⟨k,HLT.out,rfl,HQ.out⟩⟩,.of_below belB⟩
     |false=>
      rw [hq]at hcall
      have HQ:=Lib.hid hq
      clear hq
      have HCL:=Lib.hid hcall
      clear hcall
      go_wp2_with (go_at_fn g;refine HCL.out.mono ?_;rintro e' w' ⟨rfl,bs2,d2,rfl⟩)
      go_roundw
      case rel=>exact⟨k+1,by omega,by go_num,Lib.hid (fun j hj=>by
       by_cases ej:j=k
       ·subst ej;exact HQ.out
       ·exact hno.out j (by omega)),.of_below belB⟩
      case measure=>simp [intOf];omega
   ·obtain rfl:k=e.args.length:=by omega
    go_wp2_with fail
    go_returns
    exact⟨⟨_,rfl,.inl ⟨rfl,hno.out⟩⟩,.of_below belB⟩
theorem containsE_any(S:Nat→Prop)(g:FuncId)(lb:Array Value)(eg:∀args w,(callFunc g args).run Tryz.prog w= .ok (.enter g args) w)(e:Ex)(v:Value)(p:Nat→Bool)(w:World)(h:RepE S w e v)(hp:Hid (PredE S g lb e p w)) :
 Calls Tryz.prog 209 #[v,.func (.func g) #[] lb] w fun r w'=>r= .returned (.bool ((List.range e.args.length).any p))∧w.Grows w':=by
 have HI:=Lib.hid (idxE_any S g lb eg e v p w h hp)
 obtain⟨a,cap,rfl⟩:=h.form0
 clear h hp
 generalize hX:(List.range e.args.length).any p=X
 have HX:=Lib.hid hX
 clear hX
 go_enter Tryz.func209,Tryz.ntmps209
 go_wp2_with (go_at_call 256;refine HI.out.mono ?_;rintro e' w' ⟨⟨z,rfl,hz⟩,bs2,d2,rfl⟩;have HZ:=Lib.hid hz.any;clear hz)
 go_returns
 exact⟨ret_bool (by rw [←HX.out,←HZ.out]),.of_below belB⟩
theorem Size2_walk(S:Nat→Prop)(n:Nat):∀(e:Ex),e.size≤n→∀(v:Value) (w:World),RepE S w e v→Hid (e.size≤2305843009213693952)→
 Calls Tryz.prog 125 #[exV e v] w fun r w'=>r= .returned (.int .i64 (e.size:Nat))∧w.Grows w':=by
 induction n with
 |zero=>intro e he;have:=e.size_pos;omega
 |succ n ih=>
  intro e he v w h hbig
  have IH:=Lib.hid ih
  clear ih
  cases h with
  |mk _ a cap vs hr hc hs=>
   have hlen:=hr.len
   have Hs:=Lib.hid hs
   have He:=Lib.hid he
   have Hc:=Lib.hid hc
   clear hr hs he hc
   go_enter Tryz.func125,Tryz.ntmps125
   go_wp2_with fail
   go_loopw [3,9] (fun v3 v4 wr=>∃k:Nat,k≤e.args.length∧v3= .int .i64 (szT e k)∧v4= .int .i64 k∧
    World.Grows (w.alloc (.cells #[.int .i64 e.op,.int .i64 e.num,.int .i64 e.den,.int .i64 e.dim,.string e.name,.slice a e.args.length cap] 27)) wr) (fun _ v4 _=>e.args.length-(intOf v4).toNat)
   case atStart=>exact⟨0,by omega,by rw [szT_zero],rfl,.refl _⟩
   case round=>
    obtain⟨k,hk,rfl,rfl,bs,d,rfl⟩:=hrel
    have hb:=szT_bd e k
    have hb0:1≤szT e k:=hb.1
    have hb1:szT e k≤2305843009213693952:=by have:=hbig.out;omega
    clear hb
    by_cases hlt:k<e.args.length
    ·rcases Hc.out with h0|⟨b,off,rfl,hS,hbw,hx⟩
     ·omega
     ·obtain⟨x0,x1,x2,x3,x4,x5⟩:=hx k hlt
      clear hx
      have hR:=Hs.out k hlt
      obtain⟨ak,ck,hvk⟩:=hR.form0
      rw [hvk]at x5 hR
      have HR:=Lib.hid hR
      clear hR hvk
      have hlt1:(k:Int)<(e.args.length:Int):=by omega
      have HN:=Lib.hid (szT_succ e k hlt)
      have HA:=Lib.hid (e.size_arg k hlt)
      have hs1:((e.arg k).size:Int)≤2305843009213693952:=by have:=hbig.out;have:=HA.out;omega
      go_wp2_with fail
      refine(IH.out (e.arg k) (by have:=He.out;have:=HA.out;omega) (.slice ak _ ck) _ (((HR.out.alloc _).grow _ _).alloc _) (by have:=hbig.out;have:=HA.out;show _≤_;omega)).mono ?_
      rintro r w' ⟨rfl,bs2,d2,rfl⟩
      go_wp2_with fail
      go_roundw
      case rel=>exact⟨k+1,by omega,by rw [HN.out],by go_num,.of_below belB⟩
      case measure=>simp [intOf];omega
    ·have HN:=Lib.hid (szT_all e k (by omega))
     obtain rfl:k=e.args.length:=by omega
     go_wp2_with fail
     go_returns
     exact⟨ret_int HN.out,.of_below belB⟩

theorem Depth2_walk(S:Nat→Prop)(n:Nat):∀(e:Ex),e.size≤n→∀(v:Value) (w:World),RepE S w e v→Hid (e.size≤2305843009213693952)→
 Calls Tryz.prog 124 #[exV e v] w fun r w'=>r= .returned (.int .i64 (e.depth:Nat))∧w.Grows w':=by
 induction n with
 |zero=>intro e he;have:=e.size_pos;omega
 |succ n ih=>
  intro e he v w h hbig
  have IH:=Lib.hid ih
  clear ih
  cases h with
  |mk _ a cap vs hr hc hs=>
   have hlen:=hr.len
   have Hs:=Lib.hid hs
   have He:=Lib.hid he
   have Hc:=Lib.hid hc
   clear hr hs he hc
   go_enter Tryz.func124,Tryz.ntmps124
   go_wp2_with fail
   go_loopw [3,9] (fun v3 v4 wr=>∃k:Nat,k≤e.args.length∧v3= .int .i64 (dpT e k)∧v4= .int .i64 k∧
    World.Grows (w.alloc (.cells #[.int .i64 e.op,.int .i64 e.num,.int .i64 e.den,.int .i64 e.dim,.string e.name,.slice a e.args.length cap] 27)) wr) (fun _ v4 _=>e.args.length-(intOf v4).toNat)
   case atStart=>exact⟨0,by omega,by rw [dpT_zero],rfl,.refl _⟩
   case round=>
    obtain⟨k,hk,rfl,rfl,bs,d,rfl⟩:=hrel
    have hb:=dpT_bd e k
    have hb0:0≤dpT e k:=hb.1
    have hb1:dpT e k≤2305843009213693952:=by have:=hbig.out;omega
    clear hb
    by_cases hlt:k<e.args.length
    ·rcases Hc.out with h0|⟨b,off,rfl,hS,hbw,hx⟩
     ·omega
     ·obtain⟨x0,x1,x2,x3,x4,x5⟩:=hx k hlt
      clear hx
      have hR:=Hs.out k hlt
      obtain⟨ak,ck,hvk⟩:=hR.form0
      rw [hvk]at x5 hR
      have HR:=Lib.hid hR
      clear hR hvk
      have hlt1:(k:Int)<(e.args.length:Int):=by omega
      have HN:=Lib.hid (dpT_succ e k hlt)
      have HA:=Lib.hid (e.size_arg k hlt)
      have hs1:((e.arg k).depth:Int)≤2305843009213693952:=by have:=hbig.out;have:=HA.out;have:=(e.arg k).depth_size;omega
      go_wp2_with fail
      refine(IH.out (e.arg k) (by have:=He.out;have:=HA.out;omega) (.slice ak _ ck) _ (((HR.out.alloc _).grow _ _).alloc _) (by have:=hbig.out;have:=HA.out;show _≤_;omega)).mono ?_
      rintro r w' ⟨rfl,bs2,d2,rfl⟩
      go_wp2_with fail
      go_roundw
      case rel=>exact⟨k+1,by omega,by rw [HN.out],by go_num,.of_below belB⟩
      case measure=>simp [intOf];omega
    ·have HN:=Lib.hid (dpT_all e k (by omega))
     obtain rfl:k=e.args.length:=by omega
     go_wp2_with fail
     go_returns
     exact⟨ret_int HN.out,.of_below belB⟩
theorem lower2_any(c:Int)(w:World):Calls Tryz.prog 243 #[.int .u8 c] w fun e w'=>e= .returned (.bool (lowc c))∧w=w':=by
 by_cases c1:97≤c
 ·by_cases c2:c≤122
  ·go_enter Tryz.func243,Tryz.ntmps243
   go_wp2
   go_returns
   exact⟨ret_bool (by simp [lowc,c1,c2]),rfl⟩
  ·go_enter Tryz.func243,Tryz.ntmps243
   exact sz33
 ·go_enter Tryz.func243,Tryz.ntmps243
  exact sz33
theorem digit2_any(c:Int)(w:World):Calls Tryz.prog 274 #[.int .u8 c] w fun e w'=>e= .returned (.bool (digc c))∧w=w':=by
 by_cases c1:48≤c
 ·by_cases c2:c≤57
  ·go_enter Tryz.func274,Tryz.ntmps274
   go_wp2
   go_returns
   exact⟨ret_bool (by simp [digc,c1,c2]),rfl⟩
  ·go_enter Tryz.func274,Tryz.ntmps274
   exact sz34
 ·go_enter Tryz.func274,Tryz.ntmps274
  exact sz34
def inwC(c:Int):Bool:=lowc c || (digc c || decide (c=95))
theorem inWord2_any(c:Int)(w:World):Calls Tryz.prog 244 #[.int .u8 c] w fun e w'=>e= .returned (.bool (inwC c))∧w=w':=by
 cases hL:lowc c
 ·cases hD:digc c
  ·by_cases hU:c=95
   ·subst hU
    go_enter Tryz.func244,Tryz.ntmps244
    go_wp2_with ((first|(go_at_call 243;(with_reducible refine(lower2_any _ _).mono ?_);rintro e w' ⟨rfl,rfl⟩;simp only [hL])|(go_at_call 274;(with_reducible refine(digit2_any _ _).mono ?_);rintro e w' ⟨rfl,rfl⟩;simp only [hD])))
    go_returns
    exact⟨ret_bool (by simp [inwC]),rfl⟩
   ·have hU2:(c==95)=false:=by simpa using hU
    go_enter Tryz.func244,Tryz.ntmps244
    go_wp2_with ((first|(go_at_call 243;(with_reducible refine(lower2_any _ _).mono ?_);rintro e w' ⟨rfl,rfl⟩;simp only [hL])|(go_at_call 274;(with_reducible refine(digit2_any _ _).mono ?_);rintro e w' ⟨rfl,rfl⟩;simp only [hD])))
    go_returns
    exact⟨ret_bool (by simp [inwC,hL,hD,hU]),rfl⟩
  ·go_enter Tryz.func244,Tryz.ntmps244
   go_wp2_with ((first|(go_at_call 243;(with_reducible refine(lower2_any _ _).mono ?_);rintro e w' ⟨rfl,rfl⟩;simp only [hL])|(go_at_call 274;(with_reducible refine(digit2_any _ _).mono ?_);rintro e w' ⟨rfl,rfl⟩;simp only [hD])))
   go_returns
   exact⟨ret_bool (by simp [inwC,hD]),rfl⟩
 ·go_enter Tryz.func244,Tryz.ntmps244
  go_wp2_with ((first|(go_at_call 243;(with_reducible refine(lower2_any _ _).mono ?_);rintro e w' ⟨rfl,rfl⟩;simp only [hL])|(go_at_call 274;(with_reducible refine(digit2_any _ _).mono ?_);rintro e w' ⟨rfl,rfl⟩;simp only [hD])))
  go_returns
  exact⟨ret_bool (by simp [inwC,hL]),rfl⟩
theorem wordC_in{k:Nat}{c:Int}(h:inwC c=false):wordC k c=false:=by
 simp only [inwC,Bool.or_eq_false_iff]at h
 simp [wordC,h.1,h.2.1,h.2.2]
theorem wordC_of{k:Nat}{c:Int}(h:inwC c=true)(h0:k=0→lowc c=true):wordC k c=true:=by
 unfold wordC
 by_cases e:k=0
 ·simp [h0 e]
 ·have:(k !=0)=true:=by simpa using e
  rw [this,Bool.true_and];exact h
theorem IsWord2_any(s:ByteArray)(w:World)(hs:s.size≤maxLen):Calls Tryz.prog 189 #[.string s] w fun e w'=>e= .returned (.bool (isWord s))∧w=w':=by
 unfold maxLen at hs
 have hI:True:=trivial
 by_cases c1:1≤s.size
 ·by_cases c2:s.size≤12
  ·have c3:0<s.size:=by omega
   cases hL:lowc (s[0].toNat:Int)
   ·go_enter Tryz.func189,Tryz.ntmps189
    go_wp2_with ((first|(go_at_call 243;(with_reducible refine(lower2_any _ _).mono ?_);rintro e w' ⟨rfl,rfl⟩;simp only [hL])|(go_at_call 244;(with_reducible refine(inWord2_any _ _).mono ?_);rintro e w' ⟨rfl,rfl⟩;simp only [hI])))
    go_ret
    exact⟨ret_bool (isWord_no s 0 (by omega) (by simp [wordC,hL])).symm,rfl⟩
   ·go_enter Tryz.func189,Tryz.ntmps189
    go_wp2_with ((first|(go_at_call 243;(with_reducible refine(lower2_any _ _).mono ?_);rintro e w' ⟨rfl,rfl⟩;simp only [hL])|(go_at_call 244;(with_reducible refine(inWord2_any _ _).mono ?_);rintro e w' ⟨rfl,rfl⟩;simp only [hI])))
    go_loop [3] (fun i=>∃k:Nat,k≤s.size∧i= .int .i64 k∧∀j,j<k→wordC j (byt s j)=true) (fun i=>s.size-(intOf i).toNat)
    case atStart=>exact⟨0,Nat.zero_le _,rfl,fun j hj=>absurd hj (Nat.not_lt_zero _)⟩
    case round=>
     obtain⟨k,hk,rfl,hall⟩:=hrel
     by_cases hk2:k<s.size
     ·clear hI
      cases hI:inwC (s[k].toNat:Int)
      ·go_wp2_with ((first|(go_at_call 243;(with_reducible refine(lower2_any _ _).mono ?_);rintro e w' ⟨rfl,rfl⟩;simp only [hL])|(go_at_call 244;(with_reducible refine(inWord2_any _ _).mono ?_);rintro e w' ⟨rfl,rfl⟩;simp only [hI])))
       go_ret
       exact⟨ret_bool (isWord_no s k hk2 (wordC_in hI)).symm,rfl⟩
      ·go_wp2_with ((first|(go_at_call 243;(with_reducible refine(lower2_any _ _).mono ?_);rintro e w' ⟨rfl,rfl⟩;simp only [hL])|(go_at_call 244;(with_reducible refine(inWord2_any _ _).mono ?_);rintro e w' ⟨rfl,rfl⟩;simp only [hI])))
       go_round
       case rel=>exact⟨k+1,by omega,by go_num,fun i hi=>by
        by_cases e:i=k
        ·subst e;rw [byt_eq s i hk2];exact wordC_of hI (fun e0=>by subst e0;exact hL)
        ·exact hall i (by omega)⟩
       case measure=>simp [intOf];omega
     ·have:k=s.size:=by omega
      subst this
      go_wp2_with fail
      go_ret
      exact⟨ret_bool (by rw [isWord_all s hall];simp [c1,c2]),rfl⟩
  ·have hL:True:=trivial
   have hw:isWord s=false:=by unfold isWord;rw [decide_eq_false c2,Bool.and_false]
   have c4:12<(s.size:Int):=by omega
   exact sz21
 ·have hL:True:=trivial
  have hw:isWord s=false:=by unfold isWord;rw [decide_eq_false c1,Bool.and_false,Bool.false_and]
  have c4:(s.size:Int)<1:=by omega
  exact sz21
theorem keyword2_any(s:ByteArray)(w:World):Calls Tryz.prog 280 #[.string s] w fun e w'=>e= .returned (.bool (keyB s))∧w=w':=by
 go_enter Tryz.func280,Tryz.ntmps280
 exact sz50
theorem isName2_any(s:ByteArray)(w:World)(hs:s.size≤maxLen):Calls Tryz.prog 255 #[.string s] w fun e w'=>e= .returned (.bool (nameB s))∧w=w':=by
 cases hW:isWord s<;>
 ·go_enter Tryz.func255,Tryz.ntmps255
  go_wp2_with (first|(go_at_call 189;(with_reducible refine(IsWord2_any _ _ (by assumption)).mono ?_);rintro e w' ⟨rfl,rfl⟩;simp only [hW])|(go_at_call 280;(with_reducible refine(keyword2_any _ _).mono ?_);rintro e w' ⟨rfl,rfl⟩))
  go_returns
  exact⟨ret_bool (by simp [nameB,hW]),rfl⟩
theorem arity2_any(op:Int)(w:World):Calls Tryz.prog 254 #[.int .i64 op] w fun e w'=>e= .returned (.int .i64 (argsN op))∧w=w':=by
 go_enter Tryz.func254,Tryz.ntmps254
 go_wp2
 all_goals
  go_returns
  exact⟨ret_int (by unfold argsN;(repeat' split)<;>first|omega|(simp_all;done)|(simp_all;omega)),rfl⟩
end Go.Proofs.YtblkcgceefjmjaaGreatDoor
namespace Go.Proofs.YtblkcgceefjmjaaGreatDoor
theorem floor_mod{n d:Int}(h:1≤d):(if n.tmod d<0 then n.tdiv d-1 else n.tdiv d)=n / d:=by
 have e1:=Int.mul_tdiv_add_tmod n d
 have hb:=Int.tmod_lt_of_pos n (show 0<d by omega)
 have hc:=Int.tmod_lt_of_pos (-n) (show 0<d by omega)
 rw [Int.neg_tmod]at hc
 symm
 split
 ·exact((Int.ediv_emod_unique (r:=n.tmod d+d) (q:=n.tdiv d-1) (show 0<d by omega)).2 ⟨by rw [Int.mul_sub];omega,by omega,by omega⟩).1
 ·exact((Int.ediv_emod_unique (r:=n.tmod d) (q:=n.tdiv d) (show 0<d by omega)).2 ⟨by omega,by omega,by omega⟩).1
theorem cmp_diff{an ad bn bd:Int}(h1:1≤ad)(h2:1≤bd)(h:decide (an<0)≠decide (bn<0)):cmpI an ad bn bd=if an<0 then -1 else 1:=by
 unfold cmpI
 by_cases c:an<0
 ·have hb:0≤bn:=by simp [c]at h;omega
  have k1:an*bd<0:=Int.mul_neg_of_neg_of_pos c (by omega)
  have k2:0≤bn*ad:=Int.mul_nonneg hb (by omega)
  rw [if_pos (by omega),if_pos c]
 ·have hb:bn<0:=by simp [c]at h;omega
  have k1:bn*ad<0:=Int.mul_neg_of_neg_of_pos hb (by omega)
  have k2:0≤an*bd:=Int.mul_nonneg (by omega) (by omega)
  rw [if_neg (by omega),if_pos (by omega),if_neg c]
theorem abs_mul{a d:Int}(h:1≤d):a*d=if a<0 then -((a.natAbs*d.natAbs:Nat):Int)else((a.natAbs*d.natAbs:Nat):Int):=by
 rw [Int.natCast_mul]
 have hd:((d.natAbs:Nat):Int)=d:=by omega
 rw [hd]
 split
 ·rw [←Int.neg_mul];congr 1;omega
 ·congr 1;omega
theorem cmp_same{an ad bn bd:Int}(h1:1≤ad)(h2:1≤bd)(h:decide (an<0)=decide (bn<0)) :
 cmpI an ad bn bd=if an<0 then(if bn.natAbs*ad.natAbs<an.natAbs*bd.natAbs then -1 else if an.natAbs*bd.natAbs<bn.natAbs*ad.natAbs then 1 else 0)
  else(if an.natAbs*bd.natAbs<bn.natAbs*ad.natAbs then -1 else if bn.natAbs*ad.natAbs<an.natAbs*bd.natAbs then 1 else 0):=by
 unfold cmpI
 rw [abs_mul (a:=an) h2,abs_mul (a:=bn) h1]
 generalize an.natAbs*bd.natAbs=X
 generalize bn.natAbs*ad.natAbs=Y
 by_cases c:an<0
 ·have hb:bn<0:=by simpa [c]using h
  rw [if_pos c,if_pos hb,if_pos c]
  split<;>rename_i q<;>split<;>first|omega|(split<;>first|omega|(split<;>omega))
 ·have hb:¬bn<0:=by simpa [c]using h
  rw [if_neg c,if_neg hb,if_neg c]
  split<;>rename_i q<;>split<;>first|omega|(split<;>first|omega|(split<;>omega))
end Go.Proofs.YtblkcgceefjmjaaGreatDoor
namespace Go.Proofs.YtblkcgceefjmjaaGreatDoor
open Go.RowKit Go.ChangeShapes Go.WideShapes Go.Deep
section
variable {H : Type} {enc : TypeId × Value → H} {P : Program} {w : World}
def fits(P:Program)(t:TypeId)(d:DataW H):Prop:=∀n∈d.weights P t,n≤140737488351232

theorem add_at'(b off i:Nat):(⟨b,off,none⟩:Addr).add i=⟨b,off+i,none⟩:=by unfold Addr.add;split<;>simp_all
theorem cell_lt{w:World}{b o:Nat}{v:Value}(h:w.cell? ⟨b,o,none⟩=some v):b<w.heap.size:=by
 rcases Nat.lt_or_ge b w.heap.size with h1|h1
 ·exact h1
 ·simp [World.cell?,Array.getElem?_eq_none h1]at h
theorem i64_of_wf{n:Int}(h:(Lit.int .i64 n).wf=true):I64 n:=bounds_i64 h
theorem IntsAt.of_cells{a:Option Addr}{len cap:Nat}{zs:List Int}(hl:len≤cap)(hz:zs.length=cap)(hw:∀n∈zs,(Lit.int .i64 n).wf=true)(hb:len≤140737488355328)(ha:a=none→len=0)
 (hc:∀x,a=some x→∀i,i<cap→w.cell? (x.add i)=some (.int .i64 (zs.getD i 0))):IntsAt w (.slice a len cap) (zs.take len):=by
 have hlen:(zs.take len).length=len:=by rw [List.length_take];omega
 refine⟨by omega,fun z hz2=>i64_of_wf (hw z (List.mem_of_mem_take hz2)),a,cap,by rw [hlen], ?_⟩
 rw [hlen]
 by_cases h0:len=0
 ·exact .inl h0
 ·cases a with
  |none=>exact .inl (ha rfl)
  |some x=>
   obtain⟨b,off,spot⟩:=x
   have h1:=hc _ rfl 0 (by omega)
   have hspot:spot=none:=by simpa [Addr.add]using World.cell?_spot h1
   subst hspot
   have h2:∀i,i<cap→w.cell? ⟨b,off+i,none⟩=some (.int .i64 (zs.getD i 0)):=fun i hi=>by
    rw [←add_at'];exact hc _ rfl i hi
   refine .inr ⟨b,off,rfl,cell_lt (h2 0 (by omega)),fun i hi=>?_⟩
   rw [h2 i (by omega)]
   simp [List.getD_eq_getElem?_getD,hi]
theorem IntsAt.of_trod{t e:TypeId}{fuel:Nat}{v:Value}{x:DataW H × List MemPlace}(ht:P.underlying t=some (.slice e))(he:P.underlying e=some (.int .i64))(hc:P.cellsOf e=1)(hb:P.bytesOf e=8)
 (h:DataW.trod enc P w 0 (fun _=>true) true fuel t [v]=some x) (hf:fits P t x.1):∃zs,IntsAt w v zs:=by
 rcases open_ints ht he hc h with ⟨hcs,_⟩|⟨a,l,c,zs,hcs,_,hl,hm,hz,hx,hcell,hwz⟩
 ·simp at hcs
  subst hcs
  exact⟨[],by simp,by simp,none,0,rfl,.inl rfl⟩
 ·simp at hcs
  subst hcs
  simp only [if_true]at hz
  have h8:l≤140737488355328:=by
   have h9:=hf ((l+(c-l))*8) (by rw [hx];simp [DataW.weights,ht,lits,hb,hz,Nat.min_eq_left hl])
   omega
  exact⟨zs.take l,IntsAt.of_cells hl hz hwz h8 (fun e=>by cases e) fun x' hx' i hi=>by cases hx';exact hcell i (by omega)⟩
end
theorem c3:(Tryz.prog).cellsOf 3=1:=by kernel_rfl
theorem c22:(Tryz.prog).cellsOf 22=1:=by kernel_rfl
theorem b3:(Tryz.prog).bytesOf 3=8:=by kernel_rfl
theorem b22:(Tryz.prog).bytesOf 22=24:=by kernel_rfl
theorem fits_part{H:Type}{P:Program}{t:TypeId}{fs:Array Field}{l:List (DataW H)}{i:Nat}{f:Field}{d:DataW H}(ht:P.underlying t=some (.struct fs))(h:fits P t (.agg l))(hf:fs[i]? =some f)(hd:l[i]? =some d):fits P f.type d:=by
 intro n hn
 refine h n ?_
 simp only [DataW.weights,ht]
 exact DataW.weights_mem_each (j:=i) (by simp [hf]) hd n hn
theorem int_of_trod{H:Type}{enc:TypeId × Value→H}{w:World}{fuel:Nat}{v:Value}{x:DataW H × List MemPlace}(h:DataW.trod enc Tryz.prog w 0 (fun _=>true) true fuel 3 [v]=some x):∃n,v= .int .i64 n∧I64 n:=by
 obtain⟨n,hcs,_,hw⟩:=DataW.trod_int Tryz.underlying3 h
 exact⟨n,by simpa using hcs,i64_of_wf hw⟩
end Go.Proofs.YtblkcgceefjmjaaGreatDoor
