import Derived.Test.YtlheailebbngiaaGreatDoorLAdd
import Derived.Test.YtlheailebbngiaaGreatDoorLGen
import Derived.Test.YtlheailebbngiaaGreatDoorLWord
import Derived.Test.YtlheailebbngiaaGreatDoorLK
import Derived.Shelf.Spec.BitsCarry
import Derived.Lib.IndexMore
import Derived.Lib.ItoaNum
set_option linter.all false
set_option maxHeartbeats 16000000
set_option maxRecDepth 1000000
namespace Go.Proofs.YtlheailebbngiaaGreatDoor
open Go.RowKit

theorem times2_any(a b:Nat)(w:World)(h1:a<18446744073709551616)(h2:b<18446744073709551616) :
 Calls Tryz.prog 183 #[.int .u64 a,.int .u64 b] w fun e w'=>e= .returned (.agg #[.int .u64 (hiW (a*b)),.int .u64 (loW (a*b))])∧w.Grows w':=by
 have H:Hid (∀w,Calls Tryz.prog 133 #[.int .u64 a,.int .u64 b] w fun e w'=>e= .returned (.tuple #[.int .u64 (hiW (a*b)),.int .u64 (loW (a*b))])∧w'=w):=Tryz.bits_Mul64 a b h1 h2
 generalize a*b=n at *
 go_enter Tryz.func183,Tryz.ntmps183
 go_wp2_with fail
 refine(H.out _).mono ?_
 rintro e w' ⟨rfl,rfl⟩
 clear H
 go_wp2_with fail
 go_returns
 exact⟨rfl,.of_below belB⟩
theorem add64_nat(x y c:Nat)(hc:c≤1)(w:World):(callFunc 208 #[.int .u64 x,.int .u64 y,.int .u64 c]).run Tryz.prog w=
 .ok (.value (.tuple #[.int .u64 (((x+y+c) % 18446744073709551616:Nat):Int),.int .u64 (((x+y+c) / 18446744073709551616:Nat):Int)])) w:=by
 rw [run_callFunc_extern Tryz.func208 (by kernel_rfl) (by kernel_rfl) (by kernel_rfl) (e:=add64Entry) (by kernel_rfl),run_add64 x y c (by omega) (by omega) (by omega) (by omega)]
 simp only [Result.andThen]
 congr 5<;>omega
theorem sub64_nat(x y b:Nat)(hb:b≤1)(w:World):(callFunc 209 #[.int .u64 x,.int .u64 y,.int .u64 b]).run Tryz.prog w=
 .ok (.value (.tuple #[.int .u64 (((x+18446744073709551616-y-b) % 18446744073709551616:Nat):Int),.int .u64 ((if x<y+b then 1 else 0:Nat):Int)])) w:=by
 rw [run_callFunc_extern Tryz.func209 (by kernel_rfl) (by kernel_rfl) (by kernel_rfl) (e:=sub64Entry) (by kernel_rfl),run_sub64 x y b hb]
 rfl
def hiN(n:Nat):Nat:=n / 18446744073709551616
def loN(n:Nat):Nat:=n % 18446744073709551616
theorem add_words(a b:Nat)(h:a+b<340282366920938463463374607431768211456) :
 (loN a+loN b+0) % 18446744073709551616=loN (a+b)∧(loN a+loN b+0) / 18446744073709551616≤1∧(hiN a+hiN b+(loN a+loN b+0) / 18446744073709551616) % 18446744073709551616=hiN (a+b):=by
 unfold loN hiN;omega
theorem sub_words(a b:Nat)(h:b≤a)(ha:a<340282366920938463463374607431768211456) :
 (loN a+18446744073709551616-loN b-0) % 18446744073709551616=loN (a-b)∧(if loN a<loN b+0 then 1 else 0)≤1∧(hiN a+18446744073709551616-hiN b-(if loN a<loN b+0 then 1 else 0)) % 18446744073709551616=hiN (a-b):=by
 unfold loN hiN;split<;>omega
theorem plus2_any(a b:Nat)(w:World)(h:a+b<340282366920938463463374607431768211456) :
 Calls Tryz.prog 185 #[.agg #[.int .u64 (hiW a),.int .u64 (loW a)],.agg #[.int .u64 (hiW b),.int .u64 (loW b)]] w fun e w'=>e= .returned (.agg #[.int .u64 (hiW (a+b)),.int .u64 (loW (a+b))])∧w.Grows w':=by
 obtain⟨e1,e2,e3⟩:=add_words a b h
 obtain⟨c,hc⟩:∃c,(loN a+loN b+0) / 18446744073709551616=c:=⟨_,rfl⟩
 have ha:∀w,(callFunc 208 #[.int .u64 (loW a),.int .u64 (loW b),.int .u64 0]).run Tryz.prog w= .ok (.value (.tuple #[.int .u64 (loW (a+b)),.int .u64 (c:Int)])) w:=by
  intro w;have:=add64_nat (loN a) (loN b) 0 (by omega) w;rw [e1,hc]at this;exact this
 have hb:∀w,(callFunc 208 #[.int .u64 (hiW a),.int .u64 (hiW b),.int .u64 (c:Int)]).run Tryz.prog w= .ok (.value (.tuple #[.int .u64 (hiW (a+b)),.int .u64 ((hiN a+hiN b+c) / 18446744073709551616:Nat)])) w:=by
  intro w;have:=add64_nat (hiN a) (hiN b) c (by omega) w;rw [←hc,e3,hc]at this;exact this
 generalize(((hiN a+hiN b+c) / 18446744073709551616:Nat):Int)=z at *
 generalize(c:Int)=c' at *
 clear e1 e2 e3 hc h
 generalize hiW a=A at *
 generalize hiW b=B at *
 generalize loW a=La at *
 generalize loW b=Lb at *
 generalize hiW (a+b)=S at *
 generalize loW (a+b)=T at *
 go_enter Tryz.func185,Tryz.ntmps185
 go_wp2_with fail
 go_returns
 exact⟨rfl,.of_below belB⟩
theorem minus2_any(a b:Nat)(w:World)(h:b≤a)(h2:a<340282366920938463463374607431768211456) :
 Calls Tryz.prog 186 #[.agg #[.int .u64 (hiW a),.int .u64 (loW a)],.agg #[.int .u64 (hiW b),.int .u64 (loW b)]] w fun e w'=>e= .returned (.agg #[.int .u64 (hiW (a-b)),.int .u64 (loW (a-b))])∧w.Grows w':=by
 obtain⟨e1,e2,e3⟩:=sub_words a b h h2
 obtain⟨c,hc⟩:∃c,(if loN a<loN b+0 then 1 else 0)=c:=⟨_,rfl⟩
 have ha:∀w,(callFunc 209 #[.int .u64 (loW a),.int .u64 (loW b),.int .u64 0]).run Tryz.prog w= .ok (.value (.tuple #[.int .u64 (loW (a-b)),.int .u64 (c:Int)])) w:=by
  intro w;have:=sub64_nat (loN a) (loN b) 0 (by omega) w;rw [e1,hc]at this;exact this
 have hb:∀w,(callFunc 209 #[.int .u64 (hiW a),.int .u64 (hiW b),.int .u64 (c:Int)]).run Tryz.prog w= .ok (.value (.tuple #[.int .u64 (hiW (a-b)),.int .u64 ((if hiN a<hiN b+c then 1 else 0:Nat):Int)])) w:=by
  intro w;have:=sub64_nat (hiN a) (hiN b) c (by omega) w;rw [←hc,e3,hc]at this;exact this
 generalize((if hiN a<hiN b+c then 1 else 0:Nat):Int)=z at *
 generalize(c:Int)=c' at *
 clear e1 e2 e3 hc h h2
 generalize hiW a=A at *
 generalize hiW b=B at *
 generalize loW a=La at *
 generalize loW b=Lb at *
 generalize hiW (a-b)=S at *
 generalize loW (a-b)=T at *
 go_enter Tryz.func186,Tryz.ntmps186
 go_wp2_with fail
 go_returns
 exact⟨rfl,.of_below belB⟩
theorem hi_minus(a b:Nat)(h:b≤a)(ha:a<340282366920938463463374607431768211456):IntKind.u64.wrap (IntKind.u64.wrap (hiW a-hiW b)-((if loN a<loN b+0 then 1 else 0:Nat):Int))=hiW (a-b):=by
 simp only [IntKind.wrap_u64]
 unfold hiW loN
 split<;>omega
theorem minus1_any(a b:Nat)(w:World)(h:b≤a)(h2:a<340282366920938463463374607431768211456) :
 Calls Tryz.prog 191 #[.agg #[.int .u64 (hiW a),.int .u64 (loW a)],.agg #[.int .u64 (hiW b),.int .u64 (loW b)]] w fun e w'=>e= .returned (.agg #[.int .u64 (hiW (a-b)),.int .u64 (loW (a-b))])∧w.Grows w':=by
 have hp:=hi_minus a b h h2
 obtain⟨e1,e2,e3⟩:=sub_words a b h h2
 obtain⟨c,hc⟩:∃c,(if loN a<loN b+0 then 1 else 0)=c:=⟨_,rfl⟩
 have ha:∀w,(callFunc 209 #[.int .u64 (loW a),.int .u64 (loW b),.int .u64 0]).run Tryz.prog w= .ok (.value (.tuple #[.int .u64 (loW (a-b)),.int .u64 (c:Int)])) w:=by
  intro w;have:=sub64_nat (loN a) (loN b) 0 (by omega) w;rw [e1,hc]at this;exact this
 rw [hc]at hp
 generalize(c:Int)=c' at *
 clear e1 e2 e3 hc h h2
 generalize hiW a=A at *
 generalize hiW b=B at *
 generalize loW a=La at *
 generalize loW b=Lb at *
 generalize hiW (a-b)=S at *
 generalize loW (a-b)=T at *
 go_enter Tryz.func191,Tryz.ntmps191
 go_wp2_with fail
 go_returns
 exact⟨rfl,.of_below belB⟩
def wless(ah al bh bl:Int):Bool:=decide (ah<bh) || ((ah==bh)&&decide (al<bl))
theorem wless_nat(a b:Nat):wless (hiW a) (loW a) (hiW b) (loW b)=decide (a<b):=by
 unfold wless
 rw [Bool.eq_iff_iff]
 simp only [Bool.or_eq_true,Bool.and_eq_true,decide_eq_true_eq,beq_iff_eq]
 unfold hiW loW
 omega
theorem less1_any(ah al bh bl:Int)(w:World) :
 Calls Tryz.prog 102 #[.agg #[.int .u64 ah,.int .u64 al],.agg #[.int .u64 bh,.int .u64 bl]] w fun e w'=>e= .returned (.bool (wless ah al bh bl))∧w.Grows w':=by
 by_cases c1:ah<bh
 ·go_enter Tryz.func102,Tryz.ntmps102
  go_wp2_with fail
  go_returns
  exact⟨ret_bool (by simp [wless,c1]),.of_below belB⟩
 ·by_cases c2:ah=bh
  ·subst c2
   go_enter Tryz.func102,Tryz.ntmps102
   go_wp2_with fail
   go_returns
   exact⟨ret_bool (by simp [wless]),.of_below belB⟩
  ·have c3:(ah==bh)=false:=by simpa using c2
   go_enter Tryz.func102,Tryz.ntmps102
   go_wp2_with fail
   go_returns
   exact⟨ret_bool (by simp [wless,c1,c3]),.of_below belB⟩
theorem less2_any(ah al bh bl:Int)(w:World) :
 Calls Tryz.prog 184 #[.agg #[.int .u64 ah,.int .u64 al],.agg #[.int .u64 bh,.int .u64 bl]] w fun e w'=>e= .returned (.bool (wless ah al bh bl))∧w.Grows w':=by
 by_cases c1:ah<bh
 ·go_enter Tryz.func184,Tryz.ntmps184
  go_wp2_with fail
  go_returns
  exact⟨ret_bool (by simp [wless,c1]),.of_below belB⟩
 ·by_cases c2:ah=bh
  ·subst c2
   go_enter Tryz.func184,Tryz.ntmps184
   go_wp2_with fail
   go_returns
   exact⟨ret_bool (by simp [wless]),.of_below belB⟩
  ·have c3:(ah==bh)=false:=by simpa using c2
   go_enter Tryz.func184,Tryz.ntmps184
   go_wp2_with fail
   go_returns
   exact⟨ret_bool (by simp [wless,c1,c3]),.of_below belB⟩
theorem over2_core(H L d q r Q:Int)(w:World)(a1:(d==0)=false)(a2:1≤d)(h0:0≤H)
 (a3:IntKind.u64.wrap (H.tdiv d)=Q)
 (HD:Hid (∀w,Calls Tryz.prog 167 #[.int .u64 (H % d),.int .u64 L,.int .u64 d] w fun e w'=>e= .returned (.tuple #[.int .u64 q,.int .u64 r])∧w.Grows w')) :
 Calls Tryz.prog 188 #[.agg #[.int .u64 H,.int .u64 L],.int .u64 d] w fun e w'=>e= .returned (.agg #[.int .u64 Q,.int .u64 q])∧w.Grows w':=by
 go_enter Tryz.func188,Tryz.ntmps188
 go_wp2_with fail
 go_region
 go_wp2_with fail
 refine(HD.out _).mono ?_
 rintro e w' ⟨rfl,bs,dr,rfl⟩
 clear HD
 go_wp2_with fail
 go_returns
 exact⟨rfl,.of_below belB⟩
theorem over2_any(n d:Nat)(w:World)(h1:n<340282366920938463463374607431768211456)(h2:d<18446744073709551616)(h0:0<d) :
 Calls Tryz.prog 188 #[.agg #[.int .u64 (hiW n),.int .u64 (loW n)],.int .u64 d] w fun e w'=>e= .returned (.agg #[.int .u64 (hiW (n / d)),.int .u64 (loW (n / d))])∧w.Grows w':=by
 obtain⟨e1,e2,e3⟩:=over_nat n d h0 h2
 have hh:=hiW_bd n h1
 refine over2_core _ _ _ _ (remI n d) _ w (by simp;omega) (by omega) hh.1 ?_ ?_
 ·have:(hiW n).tdiv d=((n / 18446744073709551616 / d:Nat):Int):=by
   rw [Int.tdiv_eq_ediv_of_nonneg hh.1];unfold hiW;simp
  rw [this,←e1]
  have h3:n / d≤n:=Nat.div_le_self _ _
  unfold hiW
  generalize n / d=m at *
  exact IntWalk.u64_in _ (by omega)
 ·intro w
  have:=Div64_any (n / 18446744073709551616 % d) (n % 18446744073709551616) d w (Nat.mod_lt _ h0) (Nat.mod_lt _ (by omega)) h2
  rw [←e2,←e3]at this
  simpa [hiW,loW,remI]using this
theorem rem_core(H L d q r:Int)(w:World)(a1:(d==0)=false)(a2:1≤d)(h0:0≤H)
 (HD:Hid (∀w,Calls Tryz.prog 167 #[.int .u64 (H % d),.int .u64 L,.int .u64 d] w fun e w'=>e= .returned (.tuple #[.int .u64 q,.int .u64 r])∧w.Grows w')) :
 Calls Tryz.prog 187 #[.int .u64 H,.int .u64 L,.int .u64 d] w fun e w'=>e= .returned (.int .u64 r)∧w.Grows w':=by
 go_enter Tryz.func187,Tryz.ntmps187
 go_wp2_with fail
 refine(HD.out _).mono ?_
 rintro e w' ⟨rfl,bs,dr,rfl⟩
 clear HD
 go_wp2_with fail
 go_returns
 exact⟨rfl,.of_below belB⟩
theorem Rem64_any(n d:Nat)(w:World)(h1:n<340282366920938463463374607431768211456)(h2:d<18446744073709551616)(h0:0<d) :
 Calls Tryz.prog 187 #[.int .u64 (hiW n),.int .u64 (loW n),.int .u64 d] w fun e w'=>e= .returned (.int .u64 (remI n d))∧w.Grows w':=by
 obtain⟨e1,e2,e3⟩:=over_nat n d h0 h2
 have hh:=hiW_bd n h1
 refine rem_core _ _ _ (loW (n / d)) _ w (by simp;omega) (by omega) hh.1 ?_
 intro w
 have:=Div64_any (n / 18446744073709551616 % d) (n % 18446744073709551616) d w (Nat.mod_lt _ h0) (Nat.mod_lt _ (by omega)) h2
 rw [←e2,←e3]at this
 simpa [hiW,loW,remI]using this
def witV(neg:Bool)(h l k d:Int):Value:=if(h !=0)=true∨1000000000000000<l∨(k !=0)=true∨1000000000<d then .tuple #[.agg #[.int .i64 0,.int .i64 0],.int .i64 2]else .tuple #[.agg #[.int .i64 (if neg then -l else l),.int .i64 d],.int .i64 0]
theorem within2_any(neg:Bool)(h l k d:Int)(w:World)(hl0:0≤l)(hd0:0≤d) :
 Calls Tryz.prog 99 #[.bool neg,.agg #[.int .u64 h,.int .u64 l],.agg #[.int .u64 k,.int .u64 d]] w fun e w'=>e= .returned (witV neg h l k d)∧w.Grows w':=by
 by_cases c1:(h !=0)=true
 ·go_enter Tryz.func99,Tryz.ntmps99
  go_wp2_with fail
  go_returns
  exact⟨by rw [witV,if_pos (.inl c1)],.of_below belB⟩
 ·have c1':(h !=0)=false:=by simpa using c1
  by_cases c2:(1000000000000000:Int)<l
  ·clear c1
   go_enter Tryz.func99,Tryz.ntmps99
   go_wp2_with fail
   go_returns
   exact⟨by rw [witV,if_pos (.inr (.inl c2))],.of_below belB⟩
  ·have c2':decide ((1000000000000000:Int)<l)=false:=by simpa using c2
   by_cases c3:(k !=0)=true
   ·clear c1
    go_enter Tryz.func99,Tryz.ntmps99
    go_wp2_with fail
    go_returns
    exact⟨by rw [witV,if_pos (.inr (.inr (.inl c3)))],.of_below belB⟩
   ·have c3':(k !=0)=false:=by simpa using c3
    by_cases c4:(1000000000:Int)<d
    ·clear c1 c3
     go_enter Tryz.func99,Tryz.ntmps99
     go_wp2_with fail
     go_returns
     exact⟨by rw [witV,if_pos (.inr (.inr (.inr c4)))],.of_below belB⟩
    ·have c4':decide ((1000000000:Int)<d)=false:=by simpa using c4
     have Hn:=Lib.hid (show ¬((h !=0)=true∨1000000000000000<l∨(k !=0)=true∨1000000000<d)by
      rintro(x|x|x|x)
      ·exact c1 x
      ·exact c2 x
      ·exact c3 x
      ·exact c4 x)
     clear c1 c3
     cases neg
     ·go_enter Tryz.func99,Tryz.ntmps99
      go_wp2_with fail
      go_returns
      exact⟨by rw [witV,if_neg Hn.out];rfl,.of_below belB⟩
     ·go_enter Tryz.func99,Tryz.ntmps99
      go_wp2_with fail
      go_returns
      exact⟨by rw [witV,if_neg Hn.out];rfl,.of_below belB⟩
def frV(r:Int × Int × Int):Value:=.tuple #[.agg #[.int .i64 r.1,.int .i64 r.2.1],.int .i64 r.2.2]
theorem Neg1_any(n d:Int)(w:World)(h1:-9223372036854775808≤n)(h2:n≤9223372036854775807)(h3:-9223372036854775808≤d)(h4:d≤9223372036854775807) :
 Calls Tryz.prog 149 #[.agg #[.int .i64 n,.int .i64 d]] w fun e w'=>e= .returned (frV (negF n d))∧w.Grows w':=by
 have hv:=Lib.hid (fun w=>Valid1_any n d w h1 h2 h3 h4)
 generalize hx:vfrac n d=b at *
 cases b
 focus
  have HR:=Lib.hid (show negF n d=(0,0,1)by unfold negF;rw [hx];rfl)
 rotate_left
 focus
  have HR:=Lib.hid (show negF n d=(-n,d,0)by unfold negF;rw [hx];rfl)
  obtain⟨k1,k2,k3,k4⟩:=vfrac_bd hx
 rotate_left
 all_goals
  clear hx
  go_enter Tryz.func149,Tryz.ntmps149
  go_wp2_with fail
  refine(hv.out _).mono ?_
  rintro e w' ⟨rfl,bs,dr,rfl⟩
  clear hv
  go_wp2_with fail
  go_returns
  exact⟨by rw [HR.out];rfl,.of_below belB⟩
theorem Neg2_any(n d:Int)(w:World)(h1:-9223372036854775808≤n)(h2:n≤9223372036854775807)(h3:-9223372036854775808≤d)(h4:d≤9223372036854775807) :
 Calls Tryz.prog 142 #[.agg #[.int .i64 n,.int .i64 d]] w fun e w'=>e= .returned (frV (negF n d))∧w.Grows w':=by
 have hv:=Lib.hid (fun w=>Valid2_any n d w h1 h2 h3 h4)
 generalize hx:vfrac n d=b at *
 cases b
 focus
  have HR:=Lib.hid (show negF n d=(0,0,1)by unfold negF;rw [hx];rfl)
 rotate_left
 focus
  have HR:=Lib.hid (show negF n d=(-n,d,0)by unfold negF;rw [hx];rfl)
  obtain⟨k1,k2,k3,k4⟩:=vfrac_bd hx
 rotate_left
 all_goals
  clear hx
  go_enter Tryz.func142,Tryz.ntmps142
  go_wp2_with fail
  refine(hv.out _).mono ?_
  rintro e w' ⟨rfl,bs,dr,rfl⟩
  clear hv
  go_wp2_with fail
  go_returns
  exact⟨by rw [HR.out];rfl,.of_below belB⟩
theorem gcdI_nat(a b:Nat):gcdI a b=(Nat.gcd a b:Nat):=by unfold gcdI;simp
theorem frV_wit(b:Bool)(p q:Nat):witV b (hiW p) (loW p) (hiW q) (loW q)=frV (if 1000000000000000<p∨1000000000<q then(0,0,2)else(if b then -(p:Int)else p,q,0)):=by
 unfold witV hiW loW
 by_cases c:1000000000000000<p∨1000000000<q
 ·rw [if_pos c,if_pos (by
   by_cases ha:p / 18446744073709551616=0
   ·by_cases hb:q / 18446744073709551616=0
    ·omega
    ·right;right;left;simp;omega
   ·left;simp;omega)]
  rfl
 ·have ha:p / 18446744073709551616=0:=by omega
  have hb:q / 18446744073709551616=0:=by omega
  have hc:p % 18446744073709551616=p:=by omega
  have hd:q % 18446744073709551616=q:=by omega
  rw [if_neg c,if_neg (by rw [ha,hb,hc,hd];simp;omega),hc,hd]
  rfl
theorem quo_u64{a g:Int}(h0:0≤a)(h1:a<18446744073709551616)(hg:1≤g):IntKind.u64.wrap (a.tdiv g)=a / g:=by
 rw [Int.tdiv_eq_ediv_of_nonneg h0]
 have h2:=Int.ediv_nonneg h0 (show 0≤g by omega)
 have h3:a / g≤a:=Int.ediv_le_self g h0
 exact IntWalk.u64_in _ (by omega)
theorem quotient2_core(neg:Bool)(a b c d g h H L K M n1 n2 n3:Int)(w:World)(g0:(g==0)=false)(h0:(h==0)=false)(g1:1≤g)(hh1:1≤h)
 (a0:0≤a) (b0:0≤b) (c0:0≤c) (d0:0≤d) (a1:a<18446744073709551616) (b1:b<18446744073709551616) (c1:c<18446744073709551616) (d1:d<18446744073709551616)
 (G1:Hid (∀w,Calls Tryz.prog 94 #[.int .u64 a,.int .u64 d] w fun e w'=>e= .returned (.int .u64 g)∧w.Grows w'))
 (G2:Hid (∀w,Calls Tryz.prog 94 #[.int .u64 c,.int .u64 b] w fun e w'=>e= .returned (.int .u64 h)∧w.Grows w'))
 (T1:Hid (∀w,Calls Tryz.prog 183 #[.int .u64 (a / g),.int .u64 (c / h)] w fun e w'=>e= .returned (.agg #[.int .u64 H,.int .u64 L])∧w.Grows w'))
 (T2:Hid (∀w,Calls Tryz.prog 183 #[.int .u64 (b / h),.int .u64 (d / g)] w fun e w'=>e= .returned (.agg #[.int .u64 K,.int .u64 M])∧w.Grows w'))
 (W:Hid (∀w,Calls Tryz.prog 99 #[.bool neg,.agg #[.int .u64 H,.int .u64 L],.agg #[.int .u64 K,.int .u64 M]] w fun e w'=>e= .returned (.tuple #[.agg #[.int .i64 n1,.int .i64 n2],.int .i64 n3])∧w.Grows w')) :
 Calls Tryz.prog 189 #[.bool neg,.int .u64 a,.int .u64 b,.int .u64 c,.int .u64 d] w fun e w'=>e= .returned (.tuple #[.agg #[.int .i64 n1,.int .i64 n2],.int .i64 n3])∧w.Grows w':=by
 go_enter Tryz.func189,Tryz.ntmps189
 go_wp2_with (first|(go_at_call 94;(with_reducible refine(G1.out _).mono ?_);rintro e w' ⟨rfl,bs,dr,rfl⟩;clear G1)|(go_at_call 94;(with_reducible refine(G2.out _).mono ?_);rintro e w' ⟨rfl,bs2,dr2,rfl⟩;clear G2))
 have gz:¬g=0:=by omega
 have hz:¬h=0:=by omega
 refine TG.begin 19 (fun _=>True) (by kernel_rfl) (by kernel_rfl) trivial (fun hS=>?_)
 refine TG.tkB 0 hS ?_
 refine TG.tkB 1 hS ?_
 refine TG.tkB 2 hS ?_
 refine TG.takeV (i:=3) (v:=.int .u64 (a / g)) rfl (by kernel_rfl) (by kernel_rfl) (by kernel_rfl) (by decide) (fun _ _ _ h=>h) rfl hS ?_ ?_
 focus
  intro wS hSw
  go_simp
  exact quo_u64 a0 a1 g1
 (try simp only [nS])
 refine TG.tkB 4 hS ?_
 refine TG.tkB 5 hS ?_
 refine TG.takeV (i:=6) (v:=.int .u64 (c / h)) rfl (by kernel_rfl) (by kernel_rfl) (by kernel_rfl) (by decide) (fun _ _ _ h=>h) rfl hS ?_ ?_
 focus
  intro wS hSw
  go_simp
  exact quo_u64 c0 c1 hh1
 (try simp only [nS])
 refine TG.tkB 8 hS ?_
 refine TG.tkB 9 hS ?_
 refine TG.takeV (i:=10) (v:=.int .u64 (b / h)) rfl (by kernel_rfl) (by kernel_rfl) (by kernel_rfl) (by decide) (fun _ _ _ h=>h) rfl hS ?_ ?_
 focus
  intro wS hSw
  go_simp
  exact quo_u64 b0 b1 hh1
 (try simp only [nS])
 refine TG.tkB 11 hS ?_
 refine TG.tkB 12 hS ?_
 refine TG.takeV (i:=13) (v:=.int .u64 (d / g)) rfl (by kernel_rfl) (by kernel_rfl) (by kernel_rfl) (by decide) (fun _ _ _ h=>h) rfl hS ?_ ?_
 focus
  intro wS hSw
  go_simp
  exact quo_u64 d0 d1 g1
 (try simp only [nS])
 refine TG.one (i:=7) (by kernel_rfl) rfl (fun K1 hK1=>?_)
 go_simp
 go_at_call 183
 refine(T1.out _).mono ?_
 rintro e' wA ⟨rfl,b7,d7,rfl⟩
 refine TG.go hK1 trivial (fun hS=>?_)
 clear hK1 K1 T1
 (try simp only [nS])
 refine TG.one (i:=14) (by kernel_rfl) rfl (fun K1 hK1=>?_)
 go_simp
 go_at_call 183
 refine(T2.out _).mono ?_
 rintro e' wA ⟨rfl,b8,d8,rfl⟩
 refine TG.go hK1 trivial (fun hS=>?_)
 clear hK1 K1 T2
 (try simp only [nS])
 refine TG.one (i:=15) (by kernel_rfl) rfl (fun K1 hK1=>?_)
 go_simp
 go_at_call 99
 refine(W.out _).mono ?_
 rintro e' wA ⟨rfl,b9,d9,rfl⟩
 refine TG.go hK1 trivial (fun hS=>?_)
 clear hK1 K1 W
 (try simp only [nS])
 refine TG.tkB 16 hS ?_
 refine TG.tkB 17 hS ?_
 refine TG.one (i:=18) (by kernel_rfl) rfl (fun K1 hK1=>?_)
 go_simp
 refine TG.go hK1 trivial (fun hS=>?_)
 clear hK1 K1
 (try simp only [nS])
 refine TG.one (i:=19) (by kernel_rfl) rfl (fun K1 hK1=>?_)
 go_simp
 refine hK1 _ _ (fun h=>absurd rfl h) (TG.done (by kernel_rfl) ?_)
 clear hK1 K1 hS
 (try simp only [nS])
 go_wp2_with fail
 go_returns
 exact⟨rfl,.of_below belB⟩
theorem prdX_comm(d m k n:Nat):d / Nat.gcd m d*(k / Nat.gcd n k)=prdX d m k n:=by
 unfold prdX;rw [Nat.gcd_comm m d,Nat.gcd_comm n k]
theorem ediv_nat(a b:Nat):(a:Int) / (b:Int)=((a / b:Nat):Int):=by simp
theorem quotient2_any(neg:Bool)(n d m k:Nat)(w:World)(h1:n<18446744073709551616)(h2:d<18446744073709551616)(h3:m<18446744073709551616)(h4:k<18446744073709551616)(hd:0<d)(hk:0<k) :
 Calls Tryz.prog 189 #[.bool neg,.int .u64 n,.int .u64 d,.int .u64 m,.int .u64 k] w fun e w'=>e= .returned (frV (prdF neg n d m k))∧w.Grows w':=by
 have g1:0<Nat.gcd n k:=Nat.gcd_pos_of_pos_right _ hk
 have g2:0<Nat.gcd m d:=Nat.gcd_pos_of_pos_right _ hd
 have b1:n / Nat.gcd n k≤n:=Nat.div_le_self _ _
 have b2:m / Nat.gcd m d≤m:=Nat.div_le_self _ _
 have b3:d / Nat.gcd m d≤d:=Nat.div_le_self _ _
 have b4:k / Nat.gcd n k≤k:=Nat.div_le_self _ _
 refine quotient2_core neg n d m k (Nat.gcd n k:Nat) (Nat.gcd m d:Nat) (hiW (prdX n k m d)) (loW (prdX n k m d)) (hiW (prdX d m k n)) (loW (prdX d m k n)) _ _ _ w
  (by simp;omega) (by simp;omega) (by omega) (by omega) (by omega) (by omega) (by omega) (by omega) (by omega) (by omega) (by omega) (by omega)
  (fun w=>?_) (fun w=>?_) (fun w=>?_) (fun w=>?_) (fun w=>?_)
 ·have:=gcd2_any n k w (by omega) (by omega) (by omega) (by omega)
  rw [gcdI_nat]at this
  exact Calls.quietD this
 ·have:=gcd2_any m d w (by omega) (by omega) (by omega) (by omega)
  rw [gcdI_nat]at this
  exact Calls.quietD this
 ·rw [ediv_nat,ediv_nat]
  exact times2_any _ _ w (by omega) (by omega)
 ·rw [ediv_nat,ediv_nat,←prdX_comm]
  exact times2_any _ _ w (by omega) (by omega)
 ·have:=within2_any neg (hiW (prdX n k m d)) (loW (prdX n k m d)) (hiW (prdX d m k n)) (loW (prdX d m k n)) w (loW_bd _).1 (loW_bd _).1
  rw [frV_wit]at this
  exact this
end Go.Proofs.YtlheailebbngiaaGreatDoor
namespace Go.Proofs.YtlheailebbngiaaGreatDoor
def fdig(d:Int):Nat→Int→Option (List Int)
 |0,r=>if r≤0 then some []else none
 |f+1,r=>if r≤0 then some []else(fdig d f (r*10 % d)).map fun l=>r*10 / d::l
def partD:List Int→Int
 | []=>0
 |x::r=>x*10 ^ r.length+partD r
theorem fdig_some{d:Int}(hd:1≤d):∀(f:Nat) (r:Int) (l:List Int),0≤r→fdig d f r=some l→partD l*d=r*10 ^ l.length∧l.length≤f
 |0,r,l,h0,h=>by
  unfold fdig at h
  split at h<;>cases h
  have:r=0:=by omega
  subst this;simp [partD]
 |f+1,r,l,h0,h=>by
  unfold fdig at h
  split at h<;>rename_i hc
  ·cases h
   have:r=0:=by omega
   subst this;simp [partD]
  ·obtain⟨q,hq,rfl⟩:=Option.map_eq_some_iff.1 h
   obtain⟨h1,h2⟩:=fdig_some hd f _ q (Int.emod_nonneg _ (by omega)) hq
   refine⟨?_,by simpa using h2⟩
   have e:=Int.mul_ediv_add_emod (r*10) d
   simp only [partD,List.length_cons]
   rw [Int.add_mul,h1,Int.pow_succ]
   generalize(10:Int) ^ q.length=t at *
   have e2:r*(t*10)=(d*(r*10 / d)+r*10 % d)*t:=by rw [e,Int.mul_comm t 10,Int.mul_assoc]
   rw [e2,Int.add_mul,Int.mul_comm d,Int.mul_right_comm]
theorem fdig_none{d:Int}(hd:1≤d):∀(f:Nat) (r:Int),0≤r→r<d→fdig d f r=none→r*10 ^ f % d≠0
 |0,r,h0,h1,h=>by
  unfold fdig at h
  split at h
  ·cases h
  ·rw [Int.pow_zero,Int.mul_one,Int.emod_eq_of_lt h0 h1];omega
 |f+1,r,h0,h1,h=>by
  unfold fdig at h
  split at h
  ·cases h
  ·have h2:=fdig_none hd f (r*10 % d) (Int.emod_nonneg _ (by omega)) (Int.emod_lt_of_pos _ (by omega)) (by simpa using h)
   intro hc
   apply h2
   rw [Int.pow_succ,Int.mul_comm ((10:Int) ^ f),←Int.mul_assoc]at hc
   rw [Int.mul_emod,Int.emod_emod,←Int.mul_emod]
   exact hc
def redP(p:Int):Nat→Int→Int→Int × Int
 |0,a,b=>(a,b)
 |f+1,a,b=>if a % p=0∧b % p=0 then redP p f (a / p) (b / p)else(a,b)
theorem redP_spec{p:Int}(hp:2≤p):∀(f:Nat) (a b:Int),1≤b→b<p ^ f→
 (redP p f a b).1*b=a*(redP p f a b).2∧¬((redP p f a b).1 % p=0∧(redP p f a b).2 % p=0)∧(redP p f a b).2 ∣ b∧1≤(redP p f a b).2∧
 ∀q:Int,¬(a % q=0∧b % q=0)→¬((redP p f a b).1 % q=0∧(redP p f a b).2 % q=0)
 |0,a,b,h1,h2=>by simp at h2;omega
 |f+1,a,b,h1,h2=>by
  unfold redP
  split<;>rename_i hc
  ·obtain⟨a',ha⟩:=Int.dvd_of_emod_eq_zero hc.1
   obtain⟨b',hb⟩:=Int.dvd_of_emod_eq_zero hc.2
   subst ha hb
   rw [Int.mul_ediv_cancel_left _ (by omega),Int.mul_ediv_cancel_left _ (by omega)]
   have hb1:1≤b':=by
    rcases Int.lt_or_le b' 1 with h|h
    ·have:p*b'≤p*0:=Int.mul_le_mul_of_nonneg_left (by omega) (by omega)
     omega
    ·exact h
   have hb2:b'<p ^ f:=by
    rw [Int.pow_succ,Int.mul_comm _ p]at h2
    exact Int.lt_of_mul_lt_mul_left h2 (by omega)
   obtain⟨e1,e2,e3,e4,e5⟩:=redP_spec hp f a' b' hb1 hb2
   refine⟨?_,e2,Int.dvd_trans e3 (Int.dvd_mul_left p b'),e4,fun q hq=>e5 q fun hc=>hq ?_⟩
   ·rw [Int.mul_left_comm,e1,Int.mul_assoc]
   ·exact⟨Int.emod_eq_zero_of_dvd (Int.dvd_trans (Int.dvd_of_emod_eq_zero hc.1) (Int.dvd_mul_left p a')),Int.emod_eq_zero_of_dvd (Int.dvd_trans (Int.dvd_of_emod_eq_zero hc.2) (Int.dvd_mul_left p b'))⟩
  ·exact⟨rfl,hc,Int.dvd_refl b,h1,fun q hq=>hq⟩
def redD(a b:Int):Int × Int:=redP 5 6 (redP 2 14 a b).1 (redP 2 14 a b).2
theorem two_five{g:Nat}{k:Nat}(h:g ∣ 10 ^ k)(h2:¬2 ∣ g)(h5:¬5 ∣ g):g=1:=by
 have c2:Nat.Coprime g 2:=by
  have hd:Nat.gcd g 2 ∣ 2:=Nat.gcd_dvd_right _ _
  have hg:Nat.gcd g 2 ∣ g:=Nat.gcd_dvd_left _ _
  have hle:=Nat.le_of_dvd (by omega) hd
  have:Nat.gcd g 2≠2:=fun e=>h2 (e ▸ hg)
  have h0:Nat.gcd g 2≠0:=fun e=>by rw [e]at hd;omega
  show Nat.gcd g 2=1
  omega
 have c5:Nat.Coprime g 5:=by
  have hd:Nat.gcd g 5 ∣ 5:=Nat.gcd_dvd_right _ _
  have hg:Nat.gcd g 5 ∣ g:=Nat.gcd_dvd_left _ _
  have hle:=Nat.le_of_dvd (by omega) hd
  have:Nat.gcd g 5≠5:=fun e=>h5 (e ▸ hg)
  show Nat.gcd g 5=1
  generalize Nat.gcd g 5=x at *
  obtain rfl|rfl|rfl|rfl|rfl:x=0∨x=1∨x=2∨x=3∨x=4:=by omega
  all_goals first|rfl|(exfalso;revert hd;decide)
 have c10:Nat.Coprime g (10 ^ k):=Nat.Coprime.pow_right k (show Nat.Coprime g (2*5)from Nat.Coprime.mul_right c2 c5)
 exact Nat.Coprime.eq_one_of_dvd c10 h
theorem redD_spec{a:Int}{k:Nat}(hk:k≤4):(redD a (10 ^ k)).1*10 ^ k=a*(redD a (10 ^ k)).2∧(redD a (10 ^ k)).2 ∣ 10 ^ k∧1≤(redD a (10 ^ k)).2∧Nat.Coprime (redD a (10 ^ k)).1.natAbs (redD a (10 ^ k)).2.natAbs:=by
 have hb:(1:Int)≤10 ^ k∧(10:Int) ^ k≤10000:=by
  obtain rfl|rfl|rfl|rfl|rfl:k=0∨k=1∨k=2∨k=3∨k=4:=by omega
  all_goals decide
 obtain⟨e1,e2,e3,e4,e5⟩:=redP_spec (p:=2) (by omega) 14 a (10 ^ k) hb.1 (by rw [show(2:Int) ^ 14=16384 by decide];omega)
 have hle:=Int.le_of_dvd (by omega) e3
 unfold redD
 obtain⟨f1,f2,f3,f4,f5⟩:=redP_spec (p:=5) (by omega) 6 (redP 2 14 a (10 ^ k)).1 (redP 2 14 a (10 ^ k)).2 e4 (by rw [show(5:Int) ^ 6=15625 by decide];omega)
 have f6:=f5 2 e2
 generalize redP 5 6 (redP 2 14 a (10 ^ k)).1 (redP 2 14 a (10 ^ k)).2=z at *
 generalize redP 2 14 a (10 ^ k)=y at *
 have hdv:z.2 ∣ 10 ^ k:=Int.dvd_trans f3 e3
 refine⟨?_,hdv,f4, ?_⟩
 ·have h:z.1*10 ^ k*y.2=a*z.2*y.2:=by
   rw [Int.mul_right_comm,f1,Int.mul_right_comm,e1,Int.mul_right_comm]
  exact Int.eq_of_mul_eq_mul_right (by omega) h
 ·have hg:Nat.gcd z.1.natAbs z.2.natAbs ∣ 10 ^ k:=by
   have h1:z.2.natAbs ∣ 10 ^ k:=by
    have:=Int.natAbs_dvd_natAbs.2 hdv
    rwa [Int.natAbs_pow]at this
   exact Nat.dvd_trans (Nat.gcd_dvd_right _ _) h1
  refine two_five hg (fun h=>f6 ?_) (fun h=>f2 ?_)
  ·exact lz41
  ·exact lz41
theorem cop_eq{an ad bn bd:Int}(h1:1≤ad)(h2:1≤bd)(p:Nat.Coprime an.natAbs ad.natAbs)(q:Nat.Coprime bn.natAbs bd.natAbs)(h:an*bd=bn*ad):an=bn∧ad=bd:=by
 exact lz19
def dec2Ok(n d m:Int):Bool:=
 match fdig d 4 (n % d)with
 |none=>false
 |some l=>decide (n / d≤999999999)&&(decide ((redD (n / d*10 ^ l.length+partD l) (10 ^ l.length)).1=n∧(redD (n / d*10 ^ l.length+partD l) (10 ^ l.length)).2=d)&&decide (2≤m∧m≤4))
theorem dec_law{n d m:Int}(h1:1≤d)(h2:d≤10000)(h3:0≤n)(h4:n≤1000000000000000):dec2Ok n d m=decOk n d m:=by
 have hr0:=Int.emod_nonneg n (show d≠0 by omega)
 have hr1:=Int.emod_lt_of_pos n (show 0<d by omega)
 have hq:=Int.mul_ediv_add_emod n d
 unfold dec2Ok
 cases hf:fdig d 4 (n % d)with
 |none=>
  have:=fdig_none h1 4 _ hr0 hr1 hf
  show false=_
  symm
  rw [Bool.eq_false_iff]
  intro hc
  simp only [decOk,Bool.and_eq_true,decide_eq_true_eq]at hc
  apply this
  have h5:(10000:Int) % d=0:=hc.1.1.1.2
  obtain⟨c,hc⟩:=Int.dvd_of_emod_eq_zero h5
  rw [show(10:Int) ^ 4=10000 by decide,hc,Int.mul_left_comm]
  exact Int.mul_emod_right d _
 |some l=>
  obtain⟨hp,hl⟩:=fdig_some h1 4 _ l hr0 hf
  obtain⟨e1,e2,e3,e4⟩:=redD_spec (a:=n / d*10 ^ l.length+partD l) hl
  have hA:(n / d*10 ^ l.length+partD l)*d=n*10 ^ l.length:=by
   rw [Int.add_mul,hp]
   conv=>rhs;rw [←hq]
   rw [Int.add_mul,Int.mul_comm d,Int.mul_right_comm]
  show(decide (n / d≤999999999)&&_)=_
  generalize redD (n / d*10 ^ l.length+partD l) (10 ^ l.length)=z at *
  rw [Bool.eq_iff_iff]
  simp only [decOk,Bool.and_eq_true,decide_eq_true_eq]
  constructor
  ·rintro⟨a,⟨rfl,rfl⟩,b,c⟩
   refine⟨⟨⟨⟨⟨vfrac_of ⟨by omega,by omega,by omega,by omega⟩ e4,h3⟩, ?_⟩,b⟩,c⟩,a⟩
   refine Int.emod_eq_zero_of_dvd (Int.dvd_trans e2 ?_)
   obtain h|h|h|h|h:l.length=0∨l.length=1∨l.length=2∨l.length=3∨l.length=4:=by omega
   all_goals rw [h];decide
  ·rintro⟨⟨⟨⟨⟨a,-⟩,-⟩,b⟩,c⟩,e⟩
   refine⟨e, ?_,b,c⟩
   have hB:(1:Int)≤10 ^ l.length:=Int.pow_pos (by omega)
   have hx:z.1*d=n*z.2:=by
    have:z.1*d*10 ^ l.length=n*z.2*10 ^ l.length:=by
     rw [Int.mul_right_comm,e1,Int.mul_right_comm,hA,Int.mul_right_comm]
    exact Int.eq_of_mul_eq_mul_right (by omega) this
   exact cop_eq e3 h1 e4 (vfrac_gcd a) hx
theorem decOk_out{n d m:Int}(h:d<1∨10000<d∨n<0∨1000000000000000<n):decOk n d m=false:=by
 rw [Bool.eq_false_iff]
 intro hc
 simp only [decOk,Bool.and_eq_true,decide_eq_true_eq]at hc
 have:=vfrac_bd hc.1.1.1.1.1
 have h5:=Int.le_of_dvd (by omega) (Int.dvd_of_emod_eq_zero hc.1.1.1.2)
 omega
theorem idx_dot:∀(a b:List UInt8),(46:UInt8)∉a→Lib.index (a++46::b) [46]=a.length
 | [],b,_=>by simp [Lib.index,List.isPrefixOf]
 |c::a,b,h=>by
  have h1:(46:UInt8)≠c:=fun e=>h (by simp [e])
  have ih:=idx_dot a b (fun e=>h (by simp [e]))
  simp only [List.cons_append,Lib.index,List.isPrefixOf,ih]
  have h2:((46:UInt8)==c)=false:=by simpa using h1
  rw [h2]
  simp
theorem idx_no:∀(a:List UInt8),(46:UInt8)∉a→Lib.index a [46]= -1
 | [],_=>by simp [Lib.index]
 |c::a,h=>by
  have h1:(46:UInt8)≠c:=fun e=>h (by simp [e])
  have ih:=idx_no a (fun e=>h (by simp [e]))
  simp only [Lib.index,List.isPrefixOf,ih]
  have h2:((46:UInt8)==c)=false:=by simpa using h1
  rw [h2]
  simp
theorem cut_dot(a b:List UInt8)(h:(46:UInt8)∉a):Lib.cut (a++46::b) [46]=(a,b,true):=by
 unfold Lib.cut
 rw [idx_dot a b h,if_pos (by omega)]
 simp
theorem cut_no(a:List UInt8)(h:(46:UInt8)∉a):Lib.cut a [46]=(a,[],false):=by
 unfold Lib.cut
 rw [idx_no a h,if_neg (by omega)]
def natG:Int→List UInt8→Option Int
 |x,[]=>some x
 |x,c::r=>if digc (c.toNat:Int)=true then natG (10*x+((c.toNat:Int)-48)) r else none
theorem natG_append:∀(a b:List UInt8) (x:Int),natG x (a++b)=(natG x a).bind fun y=>natG y b
 | [],b,x=>rfl
 |c::a,b,x=>by
  simp only [List.cons_append,natG]
  split
  ·exact natG_append a b _
  ·rfl
def dgB(x:Int):UInt8:=UInt8.ofNat (48+x.toNat)
theorem dgB_toNat{x:Int}(h0:0≤x)(h1:x≤9):((dgB x).toNat:Int)=48+x:=by
 unfold dgB
 rw [UInt8.toNat_ofNat']
 omega
theorem natG_one(x y:Int)(h0:0≤y)(h1:y≤9):natG x [dgB y]=some (10*x+y):=by
 have e:=dgB_toNat h0 h1
 simp only [natG]
 rw [e,if_pos (by simp [digc];omega)]
 congr 1
 omega
theorem natG_digs:∀(l:List Int) (x:Int),(∀y∈l,0≤y∧y≤9)→natG x (l.map dgB)=some (x*10 ^ l.length+partD l)
 | [],x,_=>by simp [natG,partD]
 |y::l,x,h=>by
  have hy:=h y (by simp)
  have ih:=natG_digs l (10*x+y) (fun z hz=>h z (by simp [hz]))
  have e:=natG_append [dgB y] (l.map dgB) x
  rw [natG_one x y hy.1 hy.2]at e
  simp only [List.map_cons]
  rw [show dgB y::l.map dgB= [dgB y]++l.map dgB from rfl,e]
  simp only [Option.bind_some]
  rw [ih]
  congr 1
  simp only [List.length_cons,partD,Int.pow_succ]
  rw [Int.add_mul,Int.mul_comm 10 x,Int.mul_assoc,Int.mul_comm 10]
  omega
theorem natG_dec(u:Nat):∀x:Int,natG x (Lib.decDigits u)=some (x*10 ^ Lib.nDigits u+u):=by
 induction u using Nat.strongRecOn with
 |_ u ih=>
  intro x
  rw [Lib.decDigits]
  by_cases h:u<10
  ·rw [dif_pos h,Lib.nDigits_small h]
   have:=natG_one x u (by omega) (by omega)
   unfold dgB at this
   rw [Int.toNat_natCast]at this
   rw [this]
   congr 1
   omega
  ·rw [dif_neg h,natG_append,ih (u / 10) (by omega),Lib.nDigits_big h]
   simp only [Option.bind_some]
   have:=natG_one (x*10 ^ Lib.nDigits (u / 10)+(u / 10:Nat)) ((u % 10:Nat):Int) (by omega) (by omega)
   unfold dgB at this
   rw [Int.toNat_natCast]at this
   rw [this]
   congr 1
   rw [Int.pow_succ,Int.mul_add,←Int.mul_assoc,Int.mul_comm 10 x,Int.mul_assoc,Int.mul_comm 10 (10 ^ _)]
   omega
theorem dec_digs(u:Nat):∀c∈Lib.decDigits u,48≤c.toNat∧c.toNat≤57:=by
 induction u using Nat.strongRecOn with
 |_ u ih=>
  intro c hc
  rw [Lib.decDigits]at hc
  by_cases h:u<10
  ·rw [dif_pos h]at hc
   simp only [List.mem_singleton]at hc
   subst hc
   rw [UInt8.toNat_ofNat']
   omega
  ·rw [dif_neg h]at hc
   rcases List.mem_append.1 hc with hc|hc
   ·exact ih (u / 10) (by omega) c hc
   ·simp only [List.mem_singleton]at hc
    subst hc
    rw [UInt8.toNat_ofNat']
    omega
theorem dec_head(u:Nat)(h:1≤u):∃c r,Lib.decDigits u=c::r∧c.toNat≠48:=by
 induction u using Nat.strongRecOn with
 |_ u ih=>
  rw [Lib.decDigits]
  by_cases h2:u<10
  ·rw [dif_pos h2]
   exact⟨_,_,rfl,by rw [UInt8.toNat_ofNat'];omega⟩
  ·rw [dif_neg h2]
   obtain⟨c,r,e,hc⟩:=ih (u / 10) (by omega) (by omega)
   rw [e]
   exact⟨c,_,rfl,hc⟩
def stripM(s:List UInt8):List UInt8 × Int:=if s.getLast? =some 100 then(s.dropLast,3)else if s.getLast? =some 109 then(s.dropLast,4)else(s,2)
def decForm(a b:List UInt8)(pt:Bool):Bool:=decide (1≤a.length)&&decide (a.length≤9)&&!(decide (1<a.length)&&decide (a.head? =some 48))&&!(pt&&(decide (b.length<1) || decide (4<b.length)))
def decP(a b:List UInt8)(pt:Bool)(m:Int):Option (Int × Int × Int):=
 if decForm a b pt=true then(natG 0 a).bind fun x=>(natG 0 b).map fun p=>((redD (x*10 ^ b.length+p) (10 ^ b.length)).1,(redD (x*10 ^ b.length+p) (10 ^ b.length)).2,m)else none
def decF(s:List UInt8):Option (Int × Int × Int):=decP (Lib.cut (stripM s).1 [46]).1 (Lib.cut (stripM s).1 [46]).2.1 (Lib.cut (stripM s).1 [46]).2.2 (stripM s).2
def dotL(l:List Int):List UInt8:=if l= []then []else 46::l.map dgB
def sufL(m:Int):List UInt8:=if m=3 then [100]else if m=4 then [109]else []
def sufM(m:Int):Int:=if m=3 then 3 else if m=4 then 4 else 2
theorem getLast_digs{s:List UInt8}(h0:s≠[])(h:∀c∈s,48≤c.toNat∧c.toNat≤57∨c=46):s.getLast?≠some 100∧s.getLast?≠some 109:=by
 have e:=List.getLast?_eq_some_getLast h0
 have hc:=h _ (List.getLast_mem h0)
 rw [e]
 constructor
 ·exact lz66
 ·exact lz66
theorem strip_suf{s:List UInt8}(h0:s≠[])(h:∀c∈s,48≤c.toNat∧c.toNat≤57∨c=46)(m:Int):stripM (s++sufL m)=(s,sufM m):=by
 obtain⟨h1,h2⟩:=getLast_digs h0 h
 unfold stripM sufL sufM
 by_cases c3:m=3
 ·subst c3
  rw [if_pos rfl,if_pos rfl]
  simp
 ·by_cases c4:m=4
  ·subst c4
   simp
  ·rw [if_neg c3,if_neg c4,if_neg c3,if_neg c4,List.append_nil,if_neg h1,if_neg h2]
theorem dgB_rng{x:Int}(h0:0≤x)(h1:x≤9):48≤(dgB x).toNat∧(dgB x).toNat≤57:=by have:=dgB_toNat h0 h1;omega
theorem body_chars{q:Nat}{l:List Int}(hl:∀y∈l,0≤y∧y≤9):∀c∈Lib.decDigits q++dotL l,48≤c.toNat∧c.toNat≤57∨c=46:=by
 intro c hc
 rcases List.mem_append.1 hc with hc|hc
 ·exact .inl (dec_digs q c hc)
 ·unfold dotL at hc
  split at hc
  ·cases hc
  ·rcases List.mem_cons.1 hc with hc|hc
   ·exact .inr hc
   ·obtain⟨y,hy,rfl⟩:=List.mem_map.1 hc
    have:=hl y hy
    exact .inl (dgB_rng this.1 this.2)
theorem nDigits_nine(q:Nat):Lib.nDigits q≤9↔q≤999999999:=by
 constructor
 ·intro h
  have h1:=Lib.lt_pow_nDigits q
  have h2:10 ^ Lib.nDigits q≤10 ^ 9:=Nat.pow_le_pow_right (by omega) h
  have h3:(10:Nat) ^ 9=1000000000:=by decide
  omega
 ·intro h
  by_cases h9:Lib.nDigits q≤9
  ·exact h9
  ·exfalso
   obtain⟨k,hk⟩:∃k,Lib.nDigits q=k+1:=⟨Lib.nDigits q-1,by have:=Lib.nDigits_pos q;omega⟩
   have hlow:∀(u:Nat) (k:Nat),Lib.nDigits u=k+2→10 ^ (k+1)≤u:=by
    intro u
    induction u using Nat.strongRecOn with
    |_ u ih=>
     intro k hk
     by_cases hs:u<10
     ·rw [Lib.nDigits_small hs]at hk;omega
     ·rw [Lib.nDigits_big hs]at hk
      cases k with
      |zero=>omega
      |succ k=>
       have:=ih (u / 10) (by omega) k (by omega)
       rw [Nat.pow_succ];omega
   have:=hlow q (Lib.nDigits q-2) (by omega)
   have h2:10 ^ 9≤10 ^ (Lib.nDigits q-2+1):=Nat.pow_le_pow_right (by omega) (by omega)
   have h3:(10:Nat) ^ 9=1000000000:=by decide
   omega
theorem dec_no_dot(q:Nat):(46:UInt8)∉Lib.decDigits q:=fun h=>by
 have:=dec_digs q _ h
 revert this;decide
theorem cut_body(q:Nat)(l:List Int):Lib.cut (Lib.decDigits q++dotL l) [46]=(Lib.decDigits q,l.map dgB,decide (l≠[])):=by
 unfold dotL
 by_cases h:l= []
 ·subst h
  rw [if_pos rfl,List.append_nil,cut_no _ (dec_no_dot q)]
  simp
 ·rw [if_neg h,cut_dot _ _ (dec_no_dot q)]
  simp [h]
theorem form_body(q:Nat)(l:List Int)(hn:l.length≤4):decForm (Lib.decDigits q) (l.map dgB) (decide (l≠[]))=decide (q≤999999999):=by
 unfold decForm
 rw [Lib.decDigits_length]
 have h1:=Lib.nDigits_pos q
 have h9:=nDigits_nine q
 have e3:(decide (1<Lib.nDigits q)&&decide ((Lib.decDigits q).head? =some 48))=false:=by
  rw [Bool.and_eq_false_iff]
  by_cases c:1<Lib.nDigits q
  ·right
   have hq:1≤q:=by
    rcases Nat.eq_zero_or_pos q with rfl|h
    ·rw [Lib.nDigits_small (by omega)]at c;omega
    ·exact h
   obtain⟨x,r,e,hx⟩:=dec_head q hq
   rw [e]
   simp only [List.head?_cons,Option.some.injEq,decide_eq_false_iff_not]
   intro k
   rw [k]at hx
   exact hx (by decide)
  ·left;simpa using c
 have e4:(decide (l≠[])&&(decide ((l.map dgB).length<1) || decide (4<(l.map dgB).length)))=false:=by
  rw [List.length_map]
  cases l with
  |nil=>rfl
  |cons a r=>simp at hn ⊢;omega
 have e9:decide (Lib.nDigits q≤9)=decide (q≤999999999):=decide_eq_decide.2 h9
 rw [e3,e4,decide_eq_true (show 1≤Lib.nDigits q from h1),e9]
 simp
theorem decF_text{q:Nat}{l:List Int}(hl:∀y∈l,0≤y∧y≤9)(hn:l.length≤4)(m:Int):decF (Lib.decDigits q++dotL l++sufL m)=
 if q≤999999999 then some ((redD (q*10 ^ l.length+partD l) (10 ^ l.length)).1,(redD (q*10 ^ l.length+partD l) (10 ^ l.length)).2,sufM m)else none:=by
 have h0:Lib.decDigits q++dotL l≠[]:=by
  have k1:=Lib.decDigits_length q
  have k2:=Lib.nDigits_pos q
  intro h
  rw [List.append_eq_nil_iff]at h
  rw [h.1]at k1
  simp at k1
  omega
 unfold decF
 rw [strip_suf h0 (body_chars hl) m]
 simp only [cut_body,decP,form_body q l hn,decide_eq_true_eq]
 have e1:=natG_dec q 0
 have e2:=natG_digs l 0 hl
 rw [Int.zero_mul,Int.zero_add]at e1 e2
 rw [e1,e2]
 simp
theorem fdig_digs{d:Int}(hd:1≤d):∀(f:Nat) (r:Int) (l:List Int),0≤r→r<d→fdig d f r=some l→∀y∈l,0≤y∧y≤9
 |0,r,l,_,_,h=>by
  unfold fdig at h
  split at h<;>cases h
  intro y hy;cases hy
 |f+1,r,l,h0,h1,h=>by
  unfold fdig at h
  split at h<;>rename_i hc
  ·cases h
   intro y hy;cases hy
  ·obtain⟨q,hq,rfl⟩:=Option.map_eq_some_iff.1 h
   intro y hy
   rcases List.mem_cons.1 hy with rfl|hy
   ·constructor
    ·exact Int.ediv_nonneg (by omega) (by omega)
    ·have:r*10 / d<10:=Int.ediv_lt_of_lt_mul (by omega) (by omega)
     omega
   ·exact fdig_digs hd f _ q (Int.emod_nonneg _ (by omega)) (Int.emod_lt_of_pos _ (by omega)) hq y hy
def dec2T(n d m:Int):List UInt8:=match fdig d 4 (n % d)with|some l=>Lib.decDigits (n / d).toNat++dotL l++sufL m|none=>[]
theorem dec2_read{n d m:Int}{l:List Int}(h1:1≤d)(h2:d≤10000)(h3:0≤n)(h4:n≤1000000000000000)(hf:fdig d 4 (n % d)=some l) :
 (decF (Lib.decDigits (n / d).toNat++dotL l++sufL m)=some (n,d,m))↔decOk n d m=true:=by
 have hr0:=Int.emod_nonneg n (show d≠0 by omega)
 have hr1:=Int.emod_lt_of_pos n (show 0<d by omega)
 have hq0:0≤n / d:=Int.ediv_nonneg h3 (by omega)
 obtain⟨-,hn⟩:=fdig_some h1 4 _ l hr0 hf
 rw [decF_text (fdig_digs h1 4 _ l hr0 hr1 hf) hn m,←dec_law h1 h2 h3 h4]
 unfold dec2Ok
 rw [hf]
 have e:(((n / d).toNat:Nat):Int)=n / d:=by omega
 rw [e]
 simp only [Bool.and_eq_true,decide_eq_true_eq]
 have hm:sufM m=m↔2≤m∧m≤4:=by
  unfold sufM
  split
  ·omega
  ·split<;>omega
 constructor
 ·intro h
  split at h<;>rename_i hc
  ·simp only [Option.some.injEq,Prod.mk.injEq]at h
   exact⟨by omega,⟨h.1,h.2.1⟩,hm.1 h.2.2⟩
  ·cases h
 ·rintro⟨a,⟨b,c⟩,k⟩
  rw [if_pos (by omega),b,c,hm.2 k]
theorem dec2_none{n d m:Int}(h1:1≤d)(h2:d≤10000)(h3:0≤n)(h4:n≤1000000000000000)(hf:fdig d 4 (n % d)=none):decOk n d m=false:=by
 rw [←dec_law h1 h2 h3 h4]
 unfold dec2Ok
 rw [hf]
end Go.Proofs.YtlheailebbngiaaGreatDoor
