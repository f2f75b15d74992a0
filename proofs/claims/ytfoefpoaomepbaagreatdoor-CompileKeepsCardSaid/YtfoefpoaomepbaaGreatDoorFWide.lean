import Derived.Test.YtfoefpoaomepbaaGreatDoorFDiv
import Derived.Test.YtfoefpoaomepbaaGreatDoorFK
import Derived.Lib.SmallJoins
set_option linter.all false
set_option maxHeartbeats 16000000
set_option maxRecDepth 1000000
namespace Go.Proofs.YtfoefpoaomepbaaGreatDoor
open Go.RowKit

def hiW(n:Nat):Int:=(n / 18446744073709551616:Nat)
def loW(n:Nat):Int:=(n % 18446744073709551616:Nat)

theorem hiW_bd(n:Nat)(h:n<340282366920938463463374607431768211456):0≤hiW n∧hiW n<18446744073709551616:=by unfold hiW;omega
theorem loW_bd(n:Nat):0≤loW n∧loW n<18446744073709551616:=by unfold loW;omega

theorem times1_any(a b:Nat)(w:World)(h1:a<18446744073709551616)(h2:b<18446744073709551616) :
 Calls Tryz.prog 156 #[.int .u64 a,.int .u64 b] w fun e w'=>e= .returned (.agg #[.int .u64 (hiW (a*b)),.int .u64 (loW (a*b))])∧w.Grows w':=by
 have H:Hid (∀w,Calls Tryz.prog 192 #[.int .u64 a,.int .u64 b] w fun e w'=>e= .returned (.tuple #[.int .u64 (hiW (a*b)),.int .u64 (loW (a*b))])∧w'=w):=Tryz.bits_Mul64 a b h1 h2
 generalize a*b=n at *
 go_enter Tryz.func156,Tryz.ntmps156
 go_wp2_with fail
 refine(H.out _).mono ?_
 rintro e w' ⟨rfl,rfl⟩
 clear H
 go_wp2_with fail
 go_returns
 exact⟨rfl,.of_below belB⟩

theorem over1_core(H L d q r Q:Int)(w:World)(a1:(d==0)=false)(a2:1≤d)(h0:0≤H)
 (a3:IntKind.u64.wrap (H.tdiv d)=Q)
 (HD:Hid (∀w,Calls Tryz.prog 189 #[.int .u64 (H % d),.int .u64 L,.int .u64 d] w fun e w'=>e= .returned (.tuple #[.int .u64 q,.int .u64 r])∧w.Grows w')) :
 Calls Tryz.prog 146 #[.agg #[.int .u64 H,.int .u64 L],.int .u64 d] w fun e w'=>e= .returned (.tuple #[.agg #[.int .u64 Q,.int .u64 q],.int .u64 r])∧w.Grows w':=by
 go_enter Tryz.func146,Tryz.ntmps146
 go_wp2_with fail
 refine wp_region_quietG (by kernel_rfl) (by kernel_rfl) ?_
 repeat(go_big_quiet_step ((go_at_call 189;exact Calls.quietG (HD.out _))))
 refine wpQuiet_nil ?_
 intro _ hw'
 obtain⟨⟨gb,gd⟩,hw''⟩:=hw'
 subst hw''
 clear HD
 go_wp2_with fail
 go_returns
 refine⟨rfl,.of_below belB⟩

def absI(n:Int):Int:=(n.natAbs:Int)
def gcdI(x y:Int):Int:=(Nat.gcd x.toNat y.toNat:Nat)
theorem absI_bd(n:Int)(h1:-9223372036854775808≤n)(h2:n≤9223372036854775807):0≤absI n∧absI n≤9223372036854775808:=by unfold absI;omega
theorem absI_toNat(n:Int):(absI n).toNat=n.natAbs:=by unfold absI;simp
theorem absI_of_nonneg{n:Int}(h:0≤n):absI n=n:=by unfold absI;omega

def vfrac(n d:Int):Bool:=decide (1≤d∧d≤1000000000∧-1000000000000000≤n∧n≤1000000000000000)&&gcdI (absI n) (absI d)==1
theorem vfrac_bd{n d:Int}(h:vfrac n d=true):1≤d∧d≤1000000000∧-1000000000000000≤n∧n≤1000000000000000:=by
 simp only [vfrac,Bool.and_eq_true,decide_eq_true_eq]at h;exact h.1
theorem vfrac_gcd{n d:Int}(h:vfrac n d=true):Nat.gcd n.natAbs d.natAbs=1:=by
 simp only [vfrac,Bool.and_eq_true,beq_iff_eq,gcdI,absI_toNat]at h
 have:=h.2;omega
theorem vfrac_of{n d:Int}(h:1≤d∧d≤1000000000∧-1000000000000000≤n∧n≤1000000000000000)(hg:Nat.gcd n.natAbs d.natAbs=1):vfrac n d=true:=by
 simp only [vfrac,Bool.and_eq_true,decide_eq_true_eq,beq_iff_eq,gcdI,absI_toNat]
 exact⟨h,by omega⟩

theorem Calls.quietD{P:Program}{f:FuncId}{args:Array Value}{w:World}{v:Value}
 (h:Calls P f args w fun e w'=>e= .returned v∧∃n,w'=w.drewN n):Calls P f args w fun e w'=>e= .returned v∧w.Grows w':=
 h.mono fun _ _ ⟨he,n,hw⟩=>⟨he,by subst hw;exact .of_below ⟨rfl,rfl,rfl,Nat.le_refl _,fun _ _=>rfl⟩⟩

theorem size1_any(n:Int)(w:World)(h1:-9223372036854775808≤n)(h2:n≤9223372036854775807) :
 Calls Tryz.prog 93 #[.int .i64 n] w fun e w'=>e= .returned (.int .u64 (absI n))∧w=w':=by
 by_cases hk:n<0
 ·go_enter Tryz.func93,Tryz.ntmps93
  go_wp2
  go_ret
  exact⟨by simp [absI];omega,rfl⟩
 ·go_enter Tryz.func93,Tryz.ntmps93
  go_wp2
  go_ret
  exact⟨by simp [absI];omega,rfl⟩

theorem size2_any(n:Int)(w:World)(h1:-9223372036854775808≤n)(h2:n≤9223372036854775807) :
 Calls Tryz.prog 177 #[.int .i64 n] w fun e w'=>e= .returned (.int .u64 (absI n))∧w=w':=by
 by_cases hk:n<0
 ·go_enter Tryz.func177,Tryz.ntmps177
  go_wp2
  go_ret
  exact⟨ret_int (by unfold absI;simp only [IntKind.wrap_u64];omega),rfl⟩
 ·go_enter Tryz.func177,Tryz.ntmps177
  go_wp2
  go_ret
  exact⟨ret_int (by unfold absI;omega),rfl⟩

theorem gcdI_step(c d:Int)(h0:0≤c)(h1:0<d):gcdI d (c % d)=gcdI c d:=by
 unfold gcdI
 obtain⟨a,rfl⟩:=Int.eq_ofNat_of_zero_le h0
 obtain⟨b,rfl⟩:=Int.eq_ofNat_of_zero_le (Int.le_of_lt h1)
 rw [show((a:Int) % (b:Int))=((a % b:Nat):Int)by simp]
 simp only [Int.toNat_natCast]
 congr 1
 rw [Nat.gcd_comm a b,Nat.gcd_rec b a,Nat.gcd_comm]

theorem gcdI_zero(c:Int)(h0:0≤c):gcdI c 0=c:=by unfold gcdI;simp;omega

theorem mod_bd(c d:Int)(h1:0<d):0≤c % d∧c % d<d:=⟨Int.emod_nonneg _ (by omega),Int.emod_lt_of_pos _ h1⟩

theorem gcd1_any(a b:Int)(w:World)(h0:0≤a)(h1:a<18446744073709551616)(h2:0≤b)(h3:b<18446744073709551616) :
 Calls Tryz.prog 147 #[.int .u64 a,.int .u64 b] w fun e w'=>e= .returned (.int .u64 (gcdI a b))∧∃n,w'=w.drewN n:=by
 go_enter Tryz.func147,Tryz.ntmps147
 go_wp2
 go_loopw [0,1] (fun x y wr=>∃c d:Int,x= .int .u64 c∧y= .int .u64 d∧0≤c∧c<18446744073709551616∧0≤d∧d<18446744073709551616∧Hid (gcdI c d=gcdI a b)∧∃n,wr=w.drewN n) (fun _ y _=>(intOf y).toNat)
 case atStart=>exact⟨a,b,rfl,rfl,h0,h1,h2,h3,rfl,0,rfl⟩
 case round=>
  obtain⟨c,d,rfl,rfl,hc0,hc,hd0,hd,Hg,dr,rfl⟩:=hrel
  by_cases h0:d=0
  ·subst h0
   go_wp2
   go_ret
   exact⟨by rw [←Hg.out,gcdI_zero c hc0];rfl,⟨_,rfl⟩⟩
  ·have h0':(d !=0)=true:=by simp;omega
   have h0'':(d==0)=false:=by simp;omega
   have h1d:1≤d:=by omega
   go_wp2
   go_region
   go_wp2
   go_roundw
   case rel=>exact⟨d,c % d,rfl,rfl,hd0,hd,(mod_bd c d h1d).1,by have:=(mod_bd c d h1d).2;omega,(gcdI_step c d hc0 h1d).trans Hg.out,dr+1,rfl⟩
   case measure=>simp [intOf];have:=mod_bd c d h1d;omega

theorem gcd2_any(a b:Int)(w:World)(h0:0≤a)(h1:a<18446744073709551616)(h2:0≤b)(h3:b<18446744073709551616) :
 Calls Tryz.prog 181 #[.int .u64 a,.int .u64 b] w fun e w'=>e= .returned (.int .u64 (gcdI a b))∧∃n,w'=w.drewN n:=by
 go_enter Tryz.func181,Tryz.ntmps181
 go_wp2
 go_loopw [0,1] (fun x y wr=>∃c d:Int,x= .int .u64 c∧y= .int .u64 d∧0≤c∧c<18446744073709551616∧0≤d∧d<18446744073709551616∧Hid (gcdI c d=gcdI a b)∧∃n,wr=w.drewN n) (fun _ y _=>(intOf y).toNat)
 case atStart=>exact⟨a,b,rfl,rfl,h0,h1,h2,h3,rfl,0,rfl⟩
 case round=>
  obtain⟨c,d,rfl,rfl,hc0,hc,hd0,hd,Hg,dr,rfl⟩:=hrel
  by_cases h0:d=0
  ·subst h0
   go_wp2
   go_ret
   exact⟨by rw [←Hg.out,gcdI_zero c hc0];rfl,⟨_,rfl⟩⟩
  ·have h0':(d !=0)=true:=by simp;omega
   have h0'':(d==0)=false:=by simp;omega
   have h1d:1≤d:=by omega
   go_wp2
   go_region
   go_wp2
   go_roundw
   case rel=>exact⟨d,c % d,rfl,rfl,hd0,hd,(mod_bd c d h1d).1,by have:=(mod_bd c d h1d).2;omega,(gcdI_step c d hc0 h1d).trans Hg.out,dr+1,rfl⟩
   case measure=>simp [intOf];have:=mod_bd c d h1d;omega

theorem vfrac_false{n d:Int}(h:¬(1≤d∧d≤1000000000∧-1000000000000000≤n∧n≤1000000000000000)):vfrac n d=false:=by
 simp only [vfrac,h,decide_false,Bool.false_and]
theorem vfrac_true{n d:Int}(h:1≤d∧d≤1000000000∧-1000000000000000≤n∧n≤1000000000000000):vfrac n d=(gcdI (absI n) (absI d)==1):=by
 simp only [vfrac,h,and_self,decide_true,Bool.true_and]

theorem Calls.quietE{P:Program}{f:FuncId}{args:Array Value}{w:World}{v:Value}
 (h:Calls P f args w fun e w'=>e= .returned v∧w=w'):Calls P f args w fun e w'=>e= .returned v∧∃n,w'=w.drewN n:=
 h.mono fun _ _ ⟨he,hw⟩=>⟨he,0,hw.symm⟩

theorem Valid1_any(n d:Int)(w:World)(h1:-9223372036854775808≤n)(h2:n≤9223372036854775807)(h3:-9223372036854775808≤d)(h4:d≤9223372036854775807) :
 Calls Tryz.prog 97 #[.agg #[.int .i64 n,.int .i64 d]] w fun e w'=>e= .returned (.bool (vfrac n d))∧w.Grows w':=by
 by_cases c1:1≤d
 ·by_cases c2:d≤1000000000
  ·by_cases c3:-1000000000000000≤n
   ·by_cases c4:n≤1000000000000000
    ·have hv:=Lib.hid (vfrac_true ⟨c1,c2,c3,c4⟩)
     have ha:=absI_bd n h1 h2
     have ha0:=ha.1
     have ha1:=ha.2
     have e1:IntKind.u64.wrap d=d:=IntWalk.u64_in _ (by omega)
     have e2:=Lib.hid (absI_of_nonneg (show 0≤d by omega))
     clear ha
     go_enter Tryz.func97,Tryz.ntmps97
     go_wp2_with fail
     go_quiet (first|(go_at_call 147;refine Calls.quiet_of (gcd1_any _ _ _ (by omega) (by omega) (by omega) (by omega)))|(go_at_call 93;refine Calls.quiet_of (Calls.quietE (size1_any _ _ (by omega) (by omega)))))
     go_wp2_with fail
     go_returns
     exact⟨by rw [hv.out,e2.out];rfl,.of_below belB⟩
    ·have d1:decide (n≤1000000000000000)=false:=by simp;omega
     go_enter Tryz.func97,Tryz.ntmps97
     go_wp2_with fail
     go_quiet (fail)
     go_wp2_with fail
     go_returns
     exact⟨by rw [vfrac_false (by omega)];rfl,.of_below belB⟩
   ·have d1:decide (-1000000000000000≤n)=false:=by simp;omega
    go_enter Tryz.func97,Tryz.ntmps97
    go_wp2_with fail
    go_quiet (fail)
    go_wp2_with fail
    go_returns
    exact⟨by rw [vfrac_false (by omega)];rfl,.of_below belB⟩
  ·have d1:decide (d≤1000000000)=false:=by simp;omega
   go_enter Tryz.func97,Tryz.ntmps97
   go_wp2_with fail
   go_quiet (fail)
   go_wp2_with fail
   go_returns
   exact⟨by rw [vfrac_false (by omega)];rfl,.of_below belB⟩
 ·have d1:decide (1≤d)=false:=by simp;omega
  go_enter Tryz.func97,Tryz.ntmps97
  go_wp2_with fail
  go_quiet (fail)
  go_wp2_with fail
  go_returns
  exact⟨by rw [vfrac_false (by omega)];rfl,.of_below belB⟩

theorem Valid2_any(n d:Int)(w:World)(h1:-9223372036854775808≤n)(h2:n≤9223372036854775807)(h3:-9223372036854775808≤d)(h4:d≤9223372036854775807) :
 Calls Tryz.prog 175 #[.agg #[.int .i64 n,.int .i64 d]] w fun e w'=>e= .returned (.bool (vfrac n d))∧w.Grows w':=by
 by_cases c1:1≤d
 ·by_cases c2:d≤1000000000
  ·by_cases c3:-1000000000000000≤n
   ·by_cases c4:n≤1000000000000000
    ·have hv:=Lib.hid (vfrac_true ⟨c1,c2,c3,c4⟩)
     have ha:=absI_bd n h1 h2
     have ha0:=ha.1
     have ha1:=ha.2
     have e1:absI d=d:=absI_of_nonneg (by omega);clear ha
     go_enter Tryz.func175,Tryz.ntmps175
     go_wp2_with fail
     go_quiet (first|(go_at_call 181;refine Calls.quiet_of (gcd2_any _ _ _ (by omega) (by omega) (by omega) (by omega)))|(go_at_call 177;refine Calls.quiet_of (Calls.quietE (size2_any _ _ (by omega) (by omega)))))
     go_wp2_with fail
     go_returns
     exact⟨by rw [hv.out,e1];rfl,.of_below belB⟩
    ·have d1:decide (n≤1000000000000000)=false:=by simp;omega
     go_enter Tryz.func175,Tryz.ntmps175
     go_wp2_with fail
     go_quiet (fail)
     go_wp2_with fail
     go_returns
     exact⟨by rw [vfrac_false (by omega)];rfl,.of_below belB⟩
   ·have d1:decide (-1000000000000000≤n)=false:=by simp;omega
    go_enter Tryz.func175,Tryz.ntmps175
    go_wp2_with fail
    go_quiet (fail)
    go_wp2_with fail
    go_returns
    exact⟨by rw [vfrac_false (by omega)];rfl,.of_below belB⟩
  ·have d1:decide (d≤1000000000)=false:=by simp;omega
   go_enter Tryz.func175,Tryz.ntmps175
   go_wp2_with fail
   go_quiet (fail)
   go_wp2_with fail
   go_returns
   exact⟨by rw [vfrac_false (by omega)];rfl,.of_below belB⟩
 ·have d1:decide (1≤d)=false:=by simp;omega
  go_enter Tryz.func175,Tryz.ntmps175
  go_wp2_with fail
  go_quiet (fail)
  go_wp2_with fail
  go_returns
  exact⟨by rw [vfrac_false (by omega)];rfl,.of_below belB⟩


def remI(n d:Nat):Int:=(n % d:Nat)
theorem remI_bd(n d:Nat)(h:0<d):0≤remI n d∧remI n d<d:=by
 unfold remI;have:=Nat.mod_lt n h;omega

theorem over_nat(n d:Nat)(h0:0<d)(_:d<18446744073709551616) :
 n / d / 18446744073709551616=n / 18446744073709551616 / d∧n / d % 18446744073709551616=(n / 18446744073709551616 % d*18446744073709551616+n % 18446744073709551616) / d∧
 n % d=(n / 18446744073709551616 % d*18446744073709551616+n % 18446744073709551616) % d:=by
 generalize hB:18446744073709551616=B at *
 have hB0:0<B:=by omega
 clear hB
 have e:n=d*(n / B / d*B)+(n / B % d*B+n % B):=by
  have a1:=Nat.div_add_mod n B
  have a2:=Nat.div_add_mod (n / B) d
  have a3:B*(n / B)=B*(d*(n / B / d))+B*(n / B % d):=by rw [←Nat.mul_add,a2]
  rw [Nat.mul_comm B (d*_),Nat.mul_assoc,Nat.mul_comm B (n / B % d)]at a3
  omega
 have hlt:(n / B % d*B+n % B) / d<B:=by
  rw [Nat.div_lt_iff_lt_mul h0]
  have b1:=Nat.mod_lt (n / B) h0
  have b2:=Nat.mod_lt n hB0
  have b3:(n / B % d+1)*B≤d*B:=Nat.mul_le_mul_right _ b1
  rw [Nat.add_mul,Nat.one_mul]at b3
  rw [Nat.mul_comm B d]
  omega
 have q:n / d=n / B / d*B+(n / B % d*B+n % B) / d:=by
  conv=>lhs;rw [e]
  rw [Nat.mul_add_div h0]
 refine⟨?_, ?_, ?_⟩
 ·rw [q,Nat.mul_comm _ B,Nat.mul_add_div hB0,Nat.div_eq_of_lt hlt,Nat.add_zero]
 ·rw [q,Nat.mul_comm _ B,Nat.mul_add_mod,Nat.mod_eq_of_lt hlt]
 ·conv=>lhs;rw [e]
  rw [Nat.mul_add_mod]

theorem over1_any(n d:Nat)(w:World)(h1:n<340282366920938463463374607431768211456)(h2:d<18446744073709551616)(h0:0<d) :
 Calls Tryz.prog 146 #[.agg #[.int .u64 (hiW n),.int .u64 (loW n)],.int .u64 d] w fun e w'=>e= .returned (.tuple #[.agg #[.int .u64 (hiW (n / d)),.int .u64 (loW (n / d))],.int .u64 (remI n d)])∧w.Grows w':=by
 obtain⟨e1,e2,e3⟩:=over_nat n d h0 h2
 have hh:=hiW_bd n h1
 refine over1_core _ _ _ _ _ _ w (by simp;omega) (by omega) hh.1 ?_ ?_
 ·have:(hiW n).tdiv d=((n / 18446744073709551616 / d:Nat):Int):=by
   rw [Int.tdiv_eq_ediv_of_nonneg hh.1];unfold hiW;simp
  rw [this,←e1]
  have h3:n / d≤n:=Nat.div_le_self _ _
  unfold hiW
  generalize n / d=m at *
  exact IntWalk.u64_in _ (by omega)
 ·intro w
  have:=Div64_any (n / 18446744073709551616 % d) (n % 18446744073709551616) d w (Nat.mod_lt _ h0) (Nat.mod_lt _ (by omega)) h2
  rw [←e2,←e3]at this
  simpa [hiW,loW,remI]using this

def lowN(neg:Bool)(n d:Nat):Int:=if 1000000000000000<n / Nat.gcd n d∨1000000000<d / Nat.gcd n d then 0 else if neg then -((n / Nat.gcd n d:Nat):Int)else(n / Nat.gcd n d:Nat)
def lowD(n d:Nat):Int:=if 1000000000000000<n / Nat.gcd n d∨1000000000<d / Nat.gcd n d then 0 else(d / Nat.gcd n d:Nat)
def lowE(n d:Nat):Int:=if 1000000000000000<n / Nat.gcd n d∨1000000000<d / Nat.gcd n d then 2 else 0

theorem gcd_rest(n d:Nat)(h0:0<d):gcdI d (remI n d)=(Nat.gcd n d:Nat):=by
 unfold gcdI remI
 simp only [Int.toNat_natCast]
 congr 1
 rw [Nat.gcd_comm n d,Nat.gcd_rec d n,Nat.gcd_comm]

def lowV(neg:Bool)(h l d:Int):Value:=if(h !=0)=true∨1000000000000000<l∨1000000000<d then .tuple #[.agg #[.int .i64 0,.int .i64 0],.int .i64 2]else .tuple #[.agg #[.int .i64 (if neg then -l else l),.int .i64 d],.int .i64 0]

theorem lowest1_walk(neg:Bool)(H L D r g h l h' l' rr:Int)(w:World)(hd:0≤D)(hd1:D<18446744073709551616)(hg0:1≤g)
 (hl0:0≤l') (hg00:(g==0)=false)
 (H1:Hid (∀w,Calls Tryz.prog 146 #[.agg #[.int .u64 H,.int .u64 L],.int .u64 D] w fun e w'=>e= .returned (.tuple #[.agg #[.int .u64 h,.int .u64 l],.int .u64 r])∧w.Grows w'))
 (H2:Hid (∀w,Calls Tryz.prog 147 #[.int .u64 D,.int .u64 r] w fun e w'=>e= .returned (.int .u64 g)∧∃n,w'=w.drewN n))
 (H3:Hid (∀w,Calls Tryz.prog 146 #[.agg #[.int .u64 H,.int .u64 L],.int .u64 g] w fun e w'=>e= .returned (.tuple #[.agg #[.int .u64 h',.int .u64 l'],.int .u64 rr])∧w.Grows w')) :
 Calls Tryz.prog 92 #[.bool neg,.agg #[.int .u64 H,.int .u64 L],.int .u64 D] w fun e w'=>
  e= .returned (lowV neg h' l' (D / g))∧w.Grows w':=by
 have hdg:0≤D / g:=Int.ediv_nonneg hd (by omega)
 by_cases c1:(h' !=0)=true
 ·go_enter Tryz.func92,Tryz.ntmps92
  go_wp2_with fail
  refine(H1.out _).mono ?_
  rintro e w' ⟨rfl,bs,dr,rfl⟩
  go_wp2_with fail
  refine(H2.out _).mono ?_
  rintro e w' ⟨rfl,nn,rfl⟩
  go_wp2_with fail
  refine(H3.out _).mono ?_
  rintro e w' ⟨rfl,bs3,dr3,rfl⟩
  clear H1 H2 H3
  go_wp2_with fail
  go_returns
  exact⟨by rw [lowV,if_pos (.inl c1)],.of_below belB⟩
 ·have c1':(h' !=0)=false:=by simpa using c1
  clear c1
  by_cases c2:(1000000000000000:Int)<l'
  ·go_enter Tryz.func92,Tryz.ntmps92
   go_wp2_with fail
   refine(H1.out _).mono ?_
   rintro e w' ⟨rfl,bs,dr,rfl⟩
   go_wp2_with fail
   refine(H2.out _).mono ?_
   rintro e w' ⟨rfl,nn,rfl⟩
   go_wp2_with fail
   refine(H3.out _).mono ?_
   rintro e w' ⟨rfl,bs3,dr3,rfl⟩
   clear H1 H2 H3
   go_wp2_with fail
   go_returns
   exact⟨by rw [lowV,if_pos (.inr (.inl c2))],.of_below belB⟩
  ·have c2':decide ((1000000000000000:Int)<l')=false:=by simpa using c2
   by_cases c3:(1000000000:Int)<D / g
   ·go_enter Tryz.func92,Tryz.ntmps92
    go_wp2_with fail
    refine(H1.out _).mono ?_
    rintro e w' ⟨rfl,bs,dr,rfl⟩
    go_wp2_with fail
    refine(H2.out _).mono ?_
    rintro e w' ⟨rfl,nn,rfl⟩
    go_wp2_with fail
    refine(H3.out _).mono ?_
    rintro e w' ⟨rfl,bs3,dr3,rfl⟩
    clear H1 H2 H3
    go_wp2_with fail
    go_returns
    exact⟨by rw [lowV,if_pos (.inr (.inr c3))],.of_below belB⟩
   ·have c3':decide ((1000000000:Int)<D / g)=false:=by simpa using c3
    have hn:¬((h' !=0)=true∨1000000000000000<l'∨1000000000<D / g):=by simp only [c1',Bool.false_eq_true,false_or,not_or];exact⟨c2,c3⟩
    have Hn:=Lib.hid hn
    clear hn
    cases neg
    focus
     go_enter Tryz.func92,Tryz.ntmps92
    rotate_left
    focus
     go_enter Tryz.func92,Tryz.ntmps92
    rotate_left
    all_goals
     go_wp2_with fail
     refine(H1.out _).mono ?_
     rintro e w' ⟨rfl,bs,dr,rfl⟩
     go_wp2_with fail
     refine(H2.out _).mono ?_
     rintro e w' ⟨rfl,nn,rfl⟩
     go_wp2_with fail
     refine(H3.out _).mono ?_
     rintro e w' ⟨rfl,bs3,dr3,rfl⟩
     clear H1 H2 H3
     go_wp2_with fail
     go_returns
     exact⟨by rw [lowV,if_neg Hn.out];rfl,.of_below belB⟩
theorem lowest1_any(neg:Bool)(n d:Nat)(w:World)(h1:n<340282366920938463463374607431768211456)(h2:d<18446744073709551616)(h0:0<d) :
 Calls Tryz.prog 92 #[.bool neg,.agg #[.int .u64 (hiW n),.int .u64 (loW n)],.int .u64 d] w fun e w'=>
  e= .returned (.tuple #[.agg #[.int .i64 (lowN neg n d),.int .i64 (lowD n d)],.int .i64 (lowE n d)])∧w.Grows w':=by
 have hg:0<Nat.gcd n d:=Nat.gcd_pos_of_pos_right _ h0
 have hgd:Nat.gcd n d≤d:=Nat.gcd_le_right _ h0
 have hr:=remI_bd n d h0
 refine(lowest1_walk neg (hiW n) (loW n) d (remI n d) (Nat.gcd n d:Nat) (hiW (n / d)) (loW (n / d)) (hiW (n / Nat.gcd n d)) (loW (n / Nat.gcd n d)) (remI n (Nat.gcd n d)) w (by omega) (by omega) (by omega)
  (loW_bd _).1 (by simp;omega) (fun w=>over1_any n d w h1 h2 h0) (fun w=>?_) (fun w=>over1_any n _ w h1 (by omega) hg)).mono ?_
 ·have:=gcd1_any d (remI n d) w (by omega) (by omega) hr.1 (by omega)
  rw [gcd_rest n d h0]at this
  exact this
 ·rintro e w' ⟨rfl,hw⟩
  refine⟨?_,hw⟩
  have hq:n / Nat.gcd n d≤n:=Nat.div_le_self _ _
  have hdd:(d:Int) / (Nat.gcd n d:Nat)=(d / Nat.gcd n d:Nat):=by simp
  rw [hdd]
  unfold lowV lowN lowD lowE hiW loW
  generalize n / Nat.gcd n d=a at *
  generalize d / Nat.gcd n d=b at *
  by_cases c:1000000000000000<a∨1000000000<b
  ·rw [if_pos c,if_pos c,if_pos c,if_pos (by
    by_cases ha:a / 18446744073709551616=0
    ·right;omega
    ·left;simp;omega)]
  ·have ha:a / 18446744073709551616=0:=by omega
   have hb:a % 18446744073709551616=a:=by omega
   rw [if_neg c,if_neg c,if_neg c,if_neg (by rw [ha,hb];simp;omega),hb]

def mkN(n d:Int):Int:=if d=0 then 0 else lowN (decide (n<0)!=decide (d<0)) n.natAbs d.natAbs
def mkD(n d:Int):Int:=if d=0 then 0 else lowD n.natAbs d.natAbs
def mkE(n d:Int):Int:=if d=0 then 3 else lowE n.natAbs d.natAbs

theorem MakeFraction_any(n d:Int)(w:World)(h1:-9223372036854775808≤n)(h2:n≤9223372036854775807)(h3:-9223372036854775808≤d)(h4:d≤9223372036854775807) :
 Calls Tryz.prog 39 #[.int .i64 n,.int .i64 d] w fun e w'=>
  e= .returned (.tuple #[.agg #[.int .i64 (mkN n d),.int .i64 (mkD n d)],.int .i64 (mkE n d)])∧w.Grows w':=by
 by_cases c:d=0
 ·subst c
  go_enter Tryz.func39,Tryz.ntmps39
  go_wp2_with fail
  go_returns
  exact⟨rfl,.of_below belB⟩
 ·have c':(d==0)=false:=by simpa using c
  have hl:∀b,(decide (n<0)!=decide (d<0))=b→Hid (∀w,Calls Tryz.prog 92 #[.bool b,.agg #[.int .u64 0,.int .u64 (absI n)],.int .u64 (absI d)] w fun e w'=>
   e= .returned (.tuple #[.agg #[.int .i64 (mkN n d),.int .i64 (mkD n d)],.int .i64 (mkE n d)])∧w.Grows w'):=by
   intro b hb w
   have:=lowest1_any b n.natAbs d.natAbs w (by omega) (by omega) (by omega)
   rw [show hiW n.natAbs=0 by unfold hiW;omega,show loW n.natAbs=absI n by unfold loW absI;omega]at this
   unfold mkN mkD mkE
   rw [if_neg c,if_neg c,if_neg c,hb]
   exact this
  clear c
  generalize mkN n d=N at *
  generalize mkD n d=D at *
  generalize mkE n d=E at *
  by_cases c1:n<0
  ·by_cases c2:d<0
   focus
    have hn:=hl false (by simp [c1,c2])
   rotate_left
   focus
    have hn:=hl true (by simp only [c1,c2];rfl)
   rotate_left
   all_goals
    clear hl
    go_enter Tryz.func39,Tryz.ntmps39
    go_wp2_with (first|(go_at_call 93;refine(size1_any _ _ (by omega) (by omega)).mono ?_;rintro e w' ⟨rfl,rfl⟩)|(go_at_call 92;refine(hn.out _).mono ?_;rintro e w' ⟨rfl,bs,dr,rfl⟩;clear hn))
    go_returns
    exact⟨rfl,.of_below belB⟩
  ·by_cases c2:d<0
   focus
    have hn:=hl true (by simp only [c1,c2];rfl)
   rotate_left
   focus
    have hn:=hl false (by simp only [c1,c2];rfl)
   rotate_left
   all_goals
    clear hl
    go_enter Tryz.func39,Tryz.ntmps39
    go_wp2_with (first|(go_at_call 93;refine(size1_any _ _ (by omega) (by omega)).mono ?_;rintro e w' ⟨rfl,rfl⟩)|(go_at_call 92;refine(hn.out _).mono ?_;rintro e w' ⟨rfl,bs,dr,rfl⟩;clear hn))
    go_returns
    exact⟨rfl,.of_below belB⟩
end Go.Proofs.YtfoefpoaomepbaaGreatDoor
namespace Go
open Go.RowKit

def World.src(w:World)(s:Nat)(lv:Value)(p left:Int):World:={w with heap:=w.heap.setIfInBounds s (.cells #[lv,.int .i64 p,.int .i64 left] 91 (0,0))}
section
variable {w : World} {s : Nat} {lv : Value} {p left : Int}
@[go_sem,simp] theorem World.size_src(w:World)(s:Nat)(lv:Value)(p left:Int):(w.src s lv p left).heap.size=w.heap.size:=by simp [World.src]
theorem World.heap_src_same(h:s<w.heap.size):(w.src s lv p left).heap[s]? =some (.cells #[lv,.int .i64 p,.int .i64 left] 91 (0,0)):=by
 simp [World.src,h]
theorem World.heap_src_other{b:Nat}(h:b≠s):(w.src s lv p left).heap[b]? =w.heap[b]?:=by
 simp only [World.src]
 rw [Array.getElem?_setIfInBounds_ne (Ne.symm h)]
@[go_sem] theorem World.cell?_src0(h:s<w.heap.size):(w.src s lv p left).cell? ⟨s,0,none⟩=some lv:=by simp [World.cell?,World.heap_src_same h]
@[go_sem] theorem World.cell?_src1(h:s<w.heap.size):(w.src s lv p left).cell? ⟨s,1,none⟩=some (.int .i64 p):=by simp [World.cell?,World.heap_src_same h]
@[go_sem] theorem World.cell?_src2(h:s<w.heap.size):(w.src s lv p left).cell? ⟨s,2,none⟩=some (.int .i64 left):=by simp [World.cell?,World.heap_src_same h]
@[go_sem] theorem World.frozen?_src(h:s<w.heap.size)(i:Nat):(w.src s lv p left).frozen? ⟨s,i,none⟩=false:=by simp [World.frozen?,World.heap_src_same h]
@[go_sem] theorem World.cell?_src_other{b i:Nat}(h:b≠s):(w.src s lv p left).cell? ⟨b,i,none⟩=w.cell? ⟨b,i,none⟩:=World.cell?_of_block (World.heap_src_other h)
@[go_sem] theorem World.frozen?_src_other{b i:Nat}(h:b≠s):(w.src s lv p left).frozen? ⟨b,i,none⟩=w.frozen? ⟨b,i,none⟩:=World.frozen?_of_block (World.heap_src_other h)
@[go_sem,simp] theorem World.src_src(lv':Value)(p' left':Int):(w.src s lv p left).src s lv' p' left'=w.src s lv' p' left':=by simp [World.src]
@[go_sem] theorem World.src_alloc(o:Obj)(h:s<w.heap.size):(w.alloc o).src s lv p left=(w.src s lv p left).alloc o:=by
  simp only [World.src,World.alloc]
  congr 1
  apply Array.ext_getElem?
  intro k
  simp only [Array.getElem?_setIfInBounds,Array.getElem?_push,Array.size_setIfInBounds,Array.size_push]
  by_cases hk:s=k
  ·subst hk
   simp [h,Nat.ne_of_lt h,Nat.lt_succ_of_lt h]
  ·simp [hk]
@[go_sem] theorem World.src_grow(bs:Array Obj)(d:Nat)(h:s<w.heap.size):(w.grow bs d).src s lv p left=(w.src s lv p left).grow bs d:=by
  simp only [World.src,World.grow]
  congr 1
  exact Array.setIfInBounds_append_left h
@[go_sem,simp] theorem World.src_drewN(n:Nat):(w.drewN n).src s lv p left=(w.src s lv p left).drewN n:=rfl
@[go_sem,simp] theorem World.src_drew:w.drew.src s lv p left=(w.src s lv p left).drew:=rfl
@[go_sem] theorem World.setCell_src1(h:s<w.heap.size)(v:Int):(w.src s lv p left).setCell ⟨s,1,none⟩ (.int .i64 v)=w.src s lv v left:=by
  exact fz44
@[go_sem] theorem World.setCell_src2(h:s<w.heap.size)(v:Int):(w.src s lv p left).setCell ⟨s,2,none⟩ (.int .i64 v)=w.src s lv p v:=by
  exact fz44
@[go_sem] theorem World.setCell_drewN(w:World)(n:Nat)(a:Addr)(v:Value):(w.drewN n).setCell a v=(w.setCell a v).drewN n:=rfl
theorem World.src_new(w:World)(lv:Value)(p left:Int):(w.alloc (.cells #[lv,.int .i64 p,.int .i64 left] 91)).src w.heap.size lv p left=w.alloc (.cells #[lv,.int .i64 p,.int .i64 left] 91):=by
 simp only [World.src,World.alloc]
 congr 1
 apply Array.ext_getElem?
 intro k
 simp only [Array.getElem?_setIfInBounds,Array.getElem?_push,Array.size_push]
 by_cases hk:w.heap.size=k
 ·subst hk;simp
 ·simp [hk]

def IntsAt(w:World)(v:Value)(zs:List Int):Prop:=
 zs.length≤140737488355328∧(∀z∈zs,-9223372036854775808≤z∧z≤9223372036854775807)∧
 ∃a cap,v= .slice a zs.length cap∧(zs.length=0∨∃b off,a=some ⟨b,off,none⟩∧b<w.heap.size∧∀i,i<zs.length→w.cell? ⟨b,off+i,none⟩=some (.int .i64 (zs.getD i 0)))
theorem IntsAt.grow{v:Value}{zs:List Int}(h:IntsAt w v zs)(bs:Array Obj)(d:Nat):IntsAt (w.grow bs d) v zs:=by
 obtain⟨h0,hr,a,cap,hv,h1⟩:=h
 refine⟨h0,hr,a,cap,hv,h1.imp id ?_⟩
 rintro⟨b,off,ha,hb,hc⟩
 refine⟨b,off,ha,by simp;omega,fun i hi=>?_⟩
 rw [World.cell?_grow _ _ _ hb]
 exact hc i hi
end
end Go
namespace Go.Proofs.YtfoefpoaomepbaaGreatDoor
open Go.RowKit

theorem next_out(s:Nat)(p len cap:Nat)(a:Option Addr)(left k:Int)(Y:World)(hs:s<Y.heap.size)(hp:len≤p)(hpm:p≤4611686018427387904)(hk:k≤4611686018427387904) :
 Calls Tryz.prog 74 #[.pointer (some ⟨s,0,none⟩),.int .i64 k] (Y.src s (.slice a len cap) p left) fun e w'=>e= .returned (.int .i64 (pick 0 k))∧∃n,w'=(Y.src s (.slice a len cap) (p+1) left).drewN n:=by
 have d1:decide ((p:Int)<(len:Int))=false:=by simp;omega
 go_enter Tryz.func74,Tryz.ntmps74
 go_wp2_with fail
 go_quiet (fail)
 skip
 go_wp2_with (first|(go_at_call 10;refine(Pick_any _ _ _ (by omega)).mono ?_;rintro e w' ⟨rfl,rfl⟩))
 go_returns
 exact⟨rfl,_,rfl⟩

theorem next_in(s:Nat)(p len cap b off:Nat)(left k z:Int)(Y:World)(hs:s<Y.heap.size)(hp:p<len)(hlen:len≤140737488355328)(hk:k≤4611686018427387904)(hbs:b≠s)(hz:Y.cell? ⟨b,off+p,none⟩=some (.int .i64 z)) :
 Calls Tryz.prog 74 #[.pointer (some ⟨s,0,none⟩),.int .i64 k] (Y.src s (.slice (some ⟨b,off,none⟩) len cap) p left) fun e w'=>e= .returned (.int .i64 (pick z k))∧∃n,w'=(Y.src s (.slice (some ⟨b,off,none⟩) len cap) (p+1) left).drewN n:=by
 have d1:(p:Int)<(len:Int):=by omega
 have d0:(0:Int)≤(p:Int):=by omega
 go_enter Tryz.func74,Tryz.ntmps74
 go_wp2_with fail
 go_quiet (fail)
 (go_wp2_with fail;go_quiet (fail))
 go_wp2_with (first|(go_at_call 10;refine(Pick_any _ _ _ (by omega)).mono ?_;rintro e w' ⟨rfl,rfl⟩))
 go_returns
 exact⟨rfl,_,rfl⟩

def ListAt(w:World)(s:Nat)(lv:Value)(zs:List Int):Prop:=
 zs.length≤140737488355328∧
 ∃a cap,lv= .slice a zs.length cap∧(zs.length=0∨∃b off,a=some ⟨b,off,none⟩∧b<w.heap.size∧b≠s∧∀i,i<zs.length→w.cell? ⟨b,off+i,none⟩=some (.int .i64 (zs.getD i 0)))

def nextV(zs:List Int)(p:Nat)(k:Int):Int:=pick (zs.getD p 0) k

theorem next_any(s:Nat)(lv:Value)(zs:List Int)(p:Nat)(P left k:Int)(X:World)(hP:P=p)(hs:s<X.heap.size)(hX:X.src s lv P left=X)(hl:ListAt X s lv zs)(hp:p≤4611686018427387904)(hk:k≤4611686018427387904) :
 Calls Tryz.prog 74 #[.pointer (some ⟨s,0,none⟩),.int .i64 k] X fun e w'=>e= .returned (.int .i64 (nextV zs p k))∧∃n,w'=(X.src s lv (P+1) left).drewN n:=by
 subst hP
 obtain⟨hlen,a,cap,rfl,hc⟩:=hl
 by_cases h:p<zs.length
 ·rcases hc with h0|⟨b,off,rfl,hb,hbs,hc⟩
  ·omega
  ·have:=next_in s p zs.length cap b off left k (zs.getD p 0) X hs h hlen hk hbs (hc p h)
   rw [hX]at this
   exact this
 ·have:=next_out s p zs.length cap a left k X hs (by omega) hp hk
  rw [hX]at this
  rw [nextV,List.getD_eq_getElem?_getD,List.getElem?_eq_none (by omega)]
  exact this

theorem ListAt.of_cells{w w':World}{s:Nat}{lv:Value}{zs:List Int}(h:ListAt w s lv zs)(hsz:w.heap.size≤w'.heap.size)(hc:∀b o,b<w.heap.size→b≠s→w'.cell? ⟨b,o,none⟩=w.cell? ⟨b,o,none⟩):ListAt w' s lv zs:=by
 obtain⟨h0,a,cap,hv,h1⟩:=h
 refine⟨h0,a,cap,hv,h1.imp id ?_⟩
 rintro⟨b,off,ha,hb,hbs,hcc⟩
 exact⟨b,off,ha,by omega,hbs,fun i hi=>by rw [hc b _ hb hbs];exact hcc i hi⟩
theorem ListAt.grow{w:World}{s:Nat}{lv:Value}{zs:List Int}(h:ListAt w s lv zs)(bs:Array Obj)(d:Nat):ListAt (w.grow bs d) s lv zs:=
 h.of_cells (by simp) fun b o hb _=>World.cell?_grow _ _ _ hb
theorem ListAt.alloc{w:World}{s:Nat}{lv:Value}{zs:List Int}(h:ListAt w s lv zs)(o:Obj):ListAt (w.alloc o) s lv zs:=
 h.of_cells (by simp) fun b i hb _=>World.cell?_alloc_lt w o ⟨b,i,none⟩ hb
theorem ListAt.drewN{w:World}{s:Nat}{lv:Value}{zs:List Int}(h:ListAt w s lv zs)(n:Nat):ListAt (w.drewN n) s lv zs:=
 h.of_cells (Nat.le_refl _) fun _ _ _ _=>rfl
theorem ListAt.src{w:World}{s:Nat}{lv:Value}{zs:List Int}(h:ListAt w s lv zs)(lv':Value)(p left:Int):ListAt (w.src s lv' p left) s lv zs:=
 h.of_cells (by simp) fun _ _ _ hbs=>World.cell?_src_other hbs

def denOf(i:Int):Int:=if i<3 then 1 else if i=3 then 10 else if i=4 then 4 else if i=5 then 1000 else 10000
def numN(zs:List Int)(p:Nat):Int:=mkN (nextV zs p 4000) (denOf (nextV zs (p+1) 7))
def numD(zs:List Int)(p:Nat):Int:=mkD (nextV zs p 4000) (denOf (nextV zs (p+1) 7))
theorem nextV_bd(zs:List Int)(p:Nat)(k:Int)(hk:1≤k):0≤nextV zs p k∧nextV zs p k<k:=pick_bd _ _ hk

theorem number_any(s:Nat)(lv:Value)(zs:List Int)(p:Nat)(P left:Int)(X:World)(hP:P=p)(hs:s<X.heap.size)(hX:X.src s lv P left=X)(hl:Hid (ListAt X s lv zs))(hp:p≤4611686018427387000) :
 Calls Tryz.prog 79 #[.pointer (some ⟨s,0,none⟩)] X fun e w'=>e= .returned (.agg #[.int .i64 (numN zs p),.int .i64 (numD zs p)])∧(X.src s lv (P+2) left).Grows w':=by
 subst hP
 rw [←hX]
 clear hX
 unfold numN numD
 have b1:=nextV_bd zs p 4000 (by omega)
 have b2:=nextV_bd zs (p+1) 7 (by omega)
 generalize hV:nextV zs (p+1) 7=v at *
 have HV:=Lib.hid hV
 clear hV
 generalize hU:nextV zs p 4000=u at *
 have HU:=Lib.hid hU
 clear hU
 rcases(show v=0∨v=1∨v=2∨v=3∨v=4∨v=5∨v=6 by omega)with rfl|rfl|rfl|rfl|rfl|rfl|rfl
 all_goals
  simp only [denOf,reduceIte,Int.reduceLT,Int.reduceEq]
  go_enter Tryz.func79,Tryz.ntmps79
  go_wp2_with fail
  refine(next_any s lv zs p p left _ _ rfl (by simp;omega) (by simp [go_sem,hs]) (by(repeat' (first|(with_reducible exact hl.out)|(with_reducible refine ListAt.alloc ?_ _)|(with_reducible refine ListAt.grow ?_ _ _)|(with_reducible refine ListAt.drewN ?_ _)|(with_reducible refine ListAt.src ?_ _ _ _)))) (by omega) (by omega)).mono ?_
  rintro e w' ⟨rfl,n1,rfl⟩
  rw [HU.out]
  go_wp2_with fail
  refine(next_any s lv zs (p+1) (p+1) left _ _ (by simp) (by simp;omega) (by simp [go_sem,hs]) (by(repeat' (first|(with_reducible exact hl.out)|(with_reducible refine ListAt.alloc ?_ _)|(with_reducible refine ListAt.grow ?_ _ _)|(with_reducible refine ListAt.drewN ?_ _)|(with_reducible refine ListAt.src ?_ _ _ _)))) (by omega) (by omega)).mono ?_
  rintro e w' ⟨rfl,n2,rfl⟩
  rw [HV.out]
  go_wp2_with fail
  refine(MakeFraction_any _ _ _ (by omega) (by omega) (by omega) (by omega)).mono ?_
  rintro e w' ⟨rfl,bs,dr,rfl⟩
  go_wp2_with fail
  go_returns
  rw [World.src_src,show(p:Int)+1+1=p+2 by omega]
  exact⟨rfl,.of_below belB⟩

inductive Ex where
 |mk (op num den dim:Int) (name:ByteArray) (args:List Ex)
namespace Ex
def op:Ex→Int|mk o _ _ _ _ _=>o
def num:Ex→Int|mk _ n _ _ _ _=>n
def den:Ex→Int|mk _ _ d _ _ _=>d
def dim:Ex→Int|mk _ _ _ d _ _=>d
def name:Ex→ByteArray|mk _ _ _ _ s _=>s
def args:Ex→List Ex|mk _ _ _ _ _ l=>l
instance:Inhabited Ex:=⟨mk 0 0 0 0 ByteArray.empty []⟩
def arg(e:Ex)(i:Nat):Ex:=e.args.getD i default
mutual
def size:Ex→Nat
 |mk _ _ _ _ _ l=>sizes l+1
def sizes:List Ex→Nat
 | []=>0
 |e::r=>size e+sizes r
end
mutual
def depth:Ex→Nat
 |mk _ _ _ _ _ l=>depths l+1
def depths:List Ex→Nat
 | []=>0
 |e::r=>max (depth e) (depths r)
end
theorem size_eq(e:Ex):e.size=sizes e.args+1:=by cases e;rw [size];rfl
theorem depth_eq(e:Ex):e.depth=depths e.args+1:=by cases e;rw [depth];rfl
theorem sizes_append(a b:List Ex):sizes (a++b)=sizes a+sizes b:=by
 induction a with
 |nil=>simp [sizes]
 |cons e r ih=>simp only [List.cons_append,sizes,ih];omega
theorem depths_append(a b:List Ex):depths (a++b)=max (depths a) (depths b):=by
 induction a with
 |nil=>simp [depths]
 |cons e r ih=>simp only [List.cons_append,depths,ih];omega
theorem size_pos(e:Ex):1≤e.size:=by rw [size_eq];omega
theorem size_getD(l:List Ex)(i:Nat)(h:i<l.length):(l.getD i default).size≤sizes l:=by
 induction l generalizing i with
 |nil=>simp at h
 |cons e r ih=>
  cases i with
  |zero=>simp [sizes]
  |succ i=>have:=ih i (by simpa using h);simp only [List.getD_cons_succ,sizes];omega
theorem size_arg(e:Ex)(i:Nat)(h:i<e.args.length):(e.arg i).size<e.size:=by
 have:=size_getD e.args i h
 rw [size_eq e];unfold arg;omega
theorem length_sizes(l:List Ex):l.length≤sizes l:=by
 induction l with
 |nil=>simp
 |cons e r ih=>have:=size_pos e;simp only [List.length_cons,sizes];omega
mutual
theorem depth_size:∀e:Ex,e.depth≤e.size
 |mk _ _ _ _ _ l=>by rw [depth,size];have:=depths_sizes l;omega
theorem depths_sizes:∀l:List Ex,depths l≤sizes l
 | []=>by simp [depths,sizes]
 |e::r=>by rw [depths,sizes];have:=depth_size e;have:=depths_sizes r;omega
end
theorem take_succ(l:List Ex)(k:Nat)(h:k<l.length):l.take (k+1)=l.take k++[l.getD k default]:=by
 rw [List.take_succ_eq_append_getElem h,List.getD_eq_getElem?_getD,List.getElem?_eq_getElem h];rfl
theorem sizes_take(e:Ex)(k:Nat)(h:k<e.args.length):sizes (e.args.take (k+1))=sizes (e.args.take k)+(e.arg k).size:=by
 rw [take_succ _ _ h,sizes_append];simp [sizes,arg]
theorem depths_take(e:Ex)(k:Nat)(h:k<e.args.length):depths (e.args.take (k+1))=max (depths (e.args.take k)) (e.arg k).depth:=by
 rw [take_succ _ _ h,depths_append];simp [depths,arg]
theorem sizes_take_le(e:Ex)(k:Nat):sizes (e.args.take k)≤sizes e.args:=by
 conv=>rhs;rw [←List.take_append_drop k e.args]
 rw [sizes_append];omega
end Ex

structure ExAt(w:World)(b o:Nat)(e:Ex)(v:Value):Prop where
 c0:w.cell? ⟨b,o,none⟩=some (.int .i64 e.op)
 c1:w.cell? ⟨b,o+1,none⟩=some (.int .i64 e.num)
 c2:w.cell? ⟨b,o+2,none⟩=some (.int .i64 e.den)
 c3:w.cell? ⟨b,o+3,none⟩=some (.int .i64 e.dim)
 c4:w.cell? ⟨b,o+4,none⟩=some (.string e.name)
 c5:w.cell? ⟨b,o+5,none⟩=some v

def I64(z:Int):Prop:=-9223372036854775808≤z∧z≤9223372036854775807
structure ExRng(e:Ex):Prop where
 op:I64 e.op
 num:I64 e.num
 den:I64 e.den
 dim:I64 e.dim
 len:e.args.length≤140737488355328
 name:e.name.size≤140737488355328

inductive RepE(S:Nat→Prop)(w:World):Ex→Value→Prop
 |mk (e:Ex) (a:Option Addr) (cap:Nat) (vs:Nat→Value) (hr:ExRng e)
  (hc:e.args.length=0∨∃b off,a=some ⟨b,off,none⟩∧S b∧b<w.heap.size∧∀i,i<e.args.length→ExAt w b (off+i*6) (e.arg i) (vs i))
  (hs:∀i,i<e.args.length→RepE S w (e.arg i) (vs i)):RepE S w e (.slice a e.args.length cap)

theorem ExAt.same{w w':World}{b o:Nat}{e:Ex}{v:Value}(h:ExAt w b o e v)(hw:∀o,w'.cell? ⟨b,o,none⟩=w.cell? ⟨b,o,none⟩):ExAt w' b o e v:=
 ⟨by rw [hw];exact h.c0,by rw [hw];exact h.c1,by rw [hw];exact h.c2,by rw [hw];exact h.c3,by rw [hw];exact h.c4,by rw [hw];exact h.c5⟩

theorem RepE.keep{S:Nat→Prop}{w w':World}{e:Ex}{v:Value}(h:RepE S w e v)(hsz:w.heap.size≤w'.heap.size)(hw:∀b o,S b→b<w.heap.size→w'.cell? ⟨b,o,none⟩=w.cell? ⟨b,o,none⟩):RepE S w' e v:=by
 induction h with
 |mk e a cap vs hr hc hs ih=>
  refine .mk e a cap vs hr (hc.imp id ?_) ih
  rintro⟨b,off,ha,hS,hb,hx⟩
  exact⟨b,off,ha,hS,by omega,fun i hi=>(hx i hi).same fun o=>hw b o hS hb⟩
theorem RepE.grow{S:Nat→Prop}{w:World}{e:Ex}{v:Value}(h:RepE S w e v)(bs:Array Obj)(d:Nat):RepE S (w.grow bs d) e v:=
 h.keep (by simp) fun b o _ hb=>World.cell?_grow _ _ _ hb
theorem RepE.alloc{S:Nat→Prop}{w:World}{e:Ex}{v:Value}(h:RepE S w e v)(o:Obj):RepE S (w.alloc o) e v:=
 h.keep (by simp) fun b i _ hb=>World.cell?_alloc_lt w o ⟨b,i,none⟩ hb
theorem RepE.mono{S S':Nat→Prop}{w:World}{e:Ex}{v:Value}(h:RepE S w e v)(hS:∀b,S b→S' b):RepE S' w e v:=by
 induction h with
 |mk e a cap vs hr hc hs ih=>
  refine .mk e a cap vs hr (hc.imp id ?_) ih
  rintro⟨b,off,ha,hb,hx⟩
  exact⟨b,off,ha,hS b hb,hx⟩
theorem RepE.rng{S:Nat→Prop}{w:World}{e:Ex}{v:Value}(h:RepE S w e v):ExRng e:=by cases h;assumption

abbrev exV(e:Ex)(v:Value):Value:=.agg #[.int .i64 e.op,.int .i64 e.num,.int .i64 e.den,.int .i64 e.dim,.string e.name,v]

def szT(e:Ex)(k:Nat):Int:=(1+Ex.sizes (e.args.take k):Nat)
def dpT(e:Ex)(k:Nat):Int:=(Ex.depths (e.args.take k):Nat)
theorem szT_zero(e:Ex):szT e 0=1:=by simp [szT,Ex.sizes]
theorem szT_succ(e:Ex)(k:Nat)(h:k<e.args.length):szT e (k+1)=szT e k+((e.arg k).size:Int):=by unfold szT;rw [Ex.sizes_take e k h];omega
theorem szT_bd(e:Ex)(k:Nat):1≤szT e k∧szT e k≤e.size:=by unfold szT;have:=Ex.sizes_take_le e k;rw [e.size_eq];omega
theorem szT_all(e:Ex)(k:Nat)(h:e.args.length≤k):szT e k=e.size:=by unfold szT;rw [List.take_of_length_le h,e.size_eq];omega
theorem dpT_zero(e:Ex):dpT e 0=0:=by simp [dpT,Ex.depths]
theorem dpT_succ(e:Ex)(k:Nat)(h:k<e.args.length):dpT e (k+1)=max (dpT e k) ((e.arg k).depth:Int):=by unfold dpT;rw [Ex.depths_take e k h];omega
theorem dpT_bd(e:Ex)(k:Nat):0≤dpT e k∧dpT e k≤e.size:=by
 unfold dpT
 have:=Ex.depths_sizes (e.args.take k)
 have:=Ex.sizes_take_le e k
 rw [e.size_eq];omega
theorem dpT_all(e:Ex)(k:Nat)(h:e.args.length≤k):dpT e k+1=e.depth:=by unfold dpT;rw [List.take_of_length_le h,e.depth_eq];omega

theorem Size_walk(S:Nat→Prop)(n:Nat):∀(e:Ex),e.size≤n→∀(v:Value) (w:World),RepE S w e v→Hid (e.size≤2305843009213693952)→
 Calls Tryz.prog 17 #[exV e v] w fun r w'=>r= .returned (.int .i64 (e.size:Nat))∧w.Grows w':=by
 induction n with
 |zero=>intro e he;have:=e.size_pos;omega
 |succ n ih=>
  intro e he v w h hbig
  have IH:=Lib.hid ih
  clear ih
  cases h with
  |mk _ a cap vs hr hc hs=>
   have hlen:=hr.len
   have Hs:=Lib.hid hs
   have He:=Lib.hid he
   have Hc:=Lib.hid hc
   clear hr hs he hc
   go_enter Tryz.func17,Tryz.ntmps17
   go_wp2_with fail
   go_loopw [3,4] (fun v3 v4 wr=>∃k:Nat,k≤e.args.length∧v3= .int .i64 (szT e k)∧v4= .int .i64 k∧
    World.Grows (w.alloc (.cells #[.int .i64 e.op,.int .i64 e.num,.int .i64 e.den,.int .i64 e.dim,.string e.name,.slice a e.args.length cap] 27)) wr) (fun _ v4 _=>e.args.length-(intOf v4).toNat)
   case atStart=>exact⟨0,by omega,by rw [szT_zero],rfl,.refl _⟩
   case round=>
    obtain⟨k,hk,rfl,rfl,bs,d,rfl⟩:=hrel
    have hb:=szT_bd e k
    have hb0:1≤szT e k:=hb.1
    have hb1:szT e k≤2305843009213693952:=by have:=hbig.out;omega
    clear hb
    by_cases hlt:k<e.args.length
    ·rcases Hc.out with h0|⟨b,off,rfl,hS,hbw,hx⟩
     ·omega
     ·obtain⟨x0,x1,x2,x3,x4,x5⟩:=hx k hlt
      clear hx
      have hlt1:(k:Int)<(e.args.length:Int):=by omega
      have HN:=Lib.hid (szT_succ e k hlt)
      have HA:=Lib.hid (e.size_arg k hlt)
      have hs1:((e.arg k).size:Int)≤2305843009213693952:=by have:=hbig.out;have:=HA.out;omega
      go_wp2_with fail
      refine(IH.out (e.arg k) (by have:=He.out;have:=HA.out;omega) (vs k) _ (((Hs.out k hlt).alloc _).grow _ _) (by have:=hbig.out;have:=HA.out;show _≤_;omega)).mono ?_
      rintro r w' ⟨rfl,bs2,d2,rfl⟩
      go_wp2_with fail
      go_roundw
      case rel=>exact⟨k+1,by omega,by rw [HN.out],by go_num,.of_below belB⟩
      case measure=>simp [intOf];omega
    ·have HN:=Lib.hid (szT_all e k (by omega))
     obtain rfl:k=e.args.length:=by omega
     go_wp2_with fail
     go_returns
     exact⟨ret_int HN.out,.of_below belB⟩

theorem Depth_walk(S:Nat→Prop)(n:Nat):∀(e:Ex),e.size≤n→∀(v:Value) (w:World),RepE S w e v→Hid (e.size≤2305843009213693952)→
 Calls Tryz.prog 76 #[exV e v] w fun r w'=>r= .returned (.int .i64 (e.depth:Nat))∧w.Grows w':=by
 induction n with
 |zero=>intro e he;have:=e.size_pos;omega
 |succ n ih=>
  intro e he v w h hbig
  have IH:=Lib.hid ih
  clear ih
  cases h with
  |mk _ a cap vs hr hc hs=>
   have hlen:=hr.len
   have Hs:=Lib.hid hs
   have He:=Lib.hid he
   have Hc:=Lib.hid hc
   clear hr hs he hc
   go_enter Tryz.func76,Tryz.ntmps76
   go_wp2_with fail
   go_loopw [3,4] (fun v3 v4 wr=>∃k:Nat,k≤e.args.length∧v3= .int .i64 (dpT e k)∧v4= .int .i64 k∧
    World.Grows (w.alloc (.cells #[.int .i64 e.op,.int .i64 e.num,.int .i64 e.den,.int .i64 e.dim,.string e.name,.slice a e.args.length cap] 27)) wr) (fun _ v4 _=>e.args.length-(intOf v4).toNat)
   case atStart=>exact⟨0,by omega,by rw [dpT_zero],rfl,.refl _⟩
   case round=>
    obtain⟨k,hk,rfl,rfl,bs,d,rfl⟩:=hrel
    have hb:=dpT_bd e k
    have hb0:0≤dpT e k:=hb.1
    have hb1:dpT e k≤2305843009213693952:=by have:=hbig.out;omega
    clear hb
    by_cases hlt:k<e.args.length
    ·rcases Hc.out with h0|⟨b,off,rfl,hS,hbw,hx⟩
     ·omega
     ·obtain⟨x0,x1,x2,x3,x4,x5⟩:=hx k hlt
      clear hx
      have hlt1:(k:Int)<(e.args.length:Int):=by omega
      have HN:=Lib.hid (dpT_succ e k hlt)
      have HA:=Lib.hid (e.size_arg k hlt)
      have hs1:((e.arg k).depth:Int)≤2305843009213693952:=by have:=hbig.out;have:=HA.out;have:=(e.arg k).depth_size;omega
      go_wp2_with fail
      refine(IH.out (e.arg k) (by have:=He.out;have:=HA.out;omega) (vs k) _ (((Hs.out k hlt).alloc _).grow _ _) (by have:=hbig.out;have:=HA.out;show _≤_;omega)).mono ?_
      rintro r w' ⟨rfl,bs2,d2,rfl⟩
      go_wp2_with fail
      go_roundw
      case rel=>exact⟨k+1,by omega,by rw [HN.out],by go_num,.of_below belB⟩
      case measure=>simp [intOf];omega
    ·have HN:=Lib.hid (dpT_all e k (by omega))
     obtain rfl:k=e.args.length:=by omega
     go_wp2_with fail
     go_returns
     exact⟨ret_int HN.out,.of_below belB⟩
end Go.Proofs.YtfoefpoaomepbaaGreatDoor
namespace Go.Proofs.YtfoefpoaomepbaaGreatDoor
open Go.RowKit

def lowc(c:Int):Bool:=decide (97≤c)&&decide (c≤122)
def digc(c:Int):Bool:=decide (48≤c)&&decide (c≤57)

theorem letter1_any(c:Int)(w:World):Calls Tryz.prog 108 #[.int .u8 c] w fun e w'=>e= .returned (.bool (lowc c))∧w=w':=by
 by_cases c1:97≤c
 ·by_cases c2:c≤122
  ·go_enter Tryz.func108,Tryz.ntmps108
   go_wp2
   go_returns
   exact⟨ret_bool (by simp [lowc,c1,c2]),rfl⟩
  ·go_enter Tryz.func108,Tryz.ntmps108
   exact fz45
 ·go_enter Tryz.func108,Tryz.ntmps108
  exact fz45
theorem digit1_any(c:Int)(w:World):Calls Tryz.prog 109 #[.int .u8 c] w fun e w'=>e= .returned (.bool (digc c))∧w=w':=by
 by_cases c1:48≤c
 ·by_cases c2:c≤57
  ·go_enter Tryz.func109,Tryz.ntmps109
   go_wp2
   go_returns
   exact⟨ret_bool (by simp [digc,c1,c2]),rfl⟩
  ·go_enter Tryz.func109,Tryz.ntmps109
   exact fz46
 ·go_enter Tryz.func109,Tryz.ntmps109
  exact fz46
def argsN(op:Int):Int:=if 1≤op∧op≤3 then 0 else if 4≤op∧op≤6 then 1 else if 7≤op∧op≤20 then 2 else if op=21 then 3 else -1
theorem Args_any(op:Int)(w:World):Calls Tryz.prog 59 #[.int .i64 op] w fun e w'=>e= .returned (.int .i64 (argsN op))∧w=w':=by
 by_cases c1:op<1
 ·exact fz26
 ·by_cases c2:op≤3
  ·exact fz26
  ·by_cases c3:op≤6
   ·exact fz26
   ·by_cases c4:op≤20
    ·exact fz26
    ·by_cases c5:op=21
     ·subst c5
      go_enter Tryz.func59,Tryz.ntmps59
      go_wp2
      go_returns
      exact⟨ret_int (by simp [argsN]),rfl⟩
     ·exact fz26
def byt(s:ByteArray)(i:Nat):Int:=if h:i<s.size then(s[i].toNat:Int)else 0
theorem byt_eq(s:ByteArray)(i:Nat)(h:i<s.size):byt s i=(s[i].toNat:Int):=by simp [byt,h]
def wordC(i:Nat)(c:Int):Bool:=lowc c || (i !=0&&(digc c || decide (c=95)))
def isWord(s:ByteArray):Bool:=decide (∀i,i<s.size→wordC i (byt s i)=true)&&decide (1≤s.size)&&decide (s.size≤12)
theorem isWord_no(s:ByteArray)(k:Nat)(h:k<s.size)(hc:wordC k (s[k].toNat:Int)=false):isWord s=false:=by
 have:¬∀i,i<s.size→wordC i (byt s i)=true:=fun f=>by have:=f k h;rw [byt_eq s k h,hc]at this;cases this
 simp only [isWord,decide_eq_false this,Bool.false_and]
theorem isWord_all(s:ByteArray)(h:∀i,i<s.size→wordC i (byt s i)=true):isWord s=(decide (1≤s.size)&&decide (s.size≤12)):=by
 simp only [isWord,decide_eq_true h,Bool.true_and]
theorem IsWord_any(s:ByteArray)(w:World)(hs:s.size≤maxLen):Calls Tryz.prog 51 #[.string s] w fun e w'=>e= .returned (.bool (isWord s))∧w=w':=by
 unfold maxLen at hs
 go_enter Tryz.func51,Tryz.ntmps51
 go_wp2
 go_loop [3] (fun i=>∃k:Nat,k≤s.size∧i= .int .i64 k∧∀j,j<k→wordC j (byt s j)=true) (fun i=>s.size-(intOf i).toNat)
 case atStart=>exact⟨0,Nat.zero_le _,rfl,fun j hj=>absurd hj (Nat.not_lt_zero _)⟩
 case round=>
  obtain⟨k,hk,rfl,hall⟩:=hrel
  by_cases hk2:k<s.size
  ·cases hL:lowc (s[k].toNat:Int)
   ·by_cases h0:k=0
    ·subst h0
     go_wp2_with ((go_at_call 108;(with_reducible refine(letter1_any _ _).mono ?_);rintro e w' ⟨rfl,rfl⟩;simp only [hL]))
     go_ret
     exact⟨ret_bool (isWord_no s 0 hk2 (by simp [wordC,hL])).symm,rfl⟩
    ·cases hD:digc (s[k].toNat:Int)
     ·by_cases hU:(s[k].toNat:Int)=95
      ·go_wp2_with (first|((go_at_call 108;(with_reducible refine(letter1_any _ _).mono ?_);rintro e w' ⟨rfl,rfl⟩;simp only [hL]))|((go_at_call 109;(with_reducible refine(digit1_any _ _).mono ?_);rintro e w' ⟨rfl,rfl⟩;simp only [hD])))
       go_round
       case rel=>exact⟨k+1,by omega,by go_num,fun i hi=>by
        by_cases e:i=k
        ·subst e;rw [byt_eq s i hk2];simp [wordC,hL,hD,hU,h0]
        ·exact hall i (by omega)⟩
       case measure=>simp [intOf];omega
      ·go_wp2_with (first|((go_at_call 108;(with_reducible refine(letter1_any _ _).mono ?_);rintro e w' ⟨rfl,rfl⟩;simp only [hL]))|((go_at_call 109;(with_reducible refine(digit1_any _ _).mono ?_);rintro e w' ⟨rfl,rfl⟩;simp only [hD])))
       all_goals first
        |(go_ret
          exact⟨ret_bool (isWord_no s k hk2 (by simp [wordC,hL,hD,hU])).symm,rfl⟩)
        |(exfalso;simp_all)
     ·go_wp2_with (first|((go_at_call 108;(with_reducible refine(letter1_any _ _).mono ?_);rintro e w' ⟨rfl,rfl⟩;simp only [hL]))|((go_at_call 109;(with_reducible refine(digit1_any _ _).mono ?_);rintro e w' ⟨rfl,rfl⟩;simp only [hD])))
      go_round
      case rel=>exact⟨k+1,by omega,by go_num,fun i hi=>by
       by_cases e:i=k
       ·subst e;rw [byt_eq s i hk2];simp [wordC,hL,hD,h0]
       ·exact hall i (by omega)⟩
      case measure=>simp [intOf];omega
   ·go_wp2_with ((go_at_call 108;(with_reducible refine(letter1_any _ _).mono ?_);rintro e w' ⟨rfl,rfl⟩;simp only [hL]))
    go_round
    case rel=>exact⟨k+1,by omega,by go_num,fun i hi=>by
     by_cases e:i=k
     ·subst e;rw [byt_eq s i hk2];simp [wordC,hL]
     ·exact hall i (by omega)⟩
    case measure=>simp [intOf];omega
  ·have:k=s.size:=by omega
   subst this
   by_cases h1:1≤s.size
   ·go_wp2
    go_ret
    exact⟨ret_bool (by rw [isWord_all s hall];simp [h1];omega),rfl⟩
   ·go_wp2
    go_ret
    exact⟨ret_bool (by rw [isWord_all s hall];simp [h1]),rfl⟩
def keyL:List (List UInt8):=[[97,110,100],[98,101,115,116],[98,121],[99,114,101,100,105,116],[99,117,114,114,101,110,99,121],[101,108,115,101],[102,108,111,111,114],[102,114,111,109],[103,114,97,110,116],[105,102],[105,110,100,101,120],[108,101,116],[108,105,109,105,116],[109,97,120],[109,105,110],[110,111,116],[111,114],[112,97,121],[114,101,100,117,99,101],[114,111,117,110,100],[115,116,97,116,117,116,101],[116,104,101,110]
 ]
def keyB(s:ByteArray):Bool:=keyL.contains s.toList
theorem keyword_any(s:ByteArray)(w:World):Calls Tryz.prog 98 #[.string s] w fun e w'=>e= .returned (.bool (keyB s))∧w=w':=by
 go_enter Tryz.func98,Tryz.ntmps98
 exact fz66
def nameB(s:ByteArray):Bool:=isWord s&&!keyB s
theorem IsName_any(s:ByteArray)(w:World)(hs:s.size≤maxLen):Calls Tryz.prog 44 #[.string s] w fun e w'=>e= .returned (.bool (nameB s))∧w=w':=by
 cases hW:isWord s<;>
 ·go_enter Tryz.func44,Tryz.ntmps44
  go_wp2_with (first|(go_at_call 51;(with_reducible refine(IsWord_any _ _ (by assumption)).mono ?_);rintro e w' ⟨rfl,rfl⟩;simp only [hW])|(go_at_call 98;(with_reducible refine(keyword_any _ _).mono ?_);rintro e w' ⟨rfl,rfl⟩))
  go_returns
  exact⟨ret_bool (by simp [nameB,hW]),rfl⟩

instance:Inhabited ByteArray:=⟨ByteArray.empty⟩
def inpN:List (ByteArray × Int):=[(⟨#[97,103,101]⟩,2),(⟨#[121,101,97,114]⟩,2),(⟨#[99,104,105,108,100,114,101,110]⟩,2),(⟨#[105,110,115,117,114,101,100]⟩,3),(⟨#[119,111,114,107,101,100]⟩,3),(⟨#[118,111,108,117,110,116,97,114,121]⟩,3),(⟨#[115,101,114,118,105,99,101]⟩,3),(⟨#[101,113,117,97,116,101,100]⟩,3),(⟨#[114,97,105,115,105,110,103]⟩,3),(⟨#[114,101,115,105,100,101,110,116]⟩,3),(⟨#[98,97,115,101]⟩,4)]
def namesOf(l:List (ByteArray × Int))(dim:Int):List ByteArray:=(l.filter (fun b=>decide (b.2=dim))).map (·.1)
theorem namesOf_append(a b:List (ByteArray × Int))(dim:Int):namesOf (a++b) dim=namesOf a dim++namesOf b dim:=by simp [namesOf]
theorem namesOf_le(l:List (ByteArray × Int))(dim:Int):(namesOf l dim).length≤l.length:=by
 unfold namesOf;rw [List.length_map];exact List.length_filter_le _ _
def allNames(env:List (ByteArray × Int))(dim:Int):List ByteArray:=namesOf inpN dim++namesOf env dim
theorem allNames_le(env:List (ByteArray × Int))(dim:Int):(allNames env dim).length≤11+env.length:=by
 unfold allNames;rw [List.length_append]
 have:=namesOf_le inpN dim
 have:=namesOf_le env dim
 have:inpN.length=11:=rfl
 omega

def leafN(zs:List Int)(env:List (ByteArray × Int))(p:Nat)(dim:Int):Ex × Nat:=
 if nextV zs p ((allNames env dim).length+3)<(allNames env dim).length then
  (.mk 2 0 0 0 ((allNames env dim).getD (nextV zs p ((allNames env dim).length+3)).toNat ByteArray.empty) [],p+1)
 else if dim=4∧nextV zs p ((allNames env dim).length+3)=(allNames env dim).length then(.mk 3 (1+nextV zs (p+1) 5) 1 0 ByteArray.empty [],p+2)
 else(.mk 1 (numN zs (p+1)) (numD zs (p+1)) dim ByteArray.empty [],p+3)
def leafF(zs:List Int)(env:List (ByteArray × Int))(dim:Int)(p:Nat)(left:Int):Ex × Nat × Int:=
 if dim=1 then
  (.mk (11+nextV zs (p+1) 6) 0 0 0 ByteArray.empty [(leafN zs env (p+2) (2+nextV zs p 3)).1,(leafN zs env (leafN zs env (p+2) (2+nextV zs p 3)).2 (2+nextV zs p 3)).1],
   (leafN zs env (leafN zs env (p+2) (2+nextV zs p 3)).2 (2+nextV zs p 3)).2,left-3)
 else((leafN zs env p dim).1,(leafN zs env p dim).2,left-1)
theorem leafN_bd(zs:List Int)(env:List (ByteArray × Int))(p:Nat)(dim:Int):p≤(leafN zs env p dim).2∧(leafN zs env p dim).2≤p+3:=by
 unfold leafN
 split
 ·simp
 ·split<;>simp
theorem leafF_bd(zs:List Int)(env:List (ByteArray × Int))(dim:Int)(p:Nat)(left:Int) :
 p≤(leafF zs env dim p left).2.1∧(leafF zs env dim p left).2.1≤p+8∧left-3≤(leafF zs env dim p left).2.2∧(leafF zs env dim p left).2.2≤left:=by
 unfold leafF
 split
 ·have a:=leafN_bd zs env (p+2) (2+nextV zs p 3)
  have b:=leafN_bd zs env (leafN zs env (p+2) (2+nextV zs p 3)).2 (2+nextV zs p 3)
  dsimp only
  omega
 ·have a:=leafN_bd zs env p dim
  dsimp only
  omega

def prodF(zs:List Int)(p:Nat)(dim:Int):Option (Int × List Int × Nat):=
 if dim=1 then
  if nextV zs p 14<2 then some (17+nextV zs p 14,[1,1],p+1)
  else if nextV zs p 14=2 then some (5,[1],p+1)
  else if nextV zs p 14=3 then some (21,[1,1,1],p+1)
  else if nextV zs p 14≤8 then some (11+nextV zs (p+2) 6,[2+nextV zs (p+1) 3,2+nextV zs (p+1) 3],p+3)
  else none
 else if nextV zs p 14=0 then some (7,[dim,dim],p+1)
 else if nextV zs p 14=1 then some (8,[dim,dim],p+1)
 else if nextV zs p 14=2 then some (19,[dim,dim],p+1)
 else if nextV zs p 14=3 then some (20,[dim,dim],p+1)
 else if nextV zs p 14=4 then some (21,[1,dim,dim],p+1)
 else if nextV zs p 14=5 then some (4,[dim],p+1)
 else if nextV zs p 14=6 then some (6,[dim],p+1)
 else if nextV zs p 14=7 then some (9,[2,dim],p+1)
 else if nextV zs p 14=8 then some (9,[dim,2],p+1)
 else if nextV zs p 14=9 then some (10,[dim,2],p+1)
 else if nextV zs p 14=10∧dim=2 then some (10,[2+nextV zs (p+1) 3,2+nextV zs (p+1) 3],p+2)
 else none
def nodeF(E:Int→Nat→Int→Ex × Nat × Int):List Int→Nat→Int→List Ex × Nat × Int
 | [],p,left=>([],p,left)
 |d::ds,p,left=>((E d p left).1::(nodeF E ds (E d p left).2.1 (E d p left).2.2).1,(nodeF E ds (E d p left).2.1 (E d p left).2.2).2)
def exprF(zs:List Int)(env:List (ByteArray × Int)):Nat→Int→Nat→Int→Ex × Nat × Int
 |0,dim,p,left=>leafF zs env dim p left
 |n+1,dim,p,left=>
  if left≤0 then leafF zs env dim p left else
   match prodF zs p dim with
   |none=>leafF zs env dim (p+1) (left-2)
   |some (op,ds,q)=>(.mk op 0 0 0 ByteArray.empty (nodeF (exprF zs env n) ds q (left-2)).1,(nodeF (exprF zs env n) ds q (left-2)).2)
theorem nodeF_snoc(E:Int→Nat→Int→Ex × Nat × Int)(ds:List Int)(d:Int)(p:Nat)(left:Int) :
 nodeF E (ds++[d]) p left=((nodeF E ds p left).1++[(E d (nodeF E ds p left).2.1 (nodeF E ds p left).2.2).1],(E d (nodeF E ds p left).2.1 (nodeF E ds p left).2.2).2):=by
 induction ds generalizing p left with
 |nil=>rfl
 |cons c ds ih=>simp only [List.cons_append,nodeF,ih]
theorem exprF_leaf(zs:List Int)(env:List (ByteArray × Int))(n:Nat)(dim:Int)(p:Nat)(left:Int)(h:n=0∨left≤0):exprF zs env n dim p left=leafF zs env dim p left:=by
 cases n with
 |zero=>rfl
 |succ n=>rw [exprF,if_pos (by omega)]
theorem exprF_none(zs:List Int)(env:List (ByteArray × Int))(n:Nat)(dim:Int)(p:Nat)(left:Int)(h:0<left)(hp:prodF zs p dim=none):exprF zs env (n+1) dim p left=leafF zs env dim (p+1) (left-2):=by
 rw [exprF,if_neg (by omega),hp]
theorem exprF_some(zs:List Int)(env:List (ByteArray × Int))(n:Nat)(dim:Int)(p:Nat)(left:Int)(h:0<left){op:Int}{ds:List Int}{q:Nat}(hp:prodF zs p dim=some (op,ds,q)) :
 exprF zs env (n+1) dim p left=(.mk op 0 0 0 ByteArray.empty (nodeF (exprF zs env n) ds q (left-2)).1,(nodeF (exprF zs env n) ds q (left-2)).2):=by
 rw [exprF,if_neg (by omega),hp]
def prodOk(p:Nat):Option (Int × List Int × Nat)→Prop
 |none=>True
 |some t=>p≤t.2.2∧t.2.2≤p+3∧t.2.1.length≤3
theorem prodOk_ite{p:Nat}{c:Prop}[Decidable c]{a b:Option (Int × List Int × Nat)}(ha:prodOk p a)(hb:prodOk p b):prodOk p (if c then a else b):=by
 split
 ·exact ha
 ·exact hb
theorem prodF_ok(zs:List Int)(p:Nat)(dim:Int):prodOk p (prodF zs p dim):=by
 unfold prodF
 repeat' (first|refine prodOk_ite ?_ ?_)
 all_goals simp [prodOk]
theorem prodF_bd(zs:List Int)(p:Nat)(dim:Int){op:Int}{ds:List Int}{q:Nat}(h:prodF zs p dim=some (op,ds,q)):p≤q∧q≤p+3∧ds.length≤3:=by
 have:=prodF_ok zs p dim
 rw [h]at this
 exact this
def costN:Nat→Nat
 |0=>8
 |n+1=>3*costN n+3
theorem costN_8(n:Nat):8≤costN n:=by induction n with
 |zero=>exact Nat.le_refl _
 |succ n ih=>rw [costN];omega
theorem nodeF_bd(E:Int→Nat→Int→Ex × Nat × Int)(c:Nat)(hE:∀d p left,p≤(E d p left).2.1∧(E d p left).2.1≤p+c∧left-c≤(E d p left).2.2∧(E d p left).2.2≤left)(ds:List Int):∀(p:Nat) (left:Int),
 p≤(nodeF E ds p left).2.1∧(nodeF E ds p left).2.1≤p+ds.length*c∧left-(ds.length*c:Nat)≤(nodeF E ds p left).2.2∧(nodeF E ds p left).2.2≤left:=by
 induction ds with
 |nil=>intro p left;simp [nodeF]
 |cons d ds ih=>
  intro p left
  have a:=hE d p left
  have b:=ih (E d p left).2.1 (E d p left).2.2
  simp only [nodeF,List.length_cons,Nat.add_mul,Nat.one_mul]
  omega
theorem exprF_bd(zs:List Int)(env:List (ByteArray × Int))(n:Nat):∀(dim:Int) (p:Nat) (left:Int),
 p≤(exprF zs env n dim p left).2.1∧(exprF zs env n dim p left).2.1≤p+costN n∧left-costN n≤(exprF zs env n dim p left).2.2∧(exprF zs env n dim p left).2.2≤left:=by
 induction n with
 |zero=>intro dim p left;have:=leafF_bd zs env dim p left;simp only [exprF,costN];omega
 |succ n ih=>
  intro dim p left
  have h8:=costN_8 n
  rw [exprF,costN]
  split
  ·have:=leafF_bd zs env dim p left;omega
  ·cases h:prodF zs p dim with
   |none=>have:=leafF_bd zs env dim (p+1) (left-2);simp only;omega
   |some t=>
    obtain⟨op,ds,q⟩:=t
    have a:=prodF_bd zs p dim h
    have b:=nodeF_bd (exprF zs env n) (costN n) ih ds q (left-2)
    have c:ds.length*costN n≤3*costN n:=Nat.mul_le_mul_right _ a.2.2
    simp only
    omega

def cells1(e:Ex)(v:Value):List Value:=[.int .i64 e.op,.int .i64 e.num,.int .i64 e.den,.int .i64 e.dim,.string e.name,v]
def cellsL:List (Ex × Value)→List Value
 | []=>[]
 |x::r=>cells1 x.1 x.2++cellsL r
theorem cellsL_append(a b:List (Ex × Value)):cellsL (a++b)=cellsL a++cellsL b:=by
 induction a with
 |nil=>rfl
 |cons x r ih=>simp only [List.cons_append,cellsL,ih,List.append_assoc]
theorem cellsL_get(l:List (Ex × Value))(i j:Nat)(x:Ex × Value)(h:l[i]? =some x)(hj:j<6):(cellsL l)[i*6+j]? =(cells1 x.1 x.2)[j]?:=by
 induction l generalizing i with
 |nil=>simp at h
 |cons y r ih=>
  simp only [cellsL]
  cases i with
  |zero=>
   simp only [List.getElem?_cons_zero,Option.some.injEq]at h
   subst h
   rw [List.getElem?_append_left (by simp [cells1];omega)]
   congr 1;omega
  |succ i=>
   rw [List.getElem?_append_right (by simp [cells1];omega),←ih i (by simpa using h)]
   congr 1;simp [cells1];omega

theorem RepE.mono'{S S':Nat→Prop}{w:World}{e:Ex}{v:Value}(h:RepE S w e v)(hS:∀b,S b→b<w.heap.size→S' b):RepE S' w e v:=by
 induction h with
 |mk e a cap vs hr hc hs ih=>
  refine .mk e a cap vs hr (hc.imp id ?_) ih
  rintro⟨b,off,ha,hb,hlt,hx⟩
  exact⟨b,off,ha,hS b hb hlt,hlt,hx⟩
theorem RepE.nil{S:Nat→Prop}{w:World}{e:Ex}(hr:ExRng e)(h:e.args= []):RepE S w e (.slice none 0 0):=by
 have:=RepE.mk (S:=S) (w:=w) e none 0 (fun _=>.slice none 0 0) hr (.inl (by simp [h])) (fun i hi=>by simp [h]at hi)
 simpa [h]using this

structure RowE(base:Nat)(w:World)(v:Value)(l:List (Ex × Value)):Prop where
 own:w.ownsRow base 27 6 v l.length (cellsL l)
 rep:∀x∈l,RepE (fun b=>base≤b∧v.ownBlock≠some b) w x.1 x.2
theorem RowE.nil(base:Nat)(w:World):RowE base w (.slice none 0 0) []:=⟨World.ownsRow_nil _ _ _ _,fun _ h=>by cases h⟩
theorem ownsRow_keep{w w':World}{base:Nat}{e:TypeId}{size:Nat}{v:Value}{n:Nat}{xs:List Value}(h:w.ownsRow base e size v n xs)(hw:∀k,base≤k→k<w.heap.size→w'.heap[k]? =w.heap[k]?):w'.ownsRow base e size v n xs:=by
 obtain⟨h1,h2⟩:=h
 refine⟨h1,h2.imp id ?_⟩
 rintro⟨g,cap,cur,hv,hb,hg,r⟩
 have hlt:g<w.heap.size:=(Array.getElem?_eq_some_iff.1 hg).1
 exact⟨g,cap,cur,hv,hb,by rw [hw g hb hlt];exact hg,r⟩
theorem RowE.keep{base:Nat}{w w':World}{v:Value}{l:List (Ex × Value)}(h:RowE base w v l)(hsz:w.heap.size≤w'.heap.size)(hw:∀k,base≤k→k<w.heap.size→w'.heap[k]? =w.heap[k]?):RowE base w' v l:=
 ⟨ownsRow_keep h.own hw,fun x hx=>(h.rep x hx).keep hsz fun b o hb hlt=>World.cell?_of_block (hw b hb.1 hlt)⟩
theorem RowE.lt{base:Nat}{w:World}{v:Value}{l:List (Ex × Value)}(h:RowE base w v l):∀k,v.ownBlock=some k→base≤k∧k<w.heap.size:=h.own.lt
theorem RowE.push{base m:Nat}{w w':World}{v:Value}{l:List (Ex × Value)}{e:Ex}{ve:Value}{g cap H n:Nat}{xs:List Value}(h:RowE base w v l)(he:RepE (fun b=>m≤b) w e ve)(hm:base≤m)(hv:∀k,v.ownBlock=some k→k<m)
 (hn:n=l.length+1) (hxs:xs=cellsL l++cells1 e ve)
 (ho:w'.ownsRow base 27 6 (.slice (some ⟨g,0,none⟩) n cap) n xs) (hg:w.grownBy w' v.ownBlock) (hat:v.ownBlock=some g∨g=H) (hH:w.heap.size=H) :
 RowE base w' (.slice (some ⟨g,0,none⟩) n cap) (l++[(e,ve)]):=by
 subst hH hn hxs
 refine⟨by rw [List.length_append,cellsL_append];simpa [cellsL]using ho, ?_⟩
 have key:∀(e':Ex) (u:Value),RepE (fun b=>base≤b∧v.ownBlock≠some b) w e' u→RepE (fun b=>base≤b∧(Value.slice (some ⟨g,0,none⟩) (l.length+1) cap).ownBlock≠some b) w' e' u:=by
  exact fz25
 intro x hx
 rw [List.mem_append]at hx
 rcases hx with hx|hx
 ·exact key _ _ (h.rep x hx)
 ·obtain rfl:x=(e,ve):=by simpa using hx
  exact key _ _ (he.mono fun b hb=>⟨by omega,fun e=>by have:=hv b e;omega⟩)
theorem addr_add(g i:Nat):(⟨g,0,none⟩:Addr).add i=⟨g,i,none⟩:=by unfold Addr.add;split<;>simp_all
theorem RowE.repE{base:Nat}{w:World}{v:Value}{l:List (Ex × Value)}{e:Ex}(h:RowE base w v l)(hr:ExRng e)(he:e.args=l.map (·.1)):RepE (fun b=>base≤b) w e v:=by
 have hlen:e.args.length=l.length:=by rw [he,List.length_map]
 have hget:∀i,i<l.length→l[i]? =some (e.arg i,(l.getD i default).2):=by
  intro i hi
  have h1:e.arg i=(l.getD i default).1:=by
   unfold Ex.arg
   rw [he,List.getD_eq_getElem?_getD,List.getElem?_map,List.getD_eq_getElem?_getD,List.getElem?_eq_getElem hi];rfl
  rw [h1,List.getElem?_eq_getElem hi,List.getD_eq_getElem?_getD,List.getElem?_eq_getElem hi];rfl
 have hrep:∀i,i<l.length→RepE (fun b=>base≤b) w (e.arg i) (l.getD i default).2:=fun i hi=>
  (h.rep _ (List.mem_of_getElem? (hget i hi))).mono fun b hb=>hb.1
 rcases h.own.2 with ⟨rfl,h0⟩|⟨g,cap,cur,rfl,hb,hg,_⟩
 ·have:=RepE.mk (S:=fun b=>base≤b) (w:=w) e none 0 (fun i=>(l.getD i default).2) hr (.inl (by omega)) (fun i hi=>hrep i (by omega))
  rw [hlen,h0]at this;exact this
 ·have hlt:g<w.heap.size:=(Array.getElem?_eq_some_iff.1 hg).1
  have hcell:∀i,i<l.length→∀j u,j<6→(cells1 (e.arg i) (l.getD i default).2)[j]? =some u→w.cell? ⟨g,i*6+j,none⟩=some u:=by
   intro i hi j u hj hu
   have:=World.ownsRow.cells (g:=g) h.own rfl (i*6+j) u (by rw [cellsL_get l i j _ (hget i hi) hj];exact hu)
   rw [addr_add]at this;exact this
  have:=RepE.mk (S:=fun b=>base≤b) (w:=w) e (some ⟨g,0,none⟩) cap (fun i=>(l.getD i default).2) hr (.inr ⟨g,0,rfl,hb,hlt,fun i hi=>by
   have hi':i<l.length:=by omega
   have e0:∀j,0+i*6+j=i*6+j:=fun j=>by omega
   exact⟨by rw [show 0+i*6=i*6+0 by omega];exact hcell i hi' 0 _ (by omega) rfl,by rw [e0];exact hcell i hi' 1 _ (by omega) rfl,by rw [e0];exact hcell i hi' 2 _ (by omega) rfl,
    by rw [e0];exact hcell i hi' 3 _ (by omega) rfl,by rw [e0];exact hcell i hi' 4 _ (by omega) rfl,by rw [e0];exact hcell i hi' 5 _ (by omega) rfl⟩⟩) (fun i hi=>hrep i (by omega))
  rw [hlen]at this;exact this
structure Next(g:Nat)(a b:World):Prop where
 size:a.heap.size≤b.heap.size
 blk:∀k,k<a.heap.size→k≠g→b.heap[k]? =a.heap[k]?
section
variable {g : Nat} {a b c : World}
theorem Next.refl(g:Nat)(a:World):Next g a a:=⟨Nat.le_refl _,fun _ _ _=>rfl⟩
theorem Next.alloc(h:Next g a b)(o:Obj):Next g a (b.alloc o):=⟨by have:=h.size;simp;omega,fun k hk hg=>(Below.heap_alloc b o k (Nat.lt_of_lt_of_le hk h.size)).trans (h.blk k hk hg)⟩
theorem Next.grow(h:Next g a b)(bs:Array Obj)(d:Nat):Next g a (b.grow bs d):=⟨by have:=h.size;simp;omega,fun k hk hg=>(World.heap_grow _ _ _ (Nat.lt_of_lt_of_le hk h.size)).trans (h.blk k hk hg)⟩
theorem Next.drewN(h:Next g a b)(n:Nat):Next g a (b.drewN n):=⟨h.size,h.blk⟩
theorem Next.drew(h:Next g a b):Next g a b.drew:=⟨h.size,h.blk⟩
theorem Next.grown{row:Option Nat}(h:Next g a b)(hg:b.grownBy c row)(hr:∀k,row=some k→a.heap.size≤k):Next g a c:=
 ⟨Nat.le_trans h.size hg.size,fun k hk hgk=>(hg.block k (Nat.lt_of_lt_of_le hk h.size) fun e=>by have:=hr k e.symm;omega).trans (h.blk k hk hgk)⟩
theorem Next.store(h:Next g a b)(i:Nat)(v:Value):Next g a (b.setCell ⟨g,i,none⟩ v):=⟨by have:=h.size;simp;omega,fun k hk hgk=>(Below.heap_setCell _ _ _ _ hgk).trans (h.blk k hk hgk)⟩
end
def setAll(cs:Array Value)(o:Nat):List Value→Array Value
 | []=>cs
 |v::vs=>setAll (cs.setIfInBounds o v) (o+1) vs
theorem block_setCells{b:Nat}{t:TypeId}:∀(vs:List Value) (o:Nat) (w:World) (cs:Array Value),w.heap[b]? =some (.cells cs t (0,0))→(w.setCells b o vs).heap[b]? =some (.cells (setAll cs o vs) t (0,0))
 | [],_,_,_,h=>h
 |v::vs,o,_,_,h=>block_setCells vs (o+1) _ _ (Joins.block_setCell h v)
theorem below_setCells{b B:Nat}{w0:World}(hb:B≤b):∀(vs:List Value) (o:Nat) (w:World),Below B w0 w→Below B w0 (w.setCells b o vs)
 | [],_,_,h=>h
 |v::vs,o,_,h=>below_setCells hb vs (o+1) _ (h.setCell hb v)
theorem next_setCells{b:Nat}{w0:World}:∀(vs:List Value) (o:Nat) (w:World),Next b w0 w→Next b w0 (w.setCells b o vs)
 | [],_,_,h=>h
 |v::vs,o,_,h=>next_setCells vs (o+1) _ (h.store o v)
theorem heap_new(w:World)(o:Obj)(H:Nat)(hH:w.heap.size=H):(w.alloc o).heap[H]? =some o:=by subst hH;exact heap_alloc_new w o
theorem heap_alloc_if(w:World)(o:Obj)(k:Nat):(w.alloc o).heap[k]? =if k=w.heap.size then some o else w.heap[k]?:=by
 split
 ·rename_i h;subst h;exact heap_alloc_new w o
 ·rename_i h
  show(w.heap.push o)[k]? =_
  rw [Array.getElem?_push,if_neg h]
theorem news_cells(w:World)(cs:List Value)(t:TypeId)(H:Nat)(hH:w.heap.size=H):∀(j:Nat) (v:Value),cs[j]? =some v→(w.alloc (.cells cs.toArray t)).cell? ((⟨H,0,none⟩:Addr).add j)=some v:=by
 subst hH
 intro j v hj
 rw [addr_add,World.cell?_alloc_at _ _ _ _ rfl];simpa using hj

def inpD(l:List UInt8):Int:=
 if l= [97,103,101]∨l= [121,101,97,114]∨l= [99,104,105,108,100,114,101,110]then 2
 else if l= [105,110,115,117,114,101,100]∨l= [119,111,114,107,101,100]∨l= [118,111,108,117,110,116,97,114,121]∨l= [115,101,114,118,105,99,101]∨l= [101,113,117,97,116,101,100]∨l= [114,97,105,115,105,110,103]∨l= [114,101,115,105,100,101,110,116]then 3
 else if l= [98,97,115,101]then 4 else 0
theorem ret_dimok{a b:Int}{p q:Bool}(h:a=b)(g:p=q):Ending.returned (.tuple #[.int .i64 a,.bool p])= .returned (.tuple #[.int .i64 b,.bool q]):=by rw [h,g]
theorem Input5_any(s:ByteArray)(w:World):Calls Tryz.prog 43 #[.string s] w fun e w'=>e= .returned (.tuple #[.int .i64 (inpD s.toList),.bool (decide (inpD s.toList≠0))])∧w=w':=by
 go_enter Tryz.func43,Tryz.ntmps43
 exact fz56
def inpA:Array Value:=#[.string ⟨#[97,103,101]⟩,.string ⟨#[121,101,97,114]⟩,.string ⟨#[99,104,105,108,100,114,101,110]⟩,.string ⟨#[105,110,115,117,114,101,100]⟩,.string ⟨#[119,111,114,107,101,100]⟩,.string ⟨#[118,111,108,117,110,116,97,114,121]⟩,.string ⟨#[115,101,114,118,105,99,101]⟩,.string ⟨#[101,113,117,97,116,101,100]⟩,.string ⟨#[114,97,105,115,105,110,103]⟩,.string ⟨#[114,101,115,105,100,101,110,116]⟩,.string ⟨#[98,97,115,101]⟩]
def inpNm(k:Nat):ByteArray:=(inpN.getD k (ByteArray.empty,0)).1
theorem inpA_get(k:Nat)(h:k<11):inpA[k]? =some (.string (inpNm k)):=by
 obtain rfl|rfl|rfl|rfl|rfl|rfl|rfl|rfl|rfl|rfl|rfl:k=0∨k=1∨k=2∨k=3∨k=4∨k=5∨k=6∨k=7∨k=8∨k=9∨k=10:=by omega
 all_goals rfl
theorem inpD_get(k:Nat)(h:k<11):inpD (inpNm k).toList=(inpN.getD k (ByteArray.empty,0)).2:=by
 obtain rfl|rfl|rfl|rfl|rfl|rfl|rfl|rfl|rfl|rfl|rfl:k=0∨k=1∨k=2∨k=3∨k=4∨k=5∨k=6∨k=7∨k=8∨k=9∨k=10:=by omega
 all_goals decide+kernel
theorem namesOf_take(l:List (ByteArray × Int))(k:Nat)(dim:Int)(h:k<l.length) :
 namesOf (l.take (k+1)) dim=namesOf (l.take k) dim++if(l.getD k (ByteArray.empty,0)).2=dim then [(l.getD k (ByteArray.empty,0)).1]else []:=by
 rw [List.take_succ_eq_append_getElem h,namesOf_append,List.getD_eq_getElem?_getD,List.getElem?_eq_getElem h]
 congr 1
 simp only [namesOf,Option.getD_some]
 by_cases c:l[k].2=dim<;>simp [c]
theorem Names_any(w:World):Calls Tryz.prog 56 #[] w fun e w'=>e= .returned (.slice (some ⟨w.heap.size,0,none⟩) 11 11)∧w.alloc (.cells inpA 9)=w':=by
 go_enter Tryz.func56,Tryz.ntmps56
 go_wp2
 go_returns
 exact⟨rfl,rfl⟩

theorem infoStr:(Tryz.prog.info? 9).map (fun i=>(i.zero,i.size,i.bytes))=some (some (.string ⟨#[]⟩),1,16):=by kernel_rfl
def StrRow(base:Nat)(w:World)(v:Value)(l:List ByteArray):Prop:=w.ownsRow base 9 1 v l.length (l.map Value.string)
def InpPost(dim:Int)(w:World)(e:Ending)(w':World):Prop:=∃v,e= .returned v∧StrRow w.heap.size w' v (namesOf inpN dim)∧w.Grows w'
theorem StrRow.push{base:Nat}{w:World}{v:Value}{l:List ByteArray}{s:ByteArray}{n:Nat}{xs:List Value}(h:w.ownsRow base 9 1 v n xs)(hn:n=l.length+1)(hx:xs=l.map Value.string++[.string s]):StrRow base w v (l++[s]):=by
 subst hn hx
 unfold StrRow
 simpa using h
theorem news_one(w:World)(u:Value):∀(j:Nat) (v:Value),[u][j]? =some v→(w.alloc (.cells #[u] 9)).cell? ((⟨w.heap.size,0,none⟩:Addr).add j)=some v:=by
 intro j v hj
 match j,hj with
 |0,hj=>
  simp at hj;subst hj
  rw [addr_add,World.cell?_alloc_at _ _ _ _ rfl];rfl
theorem ownsRow_base{w:World}{base base':Nat}{e:TypeId}{size:Nat}{v:Value}{n:Nat}{xs:List Value}(h:w.ownsRow base e size v n xs)(hb:base'≤base):w.ownsRow base' e size v n xs:=by
 obtain⟨h1,h2⟩:=h
 refine⟨h1,h2.imp id ?_⟩
 rintro⟨g,cap,cur,hv,hg,r⟩
 exact⟨g,cap,cur,hv,by omega,r⟩
theorem inputs_any(dim:Int)(w:World):Calls Tryz.prog 78 #[.int .i64 dim] w (InpPost dim w):=by
 obtain⟨i0,hi,hz0,hz1,hz2⟩:=info_parts infoStr
 have hN:inpN.length=11:=rfl
 go_enter Tryz.func78,Tryz.ntmps78
 go_wp2_with (go_at_call 56;refine(Names_any _).mono ?_;rintro e w' ⟨rfl,rfl⟩)
 go_loopw [4,5] (fun v4 v5 wr=>∃k:Nat,k≤11∧v5= .int .i64 k∧StrRow (w.heap.size+1) wr v4 (namesOf (inpN.take k) dim)∧Below (w.heap.size+1) (w.alloc (.cells inpA 9)) wr) (fun _ v5 _=>11-(intOf v5).toNat)
 case atStart=>exact⟨0,by omega,rfl,World.ownsRow_nil _ _ _ _,.refl _ _⟩
 case round=>
  obtain⟨k,hk,rfl,hown,hbel⟩:=hrel
  have Hown:=Lib.hid hown
  have Hbel:=Lib.hid hbel
  have hsz:w.heap.size+1≤wr.heap.size:=by have:=hbel.size;simpa using this
  clear hown
  by_cases hlt:k<11
  ·have hc:wr.cell? ⟨w.heap.size,k,none⟩=some (.string (inpNm k)):=by
    rw [hbel.cell (by simp),World.cell?_alloc_at _ _ _ _ rfl];exact inpA_get k hlt
   have hlt1:(k:Int)<11:=by omega
   have hd0:=inpD_get k hlt
   generalize hx:inpD (inpNm k).toList=x at hd0
   have HX:=Lib.hid hx
   clear hx
   have HT:=Lib.hid (namesOf_take inpN k dim (by omega))
   have HL:=Lib.hid (namesOf_le (inpN.take k) dim)
   clear hbel
   by_cases hd:x=dim
   ·have HD:=Lib.hid (hd0.symm.trans hd)
    clear hd0
    go_wp2_with (first
     |(go_at_call 43;refine(Input5_any _ _).mono ?_;rintro e w' ⟨rfl,rfl⟩;simp only [HX.out])
     |(at_builtin;refine wpList_append_own _ rfl _ _ 56 rfl (w.heap.size+1) 9 i0 (.string ⟨#[]⟩) 1 16 Tryz.underlying56 hi hz0 hz1 hz2 rfl (by decide) _ _ _ rfl (World.ownsRow.alloc Hown.out _) ⟨wr.heap.size,0,none⟩ 1 1 [.string (inpNm k)] rfl rfl ?c1 ?c2 ?c3 ?c4 ?c5 ?_))
    case c1=>exact news_one _ _
    case c2=>intro u hu;simp at hu;subst hu;rfl
    case c3=>have:=HL.out;have h:=List.length_take_le k inpN;unfold maxLen;omega
    case c4=>have:=HL.out;have h:=List.length_take_le k inpN;omega
    case c5=>simp;omega
    intro v' w1 hown' hgrow _
    have B1:=Lib.hid ((Hbel.out.alloc (by simpa using hsz) _).grown hgrow (by simp;omega) (fun k hk=>(Hown.out.lt k hk).1))
    have H1:=Lib.hid (StrRow.push (s:=inpNm k) (l:=namesOf (inpN.take k) dim) hown' rfl (by simp))
    clear hown' hgrow
    go_wp2
    go_roundw
    case rel=>exact⟨k+1,by omega,by go_num,by rw [HT.out,if_pos HD.out];exact H1.out,B1.out⟩
    case measure=>simp [intOf];omega
   ·have HD:=Lib.hid (fun h=>hd (hd0.trans h))
    have hd1:(x==dim)=false:=by simpa using hd
    clear hd0
    go_wp2_with (go_at_call 43;refine(Input5_any _ _).mono ?_;rintro e w' ⟨rfl,rfl⟩;simp only [HX.out])
    go_roundw
    case rel=>exact⟨k+1,by omega,by go_num,by rw [HT.out,if_neg HD.out,List.append_nil];exact Hown.out,Hbel.out⟩
    case measure=>simp [intOf];omega
  ·obtain rfl:k=11:=by omega
   go_wp2
   go_returns
   exact⟨_,rfl,ownsRow_base Hown.out (by omega),.of_below ((((Below.refl _ _).alloc (Nat.le_refl _) _)).trans (Hbel.out.mono (by omega)))⟩
end Go.Proofs.YtfoefpoaomepbaaGreatDoor
