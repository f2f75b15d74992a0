import Derived.Test.YtfoefpoaomepbaaGreatDoorTDiv
import Derived.Test.YtfoefpoaomepbaaGreatDoorTK
set_option linter.all false
set_option maxHeartbeats 16000000
set_option maxRecDepth 1000000
namespace Go.Proofs.YtfoefpoaomepbaaGreatDoor
open Go.RowKit

def hiW(n:Nat):Int:=(n / 18446744073709551616:Nat)
def loW(n:Nat):Int:=(n % 18446744073709551616:Nat)

theorem hiW_bd(n:Nat)(h:n<340282366920938463463374607431768211456):0≤hiW n∧hiW n<18446744073709551616:=by unfold hiW;omega
theorem loW_bd(n:Nat):0≤loW n∧loW n<18446744073709551616:=by unfold loW;omega

theorem over1_core(H L d q r Q:Int)(w:World)(a1:(d==0)=false)(a2:1≤d)(h0:0≤H)
 (a3:IntKind.u64.wrap (H.tdiv d)=Q)
 (HD:Hid (∀w,Calls Tryz.prog 189 #[.int .u64 (H % d),.int .u64 L,.int .u64 d] w fun e w'=>e= .returned (.tuple #[.int .u64 q,.int .u64 r])∧w.Grows w')) :
 Calls Tryz.prog 146 #[.agg #[.int .u64 H,.int .u64 L],.int .u64 d] w fun e w'=>e= .returned (.tuple #[.agg #[.int .u64 Q,.int .u64 q],.int .u64 r])∧w.Grows w':=by
 go_enter Tryz.func146,Tryz.ntmps146
 go_wp2_with fail
 refine wp_region_quietG (by kernel_rfl) (by kernel_rfl) ?_
 repeat(go_big_quiet_step ((go_at_call 189;exact Calls.quietG (HD.out _))))
 refine wpQuiet_nil ?_
 intro _ hw'
 obtain⟨⟨gb,gd⟩,hw''⟩:=hw'
 subst hw''
 clear HD
 go_wp2_with fail
 go_returns
 refine⟨rfl,.of_below belB⟩

def absI(n:Int):Int:=(n.natAbs:Int)
def gcdI(x y:Int):Int:=(Nat.gcd x.toNat y.toNat:Nat)
theorem absI_bd(n:Int)(h1:-9223372036854775808≤n)(h2:n≤9223372036854775807):0≤absI n∧absI n≤9223372036854775808:=by unfold absI;omega
theorem absI_toNat(n:Int):(absI n).toNat=n.natAbs:=by unfold absI;simp
theorem absI_of_nonneg{n:Int}(h:0≤n):absI n=n:=by unfold absI;omega

def vfrac(n d:Int):Bool:=decide (1≤d∧d≤1000000000∧-1000000000000000≤n∧n≤1000000000000000)&&gcdI (absI n) (absI d)==1
theorem vfrac_bd{n d:Int}(h:vfrac n d=true):1≤d∧d≤1000000000∧-1000000000000000≤n∧n≤1000000000000000:=by
 simp only [vfrac,Bool.and_eq_true,decide_eq_true_eq]at h;exact h.1
theorem vfrac_gcd{n d:Int}(h:vfrac n d=true):Nat.gcd n.natAbs d.natAbs=1:=by
 simp only [vfrac,Bool.and_eq_true,beq_iff_eq,gcdI,absI_toNat]at h
 have:=h.2;omega
theorem vfrac_of{n d:Int}(h:1≤d∧d≤1000000000∧-1000000000000000≤n∧n≤1000000000000000)(hg:Nat.gcd n.natAbs d.natAbs=1):vfrac n d=true:=by
 simp only [vfrac,Bool.and_eq_true,decide_eq_true_eq,beq_iff_eq,gcdI,absI_toNat]
 exact⟨h,by omega⟩

theorem Calls.quietD{P:Program}{f:FuncId}{args:Array Value}{w:World}{v:Value}
 (h:Calls P f args w fun e w'=>e= .returned v∧∃n,w'=w.drewN n):Calls P f args w fun e w'=>e= .returned v∧w.Grows w':=
 h.mono fun _ _ ⟨he,n,hw⟩=>⟨he,by subst hw;exact .of_below ⟨rfl,rfl,rfl,Nat.le_refl _,fun _ _=>rfl⟩⟩

theorem size1_any(n:Int)(w:World)(h1:-9223372036854775808≤n)(h2:n≤9223372036854775807) :
 Calls Tryz.prog 93 #[.int .i64 n] w fun e w'=>e= .returned (.int .u64 (absI n))∧w=w':=by
 by_cases hk:n<0
 ·go_enter Tryz.func93,Tryz.ntmps93
  go_wp2
  go_ret
  exact⟨by simp [absI];omega,rfl⟩
 ·go_enter Tryz.func93,Tryz.ntmps93
  go_wp2
  go_ret
  exact⟨by simp [absI];omega,rfl⟩

theorem size2_any(n:Int)(w:World)(h1:-9223372036854775808≤n)(h2:n≤9223372036854775807) :
 Calls Tryz.prog 177 #[.int .i64 n] w fun e w'=>e= .returned (.int .u64 (absI n))∧w=w':=by
 by_cases hk:n<0
 ·go_enter Tryz.func177,Tryz.ntmps177
  go_wp2
  go_ret
  exact⟨ret_int (by unfold absI;simp only [IntKind.wrap_u64];omega),rfl⟩
 ·go_enter Tryz.func177,Tryz.ntmps177
  go_wp2
  go_ret
  exact⟨ret_int (by unfold absI;omega),rfl⟩

theorem gcdI_step(c d:Int)(h0:0≤c)(h1:0<d):gcdI d (c % d)=gcdI c d:=by
 unfold gcdI
 obtain⟨a,rfl⟩:=Int.eq_ofNat_of_zero_le h0
 obtain⟨b,rfl⟩:=Int.eq_ofNat_of_zero_le (Int.le_of_lt h1)
 rw [show((a:Int) % (b:Int))=((a % b:Nat):Int)by simp]
 simp only [Int.toNat_natCast]
 congr 1
 rw [Nat.gcd_comm a b,Nat.gcd_rec b a,Nat.gcd_comm]

theorem gcdI_zero(c:Int)(h0:0≤c):gcdI c 0=c:=by unfold gcdI;simp;omega

theorem mod_bd(c d:Int)(h1:0<d):0≤c % d∧c % d<d:=⟨Int.emod_nonneg _ (by omega),Int.emod_lt_of_pos _ h1⟩

theorem gcd1_any(a b:Int)(w:World)(h0:0≤a)(h1:a<18446744073709551616)(h2:0≤b)(h3:b<18446744073709551616) :
 Calls Tryz.prog 147 #[.int .u64 a,.int .u64 b] w fun e w'=>e= .returned (.int .u64 (gcdI a b))∧∃n,w'=w.drewN n:=by
 go_enter Tryz.func147,Tryz.ntmps147
 go_wp2
 go_loopw [0,1] (fun x y wr=>∃c d:Int,x= .int .u64 c∧y= .int .u64 d∧0≤c∧c<18446744073709551616∧0≤d∧d<18446744073709551616∧Hid (gcdI c d=gcdI a b)∧∃n,wr=w.drewN n) (fun _ y _=>(intOf y).toNat)
 case atStart=>exact⟨a,b,rfl,rfl,h0,h1,h2,h3,rfl,0,rfl⟩
 case round=>
  obtain⟨c,d,rfl,rfl,hc0,hc,hd0,hd,Hg,dr,rfl⟩:=hrel
  by_cases h0:d=0
  ·subst h0
   go_wp2
   go_ret
   exact⟨by rw [←Hg.out,gcdI_zero c hc0];rfl,⟨_,rfl⟩⟩
  ·have h0':(d !=0)=true:=by simp;omega
   have h0'':(d==0)=false:=by simp;omega
   have h1d:1≤d:=by omega
   go_wp2
   go_region
   go_wp2
   go_roundw
   case rel=>exact⟨d,c % d,rfl,rfl,hd0,hd,(mod_bd c d h1d).1,by have:=(mod_bd c d h1d).2;omega,(gcdI_step c d hc0 h1d).trans Hg.out,dr+1,rfl⟩
   case measure=>simp [intOf];have:=mod_bd c d h1d;omega

theorem gcd2_any(a b:Int)(w:World)(h0:0≤a)(h1:a<18446744073709551616)(h2:0≤b)(h3:b<18446744073709551616) :
 Calls Tryz.prog 181 #[.int .u64 a,.int .u64 b] w fun e w'=>e= .returned (.int .u64 (gcdI a b))∧∃n,w'=w.drewN n:=by
 go_enter Tryz.func181,Tryz.ntmps181
 go_wp2
 go_loopw [0,1] (fun x y wr=>∃c d:Int,x= .int .u64 c∧y= .int .u64 d∧0≤c∧c<18446744073709551616∧0≤d∧d<18446744073709551616∧Hid (gcdI c d=gcdI a b)∧∃n,wr=w.drewN n) (fun _ y _=>(intOf y).toNat)
 case atStart=>exact⟨a,b,rfl,rfl,h0,h1,h2,h3,rfl,0,rfl⟩
 case round=>
  obtain⟨c,d,rfl,rfl,hc0,hc,hd0,hd,Hg,dr,rfl⟩:=hrel
  by_cases h0:d=0
  ·subst h0
   go_wp2
   go_ret
   exact⟨by rw [←Hg.out,gcdI_zero c hc0];rfl,⟨_,rfl⟩⟩
  ·have h0':(d !=0)=true:=by simp;omega
   have h0'':(d==0)=false:=by simp;omega
   have h1d:1≤d:=by omega
   go_wp2
   go_region
   go_wp2
   go_roundw
   case rel=>exact⟨d,c % d,rfl,rfl,hd0,hd,(mod_bd c d h1d).1,by have:=(mod_bd c d h1d).2;omega,(gcdI_step c d hc0 h1d).trans Hg.out,dr+1,rfl⟩
   case measure=>simp [intOf];have:=mod_bd c d h1d;omega

theorem vfrac_false{n d:Int}(h:¬(1≤d∧d≤1000000000∧-1000000000000000≤n∧n≤1000000000000000)):vfrac n d=false:=by
 simp only [vfrac,h,decide_false,Bool.false_and]
theorem vfrac_true{n d:Int}(h:1≤d∧d≤1000000000∧-1000000000000000≤n∧n≤1000000000000000):vfrac n d=(gcdI (absI n) (absI d)==1):=by
 simp only [vfrac,h,and_self,decide_true,Bool.true_and]

theorem Calls.quietE{P:Program}{f:FuncId}{args:Array Value}{w:World}{v:Value}
 (h:Calls P f args w fun e w'=>e= .returned v∧w=w'):Calls P f args w fun e w'=>e= .returned v∧∃n,w'=w.drewN n:=
 h.mono fun _ _ ⟨he,hw⟩=>⟨he,0,hw.symm⟩

theorem Valid1_any(n d:Int)(w:World)(h1:-9223372036854775808≤n)(h2:n≤9223372036854775807)(h3:-9223372036854775808≤d)(h4:d≤9223372036854775807) :
 Calls Tryz.prog 97 #[.agg #[.int .i64 n,.int .i64 d]] w fun e w'=>e= .returned (.bool (vfrac n d))∧w.Grows w':=by
 by_cases c1:1≤d
 ·by_cases c2:d≤1000000000
  ·by_cases c3:-1000000000000000≤n
   ·by_cases c4:n≤1000000000000000
    ·have hv:=Lib.hid (vfrac_true ⟨c1,c2,c3,c4⟩)
     have ha:=absI_bd n h1 h2
     have ha0:=ha.1
     have ha1:=ha.2
     have e1:IntKind.u64.wrap d=d:=IntWalk.u64_in _ (by omega)
     have e2:=Lib.hid (absI_of_nonneg (show 0≤d by omega))
     clear ha
     go_enter Tryz.func97,Tryz.ntmps97
     go_wp2_with fail
     go_quiet (first|(go_at_call 147;refine Calls.quiet_of (gcd1_any _ _ _ (by omega) (by omega) (by omega) (by omega)))|(go_at_call 93;refine Calls.quiet_of (Calls.quietE (size1_any _ _ (by omega) (by omega)))))
     go_wp2_with fail
     go_returns
     exact⟨by rw [hv.out,e2.out];rfl,.of_below belB⟩
    ·have d1:decide (n≤1000000000000000)=false:=by simp;omega
     go_enter Tryz.func97,Tryz.ntmps97
     go_wp2_with fail
     go_quiet (fail)
     go_wp2_with fail
     go_returns
     exact⟨by rw [vfrac_false (by omega)];rfl,.of_below belB⟩
   ·have d1:decide (-1000000000000000≤n)=false:=by simp;omega
    go_enter Tryz.func97,Tryz.ntmps97
    go_wp2_with fail
    go_quiet (fail)
    go_wp2_with fail
    go_returns
    exact⟨by rw [vfrac_false (by omega)];rfl,.of_below belB⟩
  ·have d1:decide (d≤1000000000)=false:=by simp;omega
   go_enter Tryz.func97,Tryz.ntmps97
   go_wp2_with fail
   go_quiet (fail)
   go_wp2_with fail
   go_returns
   exact⟨by rw [vfrac_false (by omega)];rfl,.of_below belB⟩
 ·have d1:decide (1≤d)=false:=by simp;omega
  go_enter Tryz.func97,Tryz.ntmps97
  go_wp2_with fail
  go_quiet (fail)
  go_wp2_with fail
  go_returns
  exact⟨by rw [vfrac_false (by omega)];rfl,.of_below belB⟩

theorem Valid2_any(n d:Int)(w:World)(h1:-9223372036854775808≤n)(h2:n≤9223372036854775807)(h3:-9223372036854775808≤d)(h4:d≤9223372036854775807) :
 Calls Tryz.prog 175 #[.agg #[.int .i64 n,.int .i64 d]] w fun e w'=>e= .returned (.bool (vfrac n d))∧w.Grows w':=by
 by_cases c1:1≤d
 ·by_cases c2:d≤1000000000
  ·by_cases c3:-1000000000000000≤n
   ·by_cases c4:n≤1000000000000000
    ·have hv:=Lib.hid (vfrac_true ⟨c1,c2,c3,c4⟩)
     have ha:=absI_bd n h1 h2
     have ha0:=ha.1
     have ha1:=ha.2
     have e1:absI d=d:=absI_of_nonneg (by omega);clear ha
     go_enter Tryz.func175,Tryz.ntmps175
     go_wp2_with fail
     go_quiet (first|(go_at_call 181;refine Calls.quiet_of (gcd2_any _ _ _ (by omega) (by omega) (by omega) (by omega)))|(go_at_call 177;refine Calls.quiet_of (Calls.quietE (size2_any _ _ (by omega) (by omega)))))
     go_wp2_with fail
     go_returns
     exact⟨by rw [hv.out,e1];rfl,.of_below belB⟩
    ·have d1:decide (n≤1000000000000000)=false:=by simp;omega
     go_enter Tryz.func175,Tryz.ntmps175
     go_wp2_with fail
     go_quiet (fail)
     go_wp2_with fail
     go_returns
     exact⟨by rw [vfrac_false (by omega)];rfl,.of_below belB⟩
   ·have d1:decide (-1000000000000000≤n)=false:=by simp;omega
    go_enter Tryz.func175,Tryz.ntmps175
    go_wp2_with fail
    go_quiet (fail)
    go_wp2_with fail
    go_returns
    exact⟨by rw [vfrac_false (by omega)];rfl,.of_below belB⟩
  ·have d1:decide (d≤1000000000)=false:=by simp;omega
   go_enter Tryz.func175,Tryz.ntmps175
   go_wp2_with fail
   go_quiet (fail)
   go_wp2_with fail
   go_returns
   exact⟨by rw [vfrac_false (by omega)];rfl,.of_below belB⟩
 ·have d1:decide (1≤d)=false:=by simp;omega
  go_enter Tryz.func175,Tryz.ntmps175
  go_wp2_with fail
  go_quiet (fail)
  go_wp2_with fail
  go_returns
  exact⟨by rw [vfrac_false (by omega)];rfl,.of_below belB⟩


def remI(n d:Nat):Int:=(n % d:Nat)
theorem remI_bd(n d:Nat)(h:0<d):0≤remI n d∧remI n d<d:=by
 unfold remI;have:=Nat.mod_lt n h;omega

theorem over_nat(n d:Nat)(h0:0<d)(_:d<18446744073709551616) :
 n / d / 18446744073709551616=n / 18446744073709551616 / d∧n / d % 18446744073709551616=(n / 18446744073709551616 % d*18446744073709551616+n % 18446744073709551616) / d∧
 n % d=(n / 18446744073709551616 % d*18446744073709551616+n % 18446744073709551616) % d:=by
 generalize hB:18446744073709551616=B at *
 have hB0:0<B:=by omega
 clear hB
 have e:n=d*(n / B / d*B)+(n / B % d*B+n % B):=by
  have a1:=Nat.div_add_mod n B
  have a2:=Nat.div_add_mod (n / B) d
  have a3:B*(n / B)=B*(d*(n / B / d))+B*(n / B % d):=by rw [←Nat.mul_add,a2]
  rw [Nat.mul_comm B (d*_),Nat.mul_assoc,Nat.mul_comm B (n / B % d)]at a3
  omega
 have hlt:(n / B % d*B+n % B) / d<B:=by
  rw [Nat.div_lt_iff_lt_mul h0]
  have b1:=Nat.mod_lt (n / B) h0
  have b2:=Nat.mod_lt n hB0
  have b3:(n / B % d+1)*B≤d*B:=Nat.mul_le_mul_right _ b1
  rw [Nat.add_mul,Nat.one_mul]at b3
  rw [Nat.mul_comm B d]
  omega
 have q:n / d=n / B / d*B+(n / B % d*B+n % B) / d:=by
  conv=>lhs;rw [e]
  rw [Nat.mul_add_div h0]
 refine⟨?_, ?_, ?_⟩
 ·rw [q,Nat.mul_comm _ B,Nat.mul_add_div hB0,Nat.div_eq_of_lt hlt,Nat.add_zero]
 ·rw [q,Nat.mul_comm _ B,Nat.mul_add_mod,Nat.mod_eq_of_lt hlt]
 ·conv=>lhs;rw [e]
  rw [Nat.mul_add_mod]

theorem over1_any(n d:Nat)(w:World)(h1:n<340282366920938463463374607431768211456)(h2:d<18446744073709551616)(h0:0<d) :
 Calls Tryz.prog 146 #[.agg #[.int .u64 (hiW n),.int .u64 (loW n)],.int .u64 d] w fun e w'=>e= .returned (.tuple #[.agg #[.int .u64 (hiW (n / d)),.int .u64 (loW (n / d))],.int .u64 (remI n d)])∧w.Grows w':=by
 obtain⟨e1,e2,e3⟩:=over_nat n d h0 h2
 have hh:=hiW_bd n h1
 refine over1_core _ _ _ _ _ _ w (by simp;omega) (by omega) hh.1 ?_ ?_
 ·have:(hiW n).tdiv d=((n / 18446744073709551616 / d:Nat):Int):=by
   rw [Int.tdiv_eq_ediv_of_nonneg hh.1];unfold hiW;simp
  rw [this,←e1]
  have h3:n / d≤n:=Nat.div_le_self _ _
  unfold hiW
  generalize n / d=m at *
  exact IntWalk.u64_in _ (by omega)
 ·intro w
  have:=Div64_any (n / 18446744073709551616 % d) (n % 18446744073709551616) d w (Nat.mod_lt _ h0) (Nat.mod_lt _ (by omega)) h2
  rw [←e2,←e3]at this
  simpa [hiW,loW,remI]using this

def lowN(neg:Bool)(n d:Nat):Int:=if 1000000000000000<n / Nat.gcd n d∨1000000000<d / Nat.gcd n d then 0 else if neg then -((n / Nat.gcd n d:Nat):Int)else(n / Nat.gcd n d:Nat)
def lowD(n d:Nat):Int:=if 1000000000000000<n / Nat.gcd n d∨1000000000<d / Nat.gcd n d then 0 else(d / Nat.gcd n d:Nat)
def lowE(n d:Nat):Int:=if 1000000000000000<n / Nat.gcd n d∨1000000000<d / Nat.gcd n d then 2 else 0

theorem gcd_rest(n d:Nat)(h0:0<d):gcdI d (remI n d)=(Nat.gcd n d:Nat):=by
 unfold gcdI remI
 simp only [Int.toNat_natCast]
 congr 1
 rw [Nat.gcd_comm n d,Nat.gcd_rec d n,Nat.gcd_comm]

def lowV(neg:Bool)(h l d:Int):Value:=if(h !=0)=true∨1000000000000000<l∨1000000000<d then .tuple #[.agg #[.int .i64 0,.int .i64 0],.int .i64 2]else .tuple #[.agg #[.int .i64 (if neg then -l else l),.int .i64 d],.int .i64 0]

theorem lowest1_walk(neg:Bool)(H L D r g h l h' l' rr:Int)(w:World)(hd:0≤D)(hd1:D<18446744073709551616)(hg0:1≤g)
 (hl0:0≤l') (hg00:(g==0)=false)
 (H1:Hid (∀w,Calls Tryz.prog 146 #[.agg #[.int .u64 H,.int .u64 L],.int .u64 D] w fun e w'=>e= .returned (.tuple #[.agg #[.int .u64 h,.int .u64 l],.int .u64 r])∧w.Grows w'))
 (H2:Hid (∀w,Calls Tryz.prog 147 #[.int .u64 D,.int .u64 r] w fun e w'=>e= .returned (.int .u64 g)∧∃n,w'=w.drewN n))
 (H3:Hid (∀w,Calls Tryz.prog 146 #[.agg #[.int .u64 H,.int .u64 L],.int .u64 g] w fun e w'=>e= .returned (.tuple #[.agg #[.int .u64 h',.int .u64 l'],.int .u64 rr])∧w.Grows w')) :
 Calls Tryz.prog 92 #[.bool neg,.agg #[.int .u64 H,.int .u64 L],.int .u64 D] w fun e w'=>
  e= .returned (lowV neg h' l' (D / g))∧w.Grows w':=by
 have hdg:0≤D / g:=Int.ediv_nonneg hd (by omega)
 by_cases c1:(h' !=0)=true
 ·go_enter Tryz.func92,Tryz.ntmps92
  go_wp2_with fail
  refine(H1.out _).mono ?_
  rintro e w' ⟨rfl,bs,dr,rfl⟩
  go_wp2_with fail
  refine(H2.out _).mono ?_
  rintro e w' ⟨rfl,nn,rfl⟩
  go_wp2_with fail
  refine(H3.out _).mono ?_
  rintro e w' ⟨rfl,bs3,dr3,rfl⟩
  clear H1 H2 H3
  go_wp2_with fail
  go_returns
  exact⟨by rw [lowV,if_pos (.inl c1)],.of_below belB⟩
 ·have c1':(h' !=0)=false:=by simpa using c1
  clear c1
  by_cases c2:(1000000000000000:Int)<l'
  ·go_enter Tryz.func92,Tryz.ntmps92
   go_wp2_with fail
   refine(H1.out _).mono ?_
   rintro e w' ⟨rfl,bs,dr,rfl⟩
   go_wp2_with fail
   refine(H2.out _).mono ?_
   rintro e w' ⟨rfl,nn,rfl⟩
   go_wp2_with fail
   refine(H3.out _).mono ?_
   rintro e w' ⟨rfl,bs3,dr3,rfl⟩
   clear H1 H2 H3
   go_wp2_with fail
   go_returns
   exact⟨by rw [lowV,if_pos (.inr (.inl c2))],.of_below belB⟩
  ·have c2':decide ((1000000000000000:Int)<l')=false:=by simpa using c2
   by_cases c3:(1000000000:Int)<D / g
   ·go_enter Tryz.func92,Tryz.ntmps92
    go_wp2_with fail
    refine(H1.out _).mono ?_
    rintro e w' ⟨rfl,bs,dr,rfl⟩
    go_wp2_with fail
    refine(H2.out _).mono ?_
    rintro e w' ⟨rfl,nn,rfl⟩
    go_wp2_with fail
    refine(H3.out _).mono ?_
    rintro e w' ⟨rfl,bs3,dr3,rfl⟩
    clear H1 H2 H3
    go_wp2_with fail
    go_returns
    exact⟨by rw [lowV,if_pos (.inr (.inr c3))],.of_below belB⟩
   ·have c3':decide ((1000000000:Int)<D / g)=false:=by simpa using c3
    have hn:¬((h' !=0)=true∨1000000000000000<l'∨1000000000<D / g):=by simp only [c1',Bool.false_eq_true,false_or,not_or];exact⟨c2,c3⟩
    have Hn:=Lib.hid hn
    clear hn
    cases neg
    focus
     go_enter Tryz.func92,Tryz.ntmps92
    rotate_left
    focus
     go_enter Tryz.func92,Tryz.ntmps92
    rotate_left
    all_goals
     go_wp2_with fail
     refine(H1.out _).mono ?_
     rintro e w' ⟨rfl,bs,dr,rfl⟩
     go_wp2_with fail
     refine(H2.out _).mono ?_
     rintro e w' ⟨rfl,nn,rfl⟩
     go_wp2_with fail
     refine(H3.out _).mono ?_
     rintro e w' ⟨rfl,bs3,dr3,rfl⟩
     clear H1 H2 H3
     go_wp2_with fail
     go_returns
     exact⟨by rw [lowV,if_neg Hn.out];rfl,.of_below belB⟩
theorem lowest1_any(neg:Bool)(n d:Nat)(w:World)(h1:n<340282366920938463463374607431768211456)(h2:d<18446744073709551616)(h0:0<d) :
 Calls Tryz.prog 92 #[.bool neg,.agg #[.int .u64 (hiW n),.int .u64 (loW n)],.int .u64 d] w fun e w'=>
  e= .returned (.tuple #[.agg #[.int .i64 (lowN neg n d),.int .i64 (lowD n d)],.int .i64 (lowE n d)])∧w.Grows w':=by
 have hg:0<Nat.gcd n d:=Nat.gcd_pos_of_pos_right _ h0
 have hgd:Nat.gcd n d≤d:=Nat.gcd_le_right _ h0
 have hr:=remI_bd n d h0
 refine(lowest1_walk neg (hiW n) (loW n) d (remI n d) (Nat.gcd n d:Nat) (hiW (n / d)) (loW (n / d)) (hiW (n / Nat.gcd n d)) (loW (n / Nat.gcd n d)) (remI n (Nat.gcd n d)) w (by omega) (by omega) (by omega)
  (loW_bd _).1 (by simp;omega) (fun w=>over1_any n d w h1 h2 h0) (fun w=>?_) (fun w=>over1_any n _ w h1 (by omega) hg)).mono ?_
 ·have:=gcd1_any d (remI n d) w (by omega) (by omega) hr.1 (by omega)
  rw [gcd_rest n d h0]at this
  exact this
 ·rintro e w' ⟨rfl,hw⟩
  refine⟨?_,hw⟩
  have hq:n / Nat.gcd n d≤n:=Nat.div_le_self _ _
  have hdd:(d:Int) / (Nat.gcd n d:Nat)=(d / Nat.gcd n d:Nat):=by simp
  rw [hdd]
  unfold lowV lowN lowD lowE hiW loW
  generalize n / Nat.gcd n d=a at *
  generalize d / Nat.gcd n d=b at *
  by_cases c:1000000000000000<a∨1000000000<b
  ·rw [if_pos c,if_pos c,if_pos c,if_pos (by
    by_cases ha:a / 18446744073709551616=0
    ·right;omega
    ·left;simp;omega)]
  ·have ha:a / 18446744073709551616=0:=by omega
   have hb:a % 18446744073709551616=a:=by omega
   rw [if_neg c,if_neg c,if_neg c,if_neg (by rw [ha,hb];simp;omega),hb]

def mkN(n d:Int):Int:=if d=0 then 0 else lowN (decide (n<0)!=decide (d<0)) n.natAbs d.natAbs
def mkD(n d:Int):Int:=if d=0 then 0 else lowD n.natAbs d.natAbs
def mkE(n d:Int):Int:=if d=0 then 3 else lowE n.natAbs d.natAbs

theorem MakeFraction_any(n d:Int)(w:World)(h1:-9223372036854775808≤n)(h2:n≤9223372036854775807)(h3:-9223372036854775808≤d)(h4:d≤9223372036854775807) :
 Calls Tryz.prog 39 #[.int .i64 n,.int .i64 d] w fun e w'=>
  e= .returned (.tuple #[.agg #[.int .i64 (mkN n d),.int .i64 (mkD n d)],.int .i64 (mkE n d)])∧w.Grows w':=by
 by_cases c:d=0
 ·subst c
  go_enter Tryz.func39,Tryz.ntmps39
  go_wp2_with fail
  go_returns
  exact⟨rfl,.of_below belB⟩
 ·have c':(d==0)=false:=by simpa using c
  have hl:∀b,(decide (n<0)!=decide (d<0))=b→Hid (∀w,Calls Tryz.prog 92 #[.bool b,.agg #[.int .u64 0,.int .u64 (absI n)],.int .u64 (absI d)] w fun e w'=>
   e= .returned (.tuple #[.agg #[.int .i64 (mkN n d),.int .i64 (mkD n d)],.int .i64 (mkE n d)])∧w.Grows w'):=by
   intro b hb w
   have:=lowest1_any b n.natAbs d.natAbs w (by omega) (by omega) (by omega)
   rw [show hiW n.natAbs=0 by unfold hiW;omega,show loW n.natAbs=absI n by unfold loW absI;omega]at this
   unfold mkN mkD mkE
   rw [if_neg c,if_neg c,if_neg c,hb]
   exact this
  clear c
  generalize mkN n d=N at *
  generalize mkD n d=D at *
  generalize mkE n d=E at *
  by_cases c1:n<0
  ·by_cases c2:d<0
   focus
    have hn:=hl false (by simp [c1,c2])
   rotate_left
   focus
    have hn:=hl true (by simp only [c1,c2];rfl)
   rotate_left
   all_goals
    clear hl
    go_enter Tryz.func39,Tryz.ntmps39
    go_wp2_with (first|(go_at_call 93;refine(size1_any _ _ (by omega) (by omega)).mono ?_;rintro e w' ⟨rfl,rfl⟩)|(go_at_call 92;refine(hn.out _).mono ?_;rintro e w' ⟨rfl,bs,dr,rfl⟩;clear hn))
    go_returns
    exact⟨rfl,.of_below belB⟩
  ·by_cases c2:d<0
   focus
    have hn:=hl true (by simp only [c1,c2];rfl)
   rotate_left
   focus
    have hn:=hl false (by simp only [c1,c2];rfl)
   rotate_left
   all_goals
    clear hl
    go_enter Tryz.func39,Tryz.ntmps39
    go_wp2_with (first|(go_at_call 93;refine(size1_any _ _ (by omega) (by omega)).mono ?_;rintro e w' ⟨rfl,rfl⟩)|(go_at_call 92;refine(hn.out _).mono ?_;rintro e w' ⟨rfl,bs,dr,rfl⟩;clear hn))
    go_returns
    exact⟨rfl,.of_below belB⟩
end Go.Proofs.YtfoefpoaomepbaaGreatDoor
namespace Go.Proofs.YtfoefpoaomepbaaGreatDoor

theorem lowN_neg{b c:Bool}{n d:Nat}(h:n=0∨b=c):lowN b n d=lowN c n d:=by
 rcases h with rfl|rfl
 ·unfold lowN;simp
 ·rfl
theorem lowE_cases(n d:Nat):lowE n d=0∨lowE n d=2:=by unfold lowE;split<;>simp
theorem low_bad{n d:Nat}(b:Bool)(h:lowE n d≠0):lowN b n d=0∧lowD n d=0:=by
 unfold lowE at h
 unfold lowN lowD
 split at h<;>rename_i hc
 ·rw [if_pos hc,if_pos hc];exact⟨rfl,rfl⟩
 ·exact absurd rfl h
theorem vfrac_nat{n d:Nat}(b:Bool)(h1:1≤d)(h2:d≤1000000000)(h3:n≤1000000000000000)(hg:Nat.gcd n d=1):vfrac (if b then -(n:Int)else n) d=true:=by
 refine vfrac_of ⟨by omega,by omega, ?_, ?_⟩ ?_
 ·cases b<;>simp<;>omega
 ·cases b<;>simp<;>omega
 ·cases b<;>simpa using hg
theorem low_ok{n d:Nat}(b:Bool)(hd:0<d)(h:lowE n d=0):vfrac (lowN b n d) (lowD n d)=true:=by
 have hg:0<Nat.gcd n d:=Nat.gcd_pos_of_pos_right _ hd
 unfold lowE at h
 unfold lowN lowD
 split at h<;>rename_i hc
 ·simp at h
 ·rw [if_neg hc,if_neg hc]
  have h1:0<d / Nat.gcd n d:=Nat.div_pos (Nat.gcd_le_right _ hd) hg
  exact vfrac_nat b (by omega) (by omega) (by omega) (Nat.coprime_div_gcd_div_gcd hg)

def prdX(n k m h:Nat):Nat:=n / Nat.gcd n k*(m / Nat.gcd m h)
def prdF(b:Bool)(n d m k:Nat):Int × Int × Int:=
 if 1000000000000000<prdX n k m d∨1000000000<prdX d m k n then(0,0,2)else(if b then -(prdX n k m d:Int)else prdX n k m d,prdX d m k n,0)

def negF(n d:Int):Int × Int × Int:=if vfrac n d then(-n,d,0)else(0,0,1)
def addS(an ad bn bd:Int):Int:=an*bd+bn*ad
def addF(an ad bn bd:Int):Int × Int × Int:=
 if vfrac an ad&&vfrac bn bd then
  (lowN (decide (addS an ad bn bd<0)) (addS an ad bn bd).natAbs (ad.natAbs*bd.natAbs),lowD (addS an ad bn bd).natAbs (ad.natAbs*bd.natAbs),lowE (addS an ad bn bd).natAbs (ad.natAbs*bd.natAbs))
 else(0,0,1)
def subF(an ad bn bd:Int):Int × Int × Int:=if vfrac bn bd then addF an ad (-bn) bd else(0,0,1)
def mulF(an ad bn bd:Int):Int × Int × Int:=
 if vfrac an ad&&vfrac bn bd then prdF (decide (an<0)!=decide (bn<0)) an.natAbs ad.natAbs bn.natAbs bd.natAbs else(0,0,1)
def divF(an ad bn bd:Int):Int × Int × Int:=
 if vfrac an ad&&vfrac bn bd then if bn=0 then(0,0,3)else prdF (decide (an<0)!=decide (bn<0)) an.natAbs ad.natAbs bd.natAbs bn.natAbs else(0,0,1)
def cmpI(an ad bn bd:Int):Int:=if an*bd<bn*ad then -1 else if bn*ad<an*bd then 1 else 0
def cmpF(an ad bn bd:Int):Int × Int:=if vfrac an ad&&vfrac bn bd then(cmpI an ad bn bd,0)else(0,1)
def floorF(n d:Int):Int × Int:=if vfrac n d then(n / d,0)else(0,1)

theorem vfrac_neg{n d:Int}:vfrac (-n) d=vfrac n d:=by
 unfold vfrac absI
 rw [Int.natAbs_neg]
 congr 1
 refine decide_eq_decide.2 ?_
 omega
theorem vfrac_prime{n d:Int}(h:vfrac n d=true):Nat.Coprime n.natAbs d.natAbs:=vfrac_gcd h

theorem addS_same{a d b e:Nat}(s:Bool):addS (if s then -(a:Int)else a) d (if s then -(b:Int)else b) e=if s then -((a*e+b*d:Nat):Int)else((a*e+b*d:Nat):Int):=by
 unfold addS
 cases s<;>simp [Int.neg_mul];omega
theorem addS_diff{a d b e:Nat}(s:Bool):addS (if s then -(a:Int)else a) d (if s then(b:Int)else -b) e=if s then((b*d:Nat):Int)-(a*e:Nat)else((a*e:Nat):Int)-(b*d:Nat):=by
 unfold addS
 cases s<;>simp [Int.neg_mul]<;>omega
theorem sign_form(n:Int):n=if decide (n<0)then -(n.natAbs:Int)else n.natAbs:=by
 by_cases h:n<0<;>simp [h]<;>omega

theorem add_same{an ad bn bd:Int}(h1:1≤ad)(h2:1≤bd)(hs:decide (an<0)=decide (bn<0)) :
 (addS an ad bn bd).natAbs=an.natAbs*bd.natAbs+bn.natAbs*ad.natAbs∧((addS an ad bn bd).natAbs=0∨decide (addS an ad bn bd<0)=decide (an<0)):=by
 have e:=addS_same (a:=an.natAbs) (d:=ad.natAbs) (b:=bn.natAbs) (e:=bd.natAbs) (decide (an<0))
 have e1:=sign_form an
 have e2:=sign_form bn
 rw [←hs]at e2
 rw [←e1,←e2,show((ad.natAbs:Nat):Int)=ad by omega,show((bd.natAbs:Nat):Int)=bd by omega]at e
 rw [e]
 generalize an.natAbs*bd.natAbs+bn.natAbs*ad.natAbs=N at *
 by_cases h:an<0
 ·simp [h];omega
 ·simp [h]
theorem add_diff{an ad bn bd:Int}(h1:1≤ad)(h2:1≤bd)(hs:decide (an<0)≠decide (bn<0)) :
 (an.natAbs*bd.natAbs<bn.natAbs*ad.natAbs→(addS an ad bn bd).natAbs=bn.natAbs*ad.natAbs-an.natAbs*bd.natAbs∧((addS an ad bn bd).natAbs=0∨decide (addS an ad bn bd<0)=decide (bn<0)))∧
 (bn.natAbs*ad.natAbs≤an.natAbs*bd.natAbs→(addS an ad bn bd).natAbs=an.natAbs*bd.natAbs-bn.natAbs*ad.natAbs∧((addS an ad bn bd).natAbs=0∨decide (addS an ad bn bd<0)=decide (an<0))):=by
 have e:=addS_diff (a:=an.natAbs) (d:=ad.natAbs) (b:=bn.natAbs) (e:=bd.natAbs) (decide (an<0))
 have e1:=sign_form an
 have e2:=sign_form bn
 rw [←e1,show((ad.natAbs:Nat):Int)=ad by omega,show((bd.natAbs:Nat):Int)=bd by omega]at e
 have e3:(if decide (an<0)=true then(bn.natAbs:Int)else -(bn.natAbs:Int))=bn:=by
  clear e e1 e2
  by_cases c1:an<0<;>by_cases c2:bn<0<;>simp [c1,c2]at hs ⊢<;>omega
 rw [e3]at e
 rw [e]
 generalize an.natAbs*bd.natAbs=M at *
 generalize bn.natAbs*ad.natAbs=N at *
 clear e e1 e2 e3
 by_cases c1:an<0<;>by_cases c2:bn<0<;>simp [c1,c2]at hs ⊢<;>omega

theorem frac_eq{an ad bn bd:Int}(ha:vfrac an ad=true)(hb:vfrac bn bd=true)(h:an*bd=bn*ad):an=bn∧ad=bd:=by
 have p:=vfrac_prime ha
 have q:=vfrac_prime hb
 have h1:=vfrac_bd ha
 have h2:=vfrac_bd hb
 exact tz19
theorem prdX_pos{n k m h:Nat}(h1:0<n)(h2:0<m):0<prdX n k m h:=by
 unfold prdX
 exact Nat.mul_pos (Nat.div_pos (Nat.gcd_le_left _ h1) (Nat.gcd_pos_of_pos_left _ h1)) (Nat.div_pos (Nat.gcd_le_left _ h2) (Nat.gcd_pos_of_pos_left _ h2))
theorem prd_prime{n d m k:Nat}(hd:0<d)(hk:0<k)(p:Nat.Coprime n d)(q:Nat.Coprime m k):Nat.Coprime (prdX n k m d) (prdX d m k n):=by
 unfold prdX
 have g1:0<Nat.gcd n k:=Nat.gcd_pos_of_pos_right _ hk
 have g2:0<Nat.gcd m d:=Nat.gcd_pos_of_pos_right _ hd
 have a1:=Nat.coprime_div_gcd_div_gcd g1
 have a2:=Nat.coprime_div_gcd_div_gcd g2
 rw [Nat.gcd_comm d m,Nat.gcd_comm k n]
 have dv (x y:Nat):x / Nat.gcd x y ∣ x:=Nat.div_dvd_of_dvd (Nat.gcd_dvd_left x y)
 have dw (x y:Nat):y / Nat.gcd x y ∣ y:=Nat.div_dvd_of_dvd (Nat.gcd_dvd_right x y)
 refine Nat.Coprime.mul_left (Nat.Coprime.mul_right ?_ a1) (Nat.Coprime.mul_right a2 ?_)
 ·exact Nat.Coprime.coprime_dvd_left (dv n k) (Nat.Coprime.coprime_dvd_right (dw m d) p)
 ·exact Nat.Coprime.coprime_dvd_left (dv m d) (Nat.Coprime.coprime_dvd_right (dw n k) q)
def okF(r:Int × Int × Int):Prop:=(r.2.2=0∧vfrac r.1 r.2.1=true)∨(r.1=0∧r.2.1=0∧(r.2.2=2∨r.2.2=3))
theorem prdF_ok{n d m k:Nat}(b:Bool)(hd:0<d)(hk:0<k)(p:Nat.Coprime n d)(q:Nat.Coprime m k):okF (prdF b n d m k):=by
 unfold prdF
 split<;>rename_i hc
 ·exact .inr ⟨rfl,rfl,.inl rfl⟩
 ·have h1:=prdX_pos (k:=m) (h:=n) hd hk
  exact .inl ⟨rfl,vfrac_nat b (by omega) (by omega) (by omega) (prd_prime hd hk p q)⟩
theorem addF_ok{an ad bn bd:Int}(ha:vfrac an ad=true)(hb:vfrac bn bd=true):okF (addF an ad bn bd):=by
 have h1:=vfrac_bd ha
 have h2:=vfrac_bd hb
 unfold addF
 rw [ha,hb]
 simp only [Bool.and_self,if_true]
 have hd:0<ad.natAbs*bd.natAbs:=Nat.mul_pos (by omega) (by omega)
 rcases lowE_cases (addS an ad bn bd).natAbs (ad.natAbs*bd.natAbs)with h|h
 ·exact .inl ⟨h,low_ok _ hd h⟩
 ·have h3:=low_bad (decide (addS an ad bn bd<0)) (show lowE (addS an ad bn bd).natAbs (ad.natAbs*bd.natAbs)≠0 by omega)
  exact .inr ⟨h3.1,h3.2,.inl h⟩
theorem subF_ok{an ad bn bd:Int}(ha:vfrac an ad=true)(hb:vfrac bn bd=true):okF (subF an ad bn bd):=by
 unfold subF
 rw [hb]
 exact addF_ok ha (by rw [vfrac_neg];exact hb)
theorem mulF_ok{an ad bn bd:Int}(ha:vfrac an ad=true)(hb:vfrac bn bd=true):okF (mulF an ad bn bd):=by
 have h1:=vfrac_bd ha
 have h2:=vfrac_bd hb
 unfold mulF
 rw [ha,hb]
 exact prdF_ok _ (by omega) (by omega) (vfrac_prime ha) (vfrac_prime hb)
theorem divF_ok{an ad bn bd:Int}(ha:vfrac an ad=true)(hb:vfrac bn bd=true):okF (divF an ad bn bd):=by
 have h1:=vfrac_bd ha
 have h2:=vfrac_bd hb
 unfold divF
 rw [ha,hb]
 simp only [Bool.and_self,if_true]
 split<;>rename_i hc
 ·exact .inr ⟨rfl,rfl,.inr rfl⟩
 ·exact prdF_ok _ (by omega) (by omega) (vfrac_prime ha) (vfrac_prime hb).symm
end Go.Proofs.YtfoefpoaomepbaaGreatDoor
namespace Go
open Go.RowKit

def World.src(w:World)(s:Nat)(lv:Value)(p left:Int):World:={w with heap:=w.heap.setIfInBounds s (.cells #[lv,.int .i64 p,.int .i64 left] 91 (0,0))}
section
variable {w : World} {s : Nat} {lv : Value} {p left : Int}
@[go_sem,simp] theorem World.size_src(w:World)(s:Nat)(lv:Value)(p left:Int):(w.src s lv p left).heap.size=w.heap.size:=by simp [World.src]
theorem World.heap_src_same(h:s<w.heap.size):(w.src s lv p left).heap[s]? =some (.cells #[lv,.int .i64 p,.int .i64 left] 91 (0,0)):=by
 simp [World.src,h]
theorem World.heap_src_other{b:Nat}(h:b≠s):(w.src s lv p left).heap[b]? =w.heap[b]?:=by
 simp only [World.src]
 rw [Array.getElem?_setIfInBounds_ne (Ne.symm h)]
@[go_sem] theorem World.cell?_src0(h:s<w.heap.size):(w.src s lv p left).cell? ⟨s,0,none⟩=some lv:=by simp [World.cell?,World.heap_src_same h]
@[go_sem] theorem World.cell?_src1(h:s<w.heap.size):(w.src s lv p left).cell? ⟨s,1,none⟩=some (.int .i64 p):=by simp [World.cell?,World.heap_src_same h]
@[go_sem] theorem World.cell?_src2(h:s<w.heap.size):(w.src s lv p left).cell? ⟨s,2,none⟩=some (.int .i64 left):=by simp [World.cell?,World.heap_src_same h]
@[go_sem] theorem World.frozen?_src(h:s<w.heap.size)(i:Nat):(w.src s lv p left).frozen? ⟨s,i,none⟩=false:=by simp [World.frozen?,World.heap_src_same h]
@[go_sem] theorem World.cell?_src_other{b i:Nat}(h:b≠s):(w.src s lv p left).cell? ⟨b,i,none⟩=w.cell? ⟨b,i,none⟩:=World.cell?_of_block (World.heap_src_other h)
@[go_sem] theorem World.frozen?_src_other{b i:Nat}(h:b≠s):(w.src s lv p left).frozen? ⟨b,i,none⟩=w.frozen? ⟨b,i,none⟩:=World.frozen?_of_block (World.heap_src_other h)
@[go_sem,simp] theorem World.src_src(lv':Value)(p' left':Int):(w.src s lv p left).src s lv' p' left'=w.src s lv' p' left':=by simp [World.src]
@[go_sem] theorem World.src_alloc(o:Obj)(h:s<w.heap.size):(w.alloc o).src s lv p left=(w.src s lv p left).alloc o:=by
  simp only [World.src,World.alloc]
  congr 1
  apply Array.ext_getElem?
  intro k
  simp only [Array.getElem?_setIfInBounds,Array.getElem?_push,Array.size_setIfInBounds,Array.size_push]
  by_cases hk:s=k
  ·subst hk
   simp [h,Nat.ne_of_lt h,Nat.lt_succ_of_lt h]
  ·simp [hk]
@[go_sem] theorem World.src_grow(bs:Array Obj)(d:Nat)(h:s<w.heap.size):(w.grow bs d).src s lv p left=(w.src s lv p left).grow bs d:=by
  simp only [World.src,World.grow]
  congr 1
  exact Array.setIfInBounds_append_left h
@[go_sem,simp] theorem World.src_drewN(n:Nat):(w.drewN n).src s lv p left=(w.src s lv p left).drewN n:=rfl
@[go_sem,simp] theorem World.src_drew:w.drew.src s lv p left=(w.src s lv p left).drew:=rfl
@[go_sem] theorem World.setCell_src1(h:s<w.heap.size)(v:Int):(w.src s lv p left).setCell ⟨s,1,none⟩ (.int .i64 v)=w.src s lv v left:=by
  exact tz37
@[go_sem] theorem World.setCell_src2(h:s<w.heap.size)(v:Int):(w.src s lv p left).setCell ⟨s,2,none⟩ (.int .i64 v)=w.src s lv p v:=by
  exact tz37
@[go_sem] theorem World.setCell_drewN(w:World)(n:Nat)(a:Addr)(v:Value):(w.drewN n).setCell a v=(w.setCell a v).drewN n:=rfl
theorem World.src_new(w:World)(lv:Value)(p left:Int):(w.alloc (.cells #[lv,.int .i64 p,.int .i64 left] 91)).src w.heap.size lv p left=w.alloc (.cells #[lv,.int .i64 p,.int .i64 left] 91):=by
 simp only [World.src,World.alloc]
 congr 1
 apply Array.ext_getElem?
 intro k
 simp only [Array.getElem?_setIfInBounds,Array.getElem?_push,Array.size_push]
 by_cases hk:w.heap.size=k
 ·subst hk;simp
 ·simp [hk]

def IntsAt(w:World)(v:Value)(zs:List Int):Prop:=
 zs.length≤140737488355328∧(∀z∈zs,-9223372036854775808≤z∧z≤9223372036854775807)∧
 ∃a cap,v= .slice a zs.length cap∧(zs.length=0∨∃b off,a=some ⟨b,off,none⟩∧b<w.heap.size∧∀i,i<zs.length→w.cell? ⟨b,off+i,none⟩=some (.int .i64 (zs.getD i 0)))
theorem IntsAt.grow{v:Value}{zs:List Int}(h:IntsAt w v zs)(bs:Array Obj)(d:Nat):IntsAt (w.grow bs d) v zs:=by
 obtain⟨h0,hr,a,cap,hv,h1⟩:=h
 refine⟨h0,hr,a,cap,hv,h1.imp id ?_⟩
 rintro⟨b,off,ha,hb,hc⟩
 refine⟨b,off,ha,by simp;omega,fun i hi=>?_⟩
 rw [World.cell?_grow _ _ _ hb]
 exact hc i hi
end
end Go
namespace Go.Proofs.YtfoefpoaomepbaaGreatDoor
open Go.RowKit

theorem next_out(s:Nat)(p len cap:Nat)(a:Option Addr)(left k:Int)(Y:World)(hs:s<Y.heap.size)(hp:len≤p)(hpm:p≤4611686018427387904)(hk:k≤4611686018427387904) :
 Calls Tryz.prog 74 #[.pointer (some ⟨s,0,none⟩),.int .i64 k] (Y.src s (.slice a len cap) p left) fun e w'=>e= .returned (.int .i64 (pick 0 k))∧∃n,w'=(Y.src s (.slice a len cap) (p+1) left).drewN n:=by
 have d1:decide ((p:Int)<(len:Int))=false:=by simp;omega
 go_enter Tryz.func74,Tryz.ntmps74
 go_wp2_with fail
 go_quiet (fail)
 skip
 go_wp2_with (first|(go_at_call 10;refine(Pick_any _ _ _ (by omega)).mono ?_;rintro e w' ⟨rfl,rfl⟩))
 go_returns
 exact⟨rfl,_,rfl⟩

theorem next_in(s:Nat)(p len cap b off:Nat)(left k z:Int)(Y:World)(hs:s<Y.heap.size)(hp:p<len)(hlen:len≤140737488355328)(hk:k≤4611686018427387904)(hbs:b≠s)(hz:Y.cell? ⟨b,off+p,none⟩=some (.int .i64 z)) :
 Calls Tryz.prog 74 #[.pointer (some ⟨s,0,none⟩),.int .i64 k] (Y.src s (.slice (some ⟨b,off,none⟩) len cap) p left) fun e w'=>e= .returned (.int .i64 (pick z k))∧∃n,w'=(Y.src s (.slice (some ⟨b,off,none⟩) len cap) (p+1) left).drewN n:=by
 have d1:(p:Int)<(len:Int):=by omega
 have d0:(0:Int)≤(p:Int):=by omega
 go_enter Tryz.func74,Tryz.ntmps74
 go_wp2_with fail
 go_quiet (fail)
 (go_wp2_with fail;go_quiet (fail))
 go_wp2_with (first|(go_at_call 10;refine(Pick_any _ _ _ (by omega)).mono ?_;rintro e w' ⟨rfl,rfl⟩))
 go_returns
 exact⟨rfl,_,rfl⟩

def ListAt(w:World)(s:Nat)(lv:Value)(zs:List Int):Prop:=
 zs.length≤140737488355328∧
 ∃a cap,lv= .slice a zs.length cap∧(zs.length=0∨∃b off,a=some ⟨b,off,none⟩∧b<w.heap.size∧b≠s∧∀i,i<zs.length→w.cell? ⟨b,off+i,none⟩=some (.int .i64 (zs.getD i 0)))

def nextV(zs:List Int)(p:Nat)(k:Int):Int:=pick (zs.getD p 0) k

theorem next_any(s:Nat)(lv:Value)(zs:List Int)(p:Nat)(P left k:Int)(X:World)(hP:P=p)(hs:s<X.heap.size)(hX:X.src s lv P left=X)(hl:ListAt X s lv zs)(hp:p≤4611686018427387904)(hk:k≤4611686018427387904) :
 Calls Tryz.prog 74 #[.pointer (some ⟨s,0,none⟩),.int .i64 k] X fun e w'=>e= .returned (.int .i64 (nextV zs p k))∧∃n,w'=(X.src s lv (P+1) left).drewN n:=by
 subst hP
 obtain⟨hlen,a,cap,rfl,hc⟩:=hl
 by_cases h:p<zs.length
 ·rcases hc with h0|⟨b,off,rfl,hb,hbs,hc⟩
  ·omega
  ·have:=next_in s p zs.length cap b off left k (zs.getD p 0) X hs h hlen hk hbs (hc p h)
   rw [hX]at this
   exact this
 ·have:=next_out s p zs.length cap a left k X hs (by omega) hp hk
  rw [hX]at this
  rw [nextV,List.getD_eq_getElem?_getD,List.getElem?_eq_none (by omega)]
  exact this

theorem ListAt.of_cells{w w':World}{s:Nat}{lv:Value}{zs:List Int}(h:ListAt w s lv zs)(hsz:w.heap.size≤w'.heap.size)(hc:∀b o,b<w.heap.size→b≠s→w'.cell? ⟨b,o,none⟩=w.cell? ⟨b,o,none⟩):ListAt w' s lv zs:=by
 obtain⟨h0,a,cap,hv,h1⟩:=h
 refine⟨h0,a,cap,hv,h1.imp id ?_⟩
 rintro⟨b,off,ha,hb,hbs,hcc⟩
 exact⟨b,off,ha,by omega,hbs,fun i hi=>by rw [hc b _ hb hbs];exact hcc i hi⟩
theorem ListAt.grow{w:World}{s:Nat}{lv:Value}{zs:List Int}(h:ListAt w s lv zs)(bs:Array Obj)(d:Nat):ListAt (w.grow bs d) s lv zs:=
 h.of_cells (by simp) fun b o hb _=>World.cell?_grow _ _ _ hb
theorem ListAt.alloc{w:World}{s:Nat}{lv:Value}{zs:List Int}(h:ListAt w s lv zs)(o:Obj):ListAt (w.alloc o) s lv zs:=
 h.of_cells (by simp) fun b i hb _=>World.cell?_alloc_lt w o ⟨b,i,none⟩ hb
theorem ListAt.drewN{w:World}{s:Nat}{lv:Value}{zs:List Int}(h:ListAt w s lv zs)(n:Nat):ListAt (w.drewN n) s lv zs:=
 h.of_cells (Nat.le_refl _) fun _ _ _ _=>rfl
theorem ListAt.src{w:World}{s:Nat}{lv:Value}{zs:List Int}(h:ListAt w s lv zs)(lv':Value)(p left:Int):ListAt (w.src s lv' p left) s lv zs:=
 h.of_cells (by simp) fun _ _ _ hbs=>World.cell?_src_other hbs

def denOf(i:Int):Int:=if i<3 then 1 else if i=3 then 10 else if i=4 then 4 else if i=5 then 1000 else 10000
def numN(zs:List Int)(p:Nat):Int:=mkN (nextV zs p 4000) (denOf (nextV zs (p+1) 7))
def numD(zs:List Int)(p:Nat):Int:=mkD (nextV zs p 4000) (denOf (nextV zs (p+1) 7))
theorem nextV_bd(zs:List Int)(p:Nat)(k:Int)(hk:1≤k):0≤nextV zs p k∧nextV zs p k<k:=pick_bd _ _ hk

theorem number_any(s:Nat)(lv:Value)(zs:List Int)(p:Nat)(P left:Int)(X:World)(hP:P=p)(hs:s<X.heap.size)(hX:X.src s lv P left=X)(hl:Hid (ListAt X s lv zs))(hp:p≤4611686018427387000) :
 Calls Tryz.prog 79 #[.pointer (some ⟨s,0,none⟩)] X fun e w'=>e= .returned (.agg #[.int .i64 (numN zs p),.int .i64 (numD zs p)])∧(X.src s lv (P+2) left).Grows w':=by
 subst hP
 rw [←hX]
 clear hX
 unfold numN numD
 have b1:=nextV_bd zs p 4000 (by omega)
 have b2:=nextV_bd zs (p+1) 7 (by omega)
 generalize hV:nextV zs (p+1) 7=v at *
 have HV:=Lib.hid hV
 clear hV
 generalize hU:nextV zs p 4000=u at *
 have HU:=Lib.hid hU
 clear hU
 rcases(show v=0∨v=1∨v=2∨v=3∨v=4∨v=5∨v=6 by omega)with rfl|rfl|rfl|rfl|rfl|rfl|rfl
 all_goals
  simp only [denOf,reduceIte,Int.reduceLT,Int.reduceEq]
  go_enter Tryz.func79,Tryz.ntmps79
  go_wp2_with fail
  refine(next_any s lv zs p p left _ _ rfl (by simp;omega) (by simp [go_sem,hs]) (by(repeat' (first|(with_reducible exact hl.out)|(with_reducible refine ListAt.alloc ?_ _)|(with_reducible refine ListAt.grow ?_ _ _)|(with_reducible refine ListAt.drewN ?_ _)|(with_reducible refine ListAt.src ?_ _ _ _)))) (by omega) (by omega)).mono ?_
  rintro e w' ⟨rfl,n1,rfl⟩
  rw [HU.out]
  go_wp2_with fail
  refine(next_any s lv zs (p+1) (p+1) left _ _ (by simp) (by simp;omega) (by simp [go_sem,hs]) (by(repeat' (first|(with_reducible exact hl.out)|(with_reducible refine ListAt.alloc ?_ _)|(with_reducible refine ListAt.grow ?_ _ _)|(with_reducible refine ListAt.drewN ?_ _)|(with_reducible refine ListAt.src ?_ _ _ _)))) (by omega) (by omega)).mono ?_
  rintro e w' ⟨rfl,n2,rfl⟩
  rw [HV.out]
  go_wp2_with fail
  refine(MakeFraction_any _ _ _ (by omega) (by omega) (by omega) (by omega)).mono ?_
  rintro e w' ⟨rfl,bs,dr,rfl⟩
  go_wp2_with fail
  go_returns
  rw [World.src_src,show(p:Int)+1+1=p+2 by omega]
  exact⟨rfl,.of_below belB⟩

inductive Ex where
 |mk (op num den dim:Int) (name:ByteArray) (args:List Ex)
namespace Ex
def op:Ex→Int|mk o _ _ _ _ _=>o
def num:Ex→Int|mk _ n _ _ _ _=>n
def den:Ex→Int|mk _ _ d _ _ _=>d
def dim:Ex→Int|mk _ _ _ d _ _=>d
def name:Ex→ByteArray|mk _ _ _ _ s _=>s
def args:Ex→List Ex|mk _ _ _ _ _ l=>l
instance:Inhabited Ex:=⟨mk 0 0 0 0 ByteArray.empty []⟩
def arg(e:Ex)(i:Nat):Ex:=e.args.getD i default
mutual
def size:Ex→Nat
 |mk _ _ _ _ _ l=>sizes l+1
def sizes:List Ex→Nat
 | []=>0
 |e::r=>size e+sizes r
end
mutual
def depth:Ex→Nat
 |mk _ _ _ _ _ l=>depths l+1
def depths:List Ex→Nat
 | []=>0
 |e::r=>max (depth e) (depths r)
end
theorem size_eq(e:Ex):e.size=sizes e.args+1:=by cases e;rw [size];rfl
theorem depth_eq(e:Ex):e.depth=depths e.args+1:=by cases e;rw [depth];rfl
theorem sizes_append(a b:List Ex):sizes (a++b)=sizes a+sizes b:=by
 induction a with
 |nil=>simp [sizes]
 |cons e r ih=>simp only [List.cons_append,sizes,ih];omega
theorem depths_append(a b:List Ex):depths (a++b)=max (depths a) (depths b):=by
 induction a with
 |nil=>simp [depths]
 |cons e r ih=>simp only [List.cons_append,depths,ih];omega
theorem size_pos(e:Ex):1≤e.size:=by rw [size_eq];omega
theorem size_getD(l:List Ex)(i:Nat)(h:i<l.length):(l.getD i default).size≤sizes l:=by
 induction l generalizing i with
 |nil=>simp at h
 |cons e r ih=>
  cases i with
  |zero=>simp [sizes]
  |succ i=>have:=ih i (by simpa using h);simp only [List.getD_cons_succ,sizes];omega
theorem size_arg(e:Ex)(i:Nat)(h:i<e.args.length):(e.arg i).size<e.size:=by
 have:=size_getD e.args i h
 rw [size_eq e];unfold arg;omega
theorem length_sizes(l:List Ex):l.length≤sizes l:=by
 induction l with
 |nil=>simp
 |cons e r ih=>have:=size_pos e;simp only [List.length_cons,sizes];omega
mutual
theorem depth_size:∀e:Ex,e.depth≤e.size
 |mk _ _ _ _ _ l=>by rw [depth,size];have:=depths_sizes l;omega
theorem depths_sizes:∀l:List Ex,depths l≤sizes l
 | []=>by simp [depths,sizes]
 |e::r=>by rw [depths,sizes];have:=depth_size e;have:=depths_sizes r;omega
end
theorem take_succ(l:List Ex)(k:Nat)(h:k<l.length):l.take (k+1)=l.take k++[l.getD k default]:=by
 rw [List.take_succ_eq_append_getElem h,List.getD_eq_getElem?_getD,List.getElem?_eq_getElem h];rfl
theorem sizes_take(e:Ex)(k:Nat)(h:k<e.args.length):sizes (e.args.take (k+1))=sizes (e.args.take k)+(e.arg k).size:=by
 rw [take_succ _ _ h,sizes_append];simp [sizes,arg]
theorem depths_take(e:Ex)(k:Nat)(h:k<e.args.length):depths (e.args.take (k+1))=max (depths (e.args.take k)) (e.arg k).depth:=by
 rw [take_succ _ _ h,depths_append];simp [depths,arg]
theorem sizes_take_le(e:Ex)(k:Nat):sizes (e.args.take k)≤sizes e.args:=by
 conv=>rhs;rw [←List.take_append_drop k e.args]
 rw [sizes_append];omega
end Ex

structure ExAt(w:World)(b o:Nat)(e:Ex)(v:Value):Prop where
 c0:w.cell? ⟨b,o,none⟩=some (.int .i64 e.op)
 c1:w.cell? ⟨b,o+1,none⟩=some (.int .i64 e.num)
 c2:w.cell? ⟨b,o+2,none⟩=some (.int .i64 e.den)
 c3:w.cell? ⟨b,o+3,none⟩=some (.int .i64 e.dim)
 c4:w.cell? ⟨b,o+4,none⟩=some (.string e.name)
 c5:w.cell? ⟨b,o+5,none⟩=some v

def I64(z:Int):Prop:=-9223372036854775808≤z∧z≤9223372036854775807
structure ExRng(e:Ex):Prop where
 op:I64 e.op
 num:I64 e.num
 den:I64 e.den
 dim:I64 e.dim
 len:e.args.length≤140737488355328
 name:e.name.size≤140737488355328

inductive RepE(S:Nat→Prop)(w:World):Ex→Value→Prop
 |mk (e:Ex) (a:Option Addr) (cap:Nat) (vs:Nat→Value) (hr:ExRng e)
  (hc:e.args.length=0∨∃b off,a=some ⟨b,off,none⟩∧S b∧b<w.heap.size∧∀i,i<e.args.length→ExAt w b (off+i*6) (e.arg i) (vs i))
  (hs:∀i,i<e.args.length→RepE S w (e.arg i) (vs i)):RepE S w e (.slice a e.args.length cap)

theorem ExAt.same{w w':World}{b o:Nat}{e:Ex}{v:Value}(h:ExAt w b o e v)(hw:∀o,w'.cell? ⟨b,o,none⟩=w.cell? ⟨b,o,none⟩):ExAt w' b o e v:=
 ⟨by rw [hw];exact h.c0,by rw [hw];exact h.c1,by rw [hw];exact h.c2,by rw [hw];exact h.c3,by rw [hw];exact h.c4,by rw [hw];exact h.c5⟩

theorem RepE.keep{S:Nat→Prop}{w w':World}{e:Ex}{v:Value}(h:RepE S w e v)(hsz:w.heap.size≤w'.heap.size)(hw:∀b o,S b→b<w.heap.size→w'.cell? ⟨b,o,none⟩=w.cell? ⟨b,o,none⟩):RepE S w' e v:=by
 induction h with
 |mk e a cap vs hr hc hs ih=>
  refine .mk e a cap vs hr (hc.imp id ?_) ih
  rintro⟨b,off,ha,hS,hb,hx⟩
  exact⟨b,off,ha,hS,by omega,fun i hi=>(hx i hi).same fun o=>hw b o hS hb⟩
theorem RepE.grow{S:Nat→Prop}{w:World}{e:Ex}{v:Value}(h:RepE S w e v)(bs:Array Obj)(d:Nat):RepE S (w.grow bs d) e v:=
 h.keep (by simp) fun b o _ hb=>World.cell?_grow _ _ _ hb
theorem RepE.alloc{S:Nat→Prop}{w:World}{e:Ex}{v:Value}(h:RepE S w e v)(o:Obj):RepE S (w.alloc o) e v:=
 h.keep (by simp) fun b i _ hb=>World.cell?_alloc_lt w o ⟨b,i,none⟩ hb
theorem RepE.mono{S S':Nat→Prop}{w:World}{e:Ex}{v:Value}(h:RepE S w e v)(hS:∀b,S b→S' b):RepE S' w e v:=by
 induction h with
 |mk e a cap vs hr hc hs ih=>
  refine .mk e a cap vs hr (hc.imp id ?_) ih
  rintro⟨b,off,ha,hb,hx⟩
  exact⟨b,off,ha,hS b hb,hx⟩
theorem RepE.rng{S:Nat→Prop}{w:World}{e:Ex}{v:Value}(h:RepE S w e v):ExRng e:=by cases h;assumption

abbrev exV(e:Ex)(v:Value):Value:=.agg #[.int .i64 e.op,.int .i64 e.num,.int .i64 e.den,.int .i64 e.dim,.string e.name,v]

def szT(e:Ex)(k:Nat):Int:=(1+Ex.sizes (e.args.take k):Nat)
def dpT(e:Ex)(k:Nat):Int:=(Ex.depths (e.args.take k):Nat)
theorem szT_zero(e:Ex):szT e 0=1:=by simp [szT,Ex.sizes]
theorem szT_succ(e:Ex)(k:Nat)(h:k<e.args.length):szT e (k+1)=szT e k+((e.arg k).size:Int):=by unfold szT;rw [Ex.sizes_take e k h];omega
theorem szT_bd(e:Ex)(k:Nat):1≤szT e k∧szT e k≤e.size:=by unfold szT;have:=Ex.sizes_take_le e k;rw [e.size_eq];omega
theorem szT_all(e:Ex)(k:Nat)(h:e.args.length≤k):szT e k=e.size:=by unfold szT;rw [List.take_of_length_le h,e.size_eq];omega
theorem dpT_zero(e:Ex):dpT e 0=0:=by simp [dpT,Ex.depths]
theorem dpT_succ(e:Ex)(k:Nat)(h:k<e.args.length):dpT e (k+1)=max (dpT e k) ((e.arg k).depth:Int):=by unfold dpT;rw [Ex.depths_take e k h];omega
theorem dpT_bd(e:Ex)(k:Nat):0≤dpT e k∧dpT e k≤e.size:=by
 unfold dpT
 have:=Ex.depths_sizes (e.args.take k)
 have:=Ex.sizes_take_le e k
 rw [e.size_eq];omega
theorem dpT_all(e:Ex)(k:Nat)(h:e.args.length≤k):dpT e k+1=e.depth:=by unfold dpT;rw [List.take_of_length_le h,e.depth_eq];omega

theorem Size_walk(S:Nat→Prop)(n:Nat):∀(e:Ex),e.size≤n→∀(v:Value) (w:World),RepE S w e v→Hid (e.size≤2305843009213693952)→
 Calls Tryz.prog 17 #[exV e v] w fun r w'=>r= .returned (.int .i64 (e.size:Nat))∧w.Grows w':=by
 induction n with
 |zero=>intro e he;have:=e.size_pos;omega
 |succ n ih=>
  intro e he v w h hbig
  have IH:=Lib.hid ih
  clear ih
  cases h with
  |mk _ a cap vs hr hc hs=>
   have hlen:=hr.len
   have Hs:=Lib.hid hs
   have He:=Lib.hid he
   have Hc:=Lib.hid hc
   clear hr hs he hc
   go_enter Tryz.func17,Tryz.ntmps17
   go_wp2_with fail
   go_loopw [3,4] (fun v3 v4 wr=>∃k:Nat,k≤e.args.length∧v3= .int .i64 (szT e k)∧v4= .int .i64 k∧
    World.Grows (w.alloc (.cells #[.int .i64 e.op,.int .i64 e.num,.int .i64 e.den,.int .i64 e.dim,.string e.name,.slice a e.args.length cap] 27)) wr) (fun _ v4 _=>e.args.length-(intOf v4).toNat)
   case atStart=>exact⟨0,by omega,by rw [szT_zero],rfl,.refl _⟩
   case round=>
    obtain⟨k,hk,rfl,rfl,bs,d,rfl⟩:=hrel
    have hb:=szT_bd e k
    have hb0:1≤szT e k:=hb.1
    have hb1:szT e k≤2305843009213693952:=by have:=hbig.out;omega
    clear hb
    by_cases hlt:k<e.args.length
    ·rcases Hc.out with h0|⟨b,off,rfl,hS,hbw,hx⟩
     ·omega
     ·obtain⟨x0,x1,x2,x3,x4,x5⟩:=hx k hlt
      clear hx
      have hlt1:(k:Int)<(e.args.length:Int):=by omega
      have HN:=Lib.hid (szT_succ e k hlt)
      have HA:=Lib.hid (e.size_arg k hlt)
      have hs1:((e.arg k).size:Int)≤2305843009213693952:=by have:=hbig.out;have:=HA.out;omega
      go_wp2_with fail
      refine(IH.out (e.arg k) (by have:=He.out;have:=HA.out;omega) (vs k) _ (((Hs.out k hlt).alloc _).grow _ _) (by have:=hbig.out;have:=HA.out;show _≤_;omega)).mono ?_
      rintro r w' ⟨rfl,bs2,d2,rfl⟩
      go_wp2_with fail
      go_roundw
      case rel=>exact⟨k+1,by omega,by rw [HN.out],by go_num,.of_below belB⟩
      case measure=>simp [intOf];omega
    ·have HN:=Lib.hid (szT_all e k (by omega))
     obtain rfl:k=e.args.length:=by omega
     go_wp2_with fail
     go_returns
     exact⟨ret_int HN.out,.of_below belB⟩

theorem Depth_walk(S:Nat→Prop)(n:Nat):∀(e:Ex),e.size≤n→∀(v:Value) (w:World),RepE S w e v→Hid (e.size≤2305843009213693952)→
 Calls Tryz.prog 76 #[exV e v] w fun r w'=>r= .returned (.int .i64 (e.depth:Nat))∧w.Grows w':=by
 induction n with
 |zero=>intro e he;have:=e.size_pos;omega
 |succ n ih=>
  intro e he v w h hbig
  have IH:=Lib.hid ih
  clear ih
  cases h with
  |mk _ a cap vs hr hc hs=>
   have hlen:=hr.len
   have Hs:=Lib.hid hs
   have He:=Lib.hid he
   have Hc:=Lib.hid hc
   clear hr hs he hc
   go_enter Tryz.func76,Tryz.ntmps76
   go_wp2_with fail
   go_loopw [3,4] (fun v3 v4 wr=>∃k:Nat,k≤e.args.length∧v3= .int .i64 (dpT e k)∧v4= .int .i64 k∧
    World.Grows (w.alloc (.cells #[.int .i64 e.op,.int .i64 e.num,.int .i64 e.den,.int .i64 e.dim,.string e.name,.slice a e.args.length cap] 27)) wr) (fun _ v4 _=>e.args.length-(intOf v4).toNat)
   case atStart=>exact⟨0,by omega,by rw [dpT_zero],rfl,.refl _⟩
   case round=>
    obtain⟨k,hk,rfl,rfl,bs,d,rfl⟩:=hrel
    have hb:=dpT_bd e k
    have hb0:0≤dpT e k:=hb.1
    have hb1:dpT e k≤2305843009213693952:=by have:=hbig.out;omega
    clear hb
    by_cases hlt:k<e.args.length
    ·rcases Hc.out with h0|⟨b,off,rfl,hS,hbw,hx⟩
     ·omega
     ·obtain⟨x0,x1,x2,x3,x4,x5⟩:=hx k hlt
      clear hx
      have hlt1:(k:Int)<(e.args.length:Int):=by omega
      have HN:=Lib.hid (dpT_succ e k hlt)
      have HA:=Lib.hid (e.size_arg k hlt)
      have hs1:((e.arg k).depth:Int)≤2305843009213693952:=by have:=hbig.out;have:=HA.out;have:=(e.arg k).depth_size;omega
      go_wp2_with fail
      refine(IH.out (e.arg k) (by have:=He.out;have:=HA.out;omega) (vs k) _ (((Hs.out k hlt).alloc _).grow _ _) (by have:=hbig.out;have:=HA.out;show _≤_;omega)).mono ?_
      rintro r w' ⟨rfl,bs2,d2,rfl⟩
      go_wp2_with fail
      go_roundw
      case rel=>exact⟨k+1,by omega,by rw [HN.out],by go_num,.of_below belB⟩
      case measure=>simp [intOf];omega
    ·have HN:=Lib.hid (dpT_all e k (by omega))
     obtain rfl:k=e.args.length:=by omega
     go_wp2_with fail
     go_returns
     exact⟨ret_int HN.out,.of_below belB⟩
end Go.Proofs.YtfoefpoaomepbaaGreatDoor
namespace Go.Proofs.YtfoefpoaomepbaaGreatDoor
open Go.RowKit

def lowc(c:Int):Bool:=decide (97≤c)&&decide (c≤122)
def digc(c:Int):Bool:=decide (48≤c)&&decide (c≤57)

theorem letter1_any(c:Int)(w:World):Calls Tryz.prog 108 #[.int .u8 c] w fun e w'=>e= .returned (.bool (lowc c))∧w=w':=by
 by_cases c1:97≤c
 ·by_cases c2:c≤122
  ·go_enter Tryz.func108,Tryz.ntmps108
   go_wp2
   go_returns
   exact⟨ret_bool (by simp [lowc,c1,c2]),rfl⟩
  ·go_enter Tryz.func108,Tryz.ntmps108
   exact tz38
 ·go_enter Tryz.func108,Tryz.ntmps108
  exact tz38
theorem digit1_any(c:Int)(w:World):Calls Tryz.prog 109 #[.int .u8 c] w fun e w'=>e= .returned (.bool (digc c))∧w=w':=by
 by_cases c1:48≤c
 ·by_cases c2:c≤57
  ·go_enter Tryz.func109,Tryz.ntmps109
   go_wp2
   go_returns
   exact⟨ret_bool (by simp [digc,c1,c2]),rfl⟩
  ·go_enter Tryz.func109,Tryz.ntmps109
   exact tz39
 ·go_enter Tryz.func109,Tryz.ntmps109
  exact tz39
def argsN(op:Int):Int:=if 1≤op∧op≤3 then 0 else if 4≤op∧op≤6 then 1 else if 7≤op∧op≤20 then 2 else if op=21 then 3 else -1
theorem Args_any(op:Int)(w:World):Calls Tryz.prog 59 #[.int .i64 op] w fun e w'=>e= .returned (.int .i64 (argsN op))∧w=w':=by
 by_cases c1:op<1
 ·exact tz22
 ·by_cases c2:op≤3
  ·exact tz22
  ·by_cases c3:op≤6
   ·exact tz22
   ·by_cases c4:op≤20
    ·exact tz22
    ·by_cases c5:op=21
     ·subst c5
      go_enter Tryz.func59,Tryz.ntmps59
      go_wp2
      go_returns
      exact⟨ret_int (by simp [argsN]),rfl⟩
     ·exact tz22
def byt(s:ByteArray)(i:Nat):Int:=if h:i<s.size then(s[i].toNat:Int)else 0
theorem byt_eq(s:ByteArray)(i:Nat)(h:i<s.size):byt s i=(s[i].toNat:Int):=by simp [byt,h]
def wordC(i:Nat)(c:Int):Bool:=lowc c || (i !=0&&(digc c || decide (c=95)))
def isWord(s:ByteArray):Bool:=decide (∀i,i<s.size→wordC i (byt s i)=true)&&decide (1≤s.size)&&decide (s.size≤12)
theorem isWord_no(s:ByteArray)(k:Nat)(h:k<s.size)(hc:wordC k (s[k].toNat:Int)=false):isWord s=false:=by
 have:¬∀i,i<s.size→wordC i (byt s i)=true:=fun f=>by have:=f k h;rw [byt_eq s k h,hc]at this;cases this
 simp only [isWord,decide_eq_false this,Bool.false_and]
theorem isWord_all(s:ByteArray)(h:∀i,i<s.size→wordC i (byt s i)=true):isWord s=(decide (1≤s.size)&&decide (s.size≤12)):=by
 simp only [isWord,decide_eq_true h,Bool.true_and]
theorem IsWord_any(s:ByteArray)(w:World)(hs:s.size≤maxLen):Calls Tryz.prog 51 #[.string s] w fun e w'=>e= .returned (.bool (isWord s))∧w=w':=by
 unfold maxLen at hs
 go_enter Tryz.func51,Tryz.ntmps51
 go_wp2
 go_loop [3] (fun i=>∃k:Nat,k≤s.size∧i= .int .i64 k∧∀j,j<k→wordC j (byt s j)=true) (fun i=>s.size-(intOf i).toNat)
 case atStart=>exact⟨0,Nat.zero_le _,rfl,fun j hj=>absurd hj (Nat.not_lt_zero _)⟩
 case round=>
  obtain⟨k,hk,rfl,hall⟩:=hrel
  by_cases hk2:k<s.size
  ·cases hL:lowc (s[k].toNat:Int)
   ·by_cases h0:k=0
    ·subst h0
     go_wp2_with ((go_at_call 108;(with_reducible refine(letter1_any _ _).mono ?_);rintro e w' ⟨rfl,rfl⟩;simp only [hL]))
     go_ret
     exact⟨ret_bool (isWord_no s 0 hk2 (by simp [wordC,hL])).symm,rfl⟩
    ·cases hD:digc (s[k].toNat:Int)
     ·by_cases hU:(s[k].toNat:Int)=95
      ·go_wp2_with (first|((go_at_call 108;(with_reducible refine(letter1_any _ _).mono ?_);rintro e w' ⟨rfl,rfl⟩;simp only [hL]))|((go_at_call 109;(with_reducible refine(digit1_any _ _).mono ?_);rintro e w' ⟨rfl,rfl⟩;simp only [hD])))
       go_round
       case rel=>exact⟨k+1,by omega,by go_num,fun i hi=>by
        by_cases e:i=k
        ·subst e;rw [byt_eq s i hk2];simp [wordC,hL,hD,hU,h0]
        ·exact hall i (by omega)⟩
       case measure=>simp [intOf];omega
      ·go_wp2_with (first|((go_at_call 108;(with_reducible refine(letter1_any _ _).mono ?_);rintro e w' ⟨rfl,rfl⟩;simp only [hL]))|((go_at_call 109;(with_reducible refine(digit1_any _ _).mono ?_);rintro e w' ⟨rfl,rfl⟩;simp only [hD])))
       all_goals first
        |(go_ret
          exact⟨ret_bool (isWord_no s k hk2 (by simp [wordC,hL,hD,hU])).symm,rfl⟩)
        |(exfalso;simp_all)
     ·go_wp2_with (first|((go_at_call 108;(with_reducible refine(letter1_any _ _).mono ?_);rintro e w' ⟨rfl,rfl⟩;simp only [hL]))|((go_at_call 109;(with_reducible refine(digit1_any _ _).mono ?_);rintro e w' ⟨rfl,rfl⟩;simp only [hD])))
      go_round
      case rel=>exact⟨k+1,by omega,by go_num,fun i hi=>by
       by_cases e:i=k
       ·subst e;rw [byt_eq s i hk2];simp [wordC,hL,hD,h0]
       ·exact hall i (by omega)⟩
      case measure=>simp [intOf];omega
   ·go_wp2_with ((go_at_call 108;(with_reducible refine(letter1_any _ _).mono ?_);rintro e w' ⟨rfl,rfl⟩;simp only [hL]))
    go_round
    case rel=>exact⟨k+1,by omega,by go_num,fun i hi=>by
     by_cases e:i=k
     ·subst e;rw [byt_eq s i hk2];simp [wordC,hL]
     ·exact hall i (by omega)⟩
    case measure=>simp [intOf];omega
  ·have:k=s.size:=by omega
   subst this
   by_cases h1:1≤s.size
   ·go_wp2
    go_ret
    exact⟨ret_bool (by rw [isWord_all s hall];simp [h1];omega),rfl⟩
   ·go_wp2
    go_ret
    exact⟨ret_bool (by rw [isWord_all s hall];simp [h1]),rfl⟩
def keyL:List (List UInt8):=[[97,110,100],[98,101,115,116],[98,121],[99,114,101,100,105,116],[99,117,114,114,101,110,99,121],[101,108,115,101],[102,108,111,111,114],[102,114,111,109],[103,114,97,110,116],[105,102],[105,110,100,101,120],[108,101,116],[108,105,109,105,116],[109,97,120],[109,105,110],[110,111,116],[111,114],[112,97,121],[114,101,100,117,99,101],[114,111,117,110,100],[115,116,97,116,117,116,101],[116,104,101,110]
 ]
def keyB(s:ByteArray):Bool:=keyL.contains s.toList
theorem keyword_any(s:ByteArray)(w:World):Calls Tryz.prog 98 #[.string s] w fun e w'=>e= .returned (.bool (keyB s))∧w=w':=by
 go_enter Tryz.func98,Tryz.ntmps98
 exact tz52
def nameB(s:ByteArray):Bool:=isWord s&&!keyB s
theorem IsName_any(s:ByteArray)(w:World)(hs:s.size≤maxLen):Calls Tryz.prog 44 #[.string s] w fun e w'=>e= .returned (.bool (nameB s))∧w=w':=by
 cases hW:isWord s<;>
 ·go_enter Tryz.func44,Tryz.ntmps44
  go_wp2_with (first|(go_at_call 51;(with_reducible refine(IsWord_any _ _ (by assumption)).mono ?_);rintro e w' ⟨rfl,rfl⟩;simp only [hW])|(go_at_call 98;(with_reducible refine(keyword_any _ _).mono ?_);rintro e w' ⟨rfl,rfl⟩))
  go_returns
  exact⟨ret_bool (by simp [nameB,hW]),rfl⟩

def tenS:ByteArray:=⟨#[48,49,50,51,52,53,54,55,56,57]⟩
def digG:Nat→Int→Nat→ByteArray→ByteArray
 |0,_,_,s=>s
 |f+1,n,l,s=>if 0<n∨s.size<l then digG f (n / 10) l (tenS.extract (n % 10).toNat (n % 10+1).toNat++s)else s
def digS(n:Int)(l:Nat):ByteArray:=digG (n.toNat+l) n l ByteArray.empty
theorem digG_stop(f:Nat)(n:Int)(l:Nat)(s:ByteArray)(h:¬(0<n∨s.size<l)):digG f n l s=s:=by
 cases f with
 |zero=>rfl
 |succ f=>simp only [digG,if_neg h]
theorem digG_go(f:Nat)(n:Int)(l:Nat)(s:ByteArray)(h:0<n∨s.size<l)(hf:n.toNat+(l-s.size)≤f) :
 digG f n l s=digG (f-1) (n / 10) l (tenS.extract (n % 10).toNat (n % 10+1).toNat++s):=by
 cases f with
 |zero=>omega
 |succ f=>simp only [digG,if_pos h];rfl
theorem tenS_size:tenS.size=10:=rfl
theorem ten_piece(m:Int)(s:ByteArray):(tenS.extract (m % 10).toNat (m % 10+1).toNat++s).size=s.size+1:=by
 rw [ByteArray.size_append,ByteArray.size_extract,tenS_size];omega
theorem digG_size:∀(f:Nat) (n:Int) (l:Nat) (s:ByteArray),0≤n→(digG f n l s).size≤s.size+n.toNat+(l-s.size)
 |0,_,_,_,_=>by simp only [digG];omega
 |f+1,n,l,s,h=>by
  simp only [digG]
  split
  ·have:=digG_size f (n / 10) l (tenS.extract (n % 10).toNat (n % 10+1).toNat++s) (by omega)
   rw [ten_piece]at this
   omega
  ·omega
theorem digS_size(n:Int)(l:Nat)(h:0≤n):(digS n l).size≤n.toNat+l:=by
 have:=digG_size (n.toNat+l) n l ByteArray.empty h
 have e:ByteArray.empty.size=0:=rfl
 unfold digS;omega
theorem digits1_any(n:Int)(l:Nat)(w:World)(h0:0≤n)(h1:n≤9223372036854775807)(hl:l≤4):Calls Tryz.prog 188 #[.int .i64 n,.int .i64 l] w fun e w'=>e= .returned (.string (digS n l))∧w=w':=by
 go_enter Tryz.func188,Tryz.ntmps188
 go_wp2
 go_loop [0,5] (fun a b=>∃m:Int,∃s:ByteArray,∃f:Nat,0≤m∧(s.size:Int)+m≤9223372036854775807∧a= .int .i64 m∧b= .string s∧m.toNat+(l-s.size)≤f∧Hid (digG f m l s=digS n l)) (fun a b=>(intOf a).toNat+(l-(match b with| .string s=>s.size|_=>0)))
 case atStart=>exact⟨n,_,n.toNat+l,h0,by show((0:Nat):Int)+n≤_;omega,rfl,rfl,by omega,Lib.hid rfl⟩
 case round=>
  obtain⟨m,s,f,hm0,hm1,rfl,rfl,hf,hg⟩:=hrel
  have hr:0≤m % 10∧m % 10<10:=by omega
  have hpc:Hid (_):=Lib.hid (ten_piece m s)
  by_cases hp:0<m
  ·go_wp2
   go_round
   case rel=>exact⟨m / 10,_,f-1,by omega,by rw [show({data:=#[48,49,50,51,52,53,54,55,56,57]}:ByteArray)=tenS from rfl,hpc.out];omega,rfl,rfl,by rw [show({data:=#[48,49,50,51,52,53,54,55,56,57]}:ByteArray)=tenS from rfl,hpc.out];omega,Lib.hid (by rw [←hg.out,digG_go f m l s (.inl hp) hf];rfl)⟩
   case measure=>
    exact tz56
  ·by_cases hq:s.size<l
   ·go_wp2
    go_round
    case rel=>exact⟨m / 10,_,f-1,by omega,by rw [show({data:=#[48,49,50,51,52,53,54,55,56,57]}:ByteArray)=tenS from rfl,hpc.out];omega,rfl,rfl,by rw [show({data:=#[48,49,50,51,52,53,54,55,56,57]}:ByteArray)=tenS from rfl,hpc.out];omega,Lib.hid (by rw [←hg.out,digG_go f m l s (.inr hq) hf];rfl)⟩
    case measure=>
     exact tz56
   ·go_wp2
    go_returns
    exact⟨by rw [←hg.out,digG_stop f m l s (by omega)];rfl,rfl⟩

theorem ret_str{a b:ByteArray}(h:a=b):Ending.returned (.string a)= .returned (.string b):=by rw [h]
def fracS(n d:Int):ByteArray:=
 if vfrac n d=true then
  if n<0 then(if d=1 then⟨#[45]⟩++digS (absI n) 1 else⟨#[45]⟩++digS (absI n) 1++⟨#[47]⟩++digS d 1)
  else(if d=1 then digS (absI n) 1 else digS (absI n) 1++⟨#[47]⟩++digS d 1)
 else⟨#[]⟩
theorem digits1_one(n:Int)(w:World)(h0:0≤n)(h1:n≤9223372036854775807):Calls Tryz.prog 188 #[.int .i64 n,.int .i64 1] w fun e w'=>e= .returned (.string (digS n 1))∧w=w':=
 digits1_any n 1 w h0 h1 (by omega)
theorem fracS_no(n d:Int)(h:vfrac n d=false):fracS n d=⟨#[]⟩:=by simp [fracS,h]
theorem FormatFraction_any(n d:Int)(w:World)(h1:-9223372036854775808≤n)(h2:n≤9223372036854775807)(h3:-9223372036854775808≤d)(h4:d≤9223372036854775807):Calls Tryz.prog 145 #[.agg #[.int .i64 n,.int .i64 d]] w fun e w'=>e= .returned (.string (fracS n d))∧w.Grows w':=by
 cases hv:vfrac n d
 ·go_enter Tryz.func145,Tryz.ntmps145
  go_wp2_with ((first|(go_at_call 97;(with_reducible refine(Valid1_any _ _ _ (by omega) (by omega) (by omega) (by omega)).mono ?_);rintro e w' ⟨rfl,bs,dr,rfl⟩;simp only [hv])|(go_at_call 93;(with_reducible refine(size1_any _ _ (by omega) (by omega)).mono ?_);rintro e w' ⟨rfl,rfl⟩)|(go_at_call 188;(with_reducible refine(digits1_one _ _ (by omega) (by omega)).mono ?_);rintro e w' ⟨rfl,rfl⟩)))
  go_returns
  exact⟨ret_str (fracS_no n d hv).symm,.of_below belB⟩
 ·have⟨b1,b2,b3,b4⟩:=vfrac_bd hv
  have a0:0≤absI n:=by unfold absI;omega
  have a1:absI n≤1000000000000000:=by unfold absI;omega
  have e1:IntKind.i64.wrap (absI n)=absI n:=IntWalk.i64_in _ (by omega)
  have z1:((digS (absI n) 1).size:Int)≤1000000000000001:=by have:=digS_size (absI n) 1 a0;omega
  have z2:((digS d 1).size:Int)≤1000000001:=by have:=digS_size d 1 (by omega);omega
  by_cases cn:n<0
  ·exact tz14
  ·exact tz14

def decG:Nat→Int→Int→ByteArray→ByteArray
 |0,_,_,s=>s
 |f+1,r,k,s=>if 0<r then decG f (r % k) (k / 10) (s++tenS.extract (r / k).toNat (r / k+1).toNat)else s
def decOk(n d m:Int):Bool:=vfrac n d&&decide (0≤n)&&decide (10000 % d=0)&&decide (2≤m)&&decide (m≤4)&&decide (n / d≤999999999)
def restI(n d:Int):Int:=(n-n / d*d)*(10000 / d)
def sufS(m:Int):ByteArray:=if m=2 then⟨#[]⟩else if m=3 then⟨#[100]⟩else⟨#[109]⟩
def decS(n d m:Int):ByteArray:=
 (if 0<restI n d then decG 4 (restI n d) 1000 (digS (n / d) 1++⟨#[46]⟩)else digS (n / d) 1)++sufS m
theorem ret_dec{a b:ByteArray}{p q:Bool}(h:a=b)(g:p=q):Ending.returned (.tuple #[.string a,.bool p])= .returned (.tuple #[.string b,.bool q]):=by rw [h,g]
def decV(n d m:Int):Value:=.tuple #[.string (if decOk n d m=true then decS n d m else⟨#[]⟩),.bool (decOk n d m)]
theorem decV_no{n d m:Int}(h:decOk n d m=false):decV n d m= .tuple #[.string ⟨#[]⟩,.bool false]:=by simp [decV,h]
theorem decV_yes{n d m:Int}(h:decOk n d m=true):decV n d m= .tuple #[.string (decS n d m),.bool true]:=by simp [decV,h]
theorem FormatDecimal_no(n d m:Int)(w:World)(h1:-9223372036854775808≤n)(h2:n≤9223372036854775807)(h3:-9223372036854775808≤d)(h4:d≤9223372036854775807)(h:decOk n d m=false):Calls Tryz.prog 91 #[.agg #[.int .i64 n,.int .i64 d],.int .i64 m] w fun e w'=>e= .returned (decV n d m)∧w.Grows w':=by
 cases hv:vfrac n d
 ·have hq:Hid True:=Lib.hid trivial
  exact tz5
 ·have⟨b1,b2,b3,b4⟩:=vfrac_bd hv
  have hq:Hid True:=Lib.hid trivial
  by_cases c1:n<0
  ·exact tz5
  ·by_cases c2:10000 % d=0
   ·by_cases c3:m<2
    ·exact tz5
    ·by_cases c4:4<m
     ·exact tz5
     ·by_cases c5:n / d≤999999999
      ·exfalso;simp [decOk,hv,c2]at h;omega
      ·exact tz5
   ·exact tz5
theorem fracS_whole(q:Int)(h0:0≤q)(h1:q≤999999999):fracS q 1=digS q 1:=by
 have hv:vfrac q 1=true:=vfrac_of (by omega) (by simp)
 have ha:absI q=q:=absI_of_nonneg h0
 simp [fracS,hv,ha];intro h;omega
theorem rest_bd(n d:Int)(h0:0≤n)(h1:1≤d)(h2:10000 % d=0):0≤n / d∧0≤n / d*d∧n / d*d≤n∧n-n / d*d<d∧0≤10000 / d∧10000 / d≤10000∧0≤restI n d∧restI n d<10000:=by
 have a1:0≤n / d:=Int.ediv_nonneg h0 (by omega)
 have a2:0≤n % d:=Int.emod_nonneg _ (by omega)
 have a3:n % d<d:=Int.emod_lt_of_pos _ (by omega)
 have a4:d*(n / d)+n % d=n:=Int.mul_ediv_add_emod n d
 rw [Int.mul_comm]at a4
 have a5:0≤10000 / d:=Int.ediv_nonneg (by omega) (by omega)
 have a6:10000 / d≤10000:=Int.ediv_le_self _ (by omega)
 have a7:d*(10000 / d)+10000 % d=10000:=Int.mul_ediv_add_emod 10000 d
 have a8:n-n / d*d=n % d:=by omega
 have a9:0≤n / d*d:=Int.mul_nonneg a1 (by omega)
 refine⟨a1,a9,by omega,by omega,a5,a6, ?_, ?_⟩
 ·unfold restI;rw [a8];exact Int.mul_nonneg a2 a5
 ·unfold restI;rw [a8]
  have a10:0<10000 / d:=by
   rcases Int.lt_or_eq_of_le a5 with h|h
   ·exact h
   ·rw [←h]at a7;omega
  have:=Int.mul_lt_mul_of_pos_right a3 a10
  omega
theorem decG_stop(f:Nat)(r k:Int)(s:ByteArray)(h:¬0<r):decG f r k s=s:=by cases f<;>simp [decG,h]
theorem decG_go(f:Nat)(r k:Int)(s:ByteArray)(h:0<r):decG (f+1) r k s=decG f (r % k) (k / 10) (s++tenS.extract (r / k).toNat (r / k+1).toNat):=by simp [decG,h]
theorem ten_app(s:ByteArray)(x:Int)(h0:0≤x)(h1:x<10):(s++(⟨#[48,49,50,51,52,53,54,55,56,57]⟩:ByteArray).extract x.toNat (x+1).toNat).size=s.size+1:=by
 show(s++tenS.extract _ _).size=_
 rw [ByteArray.size_append,ByteArray.size_extract,tenS_size];omega
theorem dot_size(s:ByteArray):(s++(⟨#[46]⟩:ByteArray)).size=s.size+1:=by rw [ByteArray.size_append];rfl
theorem decS_dot{n d m r k:Int}{j:Nat}{s:ByteArray}(hp:0<restI n d)(g:decG j r k s=decG 4 (restI n d) 1000 (digS (n / d) 1++⟨#[46]⟩))(g6:decG j r k s=s):s++sufS m=decS n d m:=by
 unfold decS
 rw [if_pos hp,←g,g6]
theorem decS_whole{n d m r k:Int}{j:Nat}{s:ByteArray}(hp:¬0<restI n d)(g:decG j r k s=decG 4 (restI n d) 1000 (digS (n / d) 1))(g6:decG j r k s=s):s++sufS m=decS n d m:=by
 unfold decS
 rw [if_neg hp,←g6,g,decG_stop _ _ _ _ hp]
theorem FormatDecimal_yes(n d m:Int)(w:World)(h1:-9223372036854775808≤n)(h2:n≤9223372036854775807)(h3:-9223372036854775808≤d)(h4:d≤9223372036854775807)(h:decOk n d m=true):Calls Tryz.prog 91 #[.agg #[.int .i64 n,.int .i64 d],.int .i64 m] w fun e w'=>e= .returned (decV n d m)∧w.Grows w':=by
 rw [decV_yes h]
 simp only [decOk,Bool.and_eq_true,decide_eq_true_eq]at h
 obtain⟨⟨⟨⟨⟨hv,c1⟩,c2⟩,c3⟩,c4⟩,c5⟩:=h
 have⟨b1,b2,b3,b4⟩:=vfrac_bd hv
 have⟨r1,r2,r3,r4,r5,r6,r7,r8⟩:=rest_bd n d c1 b1 c2
 have hR:Hid (_):=Lib.hid (show restI n d=(n-n / d*d)*(10000 / d)from rfl)
 unfold restI at r7 r8
 have hq:=Lib.hid (fracS_whole (n / d) r1 c5)
 have z:=digS_size (n / d) 1 r1
 have z1:((digS (n / d) 1).size:Int)≤1000000000:=by omega
 clear z
 go_enter Tryz.func91,Tryz.ntmps91
 by_cases hp:0<(n-n / d*d)*(10000 / d)
 ·have HP:=Lib.hid (show 0<restI n d from hp)
  go_wp2_with ((first|(go_at_call 97;(with_reducible refine(Valid1_any _ _ _ (by omega) (by omega) (by omega) (by omega)).mono ?_);rintro e w' ⟨rfl,bs,dr,rfl⟩;simp only [hv])|(go_at_call 145;(with_reducible refine(FormatFraction_any _ _ _ (by omega) (by omega) (by omega) (by omega)).mono ?_);rintro e w' ⟨rfl,bs2,dr2,rfl⟩;simp only [hq.out])))
  go_quiet (fail)
  go_wp2_with fail
  go_loopw [7,8,9] (fun v7 v8 v9 wr=>∃j:Nat,∃r k:Int,∃s:ByteArray,v7= .string s∧v8= .int .i64 r∧v9= .int .i64 k∧0≤r∧((s.size:Int)≤1000000010-j)∧
   ((j=4∧k=1000∧r<10000)∨(j=3∧k=100∧r<1000)∨(j=2∧k=10∧r<100)∨(j=1∧k=1∧r<10)∨(j=0∧k=0∧r=0))∧
   Hid (decG j r k s=decG 4 (restI n d) 1000 (digS (n / d) 1++⟨#[46]⟩))∧World.Grows (w.alloc (.cells #[.int .i64 n,.int .i64 d] 24)) wr) (fun _ _ v9 _=>(intOf v9).toNat)
  case atStart=>exact⟨4,_,_,_,rfl,rfl,rfl,by omega,by first|(rw [dot_size];omega)|omega,.inl ⟨rfl,rfl,by omega⟩,Lib.hid (by rw [hR.out]),.of_below belB⟩
  case round=>
   obtain⟨j,r,k,s,rfl,rfl,rfl,g1,g2,g3,g4,bs3,dr3,rfl⟩:=hrel
   by_cases g0:0<r
   ·exact tz6
   ·have G6:=Lib.hid (decG_stop j r k s g0)
    obtain rfl|rfl|rfl:m=2∨m=3∨m=4:=by omega
    ·go_wp2_with fail
     go_returns
     exact⟨ret_dec (show s++sufS 2=decS n d 2 from decS_dot (by have:=HP.out;omega) g4.out G6.out) rfl,.of_below belB⟩
    ·go_wp2_with fail
     go_returns
     exact⟨ret_dec (show s++sufS 3=decS n d 3 from decS_dot (by have:=HP.out;omega) g4.out G6.out) rfl,.of_below belB⟩
    ·go_wp2_with fail
     go_returns
     exact⟨ret_dec (show s++sufS 4=decS n d 4 from decS_dot (by have:=HP.out;omega) g4.out G6.out) rfl,.of_below belB⟩
 ·have HP:=Lib.hid (show ¬0<restI n d from hp)
  go_wp2_with ((first|(go_at_call 97;(with_reducible refine(Valid1_any _ _ _ (by omega) (by omega) (by omega) (by omega)).mono ?_);rintro e w' ⟨rfl,bs,dr,rfl⟩;simp only [hv])|(go_at_call 145;(with_reducible refine(FormatFraction_any _ _ _ (by omega) (by omega) (by omega) (by omega)).mono ?_);rintro e w' ⟨rfl,bs2,dr2,rfl⟩;simp only [hq.out])))
  go_quiet (fail)
  go_wp2_with fail
  go_loopw [7,8,9] (fun v7 v8 v9 wr=>∃j:Nat,∃r k:Int,∃s:ByteArray,v7= .string s∧v8= .int .i64 r∧v9= .int .i64 k∧0≤r∧((s.size:Int)≤1000000010-j)∧
   ((j=4∧k=1000∧r<10000)∨(j=3∧k=100∧r<1000)∨(j=2∧k=10∧r<100)∨(j=1∧k=1∧r<10)∨(j=0∧k=0∧r=0))∧
   Hid (decG j r k s=decG 4 (restI n d) 1000 (digS (n / d) 1))∧World.Grows (w.alloc (.cells #[.int .i64 n,.int .i64 d] 24)) wr) (fun _ _ v9 _=>(intOf v9).toNat)
  case atStart=>exact⟨4,_,_,_,rfl,rfl,rfl,by omega,by first|(rw [dot_size];omega)|omega,.inl ⟨rfl,rfl,by omega⟩,Lib.hid (by rw [hR.out]),.of_below belB⟩
  case round=>
   obtain⟨j,r,k,s,rfl,rfl,rfl,g1,g2,g3,g4,bs3,dr3,rfl⟩:=hrel
   by_cases g0:0<r
   ·exact tz6
   ·have G6:=Lib.hid (decG_stop j r k s g0)
    obtain rfl|rfl|rfl:m=2∨m=3∨m=4:=by omega
    ·go_wp2_with fail
     go_returns
     exact⟨ret_dec (show s++sufS 2=decS n d 2 from decS_whole (by have:=HP.out;omega) g4.out G6.out) rfl,.of_below belB⟩
    ·go_wp2_with fail
     go_returns
     exact⟨ret_dec (show s++sufS 3=decS n d 3 from decS_whole (by have:=HP.out;omega) g4.out G6.out) rfl,.of_below belB⟩
    ·go_wp2_with fail
     go_returns
     exact⟨ret_dec (show s++sufS 4=decS n d 4 from decS_whole (by have:=HP.out;omega) g4.out G6.out) rfl,.of_below belB⟩
theorem FormatDecimal_any(n d m:Int)(w:World)(h1:-9223372036854775808≤n)(h2:n≤9223372036854775807)(h3:-9223372036854775808≤d)(h4:d≤9223372036854775807):Calls Tryz.prog 91 #[.agg #[.int .i64 n,.int .i64 d],.int .i64 m] w fun e w'=>e= .returned (decV n d m)∧w.Grows w':=by
 cases h:decOk n d m
 ·exact FormatDecimal_no n d m w h1 h2 h3 h4 h
 ·exact FormatDecimal_yes n d m w h1 h2 h3 h4 h
end Go.Proofs.YtfoefpoaomepbaaGreatDoor
namespace Go.Proofs.YtfoefpoaomepbaaGreatDoor
theorem floor_mod{n d:Int}(h:1≤d):(if n.tmod d<0 then n.tdiv d-1 else n.tdiv d)=n / d:=by
 have e1:=Int.mul_tdiv_add_tmod n d
 have hb:=Int.tmod_lt_of_pos n (show 0<d by omega)
 have hc:=Int.tmod_lt_of_pos (-n) (show 0<d by omega)
 rw [Int.neg_tmod]at hc
 symm
 split
 ·exact((Int.ediv_emod_unique (r:=n.tmod d+d) (q:=n.tdiv d-1) (show 0<d by omega)).2 ⟨by rw [Int.mul_sub];omega,by omega,by omega⟩).1
 ·exact((Int.ediv_emod_unique (r:=n.tmod d) (q:=n.tdiv d) (show 0<d by omega)).2 ⟨by omega,by omega,by omega⟩).1
theorem cmp_diff{an ad bn bd:Int}(h1:1≤ad)(h2:1≤bd)(h:decide (an<0)≠decide (bn<0)):cmpI an ad bn bd=if an<0 then -1 else 1:=by
 unfold cmpI
 by_cases c:an<0
 ·have hb:0≤bn:=by simp [c]at h;omega
  have k1:an*bd<0:=Int.mul_neg_of_neg_of_pos c (by omega)
  have k2:0≤bn*ad:=Int.mul_nonneg hb (by omega)
  rw [if_pos (by omega),if_pos c]
 ·have hb:bn<0:=by simp [c]at h;omega
  have k1:bn*ad<0:=Int.mul_neg_of_neg_of_pos hb (by omega)
  have k2:0≤an*bd:=Int.mul_nonneg (by omega) (by omega)
  rw [if_neg (by omega),if_pos (by omega),if_neg c]
theorem abs_mul{a d:Int}(h:1≤d):a*d=if a<0 then -((a.natAbs*d.natAbs:Nat):Int)else((a.natAbs*d.natAbs:Nat):Int):=by
 rw [Int.natCast_mul]
 have hd:((d.natAbs:Nat):Int)=d:=by omega
 rw [hd]
 split
 ·rw [←Int.neg_mul];congr 1;omega
 ·congr 1;omega
theorem cmp_same{an ad bn bd:Int}(h1:1≤ad)(h2:1≤bd)(h:decide (an<0)=decide (bn<0)) :
 cmpI an ad bn bd=if an<0 then(if bn.natAbs*ad.natAbs<an.natAbs*bd.natAbs then -1 else if an.natAbs*bd.natAbs<bn.natAbs*ad.natAbs then 1 else 0)
  else(if an.natAbs*bd.natAbs<bn.natAbs*ad.natAbs then -1 else if bn.natAbs*ad.natAbs<an.natAbs*bd.natAbs then 1 else 0):=by
 unfold cmpI
 rw [abs_mul (a:=an) h2,abs_mul (a:=bn) h1]
 generalize an.natAbs*bd.natAbs=X
 generalize bn.natAbs*ad.natAbs=Y
 by_cases c:an<0
 ·have hb:bn<0:=by simpa [c]using h
  rw [if_pos c,if_pos hb,if_pos c]
  split<;>rename_i q<;>split<;>first|omega|(split<;>first|omega|(split<;>omega))
 ·have hb:¬bn<0:=by simpa [c]using h
  rw [if_neg c,if_neg hb,if_neg c]
  split<;>rename_i q<;>split<;>first|omega|(split<;>first|omega|(split<;>omega))
end Go.Proofs.YtfoefpoaomepbaaGreatDoor
