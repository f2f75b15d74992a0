import Derived.Test.YtcfpoofhokbhlaaGreatDoorVDiv
import Derived.Test.YtcfpoofhokbhlaaGreatDoorVNum
import Derived.Test.YtcfpoofhokbhlaaGreatDoorVK
set_option linter.all false
set_option maxHeartbeats 16000000
set_option maxRecDepth 1000000
namespace Go.Proofs.YtcfpoofhokbhlaaGreatDoor
open Tryz List
open Go.RowKit

def hiW(n:Nat):Int:=(n / 18446744073709551616:Nat)
def loW(n:Nat):Int:=(n % 18446744073709551616:Nat)

theorem EK(n:Nat)(h:n<340282366920938463463374607431768211456):0<=hiW n/\hiW n<18446744073709551616:=by unfold hiW;omega
theorem qw(n:Nat):0<=loW n/\loW n<18446744073709551616:=by unfold loW;omega

theorem iD(a b:Nat)(w:World)(h1:a<18446744073709551616)(h2:b<18446744073709551616) :
 Calls prog 70 #[.int .u64 a,.int .u64 b] w fun e w'=>e= .returned (.agg #[.int .u64 (hiW (a*b)),.int .u64 (loW (a*b))])/\w.Grows w':=by
 have H:Hid (∀w,Calls prog 37 #[.int .u64 a,.int .u64 b] w fun e w'=>e= .returned (.tuple #[.int .u64 (hiW (a*b)),.int .u64 (loW (a*b))])/\w'=w):=bits_Mul64 a b h1 h2;generalize a*b=n at *
 go_enter func70,ntmps70
 go_wp2_with fail
 refine gw (H.out _) ?_;clear H
 go_wp2_with fail
 go_returns
 exact⟨rfl,.of_below af⟩

theorem Eb(H L d q r Q:Int)(w:World)(a1:(d==0)=false)(a2:1<=d)(h0:0<=H)
 (a3:IntKind.u64.wrap (H.tdiv d)=Q)
 (HD:Hid (∀w,Calls prog 38 #[.int .u64 (H % d),.int .u64 L,.int .u64 d] w fun e w'=>e= .returned (.tuple #[.int .u64 q,.int .u64 r])/\w.Grows w')) :
 Calls prog 44 #[.agg #[.int .u64 H,.int .u64 L],.int .u64 d] w fun e w'=>e= .returned (.tuple #[.agg #[.int .u64 Q,.int .u64 q],.int .u64 r])/\w.Grows w':=by
 go_enter func44,ntmps44
 go_wp2_with fail
 refine eX zf zf ?_;repeat(go_big_quiet_step ((go_at_call 38;exact Calls.quietG (HD.out _))))
 refine wpQuiet_nil ?_;intro _ hw';obtain⟨⟨gb,gd⟩,hw''⟩:=hw';subst hw'';clear HD
 go_wp2_with fail
 go_returns
 refine⟨rfl,.of_below af⟩

def aG(n:Int):Int:=(n.natAbs:Int)
def kg(x y:Int):Int:=(Nat.gcd x.toNat y.toNat:Nat)
theorem nz(n:Int)(h1:-9223372036854775808<=n)(h2:n<=9223372036854775807):0<=aG n/\aG n<=9223372036854775808:=by unfold aG;omega
theorem lm(n:Int):(aG n).toNat=n.natAbs:=by unfold aG;simp
theorem jM{n:Int}(h:0<=n):aG n=n:=by unfold aG;omega

def ay(n d:Int):Bool:=decide (1<=d/\d<=1000000000/\-1000000000000000<=n/\n<=1000000000000000)&&kg (aG n) (aG d)==1
theorem aC{n d:Int}(h:ay n d=true):1<=d/\d<=1000000000/\-1000000000000000<=n/\n<=1000000000000000:=by
 simp only [ay,Bool.and_eq_true,decide_eq_true_eq]at h;exact h.1
theorem qb{n d:Int}(h:ay n d=true):Nat.gcd n.natAbs d.natAbs=1:=by
 simp only [ay,Bool.and_eq_true,beq_iff_eq,kg,lm]at h;have:=h.2;omega
theorem oK{n d:Int}(h:1<=d/\d<=1000000000/\-1000000000000000<=n/\n<=1000000000000000)(hg:Nat.gcd n.natAbs d.natAbs=1):ay n d=true:=by
 simp only [ay,Bool.and_eq_true,decide_eq_true_eq,beq_iff_eq,kg,lm];exact⟨h,by omega⟩

theorem Calls.quietD{P:Program}{f:FuncId}{args:Array Value}{w:World}{v:Value}
 (h:Calls P f args w fun e w'=>e= .returned v/\∃n,w'=w.drewN n):Calls P f args w fun e w'=>e= .returned v/\w.Grows w':=
 h.mono fun _ _ ⟨he,n,hw⟩=>⟨he,by subst hw;exact .of_below ⟨rfl,rfl,rfl,Nat.le_refl _,fun _ _=>rfl⟩⟩

theorem fO(n:Int)(w:World)(h1:-9223372036854775808<=n)(h2:n<=9223372036854775807) :
 Calls prog 23 #[.int .i64 n] w fun e w'=>e= .returned (.int .u64 (aG n))/\w=w':=by
 by_cases hk:n<0
 ·go_enter func23,ntmps23
  go_wp2
  go_ret
  exact⟨by simp [aG];omega,rfl⟩
 ·go_enter func23,ntmps23
  go_wp2
  go_ret
  exact⟨by simp [aG];omega,rfl⟩

theorem iF(n:Int)(w:World)(h1:-9223372036854775808<=n)(h2:n<=9223372036854775807) :
 Calls prog 80 #[.int .i64 n] w fun e w'=>e= .returned (.int .u64 (aG n))/\w=w':=by
 by_cases hk:n<0
 ·go_enter func80,ntmps80
  go_wp2
  go_ret
  exact⟨ret_int (by unfold aG;simp only [IntKind.wrap_u64];omega),rfl⟩
 ·go_enter func80,ntmps80
  go_wp2
  go_ret
  exact⟨ret_int (by unfold aG;omega),rfl⟩

theorem wZ(c d:Int)(h0:0<=c)(h1:0<d):kg d (c % d)=kg c d:=by
 unfold kg;obtain⟨a,rfl⟩:=Int.eq_ofNat_of_zero_le h0;obtain⟨b,rfl⟩:=Int.eq_ofNat_of_zero_le (Int.le_of_lt h1);rw [show((a:Int) % (b:Int))=((a % b:Nat):Int)by simp];simp only [Int.toNat_natCast]
 congr 1
 rw [Nat.gcd_comm a b,Nat.gcd_rec b a,Nat.gcd_comm]

theorem wY(c:Int)(h0:0<=c):kg c 0=c:=by unfold kg;simp;omega

theorem qo(c d:Int)(h1:0<d):0<=c % d/\c % d<d:=⟨Int.emod_nonneg _ ze,Int.emod_lt_of_pos _ h1⟩

theorem pE(a b:Int)(w:World)(h0:0<=a)(h1:a<18446744073709551616)(h2:0<=b)(h3:b<18446744073709551616) :
 Calls prog 45 #[.int .u64 a,.int .u64 b] w fun e w'=>e= .returned (.int .u64 (kg a b))/\∃n,w'=w.drewN n:=by
 go_enter func45,ntmps45
 go_wp2
 go_loopw [0,1] (fun x y wr=>∃c d:Int,x= .int .u64 c/\y= .int .u64 d/\0<=c/\c<18446744073709551616/\0<=d/\d<18446744073709551616/\Hid (kg c d=kg a b)/\∃n,wr=w.drewN n) (fun _ y _=>(intOf y).toNat)
 case atStart=>exact⟨a,b,rfl,rfl,h0,h1,h2,h3,rfl,0,rfl⟩
 case round=>
  obtain⟨c,d,rfl,rfl,hc0,hc,hd0,hd,Hg,dr,rfl⟩:=hrel;by_cases h0:d=0
  ·subst h0
   go_wp2
   go_ret
   exact⟨by rw [<-Hg.out,wY c hc0];rfl,⟨_,rfl⟩⟩
  ·have h0':(d !=0)=true:=by simp;omega
   have h0'':(d==0)=false:=by simp;omega
   have h1d:1<=d:=by omega
   go_wp2
   go_region
   go_wp2
   go_roundw
   case rel=>exact⟨d,c % d,rfl,rfl,hd0,hd,(qo c d h1d).1,by have:=(qo c d h1d).2;omega,(wZ c d hc0 h1d).trans Hg.out,dr+1,rfl⟩
   case measure=>simp [intOf];have:=qo c d h1d;omega

theorem mo(a b:Int)(w:World)(h0:0<=a)(h1:a<18446744073709551616)(h2:0<=b)(h3:b<18446744073709551616) :
 Calls prog 79 #[.int .u64 a,.int .u64 b] w fun e w'=>e= .returned (.int .u64 (kg a b))/\∃n,w'=w.drewN n:=by
 go_enter func79,ntmps79
 go_wp2
 go_loopw [0,1] (fun x y wr=>∃c d:Int,x= .int .u64 c/\y= .int .u64 d/\0<=c/\c<18446744073709551616/\0<=d/\d<18446744073709551616/\Hid (kg c d=kg a b)/\∃n,wr=w.drewN n) (fun _ y _=>(intOf y).toNat)
 case atStart=>exact⟨a,b,rfl,rfl,h0,h1,h2,h3,rfl,0,rfl⟩
 case round=>
  obtain⟨c,d,rfl,rfl,hc0,hc,hd0,hd,Hg,dr,rfl⟩:=hrel;by_cases h0:d=0
  ·subst h0
   go_wp2
   go_ret
   exact⟨by rw [<-Hg.out,wY c hc0];rfl,⟨_,rfl⟩⟩
  ·have h0':(d !=0)=true:=by simp;omega
   have h0'':(d==0)=false:=by simp;omega
   have h1d:1<=d:=by omega
   go_wp2
   go_region
   go_wp2
   go_roundw
   case rel=>exact⟨d,c % d,rfl,rfl,hd0,hd,(qo c d h1d).1,by have:=(qo c d h1d).2;omega,(wZ c d hc0 h1d).trans Hg.out,dr+1,rfl⟩
   case measure=>simp [intOf];have:=qo c d h1d;omega

theorem fe{n d:Int}(h:¬(1<=d/\d<=1000000000/\-1000000000000000<=n/\n<=1000000000000000)):ay n d=false:=by
 simp only [ay,h,decide_false,Bool.false_and]
theorem tu{n d:Int}(h:1<=d/\d<=1000000000/\-1000000000000000<=n/\n<=1000000000000000):ay n d=(kg (aG n) (aG d)==1):=by
 simp only [ay,h,and_self,decide_true,Bool.true_and]

theorem Calls.quietE{P:Program}{f:FuncId}{args:Array Value}{w:World}{v:Value}
 (h:Calls P f args w fun e w'=>e= .returned v/\w=w'):Calls P f args w fun e w'=>e= .returned v/\∃n,w'=w.drewN n:=
 h.mono fun _ _ ⟨he,hw⟩=>⟨he,0,hw.symm⟩

theorem bZ(n d:Int)(w:World)(h1:-9223372036854775808<=n)(h2:n<=9223372036854775807)(h3:-9223372036854775808<=d)(h4:d<=9223372036854775807) :
 Calls prog 53 #[.agg #[.int .i64 n,.int .i64 d]] w fun e w'=>e= .returned (.bool (ay n d))/\w.Grows w':=by
 by_cases c1:1<=d
 ·by_cases c2:d<=1000000000
  ·by_cases c3:-1000000000000000<=n
   ·by_cases c4:n<=1000000000000000
    ·have hv:=yq (tu ⟨c1,c2,c3,c4⟩);have ha:=nz n h1 h2;have ha0:=ha.1;have ha1:=ha.2;have e1:IntKind.u64.wrap d=d:=IntWalk.u64_in _ ze;have e2:=yq (jM (show 0<=d by omega));clear ha
     go_enter func53,ntmps53
     go_wp2_with fail
     go_quiet (first|(go_at_call 45;refine Calls.quiet_of (pE _ _ _ ze ze ze ze))|(go_at_call 23;refine Calls.quiet_of (Calls.quietE (fO _ _ ze ze))))
     go_wp2_with fail
     go_returns
     exact⟨by rw [hv.out,e2.out];rfl,.of_below af⟩
    ·have d1:decide (n<=1000000000000000)=false:=by simp;omega
     go_enter func53,ntmps53
     go_wp2_with fail
     go_quiet (fail)
     go_wp2_with fail
     go_returns
     exact⟨by rw [fe ze];rfl,.of_below af⟩
   ·have d1:decide (-1000000000000000<=n)=false:=by simp;omega
    go_enter func53,ntmps53
    go_wp2_with fail
    go_quiet (fail)
    go_wp2_with fail
    go_returns
    exact⟨by rw [fe ze];rfl,.of_below af⟩
  ·have d1:decide (d<=1000000000)=false:=by simp;omega
   go_enter func53,ntmps53
   go_wp2_with fail
   go_quiet (fail)
   go_wp2_with fail
   go_returns
   exact⟨by rw [fe ze];rfl,.of_below af⟩
 ·have d1:decide (1<=d)=false:=by simp;omega
  go_enter func53,ntmps53
  go_wp2_with fail
  go_quiet (fail)
  go_wp2_with fail
  go_returns
  exact⟨by rw [fe ze];rfl,.of_below af⟩

theorem dN(n d:Int)(w:World)(h1:-9223372036854775808<=n)(h2:n<=9223372036854775807)(h3:-9223372036854775808<=d)(h4:d<=9223372036854775807) :
 Calls prog 61 #[.agg #[.int .i64 n,.int .i64 d]] w fun e w'=>e= .returned (.bool (ay n d))/\w.Grows w':=by
 by_cases c1:1<=d
 ·by_cases c2:d<=1000000000
  ·by_cases c3:-1000000000000000<=n
   ·by_cases c4:n<=1000000000000000
    ·have hv:=yq (tu ⟨c1,c2,c3,c4⟩);have ha:=nz n h1 h2;have ha0:=ha.1;have ha1:=ha.2;have e1:aG d=d:=jM ze;clear ha
     go_enter func61,ntmps61
     go_wp2_with fail
     go_quiet (first|(go_at_call 79;refine Calls.quiet_of (mo _ _ _ ze ze ze ze))|(go_at_call 80;refine Calls.quiet_of (Calls.quietE (iF _ _ ze ze))))
     go_wp2_with fail
     go_returns
     exact⟨by rw [hv.out,e1];rfl,.of_below af⟩
    ·have d1:decide (n<=1000000000000000)=false:=by simp;omega
     go_enter func61,ntmps61
     go_wp2_with fail
     go_quiet (fail)
     go_wp2_with fail
     go_returns
     exact⟨by rw [fe ze];rfl,.of_below af⟩
   ·have d1:decide (-1000000000000000<=n)=false:=by simp;omega
    go_enter func61,ntmps61
    go_wp2_with fail
    go_quiet (fail)
    go_wp2_with fail
    go_returns
    exact⟨by rw [fe ze];rfl,.of_below af⟩
  ·have d1:decide (d<=1000000000)=false:=by simp;omega
   go_enter func61,ntmps61
   go_wp2_with fail
   go_quiet (fail)
   go_wp2_with fail
   go_returns
   exact⟨by rw [fe ze];rfl,.of_below af⟩
 ·have d1:decide (1<=d)=false:=by simp;omega
  go_enter func61,ntmps61
  go_wp2_with fail
  go_quiet (fail)
  go_wp2_with fail
  go_returns
  exact⟨by rw [fe ze];rfl,.of_below af⟩


def lK(n d:Nat):Int:=(n % d:Nat)
theorem FU(n d:Nat)(h:0<d):0<=lK n d/\lK n d<d:=by
 unfold lK;have:=Nat.mod_lt n h;omega

theorem tZ(n d:Nat)(h0:0<d)(_:d<18446744073709551616) :
 n / d / 18446744073709551616=n / 18446744073709551616 / d/\n / d % 18446744073709551616=(n / 18446744073709551616 % d*18446744073709551616+n % 18446744073709551616) / d/\
 n % d=(n / 18446744073709551616 % d*18446744073709551616+n % 18446744073709551616) % d:=by
 generalize hB:18446744073709551616=B at *;have hB0:0<B:=by omega
 clear hB
 have e:n=d*(n / B / d*B)+(n / B % d*B+n % B):=by
  have a1:=Nat.div_add_mod n B;have a2:=Nat.div_add_mod (n / B) d;have a3:B*(n / B)=B*(d*(n / B / d))+B*(n / B % d):=by rw [<-Nat.mul_add,a2]
  rw [Nat.mul_comm B (d*_),Nat.mul_assoc,Nat.mul_comm B (n / B % d)]at a3;omega
 have hlt:(n / B % d*B+n % B) / d<B:=by
  rw [Nat.div_lt_iff_lt_mul h0];have b1:=Nat.mod_lt (n / B) h0;have b2:=Nat.mod_lt n hB0;have b3:(n / B % d+1)*B<=d*B:=Nat.mul_le_mul_right _ b1;rw [Nat.add_mul,Nat.one_mul]at b3;rw [Nat.mul_comm B d];omega
 have q:n / d=n / B / d*B+(n / B % d*B+n % B) / d:=by
  conv=>lhs;rw [e]
  rw [Nat.mul_add_div h0]
 refine⟨?_, ?_, ?_⟩
 ·rw [q,Nat.mul_comm _ B,Nat.mul_add_div hB0,Nat.div_eq_of_lt hlt,Nat.add_zero]
 ·rw [q,Nat.mul_comm _ B,Nat.mul_add_mod,Nat.mod_eq_of_lt hlt]
 ·conv=>lhs;rw [e]
  rw [Nat.mul_add_mod]

theorem wF(n d:Nat)(w:World)(h1:n<340282366920938463463374607431768211456)(h2:d<18446744073709551616)(h0:0<d) :
 Calls prog 44 #[.agg #[.int .u64 (hiW n),.int .u64 (loW n)],.int .u64 d] w fun e w'=>e= .returned (.tuple #[.agg #[.int .u64 (hiW (n / d)),.int .u64 (loW (n / d))],.int .u64 (lK n d)])/\w.Grows w':=by
 obtain⟨e1,e2,e3⟩:=tZ n d h0 h2;have hh:=EK n h1;refine Eb _ _ _ _ _ _ w zp ze hh.1 ?_ ?_
 ·have:(hiW n).tdiv d=((n / 18446744073709551616 / d:Nat):Int):=by
   rw [Int.tdiv_eq_ediv_of_nonneg hh.1];unfold hiW;simp
  rw [this,<-e1];have h3:n / d<=n:=Nat.div_le_self _ _;unfold hiW;generalize n / d=m at *;exact IntWalk.u64_in _ ze
 ·intro w;have:=nD (n / 18446744073709551616 % d) (n % 18446744073709551616) d w (Nat.mod_lt _ h0) (Nat.mod_lt _ ze) h2;rw [<-e2,<-e3]at this;simpa [hiW,loW,lK]using this

def jZ(neg:Bool)(n d:Nat):Int:=if 1000000000000000<n / Nat.gcd n d\/1000000000<d / Nat.gcd n d then 0 else if neg then -((n / Nat.gcd n d:Nat):Int)else(n / Nat.gcd n d:Nat)
def l8(n d:Nat):Int:=if 1000000000000000<n / Nat.gcd n d\/1000000000<d / Nat.gcd n d then 0 else(d / Nat.gcd n d:Nat)
def kJ(n d:Nat):Int:=if 1000000000000000<n / Nat.gcd n d\/1000000000<d / Nat.gcd n d then 2 else 0

theorem Cx(n d:Nat)(h0:0<d):kg d (lK n d)=(Nat.gcd n d:Nat):=by
 unfold kg lK;simp only [Int.toNat_natCast]
 congr 1
 rw [Nat.gcd_comm n d,Nat.gcd_rec d n,Nat.gcd_comm]

def Ir(neg:Bool)(h l d:Int):Value:=if(h !=0)=true\/1000000000000000<l\/1000000000<d then .tuple #[.agg #[.int .i64 0,.int .i64 0],.int .i64 2]else .tuple #[.agg #[.int .i64 (if neg then -l else l),.int .i64 d],.int .i64 0]

theorem Al(neg:Bool)(H L D r g h l h' l' rr:Int)(w:World)(hd:0<=D)(hd1:D<18446744073709551616)(hg0:1<=g)
 (hl0:0<=l') (hg00:(g==0)=false)
 (H1:Hid (∀w,Calls prog 44 #[.agg #[.int .u64 H,.int .u64 L],.int .u64 D] w fun e w'=>e= .returned (.tuple #[.agg #[.int .u64 h,.int .u64 l],.int .u64 r])/\w.Grows w'))
 (H2:Hid (∀w,Calls prog 45 #[.int .u64 D,.int .u64 r] w fun e w'=>e= .returned (.int .u64 g)/\∃n,w'=w.drewN n))
 (H3:Hid (∀w,Calls prog 44 #[.agg #[.int .u64 H,.int .u64 L],.int .u64 g] w fun e w'=>e= .returned (.tuple #[.agg #[.int .u64 h',.int .u64 l'],.int .u64 rr])/\w.Grows w')) :
 Calls prog 22 #[.bool neg,.agg #[.int .u64 H,.int .u64 L],.int .u64 D] w fun e w'=>
  e= .returned (Ir neg h' l' (D / g))/\w.Grows w':=by
 have hdg:0<=D / g:=Int.ediv_nonneg hd ze;by_cases c1:(h' !=0)=true
 ·go_enter func22,ntmps22
  go_wp2_with fail
  refine gvq (H1.out _) ?_;intro bs dr
  go_wp2_with fail
  refine(H2.out _).mono ?_;rintro e w' ⟨rfl,nn,rfl⟩
  go_wp2_with fail
  refine gvq (H3.out _) ?_;intro bs3 dr3;clear H1 H2 H3
  go_wp2_with fail
  go_returns
  exact⟨by rw [Ir,if_pos (.inl c1)],.of_below af⟩
 ·have c1':(h' !=0)=false:=by simpa using c1
  clear c1;by_cases c2:(1000000000000000:Int)<l'
  ·go_enter func22,ntmps22
   go_wp2_with fail
   refine gvq (H1.out _) ?_;intro bs dr
   go_wp2_with fail
   refine(H2.out _).mono ?_;rintro e w' ⟨rfl,nn,rfl⟩
   go_wp2_with fail
   refine gvq (H3.out _) ?_;intro bs3 dr3;clear H1 H2 H3
   go_wp2_with fail
   go_returns
   exact⟨by rw [Ir,if_pos (.inr (.inl c2))],.of_below af⟩
  ·have c2':decide ((1000000000000000:Int)<l')=false:=by simpa using c2
   by_cases c3:(1000000000:Int)<D / g
   ·go_enter func22,ntmps22
    go_wp2_with fail
    refine gvq (H1.out _) ?_;intro bs dr
    go_wp2_with fail
    refine(H2.out _).mono ?_;rintro e w' ⟨rfl,nn,rfl⟩
    go_wp2_with fail
    refine gvq (H3.out _) ?_;intro bs3 dr3;clear H1 H2 H3
    go_wp2_with fail
    go_returns
    exact⟨by rw [Ir,if_pos (.inr (.inr c3))],.of_below af⟩
   ·have c3':decide ((1000000000:Int)<D / g)=false:=by simpa using c3
    have hn:¬((h' !=0)=true\/1000000000000000<l'\/1000000000<D / g):=by simp only [c1',Bool.false_eq_true,false_or,not_or];exact⟨c2,c3⟩
    have Hn:=yq hn;clear hn;cases neg
    focus
     go_enter func22,ntmps22
    rotate_left
    focus
     go_enter func22,ntmps22
    rotate_left
    all_goals
     go_wp2_with fail
     refine gvq (H1.out _) ?_;intro bs dr
     go_wp2_with fail
     refine(H2.out _).mono ?_;rintro e w' ⟨rfl,nn,rfl⟩
     go_wp2_with fail
     refine gvq (H3.out _) ?_;intro bs3 dr3;clear H1 H2 H3
     go_wp2_with fail
     go_returns
     exact⟨by rw [Ir,if_neg Hn.out];rfl,.of_below af⟩
theorem jV(neg:Bool)(n d:Nat)(w:World)(h1:n<340282366920938463463374607431768211456)(h2:d<18446744073709551616)(h0:0<d) :
 Calls prog 22 #[.bool neg,.agg #[.int .u64 (hiW n),.int .u64 (loW n)],.int .u64 d] w fun e w'=>
  e= .returned (.tuple #[.agg #[.int .i64 (jZ neg n d),.int .i64 (l8 n d)],.int .i64 (kJ n d)])/\w.Grows w':=by
 have hg:0<Nat.gcd n d:=Nat.gcd_pos_of_pos_right _ h0;have hgd:Nat.gcd n d<=d:=Nat.gcd_le_right _ h0;have hr:=FU n d h0
 refine(Al neg (hiW n) (loW n) d (lK n d) (Nat.gcd n d:Nat) (hiW (n / d)) (loW (n / d)) (hiW (n / Nat.gcd n d)) (loW (n / Nat.gcd n d)) (lK n (Nat.gcd n d)) w ze ze ze
  (qw _).1 zp (fun w=>wF n d w h1 h2 h0) (fun w=>?_) (fun w=>wF n _ w h1 ze hg)).mono ?_
 ·have:=pE d (lK n d) w ze ze hr.1 ze;rw [Cx n d h0]at this;exact this
 ·rintro e w' ⟨rfl,hw⟩;refine⟨?_,hw⟩;have hq:n / Nat.gcd n d<=n:=Nat.div_le_self _ _;have hdd:(d:Int) / (Nat.gcd n d:Nat)=(d / Nat.gcd n d:Nat):=by simp
  rw [hdd];unfold Ir jZ l8 kJ hiW loW;generalize n / Nat.gcd n d=a at *;generalize d / Nat.gcd n d=b at *;by_cases c:1000000000000000<a\/1000000000<b
  ·rw [if_pos c,if_pos c,if_pos c,if_pos (by
    by_cases ha:a / 18446744073709551616=0
    ·right;omega
    ·left;simp;omega)]
  ·have ha:a / 18446744073709551616=0:=by omega
   have hb:a % 18446744073709551616=a:=by omega
   rw [if_neg c,if_neg c,if_neg c,if_neg (by rw [ha,hb];simp;omega),hb]

def mkN(n d:Int):Int:=if d=0 then 0 else jZ (decide (n<0)!=decide (d<0)) n.natAbs d.natAbs
def mkD(n d:Int):Int:=if d=0 then 0 else l8 n.natAbs d.natAbs
def mkE(n d:Int):Int:=if d=0 then 3 else kJ n.natAbs d.natAbs

theorem dZ(n d:Int)(w:World)(h1:-9223372036854775808<=n)(h2:n<=9223372036854775807)(h3:-9223372036854775808<=d)(h4:d<=9223372036854775807) :
 Calls prog 12 #[.int .i64 n,.int .i64 d] w fun e w'=>
  e= .returned (.tuple #[.agg #[.int .i64 (mkN n d),.int .i64 (mkD n d)],.int .i64 (mkE n d)])/\w.Grows w':=by
 by_cases c:d=0
 ·subst c
  go_enter func12,ntmps12
  go_wp2_with fail
  go_returns
  exact⟨rfl,.of_below af⟩
 ·have c':(d==0)=false:=by simpa using c
  have hl:∀b,(decide (n<0)!=decide (d<0))=b->Hid (∀w,Calls prog 22 #[.bool b,.agg #[.int .u64 0,.int .u64 (aG n)],.int .u64 (aG d)] w fun e w'=>
   e= .returned (.tuple #[.agg #[.int .i64 (mkN n d),.int .i64 (mkD n d)],.int .i64 (mkE n d)])/\w.Grows w'):=by
   intro b hb w;have:=jV b n.natAbs d.natAbs w ze ze ze;rw [show hiW n.natAbs=0 by unfold hiW;omega,show loW n.natAbs=aG n by unfold loW aG;omega]at this;unfold mkN mkD mkE;rw [if_neg c,if_neg c,if_neg c,hb];exact this
  clear c;generalize mkN n d=N at *;generalize mkD n d=D at *;generalize mkE n d=E at *;by_cases c1:n<0
  ·by_cases c2:d<0
   focus
    have hn:=hl false (by simp [c1,c2])
   rotate_left
   focus
    have hn:=hl true yV
   rotate_left
   all_goals
    clear hl
    go_enter func12,ntmps12
    go_wp2_with (first|(go_at_call 23;refine gw (fO _ _ ze ze) ?_)|(go_at_call 22;refine gvq (hn.out _) ?_;intro bs dr;clear hn))
    go_returns
    exact⟨rfl,.of_below af⟩
  ·by_cases c2:d<0
   focus
    have hn:=hl true yV
   rotate_left
   focus
    have hn:=hl false yV
   rotate_left
   all_goals
    clear hl
    go_enter func12,ntmps12
    go_wp2_with (first|(go_at_call 23;refine gw (fO _ _ ze ze) ?_)|(go_at_call 22;refine gvq (hn.out _) ?_;intro bs dr;clear hn))
    go_returns
    exact⟨rfl,.of_below af⟩

theorem Lf{b c:Bool}{n d:Nat}(h:n=0\/b=c):jZ b n d=jZ c n d:=by
 rcases h with rfl|rfl
 ·unfold jZ;simp
 ·rfl
theorem uD(n d:Nat):kJ n d=0\/kJ n d=2:=by unfold kJ;split<;>simp
theorem F5{n d:Nat}(b:Bool)(h:kJ n d≠0):jZ b n d=0/\l8 n d=0:=by
 unfold kJ at h;unfold jZ l8
 split at h<;>rename_i hc
 ·rw [if_pos hc,if_pos hc];exact⟨rfl,rfl⟩
 ·exact absurd rfl h
theorem vX{n d:Nat}(b:Bool)(h1:1<=d)(h2:d<=1000000000)(h3:n<=1000000000000000)(hg:Nat.gcd n d=1):ay (if b then -(n:Int)else n) d=true:=by
 refine oK ⟨by omega,by omega, ?_, ?_⟩ ?_
 ·cases b<;>simp<;>omega
 ·cases b<;>simp<;>omega
 ·cases b<;>simpa using hg
theorem Le{n d:Nat}(b:Bool)(hd:0<d)(h:kJ n d=0):ay (jZ b n d) (l8 n d)=true:=by
 have hg:0<Nat.gcd n d:=Nat.gcd_pos_of_pos_right _ hd;unfold kJ at h;unfold jZ l8
 split at h<;>rename_i hc
 ·simp at h
 ·rw [if_neg hc,if_neg hc];have h1:0<d / Nat.gcd n d:=Nat.div_pos (Nat.gcd_le_right _ hd) hg;exact vX b ze ze ze (Nat.coprime_div_gcd_div_gcd hg)

def il(n k m h:Nat):Nat:=n / Nat.gcd n k*(m / Nat.gcd m h)
def nQ(b:Bool)(n d m k:Nat):Int × Int × Int:=
 if 1000000000000000<il n k m d\/1000000000<il d m k n then(0,0,2)else(if b then -(il n k m d:Int)else il n k m d,il d m k n,0)

def iW(n d:Int):Int × Int × Int:=if ay n d then(-n,d,0)else(0,0,1)
def ji(an ad bn bd:Int):Int:=an*bd+bn*ad
def jT(an ad bn bd:Int):Int × Int × Int:=
 if ay an ad&&ay bn bd then
  (jZ (decide (ji an ad bn bd<0)) (ji an ad bn bd).natAbs (ad.natAbs*bd.natAbs),l8 (ji an ad bn bd).natAbs (ad.natAbs*bd.natAbs),kJ (ji an ad bn bd).natAbs (ad.natAbs*bd.natAbs))
 else(0,0,1)
def lX(an ad bn bd:Int):Int × Int × Int:=if ay bn bd then jT an ad (-bn) bd else(0,0,1)
def lL(an ad bn bd:Int):Int × Int × Int:=
 if ay an ad&&ay bn bd then nQ (decide (an<0)!=decide (bn<0)) an.natAbs ad.natAbs bn.natAbs bd.natAbs else(0,0,1)
def lM(an ad bn bd:Int):Int × Int × Int:=
 if ay an ad&&ay bn bd then if bn=0 then(0,0,3)else nQ (decide (an<0)!=decide (bn<0)) an.natAbs ad.natAbs bd.natAbs bn.natAbs else(0,0,1)
def iy(an ad bn bd:Int):Int:=if an*bd<bn*ad then -1 else if bn*ad<an*bd then 1 else 0
def gu(an ad bn bd:Int):Int × Int:=if ay an ad&&ay bn bd then(iy an ad bn bd,0)else(0,1)
def eD(n d:Int):Int × Int:=if ay n d then(n / d,0)else(0,1)

theorem vW{n d:Int}:ay (-n) d=ay n d:=by
 unfold ay aG;rw [Int.natAbs_neg]
 congr 1
 refine decide_eq_decide.2 ?_;omega
theorem gL{n d:Int}(h:ay n d=true):Nat.Coprime n.natAbs d.natAbs:=qb h

theorem JM{a d b e:Nat}(s:Bool):ji (if s then -(a:Int)else a) d (if s then -(b:Int)else b) e=if s then -((a*e+b*d:Nat):Int)else((a*e+b*d:Nat):Int):=by
 unfold ji;cases s<;>simp [Int.neg_mul];omega
theorem JN{a d b e:Nat}(s:Bool):ji (if s then -(a:Int)else a) d (if s then(b:Int)else -b) e=if s then((b*d:Nat):Int)-(a*e:Nat)else((a*e:Nat):Int)-(b*d:Nat):=by
 unfold ji;cases s<;>simp [Int.neg_mul]<;>omega
theorem mW(n:Int):n=if decide (n<0)then -(n.natAbs:Int)else n.natAbs:=by
 by_cases h:n<0<;>simp [h]<;>omega

theorem Dm{an ad bn bd:Int}(h1:1<=ad)(h2:1<=bd)(hs:decide (an<0)=decide (bn<0)) :
 (ji an ad bn bd).natAbs=an.natAbs*bd.natAbs+bn.natAbs*ad.natAbs/\((ji an ad bn bd).natAbs=0\/decide (ji an ad bn bd<0)=decide (an<0)):=by
 have e:=JM (a:=an.natAbs) (d:=ad.natAbs) (b:=bn.natAbs) (e:=bd.natAbs) (decide (an<0));have e1:=mW an;have e2:=mW bn;rw [<-hs]at e2;rw [<-e1,<-e2,show((ad.natAbs:Nat):Int)=ad by omega,show((bd.natAbs:Nat):Int)=bd by omega]at e;rw [e];generalize an.natAbs*bd.natAbs+bn.natAbs*ad.natAbs=N at *;by_cases h:an<0
 ·simp [h];omega
 ·simp [h]
theorem Dn{an ad bn bd:Int}(h1:1<=ad)(h2:1<=bd)(hs:decide (an<0)≠decide (bn<0)) :
 (an.natAbs*bd.natAbs<bn.natAbs*ad.natAbs->(ji an ad bn bd).natAbs=bn.natAbs*ad.natAbs-an.natAbs*bd.natAbs/\((ji an ad bn bd).natAbs=0\/decide (ji an ad bn bd<0)=decide (bn<0)))/\
 (bn.natAbs*ad.natAbs<=an.natAbs*bd.natAbs->(ji an ad bn bd).natAbs=an.natAbs*bd.natAbs-bn.natAbs*ad.natAbs/\((ji an ad bn bd).natAbs=0\/decide (ji an ad bn bd<0)=decide (an<0))):=by
 have e:=JN (a:=an.natAbs) (d:=ad.natAbs) (b:=bn.natAbs) (e:=bd.natAbs) (decide (an<0));have e1:=mW an;have e2:=mW bn;rw [<-e1,show((ad.natAbs:Nat):Int)=ad by omega,show((bd.natAbs:Nat):Int)=bd by omega]at e
 have e3:(if decide (an<0)=true then(bn.natAbs:Int)else -(bn.natAbs:Int))=bn:=by
  clear e e1 e2;by_cases c1:an<0<;>by_cases c2:bn<0<;>simp [c1,c2]at hs ⊢<;>omega
 rw [e3]at e;rw [e];generalize an.natAbs*bd.natAbs=M at *;generalize bn.natAbs*ad.natAbs=N at *;clear e e1 e2 e3;by_cases c1:an<0<;>by_cases c2:bn<0<;>simp [c1,c2]at hs ⊢<;>omega

theorem Gj{an ad bn bd:Int}(ha:ay an ad=true)(hb:ay bn bd=true)(h:an*bd=bn*ad):an=bn/\ad=bd:=by
 have p:=gL ha;have q:=gL hb;have h1:=aC ha;have h2:=aC hb;exact RU
theorem KV{n k m h:Nat}(h1:0<n)(h2:0<m):0<il n k m h:=by
 unfold il;exact Nat.mul_pos (Nat.div_pos (Nat.gcd_le_left _ h1) (Nat.gcd_pos_of_pos_left _ h1)) (Nat.div_pos (Nat.gcd_le_left _ h2) (Nat.gcd_pos_of_pos_left _ h2))
theorem Ht{n d m k:Nat}(hd:0<d)(hk:0<k)(p:Nat.Coprime n d)(q:Nat.Coprime m k):Nat.Coprime (il n k m d) (il d m k n):=by
 unfold il;have g1:0<Nat.gcd n k:=Nat.gcd_pos_of_pos_right _ hk;have g2:0<Nat.gcd m d:=Nat.gcd_pos_of_pos_right _ hd;have a1:=Nat.coprime_div_gcd_div_gcd g1;have a2:=Nat.coprime_div_gcd_div_gcd g2;rw [Nat.gcd_comm d m,Nat.gcd_comm k n];have dv (x y:Nat):x / Nat.gcd x y ∣ x:=Nat.div_dvd_of_dvd (Nat.gcd_dvd_left x y);have dw (x y:Nat):y / Nat.gcd x y ∣ y:=Nat.div_dvd_of_dvd (Nat.gcd_dvd_right x y);refine Nat.Coprime.mul_left (Nat.Coprime.mul_right ?_ a1) (Nat.Coprime.mul_right a2 ?_)
 ·exact Nat.Coprime.coprime_dvd_left (dv n k) (Nat.Coprime.coprime_dvd_right (dw m d) p)
 ·exact Nat.Coprime.coprime_dvd_left (dv m d) (Nat.Coprime.coprime_dvd_right (dw n k) q)
def okF(r:Int × Int × Int):Prop:=(r.2.2=0/\ay r.1 r.2.1=true)\/(r.1=0/\r.2.1=0/\(r.2.2=2\/r.2.2=3))
theorem FV{n d m k:Nat}(b:Bool)(hd:0<d)(hk:0<k)(p:Nat.Coprime n d)(q:Nat.Coprime m k):okF (nQ b n d m k):=by
 unfold nQ
 split<;>rename_i hc
 ·exact .inr ⟨rfl,rfl,.inl rfl⟩
 ·have h1:=KV (k:=m) (h:=n) hd hk;exact .inl ⟨rfl,vX b ze ze ze (Ht hd hk p q)⟩
theorem Gw{an ad bn bd:Int}(ha:ay an ad=true)(hb:ay bn bd=true):okF (jT an ad bn bd):=by
 have h1:=aC ha;have h2:=aC hb;unfold jT;rw [ha,hb];simp only [Bool.and_self,if_true];have hd:0<ad.natAbs*bd.natAbs:=Nat.mul_pos ze ze;rcases uD (ji an ad bn bd).natAbs (ad.natAbs*bd.natAbs)with h|h
 ·exact .inl ⟨h,Le _ hd h⟩
 ·have h3:=F5 (decide (ji an ad bn bd<0)) (show kJ (ji an ad bn bd).natAbs (ad.natAbs*bd.natAbs)≠0 by omega);exact .inr ⟨h3.1,h3.2,.inl h⟩
theorem ND{an ad bn bd:Int}(ha:ay an ad=true)(hb:ay bn bd=true):okF (lX an ad bn bd):=by
 unfold lX;rw [hb];exact Gw ha (by rw [vW];exact hb)
theorem OD{an ad bn bd:Int}(ha:ay an ad=true)(hb:ay bn bd=true):okF (lL an ad bn bd):=by
 have h1:=aC ha;have h2:=aC hb;unfold lL;rw [ha,hb];exact FV _ ze ze (gL ha) (gL hb)
theorem Pv{an ad bn bd:Int}(ha:ay an ad=true)(hb:ay bn bd=true):okF (lM an ad bn bd):=by
 have h1:=aC ha;have h2:=aC hb;unfold lM;rw [ha,hb];simp only [Bool.and_self,if_true]
 split<;>rename_i hc
 ·exact .inr ⟨rfl,rfl,.inr rfl⟩
 ·exact FV _ ze ze (gL ha) (gL hb).symm
end Go.Proofs.YtcfpoofhokbhlaaGreatDoor
namespace Go
open Go.RowKit

def World.src(w:World)(s:Nat)(lv:Value)(p left:Int):World:={w with heap:=w.heap.setIfInBounds s (.cells #[lv,.int .i64 p,.int .i64 left] 95 (0,0))}
section
variable {w : World} {s : Nat} {lv : Value} {p left : Int}
@[go_sem,simp] theorem World.size_src(w:World)(s:Nat)(lv:Value)(p left:Int):(w.src s lv p left).heap.size=w.heap.size:=by simp [World.src]
theorem World.heap_src_same(h:s<w.heap.size):(w.src s lv p left).heap[s]? =some (.cells #[lv,.int .i64 p,.int .i64 left] 95 (0,0)):=by
 simp [World.src,h]
theorem World.heap_src_other{b:Nat}(h:b≠s):(w.src s lv p left).heap[b]? =w.heap[b]?:=by
 simp only [World.src];rw [Array.getElem?_setIfInBounds_ne (Ne.symm h)]
@[go_sem] theorem World.cell?_src0(h:s<w.heap.size):(w.src s lv p left).cell? ⟨s,0,none⟩=some lv:=by simp [World.cell?,World.heap_src_same h]
@[go_sem] theorem World.cell?_src1(h:s<w.heap.size):(w.src s lv p left).cell? ⟨s,1,none⟩=some (.int .i64 p):=by simp [World.cell?,World.heap_src_same h]
@[go_sem] theorem World.cell?_src2(h:s<w.heap.size):(w.src s lv p left).cell? ⟨s,2,none⟩=some (.int .i64 left):=by simp [World.cell?,World.heap_src_same h]
@[go_sem] theorem World.frozen?_src(h:s<w.heap.size)(i:Nat):(w.src s lv p left).frozen? ⟨s,i,none⟩=false:=by simp [World.frozen?,World.heap_src_same h]
@[go_sem] theorem World.cell?_src_other{b i:Nat}(h:b≠s):(w.src s lv p left).cell? ⟨b,i,none⟩=w.cell? ⟨b,i,none⟩:=World.cell?_of_block (World.heap_src_other h)
@[go_sem] theorem World.frozen?_src_other{b i:Nat}(h:b≠s):(w.src s lv p left).frozen? ⟨b,i,none⟩=w.frozen? ⟨b,i,none⟩:=World.frozen?_of_block (World.heap_src_other h)
@[go_sem,simp] theorem World.src_src(lv':Value)(p' left':Int):(w.src s lv p left).src s lv' p' left'=w.src s lv' p' left':=by simp [World.src]
@[go_sem] theorem World.src_alloc(o:Obj)(h:s<w.heap.size):(w.alloc o).src s lv p left=(w.src s lv p left).alloc o:=by
  simp only [World.src,World.alloc]
  congr 1
  apply Array.ext_getElem?;intro k;simp only [Array.getElem?_setIfInBounds,Array.getElem?_push,Array.size_setIfInBounds,Array.size_push];by_cases hk:s=k
  ·subst hk;simp [h,Nat.ne_of_lt h,Nat.lt_succ_of_lt h]
  ·simp [hk]
@[go_sem] theorem World.src_grow(bs:Array Obj)(d:Nat)(h:s<w.heap.size):(w.grow bs d).src s lv p left=(w.src s lv p left).grow bs d:=by
  simp only [World.src,World.grow]
  congr 1
  exact Array.setIfInBounds_append_left h
@[go_sem,simp] theorem World.src_drewN(n:Nat):(w.drewN n).src s lv p left=(w.src s lv p left).drewN n:=rfl
@[go_sem,simp] theorem World.src_drew:w.drew.src s lv p left=(w.src s lv p left).drew:=rfl
@[go_sem] theorem World.setCell_src1(h:s<w.heap.size)(v:Int):(w.src s lv p left).setCell ⟨s,1,none⟩ (.int .i64 v)=w.src s lv v left:=by
  exact RH
@[go_sem] theorem World.setCell_src2(h:s<w.heap.size)(v:Int):(w.src s lv p left).setCell ⟨s,2,none⟩ (.int .i64 v)=w.src s lv p v:=by
  exact RH
@[go_sem] theorem World.setCell_drewN(w:World)(n:Nat)(a:Addr)(v:Value):(w.drewN n).setCell a v=(w.setCell a v).drewN n:=rfl
theorem World.src_new(w:World)(lv:Value)(p left:Int):(w.alloc (.cells #[lv,.int .i64 p,.int .i64 left] 95)).src w.heap.size lv p left=w.alloc (.cells #[lv,.int .i64 p,.int .i64 left] 95):=by
 simp only [World.src,World.alloc]
 congr 1
 apply Array.ext_getElem?;intro k;simp only [Array.getElem?_setIfInBounds,Array.getElem?_push,Array.size_push];by_cases hk:w.heap.size=k
 ·subst hk;simp
 ·simp [hk]

def ax(w:World)(v:Value)(zs:List Int):Prop:=
 zs.length<=140737488355328/\(∀z∈zs,-9223372036854775808<=z/\z<=9223372036854775807)/\
 ∃a cap,v= .slice a zs.length cap/\(zs.length=0\/∃b off,a=some ⟨b,off,none⟩/\b<w.heap.size/\∀i,i<zs.length->w.cell? ⟨b,off+i,none⟩=some (.int .i64 (zs.getD i 0)))
theorem ax.grow{v:Value}{zs:List Int}(h:ax w v zs)(bs:Array Obj)(d:Nat):ax (w.grow bs d) v zs:=by
 obtain⟨h0,hr,a,cap,hv,h1⟩:=h;refine⟨h0,hr,a,cap,hv,h1.imp id ?_⟩;rintro⟨b,off,ha,hb,hc⟩;refine⟨b,off,ha,by simp;omega,fun i hi=>?_⟩;rw [World.cell?_grow _ _ _ hb];exact hc i hi
end
end Go
namespace Go.Proofs.YtcfpoofhokbhlaaGreatDoor
open Tryz List
open Go.RowKit

theorem K9(s:Nat)(p len cap:Nat)(a:Option Addr)(left k:Int)(Y:World)(hs:s<Y.heap.size)(hp:len<=p)(hpm:p<=4611686018427387904)(hk:k<=4611686018427387904) :
 Calls prog 46 #[.pointer (some ⟨s,0,none⟩),.int .i64 k] (Y.src s (.slice a len cap) p left) fun e w'=>e= .returned (.int .i64 (pick 0 k))/\∃n,w'=(Y.src s (.slice a len cap) (p+1) left).drewN n:=by
 have d1:decide ((p:Int)<(len:Int))=false:=by simp;omega
 go_enter func46,ntmps46
 go_wp2_with fail
 go_quiet (fail)
 skip
 go_wp2_with (first|(go_at_call 6;refine gw (bz _ _ _ ze) ?_))
 go_returns
 exact⟨rfl,_,rfl⟩

theorem Oz(s:Nat)(p len cap b off:Nat)(left k z:Int)(Y:World)(hs:s<Y.heap.size)(hp:p<len)(hlen:len<=140737488355328)(hk:k<=4611686018427387904)(hbs:b≠s)(hz:Y.cell? ⟨b,off+p,none⟩=some (.int .i64 z)) :
 Calls prog 46 #[.pointer (some ⟨s,0,none⟩),.int .i64 k] (Y.src s (.slice (some ⟨b,off,none⟩) len cap) p left) fun e w'=>e= .returned (.int .i64 (pick z k))/\∃n,w'=(Y.src s (.slice (some ⟨b,off,none⟩) len cap) (p+1) left).drewN n:=by
 have d1:(p:Int)<(len:Int):=by omega
 have d0:(0:Int)<=(p:Int):=by omega
 go_enter func46,ntmps46
 go_wp2_with fail
 go_quiet (fail)
 (go_wp2_with fail;go_quiet (fail))
 go_wp2_with (first|(go_at_call 6;refine gw (bz _ _ _ ze) ?_))
 go_returns
 exact⟨rfl,_,rfl⟩

def aH(w:World)(s:Nat)(lv:Value)(zs:List Int):Prop:=
 zs.length<=140737488355328/\
 ∃a cap,lv= .slice a zs.length cap/\(zs.length=0\/∃b off,a=some ⟨b,off,none⟩/\b<w.heap.size/\b≠s/\∀i,i<zs.length->w.cell? ⟨b,off+i,none⟩=some (.int .i64 (zs.getD i 0)))

def aJ(zs:List Int)(p:Nat)(k:Int):Int:=pick (zs.getD p 0) k

theorem bf(s:Nat)(lv:Value)(zs:List Int)(p:Nat)(P left k:Int)(X:World)(hP:P=p)(hs:s<X.heap.size)(hX:X.src s lv P left=X)(hl:aH X s lv zs)(hp:p<=4611686018427387904)(hk:k<=4611686018427387904) :
 Calls prog 46 #[.pointer (some ⟨s,0,none⟩),.int .i64 k] X fun e w'=>e= .returned (.int .i64 (aJ zs p k))/\∃n,w'=(X.src s lv (P+1) left).drewN n:=by
 subst hP;obtain⟨hlen,a,cap,rfl,hc⟩:=hl;by_cases h:p<zs.length
 ·rcases hc with h0|⟨b,off,rfl,hb,hbs,hc⟩
  ·omega
  ·have:=Oz s p zs.length cap b off left k (zs.getD p 0) X hs h hlen hk hbs (hc p h);rw [hX]at this;exact this
 ·have:=K9 s p zs.length cap a left k X hs ze hp hk;rw [hX]at this;rw [aJ,getD_eq_getElem?_getD,getElem?_eq_none ze];exact this

theorem aH.of_cells{w w':World}{s:Nat}{lv:Value}{zs:List Int}(h:aH w s lv zs)(hsz:w.heap.size<=w'.heap.size)(hc:∀b o,b<w.heap.size->b≠s->w'.cell? ⟨b,o,none⟩=w.cell? ⟨b,o,none⟩):aH w' s lv zs:=by
 obtain⟨h0,a,cap,hv,h1⟩:=h;refine⟨h0,a,cap,hv,h1.imp id ?_⟩;rintro⟨b,off,ha,hb,hbs,hcc⟩;exact⟨b,off,ha,by omega,hbs,fun i hi=>by rw [hc b _ hb hbs];exact hcc i hi⟩
theorem aH.grow{w:World}{s:Nat}{lv:Value}{zs:List Int}(h:aH w s lv zs)(bs:Array Obj)(d:Nat):aH (w.grow bs d) s lv zs:=
 h.of_cells zg fun b o hb _=>World.cell?_grow _ _ _ hb
theorem aH.alloc{w:World}{s:Nat}{lv:Value}{zs:List Int}(h:aH w s lv zs)(o:Obj):aH (w.alloc o) s lv zs:=
 h.of_cells zg fun b i hb _=>World.cell?_alloc_lt w o ⟨b,i,none⟩ hb
theorem aH.drewN{w:World}{s:Nat}{lv:Value}{zs:List Int}(h:aH w s lv zs)(n:Nat):aH (w.drewN n) s lv zs:=
 h.of_cells (Nat.le_refl _) fun _ _ _ _=>rfl
theorem aH.src{w:World}{s:Nat}{lv:Value}{zs:List Int}(h:aH w s lv zs)(lv':Value)(p left:Int):aH (w.src s lv' p left) s lv zs:=
 h.of_cells zg fun _ _ _ hbs=>World.cell?_src_other hbs

def Md(i:Int):Int:=if i<3 then 1 else if i=3 then 10 else if i=4 then 4 else if i=5 then 1000 else 10000
def Ia(zs:List Int)(p:Nat):Int:=mkN (aJ zs p 4000) (Md (aJ zs (p+1) 7))
def Ib(zs:List Int)(p:Nat):Int:=mkD (aJ zs p 4000) (Md (aJ zs (p+1) 7))
theorem fA(zs:List Int)(p:Nat)(k:Int)(hk:1<=k):0<=aJ zs p k/\aJ zs p k<k:=cZ _ _ hk

theorem Ed(s:Nat)(lv:Value)(zs:List Int)(p:Nat)(P left:Int)(X:World)(hP:P=p)(hs:s<X.heap.size)(hX:X.src s lv P left=X)(hl:Hid (aH X s lv zs))(hp:p<=4611686018427387000) :
 Calls prog 52 #[.pointer (some ⟨s,0,none⟩)] X fun e w'=>e= .returned (.agg #[.int .i64 (Ia zs p),.int .i64 (Ib zs p)])/\(X.src s lv (P+2) left).Grows w':=by
 subst hP;rw [<-hX];clear hX;unfold Ia Ib;have b1:=fA zs p 4000 ze;have b2:=fA zs (p+1) 7 ze;generalize hV:aJ zs (p+1) 7=v at *;have HV:=yq hV;clear hV;generalize hU:aJ zs p 4000=u at *;have HU:=yq hU;clear hU;rcases(show v=0\/v=1\/v=2\/v=3\/v=4\/v=5\/v=6 by omega)with rfl|rfl|rfl|rfl|rfl|rfl|rfl
 all_goals
  simp only [Md,reduceIte,Int.reduceLT,Int.reduceEq]
  go_enter func52,ntmps52
  go_wp2_with fail
  refine(bf s lv zs p p left _ _ rfl zp zr zu ze ze).mono ?_;rintro e w' ⟨rfl,n1,rfl⟩;rw [HU.out]
  go_wp2_with fail
  refine(bf s lv zs (p+1) (p+1) left _ _ zg zp zr zu ze ze).mono ?_;rintro e w' ⟨rfl,n2,rfl⟩;rw [HV.out]
  go_wp2_with fail
  refine gvq (dZ _ _ _ ze ze ze ze) ?_;intro bs dr
  go_wp2_with fail
  go_returns
  rw [World.src_src,show(p:Int)+1+1=p+2 by omega];exact⟨rfl,.of_below af⟩

inductive Ex where
 |mk (op num den dim:Int) (name:ByteArray) (args:List Ex)
namespace Ex
def op:Ex->Int|mk o _ _ _ _ _=>o
def num:Ex->Int|mk _ n _ _ _ _=>n
def den:Ex->Int|mk _ _ d _ _ _=>d
def dim:Ex->Int|mk _ _ _ d _ _=>d
def name:Ex->ByteArray|mk _ _ _ _ s _=>s
def args:Ex->List Ex|mk _ _ _ _ _ l=>l
instance:Inhabited Ex:=⟨mk 0 0 0 0 ByteArray.empty []⟩
def arg(e:Ex)(i:Nat):Ex:=e.args.getD i default
mutual
def size:Ex->Nat
 |mk _ _ _ _ _ l=>sizes l+1
def sizes:List Ex->Nat
 | []=>0
 |e::r=>size e+sizes r
end
mutual
def depth:Ex->Nat
 |mk _ _ _ _ _ l=>depths l+1
def depths:List Ex->Nat
 | []=>0
 |e::r=>max (depth e) (depths r)
end
theorem size_eq(e:Ex):e.size=sizes e.args+1:=by cases e;rw [size];rfl
theorem depth_eq(e:Ex):e.depth=depths e.args+1:=by cases e;rw [depth];rfl
theorem oP(a b:List Ex):sizes (a++b)=sizes a+sizes b:=by
 induction a with
 |nil=>simp [sizes]
 |cons e r ih=>simp only [cons_append,sizes,ih];omega
theorem vN(a b:List Ex):depths (a++b)=max (depths a) (depths b):=by
 induction a with
 |nil=>simp [depths]
 |cons e r ih=>simp only [cons_append,depths,ih];omega
theorem size_pos(e:Ex):1<=e.size:=by rw [size_eq];omega
theorem G9(l:List Ex)(i:Nat)(h:i<l.length):(l.getD i default).size<=sizes l:=by
 induction l generalizing i with
 |nil=>simp at h
 |cons e r ih=>
  cases i with
  |zero=>simp [sizes]
  |succ i=>have:=ih i zF;simp only [getD_cons_succ,sizes];omega
theorem size_arg(e:Ex)(i:Nat)(h:i<e.args.length):(e.arg i).size<e.size:=by
 have:=G9 e.args i h;rw [size_eq e];unfold arg;omega
mutual
theorem depth_size:∀e:Ex,e.depth<=e.size
 |mk _ _ _ _ _ l=>by rw [depth,size];have:=depths_sizes l;omega
theorem depths_sizes:∀l:List Ex,depths l<=sizes l
 | []=>by simp [depths,sizes]
 |e::r=>by rw [depths,sizes];have:=depth_size e;have:=depths_sizes r;omega
end
theorem wu(l:List Ex)(k:Nat)(h:k<l.length):l.take (k+1)=l.take k++[l.getD k default]:=by
 rw [take_succ_eq_append_getElem h,getD_eq_getElem?_getD,getElem?_eq_getElem h];rfl
theorem sizes_take(e:Ex)(k:Nat)(h:k<e.args.length):sizes (e.args.take (k+1))=sizes (e.args.take k)+(e.arg k).size:=by
 rw [wu _ _ h,oP];simp [sizes,arg]
theorem depths_take(e:Ex)(k:Nat)(h:k<e.args.length):depths (e.args.take (k+1))=max (depths (e.args.take k)) (e.arg k).depth:=by
 rw [wu _ _ h,vN];simp [depths,arg]
theorem sizes_take_le(e:Ex)(k:Nat):sizes (e.args.take k)<=sizes e.args:=by
 conv=>rhs;rw [<-take_append_drop k e.args]
 rw [oP];omega
end Ex

structure MZ(w:World)(b o:Nat)(e:Ex)(v:Value):Prop where
 c0:w.cell? ⟨b,o,none⟩=some (.int .i64 e.op)
 c1:w.cell? ⟨b,o+1,none⟩=some (.int .i64 e.num)
 c2:w.cell? ⟨b,o+2,none⟩=some (.int .i64 e.den)
 c3:w.cell? ⟨b,o+3,none⟩=some (.int .i64 e.dim)
 c4:w.cell? ⟨b,o+4,none⟩=some (.string e.name)
 c5:w.cell? ⟨b,o+5,none⟩=some v

def I64(z:Int):Prop:=-9223372036854775808<=z/\z<=9223372036854775807
structure jW(e:Ex):Prop where
 op:I64 e.op
 num:I64 e.num
 den:I64 e.den
 dim:I64 e.dim
 len:e.args.length<=140737488355328
 name:e.name.size<=140737488355328

inductive aB(S:Nat->Prop)(w:World):Ex->Value->Prop
 |mk (e:Ex) (a:Option Addr) (cap:Nat) (vs:Nat->Value) (hr:jW e)
  (hc:e.args.length=0\/∃b off,a=some ⟨b,off,none⟩/\S b/\b<w.heap.size/\∀i,i<e.args.length->MZ w b (off+i*6) (e.arg i) (vs i))
  (hs:∀i,i<e.args.length->aB S w (e.arg i) (vs i)):aB S w e (.slice a e.args.length cap)

theorem MZ.same{w w':World}{b o:Nat}{e:Ex}{v:Value}(h:MZ w b o e v)(hw:∀o,w'.cell? ⟨b,o,none⟩=w.cell? ⟨b,o,none⟩):MZ w' b o e v:=
 ⟨by rw [hw];exact h.c0,by rw [hw];exact h.c1,by rw [hw];exact h.c2,by rw [hw];exact h.c3,by rw [hw];exact h.c4,by rw [hw];exact h.c5⟩

theorem aB.keep{S:Nat->Prop}{w w':World}{e:Ex}{v:Value}(h:aB S w e v)(hsz:w.heap.size<=w'.heap.size)(hw:∀b o,S b->b<w.heap.size->w'.cell? ⟨b,o,none⟩=w.cell? ⟨b,o,none⟩):aB S w' e v:=by
 induction h with
 |mk e a cap vs hr hc hs ih=>
  refine .mk e a cap vs hr (hc.imp id ?_) ih;rintro⟨b,off,ha,hS,hb,hx⟩;exact⟨b,off,ha,hS,by omega,fun i hi=>(hx i hi).same fun o=>hw b o hS hb⟩
theorem aB.grow{S:Nat->Prop}{w:World}{e:Ex}{v:Value}(h:aB S w e v)(bs:Array Obj)(d:Nat):aB S (w.grow bs d) e v:=
 h.keep zg fun b o _ hb=>World.cell?_grow _ _ _ hb
theorem aB.alloc{S:Nat->Prop}{w:World}{e:Ex}{v:Value}(h:aB S w e v)(o:Obj):aB S (w.alloc o) e v:=
 h.keep zg fun b i _ hb=>World.cell?_alloc_lt w o ⟨b,i,none⟩ hb
theorem aB.mono{S S':Nat->Prop}{w:World}{e:Ex}{v:Value}(h:aB S w e v)(hS:∀b,S b->S' b):aB S' w e v:=by
 induction h with
 |mk e a cap vs hr hc hs ih=>
  refine .mk e a cap vs hr (hc.imp id ?_) ih;rintro⟨b,off,ha,hb,hx⟩;exact⟨b,off,ha,hS b hb,hx⟩
theorem aB.rng{S:Nat->Prop}{w:World}{e:Ex}{v:Value}(h:aB S w e v):jW e:=by cases h;assumption

abbrev exV(e:Ex)(v:Value):Value:=.agg #[.int .i64 e.op,.int .i64 e.num,.int .i64 e.den,.int .i64 e.dim,.string e.name,v]

def szT(e:Ex)(k:Nat):Int:=(1+Ex.sizes (e.args.take k):Nat)
def dpT(e:Ex)(k:Nat):Int:=(Ex.depths (e.args.take k):Nat)
theorem Bj(e:Ex):szT e 0=1:=by simp [szT,Ex.sizes]
theorem Bl(e:Ex)(k:Nat)(h:k<e.args.length):szT e (k+1)=szT e k+((e.arg k).size:Int):=by unfold szT;rw [Ex.sizes_take e k h];omega
theorem KD(e:Ex)(k:Nat):1<=szT e k/\szT e k<=e.size:=by unfold szT;have:=Ex.sizes_take_le e k;rw [e.size_eq];omega
theorem FH(e:Ex)(k:Nat)(h:e.args.length<=k):szT e k=e.size:=by unfold szT;rw [take_of_length_le h,e.size_eq];omega
theorem CQ(e:Ex):dpT e 0=0:=by simp [dpT,Ex.depths]
theorem CR(e:Ex)(k:Nat)(h:k<e.args.length):dpT e (k+1)=max (dpT e k) ((e.arg k).depth:Int):=by unfold dpT;rw [Ex.depths_take e k h];omega
theorem L9(e:Ex)(k:Nat):0<=dpT e k/\dpT e k<=e.size:=by
 unfold dpT;have:=Ex.depths_sizes (e.args.take k);have:=Ex.sizes_take_le e k;rw [e.size_eq];omega
theorem Gn(e:Ex)(k:Nat)(h:e.args.length<=k):dpT e k+1=e.depth:=by unfold dpT;rw [take_of_length_le h,e.depth_eq];omega

theorem qW(S:Nat->Prop)(n:Nat):∀(e:Ex),e.size<=n->∀(v:Value) (w:World),aB S w e v->Hid (e.size<=2305843009213693952)->
 Calls prog 49 #[exV e v] w fun r w'=>r= .returned (.int .i64 (e.size:Nat))/\w.Grows w':=by
 induction n with
 |zero=>intro e he;have:=e.size_pos;omega
 |succ n ih=>
  intro e he v w h hbig;have IH:=yq ih;clear ih
  cases h with
  |mk _ a cap vs hr hc hs=>
   have hlen:=hr.len;have Hs:=yq hs;have He:=yq he;have Hc:=yq hc;clear hr hs he hc
   go_enter func49,ntmps49
   go_wp2_with fail
   go_loopw [3,4] (fun v3 v4 wr=>∃k:Nat,k<=e.args.length/\v3= .int .i64 (szT e k)/\v4= .int .i64 k/\
    World.Grows (w.alloc (.cells #[.int .i64 e.op,.int .i64 e.num,.int .i64 e.den,.int .i64 e.dim,.string e.name,.slice a e.args.length cap] 69)) wr) (fun _ v4 _=>e.args.length-(intOf v4).toNat)
   case atStart=>exact⟨0,by omega,by rw [Bj],rfl,.refl _⟩
   case round=>
    obtain⟨k,hk,rfl,rfl,bs,d,rfl⟩:=hrel;have hb:=KD e k;have hb0:1<=szT e k:=hb.1;have hb1:szT e k<=2305843009213693952:=by have:=hbig.out;omega
    clear hb;by_cases hlt:k<e.args.length
    ·rcases Hc.out with h0|⟨b,off,rfl,hS,hbw,hx⟩
     ·omega
     ·obtain⟨x0,x1,x2,x3,x4,x5⟩:=hx k hlt;clear hx;have hlt1:(k:Int)<(e.args.length:Int):=by omega
      have HN:=yq (Bl e k hlt);have HA:=yq (e.size_arg k hlt);have hs1:((e.arg k).size:Int)<=2305843009213693952:=by have:=hbig.out;have:=HA.out;omega
      go_wp2_with fail
      refine gvq (IH.out (e.arg k) zL (vs k) _ (((Hs.out k hlt).alloc _).grow _ _) yx) ?_;intro bs2 d2
      go_wp2_with fail
      go_roundw
      case rel=>exact⟨k+1,by omega,by rw [HN.out],by go_num,.of_below af⟩
      case measure=>simp [intOf];omega
    ·have HN:=yq (FH e k ze);obtain rfl:k=e.args.length:=by omega
     go_wp2_with fail
     go_returns
     exact⟨ret_int HN.out,.of_below af⟩

theorem oH(S:Nat->Prop)(n:Nat):∀(e:Ex),e.size<=n->∀(v:Value) (w:World),aB S w e v->Hid (e.size<=2305843009213693952)->
 Calls prog 48 #[exV e v] w fun r w'=>r= .returned (.int .i64 (e.depth:Nat))/\w.Grows w':=by
 induction n with
 |zero=>intro e he;have:=e.size_pos;omega
 |succ n ih=>
  intro e he v w h hbig;have IH:=yq ih;clear ih
  cases h with
  |mk _ a cap vs hr hc hs=>
   have hlen:=hr.len;have Hs:=yq hs;have He:=yq he;have Hc:=yq hc;clear hr hs he hc
   go_enter func48,ntmps48
   go_wp2_with fail
   go_loopw [3,4] (fun v3 v4 wr=>∃k:Nat,k<=e.args.length/\v3= .int .i64 (dpT e k)/\v4= .int .i64 k/\
    World.Grows (w.alloc (.cells #[.int .i64 e.op,.int .i64 e.num,.int .i64 e.den,.int .i64 e.dim,.string e.name,.slice a e.args.length cap] 69)) wr) (fun _ v4 _=>e.args.length-(intOf v4).toNat)
   case atStart=>exact⟨0,by omega,by rw [CQ],rfl,.refl _⟩
   case round=>
    obtain⟨k,hk,rfl,rfl,bs,d,rfl⟩:=hrel;have hb:=L9 e k;have hb0:0<=dpT e k:=hb.1;have hb1:dpT e k<=2305843009213693952:=by have:=hbig.out;omega
    clear hb;by_cases hlt:k<e.args.length
    ·rcases Hc.out with h0|⟨b,off,rfl,hS,hbw,hx⟩
     ·omega
     ·obtain⟨x0,x1,x2,x3,x4,x5⟩:=hx k hlt;clear hx;have hlt1:(k:Int)<(e.args.length:Int):=by omega
      have HN:=yq (CR e k hlt);have HA:=yq (e.size_arg k hlt);have hs1:((e.arg k).depth:Int)<=2305843009213693952:=by have:=hbig.out;have:=HA.out;have:=(e.arg k).depth_size;omega
      go_wp2_with fail
      refine gvq (IH.out (e.arg k) zL (vs k) _ (((Hs.out k hlt).alloc _).grow _ _) yx) ?_;intro bs2 d2
      go_wp2_with fail
      go_roundw
      case rel=>exact⟨k+1,by omega,by rw [HN.out],by go_num,.of_below af⟩
      case measure=>simp [intOf];omega
    ·have HN:=yq (Gn e k ze);obtain rfl:k=e.args.length:=by omega
     go_wp2_with fail
     go_returns
     exact⟨ret_int HN.out,.of_below af⟩
open Go.RowKit

def uC(c:Int):Bool:=decide (97<=c)&&decide (c<=122)
def om(c:Int):Bool:=decide (48<=c)&&decide (c<=57)

theorem iP(c:Int)(w:World):Calls prog 103 #[.int .u8 c] w fun e w'=>e= .returned (.bool (uC c))/\w=w':=by
 by_cases c1:97<=c
 ·by_cases c2:c<=122
  ·go_enter func103,ntmps103
   go_wp2
   go_returns
   exact⟨au (by simp [uC,c1,c2]),rfl⟩
  ·go_enter func103,ntmps103
   exact M5
 ·go_enter func103,ntmps103
  exact M5
theorem nZ(c:Int)(w:World):Calls prog 104 #[.int .u8 c] w fun e w'=>e= .returned (.bool (om c))/\w=w':=by
 by_cases c1:48<=c
 ·by_cases c2:c<=57
  ·go_enter func104,ntmps104
   go_wp2
   go_returns
   exact⟨au (by simp [om,c1,c2]),rfl⟩
  ·go_enter func104,ntmps104
   exact M4
 ·go_enter func104,ntmps104
  exact M4
def aU(op:Int):Int:=if 1<=op/\op<=3 then 0 else if 4<=op/\op<=6 then 1 else if 7<=op/\op<=20 then 2 else if op=21 then 3 else -1
theorem mO(op:Int)(w:World):Calls prog 67 #[.int .i64 op] w fun e w'=>e= .returned (.int .i64 (aU op))/\w=w':=by
 by_cases c1:op<1
 ·exact Kb
 ·by_cases c2:op<=3
  ·exact Kb
  ·by_cases c3:op<=6
   ·exact Kb
   ·by_cases c4:op<=20
    ·exact Kb
    ·by_cases c5:op=21
     ·subst c5
      go_enter func67,ntmps67
      go_wp2
      go_returns
      exact⟨ret_int (by simp [aU]),rfl⟩
     ·exact Kb
def byt(s:ByteArray)(i:Nat):Int:=if h:i<s.size then(s[i].toNat:Int)else 0
theorem vo(s:ByteArray)(i:Nat)(h:i<s.size):byt s i=(s[i].toNat:Int):=by simp [byt,h]
def jb(i:Nat)(c:Int):Bool:=uC c || (i !=0&&(om c || decide (c=95)))
def isWord(s:ByteArray):Bool:=decide (∀i,i<s.size->jb i (byt s i)=true)&&decide (1<=s.size)&&decide (s.size<=12)
theorem mZ(s:ByteArray)(k:Nat)(h:k<s.size)(hc:jb k (s[k].toNat:Int)=false):isWord s=false:=by
 have:¬∀i,i<s.size->jb i (byt s i)=true:=fun f=>by have:=f k h;rw [vo s k h,hc]at this;cases this
 simp only [isWord,decide_eq_false this,Bool.false_and]
theorem nV(s:ByteArray)(h:∀i,i<s.size->jb i (byt s i)=true):isWord s=(decide (1<=s.size)&&decide (s.size<=12)):=by
 simp only [isWord,decide_eq_true h,Bool.true_and]
theorem Fy(s:ByteArray)(w:World)(hs:s.size<=maxLen):Calls prog 72 #[.string s] w fun e w'=>e= .returned (.bool (isWord s))/\w=w':=by
 unfold maxLen at hs
 go_enter func72,ntmps72
 go_wp2
 go_loop [3] (fun i=>∃k:Nat,k<=s.size/\i= .int .i64 k/\∀j,j<k->jb j (byt s j)=true) (fun i=>s.size-(intOf i).toNat)
 case atStart=>exact⟨0,Nat.zero_le _,rfl,fun j hj=>absurd hj (Nat.not_lt_zero _)⟩
 case round=>
  obtain⟨k,hk,rfl,hall⟩:=hrel;by_cases hk2:k<s.size
  ·cases hL:uC (s[k].toNat:Int)
   ·by_cases h0:k=0
    ·subst h0
     go_wp2_with ((go_at_call 103;(with_reducible refine gw (iP _ _) ?_);simp only [hL]))
     go_ret
     exact⟨au (mZ s 0 hk2 (by simp [jb,hL])).symm,rfl⟩
    ·cases hD:om (s[k].toNat:Int)
     ·by_cases hU:(s[k].toNat:Int)=95
      ·go_wp2_with (first|((go_at_call 103;(with_reducible refine gw (iP _ _) ?_);simp only [hL]))|((go_at_call 104;(with_reducible refine gw (nZ _ _) ?_);simp only [hD])))
       go_round
       case rel=>exact⟨k+1,by omega,by go_num,fun i hi=>by
        by_cases e:i=k
        ·subst e;rw [vo s i hk2];simp [jb,hL,hD,hU,h0]
        ·exact hall i ze⟩
       case measure=>simp [intOf];omega
      ·go_wp2_with (first|((go_at_call 103;(with_reducible refine gw (iP _ _) ?_);simp only [hL]))|((go_at_call 104;(with_reducible refine gw (nZ _ _) ?_);simp only [hD])))
       all_goals first
        |(go_ret
          exact⟨au (mZ s k hk2 (by simp [jb,hL,hD,hU])).symm,rfl⟩)
        |(exfalso;simp_all)
     ·go_wp2_with (first|((go_at_call 103;(with_reducible refine gw (iP _ _) ?_);simp only [hL]))|((go_at_call 104;(with_reducible refine gw (nZ _ _) ?_);simp only [hD])))
      go_round
      case rel=>exact⟨k+1,by omega,by go_num,fun i hi=>by
       by_cases e:i=k
       ·subst e;rw [vo s i hk2];simp [jb,hL,hD,h0]
       ·exact hall i ze⟩
      case measure=>simp [intOf];omega
   ·go_wp2_with ((go_at_call 103;(with_reducible refine gw (iP _ _) ?_);simp only [hL]))
    go_round
    case rel=>exact⟨k+1,by omega,by go_num,fun i hi=>by
     by_cases e:i=k
     ·subst e;rw [vo s i hk2];simp [jb,hL]
     ·exact hall i ze⟩
    case measure=>simp [intOf];omega
  ·have:k=s.size:=by omega
   subst this;by_cases h1:1<=s.size
   ·go_wp2
    go_ret
    exact⟨au (by rw [nV s hall];simp [h1];omega),rfl⟩
   ·go_wp2
    go_ret
    exact⟨au (by rw [nV s hall];simp [h1]),rfl⟩
def Sv:List (List UInt8):=[[97,110,100],[98,101,115,116],[98,121],[99,114,101,100,105,116],[99,117,114,114,101,110,99,121],[101,108,115,101],[102,108,111,111,114],[102,114,111,109],[103,114,97,110,116],[105,102],[105,110,100,101,120],[108,101,116],[108,105,109,105,116],[109,97,120],[109,105,110],[110,111,116],[111,114],[112,97,121],[114,101,100,117,99,101],[114,111,117,110,100],[115,116,97,116,117,116,101],[116,104,101,110]
 ]
def OT(s:ByteArray):Bool:=Sv.contains s.toList
theorem BP(s:ByteArray)(w:World):Calls prog 73 #[.string s] w fun e w'=>e= .returned (.bool (OT s))/\w=w':=by
 go_enter func73,ntmps73
 exact Rp
def fq(s:ByteArray):Bool:=isWord s&&!OT s
theorem vD(s:ByteArray)(w:World)(hs:s.size<=maxLen):Calls prog 56 #[.string s] w fun e w'=>e= .returned (.bool (fq s))/\w=w':=by
 cases hW:isWord s<;>
 ·go_enter func56,ntmps56
  go_wp2_with (first|(go_at_call 72;(with_reducible refine gw (Fy _ _ zv) ?_);simp only [hW])|(go_at_call 73;(with_reducible refine gw (BP _ _) ?_)))
  go_returns
  exact⟨au (by simp [fq,hW]),rfl⟩

def oN:ByteArray:=⟨#[48,49,50,51,52,53,54,55,56,57]⟩
def uU:Nat->Int->Nat->ByteArray->ByteArray
 |0,_,_,s=>s
 |f+1,n,l,s=>if 0<n\/s.size<l then uU f (n / 10) l (oN.extract (n % 10).toNat (n % 10+1).toNat++s)else s
def kr(n:Int)(l:Nat):ByteArray:=uU (n.toNat+l) n l ByteArray.empty
theorem Jl(f:Nat)(n:Int)(l:Nat)(s:ByteArray)(h:¬(0<n\/s.size<l)):uU f n l s=s:=by
 cases f with
 |zero=>rfl
 |succ f=>simp only [uU,if_neg h]
theorem Gq(f:Nat)(n:Int)(l:Nat)(s:ByteArray)(h:0<n\/s.size<l)(hf:n.toNat+(l-s.size)<=f) :
 uU f n l s=uU (f-1) (n / 10) l (oN.extract (n % 10).toNat (n % 10+1).toNat++s):=by
 cases f with
 |zero=>omega
 |succ f=>simp only [uU,if_pos h];rfl
theorem wo:oN.size=10:=rfl
theorem wm(m:Int)(s:ByteArray):(oN.extract (m % 10).toNat (m % 10+1).toNat++s).size=s.size+1:=by
 rw [ByteArray.size_append,ByteArray.size_extract,wo];omega
theorem xN:∀(f:Nat) (n:Int) (l:Nat) (s:ByteArray),0<=n->(uU f n l s).size<=s.size+n.toNat+(l-s.size)
 |0,_,_,_,_=>by simp only [uU];omega
 |f+1,n,l,s,h=>by
  simp only [uU]
  split
  ·have:=xN f (n / 10) l (oN.extract (n % 10).toNat (n % 10+1).toNat++s) ze;rw [wm]at this;omega
  ·omega
theorem qL(n:Int)(l:Nat)(h:0<=n):(kr n l).size<=n.toNat+l:=by
 have:=xN (n.toNat+l) n l ByteArray.empty h;have e:ByteArray.empty.size=0:=rfl;unfold kr;omega
theorem CW(n:Int)(l:Nat)(w:World)(h0:0<=n)(h1:n<=9223372036854775807)(hl:l<=4):Calls prog 135 #[.int .i64 n,.int .i64 l] w fun e w'=>e= .returned (.string (kr n l))/\w=w':=by
 go_enter func135,ntmps135
 go_wp2
 go_loop [0,5] (fun a b=>∃m:Int,∃s:ByteArray,∃f:Nat,0<=m/\(s.size:Int)+m<=9223372036854775807/\a= .int .i64 m/\b= .string s/\m.toNat+(l-s.size)<=f/\Hid (uU f m l s=kr n l)) (fun a b=>(intOf a).toNat+(l-(match b with| .string s=>s.size|_=>0)))
 case atStart=>exact⟨n,_,n.toNat+l,h0,by show((0:Nat):Int)+n<=_;omega,rfl,rfl,by omega,yq rfl⟩
 case round=>
  obtain⟨m,s,f,hm0,hm1,rfl,rfl,hf,hg⟩:=hrel;have hr:0<=m % 10/\m % 10<10:=by omega
  have hpc:Hid (_):=yq (wm m s);by_cases hp:0<m
  ·go_wp2
   go_round
   case rel=>exact⟨m / 10,_,f-1,by omega,by rw [show({data:=#[48,49,50,51,52,53,54,55,56,57]}:ByteArray)=oN from rfl,hpc.out];omega,rfl,rfl,by rw [show({data:=#[48,49,50,51,52,53,54,55,56,57]}:ByteArray)=oN from rfl,hpc.out];omega,yq (by rw [<-hg.out,Gq f m l s (.inl hp) hf];rfl)⟩
   case measure=>
    exact Rm
  ·by_cases hq:s.size<l
   ·go_wp2
    go_round
    case rel=>exact⟨m / 10,_,f-1,by omega,by rw [show({data:=#[48,49,50,51,52,53,54,55,56,57]}:ByteArray)=oN from rfl,hpc.out];omega,rfl,rfl,by rw [show({data:=#[48,49,50,51,52,53,54,55,56,57]}:ByteArray)=oN from rfl,hpc.out];omega,yq (by rw [<-hg.out,Gq f m l s (.inr hq) hf];rfl)⟩
    case measure=>
     exact Rm
   ·go_wp2
    go_returns
    exact⟨by rw [<-hg.out,Jl f m l s ze];rfl,rfl⟩

theorem FQ{a b:ByteArray}(h:a=b):Ending.returned (.string a)= .returned (.string b):=by rw [h]
def xG(n d:Int):ByteArray:=
 if ay n d=true then
  if n<0 then(if d=1 then⟨#[45]⟩++kr (aG n) 1 else⟨#[45]⟩++kr (aG n) 1++⟨#[47]⟩++kr d 1)
  else(if d=1 then kr (aG n) 1 else kr (aG n) 1++⟨#[47]⟩++kr d 1)
 else⟨#[]⟩
theorem rO(n:Int)(w:World)(h0:0<=n)(h1:n<=9223372036854775807):Calls prog 135 #[.int .i64 n,.int .i64 1] w fun e w'=>e= .returned (.string (kr n 1))/\w=w':=
 CW n 1 w h0 h1 ze
theorem LQ(n d:Int)(h:ay n d=false):xG n d=⟨#[]⟩:=by simp [xG,h]
theorem gK(n d:Int)(w:World)(h1:-9223372036854775808<=n)(h2:n<=9223372036854775807)(h3:-9223372036854775808<=d)(h4:d<=9223372036854775807):Calls prog 102 #[.agg #[.int .i64 n,.int .i64 d]] w fun e w'=>e= .returned (.string (xG n d))/\w.Grows w':=by
 cases hv:ay n d
 ·go_enter func102,ntmps102
  go_wp2_with ((first|(go_at_call 53;(with_reducible refine gvq (bZ _ _ _ ze ze ze ze) ?_);intro bs dr;simp only [hv])|(go_at_call 23;(with_reducible refine gw (fO _ _ ze ze) ?_))|(go_at_call 135;(with_reducible refine gw (rO _ _ ze ze) ?_))))
  go_returns
  exact⟨FQ (LQ n d hv).symm,.of_below af⟩
 ·have⟨b1,b2,b3,b4⟩:=aC hv;have a0:0<=aG n:=by unfold aG;omega
  have a1:aG n<=1000000000000000:=by unfold aG;omega
  have e1:IntKind.i64.wrap (aG n)=aG n:=IntWalk.i64_in _ ze;have z1:((kr (aG n) 1).size:Int)<=1000000000000001:=by have:=qL (aG n) 1 a0;omega
  have z2:((kr d 1).size:Int)<=1000000001:=by have:=qL d 1 ze;omega
  by_cases cn:n<0
  ·exact RV
  ·exact RV

def kQ:Nat->Int->Int->ByteArray->ByteArray
 |0,_,_,s=>s
 |f+1,r,k,s=>if 0<r then kQ f (r % k) (k / 10) (s++oN.extract (r / k).toNat (r / k+1).toNat)else s
def dG(n d m:Int):Bool:=ay n d&&decide (0<=n)&&decide (10000 % d=0)&&decide (2<=m)&&decide (m<=4)&&decide (n / d<=999999999)
def jc(n d:Int):Int:=(n-n / d*d)*(10000 / d)
def xZ(m:Int):ByteArray:=if m=2 then⟨#[]⟩else if m=3 then⟨#[100]⟩else⟨#[109]⟩
def rY(n d m:Int):ByteArray:=
 (if 0<jc n d then kQ 4 (jc n d) 1000 (kr (n / d) 1++⟨#[46]⟩)else kr (n / d) 1)++xZ m
theorem mX{a b:ByteArray}{p q:Bool}(h:a=b)(g:p=q):Ending.returned (.tuple #[.string a,.bool p])= .returned (.tuple #[.string b,.bool q]):=by rw [h,g]
def CY(n d m:Int):Value:=.tuple #[.string (if dG n d m=true then rY n d m else⟨#[]⟩),.bool (dG n d m)]
theorem PD{n d m:Int}(h:dG n d m=false):CY n d m= .tuple #[.string ⟨#[]⟩,.bool false]:=by simp [CY,h]
theorem Mj{n d m:Int}(h:dG n d m=true):CY n d m= .tuple #[.string (rY n d m),.bool true]:=by simp [CY,h]
theorem qY(n d m:Int)(w:World)(h1:-9223372036854775808<=n)(h2:n<=9223372036854775807)(h3:-9223372036854775808<=d)(h4:d<=9223372036854775807)(h:dG n d m=false):Calls prog 68 #[.agg #[.int .i64 n,.int .i64 d],.int .i64 m] w fun e w'=>e= .returned (CY n d m)/\w.Grows w':=by
 cases hv:ay n d
 ·have hq:Hid True:=yq trivial;exact vz5
 ·have⟨b1,b2,b3,b4⟩:=aC hv;have hq:Hid True:=yq trivial;by_cases c1:n<0
  ·exact vz5
  ·by_cases c2:10000 % d=0
   ·by_cases c3:m<2
    ·exact vz5
    ·by_cases c4:4<m
     ·exact vz5
     ·by_cases c5:n / d<=999999999
      ·exfalso;simp [dG,hv,c2]at h;omega
      ·exact vz5
   ·exact vz5
theorem Cy(q:Int)(h0:0<=q)(h1:q<=999999999):xG q 1=kr q 1:=by
 have hv:ay q 1=true:=oK ze zg;have ha:aG q=q:=jM h0;simp [xG,hv,ha];intro h;omega
theorem NM(n d:Int)(h0:0<=n)(h1:1<=d)(h2:10000 % d=0):0<=n / d/\0<=n / d*d/\n / d*d<=n/\n-n / d*d<d/\0<=10000 / d/\10000 / d<=10000/\0<=jc n d/\jc n d<10000:=by
 have a1:0<=n / d:=Int.ediv_nonneg h0 ze;have a2:0<=n % d:=Int.emod_nonneg _ ze;have a3:n % d<d:=Int.emod_lt_of_pos _ ze;have a4:d*(n / d)+n % d=n:=Int.mul_ediv_add_emod n d;rw [Int.mul_comm]at a4;have a5:0<=10000 / d:=Int.ediv_nonneg ze ze;have a6:10000 / d<=10000:=Int.ediv_le_self _ ze;have a7:d*(10000 / d)+10000 % d=10000:=Int.mul_ediv_add_emod 10000 d;have a8:n-n / d*d=n % d:=by omega
 have a9:0<=n / d*d:=Int.mul_nonneg a1 ze;refine⟨a1,a9,by omega,by omega,a5,a6, ?_, ?_⟩
 ·unfold jc;rw [a8];exact Int.mul_nonneg a2 a5
 ·unfold jc;rw [a8]
  have a10:0<10000 / d:=by
   rcases Int.lt_or_eq_of_le a5 with h|h
   ·exact h
   ·rw [<-h]at a7;omega
  have:=Int.mul_lt_mul_of_pos_right a3 a10;omega
theorem qM(f:Nat)(r k:Int)(s:ByteArray)(h:¬0<r):kQ f r k s=s:=by cases f<;>simp [kQ,h]
theorem AJ(f:Nat)(r k:Int)(s:ByteArray)(h:0<r):kQ (f+1) r k s=kQ f (r % k) (k / 10) (s++oN.extract (r / k).toNat (r / k+1).toNat):=by simp [kQ,h]
theorem sG(s:ByteArray)(x:Int)(h0:0<=x)(h1:x<10):(s++(⟨#[48,49,50,51,52,53,54,55,56,57]⟩:ByteArray).extract x.toNat (x+1).toNat).size=s.size+1:=by
 show(s++oN.extract _ _).size=_;rw [ByteArray.size_append,ByteArray.size_extract,wo];omega
theorem CS(s:ByteArray):(s++(⟨#[46]⟩:ByteArray)).size=s.size+1:=by rw [ByteArray.size_append];rfl
theorem uX{n d m r k:Int}{j:Nat}{s:ByteArray}(hp:0<jc n d)(g:kQ j r k s=kQ 4 (jc n d) 1000 (kr (n / d) 1++⟨#[46]⟩))(g6:kQ j r k s=s):s++xZ m=rY n d m:=by
 unfold rY;rw [if_pos hp,<-g,g6]
theorem oo{n d m r k:Int}{j:Nat}{s:ByteArray}(hp:¬0<jc n d)(g:kQ j r k s=kQ 4 (jc n d) 1000 (kr (n / d) 1))(g6:kQ j r k s=s):s++xZ m=rY n d m:=by
 unfold rY;rw [if_neg hp,<-g6,g,qM _ _ _ _ hp]
theorem pR(n d m:Int)(w:World)(h1:-9223372036854775808<=n)(h2:n<=9223372036854775807)(h3:-9223372036854775808<=d)(h4:d<=9223372036854775807)(h:dG n d m=true):Calls prog 68 #[.agg #[.int .i64 n,.int .i64 d],.int .i64 m] w fun e w'=>e= .returned (CY n d m)/\w.Grows w':=by
 rw [Mj h];simp only [dG,Bool.and_eq_true,decide_eq_true_eq]at h;obtain⟨⟨⟨⟨⟨hv,c1⟩,c2⟩,c3⟩,c4⟩,c5⟩:=h;have⟨b1,b2,b3,b4⟩:=aC hv;have⟨r1,r2,r3,r4,r5,r6,r7,r8⟩:=NM n d c1 b1 c2;have hR:Hid (_):=yq (show jc n d=(n-n / d*d)*(10000 / d)from rfl);unfold jc at r7 r8;have hq:=yq (Cy (n / d) r1 c5);have z:=qL (n / d) 1 r1;have z1:((kr (n / d) 1).size:Int)<=1000000000:=by omega
 clear z
 go_enter func68,ntmps68
 by_cases hp:0<(n-n / d*d)*(10000 / d)
 ·have HP:=yq (show 0<jc n d from hp)
  go_wp2_with ((first|(go_at_call 53;(with_reducible refine gvq (bZ _ _ _ ze ze ze ze) ?_);intro bs dr;simp only [hv])|(go_at_call 102;(with_reducible refine gvq (gK _ _ _ ze ze ze ze) ?_);intro bs2 dr2;simp only [hq.out])))
  go_quiet (fail)
  go_wp2_with fail
  go_loopw [7,8,9] (fun v7 v8 v9 wr=>∃j:Nat,∃r k:Int,∃s:ByteArray,v7= .string s/\v8= .int .i64 r/\v9= .int .i64 k/\0<=r/\((s.size:Int)<=1000000010-j)/\
   ((j=4/\k=1000/\r<10000)\/(j=3/\k=100/\r<1000)\/(j=2/\k=10/\r<100)\/(j=1/\k=1/\r<10)\/(j=0/\k=0/\r=0))/\
   Hid (kQ j r k s=kQ 4 (jc n d) 1000 (kr (n / d) 1++⟨#[46]⟩))/\World.Grows (w.alloc (.cells #[.int .i64 n,.int .i64 d] 39)) wr) (fun _ _ v9 _=>(intOf v9).toNat)
  case atStart=>exact⟨4,_,_,_,rfl,rfl,rfl,by omega,by first|(rw [CS];omega)|omega,.inl ⟨rfl,rfl,by omega⟩,yq (by rw [hR.out]),.of_below af⟩
  case round=>
   obtain⟨j,r,k,s,rfl,rfl,rfl,g1,g2,g3,g4,bs3,dr3,rfl⟩:=hrel;by_cases g0:0<r
   ·exact vz7
   ·have G6:=yq (qM j r k s g0);obtain rfl|rfl|rfl:m=2\/m=3\/m=4:=by omega
    ·go_wp2_with fail
     go_returns
     exact⟨mX (show s++xZ 2=rY n d 2 from uX zW g4.out G6.out) rfl,.of_below af⟩
    ·go_wp2_with fail
     go_returns
     exact⟨mX (show s++xZ 3=rY n d 3 from uX zW g4.out G6.out) rfl,.of_below af⟩
    ·go_wp2_with fail
     go_returns
     exact⟨mX (show s++xZ 4=rY n d 4 from uX zW g4.out G6.out) rfl,.of_below af⟩
 ·have HP:=yq (show ¬0<jc n d from hp)
  go_wp2_with ((first|(go_at_call 53;(with_reducible refine gvq (bZ _ _ _ ze ze ze ze) ?_);intro bs dr;simp only [hv])|(go_at_call 102;(with_reducible refine gvq (gK _ _ _ ze ze ze ze) ?_);intro bs2 dr2;simp only [hq.out])))
  go_quiet (fail)
  go_wp2_with fail
  go_loopw [7,8,9] (fun v7 v8 v9 wr=>∃j:Nat,∃r k:Int,∃s:ByteArray,v7= .string s/\v8= .int .i64 r/\v9= .int .i64 k/\0<=r/\((s.size:Int)<=1000000010-j)/\
   ((j=4/\k=1000/\r<10000)\/(j=3/\k=100/\r<1000)\/(j=2/\k=10/\r<100)\/(j=1/\k=1/\r<10)\/(j=0/\k=0/\r=0))/\
   Hid (kQ j r k s=kQ 4 (jc n d) 1000 (kr (n / d) 1))/\World.Grows (w.alloc (.cells #[.int .i64 n,.int .i64 d] 39)) wr) (fun _ _ v9 _=>(intOf v9).toNat)
  case atStart=>exact⟨4,_,_,_,rfl,rfl,rfl,by omega,by first|(rw [CS];omega)|omega,.inl ⟨rfl,rfl,by omega⟩,yq (by rw [hR.out]),.of_below af⟩
  case round=>
   obtain⟨j,r,k,s,rfl,rfl,rfl,g1,g2,g3,g4,bs3,dr3,rfl⟩:=hrel;by_cases g0:0<r
   ·exact vz7
   ·have G6:=yq (qM j r k s g0);obtain rfl|rfl|rfl:m=2\/m=3\/m=4:=by omega
    ·go_wp2_with fail
     go_returns
     exact⟨mX (show s++xZ 2=rY n d 2 from oo zW g4.out G6.out) rfl,.of_below af⟩
    ·go_wp2_with fail
     go_returns
     exact⟨mX (show s++xZ 3=rY n d 3 from oo zW g4.out G6.out) rfl,.of_below af⟩
    ·go_wp2_with fail
     go_returns
     exact⟨mX (show s++xZ 4=rY n d 4 from oo zW g4.out G6.out) rfl,.of_below af⟩
theorem pU(n d m:Int)(w:World)(h1:-9223372036854775808<=n)(h2:n<=9223372036854775807)(h3:-9223372036854775808<=d)(h4:d<=9223372036854775807):Calls prog 68 #[.agg #[.int .i64 n,.int .i64 d],.int .i64 m] w fun e w'=>e= .returned (CY n d m)/\w.Grows w':=by
 cases h:dG n d m
 ·exact qY n d m w h1 h2 h3 h4 h
 ·exact pR n d m w h1 h2 h3 h4 h
def vg(a b:Nat):Int:=((a % 18446744073709551616+b % 18446744073709551616) / 18446744073709551616:Nat)
theorem JO(a b:Nat)(w:World):(callFunc 157 #[.int .u64 (loW a),.int .u64 (loW b),.int .u64 0]).run prog w= .ok (.value (.tuple #[.int .u64 (loW (a+b)),.int .u64 (vg a b)])) w:=by
 rw [run_callFunc_extern func157 zf zf zf (e:=add64Entry) zf];unfold loW vg;have h:=run_add64 (P:=prog) (w:=w) ((a % 18446744073709551616:Nat):Int) ((b % 18446744073709551616:Nat):Int) 0 ze ze ze ze;have e1:(((a % 18446744073709551616:Nat):Int)+((b % 18446744073709551616:Nat):Int)+0) % 18446744073709551616=(((a+b) % 18446744073709551616:Nat):Int):=by omega
 have e2:(((a % 18446744073709551616:Nat):Int)+((b % 18446744073709551616:Nat):Int)+0) / 18446744073709551616=(((a % 18446744073709551616+b % 18446744073709551616) / 18446744073709551616:Nat):Int):=by omega
 rw [e1,e2]at h;rw [h];rfl

theorem OX(a b:Nat)(h:a+b<340282366920938463463374607431768211456):IntKind.u64.wrap (IntKind.u64.wrap (hiW a+hiW b)+vg a b)=hiW (a+b):=by
 simp only [IntKind.wrap_u64];unfold hiW vg;omega

theorem Hy(a b:Nat)(w:World)(h:a+b<340282366920938463463374607431768211456) :
 Calls prog 136 #[.agg #[.int .u64 (hiW a),.int .u64 (loW a)],.agg #[.int .u64 (hiW b),.int .u64 (loW b)]] w fun e w'=>e= .returned (.agg #[.int .u64 (hiW (a+b)),.int .u64 (loW (a+b))])/\w.Grows w':=by
 have ha:=JO a b;have hp:=yq (OX a b h);clear h;generalize hA:hiW a=A at *;generalize hB:hiW b=B at *;generalize loW a=La at *;generalize loW b=Lb at *;generalize hiW (a+b)=S at *;generalize loW (a+b)=T at *;generalize vg a b=c at *;clear hA hB
 go_enter func136,ntmps136
 go_wp2_with fail
 go_returns
 exact⟨by rw [hp.out],.of_below af⟩
end Go.Proofs.YtcfpoofhokbhlaaGreatDoor
