import Derived.Test.YtlheailebbngiaaGreatDoorGDiv
import Derived.Test.YtlheailebbngiaaGreatDoorGNum
import Derived.Test.YtlheailebbngiaaGreatDoorGK
set_option linter.all false
set_option maxHeartbeats 16000000
set_option maxRecDepth 1000000
namespace Go.Proofs.YtlheailebbngiaaGreatDoor
open Tryz List
open Go.RowKit

def hiW(n:Nat):Int:=(n / 18446744073709551616:Nat)
def loW(n:Nat):Int:=(n % 18446744073709551616:Nat)

theorem Dx(n:Nat)(h:n<340282366920938463463374607431768211456):0<=hiW n/\hiW n<18446744073709551616:=by unfold hiW;omega
theorem qh(n:Nat):0<=loW n/\loW n<18446744073709551616:=by unfold loW;omega

theorem iD(a b:Nat)(w:World)(h1:a<18446744073709551616)(h2:b<18446744073709551616) :
 Calls prog 101 #[.int .u64 a,.int .u64 b] w fun e w'=>e= .returned (.agg #[.int .u64 (hiW (a*b)),.int .u64 (loW (a*b))])/\w.Grows w':=by
 have H:Hid (∀w,Calls prog 133 #[.int .u64 a,.int .u64 b] w fun e w'=>e= .returned (.tuple #[.int .u64 (hiW (a*b)),.int .u64 (loW (a*b))])/\w'=w):=bits_Mul64 a b h1 h2;generalize a*b=n at *
 go_enter func101,ntmps101
 go_wp2_with fail
 refine(H.out _).mono ?_;rintro e w' ⟨rfl,rfl⟩;clear H
 go_wp2_with fail
 go_returns
 exact⟨rfl,.of_below af⟩

theorem CQ(H L d q r Q:Int)(w:World)(a1:(d==0)=false)(a2:1<=d)(h0:0<=H)
 (a3:IntKind.u64.wrap (H.tdiv d)=Q)
 (HD:Hid (∀w,Calls prog 167 #[.int .u64 (H % d),.int .u64 L,.int .u64 d] w fun e w'=>e= .returned (.tuple #[.int .u64 q,.int .u64 r])/\w.Grows w')) :
 Calls prog 128 #[.agg #[.int .u64 H,.int .u64 L],.int .u64 d] w fun e w'=>e= .returned (.tuple #[.agg #[.int .u64 Q,.int .u64 q],.int .u64 r])/\w.Grows w':=by
 go_enter func128,ntmps128
 go_wp2_with fail
 refine eX zf zf ?_;repeat(go_big_quiet_step ((go_at_call 167;exact Calls.quietG (HD.out _))))
 refine wpQuiet_nil ?_;intro _ hw';obtain⟨⟨gb,gd⟩,hw''⟩:=hw';subst hw'';clear HD
 go_wp2_with fail
 go_returns
 refine⟨rfl,.of_below af⟩

def aH(n:Int):Int:=(n.natAbs:Int)
def jY(x y:Int):Int:=(Nat.gcd x.toNat y.toNat:Nat)
theorem mZ(n:Int)(h1:-9223372036854775808<=n)(h2:n<=9223372036854775807):0<=aH n/\aH n<=9223372036854775808:=by unfold aH;omega
theorem lq(n:Int):(aH n).toNat=n.natAbs:=by unfold aH;simp
theorem jL{n:Int}(h:0<=n):aH n=n:=by unfold aH;omega

def aA(n d:Int):Bool:=decide (1<=d/\d<=1000000000/\-1000000000000000<=n/\n<=1000000000000000)&&jY (aH n) (aH d)==1
theorem aF{n d:Int}(h:aA n d=true):1<=d/\d<=1000000000/\-1000000000000000<=n/\n<=1000000000000000:=by
 simp only [aA,Bool.and_eq_true,decide_eq_true_eq]at h;exact h.1
theorem pU{n d:Int}(h:aA n d=true):Nat.gcd n.natAbs d.natAbs=1:=by
 simp only [aA,Bool.and_eq_true,beq_iff_eq,jY,lq]at h;have:=h.2;omega
theorem oG{n d:Int}(h:1<=d/\d<=1000000000/\-1000000000000000<=n/\n<=1000000000000000)(hg:Nat.gcd n.natAbs d.natAbs=1):aA n d=true:=by
 simp only [aA,Bool.and_eq_true,decide_eq_true_eq,beq_iff_eq,jY,lq];exact⟨h,by omega⟩

theorem Calls.quietD{P:Program}{f:FuncId}{args:Array Value}{w:World}{v:Value}
 (h:Calls P f args w fun e w'=>e= .returned v/\∃n,w'=w.drewN n):Calls P f args w fun e w'=>e= .returned v/\w.Grows w':=
 h.mono fun _ _ ⟨he,n,hw⟩=>⟨he,by subst hw;exact .of_below ⟨rfl,rfl,rfl,Nat.le_refl _,fun _ _=>rfl⟩⟩

theorem fM(n:Int)(w:World)(h1:-9223372036854775808<=n)(h2:n<=9223372036854775807) :
 Calls prog 91 #[.int .i64 n] w fun e w'=>e= .returned (.int .u64 (aH n))/\w=w':=by
 by_cases hk:n<0
 ·go_enter func91,ntmps91
  go_wp2
  go_ret
  exact⟨by simp [aH];omega,rfl⟩
 ·go_enter func91,ntmps91
  go_wp2
  go_ret
  exact⟨by simp [aH];omega,rfl⟩

theorem iF(n:Int)(w:World)(h1:-9223372036854775808<=n)(h2:n<=9223372036854775807) :
 Calls prog 95 #[.int .i64 n] w fun e w'=>e= .returned (.int .u64 (aH n))/\w=w':=by
 by_cases hk:n<0
 ·go_enter func95,ntmps95
  go_wp2
  go_ret
  exact⟨ret_int (by unfold aH;simp only [IntKind.wrap_u64];omega),rfl⟩
 ·go_enter func95,ntmps95
  go_wp2
  go_ret
  exact⟨ret_int (by unfold aH;omega),rfl⟩

theorem wK(c d:Int)(h0:0<=c)(h1:0<d):jY d (c % d)=jY c d:=by
 unfold jY;obtain⟨a,rfl⟩:=Int.eq_ofNat_of_zero_le h0;obtain⟨b,rfl⟩:=Int.eq_ofNat_of_zero_le (Int.le_of_lt h1);rw [show((a:Int) % (b:Int))=((a % b:Nat):Int)by simp];simp only [Int.toNat_natCast]
 congr 1
 rw [Nat.gcd_comm a b,Nat.gcd_rec b a,Nat.gcd_comm]

theorem wJ(c:Int)(h0:0<=c):jY c 0=c:=by unfold jY;simp;omega

theorem qb(c d:Int)(h1:0<d):0<=c % d/\c % d<d:=⟨Int.emod_nonneg _ ze,Int.emod_lt_of_pos _ h1⟩

theorem pg(a b:Int)(w:World)(h0:0<=a)(h1:a<18446744073709551616)(h2:0<=b)(h3:b<18446744073709551616) :
 Calls prog 100 #[.int .u64 a,.int .u64 b] w fun e w'=>e= .returned (.int .u64 (jY a b))/\∃n,w'=w.drewN n:=by
 go_enter func100,ntmps100
 go_wp2
 go_loopw [0,1] (fun x y wr=>∃c d:Int,x= .int .u64 c/\y= .int .u64 d/\0<=c/\c<18446744073709551616/\0<=d/\d<18446744073709551616/\Hid (jY c d=jY a b)/\∃n,wr=w.drewN n) (fun _ y _=>(intOf y).toNat)
 case atStart=>exact⟨a,b,rfl,rfl,h0,h1,h2,h3,rfl,0,rfl⟩
 case round=>
  obtain⟨c,d,rfl,rfl,hc0,hc,hd0,hd,Hg,dr,rfl⟩:=hrel;by_cases h0:d=0
  ·subst h0
   go_wp2
   go_ret
   exact⟨by rw [<-Hg.out,wJ c hc0];rfl,⟨_,rfl⟩⟩
  ·have h0':(d !=0)=true:=by simp;omega
   have h0'':(d==0)=false:=by simp;omega
   have h1d:1<=d:=by omega
   go_wp2
   go_region
   go_wp2
   go_roundw
   case rel=>exact⟨d,c % d,rfl,rfl,hd0,hd,(qb c d h1d).1,by have:=(qb c d h1d).2;omega,(wK c d hc0 h1d).trans Hg.out,dr+1,rfl⟩
   case measure=>simp [intOf];have:=qb c d h1d;omega

theorem mf(a b:Int)(w:World)(h0:0<=a)(h1:a<18446744073709551616)(h2:0<=b)(h3:b<18446744073709551616) :
 Calls prog 94 #[.int .u64 a,.int .u64 b] w fun e w'=>e= .returned (.int .u64 (jY a b))/\∃n,w'=w.drewN n:=by
 go_enter func94,ntmps94
 go_wp2
 go_loopw [0,1] (fun x y wr=>∃c d:Int,x= .int .u64 c/\y= .int .u64 d/\0<=c/\c<18446744073709551616/\0<=d/\d<18446744073709551616/\Hid (jY c d=jY a b)/\∃n,wr=w.drewN n) (fun _ y _=>(intOf y).toNat)
 case atStart=>exact⟨a,b,rfl,rfl,h0,h1,h2,h3,rfl,0,rfl⟩
 case round=>
  obtain⟨c,d,rfl,rfl,hc0,hc,hd0,hd,Hg,dr,rfl⟩:=hrel;by_cases h0:d=0
  ·subst h0
   go_wp2
   go_ret
   exact⟨by rw [<-Hg.out,wJ c hc0];rfl,⟨_,rfl⟩⟩
  ·have h0':(d !=0)=true:=by simp;omega
   have h0'':(d==0)=false:=by simp;omega
   have h1d:1<=d:=by omega
   go_wp2
   go_region
   go_wp2
   go_roundw
   case rel=>exact⟨d,c % d,rfl,rfl,hd0,hd,(qb c d h1d).1,by have:=(qb c d h1d).2;omega,(wK c d hc0 h1d).trans Hg.out,dr+1,rfl⟩
   case measure=>simp [intOf];have:=qb c d h1d;omega

theorem fq{n d:Int}(h:¬(1<=d/\d<=1000000000/\-1000000000000000<=n/\n<=1000000000000000)):aA n d=false:=by
 simp only [aA,h,decide_false,Bool.false_and]
theorem sM{n d:Int}(h:1<=d/\d<=1000000000/\-1000000000000000<=n/\n<=1000000000000000):aA n d=(jY (aH n) (aH d)==1):=by
 simp only [aA,h,and_self,decide_true,Bool.true_and]

theorem Calls.quietE{P:Program}{f:FuncId}{args:Array Value}{w:World}{v:Value}
 (h:Calls P f args w fun e w'=>e= .returned v/\w=w'):Calls P f args w fun e w'=>e= .returned v/\∃n,w'=w.drewN n:=
 h.mono fun _ _ ⟨he,hw⟩=>⟨he,0,hw.symm⟩

theorem cB(n d:Int)(w:World)(h1:-9223372036854775808<=n)(h2:n<=9223372036854775807)(h3:-9223372036854775808<=d)(h4:d<=9223372036854775807) :
 Calls prog 60 #[.agg #[.int .i64 n,.int .i64 d]] w fun e w'=>e= .returned (.bool (aA n d))/\w.Grows w':=by
 by_cases c1:1<=d
 ·by_cases c2:d<=1000000000
  ·by_cases c3:-1000000000000000<=n
   ·by_cases c4:n<=1000000000000000
    ·have hv:=zh (sM ⟨c1,c2,c3,c4⟩);have ha:=mZ n h1 h2;have ha0:=ha.1;have ha1:=ha.2;have e1:IntKind.u64.wrap d=d:=IntWalk.u64_in _ ze;have e2:=zh (jL (show 0<=d by omega));clear ha
     go_enter func60,ntmps60
     go_wp2_with fail
     go_quiet (first|(go_at_call 100;refine Calls.quiet_of (pg _ _ _ ze ze ze ze))|(go_at_call 91;refine Calls.quiet_of (Calls.quietE (fM _ _ ze ze))))
     go_wp2_with fail
     go_returns
     exact⟨by rw [hv.out,e2.out];rfl,.of_below af⟩
    ·have d1:decide (n<=1000000000000000)=false:=by simp;omega
     go_enter func60,ntmps60
     go_wp2_with fail
     go_quiet (fail)
     go_wp2_with fail
     go_returns
     exact⟨by rw [fq ze];rfl,.of_below af⟩
   ·have d1:decide (-1000000000000000<=n)=false:=by simp;omega
    go_enter func60,ntmps60
    go_wp2_with fail
    go_quiet (fail)
    go_wp2_with fail
    go_returns
    exact⟨by rw [fq ze];rfl,.of_below af⟩
  ·have d1:decide (d<=1000000000)=false:=by simp;omega
   go_enter func60,ntmps60
   go_wp2_with fail
   go_quiet (fail)
   go_wp2_with fail
   go_returns
   exact⟨by rw [fq ze];rfl,.of_below af⟩
 ·have d1:decide (1<=d)=false:=by simp;omega
  go_enter func60,ntmps60
  go_wp2_with fail
  go_quiet (fail)
  go_wp2_with fail
  go_returns
  exact⟨by rw [fq ze];rfl,.of_below af⟩

theorem dS(n d:Int)(w:World)(h1:-9223372036854775808<=n)(h2:n<=9223372036854775807)(h3:-9223372036854775808<=d)(h4:d<=9223372036854775807) :
 Calls prog 55 #[.agg #[.int .i64 n,.int .i64 d]] w fun e w'=>e= .returned (.bool (aA n d))/\w.Grows w':=by
 by_cases c1:1<=d
 ·by_cases c2:d<=1000000000
  ·by_cases c3:-1000000000000000<=n
   ·by_cases c4:n<=1000000000000000
    ·have hv:=zh (sM ⟨c1,c2,c3,c4⟩);have ha:=mZ n h1 h2;have ha0:=ha.1;have ha1:=ha.2;have e1:aH d=d:=jL ze;clear ha
     go_enter func55,ntmps55
     go_wp2_with fail
     go_quiet (first|(go_at_call 94;refine Calls.quiet_of (mf _ _ _ ze ze ze ze))|(go_at_call 95;refine Calls.quiet_of (Calls.quietE (iF _ _ ze ze))))
     go_wp2_with fail
     go_returns
     exact⟨by rw [hv.out,e1];rfl,.of_below af⟩
    ·have d1:decide (n<=1000000000000000)=false:=by simp;omega
     go_enter func55,ntmps55
     go_wp2_with fail
     go_quiet (fail)
     go_wp2_with fail
     go_returns
     exact⟨by rw [fq ze];rfl,.of_below af⟩
   ·have d1:decide (-1000000000000000<=n)=false:=by simp;omega
    go_enter func55,ntmps55
    go_wp2_with fail
    go_quiet (fail)
    go_wp2_with fail
    go_returns
    exact⟨by rw [fq ze];rfl,.of_below af⟩
  ·have d1:decide (d<=1000000000)=false:=by simp;omega
   go_enter func55,ntmps55
   go_wp2_with fail
   go_quiet (fail)
   go_wp2_with fail
   go_returns
   exact⟨by rw [fq ze];rfl,.of_below af⟩
 ·have d1:decide (1<=d)=false:=by simp;omega
  go_enter func55,ntmps55
  go_wp2_with fail
  go_quiet (fail)
  go_wp2_with fail
  go_returns
  exact⟨by rw [fq ze];rfl,.of_below af⟩


def lW(n d:Nat):Int:=(n % d:Nat)
theorem Ez(n d:Nat)(h:0<d):0<=lW n d/\lW n d<d:=by
 unfold lW;have:=Nat.mod_lt n h;omega

theorem tF(n d:Nat)(h0:0<d)(_:d<18446744073709551616) :
 n / d / 18446744073709551616=n / 18446744073709551616 / d/\n / d % 18446744073709551616=(n / 18446744073709551616 % d*18446744073709551616+n % 18446744073709551616) / d/\
 n % d=(n / 18446744073709551616 % d*18446744073709551616+n % 18446744073709551616) % d:=by
 generalize hB:18446744073709551616=B at *;have hB0:0<B:=by omega
 clear hB
 have e:n=d*(n / B / d*B)+(n / B % d*B+n % B):=by
  have a1:=Nat.div_add_mod n B;have a2:=Nat.div_add_mod (n / B) d;have a3:B*(n / B)=B*(d*(n / B / d))+B*(n / B % d):=by rw [<-Nat.mul_add,a2]
  rw [Nat.mul_comm B (d*_),Nat.mul_assoc,Nat.mul_comm B (n / B % d)]at a3;omega
 have hlt:(n / B % d*B+n % B) / d<B:=by
  rw [Nat.div_lt_iff_lt_mul h0];have b1:=Nat.mod_lt (n / B) h0;have b2:=Nat.mod_lt n hB0;have b3:(n / B % d+1)*B<=d*B:=Nat.mul_le_mul_right _ b1;rw [Nat.add_mul,Nat.one_mul]at b3;rw [Nat.mul_comm B d];omega
 have q:n / d=n / B / d*B+(n / B % d*B+n % B) / d:=by
  conv=>lhs;rw [e]
  rw [Nat.mul_add_div h0]
 refine⟨?_, ?_, ?_⟩
 ·rw [q,Nat.mul_comm _ B,Nat.mul_add_div hB0,Nat.div_eq_of_lt hlt,Nat.add_zero]
 ·rw [q,Nat.mul_comm _ B,Nat.mul_add_mod,Nat.mod_eq_of_lt hlt]
 ·conv=>lhs;rw [e]
  rw [Nat.mul_add_mod]

theorem vV(n d:Nat)(w:World)(h1:n<340282366920938463463374607431768211456)(h2:d<18446744073709551616)(h0:0<d) :
 Calls prog 128 #[.agg #[.int .u64 (hiW n),.int .u64 (loW n)],.int .u64 d] w fun e w'=>e= .returned (.tuple #[.agg #[.int .u64 (hiW (n / d)),.int .u64 (loW (n / d))],.int .u64 (lW n d)])/\w.Grows w':=by
 obtain⟨e1,e2,e3⟩:=tF n d h0 h2;have hh:=Dx n h1;refine CQ _ _ _ _ _ _ w zp ze hh.1 ?_ ?_
 ·have:(hiW n).tdiv d=((n / 18446744073709551616 / d:Nat):Int):=by
   rw [Int.tdiv_eq_ediv_of_nonneg hh.1];unfold hiW;simp
  rw [this,<-e1];have h3:n / d<=n:=Nat.div_le_self _ _;unfold hiW;generalize n / d=m at *;exact IntWalk.u64_in _ ze
 ·intro w;have:=qQ (n / 18446744073709551616 % d) (n % 18446744073709551616) d w (Nat.mod_lt _ h0) (Nat.mod_lt _ ze) h2;rw [<-e2,<-e3]at this;simpa [hiW,loW,lW]using this

def jX(neg:Bool)(n d:Nat):Int:=if 1000000000000000<n / Nat.gcd n d\/1000000000<d / Nat.gcd n d then 0 else if neg then -((n / Nat.gcd n d:Nat):Int)else(n / Nat.gcd n d:Nat)
def l5(n d:Nat):Int:=if 1000000000000000<n / Nat.gcd n d\/1000000000<d / Nat.gcd n d then 0 else(d / Nat.gcd n d:Nat)
def kF(n d:Nat):Int:=if 1000000000000000<n / Nat.gcd n d\/1000000000<d / Nat.gcd n d then 2 else 0

theorem Bl(n d:Nat)(h0:0<d):jY d (lW n d)=(Nat.gcd n d:Nat):=by
 unfold jY lW;simp only [Int.toNat_natCast]
 congr 1
 rw [Nat.gcd_comm n d,Nat.gcd_rec d n,Nat.gcd_comm]

def F8(neg:Bool)(h l d:Int):Value:=if(h !=0)=true\/1000000000000000<l\/1000000000<d then .tuple #[.agg #[.int .i64 0,.int .i64 0],.int .i64 2]else .tuple #[.agg #[.int .i64 (if neg then -l else l),.int .i64 d],.int .i64 0]

theorem xH(neg:Bool)(H L D r g h l h' l' rr:Int)(w:World)(hd:0<=D)(hd1:D<18446744073709551616)(hg0:1<=g)
 (hl0:0<=l') (hg00:(g==0)=false)
 (H1:Hid (∀w,Calls prog 128 #[.agg #[.int .u64 H,.int .u64 L],.int .u64 D] w fun e w'=>e= .returned (.tuple #[.agg #[.int .u64 h,.int .u64 l],.int .u64 r])/\w.Grows w'))
 (H2:Hid (∀w,Calls prog 100 #[.int .u64 D,.int .u64 r] w fun e w'=>e= .returned (.int .u64 g)/\∃n,w'=w.drewN n))
 (H3:Hid (∀w,Calls prog 128 #[.agg #[.int .u64 H,.int .u64 L],.int .u64 g] w fun e w'=>e= .returned (.tuple #[.agg #[.int .u64 h',.int .u64 l'],.int .u64 rr])/\w.Grows w')) :
 Calls prog 90 #[.bool neg,.agg #[.int .u64 H,.int .u64 L],.int .u64 D] w fun e w'=>
  e= .returned (F8 neg h' l' (D / g))/\w.Grows w':=by
 have hdg:0<=D / g:=Int.ediv_nonneg hd ze;by_cases c1:(h' !=0)=true
 ·go_enter func90,ntmps90
  go_wp2_with fail
  refine(H1.out _).mono ?_;rintro e w' ⟨rfl,bs,dr,rfl⟩
  go_wp2_with fail
  refine(H2.out _).mono ?_;rintro e w' ⟨rfl,nn,rfl⟩
  go_wp2_with fail
  refine(H3.out _).mono ?_;rintro e w' ⟨rfl,bs3,dr3,rfl⟩;clear H1 H2 H3
  go_wp2_with fail
  go_returns
  exact⟨by rw [F8,if_pos (.inl c1)],.of_below af⟩
 ·have c1':(h' !=0)=false:=by simpa using c1
  clear c1;by_cases c2:(1000000000000000:Int)<l'
  ·go_enter func90,ntmps90
   go_wp2_with fail
   refine(H1.out _).mono ?_;rintro e w' ⟨rfl,bs,dr,rfl⟩
   go_wp2_with fail
   refine(H2.out _).mono ?_;rintro e w' ⟨rfl,nn,rfl⟩
   go_wp2_with fail
   refine(H3.out _).mono ?_;rintro e w' ⟨rfl,bs3,dr3,rfl⟩;clear H1 H2 H3
   go_wp2_with fail
   go_returns
   exact⟨by rw [F8,if_pos (.inr (.inl c2))],.of_below af⟩
  ·have c2':decide ((1000000000000000:Int)<l')=false:=by simpa using c2
   by_cases c3:(1000000000:Int)<D / g
   ·go_enter func90,ntmps90
    go_wp2_with fail
    refine(H1.out _).mono ?_;rintro e w' ⟨rfl,bs,dr,rfl⟩
    go_wp2_with fail
    refine(H2.out _).mono ?_;rintro e w' ⟨rfl,nn,rfl⟩
    go_wp2_with fail
    refine(H3.out _).mono ?_;rintro e w' ⟨rfl,bs3,dr3,rfl⟩;clear H1 H2 H3
    go_wp2_with fail
    go_returns
    exact⟨by rw [F8,if_pos (.inr (.inr c3))],.of_below af⟩
   ·have c3':decide ((1000000000:Int)<D / g)=false:=by simpa using c3
    have hn:¬((h' !=0)=true\/1000000000000000<l'\/1000000000<D / g):=by simp only [c1',Bool.false_eq_true,false_or,not_or];exact⟨c2,c3⟩
    have Hn:=zh hn;clear hn;cases neg
    focus
     go_enter func90,ntmps90
    rotate_left
    focus
     go_enter func90,ntmps90
    rotate_left
    all_goals
     go_wp2_with fail
     refine(H1.out _).mono ?_;rintro e w' ⟨rfl,bs,dr,rfl⟩
     go_wp2_with fail
     refine(H2.out _).mono ?_;rintro e w' ⟨rfl,nn,rfl⟩
     go_wp2_with fail
     refine(H3.out _).mono ?_;rintro e w' ⟨rfl,bs3,dr3,rfl⟩;clear H1 H2 H3
     go_wp2_with fail
     go_returns
     exact⟨by rw [F8,if_neg Hn.out];rfl,.of_below af⟩
theorem jT(neg:Bool)(n d:Nat)(w:World)(h1:n<340282366920938463463374607431768211456)(h2:d<18446744073709551616)(h0:0<d) :
 Calls prog 90 #[.bool neg,.agg #[.int .u64 (hiW n),.int .u64 (loW n)],.int .u64 d] w fun e w'=>
  e= .returned (.tuple #[.agg #[.int .i64 (jX neg n d),.int .i64 (l5 n d)],.int .i64 (kF n d)])/\w.Grows w':=by
 have hg:0<Nat.gcd n d:=Nat.gcd_pos_of_pos_right _ h0;have hgd:Nat.gcd n d<=d:=Nat.gcd_le_right _ h0;have hr:=Ez n d h0
 refine(xH neg (hiW n) (loW n) d (lW n d) (Nat.gcd n d:Nat) (hiW (n / d)) (loW (n / d)) (hiW (n / Nat.gcd n d)) (loW (n / Nat.gcd n d)) (lW n (Nat.gcd n d)) w ze ze ze
  (qh _).1 zp (fun w=>vV n d w h1 h2 h0) (fun w=>?_) (fun w=>vV n _ w h1 ze hg)).mono ?_
 ·have:=pg d (lW n d) w ze ze hr.1 ze;rw [Bl n d h0]at this;exact this
 ·rintro e w' ⟨rfl,hw⟩;refine⟨?_,hw⟩;have hq:n / Nat.gcd n d<=n:=Nat.div_le_self _ _;have hdd:(d:Int) / (Nat.gcd n d:Nat)=(d / Nat.gcd n d:Nat):=by simp
  rw [hdd];unfold F8 jX l5 kF hiW loW;generalize n / Nat.gcd n d=a at *;generalize d / Nat.gcd n d=b at *;by_cases c:1000000000000000<a\/1000000000<b
  ·rw [if_pos c,if_pos c,if_pos c,if_pos (by
    by_cases ha:a / 18446744073709551616=0
    ·right;omega
    ·left;simp;omega)]
  ·have ha:a / 18446744073709551616=0:=by omega
   have hb:a % 18446744073709551616=a:=by omega
   rw [if_neg c,if_neg c,if_neg c,if_neg (by rw [ha,hb];simp;omega),hb]

def mkN(n d:Int):Int:=if d=0 then 0 else jX (decide (n<0)!=decide (d<0)) n.natAbs d.natAbs
def mkD(n d:Int):Int:=if d=0 then 0 else l5 n.natAbs d.natAbs
def mkE(n d:Int):Int:=if d=0 then 3 else kF n.natAbs d.natAbs

theorem fe(n d:Int)(w:World)(h1:-9223372036854775808<=n)(h2:n<=9223372036854775807)(h3:-9223372036854775808<=d)(h4:d<=9223372036854775807) :
 Calls prog 46 #[.int .i64 n,.int .i64 d] w fun e w'=>
  e= .returned (.tuple #[.agg #[.int .i64 (mkN n d),.int .i64 (mkD n d)],.int .i64 (mkE n d)])/\w.Grows w':=by
 by_cases c:d=0
 ·subst c
  go_enter func46,ntmps46
  go_wp2_with fail
  go_returns
  exact⟨rfl,.of_below af⟩
 ·have c':(d==0)=false:=by simpa using c
  have hl:∀b,(decide (n<0)!=decide (d<0))=b->Hid (∀w,Calls prog 90 #[.bool b,.agg #[.int .u64 0,.int .u64 (aH n)],.int .u64 (aH d)] w fun e w'=>
   e= .returned (.tuple #[.agg #[.int .i64 (mkN n d),.int .i64 (mkD n d)],.int .i64 (mkE n d)])/\w.Grows w'):=by
   intro b hb w;have:=jT b n.natAbs d.natAbs w ze ze ze;rw [show hiW n.natAbs=0 by unfold hiW;omega,show loW n.natAbs=aH n by unfold loW aH;omega]at this;unfold mkN mkD mkE;rw [if_neg c,if_neg c,if_neg c,hb];exact this
  clear c;generalize mkN n d=N at *;generalize mkD n d=D at *;generalize mkE n d=E at *;by_cases c1:n<0
  ·by_cases c2:d<0
   focus
    have hn:=hl false (by simp [c1,c2])
   rotate_left
   focus
    have hn:=hl true (by simp only [c1,c2];rfl)
   rotate_left
   all_goals
    clear hl
    go_enter func46,ntmps46
    go_wp2_with (first|(go_at_call 91;refine(fM _ _ ze ze).mono ?_;rintro e w' ⟨rfl,rfl⟩)|(go_at_call 90;refine(hn.out _).mono ?_;rintro e w' ⟨rfl,bs,dr,rfl⟩;clear hn))
    go_returns
    exact⟨rfl,.of_below af⟩
  ·by_cases c2:d<0
   focus
    have hn:=hl true (by simp only [c1,c2];rfl)
   rotate_left
   focus
    have hn:=hl false (by simp only [c1,c2];rfl)
   rotate_left
   all_goals
    clear hl
    go_enter func46,ntmps46
    go_wp2_with (first|(go_at_call 91;refine(fM _ _ ze ze).mono ?_;rintro e w' ⟨rfl,rfl⟩)|(go_at_call 90;refine(hn.out _).mono ?_;rintro e w' ⟨rfl,bs,dr,rfl⟩;clear hn))
    go_returns
    exact⟨rfl,.of_below af⟩

theorem JH{b c:Bool}{n d:Nat}(h:n=0\/b=c):jX b n d=jX c n d:=by
 rcases h with rfl|rfl
 ·unfold jX;simp
 ·rfl
theorem uf(n d:Nat):kF n d=0\/kF n d=2:=by unfold kF;split<;>simp
theorem EF{n d:Nat}(b:Bool)(h:kF n d≠0):jX b n d=0/\l5 n d=0:=by
 unfold kF at h;unfold jX l5
 split at h<;>rename_i hc
 ·rw [if_pos hc,if_pos hc];exact⟨rfl,rfl⟩
 ·exact absurd rfl h
theorem vI{n d:Nat}(b:Bool)(h1:1<=d)(h2:d<=1000000000)(h3:n<=1000000000000000)(hg:Nat.gcd n d=1):aA (if b then -(n:Int)else n) d=true:=by
 refine oG ⟨by omega,by omega, ?_, ?_⟩ ?_
 ·cases b<;>simp<;>omega
 ·cases b<;>simp<;>omega
 ·cases b<;>simpa using hg
theorem JG{n d:Nat}(b:Bool)(hd:0<d)(h:kF n d=0):aA (jX b n d) (l5 n d)=true:=by
 have hg:0<Nat.gcd n d:=Nat.gcd_pos_of_pos_right _ hd;unfold kF at h;unfold jX l5
 split at h<;>rename_i hc
 ·simp at h
 ·rw [if_neg hc,if_neg hc];have h1:0<d / Nat.gcd n d:=Nat.div_pos (Nat.gcd_le_right _ hd) hg;exact vI b ze ze ze (Nat.coprime_div_gcd_div_gcd hg)

def ik(n k m h:Nat):Nat:=n / Nat.gcd n k*(m / Nat.gcd m h)
def nL(b:Bool)(n d m k:Nat):Int × Int × Int:=
 if 1000000000000000<ik n k m d\/1000000000<ik d m k n then(0,0,2)else(if b then -(ik n k m d:Int)else ik n k m d,ik d m k n,0)

def iW(n d:Int):Int × Int × Int:=if aA n d then(-n,d,0)else(0,0,1)
def jg(an ad bn bd:Int):Int:=an*bd+bn*ad
def jR(an ad bn bd:Int):Int × Int × Int:=
 if aA an ad&&aA bn bd then
  (jX (decide (jg an ad bn bd<0)) (jg an ad bn bd).natAbs (ad.natAbs*bd.natAbs),l5 (jg an ad bn bd).natAbs (ad.natAbs*bd.natAbs),kF (jg an ad bn bd).natAbs (ad.natAbs*bd.natAbs))
 else(0,0,1)
def lV(an ad bn bd:Int):Int × Int × Int:=if aA bn bd then jR an ad (-bn) bd else(0,0,1)
def lK(an ad bn bd:Int):Int × Int × Int:=
 if aA an ad&&aA bn bd then nL (decide (an<0)!=decide (bn<0)) an.natAbs ad.natAbs bn.natAbs bd.natAbs else(0,0,1)
def lL(an ad bn bd:Int):Int × Int × Int:=
 if aA an ad&&aA bn bd then if bn=0 then(0,0,3)else nL (decide (an<0)!=decide (bn<0)) an.natAbs ad.natAbs bd.natAbs bn.natAbs else(0,0,1)
def iw(an ad bn bd:Int):Int:=if an*bd<bn*ad then -1 else if bn*ad<an*bd then 1 else 0
def gm(an ad bn bd:Int):Int × Int:=if aA an ad&&aA bn bd then(iw an ad bn bd,0)else(0,1)
def eG(n d:Int):Int × Int:=if aA n d then(n / d,0)else(0,1)

theorem vH{n d:Int}:aA (-n) d=aA n d:=by
 unfold aA aH;rw [Int.natAbs_neg]
 congr 1
 refine decide_eq_decide.2 ?_;omega
theorem gL{n d:Int}(h:aA n d=true):Nat.Coprime n.natAbs d.natAbs:=pU h

theorem Il{a d b e:Nat}(s:Bool):jg (if s then -(a:Int)else a) d (if s then -(b:Int)else b) e=if s then -((a*e+b*d:Nat):Int)else((a*e+b*d:Nat):Int):=by
 unfold jg;cases s<;>simp [Int.neg_mul];omega
theorem Im{a d b e:Nat}(s:Bool):jg (if s then -(a:Int)else a) d (if s then(b:Int)else -b) e=if s then((b*d:Nat):Int)-(a*e:Nat)else((a*e:Nat):Int)-(b*d:Nat):=by
 unfold jg;cases s<;>simp [Int.neg_mul]<;>omega
theorem mQ(n:Int):n=if decide (n<0)then -(n.natAbs:Int)else n.natAbs:=by
 by_cases h:n<0<;>simp [h]<;>omega

theorem Cb{an ad bn bd:Int}(h1:1<=ad)(h2:1<=bd)(hs:decide (an<0)=decide (bn<0)) :
 (jg an ad bn bd).natAbs=an.natAbs*bd.natAbs+bn.natAbs*ad.natAbs/\((jg an ad bn bd).natAbs=0\/decide (jg an ad bn bd<0)=decide (an<0)):=by
 have e:=Il (a:=an.natAbs) (d:=ad.natAbs) (b:=bn.natAbs) (e:=bd.natAbs) (decide (an<0));have e1:=mQ an;have e2:=mQ bn;rw [<-hs]at e2;rw [<-e1,<-e2,show((ad.natAbs:Nat):Int)=ad by omega,show((bd.natAbs:Nat):Int)=bd by omega]at e;rw [e];generalize an.natAbs*bd.natAbs+bn.natAbs*ad.natAbs=N at *;by_cases h:an<0
 ·simp [h];omega
 ·simp [h]
theorem Cc{an ad bn bd:Int}(h1:1<=ad)(h2:1<=bd)(hs:decide (an<0)≠decide (bn<0)) :
 (an.natAbs*bd.natAbs<bn.natAbs*ad.natAbs->(jg an ad bn bd).natAbs=bn.natAbs*ad.natAbs-an.natAbs*bd.natAbs/\((jg an ad bn bd).natAbs=0\/decide (jg an ad bn bd<0)=decide (bn<0)))/\
 (bn.natAbs*ad.natAbs<=an.natAbs*bd.natAbs->(jg an ad bn bd).natAbs=an.natAbs*bd.natAbs-bn.natAbs*ad.natAbs/\((jg an ad bn bd).natAbs=0\/decide (jg an ad bn bd<0)=decide (an<0))):=by
 have e:=Im (a:=an.natAbs) (d:=ad.natAbs) (b:=bn.natAbs) (e:=bd.natAbs) (decide (an<0));have e1:=mQ an;have e2:=mQ bn;rw [<-e1,show((ad.natAbs:Nat):Int)=ad by omega,show((bd.natAbs:Nat):Int)=bd by omega]at e
 have e3:(if decide (an<0)=true then(bn.natAbs:Int)else -(bn.natAbs:Int))=bn:=by
  clear e e1 e2;by_cases c1:an<0<;>by_cases c2:bn<0<;>simp [c1,c2]at hs ⊢<;>omega
 rw [e3]at e;rw [e];generalize an.natAbs*bd.natAbs=M at *;generalize bn.natAbs*ad.natAbs=N at *;clear e e1 e2 e3;by_cases c1:an<0<;>by_cases c2:bn<0<;>simp [c1,c2]at hs ⊢<;>omega

theorem EQ{an ad bn bd:Int}(ha:aA an ad=true)(hb:aA bn bd=true)(h:an*bd=bn*ad):an=bn/\ad=bd:=by
 have p:=gL ha;have q:=gL hb;have h1:=aF ha;have h2:=aF hb;exact QJ
theorem Jw{n k m h:Nat}(h1:0<n)(h2:0<m):0<ik n k m h:=by
 unfold ik;exact Nat.mul_pos (Nat.div_pos (Nat.gcd_le_left _ h1) (Nat.gcd_pos_of_pos_left _ h1)) (Nat.div_pos (Nat.gcd_le_left _ h2) (Nat.gcd_pos_of_pos_left _ h2))
theorem FK{n d m k:Nat}(hd:0<d)(hk:0<k)(p:Nat.Coprime n d)(q:Nat.Coprime m k):Nat.Coprime (ik n k m d) (ik d m k n):=by
 unfold ik;have g1:0<Nat.gcd n k:=Nat.gcd_pos_of_pos_right _ hk;have g2:0<Nat.gcd m d:=Nat.gcd_pos_of_pos_right _ hd;have a1:=Nat.coprime_div_gcd_div_gcd g1;have a2:=Nat.coprime_div_gcd_div_gcd g2;rw [Nat.gcd_comm d m,Nat.gcd_comm k n];have dv (x y:Nat):x / Nat.gcd x y ∣ x:=Nat.div_dvd_of_dvd (Nat.gcd_dvd_left x y);have dw (x y:Nat):y / Nat.gcd x y ∣ y:=Nat.div_dvd_of_dvd (Nat.gcd_dvd_right x y);refine Nat.Coprime.mul_left (Nat.Coprime.mul_right ?_ a1) (Nat.Coprime.mul_right a2 ?_)
 ·exact Nat.Coprime.coprime_dvd_left (dv n k) (Nat.Coprime.coprime_dvd_right (dw m d) p)
 ·exact Nat.Coprime.coprime_dvd_left (dv m d) (Nat.Coprime.coprime_dvd_right (dw n k) q)
def okF(r:Int × Int × Int):Prop:=(r.2.2=0/\aA r.1 r.2.1=true)\/(r.1=0/\r.2.1=0/\(r.2.2=2\/r.2.2=3))
theorem EA{n d m k:Nat}(b:Bool)(hd:0<d)(hk:0<k)(p:Nat.Coprime n d)(q:Nat.Coprime m k):okF (nL b n d m k):=by
 unfold nL
 split<;>rename_i hc
 ·exact .inr ⟨rfl,rfl,.inl rfl⟩
 ·have h1:=Jw (k:=m) (h:=n) hd hk;exact .inl ⟨rfl,vI b ze ze ze (FK hd hk p q)⟩
theorem E9{an ad bn bd:Int}(ha:aA an ad=true)(hb:aA bn bd=true):okF (jR an ad bn bd):=by
 have h1:=aF ha;have h2:=aF hb;unfold jR;rw [ha,hb];simp only [Bool.and_self,if_true];have hd:0<ad.natAbs*bd.natAbs:=Nat.mul_pos ze ze;rcases uf (jg an ad bn bd).natAbs (ad.natAbs*bd.natAbs)with h|h
 ·exact .inl ⟨h,JG _ hd h⟩
 ·have h3:=EF (decide (jg an ad bn bd<0)) (show kF (jg an ad bn bd).natAbs (ad.natAbs*bd.natAbs)≠0 by omega);exact .inr ⟨h3.1,h3.2,.inl h⟩
theorem L9{an ad bn bd:Int}(ha:aA an ad=true)(hb:aA bn bd=true):okF (lV an ad bn bd):=by
 unfold lV;rw [hb];exact E9 ha (by rw [vH];exact hb)
theorem M7{an ad bn bd:Int}(ha:aA an ad=true)(hb:aA bn bd=true):okF (lK an ad bn bd):=by
 have h1:=aF ha;have h2:=aF hb;unfold lK;rw [ha,hb];exact EA _ ze ze (gL ha) (gL hb)
theorem NS{an ad bn bd:Int}(ha:aA an ad=true)(hb:aA bn bd=true):okF (lL an ad bn bd):=by
 have h1:=aF ha;have h2:=aF hb;unfold lL;rw [ha,hb];simp only [Bool.and_self,if_true]
 split<;>rename_i hc
 ·exact .inr ⟨rfl,rfl,.inr rfl⟩
 ·exact EA _ ze ze (gL ha) (gL hb).symm
end Go.Proofs.YtlheailebbngiaaGreatDoor
namespace Go
open Go.RowKit

def World.src(w:World)(s:Nat)(lv:Value)(p left:Int):World:={w with heap:=w.heap.setIfInBounds s (.cells #[lv,.int .i64 p,.int .i64 left] 120 (0,0))}
section
variable {w : World} {s : Nat} {lv : Value} {p left : Int}
@[go_sem,simp] theorem World.size_src(w:World)(s:Nat)(lv:Value)(p left:Int):(w.src s lv p left).heap.size=w.heap.size:=by simp [World.src]
theorem World.heap_src_same(h:s<w.heap.size):(w.src s lv p left).heap[s]? =some (.cells #[lv,.int .i64 p,.int .i64 left] 120 (0,0)):=by
 simp [World.src,h]
theorem World.heap_src_other{b:Nat}(h:b≠s):(w.src s lv p left).heap[b]? =w.heap[b]?:=by
 simp only [World.src];rw [Array.getElem?_setIfInBounds_ne (Ne.symm h)]
@[go_sem] theorem World.cell?_src0(h:s<w.heap.size):(w.src s lv p left).cell? ⟨s,0,none⟩=some lv:=by simp [World.cell?,World.heap_src_same h]
@[go_sem] theorem World.cell?_src1(h:s<w.heap.size):(w.src s lv p left).cell? ⟨s,1,none⟩=some (.int .i64 p):=by simp [World.cell?,World.heap_src_same h]
@[go_sem] theorem World.cell?_src2(h:s<w.heap.size):(w.src s lv p left).cell? ⟨s,2,none⟩=some (.int .i64 left):=by simp [World.cell?,World.heap_src_same h]
@[go_sem] theorem World.frozen?_src(h:s<w.heap.size)(i:Nat):(w.src s lv p left).frozen? ⟨s,i,none⟩=false:=by simp [World.frozen?,World.heap_src_same h]
@[go_sem] theorem World.cell?_src_other{b i:Nat}(h:b≠s):(w.src s lv p left).cell? ⟨b,i,none⟩=w.cell? ⟨b,i,none⟩:=World.cell?_of_block (World.heap_src_other h)
@[go_sem] theorem World.frozen?_src_other{b i:Nat}(h:b≠s):(w.src s lv p left).frozen? ⟨b,i,none⟩=w.frozen? ⟨b,i,none⟩:=World.frozen?_of_block (World.heap_src_other h)
@[go_sem,simp] theorem World.src_src(lv':Value)(p' left':Int):(w.src s lv p left).src s lv' p' left'=w.src s lv' p' left':=by simp [World.src]
@[go_sem] theorem World.src_alloc(o:Obj)(h:s<w.heap.size):(w.alloc o).src s lv p left=(w.src s lv p left).alloc o:=by
  simp only [World.src,World.alloc]
  congr 1
  apply Array.ext_getElem?;intro k;simp only [Array.getElem?_setIfInBounds,Array.getElem?_push,Array.size_setIfInBounds,Array.size_push];by_cases hk:s=k
  ·subst hk;simp [h,Nat.ne_of_lt h,Nat.lt_succ_of_lt h]
  ·simp [hk]
@[go_sem] theorem World.src_grow(bs:Array Obj)(d:Nat)(h:s<w.heap.size):(w.grow bs d).src s lv p left=(w.src s lv p left).grow bs d:=by
  simp only [World.src,World.grow]
  congr 1
  exact Array.setIfInBounds_append_left h
@[go_sem,simp] theorem World.src_drewN(n:Nat):(w.drewN n).src s lv p left=(w.src s lv p left).drewN n:=rfl
@[go_sem,simp] theorem World.src_drew:w.drew.src s lv p left=(w.src s lv p left).drew:=rfl
@[go_sem] theorem World.setCell_src1(h:s<w.heap.size)(v:Int):(w.src s lv p left).setCell ⟨s,1,none⟩ (.int .i64 v)=w.src s lv v left:=by
  exact QA
@[go_sem] theorem World.setCell_src2(h:s<w.heap.size)(v:Int):(w.src s lv p left).setCell ⟨s,2,none⟩ (.int .i64 v)=w.src s lv p v:=by
  exact QA
@[go_sem] theorem World.setCell_drewN(w:World)(n:Nat)(a:Addr)(v:Value):(w.drewN n).setCell a v=(w.setCell a v).drewN n:=rfl
theorem World.src_new(w:World)(lv:Value)(p left:Int):(w.alloc (.cells #[lv,.int .i64 p,.int .i64 left] 120)).src w.heap.size lv p left=w.alloc (.cells #[lv,.int .i64 p,.int .i64 left] 120):=by
 simp only [World.src,World.alloc]
 congr 1
 apply Array.ext_getElem?;intro k;simp only [Array.getElem?_setIfInBounds,Array.getElem?_push,Array.size_push];by_cases hk:w.heap.size=k
 ·subst hk;simp
 ·simp [hk]

def ay(w:World)(v:Value)(zs:List Int):Prop:=
 zs.length<=140737488355328/\(∀z∈zs,-9223372036854775808<=z/\z<=9223372036854775807)/\
 ∃a cap,v= .slice a zs.length cap/\(zs.length=0\/∃b off,a=some ⟨b,off,none⟩/\b<w.heap.size/\∀i,i<zs.length->w.cell? ⟨b,off+i,none⟩=some (.int .i64 (zs.getD i 0)))
theorem ay.grow{v:Value}{zs:List Int}(h:ay w v zs)(bs:Array Obj)(d:Nat):ay (w.grow bs d) v zs:=by
 obtain⟨h0,hr,a,cap,hv,h1⟩:=h;refine⟨h0,hr,a,cap,hv,h1.imp id ?_⟩;rintro⟨b,off,ha,hb,hc⟩;refine⟨b,off,ha,by simp;omega,fun i hi=>?_⟩;rw [World.cell?_grow _ _ _ hb];exact hc i hi
end
end Go
namespace Go.Proofs.YtlheailebbngiaaGreatDoor
open Tryz List
open Go.RowKit

theorem JD(s:Nat)(p len cap:Nat)(a:Option Addr)(left k:Int)(Y:World)(hs:s<Y.heap.size)(hp:len<=p)(hpm:p<=4611686018427387904)(hk:k<=4611686018427387904) :
 Calls prog 103 #[.pointer (some ⟨s,0,none⟩),.int .i64 k] (Y.src s (.slice a len cap) p left) fun e w'=>e= .returned (.int .i64 (pick 0 k))/\∃n,w'=(Y.src s (.slice a len cap) (p+1) left).drewN n:=by
 have d1:decide ((p:Int)<(len:Int))=false:=by simp;omega
 go_enter func103,ntmps103
 go_wp2_with fail
 go_quiet (fail)
 skip
 go_wp2_with (first|(go_at_call 15;refine(bN _ _ _ ze).mono ?_;rintro e w' ⟨rfl,rfl⟩))
 go_returns
 exact⟨rfl,_,rfl⟩

theorem M0(s:Nat)(p len cap b off:Nat)(left k z:Int)(Y:World)(hs:s<Y.heap.size)(hp:p<len)(hlen:len<=140737488355328)(hk:k<=4611686018427387904)(hbs:b≠s)(hz:Y.cell? ⟨b,off+p,none⟩=some (.int .i64 z)) :
 Calls prog 103 #[.pointer (some ⟨s,0,none⟩),.int .i64 k] (Y.src s (.slice (some ⟨b,off,none⟩) len cap) p left) fun e w'=>e= .returned (.int .i64 (pick z k))/\∃n,w'=(Y.src s (.slice (some ⟨b,off,none⟩) len cap) (p+1) left).drewN n:=by
 have d1:(p:Int)<(len:Int):=by omega
 have d0:(0:Int)<=(p:Int):=by omega
 go_enter func103,ntmps103
 go_wp2_with fail
 go_quiet (fail)
 (go_wp2_with fail;go_quiet (fail))
 go_wp2_with (first|(go_at_call 15;refine(bN _ _ _ ze).mono ?_;rintro e w' ⟨rfl,rfl⟩))
 go_returns
 exact⟨rfl,_,rfl⟩

def aI(w:World)(s:Nat)(lv:Value)(zs:List Int):Prop:=
 zs.length<=140737488355328/\
 ∃a cap,lv= .slice a zs.length cap/\(zs.length=0\/∃b off,a=some ⟨b,off,none⟩/\b<w.heap.size/\b≠s/\∀i,i<zs.length->w.cell? ⟨b,off+i,none⟩=some (.int .i64 (zs.getD i 0)))

def aK(zs:List Int)(p:Nat)(k:Int):Int:=pick (zs.getD p 0) k

theorem bv(s:Nat)(lv:Value)(zs:List Int)(p:Nat)(P left k:Int)(X:World)(hP:P=p)(hs:s<X.heap.size)(hX:X.src s lv P left=X)(hl:aI X s lv zs)(hp:p<=4611686018427387904)(hk:k<=4611686018427387904) :
 Calls prog 103 #[.pointer (some ⟨s,0,none⟩),.int .i64 k] X fun e w'=>e= .returned (.int .i64 (aK zs p k))/\∃n,w'=(X.src s lv (P+1) left).drewN n:=by
 subst hP;obtain⟨hlen,a,cap,rfl,hc⟩:=hl;by_cases h:p<zs.length
 ·rcases hc with h0|⟨b,off,rfl,hb,hbs,hc⟩
  ·omega
  ·have:=M0 s p zs.length cap b off left k (zs.getD p 0) X hs h hlen hk hbs (hc p h);rw [hX]at this;exact this
 ·have:=JD s p zs.length cap a left k X hs ze hp hk;rw [hX]at this;rw [aK,getD_eq_getElem?_getD,getElem?_eq_none ze];exact this

theorem aI.of_cells{w w':World}{s:Nat}{lv:Value}{zs:List Int}(h:aI w s lv zs)(hsz:w.heap.size<=w'.heap.size)(hc:∀b o,b<w.heap.size->b≠s->w'.cell? ⟨b,o,none⟩=w.cell? ⟨b,o,none⟩):aI w' s lv zs:=by
 obtain⟨h0,a,cap,hv,h1⟩:=h;refine⟨h0,a,cap,hv,h1.imp id ?_⟩;rintro⟨b,off,ha,hb,hbs,hcc⟩;exact⟨b,off,ha,by omega,hbs,fun i hi=>by rw [hc b _ hb hbs];exact hcc i hi⟩
theorem aI.grow{w:World}{s:Nat}{lv:Value}{zs:List Int}(h:aI w s lv zs)(bs:Array Obj)(d:Nat):aI (w.grow bs d) s lv zs:=
 h.of_cells zg fun b o hb _=>World.cell?_grow _ _ _ hb
theorem aI.alloc{w:World}{s:Nat}{lv:Value}{zs:List Int}(h:aI w s lv zs)(o:Obj):aI (w.alloc o) s lv zs:=
 h.of_cells zg fun b i hb _=>World.cell?_alloc_lt w o ⟨b,i,none⟩ hb
theorem aI.drewN{w:World}{s:Nat}{lv:Value}{zs:List Int}(h:aI w s lv zs)(n:Nat):aI (w.drewN n) s lv zs:=
 h.of_cells (Nat.le_refl _) fun _ _ _ _=>rfl
theorem aI.src{w:World}{s:Nat}{lv:Value}{zs:List Int}(h:aI w s lv zs)(lv':Value)(p left:Int):aI (w.src s lv' p left) s lv zs:=
 h.of_cells zg fun _ _ _ hbs=>World.cell?_src_other hbs

def Kt(i:Int):Int:=if i<3 then 1 else if i=3 then 10 else if i=4 then 4 else if i=5 then 1000 else 10000
def FQ(zs:List Int)(p:Nat):Int:=mkN (aK zs p 4000) (Kt (aK zs (p+1) 7))
def FR(zs:List Int)(p:Nat):Int:=mkD (aK zs p 4000) (Kt (aK zs (p+1) 7))
theorem fB(zs:List Int)(p:Nat)(k:Int)(hk:1<=k):0<=aK zs p k/\aK zs p k<k:=dL _ _ hk

theorem CS(s:Nat)(lv:Value)(zs:List Int)(p:Nat)(P left:Int)(X:World)(hP:P=p)(hs:s<X.heap.size)(hX:X.src s lv P left=X)(hl:Hid (aI X s lv zs))(hp:p<=4611686018427387000) :
 Calls prog 107 #[.pointer (some ⟨s,0,none⟩)] X fun e w'=>e= .returned (.agg #[.int .i64 (FQ zs p),.int .i64 (FR zs p)])/\(X.src s lv (P+2) left).Grows w':=by
 subst hP;rw [<-hX];clear hX;unfold FQ FR;have b1:=fB zs p 4000 ze;have b2:=fB zs (p+1) 7 ze;generalize hV:aK zs (p+1) 7=v at *;have HV:=zh hV;clear hV;generalize hU:aK zs p 4000=u at *;have HU:=zh hU;clear hU;rcases(show v=0\/v=1\/v=2\/v=3\/v=4\/v=5\/v=6 by omega)with rfl|rfl|rfl|rfl|rfl|rfl|rfl
 all_goals
  simp only [Kt,reduceIte,Int.reduceLT,Int.reduceEq]
  go_enter func107,ntmps107
  go_wp2_with fail
  refine(bv s lv zs p p left _ _ rfl zp zr zu ze ze).mono ?_;rintro e w' ⟨rfl,n1,rfl⟩;rw [HU.out]
  go_wp2_with fail
  refine(bv s lv zs (p+1) (p+1) left _ _ zg zp zr zu ze ze).mono ?_;rintro e w' ⟨rfl,n2,rfl⟩;rw [HV.out]
  go_wp2_with fail
  refine(fe _ _ _ ze ze ze ze).mono ?_;rintro e w' ⟨rfl,bs,dr,rfl⟩
  go_wp2_with fail
  go_returns
  rw [World.src_src,show(p:Int)+1+1=p+2 by omega];exact⟨rfl,.of_below af⟩
def uK(a b:Nat):Int:=((a % 18446744073709551616+b % 18446744073709551616) / 18446744073709551616:Nat)
theorem Io(a b:Nat)(w:World):(callFunc 208 #[.int .u64 (loW a),.int .u64 (loW b),.int .u64 0]).run prog w= .ok (.value (.tuple #[.int .u64 (loW (a+b)),.int .u64 (uK a b)])) w:=by
 rw [run_callFunc_extern func208 zf zf zf (e:=add64Entry) zf];unfold loW uK;have h:=run_add64 (P:=prog) (w:=w) ((a % 18446744073709551616:Nat):Int) ((b % 18446744073709551616:Nat):Int) 0 ze ze ze ze;have e1:(((a % 18446744073709551616:Nat):Int)+((b % 18446744073709551616:Nat):Int)+0) % 18446744073709551616=(((a+b) % 18446744073709551616:Nat):Int):=by omega
 have e2:(((a % 18446744073709551616:Nat):Int)+((b % 18446744073709551616:Nat):Int)+0) / 18446744073709551616=(((a % 18446744073709551616+b % 18446744073709551616) / 18446744073709551616:Nat):Int):=by omega
 rw [e1,e2]at h;rw [h];rfl

theorem Nn(a b:Nat)(h:a+b<340282366920938463463374607431768211456):IntKind.u64.wrap (IntKind.u64.wrap (hiW a+hiW b)+uK a b)=hiW (a+b):=by
 simp only [IntKind.wrap_u64];unfold hiW uK;omega

theorem FM(a b:Nat)(w:World)(h:a+b<340282366920938463463374607431768211456) :
 Calls prog 190 #[.agg #[.int .u64 (hiW a),.int .u64 (loW a)],.agg #[.int .u64 (hiW b),.int .u64 (loW b)]] w fun e w'=>e= .returned (.agg #[.int .u64 (hiW (a+b)),.int .u64 (loW (a+b))])/\w.Grows w':=by
 have ha:=Io a b;have hp:=zh (Nn a b h);clear h;generalize hA:hiW a=A at *;generalize hB:hiW b=B at *;generalize loW a=La at *;generalize loW b=Lb at *;generalize hiW (a+b)=S at *;generalize loW (a+b)=T at *;generalize uK a b=c at *;clear hA hB
 go_enter func190,ntmps190
 go_wp2_with fail
 go_returns
 exact⟨by rw [hp.out],.of_below af⟩
theorem qC{n d:Int}(h:1<=d):(if n.tmod d<0 then n.tdiv d-1 else n.tdiv d)=n / d:=by
 have e1:=Int.mul_tdiv_add_tmod n d;have hb:=Int.tmod_lt_of_pos n (show 0<d by omega);have hc:=Int.tmod_lt_of_pos (-n) (show 0<d by omega);rw [Int.neg_tmod]at hc;symm
 split
 ·exact((Int.ediv_emod_unique (r:=n.tmod d+d) (q:=n.tdiv d-1) (show 0<d by omega)).2 ⟨by rw [Int.mul_sub];omega,by omega,by omega⟩).1
 ·exact((Int.ediv_emod_unique (r:=n.tmod d) (q:=n.tdiv d) (show 0<d by omega)).2 ⟨by omega,by omega,by omega⟩).1
theorem GH{n d:Int}(h:1<=d):(if n<n.tdiv d*d then n.tdiv d-1 else n.tdiv d)=n / d:=by
 have e1:=Int.mul_tdiv_add_tmod n d;rw [<-qC h];rw [Int.mul_comm]at e1;by_cases c:n.tmod d<0
 ·rw [if_pos c,if_pos ze]
 ·rw [if_neg c,if_neg ze]
theorem BQ{an ad bn bd:Int}(h1:1<=ad)(h2:1<=bd)(h:decide (an<0)≠decide (bn<0)):iw an ad bn bd=if an<0 then -1 else 1:=by
 unfold iw;by_cases c:an<0
 ·have hb:0<=bn:=by simp [c]at h;omega
  have k1:an*bd<0:=Int.mul_neg_of_neg_of_pos c ze;have k2:0<=bn*ad:=Int.mul_nonneg hb ze;rw [if_pos ze,if_pos c]
 ·have hb:bn<0:=by simp [c]at h;omega
  have k1:bn*ad<0:=Int.mul_neg_of_neg_of_pos hb ze;have k2:0<=an*bd:=Int.mul_nonneg ze ze;rw [if_neg ze,if_pos ze,if_neg c]
theorem sF{a d:Int}(h:1<=d):a*d=if a<0 then -((a.natAbs*d.natAbs:Nat):Int)else((a.natAbs*d.natAbs:Nat):Int):=by
 rw [Int.natCast_mul];have hd:((d.natAbs:Nat):Int)=d:=by omega
 rw [hd]
 split
 ·rw [<-Int.neg_mul];congr 1;omega
 ·congr 1;omega
theorem KH{an ad bn bd:Int}(h1:1<=ad)(h2:1<=bd)(h:decide (an<0)=decide (bn<0)) :
 iw an ad bn bd=if an<0 then(if bn.natAbs*ad.natAbs<an.natAbs*bd.natAbs then -1 else if an.natAbs*bd.natAbs<bn.natAbs*ad.natAbs then 1 else 0)
  else(if an.natAbs*bd.natAbs<bn.natAbs*ad.natAbs then -1 else if bn.natAbs*ad.natAbs<an.natAbs*bd.natAbs then 1 else 0):=by
 unfold iw;rw [sF (a:=an) h2,sF (a:=bn) h1];generalize an.natAbs*bd.natAbs=X;generalize bn.natAbs*ad.natAbs=Y;by_cases c:an<0
 ·have hb:bn<0:=by simpa [c]using h
  rw [if_pos c,if_pos hb,if_pos c]
  split<;>rename_i q<;>split<;>first|omega|(split<;>first|omega|(split<;>omega))
 ·have hb:¬bn<0:=by simpa [c]using h
  rw [if_neg c,if_neg hb,if_neg c]
  split<;>rename_i q<;>split<;>first|omega|(split<;>first|omega|(split<;>omega))
end Go.Proofs.YtlheailebbngiaaGreatDoor
