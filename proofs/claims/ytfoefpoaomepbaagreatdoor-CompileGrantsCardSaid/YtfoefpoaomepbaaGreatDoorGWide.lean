import Derived.Test.YtfoefpoaomepbaaGreatDoorGDiv
import Derived.Test.YtfoefpoaomepbaaGreatDoorGK
set_option linter.all false
set_option maxHeartbeats 16000000
set_option maxRecDepth 1000000
namespace Go.Proofs.YtfoefpoaomepbaaGreatDoor
open Tryz List
open Go.RowKit

def hiW(n:Nat):Int:=(n / 18446744073709551616:Nat)
def loW(n:Nat):Int:=(n % 18446744073709551616:Nat)

theorem EM(n:Nat)(h:n<340282366920938463463374607431768211456):0<=hiW n/\hiW n<18446744073709551616:=by unfold hiW;omega
theorem Av(n:Nat):0<=loW n/\loW n<18446744073709551616:=by unfold loW;omega

theorem D9(H L d q r Q:Int)(w:World)(a1:(d==0)=false)(a2:1<=d)(h0:0<=H)
 (a3:IntKind.u64.wrap (H.tdiv d)=Q)
 (HD:Hid (∀w,Calls prog 189 #[.int .u64 (H % d),.int .u64 L,.int .u64 d] w fun e w'=>e= .returned (.tuple #[.int .u64 q,.int .u64 r])/\w.Grows w')) :
 Calls prog 146 #[.agg #[.int .u64 H,.int .u64 L],.int .u64 d] w fun e w'=>e= .returned (.tuple #[.agg #[.int .u64 Q,.int .u64 q],.int .u64 r])/\w.Grows w':=by
 go_enter func146,ntmps146
 go_wp2_with fail
 refine dO ze ze ?_;repeat(go_big_quiet_step ((go_at_call 189;exact Calls.quietG (HD.out _))))
 refine wpQuiet_nil ?_;intro _ hw';obtain⟨⟨gb,gd⟩,hw''⟩:=hw';subst hw'';clear HD
 go_wp2_with fail
 go_returns
 refine⟨rfl,.of_below af⟩

def aO(n:Int):Int:=(n.natAbs:Int)
def kR(x y:Int):Int:=(Nat.gcd x.toNat y.toNat:Nat)
theorem G8(n:Int)(h1:-9223372036854775808<=n)(h2:n<=9223372036854775807):0<=aO n/\aO n<=9223372036854775808:=by unfold aO;omega
theorem vC(n:Int):(aO n).toNat=n.natAbs:=by unfold aO;simp
theorem jm{n:Int}(h:0<=n):aO n=n:=by unfold aO;omega

def aL(n d:Int):Bool:=decide (1<=d/\d<=1000000000/\-1000000000000000<=n/\n<=1000000000000000)&&kR (aO n) (aO d)==1
theorem aG{n d:Int}(h:aL n d=true):1<=d/\d<=1000000000/\-1000000000000000<=n/\n<=1000000000000000:=by
 simp only [aL,Bool.and_eq_true,decide_eq_true_eq]at h;exact h.1
theorem wD{n d:Int}(h:aL n d=true):Nat.gcd n.natAbs d.natAbs=1:=by
 simp only [aL,Bool.and_eq_true,beq_iff_eq,kR,vC]at h;have:=h.2;omega
theorem oQ{n d:Int}(h:1<=d/\d<=1000000000/\-1000000000000000<=n/\n<=1000000000000000)(hg:Nat.gcd n.natAbs d.natAbs=1):aL n d=true:=by
 simp only [aL,Bool.and_eq_true,decide_eq_true_eq,beq_iff_eq,kR,vC];exact⟨h,by omega⟩

theorem Calls.quietD{P:Program}{f:FuncId}{args:Array Value}{w:World}{v:Value}
 (h:Calls P f args w fun e w'=>e= .returned v/\∃n,w'=w.drewN n):Calls P f args w fun e w'=>e= .returned v/\w.Grows w':=
 h.mono fun _ _ ⟨he,n,hw⟩=>⟨he,by subst hw;exact .of_below ⟨rfl,rfl,rfl,Nat.le_refl _,fun _ _=>rfl⟩⟩

theorem jY(n:Int)(w:World)(h1:-9223372036854775808<=n)(h2:n<=9223372036854775807) :
 Calls prog 93 #[.int .i64 n] w fun e w'=>e= .returned (.int .u64 (aO n))/\w=w':=by
 by_cases hk:n<0
 ·go_enter func93,ntmps93
  go_wp2
  go_ret
  exact⟨by simp [aO];omega,rfl⟩
 ·go_enter func93,ntmps93
  go_wp2
  go_ret
  exact⟨by simp [aO];omega,rfl⟩

theorem jX(n:Int)(w:World)(h1:-9223372036854775808<=n)(h2:n<=9223372036854775807) :
 Calls prog 177 #[.int .i64 n] w fun e w'=>e= .returned (.int .u64 (aO n))/\w=w':=by
 by_cases hk:n<0
 ·go_enter func177,ntmps177
  go_wp2
  go_ret
  exact⟨ret_int (by unfold aO;simp only [IntKind.wrap_u64];omega),rfl⟩
 ·go_enter func177,ntmps177
  go_wp2
  go_ret
  exact⟨ret_int (by unfold aO;omega),rfl⟩

theorem xA(c d:Int)(h0:0<=c)(h1:0<d):kR d (c % d)=kR c d:=by
 unfold kR;obtain⟨a,rfl⟩:=Int.eq_ofNat_of_zero_le h0;obtain⟨b,rfl⟩:=Int.eq_ofNat_of_zero_le (Int.le_of_lt h1);rw [show((a:Int) % (b:Int))=((a % b:Nat):Int)by simp];simp only [Int.toNat_natCast]
 congr 1
 rw [Nat.gcd_comm a b,Nat.gcd_rec b a,Nat.gcd_comm]

theorem xz(c:Int)(h0:0<=c):kR c 0=c:=by unfold kR;simp;omega

theorem qx(c d:Int)(h1:0<d):0<=c % d/\c % d<d:=⟨Int.emod_nonneg _ zb,Int.emod_lt_of_pos _ h1⟩

theorem CP(a b:Int)(w:World)(h0:0<=a)(h1:a<18446744073709551616)(h2:0<=b)(h3:b<18446744073709551616) :
 Calls prog 147 #[.int .u64 a,.int .u64 b] w fun e w'=>e= .returned (.int .u64 (kR a b))/\∃n,w'=w.drewN n:=by
 go_enter func147,ntmps147
 go_wp2
 go_loopw [0,1] (fun x y wr=>∃c d:Int,x= .int .u64 c/\y= .int .u64 d/\0<=c/\c<18446744073709551616/\0<=d/\d<18446744073709551616/\Hid (kR c d=kR a b)/\∃n,wr=w.drewN n) (fun _ y _=>(intOf y).toNat)
 case atStart=>exact⟨a,b,rfl,rfl,h0,h1,h2,h3,rfl,0,rfl⟩
 case round=>
  obtain⟨c,d,rfl,rfl,hc0,hc,hd0,hd,Hg,dr,rfl⟩:=hrel;by_cases h0:d=0
  ·subst h0
   go_wp2
   go_ret
   exact⟨by rw [<-Hg.out,xz c hc0];rfl,⟨_,rfl⟩⟩
  ·have h0':(d !=0)=true:=by simp;omega
   have h0'':(d==0)=false:=by simp;omega
   have h1d:1<=d:=by omega
   go_wp2
   go_region
   go_wp2
   go_roundw
   case rel=>exact⟨d,c % d,rfl,rfl,hd0,hd,(qx c d h1d).1,by have:=(qx c d h1d).2;omega,(xA c d hc0 h1d).trans Hg.out,dr+1,rfl⟩
   case measure=>simp [intOf];have:=qx c d h1d;omega

theorem pO(a b:Int)(w:World)(h0:0<=a)(h1:a<18446744073709551616)(h2:0<=b)(h3:b<18446744073709551616) :
 Calls prog 181 #[.int .u64 a,.int .u64 b] w fun e w'=>e= .returned (.int .u64 (kR a b))/\∃n,w'=w.drewN n:=by
 go_enter func181,ntmps181
 go_wp2
 go_loopw [0,1] (fun x y wr=>∃c d:Int,x= .int .u64 c/\y= .int .u64 d/\0<=c/\c<18446744073709551616/\0<=d/\d<18446744073709551616/\Hid (kR c d=kR a b)/\∃n,wr=w.drewN n) (fun _ y _=>(intOf y).toNat)
 case atStart=>exact⟨a,b,rfl,rfl,h0,h1,h2,h3,rfl,0,rfl⟩
 case round=>
  obtain⟨c,d,rfl,rfl,hc0,hc,hd0,hd,Hg,dr,rfl⟩:=hrel;by_cases h0:d=0
  ·subst h0
   go_wp2
   go_ret
   exact⟨by rw [<-Hg.out,xz c hc0];rfl,⟨_,rfl⟩⟩
  ·have h0':(d !=0)=true:=by simp;omega
   have h0'':(d==0)=false:=by simp;omega
   have h1d:1<=d:=by omega
   go_wp2
   go_region
   go_wp2
   go_roundw
   case rel=>exact⟨d,c % d,rfl,rfl,hd0,hd,(qx c d h1d).1,by have:=(qx c d h1d).2;omega,(xA c d hc0 h1d).trans Hg.out,dr+1,rfl⟩
   case measure=>simp [intOf];have:=qx c d h1d;omega

theorem dR{n d:Int}(h:¬(1<=d/\d<=1000000000/\-1000000000000000<=n/\n<=1000000000000000)):aL n d=false:=by
 simp only [aL,h,decide_false,Bool.false_and]
theorem sQ{n d:Int}(h:1<=d/\d<=1000000000/\-1000000000000000<=n/\n<=1000000000000000):aL n d=(kR (aO n) (aO d)==1):=by
 simp only [aL,h,and_self,decide_true,Bool.true_and]

theorem Calls.quietE{P:Program}{f:FuncId}{args:Array Value}{w:World}{v:Value}
 (h:Calls P f args w fun e w'=>e= .returned v/\w=w'):Calls P f args w fun e w'=>e= .returned v/\∃n,w'=w.drewN n:=
 h.mono fun _ _ ⟨he,hw⟩=>⟨he,0,hw.symm⟩

theorem ik(n d:Int)(w:World)(h1:-9223372036854775808<=n)(h2:n<=9223372036854775807)(h3:-9223372036854775808<=d)(h4:d<=9223372036854775807) :
 Calls prog 97 #[.agg #[.int .i64 n,.int .i64 d]] w fun e w'=>e= .returned (.bool (aL n d))/\w.Grows w':=by
 by_cases c1:1<=d
 ·by_cases c2:d<=1000000000
  ·by_cases c3:-1000000000000000<=n
   ·by_cases c4:n<=1000000000000000
    ·have hv:=yq (sQ ⟨c1,c2,c3,c4⟩);have ha:=G8 n h1 h2;have ha0:=ha.1;have ha1:=ha.2;have e1:IntKind.u64.wrap d=d:=IntWalk.u64_in _ zb;have e2:=yq (jm (show 0<=d by omega));clear ha
     go_enter func97,ntmps97
     go_wp2_with fail
     go_quiet (first|(go_at_call 147;refine Calls.quiet_of (CP _ _ _ zb zb zb zb))|(go_at_call 93;refine Calls.quiet_of (Calls.quietE (jY _ _ zb zb))))
     go_wp2_with fail
     go_returns
     exact⟨by rw [hv.out,e2.out];rfl,.of_below af⟩
    ·have d1:decide (n<=1000000000000000)=false:=by simp;omega
     go_enter func97,ntmps97
     go_wp2_with fail
     go_quiet (fail)
     go_wp2_with fail
     go_returns
     exact⟨by rw [dR zb];rfl,.of_below af⟩
   ·have d1:decide (-1000000000000000<=n)=false:=by simp;omega
    go_enter func97,ntmps97
    go_wp2_with fail
    go_quiet (fail)
    go_wp2_with fail
    go_returns
    exact⟨by rw [dR zb];rfl,.of_below af⟩
  ·have d1:decide (d<=1000000000)=false:=by simp;omega
   go_enter func97,ntmps97
   go_wp2_with fail
   go_quiet (fail)
   go_wp2_with fail
   go_returns
   exact⟨by rw [dR zb];rfl,.of_below af⟩
 ·have d1:decide (1<=d)=false:=by simp;omega
  go_enter func97,ntmps97
  go_wp2_with fail
  go_quiet (fail)
  go_wp2_with fail
  go_returns
  exact⟨by rw [dR zb];rfl,.of_below af⟩

theorem dL(n d:Int)(w:World)(h1:-9223372036854775808<=n)(h2:n<=9223372036854775807)(h3:-9223372036854775808<=d)(h4:d<=9223372036854775807) :
 Calls prog 175 #[.agg #[.int .i64 n,.int .i64 d]] w fun e w'=>e= .returned (.bool (aL n d))/\w.Grows w':=by
 by_cases c1:1<=d
 ·by_cases c2:d<=1000000000
  ·by_cases c3:-1000000000000000<=n
   ·by_cases c4:n<=1000000000000000
    ·have hv:=yq (sQ ⟨c1,c2,c3,c4⟩);have ha:=G8 n h1 h2;have ha0:=ha.1;have ha1:=ha.2;have e1:aO d=d:=jm zb;clear ha
     go_enter func175,ntmps175
     go_wp2_with fail
     go_quiet (first|(go_at_call 181;refine Calls.quiet_of (pO _ _ _ zb zb zb zb))|(go_at_call 177;refine Calls.quiet_of (Calls.quietE (jX _ _ zb zb))))
     go_wp2_with fail
     go_returns
     exact⟨by rw [hv.out,e1];rfl,.of_below af⟩
    ·have d1:decide (n<=1000000000000000)=false:=by simp;omega
     go_enter func175,ntmps175
     go_wp2_with fail
     go_quiet (fail)
     go_wp2_with fail
     go_returns
     exact⟨by rw [dR zb];rfl,.of_below af⟩
   ·have d1:decide (-1000000000000000<=n)=false:=by simp;omega
    go_enter func175,ntmps175
    go_wp2_with fail
    go_quiet (fail)
    go_wp2_with fail
    go_returns
    exact⟨by rw [dR zb];rfl,.of_below af⟩
  ·have d1:decide (d<=1000000000)=false:=by simp;omega
   go_enter func175,ntmps175
   go_wp2_with fail
   go_quiet (fail)
   go_wp2_with fail
   go_returns
   exact⟨by rw [dR zb];rfl,.of_below af⟩
 ·have d1:decide (1<=d)=false:=by simp;omega
  go_enter func175,ntmps175
  go_wp2_with fail
  go_quiet (fail)
  go_wp2_with fail
  go_returns
  exact⟨by rw [dR zb];rfl,.of_below af⟩


def lT(n d:Nat):Int:=(n % d:Nat)
theorem Gd(n d:Nat)(h:0<d):0<=lT n d/\lT n d<d:=by
 unfold lT;have:=Nat.mod_lt n h;omega

theorem tQ(n d:Nat)(h0:0<d)(_:d<18446744073709551616) :
 n / d / 18446744073709551616=n / 18446744073709551616 / d/\n / d % 18446744073709551616=(n / 18446744073709551616 % d*18446744073709551616+n % 18446744073709551616) / d/\
 n % d=(n / 18446744073709551616 % d*18446744073709551616+n % 18446744073709551616) % d:=by
 generalize hB:18446744073709551616=B at *;have hB0:0<B:=by omega
 clear hB
 have e:n=d*(n / B / d*B)+(n / B % d*B+n % B):=by
  have a1:=Nat.div_add_mod n B;have a2:=Nat.div_add_mod (n / B) d;have a3:B*(n / B)=B*(d*(n / B / d))+B*(n / B % d):=by rw [<-Nat.mul_add,a2]
  rw [Nat.mul_comm B (d*_),Nat.mul_assoc,Nat.mul_comm B (n / B % d)]at a3;omega
 have hlt:(n / B % d*B+n % B) / d<B:=by
  rw [Nat.div_lt_iff_lt_mul h0];have b1:=Nat.mod_lt (n / B) h0;have b2:=Nat.mod_lt n hB0;have b3:(n / B % d+1)*B<=d*B:=Nat.mul_le_mul_right _ b1;rw [Nat.add_mul,Nat.one_mul]at b3;rw [Nat.mul_comm B d];omega
 have q:n / d=n / B / d*B+(n / B % d*B+n % B) / d:=by
  conv=>lhs;rw [e]
  rw [Nat.mul_add_div h0]
 refine⟨?_, ?_, ?_⟩
 ·rw [q,Nat.mul_comm _ B,Nat.mul_add_div hB0,Nat.div_eq_of_lt hlt,Nat.add_zero]
 ·rw [q,Nat.mul_comm _ B,Nat.mul_add_mod,Nat.mod_eq_of_lt hlt]
 ·conv=>lhs;rw [e]
  rw [Nat.mul_add_mod]

theorem wP(n d:Nat)(w:World)(h1:n<340282366920938463463374607431768211456)(h2:d<18446744073709551616)(h0:0<d) :
 Calls prog 146 #[.agg #[.int .u64 (hiW n),.int .u64 (loW n)],.int .u64 d] w fun e w'=>e= .returned (.tuple #[.agg #[.int .u64 (hiW (n / d)),.int .u64 (loW (n / d))],.int .u64 (lT n d)])/\w.Grows w':=by
 obtain⟨e1,e2,e3⟩:=tQ n d h0 h2;have hh:=EM n h1;refine D9 _ _ _ _ _ _ w zg zb hh.1 ?_ ?_
 ·have:(hiW n).tdiv d=((n / 18446744073709551616 / d:Nat):Int):=by
   rw [Int.tdiv_eq_ediv_of_nonneg hh.1];unfold hiW;simp
  rw [this,<-e1];have h3:n / d<=n:=Nat.div_le_self _ _;unfold hiW;generalize n / d=m at *;exact IntWalk.u64_in _ zb
 ·intro w;have:=qY (n / 18446744073709551616 % d) (n % 18446744073709551616) d w (Nat.mod_lt _ h0) (Nat.mod_lt _ zb) h2;rw [<-e2,<-e3]at this;simpa [hiW,loW,lT]using this

def kN(neg:Bool)(n d:Nat):Int:=if 1000000000000000<n / Nat.gcd n d\/1000000000<d / Nat.gcd n d then 0 else if neg then -((n / Nat.gcd n d:Nat):Int)else(n / Nat.gcd n d:Nat)
def nZ(n d:Nat):Int:=if 1000000000000000<n / Nat.gcd n d\/1000000000<d / Nat.gcd n d then 0 else(d / Nat.gcd n d:Nat)
def lI(n d:Nat):Int:=if 1000000000000000<n / Nat.gcd n d\/1000000000<d / Nat.gcd n d then 2 else 0

theorem CL(n d:Nat)(h0:0<d):kR d (lT n d)=(Nat.gcd n d:Nat):=by
 unfold kR lT;simp only [Int.toNat_natCast]
 congr 1
 rw [Nat.gcd_comm n d,Nat.gcd_rec d n,Nat.gcd_comm]

def IY(neg:Bool)(h l d:Int):Value:=if(h !=0)=true\/1000000000000000<l\/1000000000<d then .tuple #[.agg #[.int .i64 0,.int .i64 0],.int .i64 2]else .tuple #[.agg #[.int .i64 (if neg then -l else l),.int .i64 d],.int .i64 0]

theorem Au(neg:Bool)(H L D r g h l h' l' rr:Int)(w:World)(hd:0<=D)(hd1:D<18446744073709551616)(hg0:1<=g)
 (hl0:0<=l') (hg00:(g==0)=false)
 (H1:Hid (∀w,Calls prog 146 #[.agg #[.int .u64 H,.int .u64 L],.int .u64 D] w fun e w'=>e= .returned (.tuple #[.agg #[.int .u64 h,.int .u64 l],.int .u64 r])/\w.Grows w'))
 (H2:Hid (∀w,Calls prog 147 #[.int .u64 D,.int .u64 r] w fun e w'=>e= .returned (.int .u64 g)/\∃n,w'=w.drewN n))
 (H3:Hid (∀w,Calls prog 146 #[.agg #[.int .u64 H,.int .u64 L],.int .u64 g] w fun e w'=>e= .returned (.tuple #[.agg #[.int .u64 h',.int .u64 l'],.int .u64 rr])/\w.Grows w')) :
 Calls prog 92 #[.bool neg,.agg #[.int .u64 H,.int .u64 L],.int .u64 D] w fun e w'=>
  e= .returned (IY neg h' l' (D / g))/\w.Grows w':=by
 have hdg:0<=D / g:=Int.ediv_nonneg hd zb;by_cases c1:(h' !=0)=true
 ·go_enter func92,ntmps92
  go_wp2_with fail
  refine gv (H1.out _) ?_;intro bs dr
  go_wp2_with fail
  refine(H2.out _).mono ?_;rintro e w' ⟨rfl,nn,rfl⟩
  go_wp2_with fail
  refine gv (H3.out _) ?_;intro bs3 dr3;clear H1 H2 H3
  go_wp2_with fail
  go_returns
  exact⟨by rw [IY,if_pos (.inl c1)],.of_below af⟩
 ·have c1':(h' !=0)=false:=by simpa using c1
  clear c1;by_cases c2:(1000000000000000:Int)<l'
  ·go_enter func92,ntmps92
   go_wp2_with fail
   refine gv (H1.out _) ?_;intro bs dr
   go_wp2_with fail
   refine(H2.out _).mono ?_;rintro e w' ⟨rfl,nn,rfl⟩
   go_wp2_with fail
   refine gv (H3.out _) ?_;intro bs3 dr3;clear H1 H2 H3
   go_wp2_with fail
   go_returns
   exact⟨by rw [IY,if_pos (.inr (.inl c2))],.of_below af⟩
  ·have c2':decide ((1000000000000000:Int)<l')=false:=by simpa using c2
   by_cases c3:(1000000000:Int)<D / g
   ·go_enter func92,ntmps92
    go_wp2_with fail
    refine gv (H1.out _) ?_;intro bs dr
    go_wp2_with fail
    refine(H2.out _).mono ?_;rintro e w' ⟨rfl,nn,rfl⟩
    go_wp2_with fail
    refine gv (H3.out _) ?_;intro bs3 dr3;clear H1 H2 H3
    go_wp2_with fail
    go_returns
    exact⟨by rw [IY,if_pos (.inr (.inr c3))],.of_below af⟩
   ·have c3':decide ((1000000000:Int)<D / g)=false:=by simpa using c3
    have hn:¬((h' !=0)=true\/1000000000000000<l'\/1000000000<D / g):=by simp only [c1',Bool.false_eq_true,false_or,not_or];exact⟨c2,c3⟩
    have Hn:=yq hn;clear hn;cases neg
    focus
     go_enter func92,ntmps92
    rotate_left
    focus
     go_enter func92,ntmps92
    rotate_left
    all_goals
     go_wp2_with fail
     refine gv (H1.out _) ?_;intro bs dr
     go_wp2_with fail
     refine(H2.out _).mono ?_;rintro e w' ⟨rfl,nn,rfl⟩
     go_wp2_with fail
     refine gv (H3.out _) ?_;intro bs3 dr3;clear H1 H2 H3
     go_wp2_with fail
     go_returns
     exact⟨by rw [IY,if_neg Hn.out];rfl,.of_below af⟩
theorem Ce(neg:Bool)(n d:Nat)(w:World)(h1:n<340282366920938463463374607431768211456)(h2:d<18446744073709551616)(h0:0<d) :
 Calls prog 92 #[.bool neg,.agg #[.int .u64 (hiW n),.int .u64 (loW n)],.int .u64 d] w fun e w'=>
  e= .returned (.tuple #[.agg #[.int .i64 (kN neg n d),.int .i64 (nZ n d)],.int .i64 (lI n d)])/\w.Grows w':=by
 have hg:0<Nat.gcd n d:=Nat.gcd_pos_of_pos_right _ h0;have hgd:Nat.gcd n d<=d:=Nat.gcd_le_right _ h0;have hr:=Gd n d h0
 refine(Au neg (hiW n) (loW n) d (lT n d) (Nat.gcd n d:Nat) (hiW (n / d)) (loW (n / d)) (hiW (n / Nat.gcd n d)) (loW (n / Nat.gcd n d)) (lT n (Nat.gcd n d)) w zb zb zb
  (Av _).1 zg (fun w=>wP n d w h1 h2 h0) (fun w=>?_) (fun w=>wP n _ w h1 zb hg)).mono ?_
 ·have:=CP d (lT n d) w zb zb hr.1 zb;rw [CL n d h0]at this;exact this
 ·rintro e w' ⟨rfl,hw⟩;refine⟨?_,hw⟩;have hq:n / Nat.gcd n d<=n:=Nat.div_le_self _ _;have hdd:(d:Int) / (Nat.gcd n d:Nat)=(d / Nat.gcd n d:Nat):=by simp
  rw [hdd];unfold IY kN nZ lI hiW loW;generalize n / Nat.gcd n d=a at *;generalize d / Nat.gcd n d=b at *;by_cases c:1000000000000000<a\/1000000000<b
  ·rw [if_pos c,if_pos c,if_pos c,if_pos (by
    by_cases ha:a / 18446744073709551616=0
    ·right;omega
    ·left;simp;omega)]
  ·have ha:a / 18446744073709551616=0:=by omega
   have hb:a % 18446744073709551616=a:=by omega
   rw [if_neg c,if_neg c,if_neg c,if_neg (by rw [ha,hb];simp;omega),hb]

def mkN(n d:Int):Int:=if d=0 then 0 else kN (decide (n<0)!=decide (d<0)) n.natAbs d.natAbs
def mkD(n d:Int):Int:=if d=0 then 0 else nZ n.natAbs d.natAbs
def mkE(n d:Int):Int:=if d=0 then 3 else lI n.natAbs d.natAbs

theorem il(n d:Int)(w:World)(h1:-9223372036854775808<=n)(h2:n<=9223372036854775807)(h3:-9223372036854775808<=d)(h4:d<=9223372036854775807) :
 Calls prog 39 #[.int .i64 n,.int .i64 d] w fun e w'=>
  e= .returned (.tuple #[.agg #[.int .i64 (mkN n d),.int .i64 (mkD n d)],.int .i64 (mkE n d)])/\w.Grows w':=by
 by_cases c:d=0
 ·subst c
  go_enter func39,ntmps39
  go_wp2_with fail
  go_returns
  exact⟨rfl,.of_below af⟩
 ·have c':(d==0)=false:=by simpa using c
  have hl:∀b,(decide (n<0)!=decide (d<0))=b->Hid (∀w,Calls prog 92 #[.bool b,.agg #[.int .u64 0,.int .u64 (aO n)],.int .u64 (aO d)] w fun e w'=>
   e= .returned (.tuple #[.agg #[.int .i64 (mkN n d),.int .i64 (mkD n d)],.int .i64 (mkE n d)])/\w.Grows w'):=by
   intro b hb w;have:=Ce b n.natAbs d.natAbs w zb zb zb;rw [show hiW n.natAbs=0 by unfold hiW;omega,show loW n.natAbs=aO n by unfold loW aO;omega]at this;unfold mkN mkD mkE;rw [if_neg c,if_neg c,if_neg c,hb];exact this
  clear c;generalize mkN n d=N at *;generalize mkD n d=D at *;generalize mkE n d=E at *;by_cases c1:n<0
  ·by_cases c2:d<0
   focus
    have hn:=hl false (by simp [c1,c2])
   rotate_left
   focus
    have hn:=hl true yE
   rotate_left
   all_goals
    clear hl
    go_enter func39,ntmps39
    go_wp2_with (first|(go_at_call 93;refine gw (jY _ _ zb zb) ?_)|(go_at_call 92;refine gv (hn.out _) ?_;intro bs dr;clear hn))
    go_returns
    exact⟨rfl,.of_below af⟩
  ·by_cases c2:d<0
   focus
    have hn:=hl true yE
   rotate_left
   focus
    have hn:=hl false yE
   rotate_left
   all_goals
    clear hl
    go_enter func39,ntmps39
    go_wp2_with (first|(go_at_call 93;refine gw (jY _ _ zb zb) ?_)|(go_at_call 92;refine gv (hn.out _) ?_;intro bs dr;clear hn))
    go_returns
    exact⟨rfl,.of_below af⟩

theorem LK{b c:Bool}{n d:Nat}(h:n=0\/b=c):kN b n d=kN c n d:=by
 rcases h with rfl|rfl
 ·unfold kN;simp
 ·rfl
theorem ul(n d:Nat):lI n d=0\/lI n d=2:=by unfold lI;split<;>simp
theorem Gp{n d:Nat}(b:Bool)(h:lI n d≠0):kN b n d=0/\nZ n d=0:=by
 unfold lI at h;unfold kN nZ
 split at h<;>rename_i hc
 ·rw [if_pos hc,if_pos hc];exact⟨rfl,rfl⟩
 ·exact absurd rfl h
theorem wC{n d:Nat}(b:Bool)(h1:1<=d)(h2:d<=1000000000)(h3:n<=1000000000000000)(hg:Nat.gcd n d=1):aL (if b then -(n:Int)else n) d=true:=by
 refine oQ ⟨by omega,by omega, ?_, ?_⟩ ?_
 ·cases b<;>simp<;>omega
 ·cases b<;>simp<;>omega
 ·cases b<;>simpa using hg
theorem LJ{n d:Nat}(b:Bool)(hd:0<d)(h:lI n d=0):aL (kN b n d) (nZ n d)=true:=by
 have hg:0<Nat.gcd n d:=Nat.gcd_pos_of_pos_right _ hd;unfold lI at h;unfold kN nZ
 split at h<;>rename_i hc
 ·simp at h
 ·rw [if_neg hc,if_neg hc];have h1:0<d / Nat.gcd n d:=Nat.div_pos (Nat.gcd_le_right _ hd) hg;exact wC b zb zb zb (Nat.coprime_div_gcd_div_gcd hg)

def iO(n k m h:Nat):Nat:=n / Nat.gcd n k*(m / Nat.gcd m h)
def tN(b:Bool)(n d m k:Nat):Int × Int × Int:=
 if 1000000000000000<iO n k m d\/1000000000<iO d m k n then(0,0,2)else(if b then -(iO n k m d:Int)else iO n k m d,iO d m k n,0)

def nW(n d:Int):Int × Int × Int:=if aL n d then(-n,d,0)else(0,0,1)
def jw(an ad bn bd:Int):Int:=an*bd+bn*ad
def pX(an ad bn bd:Int):Int × Int × Int:=
 if aL an ad&&aL bn bd then
  (kN (decide (jw an ad bn bd<0)) (jw an ad bn bd).natAbs (ad.natAbs*bd.natAbs),nZ (jw an ad bn bd).natAbs (ad.natAbs*bd.natAbs),lI (jw an ad bn bd).natAbs (ad.natAbs*bd.natAbs))
 else(0,0,1)
def sZ(an ad bn bd:Int):Int × Int × Int:=if aL bn bd then pX an ad (-bn) bd else(0,0,1)
def rW(an ad bn bd:Int):Int × Int × Int:=
 if aL an ad&&aL bn bd then tN (decide (an<0)!=decide (bn<0)) an.natAbs ad.natAbs bn.natAbs bd.natAbs else(0,0,1)
def rY(an ad bn bd:Int):Int × Int × Int:=
 if aL an ad&&aL bn bd then if bn=0 then(0,0,3)else tN (decide (an<0)!=decide (bn<0)) an.natAbs ad.natAbs bd.natAbs bn.natAbs else(0,0,1)
def kT(an ad bn bd:Int):Int:=if an*bd<bn*ad then -1 else if bn*ad<an*bd then 1 else 0
def Fu(an ad bn bd:Int):Int × Int:=if aL an ad&&aL bn bd then(kT an ad bn bd,0)else(0,1)
def fF(n d:Int):Int × Int:=if aL n d then(n / d,0)else(0,1)

theorem wB{n d:Int}:aL (-n) d=aL n d:=by
 unfold aL aO;rw [Int.natAbs_neg]
 congr 1
 refine decide_eq_decide.2 ?_;omega
theorem fJ{n d:Int}(h:aL n d=true):Nat.Coprime n.natAbs d.natAbs:=wD h

theorem J9{a d b e:Nat}(s:Bool):jw (if s then -(a:Int)else a) d (if s then -(b:Int)else b) e=if s then -((a*e+b*d:Nat):Int)else((a*e+b*d:Nat):Int):=by
 unfold jw;cases s<;>simp [Int.neg_mul];omega
theorem Ka{a d b e:Nat}(s:Bool):jw (if s then -(a:Int)else a) d (if s then(b:Int)else -b) e=if s then((b*d:Nat):Int)-(a*e:Nat)else((a*e:Nat):Int)-(b*d:Nat):=by
 unfold jw;cases s<;>simp [Int.neg_mul]<;>omega
theorem mV(n:Int):n=if decide (n<0)then -(n.natAbs:Int)else n.natAbs:=by
 by_cases h:n<0<;>simp [h]<;>omega

theorem Nq{an ad bn bd:Int}(h1:1<=ad)(h2:1<=bd)(hs:decide (an<0)=decide (bn<0)) :
 (jw an ad bn bd).natAbs=an.natAbs*bd.natAbs+bn.natAbs*ad.natAbs/\((jw an ad bn bd).natAbs=0\/decide (jw an ad bn bd<0)=decide (an<0)):=by
 have e:=J9 (a:=an.natAbs) (d:=ad.natAbs) (b:=bn.natAbs) (e:=bd.natAbs) (decide (an<0));have e1:=mV an;have e2:=mV bn;rw [<-hs]at e2;rw [<-e1,<-e2,show((ad.natAbs:Nat):Int)=ad by omega,show((bd.natAbs:Nat):Int)=bd by omega]at e;rw [e];generalize an.natAbs*bd.natAbs+bn.natAbs*ad.natAbs=N at *;by_cases h:an<0
 ·simp [h];omega
 ·simp [h]
theorem Nr{an ad bn bd:Int}(h1:1<=ad)(h2:1<=bd)(hs:decide (an<0)≠decide (bn<0)) :
 (an.natAbs*bd.natAbs<bn.natAbs*ad.natAbs->(jw an ad bn bd).natAbs=bn.natAbs*ad.natAbs-an.natAbs*bd.natAbs/\((jw an ad bn bd).natAbs=0\/decide (jw an ad bn bd<0)=decide (bn<0)))/\
 (bn.natAbs*ad.natAbs<=an.natAbs*bd.natAbs->(jw an ad bn bd).natAbs=an.natAbs*bd.natAbs-bn.natAbs*ad.natAbs/\((jw an ad bn bd).natAbs=0\/decide (jw an ad bn bd<0)=decide (an<0))):=by
 have e:=Ka (a:=an.natAbs) (d:=ad.natAbs) (b:=bn.natAbs) (e:=bd.natAbs) (decide (an<0));have e1:=mV an;have e2:=mV bn;rw [<-e1,show((ad.natAbs:Nat):Int)=ad by omega,show((bd.natAbs:Nat):Int)=bd by omega]at e
 have e3:(if decide (an<0)=true then(bn.natAbs:Int)else -(bn.natAbs:Int))=bn:=by
  clear e e1 e2;by_cases c1:an<0<;>by_cases c2:bn<0<;>simp [c1,c2]at hs ⊢<;>omega
 rw [e3]at e;rw [e];generalize an.natAbs*bd.natAbs=M at *;generalize bn.natAbs*ad.natAbs=N at *;clear e e1 e2 e3;by_cases c1:an<0<;>by_cases c2:bn<0<;>simp [c1,c2]at hs ⊢<;>omega

theorem PD{an ad bn bd:Int}(ha:aL an ad=true)(hb:aL bn bd=true)(h:an*bd=bn*ad):an=bn/\ad=bd:=by
 have p:=fJ ha;have q:=fJ hb;have h1:=aG ha;have h2:=aG hb;exact TB
theorem Ll{n k m h:Nat}(h1:0<n)(h2:0<m):0<iO n k m h:=by
 unfold iO;exact Nat.mul_pos (Nat.div_pos (Nat.gcd_le_left _ h1) (Nat.gcd_pos_of_pos_left _ h1)) (Nat.div_pos (Nat.gcd_le_left _ h2) (Nat.gcd_pos_of_pos_left _ h2))
theorem Ip{n d m k:Nat}(hd:0<d)(hk:0<k)(p:Nat.Coprime n d)(q:Nat.Coprime m k):Nat.Coprime (iO n k m d) (iO d m k n):=by
 unfold iO;have g1:0<Nat.gcd n k:=Nat.gcd_pos_of_pos_right _ hk;have g2:0<Nat.gcd m d:=Nat.gcd_pos_of_pos_right _ hd;have a1:=Nat.coprime_div_gcd_div_gcd g1;have a2:=Nat.coprime_div_gcd_div_gcd g2;rw [Nat.gcd_comm d m,Nat.gcd_comm k n];have dv (x y:Nat):x / Nat.gcd x y ∣ x:=Nat.div_dvd_of_dvd (Nat.gcd_dvd_left x y);have dw (x y:Nat):y / Nat.gcd x y ∣ y:=Nat.div_dvd_of_dvd (Nat.gcd_dvd_right x y);refine Nat.Coprime.mul_left (Nat.Coprime.mul_right ?_ a1) (Nat.Coprime.mul_right a2 ?_)
 ·exact Nat.Coprime.coprime_dvd_left (dv n k) (Nat.Coprime.coprime_dvd_right (dw m d) p)
 ·exact Nat.Coprime.coprime_dvd_left (dv m d) (Nat.Coprime.coprime_dvd_right (dw n k) q)
def okF(r:Int × Int × Int):Prop:=(r.2.2=0/\aL r.1 r.2.1=true)\/(r.1=0/\r.2.1=0/\(r.2.2=2\/r.2.2=3))
theorem Gf{n d m k:Nat}(b:Bool)(hd:0<d)(hk:0<k)(p:Nat.Coprime n d)(q:Nat.Coprime m k):okF (tN b n d m k):=by
 unfold tN
 split<;>rename_i hc
 ·exact .inr ⟨rfl,rfl,.inl rfl⟩
 ·have h1:=Ll (k:=m) (h:=n) hd hk;exact .inl ⟨rfl,wC b zb zb zb (Ip hd hk p q)⟩
theorem Bd{an ad bn bd:Int}(ha:aL an ad=true)(hb:aL bn bd=true):okF (pX an ad bn bd):=by
 have h1:=aG ha;have h2:=aG hb;unfold pX;rw [ha,hb];simp only [Bool.and_self,if_true];have hd:0<ad.natAbs*bd.natAbs:=Nat.mul_pos zb zb;rcases ul (jw an ad bn bd).natAbs (ad.natAbs*bd.natAbs)with h|h
 ·exact .inl ⟨h,LJ _ hd h⟩
 ·have h3:=Gp (decide (jw an ad bn bd<0)) (show lI (jw an ad bn bd).natAbs (ad.natAbs*bd.natAbs)≠0 by omega);exact .inr ⟨h3.1,h3.2,.inl h⟩
theorem FO{an ad bn bd:Int}(ha:aL an ad=true)(hb:aL bn bd=true):okF (sZ an ad bn bd):=by
 unfold sZ;rw [hb];exact Bd ha (by rw [wB];exact hb)
theorem Gl{an ad bn bd:Int}(ha:aL an ad=true)(hb:aL bn bd=true):okF (rW an ad bn bd):=by
 have h1:=aG ha;have h2:=aG hb;unfold rW;rw [ha,hb];exact Gf _ zb zb (fJ ha) (fJ hb)
theorem GJ{an ad bn bd:Int}(ha:aL an ad=true)(hb:aL bn bd=true):okF (rY an ad bn bd):=by
 have h1:=aG ha;have h2:=aG hb;unfold rY;rw [ha,hb];simp only [Bool.and_self,if_true]
 split<;>rename_i hc
 ·exact .inr ⟨rfl,rfl,.inr rfl⟩
 ·exact Gf _ zb zb (fJ ha) (fJ hb).symm
end Go.Proofs.YtfoefpoaomepbaaGreatDoor
namespace Go
open Go.RowKit

def World.src(w:World)(s:Nat)(lv:Value)(p left:Int):World:={w with heap:=w.heap.setIfInBounds s (.cells #[lv,.int .i64 p,.int .i64 left] 91 (0,0))}
section
variable {w : World} {s : Nat} {lv : Value} {p left : Int}
@[go_sem,simp] theorem World.size_src(w:World)(s:Nat)(lv:Value)(p left:Int):(w.src s lv p left).heap.size=w.heap.size:=by simp [World.src]
theorem World.heap_src_same(h:s<w.heap.size):(w.src s lv p left).heap[s]? =some (.cells #[lv,.int .i64 p,.int .i64 left] 91 (0,0)):=by
 simp [World.src,h]
theorem World.heap_src_other{b:Nat}(h:b≠s):(w.src s lv p left).heap[b]? =w.heap[b]?:=by
 simp only [World.src];rw [Array.getElem?_setIfInBounds_ne (Ne.symm h)]
@[go_sem] theorem World.cell?_src0(h:s<w.heap.size):(w.src s lv p left).cell? ⟨s,0,none⟩=some lv:=by simp [World.cell?,World.heap_src_same h]
@[go_sem] theorem World.cell?_src1(h:s<w.heap.size):(w.src s lv p left).cell? ⟨s,1,none⟩=some (.int .i64 p):=by simp [World.cell?,World.heap_src_same h]
@[go_sem] theorem World.cell?_src2(h:s<w.heap.size):(w.src s lv p left).cell? ⟨s,2,none⟩=some (.int .i64 left):=by simp [World.cell?,World.heap_src_same h]
@[go_sem] theorem World.frozen?_src(h:s<w.heap.size)(i:Nat):(w.src s lv p left).frozen? ⟨s,i,none⟩=false:=by simp [World.frozen?,World.heap_src_same h]
@[go_sem] theorem World.cell?_src_other{b i:Nat}(h:b≠s):(w.src s lv p left).cell? ⟨b,i,none⟩=w.cell? ⟨b,i,none⟩:=World.cell?_of_block (World.heap_src_other h)
@[go_sem] theorem World.frozen?_src_other{b i:Nat}(h:b≠s):(w.src s lv p left).frozen? ⟨b,i,none⟩=w.frozen? ⟨b,i,none⟩:=World.frozen?_of_block (World.heap_src_other h)
@[go_sem,simp] theorem World.src_src(lv':Value)(p' left':Int):(w.src s lv p left).src s lv' p' left'=w.src s lv' p' left':=by simp [World.src]
@[go_sem] theorem World.src_alloc(o:Obj)(h:s<w.heap.size):(w.alloc o).src s lv p left=(w.src s lv p left).alloc o:=by
  simp only [World.src,World.alloc]
  congr 1
  apply Array.ext_getElem?;intro k;simp only [Array.getElem?_setIfInBounds,Array.getElem?_push,Array.size_setIfInBounds,Array.size_push];by_cases hk:s=k
  ·subst hk;simp [h,Nat.ne_of_lt h,Nat.lt_succ_of_lt h]
  ·simp [hk]
@[go_sem] theorem World.src_grow(bs:Array Obj)(d:Nat)(h:s<w.heap.size):(w.grow bs d).src s lv p left=(w.src s lv p left).grow bs d:=by
  simp only [World.src,World.grow]
  congr 1
  exact Array.setIfInBounds_append_left h
@[go_sem,simp] theorem World.src_drewN(n:Nat):(w.drewN n).src s lv p left=(w.src s lv p left).drewN n:=rfl
@[go_sem,simp] theorem World.src_drew:w.drew.src s lv p left=(w.src s lv p left).drew:=rfl
@[go_sem] theorem World.setCell_src1(h:s<w.heap.size)(v:Int):(w.src s lv p left).setCell ⟨s,1,none⟩ (.int .i64 v)=w.src s lv v left:=by
  exact Tt
@[go_sem] theorem World.setCell_src2(h:s<w.heap.size)(v:Int):(w.src s lv p left).setCell ⟨s,2,none⟩ (.int .i64 v)=w.src s lv p v:=by
  exact Tt
@[go_sem] theorem World.setCell_drewN(w:World)(n:Nat)(a:Addr)(v:Value):(w.drewN n).setCell a v=(w.setCell a v).drewN n:=rfl
theorem World.src_new(w:World)(lv:Value)(p left:Int):(w.alloc (.cells #[lv,.int .i64 p,.int .i64 left] 91)).src w.heap.size lv p left=w.alloc (.cells #[lv,.int .i64 p,.int .i64 left] 91):=by
 simp only [World.src,World.alloc]
 congr 1
 apply Array.ext_getElem?;intro k;simp only [Array.getElem?_setIfInBounds,Array.getElem?_push,Array.size_push];by_cases hk:w.heap.size=k
 ·subst hk;simp
 ·simp [hk]

def aD(w:World)(v:Value)(zs:List Int):Prop:=
 zs.length<=140737488355328/\(∀z∈zs,-9223372036854775808<=z/\z<=9223372036854775807)/\
 ∃a cap,v= .slice a zs.length cap/\(zs.length=0\/∃b off,a=some ⟨b,off,none⟩/\b<w.heap.size/\∀i,i<zs.length->w.cell? ⟨b,off+i,none⟩=some (.int .i64 (zs.getD i 0)))
theorem aD.grow{v:Value}{zs:List Int}(h:aD w v zs)(bs:Array Obj)(d:Nat):aD (w.grow bs d) v zs:=by
 obtain⟨h0,hr,a,cap,hv,h1⟩:=h;refine⟨h0,hr,a,cap,hv,h1.imp id ?_⟩;rintro⟨b,off,ha,hb,hc⟩;refine⟨b,off,ha,by simp;omega,fun i hi=>?_⟩;rw [World.cell?_grow _ _ _ hb];exact hc i hi
end
end Go
namespace Go.Proofs.YtfoefpoaomepbaaGreatDoor
open Tryz List
open Go.RowKit

theorem Lx(s:Nat)(p len cap:Nat)(a:Option Addr)(left k:Int)(Y:World)(hs:s<Y.heap.size)(hp:len<=p)(hpm:p<=4611686018427387904)(hk:k<=4611686018427387904) :
 Calls prog 74 #[.pointer (some ⟨s,0,none⟩),.int .i64 k] (Y.src s (.slice a len cap) p left) fun e w'=>e= .returned (.int .i64 (pick 0 k))/\∃n,w'=(Y.src s (.slice a len cap) (p+1) left).drewN n:=by
 have d1:decide ((p:Int)<(len:Int))=false:=by simp;omega
 go_enter func74,ntmps74
 go_wp2_with fail
 go_quiet (fail)
 skip
 go_wp2_with (first|(go_at_call 10;refine gw (Pick_any _ _ _ zb) ?_))
 go_returns
 exact⟨rfl,_,rfl⟩

theorem OX(s:Nat)(p len cap b off:Nat)(left k z:Int)(Y:World)(hs:s<Y.heap.size)(hp:p<len)(hlen:len<=140737488355328)(hk:k<=4611686018427387904)(hbs:b≠s)(hz:Y.cell? ⟨b,off+p,none⟩=some (.int .i64 z)) :
 Calls prog 74 #[.pointer (some ⟨s,0,none⟩),.int .i64 k] (Y.src s (.slice (some ⟨b,off,none⟩) len cap) p left) fun e w'=>e= .returned (.int .i64 (pick z k))/\∃n,w'=(Y.src s (.slice (some ⟨b,off,none⟩) len cap) (p+1) left).drewN n:=by
 have d1:(p:Int)<(len:Int):=by omega
 have d0:(0:Int)<=(p:Int):=by omega
 go_enter func74,ntmps74
 go_wp2_with fail
 go_quiet (fail)
 (go_wp2_with fail;go_quiet (fail))
 go_wp2_with (first|(go_at_call 10;refine gw (Pick_any _ _ _ zb) ?_))
 go_returns
 exact⟨rfl,_,rfl⟩

def aF(w:World)(s:Nat)(lv:Value)(zs:List Int):Prop:=
 zs.length<=140737488355328/\
 ∃a cap,lv= .slice a zs.length cap/\(zs.length=0\/∃b off,a=some ⟨b,off,none⟩/\b<w.heap.size/\b≠s/\∀i,i<zs.length->w.cell? ⟨b,off+i,none⟩=some (.int .i64 (zs.getD i 0)))

def aH(zs:List Int)(p:Nat)(k:Int):Int:=pick (zs.getD p 0) k

theorem aX(s:Nat)(lv:Value)(zs:List Int)(p:Nat)(P left k:Int)(X:World)(hP:P=p)(hs:s<X.heap.size)(hX:X.src s lv P left=X)(hl:aF X s lv zs)(hp:p<=4611686018427387904)(hk:k<=4611686018427387904) :
 Calls prog 74 #[.pointer (some ⟨s,0,none⟩),.int .i64 k] X fun e w'=>e= .returned (.int .i64 (aH zs p k))/\∃n,w'=(X.src s lv (P+1) left).drewN n:=by
 subst hP;obtain⟨hlen,a,cap,rfl,hc⟩:=hl;by_cases h:p<zs.length
 ·rcases hc with h0|⟨b,off,rfl,hb,hbs,hc⟩
  ·omega
  ·have:=OX s p zs.length cap b off left k (zs.getD p 0) X hs h hlen hk hbs (hc p h);rw [hX]at this;exact this
 ·have:=Lx s p zs.length cap a left k X hs zb hp hk;rw [hX]at this;rw [aH,getD_eq_getElem?_getD,getElem?_eq_none zb];exact this

theorem aF.of_cells{w w':World}{s:Nat}{lv:Value}{zs:List Int}(h:aF w s lv zs)(hsz:w.heap.size<=w'.heap.size)(hc:∀b o,b<w.heap.size->b≠s->w'.cell? ⟨b,o,none⟩=w.cell? ⟨b,o,none⟩):aF w' s lv zs:=by
 obtain⟨h0,a,cap,hv,h1⟩:=h;refine⟨h0,a,cap,hv,h1.imp id ?_⟩;rintro⟨b,off,ha,hb,hbs,hcc⟩;exact⟨b,off,ha,by omega,hbs,fun i hi=>by rw [hc b _ hb hbs];exact hcc i hi⟩
theorem aF.grow{w:World}{s:Nat}{lv:Value}{zs:List Int}(h:aF w s lv zs)(bs:Array Obj)(d:Nat):aF (w.grow bs d) s lv zs:=
 h.of_cells zd fun b o hb _=>World.cell?_grow _ _ _ hb
theorem aF.alloc{w:World}{s:Nat}{lv:Value}{zs:List Int}(h:aF w s lv zs)(o:Obj):aF (w.alloc o) s lv zs:=
 h.of_cells zd fun b i hb _=>World.cell?_alloc_lt w o ⟨b,i,none⟩ hb
theorem aF.drewN{w:World}{s:Nat}{lv:Value}{zs:List Int}(h:aF w s lv zs)(n:Nat):aF (w.drewN n) s lv zs:=
 h.of_cells (Nat.le_refl _) fun _ _ _ _=>rfl
theorem aF.src{w:World}{s:Nat}{lv:Value}{zs:List Int}(h:aF w s lv zs)(lv':Value)(p left:Int):aF (w.src s lv' p left) s lv zs:=
 h.of_cells zd fun _ _ _ hbs=>World.cell?_src_other hbs

def MN(i:Int):Int:=if i<3 then 1 else if i=3 then 10 else if i=4 then 4 else if i=5 then 1000 else 10000
def IB(zs:List Int)(p:Nat):Int:=mkN (aH zs p 4000) (MN (aH zs (p+1) 7))
def IC(zs:List Int)(p:Nat):Int:=mkD (aH zs p 4000) (MN (aH zs (p+1) 7))
theorem dY(zs:List Int)(p:Nat)(k:Int)(hk:1<=k):0<=aH zs p k/\aH zs p k<k:=pick_bd _ _ hk

theorem Eb(s:Nat)(lv:Value)(zs:List Int)(p:Nat)(P left:Int)(X:World)(hP:P=p)(hs:s<X.heap.size)(hX:X.src s lv P left=X)(hl:Hid (aF X s lv zs))(hp:p<=4611686018427387000) :
 Calls prog 79 #[.pointer (some ⟨s,0,none⟩)] X fun e w'=>e= .returned (.agg #[.int .i64 (IB zs p),.int .i64 (IC zs p)])/\(X.src s lv (P+2) left).Grows w':=by
 subst hP;rw [<-hX];clear hX;unfold IB IC;have b1:=dY zs p 4000 zb;have b2:=dY zs (p+1) 7 zb;generalize hV:aH zs (p+1) 7=v at *;have HV:=yq hV;clear hV;generalize hU:aH zs p 4000=u at *;have HU:=yq hU;clear hU;rcases(show v=0\/v=1\/v=2\/v=3\/v=4\/v=5\/v=6 by omega)with rfl|rfl|rfl|rfl|rfl|rfl|rfl
 all_goals
  simp only [MN,reduceIte,Int.reduceLT,Int.reduceEq]
  go_enter func79,ntmps79
  go_wp2_with fail
  refine(aX s lv zs p p left _ _ rfl zg zm zn zb zb).mono ?_;rintro e w' ⟨rfl,n1,rfl⟩;rw [HU.out]
  go_wp2_with fail
  refine(aX s lv zs (p+1) (p+1) left _ _ zd zg zm zn zb zb).mono ?_;rintro e w' ⟨rfl,n2,rfl⟩;rw [HV.out]
  go_wp2_with fail
  refine gv (il _ _ _ zb zb zb zb) ?_;intro bs dr
  go_wp2_with fail
  go_returns
  rw [World.src_src,show(p:Int)+1+1=p+2 by omega];exact⟨rfl,.of_below af⟩

inductive Ex where
 |mk (op num den dim:Int) (name:ByteArray) (args:List Ex)
namespace Ex
def op:Ex->Int|mk o _ _ _ _ _=>o
def num:Ex->Int|mk _ n _ _ _ _=>n
def den:Ex->Int|mk _ _ d _ _ _=>d
def dim:Ex->Int|mk _ _ _ d _ _=>d
def name:Ex->ByteArray|mk _ _ _ _ s _=>s
def args:Ex->List Ex|mk _ _ _ _ _ l=>l
instance:Inhabited Ex:=⟨mk 0 0 0 0 ByteArray.empty []⟩
def arg(e:Ex)(i:Nat):Ex:=e.args.getD i default
mutual
def size:Ex->Nat
 |mk _ _ _ _ _ l=>sizes l+1
def sizes:List Ex->Nat
 | []=>0
 |e::r=>size e+sizes r
end
mutual
def depth:Ex->Nat
 |mk _ _ _ _ _ l=>depths l+1
def depths:List Ex->Nat
 | []=>0
 |e::r=>max (depth e) (depths r)
end
theorem size_eq(e:Ex):e.size=sizes e.args+1:=by cases e;rw [size];rfl
theorem depth_eq(e:Ex):e.depth=depths e.args+1:=by cases e;rw [depth];rfl
theorem o6(a b:List Ex):sizes (a++b)=sizes a+sizes b:=by
 induction a with
 |nil=>simp [sizes]
 |cons e r ih=>simp only [cons_append,sizes,ih];omega
theorem vU(a b:List Ex):depths (a++b)=max (depths a) (depths b):=by
 induction a with
 |nil=>simp [depths]
 |cons e r ih=>simp only [cons_append,depths,ih];omega
theorem size_pos(e:Ex):1<=e.size:=by rw [size_eq];omega
theorem Ib(l:List Ex)(i:Nat)(h:i<l.length):(l.getD i default).size<=sizes l:=by
 induction l generalizing i with
 |nil=>simp at h
 |cons e r ih=>
  cases i with
  |zero=>simp [sizes]
  |succ i=>have:=ih i zy;simp only [getD_cons_succ,sizes];omega
theorem size_arg(e:Ex)(i:Nat)(h:i<e.args.length):(e.arg i).size<e.size:=by
 have:=Ib e.args i h;rw [size_eq e];unfold arg;omega
theorem length_sizes(l:List Ex):l.length<=sizes l:=by
 induction l with
 |nil=>simp
 |cons e r ih=>have:=size_pos e;simp only [length_cons,sizes];omega
mutual
theorem depth_size:∀e:Ex,e.depth<=e.size
 |mk _ _ _ _ _ l=>by rw [depth,size];have:=depths_sizes l;omega
theorem depths_sizes:∀l:List Ex,depths l<=sizes l
 | []=>by simp [depths,sizes]
 |e::r=>by rw [depths,sizes];have:=depth_size e;have:=depths_sizes r;omega
end
theorem take_succ(l:List Ex)(k:Nat)(h:k<l.length):l.take (k+1)=l.take k++[l.getD k default]:=by
 rw [take_succ_eq_append_getElem h,getD_eq_getElem?_getD,getElem?_eq_getElem h];rfl
theorem sizes_take(e:Ex)(k:Nat)(h:k<e.args.length):sizes (e.args.take (k+1))=sizes (e.args.take k)+(e.arg k).size:=by
 rw [take_succ _ _ h,o6];simp [sizes,arg]
theorem depths_take(e:Ex)(k:Nat)(h:k<e.args.length):depths (e.args.take (k+1))=max (depths (e.args.take k)) (e.arg k).depth:=by
 rw [take_succ _ _ h,vU];simp [depths,arg]
theorem sizes_take_le(e:Ex)(k:Nat):sizes (e.args.take k)<=sizes e.args:=by
 conv=>rhs;rw [<-take_append_drop k e.args]
 rw [o6];omega
end Ex

structure FI(w:World)(b o:Nat)(e:Ex)(v:Value):Prop where
 c0:w.cell? ⟨b,o,none⟩=some (.int .i64 e.op)
 c1:w.cell? ⟨b,o+1,none⟩=some (.int .i64 e.num)
 c2:w.cell? ⟨b,o+2,none⟩=some (.int .i64 e.den)
 c3:w.cell? ⟨b,o+3,none⟩=some (.int .i64 e.dim)
 c4:w.cell? ⟨b,o+4,none⟩=some (.string e.name)
 c5:w.cell? ⟨b,o+5,none⟩=some v

def I64(z:Int):Prop:=-9223372036854775808<=z/\z<=9223372036854775807
structure fE(e:Ex):Prop where
 op:I64 e.op
 num:I64 e.num
 den:I64 e.den
 dim:I64 e.dim
 len:e.args.length<=140737488355328
 name:e.name.size<=140737488355328

inductive ax(S:Nat->Prop)(w:World):Ex->Value->Prop
 |mk (e:Ex) (a:Option Addr) (cap:Nat) (vs:Nat->Value) (hr:fE e)
  (hc:e.args.length=0\/∃b off,a=some ⟨b,off,none⟩/\S b/\b<w.heap.size/\∀i,i<e.args.length->FI w b (off+i*6) (e.arg i) (vs i))
  (hs:∀i,i<e.args.length->ax S w (e.arg i) (vs i)):ax S w e (.slice a e.args.length cap)

theorem FI.same{w w':World}{b o:Nat}{e:Ex}{v:Value}(h:FI w b o e v)(hw:∀o,w'.cell? ⟨b,o,none⟩=w.cell? ⟨b,o,none⟩):FI w' b o e v:=
 ⟨by rw [hw];exact h.c0,by rw [hw];exact h.c1,by rw [hw];exact h.c2,by rw [hw];exact h.c3,by rw [hw];exact h.c4,by rw [hw];exact h.c5⟩

theorem ax.keep{S:Nat->Prop}{w w':World}{e:Ex}{v:Value}(h:ax S w e v)(hsz:w.heap.size<=w'.heap.size)(hw:∀b o,S b->b<w.heap.size->w'.cell? ⟨b,o,none⟩=w.cell? ⟨b,o,none⟩):ax S w' e v:=by
 induction h with
 |mk e a cap vs hr hc hs ih=>
  refine .mk e a cap vs hr (hc.imp id ?_) ih;rintro⟨b,off,ha,hS,hb,hx⟩;exact⟨b,off,ha,hS,by omega,fun i hi=>(hx i hi).same fun o=>hw b o hS hb⟩
theorem ax.grow{S:Nat->Prop}{w:World}{e:Ex}{v:Value}(h:ax S w e v)(bs:Array Obj)(d:Nat):ax S (w.grow bs d) e v:=
 h.keep zd fun b o _ hb=>World.cell?_grow _ _ _ hb
theorem ax.alloc{S:Nat->Prop}{w:World}{e:Ex}{v:Value}(h:ax S w e v)(o:Obj):ax S (w.alloc o) e v:=
 h.keep zd fun b i _ hb=>World.cell?_alloc_lt w o ⟨b,i,none⟩ hb
theorem ax.mono{S S':Nat->Prop}{w:World}{e:Ex}{v:Value}(h:ax S w e v)(hS:∀b,S b->S' b):ax S' w e v:=by
 induction h with
 |mk e a cap vs hr hc hs ih=>
  refine .mk e a cap vs hr (hc.imp id ?_) ih;rintro⟨b,off,ha,hb,hx⟩;exact⟨b,off,ha,hS b hb,hx⟩
theorem ax.rng{S:Nat->Prop}{w:World}{e:Ex}{v:Value}(h:ax S w e v):fE e:=by cases h;assumption

abbrev exV(e:Ex)(v:Value):Value:=.agg #[.int .i64 e.op,.int .i64 e.num,.int .i64 e.den,.int .i64 e.dim,.string e.name,v]

def szT(e:Ex)(k:Nat):Int:=(1+Ex.sizes (e.args.take k):Nat)
def dpT(e:Ex)(k:Nat):Int:=(Ex.depths (e.args.take k):Nat)
theorem Bt(e:Ex):szT e 0=1:=by simp [szT,Ex.sizes]
theorem Bu(e:Ex)(k:Nat)(h:k<e.args.length):szT e (k+1)=szT e k+((e.arg k).size:Int):=by unfold szT;rw [Ex.sizes_take e k h];omega
theorem KJ(e:Ex)(k:Nat):1<=szT e k/\szT e k<=e.size:=by unfold szT;have:=Ex.sizes_take_le e k;rw [e.size_eq];omega
theorem FN(e:Ex)(k:Nat)(h:e.args.length<=k):szT e k=e.size:=by unfold szT;rw [take_of_length_le h,e.size_eq];omega
theorem Df(e:Ex):dpT e 0=0:=by simp [dpT,Ex.depths]
theorem Dg(e:Ex)(k:Nat)(h:k<e.args.length):dpT e (k+1)=max (dpT e k) ((e.arg k).depth:Int):=by unfold dpT;rw [Ex.depths_take e k h];omega
theorem MK(e:Ex)(k:Nat):0<=dpT e k/\dpT e k<=e.size:=by
 unfold dpT;have:=Ex.depths_sizes (e.args.take k);have:=Ex.sizes_take_le e k;rw [e.size_eq];omega
theorem GI(e:Ex)(k:Nat)(h:e.args.length<=k):dpT e k+1=e.depth:=by unfold dpT;rw [take_of_length_le h,e.depth_eq];omega

theorem nE(S:Nat->Prop)(n:Nat):∀(e:Ex),e.size<=n->∀(v:Value) (w:World),ax S w e v->Hid (e.size<=2305843009213693952)->
 Calls prog 17 #[exV e v] w fun r w'=>r= .returned (.int .i64 (e.size:Nat))/\w.Grows w':=by
 induction n with
 |zero=>intro e he;have:=e.size_pos;omega
 |succ n ih=>
  intro e he v w h hbig;have IH:=yq ih;clear ih
  cases h with
  |mk _ a cap vs hr hc hs=>
   have hlen:=hr.len;have Hs:=yq hs;have He:=yq he;have Hc:=yq hc;clear hr hs he hc
   go_enter func17,ntmps17
   go_wp2_with fail
   go_loopw [3,4] (fun v3 v4 wr=>∃k:Nat,k<=e.args.length/\v3= .int .i64 (szT e k)/\v4= .int .i64 k/\
    World.Grows (w.alloc (.cells #[.int .i64 e.op,.int .i64 e.num,.int .i64 e.den,.int .i64 e.dim,.string e.name,.slice a e.args.length cap] 27)) wr) (fun _ v4 _=>e.args.length-(intOf v4).toNat)
   case atStart=>exact⟨0,by omega,by rw [Bt],rfl,.refl _⟩
   case round=>
    obtain⟨k,hk,rfl,rfl,bs,d,rfl⟩:=hrel;have hb:=KJ e k;have hb0:1<=szT e k:=hb.1;have hb1:szT e k<=2305843009213693952:=by have:=hbig.out;omega
    clear hb;by_cases hlt:k<e.args.length
    ·rcases Hc.out with h0|⟨b,off,rfl,hS,hbw,hx⟩
     ·omega
     ·obtain⟨x0,x1,x2,x3,x4,x5⟩:=hx k hlt;clear hx;have hlt1:(k:Int)<(e.args.length:Int):=by omega
      have HN:=yq (Bu e k hlt);have HA:=yq (e.size_arg k hlt);have hs1:((e.arg k).size:Int)<=2305843009213693952:=by have:=hbig.out;have:=HA.out;omega
      go_wp2_with fail
      refine gv (IH.out (e.arg k) zF (vs k) _ (((Hs.out k hlt).alloc _).grow _ _) yi) ?_;intro bs2 d2
      go_wp2_with fail
      go_roundw
      case rel=>exact⟨k+1,by omega,by rw [HN.out],by go_num,.of_below af⟩
      case measure=>simp [intOf];omega
    ·have HN:=yq (FN e k zb);obtain rfl:k=e.args.length:=by omega
     go_wp2_with fail
     go_returns
     exact⟨ret_int HN.out,.of_below af⟩

theorem kX(S:Nat->Prop)(n:Nat):∀(e:Ex),e.size<=n->∀(v:Value) (w:World),ax S w e v->Hid (e.size<=2305843009213693952)->
 Calls prog 76 #[exV e v] w fun r w'=>r= .returned (.int .i64 (e.depth:Nat))/\w.Grows w':=by
 induction n with
 |zero=>intro e he;have:=e.size_pos;omega
 |succ n ih=>
  intro e he v w h hbig;have IH:=yq ih;clear ih
  cases h with
  |mk _ a cap vs hr hc hs=>
   have hlen:=hr.len;have Hs:=yq hs;have He:=yq he;have Hc:=yq hc;clear hr hs he hc
   go_enter func76,ntmps76
   go_wp2_with fail
   go_loopw [3,4] (fun v3 v4 wr=>∃k:Nat,k<=e.args.length/\v3= .int .i64 (dpT e k)/\v4= .int .i64 k/\
    World.Grows (w.alloc (.cells #[.int .i64 e.op,.int .i64 e.num,.int .i64 e.den,.int .i64 e.dim,.string e.name,.slice a e.args.length cap] 27)) wr) (fun _ v4 _=>e.args.length-(intOf v4).toNat)
   case atStart=>exact⟨0,by omega,by rw [Df],rfl,.refl _⟩
   case round=>
    obtain⟨k,hk,rfl,rfl,bs,d,rfl⟩:=hrel;have hb:=MK e k;have hb0:0<=dpT e k:=hb.1;have hb1:dpT e k<=2305843009213693952:=by have:=hbig.out;omega
    clear hb;by_cases hlt:k<e.args.length
    ·rcases Hc.out with h0|⟨b,off,rfl,hS,hbw,hx⟩
     ·omega
     ·obtain⟨x0,x1,x2,x3,x4,x5⟩:=hx k hlt;clear hx;have hlt1:(k:Int)<(e.args.length:Int):=by omega
      have HN:=yq (Dg e k hlt);have HA:=yq (e.size_arg k hlt);have hs1:((e.arg k).depth:Int)<=2305843009213693952:=by have:=hbig.out;have:=HA.out;have:=(e.arg k).depth_size;omega
      go_wp2_with fail
      refine gv (IH.out (e.arg k) zF (vs k) _ (((Hs.out k hlt).alloc _).grow _ _) yi) ?_;intro bs2 d2
      go_wp2_with fail
      go_roundw
      case rel=>exact⟨k+1,by omega,by rw [HN.out],by go_num,.of_below af⟩
      case measure=>simp [intOf];omega
    ·have HN:=yq (GI e k zb);obtain rfl:k=e.args.length:=by omega
     go_wp2_with fail
     go_returns
     exact⟨ret_int HN.out,.of_below af⟩
open Go.RowKit

def nI(c:Int):Bool:=decide (97<=c)&&decide (c<=122)
def iI(c:Int):Bool:=decide (48<=c)&&decide (c<=57)

theorem cO(c:Int)(w:World):Calls prog 108 #[.int .u8 c] w fun e w'=>e= .returned (.bool (nI c))/\w=w':=by
 by_cases c1:97<=c
 ·by_cases c2:c<=122
  ·go_enter func108,ntmps108
   go_wp2
   go_returns
   exact⟨av (by simp [nI,c1,c2]),rfl⟩
  ·go_enter func108,ntmps108
   exact Pn
 ·go_enter func108,ntmps108
  exact Pn
theorem dW(c:Int)(w:World):Calls prog 109 #[.int .u8 c] w fun e w'=>e= .returned (.bool (iI c))/\w=w':=by
 by_cases c1:48<=c
 ·by_cases c2:c<=57
  ·go_enter func109,ntmps109
   go_wp2
   go_returns
   exact⟨av (by simp [iI,c1,c2]),rfl⟩
  ·go_enter func109,ntmps109
   exact Pm
 ·go_enter func109,ntmps109
  exact Pm
def aJ(op:Int):Int:=if 1<=op/\op<=3 then 0 else if 4<=op/\op<=6 then 1 else if 7<=op/\op<=20 then 2 else if op=21 then 3 else -1
theorem kI(op:Int)(w:World):Calls prog 59 #[.int .i64 op] w fun e w'=>e= .returned (.int .i64 (aJ op))/\w=w':=by
 by_cases c1:op<1
 ·exact Mv
 ·by_cases c2:op<=3
  ·exact Mv
  ·by_cases c3:op<=6
   ·exact Mv
   ·by_cases c4:op<=20
    ·exact Mv
    ·by_cases c5:op=21
     ·subst c5
      go_enter func59,ntmps59
      go_wp2
      go_returns
      exact⟨ret_int (by simp [aJ]),rfl⟩
     ·exact Mv
def byt(s:ByteArray)(i:Nat):Int:=if h:i<s.size then(s[i].toNat:Int)else 0
theorem fH(s:ByteArray)(i:Nat)(h:i<s.size):byt s i=(s[i].toNat:Int):=by simp [byt,h]
def iJ(i:Nat)(c:Int):Bool:=nI c || (i !=0&&(iI c || decide (c=95)))
def isWord(s:ByteArray):Bool:=decide (∀i,i<s.size->iJ i (byt s i)=true)&&decide (1<=s.size)&&decide (s.size<=12)
theorem ny(s:ByteArray)(k:Nat)(h:k<s.size)(hc:iJ k (s[k].toNat:Int)=false):isWord s=false:=by
 have:¬∀i,i<s.size->iJ i (byt s i)=true:=fun f=>by have:=f k h;rw [fH s k h,hc]at this;cases this
 simp only [isWord,decide_eq_false this,Bool.false_and]
theorem oo(s:ByteArray)(h:∀i,i<s.size->iJ i (byt s i)=true):isWord s=(decide (1<=s.size)&&decide (s.size<=12)):=by
 simp only [isWord,decide_eq_true h,Bool.true_and]
theorem vF(s:ByteArray)(w:World)(hs:s.size<=maxLen):Calls prog 51 #[.string s] w fun e w'=>e= .returned (.bool (isWord s))/\w=w':=by
 unfold maxLen at hs
 go_enter func51,ntmps51
 go_wp2
 go_loop [3] (fun i=>∃k:Nat,k<=s.size/\i= .int .i64 k/\∀j,j<k->iJ j (byt s j)=true) (fun i=>s.size-(intOf i).toNat)
 case atStart=>exact⟨0,Nat.zero_le _,rfl,fun j hj=>absurd hj (Nat.not_lt_zero _)⟩
 case round=>
  obtain⟨k,hk,rfl,hall⟩:=hrel;by_cases hk2:k<s.size
  ·cases hL:nI (s[k].toNat:Int)
   ·by_cases h0:k=0
    ·subst h0
     go_wp2_with ((go_at_call 108;(with_reducible refine gw (cO _ _) ?_);simp only [hL]))
     go_ret
     exact⟨av (ny s 0 hk2 (by simp [iJ,hL])).symm,rfl⟩
    ·cases hD:iI (s[k].toNat:Int)
     ·by_cases hU:(s[k].toNat:Int)=95
      ·go_wp2_with (first|((go_at_call 108;(with_reducible refine gw (cO _ _) ?_);simp only [hL]))|((go_at_call 109;(with_reducible refine gw (dW _ _) ?_);simp only [hD])))
       go_round
       case rel=>exact⟨k+1,by omega,by go_num,fun i hi=>by
        by_cases e:i=k
        ·subst e;rw [fH s i hk2];simp [iJ,hL,hD,hU,h0]
        ·exact hall i zb⟩
       case measure=>simp [intOf];omega
      ·go_wp2_with (first|((go_at_call 108;(with_reducible refine gw (cO _ _) ?_);simp only [hL]))|((go_at_call 109;(with_reducible refine gw (dW _ _) ?_);simp only [hD])))
       all_goals first
        |(go_ret
          exact⟨av (ny s k hk2 (by simp [iJ,hL,hD,hU])).symm,rfl⟩)
        |(exfalso;simp_all)
     ·go_wp2_with (first|((go_at_call 108;(with_reducible refine gw (cO _ _) ?_);simp only [hL]))|((go_at_call 109;(with_reducible refine gw (dW _ _) ?_);simp only [hD])))
      go_round
      case rel=>exact⟨k+1,by omega,by go_num,fun i hi=>by
       by_cases e:i=k
       ·subst e;rw [fH s i hk2];simp [iJ,hL,hD,h0]
       ·exact hall i zb⟩
      case measure=>simp [intOf];omega
   ·go_wp2_with ((go_at_call 108;(with_reducible refine gw (cO _ _) ?_);simp only [hL]))
    go_round
    case rel=>exact⟨k+1,by omega,by go_num,fun i hi=>by
     by_cases e:i=k
     ·subst e;rw [fH s i hk2];simp [iJ,hL]
     ·exact hall i zb⟩
    case measure=>simp [intOf];omega
  ·have:k=s.size:=by omega
   subst this;by_cases h1:1<=s.size
   ·go_wp2
    go_ret
    exact⟨av (by rw [oo s hall];simp [h1];omega),rfl⟩
   ·go_wp2
    go_ret
    exact⟨av (by rw [oo s hall];simp [h1]),rfl⟩
def SG:List (List UInt8):=[[97,110,100],[98,101,115,116],[98,121],[99,114,101,100,105,116],[99,117,114,114,101,110,99,121],[101,108,115,101],[102,108,111,111,114],[102,114,111,109],[103,114,97,110,116],[105,102],[105,110,100,101,120],[108,101,116],[108,105,109,105,116],[109,97,120],[109,105,110],[110,111,116],[111,114],[112,97,121],[114,101,100,117,99,101],[114,111,117,110,100],[115,116,97,116,117,116,101],[116,104,101,110]
 ]
def Pg(s:ByteArray):Bool:=SG.contains s.toList
theorem Ck(s:ByteArray)(w:World):Calls prog 98 #[.string s] w fun e w'=>e= .returned (.bool (Pg s))/\w=w':=by
 go_enter func98,ntmps98
 exact Ta
def dI(s:ByteArray):Bool:=isWord s&&!Pg s
theorem oL(s:ByteArray)(w:World)(hs:s.size<=maxLen):Calls prog 44 #[.string s] w fun e w'=>e= .returned (.bool (dI s))/\w=w':=by
 cases hW:isWord s<;>
 ·go_enter func44,ntmps44
  go_wp2_with (first|(go_at_call 51;(with_reducible refine gw (vF _ _ zq) ?_);simp only [hW])|(go_at_call 98;(with_reducible refine gw (Ck _ _) ?_)))
  go_returns
  exact⟨av (by simp [dI,hW]),rfl⟩

def oU:ByteArray:=⟨#[48,49,50,51,52,53,54,55,56,57]⟩
def uP:Nat->Int->Nat->ByteArray->ByteArray
 |0,_,_,s=>s
 |f+1,n,l,s=>if 0<n\/s.size<l then uP f (n / 10) l (oU.extract (n % 10).toNat (n % 10+1).toNat++s)else s
def jO(n:Int)(l:Nat):ByteArray:=uP (n.toNat+l) n l ByteArray.empty
theorem JI(f:Nat)(n:Int)(l:Nat)(s:ByteArray)(h:¬(0<n\/s.size<l)):uP f n l s=s:=by
 cases f with
 |zero=>rfl
 |succ f=>simp only [uP,if_neg h]
theorem GK(f:Nat)(n:Int)(l:Nat)(s:ByteArray)(h:0<n\/s.size<l)(hf:n.toNat+(l-s.size)<=f) :
 uP f n l s=uP (f-1) (n / 10) l (oU.extract (n % 10).toNat (n % 10+1).toNat++s):=by
 cases f with
 |zero=>omega
 |succ f=>simp only [uP,if_pos h];rfl
theorem wH:oU.size=10:=rfl
theorem wG(m:Int)(s:ByteArray):(oU.extract (m % 10).toNat (m % 10+1).toNat++s).size=s.size+1:=by
 rw [ByteArray.size_append,ByteArray.size_extract,wH];omega
theorem xK:∀(f:Nat) (n:Int) (l:Nat) (s:ByteArray),0<=n->(uP f n l s).size<=s.size+n.toNat+(l-s.size)
 |0,_,_,_,_=>by simp only [uP];omega
 |f+1,n,l,s,h=>by
  simp only [uP]
  split
  ·have:=xK f (n / 10) l (oU.extract (n % 10).toNat (n % 10+1).toNat++s) zb;rw [wG]at this;omega
  ·omega
theorem qM(n:Int)(l:Nat)(h:0<=n):(jO n l).size<=n.toNat+l:=by
 have:=xK (n.toNat+l) n l ByteArray.empty h;have e:ByteArray.empty.size=0:=rfl;unfold jO;omega
theorem Dj(n:Int)(l:Nat)(w:World)(h0:0<=n)(h1:n<=9223372036854775807)(hl:l<=4):Calls prog 188 #[.int .i64 n,.int .i64 l] w fun e w'=>e= .returned (.string (jO n l))/\w=w':=by
 go_enter func188,ntmps188
 go_wp2
 go_loop [0,5] (fun a b=>∃m:Int,∃s:ByteArray,∃f:Nat,0<=m/\(s.size:Int)+m<=9223372036854775807/\a= .int .i64 m/\b= .string s/\m.toNat+(l-s.size)<=f/\Hid (uP f m l s=jO n l)) (fun a b=>(intOf a).toNat+(l-(match b with| .string s=>s.size|_=>0)))
 case atStart=>exact⟨n,_,n.toNat+l,h0,by show((0:Nat):Int)+n<=_;omega,rfl,rfl,by omega,yq rfl⟩
 case round=>
  obtain⟨m,s,f,hm0,hm1,rfl,rfl,hf,hg⟩:=hrel;have hr:0<=m % 10/\m % 10<10:=by omega
  have hpc:Hid (_):=yq (wG m s);by_cases hp:0<m
  ·go_wp2
   go_round
   case rel=>exact⟨m / 10,_,f-1,by omega,by rw [show({data:=#[48,49,50,51,52,53,54,55,56,57]}:ByteArray)=oU from rfl,hpc.out];omega,rfl,rfl,by rw [show({data:=#[48,49,50,51,52,53,54,55,56,57]}:ByteArray)=oU from rfl,hpc.out];omega,yq (by rw [<-hg.out,GK f m l s (.inl hp) hf];rfl)⟩
   case measure=>
    exact SV
  ·by_cases hq:s.size<l
   ·go_wp2
    go_round
    case rel=>exact⟨m / 10,_,f-1,by omega,by rw [show({data:=#[48,49,50,51,52,53,54,55,56,57]}:ByteArray)=oU from rfl,hpc.out];omega,rfl,rfl,by rw [show({data:=#[48,49,50,51,52,53,54,55,56,57]}:ByteArray)=oU from rfl,hpc.out];omega,yq (by rw [<-hg.out,GK f m l s (.inr hq) hf];rfl)⟩
    case measure=>
     exact SV
   ·go_wp2
    go_returns
    exact⟨by rw [<-hg.out,JI f m l s zb];rfl,rfl⟩

theorem FU{a b:ByteArray}(h:a=b):Ending.returned (.string a)= .returned (.string b):=by rw [h]
def xC(n d:Int):ByteArray:=
 if aL n d=true then
  if n<0 then(if d=1 then⟨#[45]⟩++jO (aO n) 1 else⟨#[45]⟩++jO (aO n) 1++⟨#[47]⟩++jO d 1)
  else(if d=1 then jO (aO n) 1 else jO (aO n) 1++⟨#[47]⟩++jO d 1)
 else⟨#[]⟩
theorem rM(n:Int)(w:World)(h0:0<=n)(h1:n<=9223372036854775807):Calls prog 188 #[.int .i64 n,.int .i64 1] w fun e w'=>e= .returned (.string (jO n 1))/\w=w':=
 Dj n 1 w h0 h1 zb
theorem ME(n d:Int)(h:aL n d=false):xC n d=⟨#[]⟩:=by simp [xC,h]
theorem fI(n d:Int)(w:World)(h1:-9223372036854775808<=n)(h2:n<=9223372036854775807)(h3:-9223372036854775808<=d)(h4:d<=9223372036854775807):Calls prog 145 #[.agg #[.int .i64 n,.int .i64 d]] w fun e w'=>e= .returned (.string (xC n d))/\w.Grows w':=by
 cases hv:aL n d
 ·go_enter func145,ntmps145
  go_wp2_with ((first|(go_at_call 97;(with_reducible refine gv (ik _ _ _ zb zb zb zb) ?_);intro bs dr;simp only [hv])|(go_at_call 93;(with_reducible refine gw (jY _ _ zb zb) ?_))|(go_at_call 188;(with_reducible refine gw (rM _ _ zb zb) ?_))))
  go_returns
  exact⟨FU (ME n d hv).symm,.of_below af⟩
 ·have⟨b1,b2,b3,b4⟩:=aG hv;have a0:0<=aO n:=by unfold aO;omega
  have a1:aO n<=1000000000000000:=by unfold aO;omega
  have e1:IntKind.i64.wrap (aO n)=aO n:=IntWalk.i64_in _ zb;have z1:((jO (aO n) 1).size:Int)<=1000000000000001:=by have:=qM (aO n) 1 a0;omega
  have z2:((jO d 1).size:Int)<=1000000001:=by have:=qM d 1 zb;omega
  by_cases cn:n<0
  ·exact TD
  ·exact TD

def kH:Nat->Int->Int->ByteArray->ByteArray
 |0,_,_,s=>s
 |f+1,r,k,s=>if 0<r then kH f (r % k) (k / 10) (s++oU.extract (r / k).toNat (r / k+1).toNat)else s
def aV(n d m:Int):Bool:=aL n d&&decide (0<=n)&&decide (10000 % d=0)&&decide (2<=m)&&decide (m<=4)&&decide (n / d<=999999999)
def iK(n d:Int):Int:=(n-n / d*d)*(10000 / d)
def Ab(m:Int):ByteArray:=if m=2 then⟨#[]⟩else if m=3 then⟨#[100]⟩else⟨#[109]⟩
def sj(n d m:Int):ByteArray:=
 (if 0<iK n d then kH 4 (iK n d) 1000 (jO (n / d) 1++⟨#[46]⟩)else jO (n / d) 1)++Ab m
theorem mX{a b:ByteArray}{p q:Bool}(h:a=b)(g:p=q):Ending.returned (.tuple #[.string a,.bool p])= .returned (.tuple #[.string b,.bool q]):=by rw [h,g]
def vV(n d m:Int):Value:=.tuple #[.string (if aV n d m=true then sj n d m else⟨#[]⟩),.bool (aV n d m)]
theorem Qc{n d m:Int}(h:aV n d m=false):vV n d m= .tuple #[.string ⟨#[]⟩,.bool false]:=by simp [vV,h]
theorem MQ{n d m:Int}(h:aV n d m=true):vV n d m= .tuple #[.string (sj n d m),.bool true]:=by simp [vV,h]
theorem qX(n d m:Int)(w:World)(h1:-9223372036854775808<=n)(h2:n<=9223372036854775807)(h3:-9223372036854775808<=d)(h4:d<=9223372036854775807)(h:aV n d m=false):Calls prog 91 #[.agg #[.int .i64 n,.int .i64 d],.int .i64 m] w fun e w'=>e= .returned (vV n d m)/\w.Grows w':=by
 cases hv:aL n d
 ·have hq:Hid True:=yq trivial;exact gz5
 ·have⟨b1,b2,b3,b4⟩:=aG hv;have hq:Hid True:=yq trivial;by_cases c1:n<0
  ·exact gz5
  ·by_cases c2:10000 % d=0
   ·by_cases c3:m<2
    ·exact gz5
    ·by_cases c4:4<m
     ·exact gz5
     ·by_cases c5:n / d<=999999999
      ·exfalso;simp [aV,hv,c2]at h;omega
      ·exact gz5
   ·exact gz5
theorem CQ(q:Int)(h0:0<=q)(h1:q<=999999999):xC q 1=jO q 1:=by
 have hv:aL q 1=true:=oQ zb zd;have ha:aO q=q:=jm h0;simp [xC,hv,ha];intro h;omega
theorem Oq(n d:Int)(h0:0<=n)(h1:1<=d)(h2:10000 % d=0):0<=n / d/\0<=n / d*d/\n / d*d<=n/\n-n / d*d<d/\0<=10000 / d/\10000 / d<=10000/\0<=iK n d/\iK n d<10000:=by
 have a1:0<=n / d:=Int.ediv_nonneg h0 zb;have a2:0<=n % d:=Int.emod_nonneg _ zb;have a3:n % d<d:=Int.emod_lt_of_pos _ zb;have a4:d*(n / d)+n % d=n:=Int.mul_ediv_add_emod n d;rw [Int.mul_comm]at a4;have a5:0<=10000 / d:=Int.ediv_nonneg zb zb;have a6:10000 / d<=10000:=Int.ediv_le_self _ zb;have a7:d*(10000 / d)+10000 % d=10000:=Int.mul_ediv_add_emod 10000 d;have a8:n-n / d*d=n % d:=by omega
 have a9:0<=n / d*d:=Int.mul_nonneg a1 zb;refine⟨a1,a9,by omega,by omega,a5,a6, ?_, ?_⟩
 ·unfold iK;rw [a8];exact Int.mul_nonneg a2 a5
 ·unfold iK;rw [a8]
  have a10:0<10000 / d:=by
   rcases Int.lt_or_eq_of_le a5 with h|h
   ·exact h
   ·rw [<-h]at a7;omega
  have:=Int.mul_lt_mul_of_pos_right a3 a10;omega
theorem qO(f:Nat)(r k:Int)(s:ByteArray)(h:¬0<r):kH f r k s=s:=by cases f<;>simp [kH,h]
theorem AY(f:Nat)(r k:Int)(s:ByteArray)(h:0<r):kH (f+1) r k s=kH f (r % k) (k / 10) (s++oU.extract (r / k).toNat (r / k+1).toNat):=by simp [kH,h]
theorem sD(s:ByteArray)(x:Int)(h0:0<=x)(h1:x<10):(s++(⟨#[48,49,50,51,52,53,54,55,56,57]⟩:ByteArray).extract x.toNat (x+1).toNat).size=s.size+1:=by
 show(s++oU.extract _ _).size=_;rw [ByteArray.size_append,ByteArray.size_extract,wH];omega
theorem Dh(s:ByteArray):(s++(⟨#[46]⟩:ByteArray)).size=s.size+1:=by rw [ByteArray.size_append];rfl
theorem uV{n d m r k:Int}{j:Nat}{s:ByteArray}(hp:0<iK n d)(g:kH j r k s=kH 4 (iK n d) 1000 (jO (n / d) 1++⟨#[46]⟩))(g6:kH j r k s=s):s++Ab m=sj n d m:=by
 unfold sj;rw [if_pos hp,<-g,g6]
theorem oD{n d m r k:Int}{j:Nat}{s:ByteArray}(hp:¬0<iK n d)(g:kH j r k s=kH 4 (iK n d) 1000 (jO (n / d) 1))(g6:kH j r k s=s):s++Ab m=sj n d m:=by
 unfold sj;rw [if_neg hp,<-g6,g,qO _ _ _ _ hp]
theorem qb(n d m:Int)(w:World)(h1:-9223372036854775808<=n)(h2:n<=9223372036854775807)(h3:-9223372036854775808<=d)(h4:d<=9223372036854775807)(h:aV n d m=true):Calls prog 91 #[.agg #[.int .i64 n,.int .i64 d],.int .i64 m] w fun e w'=>e= .returned (vV n d m)/\w.Grows w':=by
 rw [MQ h];simp only [aV,Bool.and_eq_true,decide_eq_true_eq]at h;obtain⟨⟨⟨⟨⟨hv,c1⟩,c2⟩,c3⟩,c4⟩,c5⟩:=h;have⟨b1,b2,b3,b4⟩:=aG hv;have⟨r1,r2,r3,r4,r5,r6,r7,r8⟩:=Oq n d c1 b1 c2;have hR:Hid (_):=yq (show iK n d=(n-n / d*d)*(10000 / d)from rfl);unfold iK at r7 r8;have hq:=yq (CQ (n / d) r1 c5);have z:=qM (n / d) 1 r1;have z1:((jO (n / d) 1).size:Int)<=1000000000:=by omega
 clear z
 go_enter func91,ntmps91
 by_cases hp:0<(n-n / d*d)*(10000 / d)
 ·have HP:=yq (show 0<iK n d from hp)
  go_wp2_with ((first|(go_at_call 97;(with_reducible refine gv (ik _ _ _ zb zb zb zb) ?_);intro bs dr;simp only [hv])|(go_at_call 145;(with_reducible refine gv (fI _ _ _ zb zb zb zb) ?_);intro bs2 dr2;simp only [hq.out])))
  go_quiet (fail)
  go_wp2_with fail
  go_loopw [7,8,9] (fun v7 v8 v9 wr=>∃j:Nat,∃r k:Int,∃s:ByteArray,v7= .string s/\v8= .int .i64 r/\v9= .int .i64 k/\0<=r/\((s.size:Int)<=1000000010-j)/\
   ((j=4/\k=1000/\r<10000)\/(j=3/\k=100/\r<1000)\/(j=2/\k=10/\r<100)\/(j=1/\k=1/\r<10)\/(j=0/\k=0/\r=0))/\
   Hid (kH j r k s=kH 4 (iK n d) 1000 (jO (n / d) 1++⟨#[46]⟩))/\World.Grows (w.alloc (.cells #[.int .i64 n,.int .i64 d] 24)) wr) (fun _ _ v9 _=>(intOf v9).toNat)
  case atStart=>exact⟨4,_,_,_,rfl,rfl,rfl,by omega,by first|(rw [Dh];omega)|omega,.inl ⟨rfl,rfl,by omega⟩,yq (by rw [hR.out]),.of_below af⟩
  case round=>
   obtain⟨j,r,k,s,rfl,rfl,rfl,g1,g2,g3,g4,bs3,dr3,rfl⟩:=hrel;by_cases g0:0<r
   ·exact gz6
   ·have G6:=yq (qO j r k s g0);obtain rfl|rfl|rfl:m=2\/m=3\/m=4:=by omega
    ·go_wp2_with fail
     go_returns
     exact⟨mX (show s++Ab 2=sj n d 2 from uV zQ g4.out G6.out) rfl,.of_below af⟩
    ·go_wp2_with fail
     go_returns
     exact⟨mX (show s++Ab 3=sj n d 3 from uV zQ g4.out G6.out) rfl,.of_below af⟩
    ·go_wp2_with fail
     go_returns
     exact⟨mX (show s++Ab 4=sj n d 4 from uV zQ g4.out G6.out) rfl,.of_below af⟩
 ·have HP:=yq (show ¬0<iK n d from hp)
  go_wp2_with ((first|(go_at_call 97;(with_reducible refine gv (ik _ _ _ zb zb zb zb) ?_);intro bs dr;simp only [hv])|(go_at_call 145;(with_reducible refine gv (fI _ _ _ zb zb zb zb) ?_);intro bs2 dr2;simp only [hq.out])))
  go_quiet (fail)
  go_wp2_with fail
  go_loopw [7,8,9] (fun v7 v8 v9 wr=>∃j:Nat,∃r k:Int,∃s:ByteArray,v7= .string s/\v8= .int .i64 r/\v9= .int .i64 k/\0<=r/\((s.size:Int)<=1000000010-j)/\
   ((j=4/\k=1000/\r<10000)\/(j=3/\k=100/\r<1000)\/(j=2/\k=10/\r<100)\/(j=1/\k=1/\r<10)\/(j=0/\k=0/\r=0))/\
   Hid (kH j r k s=kH 4 (iK n d) 1000 (jO (n / d) 1))/\World.Grows (w.alloc (.cells #[.int .i64 n,.int .i64 d] 24)) wr) (fun _ _ v9 _=>(intOf v9).toNat)
  case atStart=>exact⟨4,_,_,_,rfl,rfl,rfl,by omega,by first|(rw [Dh];omega)|omega,.inl ⟨rfl,rfl,by omega⟩,yq (by rw [hR.out]),.of_below af⟩
  case round=>
   obtain⟨j,r,k,s,rfl,rfl,rfl,g1,g2,g3,g4,bs3,dr3,rfl⟩:=hrel;by_cases g0:0<r
   ·exact gz6
   ·have G6:=yq (qO j r k s g0);obtain rfl|rfl|rfl:m=2\/m=3\/m=4:=by omega
    ·go_wp2_with fail
     go_returns
     exact⟨mX (show s++Ab 2=sj n d 2 from oD zQ g4.out G6.out) rfl,.of_below af⟩
    ·go_wp2_with fail
     go_returns
     exact⟨mX (show s++Ab 3=sj n d 3 from oD zQ g4.out G6.out) rfl,.of_below af⟩
    ·go_wp2_with fail
     go_returns
     exact⟨mX (show s++Ab 4=sj n d 4 from oD zQ g4.out G6.out) rfl,.of_below af⟩
theorem jJ(n d m:Int)(w:World)(h1:-9223372036854775808<=n)(h2:n<=9223372036854775807)(h3:-9223372036854775808<=d)(h4:d<=9223372036854775807):Calls prog 91 #[.agg #[.int .i64 n,.int .i64 d],.int .i64 m] w fun e w'=>e= .returned (vV n d m)/\w.Grows w':=by
 cases h:aV n d m
 ·exact qX n d m w h1 h2 h3 h4 h
 ·exact qb n d m w h1 h2 h3 h4 h
theorem xG{n d:Int}(h:1<=d):(if n.tmod d<0 then n.tdiv d-1 else n.tdiv d)=n / d:=by
 have e1:=Int.mul_tdiv_add_tmod n d;have hb:=Int.tmod_lt_of_pos n (show 0<d by omega);have hc:=Int.tmod_lt_of_pos (-n) (show 0<d by omega);rw [Int.neg_tmod]at hc;symm
 split
 ·exact((Int.ediv_emod_unique (r:=n.tmod d+d) (q:=n.tdiv d-1) (show 0<d by omega)).2 ⟨by rw [Int.mul_sub];omega,by omega,by omega⟩).1
 ·exact((Int.ediv_emod_unique (r:=n.tmod d) (q:=n.tdiv d) (show 0<d by omega)).2 ⟨by omega,by omega,by omega⟩).1
theorem M3{an ad bn bd:Int}(h1:1<=ad)(h2:1<=bd)(h:decide (an<0)≠decide (bn<0)):kT an ad bn bd=if an<0 then -1 else 1:=by
 unfold kT;by_cases c:an<0
 ·have hb:0<=bn:=by simp [c]at h;omega
  have k1:an*bd<0:=Int.mul_neg_of_neg_of_pos c zb;have k2:0<=bn*ad:=Int.mul_nonneg hb zb;rw [if_pos zb,if_pos c]
 ·have hb:bn<0:=by simp [c]at h;omega
  have k1:bn*ad<0:=Int.mul_neg_of_neg_of_pos hb zb;have k2:0<=an*bd:=Int.mul_nonneg zb zb;rw [if_neg zb,if_pos zb,if_neg c]
theorem G7{a d:Int}(h:1<=d):a*d=if a<0 then -((a.natAbs*d.natAbs:Nat):Int)else((a.natAbs*d.natAbs:Nat):Int):=by
 rw [Int.natCast_mul];have hd:((d.natAbs:Nat):Int)=d:=by omega
 rw [hd]
 split
 ·rw [<-Int.neg_mul];congr 1;omega
 ·congr 1;omega
theorem M0{an ad bn bd:Int}(h1:1<=ad)(h2:1<=bd)(h:decide (an<0)=decide (bn<0)) :
 kT an ad bn bd=if an<0 then(if bn.natAbs*ad.natAbs<an.natAbs*bd.natAbs then -1 else if an.natAbs*bd.natAbs<bn.natAbs*ad.natAbs then 1 else 0)
  else(if an.natAbs*bd.natAbs<bn.natAbs*ad.natAbs then -1 else if bn.natAbs*ad.natAbs<an.natAbs*bd.natAbs then 1 else 0):=by
 unfold kT;rw [G7 (a:=an) h2,G7 (a:=bn) h1];generalize an.natAbs*bd.natAbs=X;generalize bn.natAbs*ad.natAbs=Y;by_cases c:an<0
 ·have hb:bn<0:=by simpa [c]using h
  rw [if_pos c,if_pos hb,if_pos c]
  split<;>rename_i q<;>split<;>first|omega|(split<;>first|omega|(split<;>omega))
 ·have hb:¬bn<0:=by simpa [c]using h
  rw [if_neg c,if_neg hb,if_neg c]
  split<;>rename_i q<;>split<;>first|omega|(split<;>first|omega|(split<;>omega))
end Go.Proofs.YtfoefpoaomepbaaGreatDoor
