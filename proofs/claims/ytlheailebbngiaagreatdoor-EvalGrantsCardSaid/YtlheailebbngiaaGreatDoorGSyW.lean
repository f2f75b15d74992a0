import Derived.Test.YtlheailebbngiaaGreatDoorGTree
import Derived.Lib.IndexMore
import Derived.Lib.OthersKept
import Derived.ProofKit
import Derived.SizedLaws
set_option linter.all false
set_option maxHeartbeats 16000000
set_option maxRecDepth 1000000
namespace Go.Proofs.YtlheailebbngiaaGreatDoor
open Tryz List
open Go.RowKit
theorem fw(c:Int)(w:World):Calls prog 218 #[.int .u8 c] w fun e w'=>e= .returned (.bool (tZ c))/\w=w':=by
 by_cases c1:97<=c
 ·by_cases c2:c<=122
  ·go_enter func218,ntmps218
   go_wp2
   go_returns
   exact⟨au (by simp [tZ,c1,c2]),rfl⟩
  ·go_enter func218,ntmps218
   exact Nq
 ·go_enter func218,ntmps218
  exact Nq
theorem iL(c:Int)(w:World):Calls prog 222 #[.int .u8 c] w fun e w'=>e= .returned (.bool (nW c))/\w=w':=by
 by_cases c1:48<=c
 ·by_cases c2:c<=57
  ·go_enter func222,ntmps222
   go_wp2
   go_returns
   exact⟨au (by simp [nW,c1,c2]),rfl⟩
  ·go_enter func222,ntmps222
   exact Np
 ·go_enter func222,ntmps222
  exact Np
def xJ(c:Int):Bool:=tZ c || (nW c || decide (c=95))
theorem iP(c:Int)(w:World):Calls prog 219 #[.int .u8 c] w fun e w'=>e= .returned (.bool (xJ c))/\w=w':=by
 cases hL:tZ c
 ·cases hD:nW c
  ·by_cases hU:c=95
   ·subst hU
    go_enter func219,ntmps219
    go_wp2_with ((first|(go_at_call 218;(with_reducible refine(fw _ _).mono ?_);rintro e w' ⟨rfl,rfl⟩;simp only [hL])|(go_at_call 222;(with_reducible refine(iL _ _).mono ?_);rintro e w' ⟨rfl,rfl⟩;simp only [hD])))
    go_returns
    exact⟨au (by simp [xJ]),rfl⟩
   ·have hU2:(c==95)=false:=by simpa using hU
    go_enter func219,ntmps219
    go_wp2_with ((first|(go_at_call 218;(with_reducible refine(fw _ _).mono ?_);rintro e w' ⟨rfl,rfl⟩;simp only [hL])|(go_at_call 222;(with_reducible refine(iL _ _).mono ?_);rintro e w' ⟨rfl,rfl⟩;simp only [hD])))
    go_returns
    exact⟨au (by simp [xJ,hL,hD,hU]),rfl⟩
  ·go_enter func219,ntmps219
   go_wp2_with ((first|(go_at_call 218;(with_reducible refine(fw _ _).mono ?_);rintro e w' ⟨rfl,rfl⟩;simp only [hL])|(go_at_call 222;(with_reducible refine(iL _ _).mono ?_);rintro e w' ⟨rfl,rfl⟩;simp only [hD])))
   go_returns
   exact⟨au (by simp [xJ,hD]),rfl⟩
 ·go_enter func219,ntmps219
  go_wp2_with ((first|(go_at_call 218;(with_reducible refine(fw _ _).mono ?_);rintro e w' ⟨rfl,rfl⟩;simp only [hL])|(go_at_call 222;(with_reducible refine(iL _ _).mono ?_);rintro e w' ⟨rfl,rfl⟩;simp only [hD])))
  go_returns
  exact⟨au (by simp [xJ,hL]),rfl⟩
theorem IP{k:Nat}{c:Int}(h:xJ c=false):jb k c=false:=by
 simp only [xJ,Bool.or_eq_false_iff]at h;simp [jb,h.1,h.2.1,h.2.2]
theorem IM{k:Nat}{c:Int}(h:xJ c=true)(h0:k=0->tZ c=true):jb k c=true:=by
 unfold jb;by_cases e:k=0
 ·simp [h0 e]
 ·have:(k !=0)=true:=by simpa using e
  rw [this,Bool.true_and];exact h
theorem Ci(s:ByteArray)(w:World)(hs:s.size<=maxLen):Calls prog 213 #[.string s] w fun e w'=>e= .returned (.bool (isWord s))/\w=w':=by
 unfold maxLen at hs;have hI:True:=trivial;by_cases c1:1<=s.size
 ·by_cases c2:s.size<=12
  ·have c3:0<s.size:=by omega
   cases hL:tZ (s[0].toNat:Int)
   ·go_enter func213,ntmps213
    go_wp2_with ((first|(go_at_call 218;(with_reducible refine(fw _ _).mono ?_);rintro e w' ⟨rfl,rfl⟩;simp only [hL])|(go_at_call 219;(with_reducible refine(iP _ _).mono ?_);rintro e w' ⟨rfl,rfl⟩;simp only [hI])))
    go_ret
    exact⟨au (mV s 0 ze (by simp [jb,hL])).symm,rfl⟩
   ·go_enter func213,ntmps213
    go_wp2_with ((first|(go_at_call 218;(with_reducible refine(fw _ _).mono ?_);rintro e w' ⟨rfl,rfl⟩;simp only [hL])|(go_at_call 219;(with_reducible refine(iP _ _).mono ?_);rintro e w' ⟨rfl,rfl⟩;simp only [hI])))
    go_loop [3] (fun i=>∃k:Nat,k<=s.size/\i= .int .i64 k/\∀j,j<k->jb j (byt s j)=true) (fun i=>s.size-(intOf i).toNat)
    case atStart=>exact⟨0,Nat.zero_le _,rfl,fun j hj=>absurd hj (Nat.not_lt_zero _)⟩
    case round=>
     obtain⟨k,hk,rfl,hall⟩:=hrel;by_cases hk2:k<s.size
     ·clear hI;cases hI:xJ (s[k].toNat:Int)
      ·go_wp2_with ((first|(go_at_call 218;(with_reducible refine(fw _ _).mono ?_);rintro e w' ⟨rfl,rfl⟩;simp only [hL])|(go_at_call 219;(with_reducible refine(iP _ _).mono ?_);rintro e w' ⟨rfl,rfl⟩;simp only [hI])))
       go_ret
       exact⟨au (mV s k hk2 (IP hI)).symm,rfl⟩
      ·go_wp2_with ((first|(go_at_call 218;(with_reducible refine(fw _ _).mono ?_);rintro e w' ⟨rfl,rfl⟩;simp only [hL])|(go_at_call 219;(with_reducible refine(iP _ _).mono ?_);rintro e w' ⟨rfl,rfl⟩;simp only [hI])))
       go_round
       case rel=>exact⟨k+1,by omega,by go_num,fun i hi=>by
        by_cases e:i=k
        ·subst e;rw [uL s i hk2];exact IM hI (fun e0=>by subst e0;exact hL)
        ·exact hall i ze⟩
       case measure=>simp [intOf];omega
     ·have:k=s.size:=by omega
      subst this
      go_wp2_with fail
      go_ret
      exact⟨au (by rw [nP s hall];simp [c1,c2]),rfl⟩
  ·have hL:True:=trivial;have hw:isWord s=false:=by unfold isWord;rw [decide_eq_false c2,Bool.and_false]
   have c4:12<(s.size:Int):=by omega
   exact QG
 ·have hL:True:=trivial;have hw:isWord s=false:=by unfold isWord;rw [decide_eq_false c1,Bool.and_false,Bool.false_and]
  have c4:(s.size:Int)<1:=by omega
  exact QG
theorem xI(s:ByteArray)(w:World):Calls prog 214 #[.string s] w fun e w'=>e= .returned (.bool (Nk s))/\w=w':=by
 go_enter func214,ntmps214
 exact Ql
theorem AL(s:ByteArray)(w:World)(hs:s.size<=maxLen):Calls prog 206 #[.string s] w fun e w'=>e= .returned (.bool (eY s))/\w=w':=by
 cases hW:isWord s<;>
 ·go_enter func206,ntmps206
  go_wp2_with (first|(go_at_call 213;(with_reducible refine(Ci _ _ zv).mono ?_);rintro e w' ⟨rfl,rfl⟩;simp only [hW])|(go_at_call 214;(with_reducible refine(xI _ _).mono ?_);rintro e w' ⟨rfl,rfl⟩))
  go_returns
  exact⟨au (by simp [eY,hW]),rfl⟩
theorem jJ(op:Int)(w:World):Calls prog 204 #[.int .i64 op] w fun e w'=>e= .returned (.int .i64 (aX op))/\w=w':=by
 go_enter func204,ntmps204
 go_wp2
 all_goals
  go_returns
  exact⟨ret_int (by unfold aX;(repeat' split)<;>first|omega|(simp_all;done)|(simp_all;omega)),rfl⟩
def gG(d:Int):Nat->Int->Option (List Int)
 |0,r=>if r<=0 then some []else none
 |f+1,r=>if r<=0 then some []else(gG d f (r*10 % d)).map fun l=>r*10 / d::l
def jv:List Int->Int
 | []=>0
 |x::r=>x*10 ^ r.length+jv r
theorem qE{d:Int}(hd:1<=d):∀(f:Nat) (r:Int) (l:List Int),0<=r->gG d f r=some l->jv l*d=r*10 ^ l.length/\l.length<=f
 |0,r,l,h0,h=>by
  unfold gG at h
  split at h<;>cases h
  have:r=0:=by omega
  subst this;simp [jv]
 |f+1,r,l,h0,h=>by
  unfold gG at h
  split at h<;>rename_i hc
  ·cases h;have:r=0:=by omega
   subst this;simp [jv]
  ·obtain⟨q,hq,rfl⟩:=Option.map_eq_some_iff.1 h;obtain⟨h1,h2⟩:=qE hd f _ q (Int.emod_nonneg _ ze) hq;refine⟨?_,by simpa using h2⟩;have e:=Int.mul_ediv_add_emod (r*10) d;simp only [jv,length_cons];rw [Int.add_mul,h1,Int.pow_succ];generalize(10:Int) ^ q.length=t at *;have e2:r*(t*10)=(d*(r*10 / d)+r*10 % d)*t:=by rw [e,Int.mul_comm t 10,Int.mul_assoc]
   rw [e2,Int.add_mul,Int.mul_comm d,Int.mul_right_comm]
theorem wO{d:Int}(hd:1<=d):∀(f:Nat) (r:Int),0<=r->r<d->gG d f r=none->r*10 ^ f % d≠0
 |0,r,h0,h1,h=>by
  unfold gG at h
  split at h
  ·cases h
  ·rw [Int.pow_zero,Int.mul_one,Int.emod_eq_of_lt h0 h1];omega
 |f+1,r,h0,h1,h=>by
  unfold gG at h
  split at h
  ·cases h
  ·have h2:=wO hd f (r*10 % d) (Int.emod_nonneg _ ze) (Int.emod_lt_of_pos _ ze) zI;intro hc;apply h2;rw [Int.pow_succ,Int.mul_comm ((10:Int) ^ f),<-Int.mul_assoc]at hc;rw [Int.mul_emod,Int.emod_emod,<-Int.mul_emod];exact hc
def iG(p:Int):Nat->Int->Int->Int × Int
 |0,a,b=>(a,b)
 |f+1,a,b=>if a % p=0/\b % p=0 then iG p f (a / p) (b / p)else(a,b)
theorem pY{p:Int}(hp:2<=p):∀(f:Nat) (a b:Int),1<=b->b<p ^ f->
 (iG p f a b).1*b=a*(iG p f a b).2/\¬((iG p f a b).1 % p=0/\(iG p f a b).2 % p=0)/\(iG p f a b).2 ∣ b/\1<=(iG p f a b).2/\
 ∀q:Int,¬(a % q=0/\b % q=0)->¬((iG p f a b).1 % q=0/\(iG p f a b).2 % q=0)
 |0,a,b,h1,h2=>by simp at h2;omega
 |f+1,a,b,h1,h2=>by
  unfold iG
  split<;>rename_i hc
  ·obtain⟨a',ha⟩:=Int.dvd_of_emod_eq_zero hc.1;obtain⟨b',hb⟩:=Int.dvd_of_emod_eq_zero hc.2;subst ha hb;rw [Int.mul_ediv_cancel_left _ ze,Int.mul_ediv_cancel_left _ ze]
   have hb1:1<=b':=by
    rcases Int.lt_or_le b' 1 with h|h
    ·have:p*b'<=p*0:=Int.mul_le_mul_of_nonneg_left ze ze;omega
    ·exact h
   have hb2:b'<p ^ f:=by
    rw [Int.pow_succ,Int.mul_comm _ p]at h2;exact Int.lt_of_mul_lt_mul_left h2 ze
   obtain⟨e1,e2,e3,e4,e5⟩:=pY hp f a' b' hb1 hb2;refine⟨?_,e2,Int.dvd_trans e3 (Int.dvd_mul_left p b'),e4,fun q hq=>e5 q fun hc=>hq ?_⟩
   ·rw [Int.mul_left_comm,e1,Int.mul_assoc]
   ·exact⟨Int.emod_eq_zero_of_dvd (Int.dvd_trans (Int.dvd_of_emod_eq_zero hc.1) (Int.dvd_mul_left p a')),Int.emod_eq_zero_of_dvd (Int.dvd_trans (Int.dvd_of_emod_eq_zero hc.2) (Int.dvd_mul_left p b'))⟩
  ·exact⟨rfl,hc,Int.dvd_refl b,h1,fun q hq=>hq⟩
def jW(a b:Int):Int × Int:=iG 5 6 (iG 2 14 a b).1 (iG 2 14 a b).2
theorem I8{g:Nat}{k:Nat}(h:g ∣ 10 ^ k)(h2:¬2 ∣ g)(h5:¬5 ∣ g):g=1:=by
 have c2:Nat.Coprime g 2:=by
  have hd:Nat.gcd g 2 ∣ 2:=Nat.gcd_dvd_right _ _;have hg:Nat.gcd g 2 ∣ g:=Nat.gcd_dvd_left _ _;have hle:=Nat.le_of_dvd ze hd;have:Nat.gcd g 2≠2:=fun e=>h2 (e ▸ hg);have h0:Nat.gcd g 2≠0:=fun e=>by rw [e]at hd;omega
  show Nat.gcd g 2=1;omega
 have c5:Nat.Coprime g 5:=by
  have hd:Nat.gcd g 5 ∣ 5:=Nat.gcd_dvd_right _ _;have hg:Nat.gcd g 5 ∣ g:=Nat.gcd_dvd_left _ _;have hle:=Nat.le_of_dvd ze hd;have:Nat.gcd g 5≠5:=fun e=>h5 (e ▸ hg);show Nat.gcd g 5=1;generalize Nat.gcd g 5=x at *;obtain rfl|rfl|rfl|rfl|rfl:x=0\/x=1\/x=2\/x=3\/x=4:=by omega
  all_goals first|rfl|(exfalso;revert hd;decide)
 have c10:Nat.Coprime g (10 ^ k):=Nat.Coprime.pow_right k (show Nat.Coprime g (2*5)from Nat.Coprime.mul_right c2 c5);exact Nat.Coprime.eq_one_of_dvd c10 h
theorem FJ{a:Int}{k:Nat}(hk:k<=4):(jW a (10 ^ k)).1*10 ^ k=a*(jW a (10 ^ k)).2/\(jW a (10 ^ k)).2 ∣ 10 ^ k/\1<=(jW a (10 ^ k)).2/\Nat.Coprime (jW a (10 ^ k)).1.natAbs (jW a (10 ^ k)).2.natAbs:=by
 have hb:(1:Int)<=10 ^ k/\(10:Int) ^ k<=10000:=by
  obtain rfl|rfl|rfl|rfl|rfl:k=0\/k=1\/k=2\/k=3\/k=4:=by omega
  all_goals decide
 obtain⟨e1,e2,e3,e4,e5⟩:=pY (p:=2) ze 14 a (10 ^ k) hb.1 (by rw [show(2:Int) ^ 14=16384 by decide];omega);have hle:=Int.le_of_dvd ze e3;unfold jW;obtain⟨f1,f2,f3,f4,f5⟩:=pY (p:=5) ze 6 (iG 2 14 a (10 ^ k)).1 (iG 2 14 a (10 ^ k)).2 e4 (by rw [show(5:Int) ^ 6=15625 by decide];omega);have f6:=f5 2 e2;generalize iG 5 6 (iG 2 14 a (10 ^ k)).1 (iG 2 14 a (10 ^ k)).2=z at *;generalize iG 2 14 a (10 ^ k)=y at *;have hdv:z.2 ∣ 10 ^ k:=Int.dvd_trans f3 e3;refine⟨?_,hdv,f4, ?_⟩
 ·have h:z.1*10 ^ k*y.2=a*z.2*y.2:=by
   rw [Int.mul_right_comm,f1,Int.mul_right_comm,e1,Int.mul_right_comm]
  exact Int.eq_of_mul_eq_mul_right ze h
 ·have hg:Nat.gcd z.1.natAbs z.2.natAbs ∣ 10 ^ k:=by
   have h1:z.2.natAbs ∣ 10 ^ k:=by
    have:=Int.natAbs_dvd_natAbs.2 hdv
    rwa [Int.natAbs_pow]at this
   exact Nat.dvd_trans (Nat.gcd_dvd_right _ _) h1
  refine I8 hg (fun h=>f6 ?_) (fun h=>f2 ?_)
  ·exact QC
  ·exact QC
theorem PT{an ad bn bd:Int}(h1:1<=ad)(h2:1<=bd)(p:Nat.Coprime an.natAbs ad.natAbs)(q:Nat.Coprime bn.natAbs bd.natAbs)(h:an*bd=bn*ad):an=bn/\ad=bd:=by
 exact QJ
def xZ(n d m:Int):Bool:=
 match gG d 4 (n % d)with
 |none=>false
 |some l=>decide (n / d<=999999999)&&(decide ((jW (n / d*10 ^ l.length+jv l) (10 ^ l.length)).1=n/\(jW (n / d*10 ^ l.length+jv l) (10 ^ l.length)).2=d)&&decide (2<=m/\m<=4))
theorem EY{n d m:Int}(h1:1<=d)(h2:d<=10000)(h3:0<=n)(h4:n<=1000000000000000):xZ n d m=dI n d m:=by
 have hr0:=Int.emod_nonneg n (show d≠0 by omega);have hr1:=Int.emod_lt_of_pos n (show 0<d by omega);have hq:=Int.mul_ediv_add_emod n d;unfold xZ
 cases hf:gG d 4 (n % d)with
 |none=>
  have:=wO h1 4 _ hr0 hr1 hf;show false=_;symm;rw [Bool.eq_false_iff];intro hc;simp only [dI,Bool.and_eq_true,decide_eq_true_eq]at hc;apply this;have h5:(10000:Int) % d=0:=hc.1.1.1.2;obtain⟨c,hc⟩:=Int.dvd_of_emod_eq_zero h5;rw [show(10:Int) ^ 4=10000 by decide,hc,Int.mul_left_comm];exact Int.mul_emod_right d _
 |some l=>
  obtain⟨hp,hl⟩:=qE h1 4 _ l hr0 hf;obtain⟨e1,e2,e3,e4⟩:=FJ (a:=n / d*10 ^ l.length+jv l) hl
  have hA:(n / d*10 ^ l.length+jv l)*d=n*10 ^ l.length:=by
   rw [Int.add_mul,hp]
   conv=>rhs;rw [<-hq]
   rw [Int.add_mul,Int.mul_comm d,Int.mul_right_comm]
  show(decide (n / d<=999999999)&&_)=_;generalize jW (n / d*10 ^ l.length+jv l) (10 ^ l.length)=z at *;rw [Bool.eq_iff_iff];simp only [dI,Bool.and_eq_true,decide_eq_true_eq];constructor
  ·rintro⟨a,⟨rfl,rfl⟩,b,c⟩;refine⟨⟨⟨⟨⟨oG ⟨by omega,by omega,by omega,by omega⟩ e4,h3⟩, ?_⟩,b⟩,c⟩,a⟩;refine Int.emod_eq_zero_of_dvd (Int.dvd_trans e2 ?_);obtain h|h|h|h|h:l.length=0\/l.length=1\/l.length=2\/l.length=3\/l.length=4:=by omega
   all_goals rw [h];decide
  ·rintro⟨⟨⟨⟨⟨a,-⟩,-⟩,b⟩,c⟩,e⟩;refine⟨e, ?_,b,c⟩;have hB:(1:Int)<=10 ^ l.length:=Int.pow_pos ze
   have hx:z.1*d=n*z.2:=by
    have:z.1*d*10 ^ l.length=n*z.2*10 ^ l.length:=by
     rw [Int.mul_right_comm,e1,Int.mul_right_comm,hA,Int.mul_right_comm]
    exact Int.eq_of_mul_eq_mul_right ze this
   exact PT e3 h1 e4 (pU a) hx
theorem G8{n d m:Int}(h:d<1\/10000<d\/n<0\/1000000000000000<n):dI n d m=false:=by
 rw [Bool.eq_false_iff];intro hc;simp only [dI,Bool.and_eq_true,decide_eq_true_eq]at hc;have:=aF hc.1.1.1.1.1;have h5:=Int.le_of_dvd ze (Int.dvd_of_emod_eq_zero hc.1.1.1.2);omega
theorem EK:∀(a b:List UInt8),(46:UInt8)∉a->Lib.index (a++46::b) [46]=a.length
 | [],b,_=>by simp [Lib.index,isPrefixOf]
 |c::a,b,h=>by
  have h1:(46:UInt8)≠c:=fun e=>h (by simp [e]);have ih:=EK a b (fun e=>h (by simp [e]));simp only [cons_append,Lib.index,isPrefixOf,ih];have h2:((46:UInt8)==c)=false:=by simpa using h1
  rw [h2];simp
theorem JS:∀(a:List UInt8),(46:UInt8)∉a->Lib.index a [46]= -1
 | [],_=>by simp [Lib.index]
 |c::a,h=>by
  have h1:(46:UInt8)≠c:=fun e=>h (by simp [e]);have ih:=JS a (fun e=>h (by simp [e]));simp only [Lib.index,isPrefixOf,ih];have h2:((46:UInt8)==c)=false:=by simpa using h1
  rw [h2];simp
theorem N8(a b:List UInt8)(h:(46:UInt8)∉a):Lib.cut (a++46::b) [46]=(a,b,true):=by
 unfold Lib.cut;rw [EK a b h,if_pos ze];simp
theorem PS(a:List UInt8)(h:(46:UInt8)∉a):Lib.cut a [46]=(a,[],false):=by
 unfold Lib.cut;rw [JS a h,if_neg ze]
def gD:Int->List UInt8->Option Int
 |x,[]=>some x
 |x,c::r=>if nW (c.toNat:Int)=true then gD (10*x+((c.toNat:Int)-48)) r else none
theorem lX:∀(a b:List UInt8) (x:Int),gD x (a++b)=(gD x a).bind fun y=>gD y b
 | [],b,x=>rfl
 |c::a,b,x=>by
  simp only [cons_append,gD]
  split
  ·exact lX a b _
  ·rfl
def dgB(x:Int):UInt8:=UInt8.ofNat (48+x.toNat)
theorem wW{x:Int}(h0:0<=x)(h1:x<=9):((dgB x).toNat:Int)=48+x:=by
 unfold dgB;rw [UInt8.toNat_ofNat'];omega
theorem tH(x y:Int)(h0:0<=y)(h1:y<=9):gD x [dgB y]=some (10*x+y):=by
 have e:=wW h0 h1;simp only [gD];rw [e,if_pos (by simp [nW];omega)]
 congr 1
 omega
theorem vX:∀(l:List Int) (x:Int),(∀y∈l,0<=y/\y<=9)->gD x (l.map dgB)=some (x*10 ^ l.length+jv l)
 | [],x,_=>by simp [gD,jv]
 |y::l,x,h=>by
  have hy:=h y zg;have ih:=vX l (10*x+y) (fun z hz=>h z (by simp [hz]));have e:=lX [dgB y] (l.map dgB) x;rw [tH x y hy.1 hy.2]at e;simp only [map_cons];rw [show dgB y::l.map dgB= [dgB y]++l.map dgB from rfl,e];simp only [Option.bind_some];rw [ih]
  congr 1
  simp only [length_cons,jv,Int.pow_succ];rw [Int.add_mul,Int.mul_comm 10 x,Int.mul_assoc,Int.mul_comm 10];omega
theorem JE(u:Nat):∀x:Int,gD x (Lib.decDigits u)=some (x*10 ^ Lib.nDigits u+u):=by
 induction u using Nat.strongRecOn with
 |_ u ih=>
  intro x;rw [Lib.decDigits];by_cases h:u<10
  ·rw [dif_pos h,Lib.nDigits_small h];have:=tH x u ze ze;unfold dgB at this;rw [Int.toNat_natCast]at this;rw [this]
   congr 1
   omega
  ·rw [dif_neg h,lX,ih (u / 10) ze,Lib.nDigits_big h];simp only [Option.bind_some];have:=tH (x*10 ^ Lib.nDigits (u / 10)+(u / 10:Nat)) ((u % 10:Nat):Int) ze ze;unfold dgB at this;rw [Int.toNat_natCast]at this;rw [this]
   congr 1
   rw [Int.pow_succ,Int.mul_add,<-Int.mul_assoc,Int.mul_comm 10 x,Int.mul_assoc,Int.mul_comm 10 (10 ^ _)];omega
theorem BJ(u:Nat):∀c∈Lib.decDigits u,48<=c.toNat/\c.toNat<=57:=by
 induction u using Nat.strongRecOn with
 |_ u ih=>
  intro c hc;rw [Lib.decDigits]at hc;by_cases h:u<10
  ·rw [dif_pos h]at hc;simp only [mem_singleton]at hc;subst hc;rw [UInt8.toNat_ofNat'];omega
  ·rw [dif_neg h]at hc;rcases mem_append.1 hc with hc|hc
   ·exact ih (u / 10) ze c hc
   ·simp only [mem_singleton]at hc;subst hc;rw [UInt8.toNat_ofNat'];omega
theorem Kz(u:Nat)(h:1<=u):∃c r,Lib.decDigits u=c::r/\c.toNat≠48:=by
 induction u using Nat.strongRecOn with
 |_ u ih=>
  rw [Lib.decDigits];by_cases h2:u<10
  ·rw [dif_pos h2];exact⟨_,_,rfl,by rw [UInt8.toNat_ofNat'];omega⟩
  ·rw [dif_neg h2];obtain⟨c,r,e,hc⟩:=ih (u / 10) ze ze;rw [e];exact⟨c,_,rfl,hc⟩
def jU(s:List UInt8):List UInt8 × Int:=if s.getLast? =some 100 then(s.dropLast,3)else if s.getLast? =some 109 then(s.dropLast,4)else(s,2)
def pq(a b:List UInt8)(pt:Bool):Bool:=decide (1<=a.length)&&decide (a.length<=9)&&!(decide (1<a.length)&&decide (a.head? =some 48))&&!(pt&&(decide (b.length<1) || decide (4<b.length)))
def NZ(a b:List UInt8)(pt:Bool)(m:Int):Option (Int × Int × Int):=
 if pq a b pt=true then(gD 0 a).bind fun x=>(gD 0 b).map fun p=>((jW (x*10 ^ b.length+p) (10 ^ b.length)).1,(jW (x*10 ^ b.length+p) (10 ^ b.length)).2,m)else none
def qH(s:List UInt8):Option (Int × Int × Int):=NZ (Lib.cut (jU s).1 [46]).1 (Lib.cut (jU s).1 [46]).2.1 (Lib.cut (jU s).1 [46]).2.2 (jU s).2
def mo(l:List Int):List UInt8:=if l= []then []else 46::l.map dgB
def xw(m:Int):List UInt8:=if m=3 then [100]else if m=4 then [109]else []
def Ji(m:Int):Int:=if m=3 then 3 else if m=4 then 4 else 2
theorem xP{s:List UInt8}(h0:s≠[])(h:∀c∈s,48<=c.toNat/\c.toNat<=57\/c=46):s.getLast?≠some 100/\s.getLast?≠some 109:=by
 have e:=getLast?_eq_some_getLast h0;have hc:=h _ (getLast_mem h0);rw [e];constructor
 ·exact Qk
 ·exact Qk
theorem Fy{s:List UInt8}(h0:s≠[])(h:∀c∈s,48<=c.toNat/\c.toNat<=57\/c=46)(m:Int):jU (s++xw m)=(s,Ji m):=by
 obtain⟨h1,h2⟩:=xP h0 h;unfold jU xw Ji;by_cases c3:m=3
 ·subst c3;rw [if_pos rfl,if_pos rfl];simp
 ·by_cases c4:m=4
  ·subst c4;simp
  ·rw [if_neg c3,if_neg c4,if_neg c3,if_neg c4,append_nil,if_neg h1,if_neg h2]
theorem NV{x:Int}(h0:0<=x)(h1:x<=9):48<=(dgB x).toNat/\(dgB x).toNat<=57:=by have:=wW h0 h1;omega
theorem D8{q:Nat}{l:List Int}(hl:∀y∈l,0<=y/\y<=9):∀c∈Lib.decDigits q++mo l,48<=c.toNat/\c.toNat<=57\/c=46:=by
 intro c hc;rcases mem_append.1 hc with hc|hc
 ·exact .inl (BJ q c hc)
 ·unfold mo at hc
  split at hc
  ·cases hc
  ·rcases mem_cons.1 hc with hc|hc
   ·exact .inr hc
   ·obtain⟨y,hy,rfl⟩:=mem_map.1 hc;have:=hl y hy;exact .inl (NV this.1 this.2)
theorem xD(q:Nat):Lib.nDigits q<=9↔q<=999999999:=by
 constructor
 ·intro h;have h1:=Lib.lt_pow_nDigits q;have h2:10 ^ Lib.nDigits q<=10 ^ 9:=Nat.pow_le_pow_right ze h;have h3:(10:Nat) ^ 9=1000000000:=by decide
  omega
 ·intro h;by_cases h9:Lib.nDigits q<=9
  ·exact h9
  ·exfalso;obtain⟨k,hk⟩:∃k,Lib.nDigits q=k+1:=⟨Lib.nDigits q-1,by have:=Lib.nDigits_pos q;omega⟩
   have hlow:∀(u:Nat) (k:Nat),Lib.nDigits u=k+2->10 ^ (k+1)<=u:=by
    intro u
    induction u using Nat.strongRecOn with
    |_ u ih=>
     intro k hk;by_cases hs:u<10
     ·rw [Lib.nDigits_small hs]at hk;omega
     ·rw [Lib.nDigits_big hs]at hk
      cases k with
      |zero=>omega
      |succ k=>
       have:=ih (u / 10) ze k ze;rw [Nat.pow_succ];omega
   have:=hlow q (Lib.nDigits q-2) ze;have h2:10 ^ 9<=10 ^ (Lib.nDigits q-2+1):=Nat.pow_le_pow_right ze ze;have h3:(10:Nat) ^ 9=1000000000:=by decide
   omega
theorem uG(q:Nat):(46:UInt8)∉Lib.decDigits q:=fun h=>by
 have:=BJ q _ h;revert this;decide
theorem KE(q:Nat)(l:List Int):Lib.cut (Lib.decDigits q++mo l) [46]=(Lib.decDigits q,l.map dgB,decide (l≠[])):=by
 unfold mo;by_cases h:l= []
 ·subst h;rw [if_pos rfl,append_nil,PS _ (uG q)];simp
 ·rw [if_neg h,N8 _ _ (uG q)];simp [h]
theorem GG(q:Nat)(l:List Int)(hn:l.length<=4):pq (Lib.decDigits q) (l.map dgB) (decide (l≠[]))=decide (q<=999999999):=by
 unfold pq;rw [Lib.decDigits_length];have h1:=Lib.nDigits_pos q;have h9:=xD q
 have e3:(decide (1<Lib.nDigits q)&&decide ((Lib.decDigits q).head? =some 48))=false:=by
  rw [Bool.and_eq_false_iff];by_cases c:1<Lib.nDigits q
  ·right
   have hq:1<=q:=by
    rcases Nat.eq_zero_or_pos q with rfl|h
    ·rw [Lib.nDigits_small ze]at c;omega
    ·exact h
   obtain⟨x,r,e,hx⟩:=Kz q hq;rw [e];simp only [head?_cons,Option.some.injEq,decide_eq_false_iff_not];intro k;rw [k]at hx;exact hx zo
  ·left;simpa using c
 have e4:(decide (l≠[])&&(decide ((l.map dgB).length<1) || decide (4<(l.map dgB).length)))=false:=by
  rw [length_map]
  cases l with
  |nil=>rfl
  |cons a r=>simp at hn ⊢;omega
 have e9:decide (Lib.nDigits q<=9)=decide (q<=999999999):=decide_eq_decide.2 h9;rw [e3,e4,decide_eq_true (show 1<=Lib.nDigits q from h1),e9];simp
theorem Ha{q:Nat}{l:List Int}(hl:∀y∈l,0<=y/\y<=9)(hn:l.length<=4)(m:Int):qH (Lib.decDigits q++mo l++xw m)=
 if q<=999999999 then some ((jW (q*10 ^ l.length+jv l) (10 ^ l.length)).1,(jW (q*10 ^ l.length+jv l) (10 ^ l.length)).2,Ji m)else none:=by
 have h0:Lib.decDigits q++mo l≠[]:=by
  have k1:=Lib.decDigits_length q;have k2:=Lib.nDigits_pos q;intro h;rw [append_eq_nil_iff]at h;rw [h.1]at k1;simp at k1;omega
 unfold qH;rw [Fy h0 (D8 hl) m];simp only [KE,NZ,GG q l hn,decide_eq_true_eq];have e1:=JE q 0;have e2:=vX l 0 hl;rw [Int.zero_mul,Int.zero_add]at e1 e2;rw [e1,e2];simp
theorem wQ{d:Int}(hd:1<=d):∀(f:Nat) (r:Int) (l:List Int),0<=r->r<d->gG d f r=some l->∀y∈l,0<=y/\y<=9
 |0,r,l,_,_,h=>by
  unfold gG at h
  split at h<;>cases h
  intro y hy;cases hy
 |f+1,r,l,h0,h1,h=>by
  unfold gG at h
  split at h<;>rename_i hc
  ·cases h;intro y hy;cases hy
  ·obtain⟨q,hq,rfl⟩:=Option.map_eq_some_iff.1 h;intro y hy;rcases mem_cons.1 hy with rfl|hy
   ·constructor
    ·exact Int.ediv_nonneg ze ze
    ·have:r*10 / d<10:=Int.ediv_lt_of_lt_mul ze ze;omega
   ·exact wQ hd f _ q (Int.emod_nonneg _ ze) (Int.emod_lt_of_pos _ ze) hq y hy
def EZ(n d m:Int):List UInt8:=match gG d 4 (n % d)with|some l=>Lib.decDigits (n / d).toNat++mo l++xw m|none=>[]
theorem Hd{n d m:Int}{l:List Int}(h1:1<=d)(h2:d<=10000)(h3:0<=n)(h4:n<=1000000000000000)(hf:gG d 4 (n % d)=some l) :
 (qH (Lib.decDigits (n / d).toNat++mo l++xw m)=some (n,d,m))↔dI n d m=true:=by
 have hr0:=Int.emod_nonneg n (show d≠0 by omega);have hr1:=Int.emod_lt_of_pos n (show 0<d by omega);have hq0:0<=n / d:=Int.ediv_nonneg h3 ze;obtain⟨-,hn⟩:=qE h1 4 _ l hr0 hf;rw [Ha (wQ h1 4 _ l hr0 hr1 hf) hn m,<-EY h1 h2 h3 h4];unfold xZ;rw [hf];have e:(((n / d).toNat:Nat):Int)=n / d:=by omega
 rw [e];simp only [Bool.and_eq_true,decide_eq_true_eq]
 have hm:Ji m=m↔2<=m/\m<=4:=by
  unfold Ji
  split
  ·omega
  ·split<;>omega
 constructor
 ·intro h
  split at h<;>rename_i hc
  ·simp only [Option.some.injEq,Prod.mk.injEq]at h;exact⟨by omega,⟨h.1,h.2.1⟩,hm.1 h.2.2⟩
  ·cases h
 ·rintro⟨a,⟨b,c⟩,k⟩;rw [if_pos ze,b,c,hm.2 k]
theorem Hl{n d m:Int}(h1:1<=d)(h2:d<=10000)(h3:0<=n)(h4:n<=1000000000000000)(hf:gG d 4 (n % d)=none):dI n d m=false:=by
 rw [<-EY h1 h2 h3 h4];unfold xZ;rw [hf]
def lI(s:ByteArray)(k:Nat):List UInt8:=s.data.toList.drop k
theorem D9{s:ByteArray}{k:Nat}(h:k<s.size):lI s k=s[k]::lI s (k+1):=by
 unfold lI;have h2:k<s.data.toList.length:=by simpa using h
 rw [drop_eq_getElem_cons h2]
 congr 1
theorem Hy{s:ByteArray}{k:Nat}(h:s.size<=k):lI s k= []:=by
 unfold lI;exact drop_eq_nil_of_le zI
def C8(r:Option Int):Value:=match r with|some x=>.tuple #[.int .i64 x,.bool true]|none=>.tuple #[.int .i64 0,.bool false]
theorem xC:∀(l:List UInt8) (x y:Int),0<=x->gD x l=some y->x<=y/\y<=(x+1)*10 ^ l.length-1
 | [],x,y,h0,h=>by simp [gD]at h;subst h;simp
 |c::r,x,y,h0,h=>by
  simp only [gD]at h
  split at h
  ·rename_i hd
   simp only [nW,Bool.and_eq_true,decide_eq_true_eq]at hd;have ih:=xC r _ y ze h;refine⟨by omega,Int.le_trans ih.2 ?_⟩;have hp:(0:Int)<10 ^ r.length:=Int.pow_pos ze;have e:(x+1)*10 ^ (c::r).length=((x+1)*10)*10 ^ r.length:=by rw [length_cons,Int.pow_succ,Int.mul_comm (10 ^ r.length) 10,Int.mul_assoc]
   rw [e];have:=Int.mul_le_mul_of_nonneg_right (show 10*x+((c.toNat:Int)-48)+1<=(x+1)*10 by omega) (Int.le_of_lt hp);omega
  ·cases h
theorem oO(s:ByteArray)(w:World)(hs:s.size<=9):Calls prog 217 #[.string s] w fun e w'=>e= .returned (C8 (gD 0 s.data.toList))/\w=w':=by
 have h00:s.data.toList=lI s 0:=rfl;rw [h00];clear h00
 go_enter func217,ntmps217
 go_wp2
 go_loop [2,4] (fun v2 v4=>∃k:Nat,∃x:Int,k<=s.size/\v4= .int .i64 k/\v2= .int .i64 x/\0<=x/\x<10 ^ k/\Hid (gD x (lI s k)=gD 0 (lI s 0))) (fun _ v4=>s.size-(intOf v4).toNat)
 case atStart=>exact⟨0,0,Nat.zero_le _,rfl,rfl,by omega,by simp,zh rfl⟩
 case round=>
  obtain⟨k,x,hk,rfl,rfl,hx0,hx1,hg⟩:=hrel
  have hb:(10:Int) ^ k<=1000000000:=by
   have:=Nat.pow_le_pow_right (show 1<=10 by omega) (show k<=9 by omega);have h2:((10 ^ k:Nat):Int)<=((10 ^ 9:Nat):Int):=by exact_mod_cast this
   simpa using h2
  have hx2:x<=1000000000:=by omega
  have HX:=zh hx1;clear hx1 hb;by_cases hk2:k<s.size
  ·have hst:=D9 hk2;cases hD:nW (s[k].toNat:Int)
   ·have HG:Hid (gD 0 (lI s 0)=none):=zh (by rw [<-hg.out,hst];simp only [gD];rw [hD];rfl);clear hst hg
    go_wp2_with (go_at_call 222;(with_reducible refine(iL _ _).mono ?_);rintro e w' ⟨rfl,rfl⟩;simp only [hD])
    go_returns
    exact⟨by rw [HG.out];rfl,rfl⟩
   ·have hd:48<=(s[k].toNat:Int)/\(s[k].toNat:Int)<=57:=by simpa [nW]using hD
    have HG:Hid (gD (10*x+((s[k].toNat:Int)-48)) (lI s (k+1))=gD 0 (lI s 0)):=zh (by rw [<-hg.out,hst];simp only [gD];rw [hD];rfl);clear hst hg;obtain⟨d,hdd⟩:∃d:Int,(s[k].toNat:Int)=d:=⟨_,rfl⟩;rw [hdd]at hd hD HG;obtain⟨hd1,hd2⟩:=hd;have hw:IntKind.u8.wrap (d-48)=d-48:=by simp only [IntKind.wrap_u8];omega
    go_wp2_with (go_at_call 222;(with_reducible refine(iL _ _).mono ?_);rintro e w' ⟨rfl,rfl⟩;simp only [hD,hdd])
    go_round
    case rel=>exact⟨k+1,_,by omega,by go_num,rfl,by omega,by rw [Int.pow_succ];have:=HX.out;omega,HG⟩
    case measure=>simp [intOf];omega
  ·have HG:Hid (gD 0 (lI s 0)=some x):=zh (by rw [<-hg.out,Hy ze];rfl);clear hg;obtain rfl:k=s.size:=by omega
   go_wp2_with fail
   go_returns
   exact⟨by rw [HG.out];rfl,rfl⟩

def tlD:Code->Code
 | .seq _ b=>b
 |c=>c
def mr(r:Option (Int × Int × Int)):Value:=match r with|some t=>.tuple #[.agg #[.int .i64 t.1,.int .i64 t.2.1],.int .i64 t.2.2,.bool true]|none=>.tuple #[.agg #[.int .i64 0,.int .i64 0],.int .i64 0,.bool false]
theorem Gt(Y:World)(bs:Array Obj)(d:Nat)(s:ByteArray)(pos:Nat):(Y.grow bs d).iter s pos=Y.grow (bs.push (.stringIter s pos)) d:=by
 simp [World.iter,World.grow,World.alloc]
theorem EN(Y:World)(bs:Array Obj)(d j:Nat):(Y.grow bs d).heap[Y.heap.size+j]? =bs[j]?:=by
 simp only [World.grow];rw [Array.getElem?_append_right ze]
 congr 1;omega
theorem AJ(Y:World)(bs:Array Obj)(d j:Nat)(s:ByteArray)(pos:Nat):(Y.grow bs d).iterAt (Y.heap.size+j) s pos=Y.grow (bs.setIfInBounds j (.stringIter s pos)) d:=by
 simp only [World.iterAt,World.grow]
 congr 1
 rw [Array.setIfInBounds_append_right ze]
 congr 2;omega
theorem MP{p:Int}{f:Nat}{A B:Int}(h:A % p=0/\B % p=0):iG p (f+1) A B=iG p f (A / p) (B / p):=by rw [iG,if_pos h]
theorem mU{p:Int}{f:Nat}{A B:Int}(h:¬(A % p=0/\B % p=0)):iG p f A B=(A,B):=by
 cases f with
 |zero=>rfl
 |succ f=>rw [iG,if_neg h]
def Cf(p:Int)(f0:Nat)(A0 B0:Int)(f:Nat)(A B:Int):Prop:=iG p f A B=iG p f0 A0 B0/\B<p ^ f
theorem Cf.next{p:Int}{f0:Nat}{A0 B0:Int}{f:Nat}{A B:Int}(hp:2<=p)(h:Cf p f0 A0 B0 f A B)(hB:1<=B)(hm:A % p=0/\B % p=0):∃g,Cf p f0 A0 B0 g (A / p) (B / p)/\1<=B / p/\B / p<B:=by
 obtain⟨h1,h2⟩:=h
 cases f with
 |zero=>simp at h2;omega
 |succ g=>
  have e:=Int.mul_ediv_add_emod B p;rw [hm.2,Int.add_zero]at e
  have hq:1<=B / p:=by
   rcases Int.lt_or_le (B / p) 1 with h|h
   ·have:p*(B / p)<=p*0:=Int.mul_le_mul_of_nonneg_left ze ze;omega
   ·exact h
  refine⟨g,⟨by rw [<-h1,MP hm], ?_⟩,hq, ?_⟩
  ·rw [Int.pow_succ,<-e,Int.mul_comm _ p]at h2;exact Int.lt_of_mul_lt_mul_left h2 ze
  ·have:2*(B / p)<=p*(B / p):=Int.mul_le_mul_of_nonneg_right hp ze;omega
theorem EJ(w:World):(Instr.index 253 (.agg #[.int .i64 2,.int .i64 5]) (.int .i64 0)).run prog w= .ok (.int .i64 2) w:=by simp [Instr.index,go_sem]
theorem Ba(w:World):(Instr.index 253 (.agg #[.int .i64 2,.int .i64 5]) (.int .i64 1)).run prog w= .ok (.int .i64 5) w:=by simp [Instr.index,go_sem]
def Oc(w0 wr:World):Nat:=match wr.cell? ⟨w0.heap.size,1,none⟩with|some (.int _ z)=>z.toNat|_=>0
theorem PQ(b:ByteArray)(x p m:Int)(w:World)(bs:Array Obj)(d:Nat)(hb:b.size<=4)(hasc:∀i (h:i<b.size),(b[i]'h).toNat<128)(hx0:0<=x)(hx1:x<=1000000000)(hp0:0<=p)(hp1:p<=10000)
 (u0 u1 u4 u5 u6 u8 u10 u12 u13 u14 u15 u16 u17 u18 u19 u20 u21 u22 u23 u24 u25 u26 u27 u28 u29 u30 u31 u32 u33 u34 u35 u36 u37 u38 u39 u40 u41 u42 u43 u44 u45 u46 u47 u48 u49 u50 u51 u52 u53 u54 u55 u56 u57 u58 u59 u60 u61 u62 u63 u64 u65 u66 u67 u68 u69 u70 u71 u72 u73 u74 u75 u76 u77 u78 u79 u80 u81 u82 u83 u84 u85 u86 u87 u88 u89 u90 u91 u92 u93 u94 u95 u96 u97 u98 u99 u100 u101 u102 u103 u104 u105 u106 u107 u108 u109 u110 u111 u112 u113 u114 u115 u116 u117 u118 u119 u120 u121 u122 u123 u124 u125 u126 u127 u128 u129 u130 u131 u132 u133 u134 u135 u136 u137 u138 u139 u140 u141:Value) :
 Code.wp prog (tlD (tlD (tlD (tlD (tlD (tlD (tlD (tlD (f212.body.getD .skip))))))))) (bodyPost prog f212 (fun e w'=>e= .returned (mr (some ((jW (x*10 ^ b.size+p) (10 ^ b.size)).1,(jW (x*10 ^ b.size+p) (10 ^ b.size)).2,m)))/\w.Grows w')) {tmps:=#[u0,u1,.pointer (some ⟨w.heap.size,0,none⟩),.int .i64 m,u4,u5,u6,.string b,u8,.int .i64 x,u10,.int .i64 p,u12,u13,u14,u15,u16,u17,u18,u19,u20,u21,u22,u23,u24,u25,u26,u27,u28,u29,u30,u31,u32,u33,u34,u35,u36,u37,u38,u39,u40,u41,u42,u43,u44,u45,u46,u47,u48,u49,u50,u51,u52,u53,u54,u55,u56,u57,u58,u59,u60,u61,u62,u63,u64,u65,u66,u67,u68,u69,u70,u71,u72,u73,u74,u75,u76,u77,u78,u79,u80,u81,u82,u83,u84,u85,u86,u87,u88,u89,u90,u91,u92,u93,u94,u95,u96,u97,u98,u99,u100,u101,u102,u103,u104,u105,u106,u107,u108,u109,u110,u111,u112,u113,u114,u115,u116,u117,u118,u119,u120,u121,u122,u123,u124,u125,u126,u127,u128,u129,u130,u131,u132,u133,u134,u135,u136,u137,u138,u139,u140,u141],defers:=[]} ((w.alloc (.cells #[.int .i64 0,.int .i64 0] 23)).grow bs d):=by
 conv=>arg 2;whnf
 have HASC:=zh hasc;clear hasc
 go_wp2_with fail
 go_loopw [9] (fun v9 wr=>∃k:Nat,∃X E:Int,∃bs' d',k<=b.size/\v9= .int .i64 X/\wr=((w.alloc (.cells #[.int .i64 0,.int .i64 E] 23)).grow bs' d')/\bs'[bs.size]? =some (.stringIter b k)/\Hid (X=x*10 ^ k/\E=10 ^ k)/\0<=X/\X<=10000000000000/\1<=E/\E<=10000) (fun _ wr=>b.size-wr.iterPos (w.heap.size+1+bs.size))
 case atStart=>exact⟨0,x,1,_,_,Nat.zero_le _,rfl,Gt _ _ _ _ _,by simp,zh zg,by omega,by omega,by omega,by omega⟩
 case round=>
  obtain⟨k,X,E,bs2,d2,hk,rfl,rfl,hit,HXE,hX0,hX1,hE0,hE1⟩:=hrel
  have hkk:((w.alloc (.cells #[.int .i64 0,.int .i64 E] 23)).grow bs2 d2).heap[w.heap.size+1+bs.size]? =some (.stringIter b k):=by
   have:=EN (w.alloc (.cells #[.int .i64 0,.int .i64 E] 23)) bs2 d2 bs.size;rw [World.size_alloc]at this;rw [this];exact hit
  by_cases hlt:k<b.size
  ·have hnext:∀ty,(Instr.next (.pointer (some ⟨w.heap.size+1+bs.size,0,none⟩)) true ty).run prog ((w.alloc (.cells #[.int .i64 0,.int .i64 E] 23)).grow bs2 d2)=_:=fun ty=>Lib.run_next_ascii_at _ _ b k ty hkk hlt (HASC.out k hlt);have hia:=AJ (w.alloc (.cells #[.int .i64 0,.int .i64 E] 23)) bs2 d2 bs.size b (k+1);rw [World.size_alloc]at hia;rw [hia]at hnext;have hbl:bs.size<bs2.size:=(Array.getElem?_eq_some_iff.1 hit).1;have hit2:(bs2.setIfInBounds bs.size (.stringIter b (k+1)))[bs.size]? =some (.stringIter b (k+1)):=by simp [hbl]
   have hpos:((w.alloc (.cells #[.int .i64 0,.int .i64 E] 23)).grow bs2 d2).iterPos (w.heap.size+1+bs.size)=k:=by simp [World.iterPos,hkk]
   generalize bs2.setIfInBounds bs.size (.stringIter b (k+1))=bs3 at hnext hit2;have hk3:k<=3:=by omega
   have hE3:E<=1000:=by
    have:=HXE.out.2;obtain h|h|h|h:k=0\/k=1\/k=2\/k=3:=by omega
    all_goals rw [this,h];decide
   have hX3:X<=1000000000000:=by
    have e:=HXE.out.1;rw [<-HXE.out.2]at e;have h1:x*E<=1000000000*E:=Int.mul_le_mul_of_nonneg_right hx1 ze;omega
   have w6:IntKind.i64.wrap (10*X)=10*X:=IntWalk.i64_in _ ze;have w7:IntKind.i64.wrap (10*E)=10*E:=IntWalk.i64_in _ ze;have HIT:=zh (And.intro hit2 (And.intro hkk hpos));clear hit hit2 hkk hpos hia
   go_wp2_with fail
   clear hnext
   go_region
   go_wp2_with fail
   go_roundw
   case rel=>exact⟨k+1,_,_,_,_,by omega,rfl,rfl,HIT.out.1,zh ⟨by rw [Int.pow_succ,<-Int.mul_assoc,<-HXE.out.1,Int.mul_comm],by rw [Int.pow_succ,<-HXE.out.2,Int.mul_comm]⟩,by omega,by omega,by omega,by omega⟩
   case measure=>
    have h2:∀dd,((w.alloc (.cells #[.int .i64 0,.int .i64 (10*E)] 23)).grow bs3 dd).heap[w.heap.size+1+bs.size]? =some (.stringIter b (k+1)):=fun dd=>by
     have:=EN (w.alloc (.cells #[.int .i64 0,.int .i64 (10*E)] 23)) bs3 dd bs.size;rw [World.size_alloc,HIT.out.1]at this;exact this
    have h1:=HIT.out.2.2;rw [h1];simp only [World.iterPos,h2];omega
  ·have hnext:∀ty,(Instr.next (.pointer (some ⟨w.heap.size+1+bs.size,0,none⟩)) true ty).run prog ((w.alloc (.cells #[.int .i64 0,.int .i64 E] 23)).grow bs2 d2)=_:=fun ty=>Lib.run_next_end_at _ _ b k ty hkk hlt;obtain rfl:k=b.size:=by omega
   have hN:X+p<=10000000010000:=by omega
   have HXP:=zh (show X+p=x*10 ^ b.size+p by rw [HXE.out.1]);have HE:=zh HXE.out.2;have h214:E<2 ^ 14:=by rw [show(2:Int) ^ 14=16384 by decide];omega
   clear hkk hit HXE hlt
   go_wp2_with fail
   clear hnext
   go_loopw [114] (fun v114 wr=>∃A B:Int,∃bs' d',wr=((w.alloc (.cells #[.int .i64 A,.int .i64 B] 23)).grow bs' d')/\0<=A/\A<=100000000000000/\1<=B/\B<=10000/\
    ((v114= .int .i64 0/\A=X+p/\B=E)\/(v114= .int .i64 1/\Hid ((A,B)=iG 2 14 (X+p) E))\/(v114= .int .i64 2/\Hid ((A,B)=jW (X+p) E)))) (fun v114 _=>2-(intOf v114).toNat)
   case atStart=>exact⟨_,_,_,_,rfl,by omega,by omega,by omega,by omega,.inl ⟨rfl,rfl,rfl⟩⟩
   case round=>
    obtain⟨A0,B0,bs4,d4,rfl,hA00,hA01,hB00,hB01,hcase⟩:=hrel;rcases hcase with ⟨rfl,rfl,rfl⟩|⟨rfl,H1⟩|⟨rfl,H2⟩
    ·have idx2:=EJ;have idx5:=Ba
     go_wp2_with fail
     clear idx2 idx5
     go_loopw [117] (fun _ wr=>∃f:Nat,∃A B:Int,∃bs' d',wr=((w.alloc (.cells #[.int .i64 A,.int .i64 B] 23)).grow bs' d')/\Hid (Cf 2 14 (X+p) B0 f A B)/\0<=A/\A<=100000000000000/\1<=B/\B<=10000) (fun _ wr=>Oc w wr)
     case atStart=>exact⟨14,_,_,_,_,rfl,zh ⟨rfl,h214⟩,by omega,by omega,by omega,by omega⟩
     case round=>
      obtain⟨f,A,B,bs3,d3,rfl,HRD,hA0,hA1,hB0,hB1⟩:=hrel;have e0:=Int.tmod_eq_emod_of_nonneg (b:=2) (show 0<=A from hA0);have e1:=Int.tmod_eq_emod_of_nonneg (b:=2) (show 0<=B by omega);have e2:=Int.tdiv_eq_ediv_of_nonneg (b:=2) (show 0<=A from hA0);have e3:=Int.tdiv_eq_ediv_of_nonneg (b:=2) (show 0<=B by omega);have E:=zh (And.intro e0 (And.intro e1 (And.intro e2 e3)));by_cases ha:A % 2=0
      ·by_cases hb2:B % 2=0
       ·obtain⟨g,hg1,hg2,hg3⟩:=HRD.out.next ze hB0 ⟨ha,hb2⟩;have HG:=zh hg1;have hq0:0<=A / 2:=by omega
        have hq1:A / 2<=100000000000000:=by omega
        have m0:(A.tmod 2==0)=true:=by rw [e0];simpa using ha
        have m1:(B.tmod 2==0)=true:=by rw [e1];simpa using hb2
        have w2:IntKind.i64.wrap (A.tdiv 2)=A / 2:=by rw [e2];exact IntWalk.i64_in _ ze
        have w3:IntKind.i64.wrap (B.tdiv 2)=B / 2:=by rw [e3];exact IntWalk.i64_in _ ze
        have w4:IntKind.i64.wrap (A.tmod 2)=0:=by rw [e0,ha];rfl
        have w5:IntKind.i64.wrap (B.tmod 2)=0:=by rw [e1,hb2];rfl
        clear hg1;clear e0 e1 e2 e3
        go_wp2_with fail
        refine TG.begin 11 (fun w'=>w'.cell? ⟨w.heap.size,1,none⟩=some (.int .i64 B)) zf zf zF (fun hS=>?_);refine TG.tkB 0 hS ?_;refine TG.tkB 2 hS ?_;refine TG.tkB 4 hS ?_;refine TG.tkB 6 hS ?_;refine TG.tkB 5 hS ?_;refine TG.tkB 7 hS ?_;refine TG.one (i:=1) zf rfl (fun K1 hK1=>?_)
        go_simp
        refine TG.go hK1 ?_ (fun hS=>?_)
        focus
         (try dsimp only)
         simp [go_sem]
        clear hK1 K1
        (try simp only [nS])
        refine TG.tkB 3 hS ?_;refine TG.tkB 8 hS ?_;refine TG.one (i:=9) zf rfl (fun K1 hK1=>?_)
        go_simp
        refine TG.go hK1 ?_ (fun hS=>?_)
        focus
         (try dsimp only)
         simp [go_sem]
        clear hK1 K1
        (try simp only [nS])
        refine TG.tkB 10 hS ?_;refine TG.one (i:=11) zf rfl (fun K1 hK1=>?_)
        go_simp
        refine hK1 _ _ (fun h=>absurd rfl h) (TG.done zf ?_);clear hK1 K1 hS
        (try simp only [nS])
        go_wp2_with fail
        go_roundw
        case rel=>exact⟨g,_,_,_,_,rfl,HG,by omega,by omega,by omega,by omega⟩
        case measure=>simp [Oc,go_sem];omega
       ·have HX:=zh (mU (p:=2) (f:=f) (A:=A) (B:=B) (fun h=>hb2 h.2));have m0:(A.tmod 2==0)=true:=by rw [e0];simpa using ha
        have m1:(B.tmod 2==0)=false:=by rw [e1];simpa using hb2
        have w4:IntKind.i64.wrap (A.tmod 2)=0:=by rw [e0,ha];rfl
        have w5:IntKind.i64.wrap (B.tmod 2)=B.tmod 2:=IntWalk.i64_in _ (by rw [e1];omega);have hbd:1<=B.tmod 2:=by rw [e1];omega
        clear e0 e1 e2 e3;have hb3:(B % 2==0)=false:=by simpa using hb2
        go_wp2_with fail
        go_roundw
        case rel=>exact⟨_,_,_,_,rfl,by omega,by omega,by omega,by omega,.inr (.inl ⟨rfl,zh (by rw [<-HRD.out.1,HX.out])⟩)⟩
        case measure=>simp [intOf]
      ·have HX:=zh (mU (p:=2) (f:=f) (A:=A) (B:=B) (fun h=>ha h.1));have m0:(A.tmod 2==0)=false:=by rw [e0];simpa using ha
       have w4:IntKind.i64.wrap (A.tmod 2)=A.tmod 2:=IntWalk.i64_in _ (by rw [e0];omega);have hbd:1<=A.tmod 2:=by rw [e0];omega
       clear e0 e1 e2 e3;have ha3:(A % 2==0)=false:=by simpa using ha
       go_wp2_with fail
       go_roundw
       case rel=>exact⟨_,_,_,_,rfl,by omega,by omega,by omega,by omega,.inr (.inl ⟨rfl,zh (by rw [<-HRD.out.1,HX.out])⟩)⟩
       case measure=>simp [intOf]
    ·have idx2:=EJ;have idx5:=Ba
     go_wp2_with fail
     clear idx2 idx5
     go_loopw [117] (fun _ wr=>∃f:Nat,∃A B:Int,∃bs' d',wr=((w.alloc (.cells #[.int .i64 A,.int .i64 B] 23)).grow bs' d')/\Hid (Cf 5 6 A0 B0 f A B)/\0<=A/\A<=100000000000000/\1<=B/\B<=10000) (fun _ wr=>Oc w wr)
     case atStart=>exact⟨6,_,_,_,_,rfl,zh ⟨rfl,(by rw [show(5:Int) ^ 6=15625 by decide];omega)⟩,by omega,by omega,by omega,by omega⟩
     case round=>
      obtain⟨f,A,B,bs3,d3,rfl,HRD,hA0,hA1,hB0,hB1⟩:=hrel;have e0:=Int.tmod_eq_emod_of_nonneg (b:=5) (show 0<=A from hA0);have e1:=Int.tmod_eq_emod_of_nonneg (b:=5) (show 0<=B by omega);have e2:=Int.tdiv_eq_ediv_of_nonneg (b:=5) (show 0<=A from hA0);have e3:=Int.tdiv_eq_ediv_of_nonneg (b:=5) (show 0<=B by omega);have E:=zh (And.intro e0 (And.intro e1 (And.intro e2 e3)));by_cases ha:A % 5=0
      ·by_cases hb2:B % 5=0
       ·obtain⟨g,hg1,hg2,hg3⟩:=HRD.out.next ze hB0 ⟨ha,hb2⟩;have HG:=zh hg1;have hq0:0<=A / 5:=by omega
        have hq1:A / 5<=100000000000000:=by omega
        have m0:(A.tmod 5==0)=true:=by rw [e0];simpa using ha
        have m1:(B.tmod 5==0)=true:=by rw [e1];simpa using hb2
        have w2:IntKind.i64.wrap (A.tdiv 5)=A / 5:=by rw [e2];exact IntWalk.i64_in _ ze
        have w3:IntKind.i64.wrap (B.tdiv 5)=B / 5:=by rw [e3];exact IntWalk.i64_in _ ze
        have w4:IntKind.i64.wrap (A.tmod 5)=0:=by rw [e0,ha];rfl
        have w5:IntKind.i64.wrap (B.tmod 5)=0:=by rw [e1,hb2];rfl
        clear hg1;clear e0 e1 e2 e3
        go_wp2_with fail
        refine TG.begin 11 (fun w'=>w'.cell? ⟨w.heap.size,1,none⟩=some (.int .i64 B)) zf zf zF (fun hS=>?_);refine TG.tkB 0 hS ?_;refine TG.tkB 2 hS ?_;refine TG.tkB 4 hS ?_;refine TG.tkB 6 hS ?_;refine TG.tkB 5 hS ?_;refine TG.tkB 7 hS ?_;refine TG.one (i:=1) zf rfl (fun K1 hK1=>?_)
        go_simp
        refine TG.go hK1 ?_ (fun hS=>?_)
        focus
         (try dsimp only)
         simp [go_sem]
        clear hK1 K1
        (try simp only [nS])
        refine TG.tkB 3 hS ?_;refine TG.tkB 8 hS ?_;refine TG.one (i:=9) zf rfl (fun K1 hK1=>?_)
        go_simp
        refine TG.go hK1 ?_ (fun hS=>?_)
        focus
         (try dsimp only)
         simp [go_sem]
        clear hK1 K1
        (try simp only [nS])
        refine TG.tkB 10 hS ?_;refine TG.one (i:=11) zf rfl (fun K1 hK1=>?_)
        go_simp
        refine hK1 _ _ (fun h=>absurd rfl h) (TG.done zf ?_);clear hK1 K1 hS
        (try simp only [nS])
        go_wp2_with fail
        go_roundw
        case rel=>exact⟨g,_,_,_,_,rfl,HG,by omega,by omega,by omega,by omega⟩
        case measure=>simp [Oc,go_sem];omega
       ·have HX:=zh (mU (p:=5) (f:=f) (A:=A) (B:=B) (fun h=>hb2 h.2));have m0:(A.tmod 5==0)=true:=by rw [e0];simpa using ha
        have m1:(B.tmod 5==0)=false:=by rw [e1];simpa using hb2
        have w4:IntKind.i64.wrap (A.tmod 5)=0:=by rw [e0,ha];rfl
        have w5:IntKind.i64.wrap (B.tmod 5)=B.tmod 5:=IntWalk.i64_in _ (by rw [e1];omega);have hbd:1<=B.tmod 5:=by rw [e1];omega
        clear e0 e1 e2 e3;have hb3:(B % 5==0)=false:=by simpa using hb2
        go_wp2_with fail
        go_roundw
        case rel=>exact⟨_,_,_,_,rfl,by omega,by omega,by omega,by omega,.inr (.inr ⟨rfl,zh (by unfold jW;rw [<-H1.out,<-HX.out];exact HRD.out.1)⟩)⟩
        case measure=>simp [intOf]
      ·have HX:=zh (mU (p:=5) (f:=f) (A:=A) (B:=B) (fun h=>ha h.1));have m0:(A.tmod 5==0)=false:=by rw [e0];simpa using ha
       have w4:IntKind.i64.wrap (A.tmod 5)=A.tmod 5:=IntWalk.i64_in _ (by rw [e0];omega);have hbd:1<=A.tmod 5:=by rw [e0];omega
       clear e0 e1 e2 e3;have ha3:(A % 5==0)=false:=by simpa using ha
       go_wp2_with fail
       go_roundw
       case rel=>exact⟨_,_,_,_,rfl,by omega,by omega,by omega,by omega,.inr (.inr ⟨rfl,zh (by unfold jW;rw [<-H1.out,<-HX.out];exact HRD.out.1)⟩)⟩
       case measure=>simp [intOf]
    ·go_wp2_with fail
     go_returns
     refine⟨?_,.of_below af⟩;have e:=H2.out;rw [HXP.out,HE.out]at e;rw [<-e];rfl

theorem tJ:∀(l:List UInt8) (x y:Int),gD x l=some y->∀c∈l,c.toNat<128
 | [],_,_,_,c,hc=>by cases hc
 |e::r,x,y,h,c,hc=>by
  simp only [gD]at h
  split at h
  ·rename_i hd
   rcases mem_cons.1 hc with rfl|hc
   ·simp only [nW,Bool.and_eq_true,decide_eq_true_eq]at hd;omega
   ·exact tJ r _ y h c hc
  ·cases h
def G9(a b:ByteArray)(m:Int):Option (Int × Int × Int):=(gD 0 a.data.toList).bind fun x=>(gD 0 b.data.toList).map fun p=>((jW (x*10 ^ b.size+p) (10 ^ b.size)).1,(jW (x*10 ^ b.size+p) (10 ^ b.size)).2,m)
theorem xW(a b:ByteArray)(m:Int)(w:World)(bs:Array Obj)(d:Nat)(ha:a.size<=9)(hb:b.size<=4)
 (u0 u1 u4 u5 u8 u9 u10 u11 u12 u13 u14 u15 u16 u17 u18 u19 u20 u21 u22 u23 u24 u25 u26 u27 u28 u29 u30 u31 u32 u33 u34 u35 u36 u37 u38 u39 u40 u41 u42 u43 u44 u45 u46 u47 u48 u49 u50 u51 u52 u53 u54 u55 u56 u57 u58 u59 u60 u61 u62 u63 u64 u65 u66 u67 u68 u69 u70 u71 u72 u73 u74 u75 u76 u77 u78 u79 u80 u81 u82 u83 u84 u85 u86 u87 u88 u89 u90 u91 u92 u93 u94 u95 u96 u97 u98 u99 u100 u101 u102 u103 u104 u105 u106 u107 u108 u109 u110 u111 u112 u113 u114 u115 u116 u117 u118 u119 u120 u121 u122 u123 u124 u125 u126 u127 u128 u129 u130 u131 u132 u133 u134 u135 u136 u137 u138 u139 u140 u141:Value) :
 Code.wp prog (tlD (tlD (tlD (tlD (tlD (f212.body.getD .skip)))))) (bodyPost prog f212 (fun e w'=>e= .returned (mr (G9 a b m))/\w.Grows w')) {tmps:=#[u0,u1,.pointer (some ⟨w.heap.size,0,none⟩),.int .i64 m,u4,u5,.string a,.string b,u8,u9,u10,u11,u12,u13,u14,u15,u16,u17,u18,u19,u20,u21,u22,u23,u24,u25,u26,u27,u28,u29,u30,u31,u32,u33,u34,u35,u36,u37,u38,u39,u40,u41,u42,u43,u44,u45,u46,u47,u48,u49,u50,u51,u52,u53,u54,u55,u56,u57,u58,u59,u60,u61,u62,u63,u64,u65,u66,u67,u68,u69,u70,u71,u72,u73,u74,u75,u76,u77,u78,u79,u80,u81,u82,u83,u84,u85,u86,u87,u88,u89,u90,u91,u92,u93,u94,u95,u96,u97,u98,u99,u100,u101,u102,u103,u104,u105,u106,u107,u108,u109,u110,u111,u112,u113,u114,u115,u116,u117,u118,u119,u120,u121,u122,u123,u124,u125,u126,u127,u128,u129,u130,u131,u132,u133,u134,u135,u136,u137,u138,u139,u140,u141],defers:=[]} ((w.alloc (.cells #[.int .i64 0,.int .i64 0] 23)).grow bs d):=by
 have HA:Hid _:=zh (fun w=>oO a w ze);have HB:Hid _:=zh (fun w=>oO b w ze);unfold G9
 cases hna:gD 0 a.data.toList with
 |none=>
  rw [hna]at HA;simp only [C8,Option.bind_none]at HA ⊢;clear hna
  cases hnb:gD 0 b.data.toList with
  |none=>
   rw [hnb]at HB;simp only [C8]at HB;clear hnb
   conv=>arg 2;whnf
   go_wp2_with ((go_at_call 217;first|(with_reducible refine(HA.out _).mono ?_)|(with_reducible refine(HB.out _).mono ?_));rintro e w' ⟨rfl,rfl⟩)
   go_returns
   exact⟨rfl,.of_below af⟩
  |some p=>
   rw [hnb]at HB;simp only [C8]at HB;clear hnb
   conv=>arg 2;whnf
   go_wp2_with ((go_at_call 217;first|(with_reducible refine(HA.out _).mono ?_)|(with_reducible refine(HB.out _).mono ?_));rintro e w' ⟨rfl,rfl⟩)
   go_returns
   exact⟨rfl,.of_below af⟩
 |some x=>
  have bx:=xC _ 0 x ze hna;rw [hna]at HA;simp only [C8,Option.bind_some]at HA ⊢;clear hna
  cases hnb:gD 0 b.data.toList with
  |none=>
   rw [hnb]at HB;simp only [C8,Option.map_none]at HB ⊢;clear hnb
   conv=>arg 2;whnf
   go_wp2_with ((go_at_call 217;first|(with_reducible refine(HA.out _).mono ?_)|(with_reducible refine(HB.out _).mono ?_));rintro e w' ⟨rfl,rfl⟩)
   go_returns
   exact⟨rfl,.of_below af⟩
  |some p=>
   have bp:=xC _ 0 p ze hnb;have hasc:=tJ _ _ _ hnb
   have hx:x<=1000000000:=by
    have h1:a.data.toList.length=a.size:=by simp
    rw [h1]at bx;have h2:=Nat.pow_le_pow_right (show 1<=10 by omega) ha;have h3:((10 ^ a.size:Nat):Int)<=((10 ^ 9:Nat):Int):=by exact_mod_cast h2
    simp at h3;omega
   have hp:p<=10000:=by
    have h1:b.data.toList.length=b.size:=by simp
    rw [h1]at bp;have h2:=Nat.pow_le_pow_right (show 1<=10 by omega) hb;have h3:((10 ^ b.size:Nat):Int)<=((10 ^ 4:Nat):Int):=by exact_mod_cast h2
    simp at h3;omega
   have hx0:=bx.1;have hp0:=bp.1;rw [hnb]at HB;simp only [C8,Option.map_some]at HB ⊢;clear hnb bx bp
   have hasc2:∀i (h:i<b.size),(b[i]'h).toNat<128:=fun i h=>hasc _ (by
    have:b[i]'h=b.data.toList[i]' zI:=by simp;rfl
    rw [this];exact getElem_mem _)
   have HH:=zh (And.intro hasc2 (And.intro hx (And.intro hp (And.intro hx0 hp0))));clear hasc hasc2 hx hp hx0 hp0
   conv=>arg 2;whnf
   apply wp_seq_k;intro K1 hK1;have HK1:=zh hK1;clear hK1
   go_wp2_with ((go_at_call 217;first|(with_reducible refine(HA.out _).mono ?_)|(with_reducible refine(HB.out _).mono ?_));rintro e w' ⟨rfl,rfl⟩)
   refine HK1.out _ _ ?_;clear HK1 K1;apply wp_seq_k;intro K2 hK2;have HK2:=zh hK2;clear hK2
   go_wp2_with ((go_at_call 217;first|(with_reducible refine(HA.out _).mono ?_)|(with_reducible refine(HB.out _).mono ?_));rintro e w' ⟨rfl,rfl⟩)
   refine HK2.out _ _ ?_;clear HK2 K2;apply wp_seq_k;intro K3 hK3;have HK3:=zh hK3;clear hK3
   go_wp2_with ((go_at_call 217;first|(with_reducible refine(HA.out _).mono ?_)|(with_reducible refine(HB.out _).mono ?_));rintro e w' ⟨rfl,rfl⟩)
   refine HK3.out _ _ ?_;exact PQ b x p m w bs _ hb HH.out.1 HH.out.2.2.2.1 HH.out.2.1 HH.out.2.2.2.2 HH.out.2.2.1 _ _ _ _ _ _ _ _ _ _ _ _ _ _ _ _ _ _ _ _ _ _ _ _ _ _ _ _ _ _ _ _ _ _ _ _ _ _ _ _ _ _ _ _ _ _ _ _ _ _ _ _ _ _ _ _ _ _ _ _ _ _ _ _ _ _ _ _ _ _ _ _ _ _ _ _ _ _ _ _ _ _ _ _ _ _ _ _ _ _ _ _ _ _ _ _ _ _ _ _ _ _ _ _ _ _ _ _ _ _ _ _ _ _ _ _ _ _ _ _ _ _ _ _ _ _ _ _ _ _ _ _ _ _ _ _ _
open Go.RowKit Go.ChangeShapes Go.WideShapes Go.Deep
section
variable {H : Type} {enc : TypeId × Value -> H} {P : Program} {w : World}
def fits(P:Program)(t:TypeId)(d:DataW H):Prop:=∀n∈d.weights P t,n<=140737488351232

theorem E8(b off i:Nat):(⟨b,off,none⟩:Addr).add i=⟨b,off+i,none⟩:=by unfold Addr.add;split<;>simp_all
theorem E5{w:World}{b o:Nat}{v:Value}(h:w.cell? ⟨b,o,none⟩=some v):b<w.heap.size:=by
 rcases Nat.lt_or_ge b w.heap.size with h1|h1
 ·exact h1
 ·simp [World.cell?,Array.getElem?_eq_none h1]at h
theorem wH{n:Int}(h:(Lit.int .i64 n).wf=true):I64 n:=bounds_i64 h
theorem ay.of_cells{a:Option Addr}{len cap:Nat}{zs:List Int}(hl:len<=cap)(hz:zs.length=cap)(hw:∀n∈zs,(Lit.int .i64 n).wf=true)(hb:len<=140737488355328)(ha:a=none->len=0)
 (hc:∀x,a=some x->∀i,i<cap->w.cell? (x.add i)=some (.int .i64 (zs.getD i 0))):ay w (.slice a len cap) (zs.take len):=by
 have hlen:(zs.take len).length=len:=by rw [length_take];omega
 refine⟨by omega,fun z hz2=>wH (hw z (mem_of_mem_take hz2)),a,cap,by rw [hlen], ?_⟩;rw [hlen];by_cases h0:len=0
 ·exact .inl h0
 ·cases a with
  |none=>exact .inl (ha rfl)
  |some x=>
   obtain⟨b,off,spot⟩:=x;have h1:=hc _ rfl 0 ze;have hspot:spot=none:=by simpa [Addr.add]using World.cell?_spot h1
   subst hspot
   have h2:∀i,i<cap->w.cell? ⟨b,off+i,none⟩=some (.int .i64 (zs.getD i 0)):=fun i hi=>by
    rw [<-E8];exact hc _ rfl i hi
   refine .inr ⟨b,off,rfl,E5 (h2 0 ze),fun i hi=>?_⟩;rw [h2 i ze];simp [getD_eq_getElem?_getD,hi]
theorem ay.of_trod{t e:TypeId}{fuel:Nat}{v:Value}{x:DataW H × List MemPlace}(ht:P.underlying t=some (.slice e))(he:P.underlying e=some (.int .i64))(hc:P.cellsOf e=1)(hb:P.bytesOf e=8)
 (h:DataW.trod enc P w 0 (fun _=>true) true fuel t [v]=some x) (hf:fits P t x.1):∃zs,ay w v zs:=by
 rcases open_ints ht he hc h with ⟨hcs,_⟩|⟨a,l,c,zs,hcs,_,hl,hm,hz,hx,hcell,hwz⟩
 ·simp at hcs;subst hcs;exact⟨[],by simp,by simp,none,0,rfl,.inl rfl⟩
 ·simp at hcs;subst hcs;simp only [if_true]at hz
  have h8:l<=140737488355328:=by
   have h9:=hf ((l+(c-l))*8) (by rw [hx];simp [DataW.weights,ht,lits,hb,hz,Nat.min_eq_left hl]);omega
  exact⟨zs.take l,ay.of_cells hl hz hwz h8 (fun e=>by cases e) fun x' hx' i hi=>by cases hx';exact hcell i ze⟩
end
theorem c3:(prog).cellsOf 3=1:=by kernel_rfl
theorem c22:(prog).cellsOf 24=1:=by kernel_rfl
theorem b3:(prog).bytesOf 3=8:=by kernel_rfl
theorem b22:(prog).bytesOf 24=24:=by kernel_rfl
theorem gN{H:Type}{P:Program}{t:TypeId}{fs:Array Field}{l:List (DataW H)}{i:Nat}{f:Field}{d:DataW H}(ht:P.underlying t=some (.struct fs))(h:fits P t (.agg l))(hf:fs[i]? =some f)(hd:l[i]? =some d):fits P f.type d:=by
 intro n hn;refine h n ?_;simp only [DataW.weights,ht];exact DataW.weights_mem_each (j:=i) (by simp [hf]) hd n hn
theorem eP{H:Type}{enc:TypeId × Value->H}{w:World}{fuel:Nat}{v:Value}{x:DataW H × List MemPlace}(h:DataW.trod enc prog w 0 (fun _=>true) true fuel 3 [v]=some x):∃n,v= .int .i64 n/\I64 n:=by
 obtain⟨n,hcs,_,hw⟩:=DataW.trod_int underlying3 h;exact⟨n,by simpa using hcs,wH hw⟩
end Go.Proofs.YtlheailebbngiaaGreatDoor
