import Derived.Test.YtlheailebbngiaaGreatDoorRWord
import Derived.Test.YtlheailebbngiaaGreatDoorRFrP
import Derived.Lib.IndexMore
import Derived.ProofKit
import Derived.SizedLaws
set_option linter.all false
set_option maxHeartbeats 16000000
set_option maxRecDepth 1000000
namespace Go.Proofs.YtlheailebbngiaaGreatDoor
open Tryz List
open Go.RowKit
theorem fw(c:Int)(w:World):Calls prog 218 #[.int .u8 c] w fun e w'=>e= .returned (.bool (uA c))/\w=w':=by
 by_cases c1:97<=c
 ·by_cases c2:c<=122
  ·go_enter func218,ntmps218
   go_wp2
   go_returns
   exact⟨au (by simp [uA,c1,c2]),rfl⟩
  ·go_enter func218,ntmps218
   exact MH
 ·go_enter func218,ntmps218
  exact MH
theorem iN(c:Int)(w:World):Calls prog 222 #[.int .u8 c] w fun e w'=>e= .returned (.bool (oD c))/\w=w':=by
 by_cases c1:48<=c
 ·by_cases c2:c<=57
  ·go_enter func222,ntmps222
   go_wp2
   go_returns
   exact⟨au (by simp [oD,c1,c2]),rfl⟩
  ·go_enter func222,ntmps222
   exact MG
 ·go_enter func222,ntmps222
  exact MG
def yO(c:Int):Bool:=uA c || (oD c || decide (c=95))
theorem iT(c:Int)(w:World):Calls prog 219 #[.int .u8 c] w fun e w'=>e= .returned (.bool (yO c))/\w=w':=by
 cases hL:uA c
 ·cases hD:oD c
  ·by_cases hU:c=95
   ·subst hU
    go_enter func219,ntmps219
    go_wp2_with ((first|(go_at_call 218;(with_reducible refine(fw _ _).mono ?_);rintro e w' ⟨rfl,rfl⟩;simp only [hL])|(go_at_call 222;(with_reducible refine(iN _ _).mono ?_);rintro e w' ⟨rfl,rfl⟩;simp only [hD])))
    go_returns
    exact⟨au (by simp [yO]),rfl⟩
   ·have hU2:(c==95)=false:=by simpa using hU
    go_enter func219,ntmps219
    go_wp2_with ((first|(go_at_call 218;(with_reducible refine(fw _ _).mono ?_);rintro e w' ⟨rfl,rfl⟩;simp only [hL])|(go_at_call 222;(with_reducible refine(iN _ _).mono ?_);rintro e w' ⟨rfl,rfl⟩;simp only [hD])))
    go_returns
    exact⟨au (by simp [yO,hL,hD,hU]),rfl⟩
  ·go_enter func219,ntmps219
   go_wp2_with ((first|(go_at_call 218;(with_reducible refine(fw _ _).mono ?_);rintro e w' ⟨rfl,rfl⟩;simp only [hL])|(go_at_call 222;(with_reducible refine(iN _ _).mono ?_);rintro e w' ⟨rfl,rfl⟩;simp only [hD])))
   go_returns
   exact⟨au (by simp [yO,hD]),rfl⟩
 ·go_enter func219,ntmps219
  go_wp2_with ((first|(go_at_call 218;(with_reducible refine(fw _ _).mono ?_);rintro e w' ⟨rfl,rfl⟩;simp only [hL])|(go_at_call 222;(with_reducible refine(iN _ _).mono ?_);rintro e w' ⟨rfl,rfl⟩;simp only [hD])))
  go_returns
  exact⟨au (by simp [yO,hL]),rfl⟩
theorem Jm{k:Nat}{c:Int}(h:yO c=false):jd k c=false:=by
 simp only [yO,Bool.or_eq_false_iff]at h;simp [jd,h.1,h.2.1,h.2.2]
theorem Jl{k:Nat}{c:Int}(h:yO c=true)(h0:k=0->uA c=true):jd k c=true:=by
 unfold jd;by_cases e:k=0
 ·simp [h0 e]
 ·have:(k !=0)=true:=by simpa using e
  rw [this,Bool.true_and];exact h
theorem CP(s:ByteArray)(w:World)(hs:s.size<=maxLen):Calls prog 213 #[.string s] w fun e w'=>e= .returned (.bool (isWord s))/\w=w':=by
 unfold maxLen at hs;have hI:True:=trivial;by_cases c1:1<=s.size
 ·by_cases c2:s.size<=12
  ·have c3:0<s.size:=by omega
   cases hL:uA (s[0].toNat:Int)
   ·go_enter func213,ntmps213
    go_wp2_with ((first|(go_at_call 218;(with_reducible refine(fw _ _).mono ?_);rintro e w' ⟨rfl,rfl⟩;simp only [hL])|(go_at_call 219;(with_reducible refine(iT _ _).mono ?_);rintro e w' ⟨rfl,rfl⟩;simp only [hI])))
    go_ret
    exact⟨au (nC s 0 ze (by simp [jd,hL])).symm,rfl⟩
   ·go_enter func213,ntmps213
    go_wp2_with ((first|(go_at_call 218;(with_reducible refine(fw _ _).mono ?_);rintro e w' ⟨rfl,rfl⟩;simp only [hL])|(go_at_call 219;(with_reducible refine(iT _ _).mono ?_);rintro e w' ⟨rfl,rfl⟩;simp only [hI])))
    go_loop [3] (fun i=>∃k:Nat,k<=s.size/\i= .int .i64 k/\∀j,j<k->jd j (byt s j)=true) (fun i=>s.size-(intOf i).toNat)
    case atStart=>exact⟨0,Nat.zero_le _,rfl,fun j hj=>absurd hj (Nat.not_lt_zero _)⟩
    case round=>
     obtain⟨k,hk,rfl,hall⟩:=hrel;by_cases hk2:k<s.size
     ·clear hI;cases hI:yO (s[k].toNat:Int)
      ·go_wp2_with ((first|(go_at_call 218;(with_reducible refine(fw _ _).mono ?_);rintro e w' ⟨rfl,rfl⟩;simp only [hL])|(go_at_call 219;(with_reducible refine(iT _ _).mono ?_);rintro e w' ⟨rfl,rfl⟩;simp only [hI])))
       go_ret
       exact⟨au (nC s k hk2 (Jm hI)).symm,rfl⟩
      ·go_wp2_with ((first|(go_at_call 218;(with_reducible refine(fw _ _).mono ?_);rintro e w' ⟨rfl,rfl⟩;simp only [hL])|(go_at_call 219;(with_reducible refine(iT _ _).mono ?_);rintro e w' ⟨rfl,rfl⟩;simp only [hI])))
       go_round
       case rel=>exact⟨k+1,by omega,by go_num,fun i hi=>by
        by_cases e:i=k
        ·subst e;rw [uZ s i hk2];exact Jl hI (fun e0=>by subst e0;exact hL)
        ·exact hall i ze⟩
       case measure=>simp [intOf];omega
     ·have:k=s.size:=by omega
      subst this
      go_wp2_with fail
      go_ret
      exact⟨au (by rw [oo s hall];simp [c1,c2]),rfl⟩
  ·have hL:True:=trivial;have hw:isWord s=false:=by unfold isWord;rw [decide_eq_false c2,Bool.and_false]
   have c4:12<(s.size:Int):=by omega
   exact QX
 ·have hL:True:=trivial;have hw:isWord s=false:=by unfold isWord;rw [decide_eq_false c1,Bool.and_false,Bool.false_and]
  have c4:(s.size:Int)<1:=by omega
  exact QX
theorem yN(s:ByteArray)(w:World):Calls prog 214 #[.string s] w fun e w'=>e= .returned (.bool (NN s))/\w=w':=by
 go_enter func214,ntmps214
 exact QD
theorem Bj(s:ByteArray)(w:World)(hs:s.size<=maxLen):Calls prog 206 #[.string s] w fun e w'=>e= .returned (.bool (fe s))/\w=w':=by
 cases hW:isWord s<;>
 ·go_enter func206,ntmps206
  go_wp2_with (first|(go_at_call 213;(with_reducible refine(CP _ _ zv).mono ?_);rintro e w' ⟨rfl,rfl⟩;simp only [hW])|(go_at_call 214;(with_reducible refine(yN _ _).mono ?_);rintro e w' ⟨rfl,rfl⟩))
  go_returns
  exact⟨au (by simp [fe,hW]),rfl⟩
theorem jO(op:Int)(w:World):Calls prog 204 #[.int .i64 op] w fun e w'=>e= .returned (.int .i64 (bi op))/\w=w':=by
 go_enter func204,ntmps204
 go_wp2
 all_goals
  go_returns
  exact⟨ret_int (by unfold bi;(repeat' split)<;>first|omega|(simp_all;done)|(simp_all;omega)),rfl⟩
def gI(d:Int):Nat->Int->Option (List Int)
 |0,r=>if r<=0 then some []else none
 |f+1,r=>if r<=0 then some []else(gI d f (r*10 % d)).map fun l=>r*10 / d::l
def jB:List Int->Int
 | []=>0
 |x::r=>x*10 ^ r.length+jB r
theorem qL{d:Int}(hd:1<=d):∀(f:Nat) (r:Int) (l:List Int),0<=r->gI d f r=some l->jB l*d=r*10 ^ l.length/\l.length<=f
 |0,r,l,h0,h=>by
  unfold gI at h
  split at h<;>cases h
  have:r=0:=by omega
  subst this;simp [jB]
 |f+1,r,l,h0,h=>by
  unfold gI at h
  split at h<;>rename_i hc
  ·cases h;have:r=0:=by omega
   subst this;simp [jB]
  ·obtain⟨q,hq,rfl⟩:=Option.map_eq_some_iff.1 h;obtain⟨h1,h2⟩:=qL hd f _ q (Int.emod_nonneg _ ze) hq;refine⟨?_,by simpa using h2⟩;have e:=Int.mul_ediv_add_emod (r*10) d;simp only [jB,length_cons];rw [Int.add_mul,h1,Int.pow_succ];generalize(10:Int) ^ q.length=t at *;have e2:r*(t*10)=(d*(r*10 / d)+r*10 % d)*t:=by rw [e,Int.mul_comm t 10,Int.mul_assoc]
   rw [e2,Int.add_mul,Int.mul_comm d,Int.mul_right_comm]
theorem xw{d:Int}(hd:1<=d):∀(f:Nat) (r:Int),0<=r->r<d->gI d f r=none->r*10 ^ f % d≠0
 |0,r,h0,h1,h=>by
  unfold gI at h
  split at h
  ·cases h
  ·rw [Int.pow_zero,Int.mul_one,Int.emod_eq_of_lt h0 h1];omega
 |f+1,r,h0,h1,h=>by
  unfold gI at h
  split at h
  ·cases h
  ·have h2:=xw hd f (r*10 % d) (Int.emod_nonneg _ ze) (Int.emod_lt_of_pos _ ze) zI;intro hc;apply h2;rw [Int.pow_succ,Int.mul_comm ((10:Int) ^ f),<-Int.mul_assoc]at hc;rw [Int.mul_emod,Int.emod_emod,<-Int.mul_emod];exact hc
def iI(p:Int):Nat->Int->Int->Int × Int
 |0,a,b=>(a,b)
 |f+1,a,b=>if a % p=0/\b % p=0 then iI p f (a / p) (b / p)else(a,b)
theorem qo{p:Int}(hp:2<=p):∀(f:Nat) (a b:Int),1<=b->b<p ^ f->
 (iI p f a b).1*b=a*(iI p f a b).2/\¬((iI p f a b).1 % p=0/\(iI p f a b).2 % p=0)/\(iI p f a b).2 ∣ b/\1<=(iI p f a b).2/\
 ∀q:Int,¬(a % q=0/\b % q=0)->¬((iI p f a b).1 % q=0/\(iI p f a b).2 % q=0)
 |0,a,b,h1,h2=>by simp at h2;omega
 |f+1,a,b,h1,h2=>by
  unfold iI
  split<;>rename_i hc
  ·obtain⟨a',ha⟩:=Int.dvd_of_emod_eq_zero hc.1;obtain⟨b',hb⟩:=Int.dvd_of_emod_eq_zero hc.2;subst ha hb;rw [Int.mul_ediv_cancel_left _ ze,Int.mul_ediv_cancel_left _ ze]
   have hb1:1<=b':=by
    rcases Int.lt_or_le b' 1 with h|h
    ·have:p*b'<=p*0:=Int.mul_le_mul_of_nonneg_left ze ze;omega
    ·exact h
   have hb2:b'<p ^ f:=by
    rw [Int.pow_succ,Int.mul_comm _ p]at h2;exact Int.lt_of_mul_lt_mul_left h2 ze
   obtain⟨e1,e2,e3,e4,e5⟩:=qo hp f a' b' hb1 hb2;refine⟨?_,e2,Int.dvd_trans e3 (Int.dvd_mul_left p b'),e4,fun q hq=>e5 q fun hc=>hq ?_⟩
   ·rw [Int.mul_left_comm,e1,Int.mul_assoc]
   ·exact⟨Int.emod_eq_zero_of_dvd (Int.dvd_trans (Int.dvd_of_emod_eq_zero hc.1) (Int.dvd_mul_left p a')),Int.emod_eq_zero_of_dvd (Int.dvd_trans (Int.dvd_of_emod_eq_zero hc.2) (Int.dvd_mul_left p b'))⟩
  ·exact⟨rfl,hc,Int.dvd_refl b,h1,fun q hq=>hq⟩
def kr(a b:Int):Int × Int:=iI 5 6 (iI 2 14 a b).1 (iI 2 14 a b).2
theorem Jz{g:Nat}{k:Nat}(h:g ∣ 10 ^ k)(h2:¬2 ∣ g)(h5:¬5 ∣ g):g=1:=by
 have c2:Nat.Coprime g 2:=by
  have hd:Nat.gcd g 2 ∣ 2:=Nat.gcd_dvd_right _ _;have hg:Nat.gcd g 2 ∣ g:=Nat.gcd_dvd_left _ _;have hle:=Nat.le_of_dvd ze hd;have:Nat.gcd g 2≠2:=fun e=>h2 (e ▸ hg);have h0:Nat.gcd g 2≠0:=fun e=>by rw [e]at hd;omega
  show Nat.gcd g 2=1;omega
 have c5:Nat.Coprime g 5:=by
  have hd:Nat.gcd g 5 ∣ 5:=Nat.gcd_dvd_right _ _;have hg:Nat.gcd g 5 ∣ g:=Nat.gcd_dvd_left _ _;have hle:=Nat.le_of_dvd ze hd;have:Nat.gcd g 5≠5:=fun e=>h5 (e ▸ hg);show Nat.gcd g 5=1;generalize Nat.gcd g 5=x at *;obtain rfl|rfl|rfl|rfl|rfl:x=0\/x=1\/x=2\/x=3\/x=4:=by omega
  all_goals first|rfl|(exfalso;revert hd;decide)
 have c10:Nat.Coprime g (10 ^ k):=Nat.Coprime.pow_right k (show Nat.Coprime g (2*5)from Nat.Coprime.mul_right c2 c5);exact Nat.Coprime.eq_one_of_dvd c10 h
theorem Gh{a:Int}{k:Nat}(hk:k<=4):(kr a (10 ^ k)).1*10 ^ k=a*(kr a (10 ^ k)).2/\(kr a (10 ^ k)).2 ∣ 10 ^ k/\1<=(kr a (10 ^ k)).2/\Nat.Coprime (kr a (10 ^ k)).1.natAbs (kr a (10 ^ k)).2.natAbs:=by
 have hb:(1:Int)<=10 ^ k/\(10:Int) ^ k<=10000:=by
  obtain rfl|rfl|rfl|rfl|rfl:k=0\/k=1\/k=2\/k=3\/k=4:=by omega
  all_goals decide
 obtain⟨e1,e2,e3,e4,e5⟩:=qo (p:=2) ze 14 a (10 ^ k) hb.1 (by rw [show(2:Int) ^ 14=16384 by decide];omega);have hle:=Int.le_of_dvd ze e3;unfold kr;obtain⟨f1,f2,f3,f4,f5⟩:=qo (p:=5) ze 6 (iI 2 14 a (10 ^ k)).1 (iI 2 14 a (10 ^ k)).2 e4 (by rw [show(5:Int) ^ 6=15625 by decide];omega);have f6:=f5 2 e2;generalize iI 5 6 (iI 2 14 a (10 ^ k)).1 (iI 2 14 a (10 ^ k)).2=z at *;generalize iI 2 14 a (10 ^ k)=y at *;have hdv:z.2 ∣ 10 ^ k:=Int.dvd_trans f3 e3;refine⟨?_,hdv,f4, ?_⟩
 ·have h:z.1*10 ^ k*y.2=a*z.2*y.2:=by
   rw [Int.mul_right_comm,f1,Int.mul_right_comm,e1,Int.mul_right_comm]
  exact Int.eq_of_mul_eq_mul_right ze h
 ·have hg:Nat.gcd z.1.natAbs z.2.natAbs ∣ 10 ^ k:=by
   have h1:z.2.natAbs ∣ 10 ^ k:=by
    have:=Int.natAbs_dvd_natAbs.2 hdv
    rwa [Int.natAbs_pow]at this
   exact Nat.dvd_trans (Nat.gcd_dvd_right _ _) h1
  refine Jz hg (fun h=>f6 ?_) (fun h=>f2 ?_)
  ·exact QT
  ·exact QT
theorem Qq{an ad bn bd:Int}(h1:1<=ad)(h2:1<=bd)(p:Nat.Coprime an.natAbs ad.natAbs)(q:Nat.Coprime bn.natAbs bd.natAbs)(h:an*bd=bn*ad):an=bn/\ad=bd:=by
 exact Q0
def Ac(n d m:Int):Bool:=
 match gI d 4 (n % d)with
 |none=>false
 |some l=>decide (n / d<=999999999)&&(decide ((kr (n / d*10 ^ l.length+jB l) (10 ^ l.length)).1=n/\(kr (n / d*10 ^ l.length+jB l) (10 ^ l.length)).2=d)&&decide (2<=m/\m<=4))
theorem FL{n d m:Int}(h1:1<=d)(h2:d<=10000)(h3:0<=n)(h4:n<=1000000000000000):Ac n d m=dL n d m:=by
 have hr0:=Int.emod_nonneg n (show d≠0 by omega);have hr1:=Int.emod_lt_of_pos n (show 0<d by omega);have hq:=Int.mul_ediv_add_emod n d;unfold Ac
 cases hf:gI d 4 (n % d)with
 |none=>
  have:=xw h1 4 _ hr0 hr1 hf;show false=_;symm;rw [Bool.eq_false_iff];intro hc;simp only [dL,Bool.and_eq_true,decide_eq_true_eq]at hc;apply this;have h5:(10000:Int) % d=0:=hc.1.1.1.2;obtain⟨c,hc⟩:=Int.dvd_of_emod_eq_zero h5;rw [show(10:Int) ^ 4=10000 by decide,hc,Int.mul_left_comm];exact Int.mul_emod_right d _
 |some l=>
  obtain⟨hp,hl⟩:=qL h1 4 _ l hr0 hf;obtain⟨e1,e2,e3,e4⟩:=Gh (a:=n / d*10 ^ l.length+jB l) hl
  have hA:(n / d*10 ^ l.length+jB l)*d=n*10 ^ l.length:=by
   rw [Int.add_mul,hp]
   conv=>rhs;rw [<-hq]
   rw [Int.add_mul,Int.mul_comm d,Int.mul_right_comm]
  show(decide (n / d<=999999999)&&_)=_;generalize kr (n / d*10 ^ l.length+jB l) (10 ^ l.length)=z at *;rw [Bool.eq_iff_iff];simp only [dL,Bool.and_eq_true,decide_eq_true_eq];constructor
  ·rintro⟨a,⟨rfl,rfl⟩,b,c⟩;refine⟨⟨⟨⟨⟨oP ⟨by omega,by omega,by omega,by omega⟩ e4,h3⟩, ?_⟩,b⟩,c⟩,a⟩;refine Int.emod_eq_zero_of_dvd (Int.dvd_trans e2 ?_);obtain h|h|h|h|h:l.length=0\/l.length=1\/l.length=2\/l.length=3\/l.length=4:=by omega
   all_goals rw [h];decide
  ·rintro⟨⟨⟨⟨⟨a,-⟩,-⟩,b⟩,c⟩,e⟩;refine⟨e, ?_,b,c⟩;have hB:(1:Int)<=10 ^ l.length:=Int.pow_pos ze
   have hx:z.1*d=n*z.2:=by
    have:z.1*d*10 ^ l.length=n*z.2*10 ^ l.length:=by
     rw [Int.mul_right_comm,e1,Int.mul_right_comm,hA,Int.mul_right_comm]
    exact Int.eq_of_mul_eq_mul_right ze this
   exact Qq e3 h1 e4 (qf a) hx
theorem Iu{n d m:Int}(h:d<1\/10000<d\/n<0\/1000000000000000<n):dL n d m=false:=by
 rw [Bool.eq_false_iff];intro hc;simp only [dL,Bool.and_eq_true,decide_eq_true_eq]at hc;have:=aF hc.1.1.1.1.1;have h5:=Int.le_of_dvd ze (Int.dvd_of_emod_eq_zero hc.1.1.1.2);omega
theorem Fq:∀(a b:List UInt8),(46:UInt8)∉a->Lib.index (a++46::b) [46]=a.length
 | [],b,_=>by simp [Lib.index,isPrefixOf]
 |c::a,b,h=>by
  have h1:(46:UInt8)≠c:=fun e=>h (by simp [e]);have ih:=Fq a b (fun e=>h (by simp [e]));simp only [cons_append,Lib.index,isPrefixOf,ih];have h2:((46:UInt8)==c)=false:=by simpa using h1
  rw [h2];simp
theorem Kr:∀(a:List UInt8),(46:UInt8)∉a->Lib.index a [46]= -1
 | [],_=>by simp [Lib.index]
 |c::a,h=>by
  have h1:(46:UInt8)≠c:=fun e=>h (by simp [e]);have ih:=Kr a (fun e=>h (by simp [e]));simp only [Lib.index,isPrefixOf,ih];have h2:((46:UInt8)==c)=false:=by simpa using h1
  rw [h2];simp
theorem Oz(a b:List UInt8)(h:(46:UInt8)∉a):Lib.cut (a++46::b) [46]=(a,b,true):=by
 unfold Lib.cut;rw [Fq a b h,if_pos ze];simp
theorem Qp(a:List UInt8)(h:(46:UInt8)∉a):Lib.cut a [46]=(a,[],false):=by
 unfold Lib.cut;rw [Kr a h,if_neg ze]
def gF:Int->List UInt8->Option Int
 |x,[]=>some x
 |x,c::r=>if oD (c.toNat:Int)=true then gF (10*x+((c.toNat:Int)-48)) r else none
theorem l8:∀(a b:List UInt8) (x:Int),gF x (a++b)=(gF x a).bind fun y=>gF y b
 | [],b,x=>rfl
 |c::a,b,x=>by
  simp only [cons_append,gF]
  split
  ·exact l8 a b _
  ·rfl
def dgB(x:Int):UInt8:=UInt8.ofNat (48+x.toNat)
theorem xE{x:Int}(h0:0<=x)(h1:x<=9):((dgB x).toNat:Int)=48+x:=by
 unfold dgB;rw [UInt8.toNat_ofNat'];omega
theorem uf(x y:Int)(h0:0<=y)(h1:y<=9):gF x [dgB y]=some (10*x+y):=by
 have e:=xE h0 h1;simp only [gF];rw [e,if_pos (by simp [oD];omega)]
 congr 1
 omega
theorem wL:∀(l:List Int) (x:Int),(∀y∈l,0<=y/\y<=9)->gF x (l.map dgB)=some (x*10 ^ l.length+jB l)
 | [],x,_=>by simp [gF,jB]
 |y::l,x,h=>by
  have hy:=h y zg;have ih:=wL l (10*x+y) (fun z hz=>h z (by simp [hz]));have e:=l8 [dgB y] (l.map dgB) x;rw [uf x y hy.1 hy.2]at e;simp only [map_cons];rw [show dgB y::l.map dgB= [dgB y]++l.map dgB from rfl,e];simp only [Option.bind_some];rw [ih]
  congr 1
  simp only [length_cons,jB,Int.pow_succ];rw [Int.add_mul,Int.mul_comm 10 x,Int.mul_assoc,Int.mul_comm 10];omega
theorem Ke(u:Nat):∀x:Int,gF x (Lib.decDigits u)=some (x*10 ^ Lib.nDigits u+u):=by
 induction u using Nat.strongRecOn with
 |_ u ih=>
  intro x;rw [Lib.decDigits];by_cases h:u<10
  ·rw [dif_pos h,Lib.nDigits_small h];have:=uf x u ze ze;unfold dgB at this;rw [Int.toNat_natCast]at this;rw [this]
   congr 1
   omega
  ·rw [dif_neg h,l8,ih (u / 10) ze,Lib.nDigits_big h];simp only [Option.bind_some];have:=uf (x*10 ^ Lib.nDigits (u / 10)+(u / 10:Nat)) ((u % 10:Nat):Int) ze ze;unfold dgB at this;rw [Int.toNat_natCast]at this;rw [this]
   congr 1
   rw [Int.pow_succ,Int.mul_add,<-Int.mul_assoc,Int.mul_comm 10 x,Int.mul_assoc,Int.mul_comm 10 (10 ^ _)];omega
theorem Cm(u:Nat):∀c∈Lib.decDigits u,48<=c.toNat/\c.toNat<=57:=by
 induction u using Nat.strongRecOn with
 |_ u ih=>
  intro c hc;rw [Lib.decDigits]at hc;by_cases h:u<10
  ·rw [dif_pos h]at hc;simp only [mem_singleton]at hc;subst hc;rw [UInt8.toNat_ofNat'];omega
  ·rw [dif_neg h]at hc;rcases mem_append.1 hc with hc|hc
   ·exact ih (u / 10) ze c hc
   ·simp only [mem_singleton]at hc;subst hc;rw [UInt8.toNat_ofNat'];omega
theorem KW(u:Nat)(h:1<=u):∃c r,Lib.decDigits u=c::r/\c.toNat≠48:=by
 induction u using Nat.strongRecOn with
 |_ u ih=>
  rw [Lib.decDigits];by_cases h2:u<10
  ·rw [dif_pos h2];exact⟨_,_,rfl,by rw [UInt8.toNat_ofNat'];omega⟩
  ·rw [dif_neg h2];obtain⟨c,r,e,hc⟩:=ih (u / 10) ze ze;rw [e];exact⟨c,_,rfl,hc⟩
def kg(s:List UInt8):List UInt8 × Int:=if s.getLast? =some 100 then(s.dropLast,3)else if s.getLast? =some 109 then(s.dropLast,4)else(s,2)
def pK(a b:List UInt8)(pt:Bool):Bool:=decide (1<=a.length)&&decide (a.length<=9)&&!(decide (1<a.length)&&decide (a.head? =some 48))&&!(pt&&(decide (b.length<1) || decide (4<b.length)))
def Ox(a b:List UInt8)(pt:Bool)(m:Int):Option (Int × Int × Int):=
 if pK a b pt=true then(gF 0 a).bind fun x=>(gF 0 b).map fun p=>((kr (x*10 ^ b.length+p) (10 ^ b.length)).1,(kr (x*10 ^ b.length+p) (10 ^ b.length)).2,m)else none
def qO(s:List UInt8):Option (Int × Int × Int):=Ox (Lib.cut (kg s).1 [46]).1 (Lib.cut (kg s).1 [46]).2.1 (Lib.cut (kg s).1 [46]).2.2 (kg s).2
def mI(l:List Int):List UInt8:=if l= []then []else 46::l.map dgB
def xO(m:Int):List UInt8:=if m=3 then [100]else if m=4 then [109]else []
def JJ(m:Int):Int:=if m=3 then 3 else if m=4 then 4 else 2
theorem yS{s:List UInt8}(h0:s≠[])(h:∀c∈s,48<=c.toNat/\c.toNat<=57\/c=46):s.getLast?≠some 100/\s.getLast?≠some 109:=by
 have e:=getLast?_eq_some_getLast h0;have hc:=h _ (getLast_mem h0);rw [e];constructor
 ·exact QC
 ·exact QC
theorem F5{s:List UInt8}(h0:s≠[])(h:∀c∈s,48<=c.toNat/\c.toNat<=57\/c=46)(m:Int):kg (s++xO m)=(s,JJ m):=by
 obtain⟨h1,h2⟩:=yS h0 h;unfold kg xO JJ;by_cases c3:m=3
 ·subst c3;rw [if_pos rfl,if_pos rfl];simp
 ·by_cases c4:m=4
  ·subst c4;simp
  ·rw [if_neg c3,if_neg c4,if_neg c3,if_neg c4,append_nil,if_neg h1,if_neg h2]
theorem Ou{x:Int}(h0:0<=x)(h1:x<=9):48<=(dgB x).toNat/\(dgB x).toNat<=57:=by have:=xE h0 h1;omega
theorem Ez{q:Nat}{l:List Int}(hl:∀y∈l,0<=y/\y<=9):∀c∈Lib.decDigits q++mI l,48<=c.toNat/\c.toNat<=57\/c=46:=by
 intro c hc;rcases mem_append.1 hc with hc|hc
 ·exact .inl (Cm q c hc)
 ·unfold mI at hc
  split at hc
  ·cases hc
  ·rcases mem_cons.1 hc with hc|hc
   ·exact .inr hc
   ·obtain⟨y,hy,rfl⟩:=mem_map.1 hc;have:=hl y hy;exact .inl (Ou this.1 this.2)
theorem xX(q:Nat):Lib.nDigits q<=9↔q<=999999999:=by
 constructor
 ·intro h;have h1:=Lib.lt_pow_nDigits q;have h2:10 ^ Lib.nDigits q<=10 ^ 9:=Nat.pow_le_pow_right ze h;have h3:(10:Nat) ^ 9=1000000000:=by decide
  omega
 ·intro h;by_cases h9:Lib.nDigits q<=9
  ·exact h9
  ·exfalso;obtain⟨k,hk⟩:∃k,Lib.nDigits q=k+1:=⟨Lib.nDigits q-1,by have:=Lib.nDigits_pos q;omega⟩
   have hlow:∀(u:Nat) (k:Nat),Lib.nDigits u=k+2->10 ^ (k+1)<=u:=by
    intro u
    induction u using Nat.strongRecOn with
    |_ u ih=>
     intro k hk;by_cases hs:u<10
     ·rw [Lib.nDigits_small hs]at hk;omega
     ·rw [Lib.nDigits_big hs]at hk
      cases k with
      |zero=>omega
      |succ k=>
       have:=ih (u / 10) ze k ze;rw [Nat.pow_succ];omega
   have:=hlow q (Lib.nDigits q-2) ze;have h2:10 ^ 9<=10 ^ (Lib.nDigits q-2+1):=Nat.pow_le_pow_right ze ze;have h3:(10:Nat) ^ 9=1000000000:=by decide
   omega
theorem uT(q:Nat):(46:UInt8)∉Lib.decDigits q:=fun h=>by
 have:=Cm q _ h;revert this;decide
theorem K5(q:Nat)(l:List Int):Lib.cut (Lib.decDigits q++mI l) [46]=(Lib.decDigits q,l.map dgB,decide (l≠[])):=by
 unfold mI;by_cases h:l= []
 ·subst h;rw [if_pos rfl,append_nil,Qp _ (uT q)];simp
 ·rw [if_neg h,Oz _ _ (uT q)];simp [h]
theorem H8(q:Nat)(l:List Int)(hn:l.length<=4):pK (Lib.decDigits q) (l.map dgB) (decide (l≠[]))=decide (q<=999999999):=by
 unfold pK;rw [Lib.decDigits_length];have h1:=Lib.nDigits_pos q;have h9:=xX q
 have e3:(decide (1<Lib.nDigits q)&&decide ((Lib.decDigits q).head? =some 48))=false:=by
  rw [Bool.and_eq_false_iff];by_cases c:1<Lib.nDigits q
  ·right
   have hq:1<=q:=by
    rcases Nat.eq_zero_or_pos q with rfl|h
    ·rw [Lib.nDigits_small ze]at c;omega
    ·exact h
   obtain⟨x,r,e,hx⟩:=KW q hq;rw [e];simp only [head?_cons,Option.some.injEq,decide_eq_false_iff_not];intro k;rw [k]at hx;exact hx zo
  ·left;simpa using c
 have e4:(decide (l≠[])&&(decide ((l.map dgB).length<1) || decide (4<(l.map dgB).length)))=false:=by
  rw [length_map]
  cases l with
  |nil=>rfl
  |cons a r=>simp at hn ⊢;omega
 have e9:decide (Lib.nDigits q<=9)=decide (q<=999999999):=decide_eq_decide.2 h9;rw [e3,e4,decide_eq_true (show 1<=Lib.nDigits q from h1),e9];simp
theorem Iy{q:Nat}{l:List Int}(hl:∀y∈l,0<=y/\y<=9)(hn:l.length<=4)(m:Int):qO (Lib.decDigits q++mI l++xO m)=
 if q<=999999999 then some ((kr (q*10 ^ l.length+jB l) (10 ^ l.length)).1,(kr (q*10 ^ l.length+jB l) (10 ^ l.length)).2,JJ m)else none:=by
 have h0:Lib.decDigits q++mI l≠[]:=by
  have k1:=Lib.decDigits_length q;have k2:=Lib.nDigits_pos q;intro h;rw [append_eq_nil_iff]at h;rw [h.1]at k1;simp at k1;omega
 unfold qO;rw [F5 h0 (Ez hl) m];simp only [K5,Ox,H8 q l hn,decide_eq_true_eq];have e1:=Ke q 0;have e2:=wL l 0 hl;rw [Int.zero_mul,Int.zero_add]at e1 e2;rw [e1,e2];simp
theorem xz{d:Int}(hd:1<=d):∀(f:Nat) (r:Int) (l:List Int),0<=r->r<d->gI d f r=some l->∀y∈l,0<=y/\y<=9
 |0,r,l,_,_,h=>by
  unfold gI at h
  split at h<;>cases h
  intro y hy;cases hy
 |f+1,r,l,h0,h1,h=>by
  unfold gI at h
  split at h<;>rename_i hc
  ·cases h;intro y hy;cases hy
  ·obtain⟨q,hq,rfl⟩:=Option.map_eq_some_iff.1 h;intro y hy;rcases mem_cons.1 hy with rfl|hy
   ·constructor
    ·exact Int.ediv_nonneg ze ze
    ·have:r*10 / d<10:=Int.ediv_lt_of_lt_mul ze ze;omega
   ·exact xz hd f _ q (Int.emod_nonneg _ ze) (Int.emod_lt_of_pos _ ze) hq y hy
def FM(n d m:Int):List UInt8:=match gI d 4 (n % d)with|some l=>Lib.decDigits (n / d).toNat++mI l++xO m|none=>[]
theorem Iz{n d m:Int}{l:List Int}(h1:1<=d)(h2:d<=10000)(h3:0<=n)(h4:n<=1000000000000000)(hf:gI d 4 (n % d)=some l) :
 (qO (Lib.decDigits (n / d).toNat++mI l++xO m)=some (n,d,m))↔dL n d m=true:=by
 have hr0:=Int.emod_nonneg n (show d≠0 by omega);have hr1:=Int.emod_lt_of_pos n (show 0<d by omega);have hq0:0<=n / d:=Int.ediv_nonneg h3 ze;obtain⟨-,hn⟩:=qL h1 4 _ l hr0 hf;rw [Iy (xz h1 4 _ l hr0 hr1 hf) hn m,<-FL h1 h2 h3 h4];unfold Ac;rw [hf];have e:(((n / d).toNat:Nat):Int)=n / d:=by omega
 rw [e];simp only [Bool.and_eq_true,decide_eq_true_eq]
 have hm:JJ m=m↔2<=m/\m<=4:=by
  unfold JJ
  split
  ·omega
  ·split<;>omega
 constructor
 ·intro h
  split at h<;>rename_i hc
  ·simp only [Option.some.injEq,Prod.mk.injEq]at h;exact⟨by omega,⟨h.1,h.2.1⟩,hm.1 h.2.2⟩
  ·cases h
 ·rintro⟨a,⟨b,c⟩,k⟩;rw [if_pos ze,b,c,hm.2 k]
theorem IA{n d m:Int}(h1:1<=d)(h2:d<=10000)(h3:0<=n)(h4:n<=1000000000000000)(hf:gI d 4 (n % d)=none):dL n d m=false:=by
 rw [<-FL h1 h2 h3 h4];unfold Ac;rw [hf]
def lK(s:ByteArray)(k:Nat):List UInt8:=s.data.toList.drop k
theorem EA{s:ByteArray}{k:Nat}(h:k<s.size):lK s k=s[k]::lK s (k+1):=by
 unfold lK;have h2:k<s.data.toList.length:=by simpa using h
 rw [drop_eq_getElem_cons h2]
 congr 1
theorem IG{s:ByteArray}{k:Nat}(h:s.size<=k):lK s k= []:=by
 unfold lK;exact drop_eq_nil_of_le zI
def Dy(r:Option Int):Value:=match r with|some x=>.tuple #[.int .i64 x,.bool true]|none=>.tuple #[.int .i64 0,.bool false]
theorem xW:∀(l:List UInt8) (x y:Int),0<=x->gF x l=some y->x<=y/\y<=(x+1)*10 ^ l.length-1
 | [],x,y,h0,h=>by simp [gF]at h;subst h;simp
 |c::r,x,y,h0,h=>by
  simp only [gF]at h
  split at h
  ·rename_i hd
   simp only [oD,Bool.and_eq_true,decide_eq_true_eq]at hd;have ih:=xW r _ y ze h;refine⟨by omega,Int.le_trans ih.2 ?_⟩;have hp:(0:Int)<10 ^ r.length:=Int.pow_pos ze;have e:(x+1)*10 ^ (c::r).length=((x+1)*10)*10 ^ r.length:=by rw [length_cons,Int.pow_succ,Int.mul_comm (10 ^ r.length) 10,Int.mul_assoc]
   rw [e];have:=Int.mul_le_mul_of_nonneg_right (show 10*x+((c.toNat:Int)-48)+1<=(x+1)*10 by omega) (Int.le_of_lt hp);omega
  ·cases h
theorem o8(s:ByteArray)(w:World)(hs:s.size<=9):Calls prog 217 #[.string s] w fun e w'=>e= .returned (Dy (gF 0 s.data.toList))/\w=w':=by
 have h00:s.data.toList=lK s 0:=rfl;rw [h00];clear h00
 go_enter func217,ntmps217
 go_wp2
 go_loop [2,4] (fun v2 v4=>∃k:Nat,∃x:Int,k<=s.size/\v4= .int .i64 k/\v2= .int .i64 x/\0<=x/\x<10 ^ k/\Hid (gF x (lK s k)=gF 0 (lK s 0))) (fun _ v4=>s.size-(intOf v4).toNat)
 case atStart=>exact⟨0,0,Nat.zero_le _,rfl,rfl,by omega,by simp,zh rfl⟩
 case round=>
  obtain⟨k,x,hk,rfl,rfl,hx0,hx1,hg⟩:=hrel
  have hb:(10:Int) ^ k<=1000000000:=by
   have:=Nat.pow_le_pow_right (show 1<=10 by omega) (show k<=9 by omega);have h2:((10 ^ k:Nat):Int)<=((10 ^ 9:Nat):Int):=by exact_mod_cast this
   simpa using h2
  have hx2:x<=1000000000:=by omega
  have HX:=zh hx1;clear hx1 hb;by_cases hk2:k<s.size
  ·have hst:=EA hk2;cases hD:oD (s[k].toNat:Int)
   ·have HG:Hid (gF 0 (lK s 0)=none):=zh (by rw [<-hg.out,hst];simp only [gF];rw [hD];rfl);clear hst hg
    go_wp2_with (go_at_call 222;(with_reducible refine(iN _ _).mono ?_);rintro e w' ⟨rfl,rfl⟩;simp only [hD])
    go_returns
    exact⟨by rw [HG.out];rfl,rfl⟩
   ·have hd:48<=(s[k].toNat:Int)/\(s[k].toNat:Int)<=57:=by simpa [oD]using hD
    have HG:Hid (gF (10*x+((s[k].toNat:Int)-48)) (lK s (k+1))=gF 0 (lK s 0)):=zh (by rw [<-hg.out,hst];simp only [gF];rw [hD];rfl);clear hst hg;obtain⟨d,hdd⟩:∃d:Int,(s[k].toNat:Int)=d:=⟨_,rfl⟩;rw [hdd]at hd hD HG;obtain⟨hd1,hd2⟩:=hd;have hw:IntKind.u8.wrap (d-48)=d-48:=by simp only [IntKind.wrap_u8];omega
    go_wp2_with (go_at_call 222;(with_reducible refine(iN _ _).mono ?_);rintro e w' ⟨rfl,rfl⟩;simp only [hD,hdd])
    go_round
    case rel=>exact⟨k+1,_,by omega,by go_num,rfl,by omega,by rw [Int.pow_succ];have:=HX.out;omega,HG⟩
    case measure=>simp [intOf];omega
  ·have HG:Hid (gF 0 (lK s 0)=some x):=zh (by rw [<-hg.out,IG ze];rfl);clear hg;obtain rfl:k=s.size:=by omega
   go_wp2_with fail
   go_returns
   exact⟨by rw [HG.out];rfl,rfl⟩
open Go.RowKit Go.ChangeShapes Go.WideShapes Go.Deep
section
variable {H : Type} {enc : TypeId × Value -> H} {P : Program} {w : World}
def fits(P:Program)(t:TypeId)(d:DataW H):Prop:=∀n∈d.weights P t,n<=140737488351232

theorem FO(b off i:Nat):(⟨b,off,none⟩:Addr).add i=⟨b,off+i,none⟩:=by unfold Addr.add;split<;>simp_all
theorem FN{w:World}{b o:Nat}{v:Value}(h:w.cell? ⟨b,o,none⟩=some v):b<w.heap.size:=by
 rcases Nat.lt_or_ge b w.heap.size with h1|h1
 ·exact h1
 ·simp [World.cell?,Array.getElem?_eq_none h1]at h
theorem wZ{n:Int}(h:(Lit.int .i64 n).wf=true):I64 n:=bounds_i64 h
theorem ay.of_cells{a:Option Addr}{len cap:Nat}{zs:List Int}(hl:len<=cap)(hz:zs.length=cap)(hw:∀n∈zs,(Lit.int .i64 n).wf=true)(hb:len<=140737488355328)(ha:a=none->len=0)
 (hc:∀x,a=some x->∀i,i<cap->w.cell? (x.add i)=some (.int .i64 (zs.getD i 0))):ay w (.slice a len cap) (zs.take len):=by
 have hlen:(zs.take len).length=len:=by rw [length_take];omega
 refine⟨by omega,fun z hz2=>wZ (hw z (mem_of_mem_take hz2)),a,cap,by rw [hlen], ?_⟩;rw [hlen];by_cases h0:len=0
 ·exact .inl h0
 ·cases a with
  |none=>exact .inl (ha rfl)
  |some x=>
   obtain⟨b,off,spot⟩:=x;have h1:=hc _ rfl 0 ze;have hspot:spot=none:=by simpa [Addr.add]using World.cell?_spot h1
   subst hspot
   have h2:∀i,i<cap->w.cell? ⟨b,off+i,none⟩=some (.int .i64 (zs.getD i 0)):=fun i hi=>by
    rw [<-FO];exact hc _ rfl i hi
   refine .inr ⟨b,off,rfl,FN (h2 0 ze),fun i hi=>?_⟩;rw [h2 i ze];simp [getD_eq_getElem?_getD,hi]
theorem ay.of_trod{t e:TypeId}{fuel:Nat}{v:Value}{x:DataW H × List MemPlace}(ht:P.underlying t=some (.slice e))(he:P.underlying e=some (.int .i64))(hc:P.cellsOf e=1)(hb:P.bytesOf e=8)
 (h:DataW.trod enc P w 0 (fun _=>true) true fuel t [v]=some x) (hf:fits P t x.1):∃zs,ay w v zs:=by
 rcases open_ints ht he hc h with ⟨hcs,_⟩|⟨a,l,c,zs,hcs,_,hl,hm,hz,hx,hcell,hwz⟩
 ·simp at hcs;subst hcs;exact⟨[],by simp,by simp,none,0,rfl,.inl rfl⟩
 ·simp at hcs;subst hcs;simp only [if_true]at hz
  have h8:l<=140737488355328:=by
   have h9:=hf ((l+(c-l))*8) (by rw [hx];simp [DataW.weights,ht,lits,hb,hz,Nat.min_eq_left hl]);omega
  exact⟨zs.take l,ay.of_cells hl hz hwz h8 (fun e=>by cases e) fun x' hx' i hi=>by cases hx';exact hcell i ze⟩
end
theorem c3:(prog).cellsOf 3=1:=by kernel_rfl
theorem c22:(prog).cellsOf 24=1:=by kernel_rfl
theorem b3:(prog).bytesOf 3=8:=by kernel_rfl
theorem b22:(prog).bytesOf 24=24:=by kernel_rfl
theorem gT{H:Type}{P:Program}{t:TypeId}{fs:Array Field}{l:List (DataW H)}{i:Nat}{f:Field}{d:DataW H}(ht:P.underlying t=some (.struct fs))(h:fits P t (.agg l))(hf:fs[i]? =some f)(hd:l[i]? =some d):fits P f.type d:=by
 intro n hn;refine h n ?_;simp only [DataW.weights,ht];exact DataW.weights_mem_each (j:=i) (by simp [hf]) hd n hn
theorem eT{H:Type}{enc:TypeId × Value->H}{w:World}{fuel:Nat}{v:Value}{x:DataW H × List MemPlace}(h:DataW.trod enc prog w 0 (fun _=>true) true fuel 3 [v]=some x):∃n,v= .int .i64 n/\I64 n:=by
 obtain⟨n,hcs,_,hw⟩:=DataW.trod_int underlying3 h;exact⟨n,by simpa using hcs,wZ hw⟩
end Go.Proofs.YtlheailebbngiaaGreatDoor
