import Derived.Test.YtaghhncnicbedaaGreatDoorBFrP
import Derived.Test.YtaghhncnicbedaaGreatDoorBGen
import Derived.Test.YtaghhncnicbedaaGreatDoorBK
import Derived.Lib.IndexMore
import Derived.Lib.ItoaNum
import Derived.Lib.OthersKept
import Derived.BigRegion
import Derived.Deep.CutBlock
import Derived.Deep.CutRange
import Derived.Deep.DeepCutAuto
set_option linter.all false
set_option maxHeartbeats 16000000
set_option maxRecDepth 1000000
namespace Go.Proofs.YtaghhncnicbedaaGreatDoor
def fdig(d:Int):Nat→Int→Option (List Int)
 |0,r=>if r≤0 then some []else none
 |f+1,r=>if r≤0 then some []else(fdig d f (r*10 % d)).map fun l=>r*10 / d::l
def partD:List Int→Int
 | []=>0
 |x::r=>x*10 ^ r.length+partD r
theorem fdig_some{d:Int}(hd:1≤d):∀(f:Nat) (r:Int) (l:List Int),0≤r→fdig d f r=some l→partD l*d=r*10 ^ l.length∧l.length≤f
 |0,r,l,h0,h=>by
  unfold fdig at h
  split at h<;>cases h
  have:r=0:=by omega
  subst this;simp [partD]
 |f+1,r,l,h0,h=>by
  unfold fdig at h
  split at h<;>rename_i hc
  ·cases h
   have:r=0:=by omega
   subst this;simp [partD]
  ·obtain⟨q,hq,rfl⟩:=Option.map_eq_some_iff.1 h
   obtain⟨h1,h2⟩:=fdig_some hd f _ q (Int.emod_nonneg _ (by omega)) hq
   refine⟨?_,by simpa using h2⟩
   have e:=Int.mul_ediv_add_emod (r*10) d
   simp only [partD,List.length_cons]
   rw [Int.add_mul,h1,Int.pow_succ]
   generalize(10:Int) ^ q.length=t at *
   have e2:r*(t*10)=(d*(r*10 / d)+r*10 % d)*t:=by rw [e,Int.mul_comm t 10,Int.mul_assoc]
   rw [e2,Int.add_mul,Int.mul_comm d,Int.mul_right_comm]
theorem fdig_none{d:Int}(hd:1≤d):∀(f:Nat) (r:Int),0≤r→r<d→fdig d f r=none→r*10 ^ f % d≠0
 |0,r,h0,h1,h=>by
  unfold fdig at h
  split at h
  ·cases h
  ·rw [Int.pow_zero,Int.mul_one,Int.emod_eq_of_lt h0 h1];omega
 |f+1,r,h0,h1,h=>by
  unfold fdig at h
  split at h
  ·cases h
  ·have h2:=fdig_none hd f (r*10 % d) (Int.emod_nonneg _ (by omega)) (Int.emod_lt_of_pos _ (by omega)) (by simpa using h)
   intro hc
   apply h2
   rw [Int.pow_succ,Int.mul_comm ((10:Int) ^ f),←Int.mul_assoc]at hc
   rw [Int.mul_emod,Int.emod_emod,←Int.mul_emod]
   exact hc
def redP(p:Int):Nat→Int→Int→Int × Int
 |0,a,b=>(a,b)
 |f+1,a,b=>if a % p=0∧b % p=0 then redP p f (a / p) (b / p)else(a,b)
theorem redP_spec{p:Int}(hp:2≤p):∀(f:Nat) (a b:Int),1≤b→b<p ^ f→
 (redP p f a b).1*b=a*(redP p f a b).2∧¬((redP p f a b).1 % p=0∧(redP p f a b).2 % p=0)∧(redP p f a b).2 ∣ b∧1≤(redP p f a b).2∧
 ∀q:Int,¬(a % q=0∧b % q=0)→¬((redP p f a b).1 % q=0∧(redP p f a b).2 % q=0)
 |0,a,b,h1,h2=>by simp at h2;omega
 |f+1,a,b,h1,h2=>by
  unfold redP
  split<;>rename_i hc
  ·obtain⟨a',ha⟩:=Int.dvd_of_emod_eq_zero hc.1
   obtain⟨b',hb⟩:=Int.dvd_of_emod_eq_zero hc.2
   subst ha hb
   rw [Int.mul_ediv_cancel_left _ (by omega),Int.mul_ediv_cancel_left _ (by omega)]
   have hb1:1≤b':=by
    rcases Int.lt_or_le b' 1 with h|h
    ·have:p*b'≤p*0:=Int.mul_le_mul_of_nonneg_left (by omega) (by omega)
     omega
    ·exact h
   have hb2:b'<p ^ f:=by
    rw [Int.pow_succ,Int.mul_comm _ p]at h2
    exact Int.lt_of_mul_lt_mul_left h2 (by omega)
   obtain⟨e1,e2,e3,e4,e5⟩:=redP_spec hp f a' b' hb1 hb2
   refine⟨?_,e2,Int.dvd_trans e3 (Int.dvd_mul_left p b'),e4,fun q hq=>e5 q fun hc=>hq ?_⟩
   ·rw [Int.mul_left_comm,e1,Int.mul_assoc]
   ·exact⟨Int.emod_eq_zero_of_dvd (Int.dvd_trans (Int.dvd_of_emod_eq_zero hc.1) (Int.dvd_mul_left p a')),Int.emod_eq_zero_of_dvd (Int.dvd_trans (Int.dvd_of_emod_eq_zero hc.2) (Int.dvd_mul_left p b'))⟩
  ·exact⟨rfl,hc,Int.dvd_refl b,h1,fun q hq=>hq⟩
def redD(a b:Int):Int × Int:=redP 5 6 (redP 2 14 a b).1 (redP 2 14 a b).2
theorem two_five{g:Nat}{k:Nat}(h:g ∣ 10 ^ k)(h2:¬2 ∣ g)(h5:¬5 ∣ g):g=1:=by
 have c2:Nat.Coprime g 2:=by
  have hd:Nat.gcd g 2 ∣ 2:=Nat.gcd_dvd_right _ _
  have hg:Nat.gcd g 2 ∣ g:=Nat.gcd_dvd_left _ _
  have hle:=Nat.le_of_dvd (by omega) hd
  have:Nat.gcd g 2≠2:=fun e=>h2 (e ▸ hg)
  have h0:Nat.gcd g 2≠0:=fun e=>by rw [e]at hd;omega
  show Nat.gcd g 2=1
  omega
 have c5:Nat.Coprime g 5:=by
  have hd:Nat.gcd g 5 ∣ 5:=Nat.gcd_dvd_right _ _
  have hg:Nat.gcd g 5 ∣ g:=Nat.gcd_dvd_left _ _
  have hle:=Nat.le_of_dvd (by omega) hd
  have:Nat.gcd g 5≠5:=fun e=>h5 (e ▸ hg)
  show Nat.gcd g 5=1
  generalize Nat.gcd g 5=x at *
  obtain rfl|rfl|rfl|rfl|rfl:x=0∨x=1∨x=2∨x=3∨x=4:=by omega
  all_goals first|rfl|(exfalso;revert hd;decide)
 have c10:Nat.Coprime g (10 ^ k):=Nat.Coprime.pow_right k (show Nat.Coprime g (2*5)from Nat.Coprime.mul_right c2 c5)
 exact Nat.Coprime.eq_one_of_dvd c10 h
theorem redD_spec{a:Int}{k:Nat}(hk:k≤4):(redD a (10 ^ k)).1*10 ^ k=a*(redD a (10 ^ k)).2∧(redD a (10 ^ k)).2 ∣ 10 ^ k∧1≤(redD a (10 ^ k)).2∧Nat.Coprime (redD a (10 ^ k)).1.natAbs (redD a (10 ^ k)).2.natAbs:=by
 have hb:(1:Int)≤10 ^ k∧(10:Int) ^ k≤10000:=by
  obtain rfl|rfl|rfl|rfl|rfl:k=0∨k=1∨k=2∨k=3∨k=4:=by omega
  all_goals decide
 obtain⟨e1,e2,e3,e4,e5⟩:=redP_spec (p:=2) (by omega) 14 a (10 ^ k) hb.1 (by rw [show(2:Int) ^ 14=16384 by decide];omega)
 have hle:=Int.le_of_dvd (by omega) e3
 unfold redD
 obtain⟨f1,f2,f3,f4,f5⟩:=redP_spec (p:=5) (by omega) 6 (redP 2 14 a (10 ^ k)).1 (redP 2 14 a (10 ^ k)).2 e4 (by rw [show(5:Int) ^ 6=15625 by decide];omega)
 have f6:=f5 2 e2
 generalize redP 5 6 (redP 2 14 a (10 ^ k)).1 (redP 2 14 a (10 ^ k)).2=z at *
 generalize redP 2 14 a (10 ^ k)=y at *
 have hdv:z.2 ∣ 10 ^ k:=Int.dvd_trans f3 e3
 refine⟨?_,hdv,f4, ?_⟩
 ·have h:z.1*10 ^ k*y.2=a*z.2*y.2:=by
   rw [Int.mul_right_comm,f1,Int.mul_right_comm,e1,Int.mul_right_comm]
  exact Int.eq_of_mul_eq_mul_right (by omega) h
 ·have hg:Nat.gcd z.1.natAbs z.2.natAbs ∣ 10 ^ k:=by
   have h1:z.2.natAbs ∣ 10 ^ k:=by
    have:=Int.natAbs_dvd_natAbs.2 hdv
    rwa [Int.natAbs_pow]at this
   exact Nat.dvd_trans (Nat.gcd_dvd_right _ _) h1
  refine two_five hg (fun h=>f6 ?_) (fun h=>f2 ?_)
  ·exact bz31
  ·exact bz31
theorem cop_eq{an ad bn bd:Int}(h1:1≤ad)(h2:1≤bd)(p:Nat.Coprime an.natAbs ad.natAbs)(q:Nat.Coprime bn.natAbs bd.natAbs)(h:an*bd=bn*ad):an=bn∧ad=bd:=by
 exact bz16
def dec2Ok(n d m:Int):Bool:=
 match fdig d 4 (n % d)with
 |none=>false
 |some l=>decide (n / d≤999999999)&&(decide ((redD (n / d*10 ^ l.length+partD l) (10 ^ l.length)).1=n∧(redD (n / d*10 ^ l.length+partD l) (10 ^ l.length)).2=d)&&decide (2≤m∧m≤4))
theorem dec_law{n d m:Int}(h1:1≤d)(h2:d≤10000)(h3:0≤n)(h4:n≤1000000000000000):dec2Ok n d m=decOk n d m:=by
 have hr0:=Int.emod_nonneg n (show d≠0 by omega)
 have hr1:=Int.emod_lt_of_pos n (show 0<d by omega)
 have hq:=Int.mul_ediv_add_emod n d
 unfold dec2Ok
 cases hf:fdig d 4 (n % d)with
 |none=>
  have:=fdig_none h1 4 _ hr0 hr1 hf
  show false=_
  symm
  rw [Bool.eq_false_iff]
  intro hc
  simp only [decOk,Bool.and_eq_true,decide_eq_true_eq]at hc
  apply this
  have h5:(10000:Int) % d=0:=hc.1.1.1.2
  obtain⟨c,hc⟩:=Int.dvd_of_emod_eq_zero h5
  rw [show(10:Int) ^ 4=10000 by decide,hc,Int.mul_left_comm]
  exact Int.mul_emod_right d _
 |some l=>
  obtain⟨hp,hl⟩:=fdig_some h1 4 _ l hr0 hf
  obtain⟨e1,e2,e3,e4⟩:=redD_spec (a:=n / d*10 ^ l.length+partD l) hl
  have hA:(n / d*10 ^ l.length+partD l)*d=n*10 ^ l.length:=by
   rw [Int.add_mul,hp]
   conv=>rhs;rw [←hq]
   rw [Int.add_mul,Int.mul_comm d,Int.mul_right_comm]
  show(decide (n / d≤999999999)&&_)=_
  generalize redD (n / d*10 ^ l.length+partD l) (10 ^ l.length)=z at *
  rw [Bool.eq_iff_iff]
  simp only [decOk,Bool.and_eq_true,decide_eq_true_eq]
  constructor
  ·rintro⟨a,⟨rfl,rfl⟩,b,c⟩
   refine⟨⟨⟨⟨⟨vfrac_of ⟨by omega,by omega,by omega,by omega⟩ e4,h3⟩, ?_⟩,b⟩,c⟩,a⟩
   refine Int.emod_eq_zero_of_dvd (Int.dvd_trans e2 ?_)
   obtain h|h|h|h|h:l.length=0∨l.length=1∨l.length=2∨l.length=3∨l.length=4:=by omega
   all_goals rw [h];decide
  ·rintro⟨⟨⟨⟨⟨a,-⟩,-⟩,b⟩,c⟩,e⟩
   refine⟨e, ?_,b,c⟩
   have hB:(1:Int)≤10 ^ l.length:=Int.pow_pos (by omega)
   have hx:z.1*d=n*z.2:=by
    have:z.1*d*10 ^ l.length=n*z.2*10 ^ l.length:=by
     rw [Int.mul_right_comm,e1,Int.mul_right_comm,hA,Int.mul_right_comm]
    exact Int.eq_of_mul_eq_mul_right (by omega) this
   exact cop_eq e3 h1 e4 (vfrac_gcd a) hx
theorem decOk_out{n d m:Int}(h:d<1∨10000<d∨n<0∨1000000000000000<n):decOk n d m=false:=by
 rw [Bool.eq_false_iff]
 intro hc
 simp only [decOk,Bool.and_eq_true,decide_eq_true_eq]at hc
 have:=vfrac_bd hc.1.1.1.1.1
 have h5:=Int.le_of_dvd (by omega) (Int.dvd_of_emod_eq_zero hc.1.1.1.2)
 omega
theorem idx_dot:∀(a b:List UInt8),(46:UInt8)∉a→Lib.index (a++46::b) [46]=a.length
 | [],b,_=>by simp [Lib.index,List.isPrefixOf]
 |c::a,b,h=>by
  have h1:(46:UInt8)≠c:=fun e=>h (by simp [e])
  have ih:=idx_dot a b (fun e=>h (by simp [e]))
  simp only [List.cons_append,Lib.index,List.isPrefixOf,ih]
  have h2:((46:UInt8)==c)=false:=by simpa using h1
  rw [h2]
  simp
theorem idx_no:∀(a:List UInt8),(46:UInt8)∉a→Lib.index a [46]= -1
 | [],_=>by simp [Lib.index]
 |c::a,h=>by
  have h1:(46:UInt8)≠c:=fun e=>h (by simp [e])
  have ih:=idx_no a (fun e=>h (by simp [e]))
  simp only [Lib.index,List.isPrefixOf,ih]
  have h2:((46:UInt8)==c)=false:=by simpa using h1
  rw [h2]
  simp
theorem cut_dot(a b:List UInt8)(h:(46:UInt8)∉a):Lib.cut (a++46::b) [46]=(a,b,true):=by
 unfold Lib.cut
 rw [idx_dot a b h,if_pos (by omega)]
 simp
theorem cut_no(a:List UInt8)(h:(46:UInt8)∉a):Lib.cut a [46]=(a,[],false):=by
 unfold Lib.cut
 rw [idx_no a h,if_neg (by omega)]
def natG:Int→List UInt8→Option Int
 |x,[]=>some x
 |x,c::r=>if digc (c.toNat:Int)=true then natG (10*x+((c.toNat:Int)-48)) r else none
theorem natG_append:∀(a b:List UInt8) (x:Int),natG x (a++b)=(natG x a).bind fun y=>natG y b
 | [],b,x=>rfl
 |c::a,b,x=>by
  simp only [List.cons_append,natG]
  split
  ·exact natG_append a b _
  ·rfl
def dgB(x:Int):UInt8:=UInt8.ofNat (48+x.toNat)
theorem dgB_toNat{x:Int}(h0:0≤x)(h1:x≤9):((dgB x).toNat:Int)=48+x:=by
 unfold dgB
 rw [UInt8.toNat_ofNat']
 omega
theorem natG_one(x y:Int)(h0:0≤y)(h1:y≤9):natG x [dgB y]=some (10*x+y):=by
 have e:=dgB_toNat h0 h1
 simp only [natG]
 rw [e,if_pos (by simp [digc];omega)]
 congr 1
 omega
theorem natG_digs:∀(l:List Int) (x:Int),(∀y∈l,0≤y∧y≤9)→natG x (l.map dgB)=some (x*10 ^ l.length+partD l)
 | [],x,_=>by simp [natG,partD]
 |y::l,x,h=>by
  have hy:=h y (by simp)
  have ih:=natG_digs l (10*x+y) (fun z hz=>h z (by simp [hz]))
  have e:=natG_append [dgB y] (l.map dgB) x
  rw [natG_one x y hy.1 hy.2]at e
  simp only [List.map_cons]
  rw [show dgB y::l.map dgB= [dgB y]++l.map dgB from rfl,e]
  simp only [Option.bind_some]
  rw [ih]
  congr 1
  simp only [List.length_cons,partD,Int.pow_succ]
  rw [Int.add_mul,Int.mul_comm 10 x,Int.mul_assoc,Int.mul_comm 10]
  omega
theorem natG_dec(u:Nat):∀x:Int,natG x (Lib.decDigits u)=some (x*10 ^ Lib.nDigits u+u):=by
 induction u using Nat.strongRecOn with
 |_ u ih=>
  intro x
  rw [Lib.decDigits]
  by_cases h:u<10
  ·rw [dif_pos h,Lib.nDigits_small h]
   have:=natG_one x u (by omega) (by omega)
   unfold dgB at this
   rw [Int.toNat_natCast]at this
   rw [this]
   congr 1
   omega
  ·rw [dif_neg h,natG_append,ih (u / 10) (by omega),Lib.nDigits_big h]
   simp only [Option.bind_some]
   have:=natG_one (x*10 ^ Lib.nDigits (u / 10)+(u / 10:Nat)) ((u % 10:Nat):Int) (by omega) (by omega)
   unfold dgB at this
   rw [Int.toNat_natCast]at this
   rw [this]
   congr 1
   rw [Int.pow_succ,Int.mul_add,←Int.mul_assoc,Int.mul_comm 10 x,Int.mul_assoc,Int.mul_comm 10 (10 ^ _)]
   omega
theorem dec_digs(u:Nat):∀c∈Lib.decDigits u,48≤c.toNat∧c.toNat≤57:=by
 induction u using Nat.strongRecOn with
 |_ u ih=>
  intro c hc
  rw [Lib.decDigits]at hc
  by_cases h:u<10
  ·rw [dif_pos h]at hc
   simp only [List.mem_singleton]at hc
   subst hc
   rw [UInt8.toNat_ofNat']
   omega
  ·rw [dif_neg h]at hc
   rcases List.mem_append.1 hc with hc|hc
   ·exact ih (u / 10) (by omega) c hc
   ·simp only [List.mem_singleton]at hc
    subst hc
    rw [UInt8.toNat_ofNat']
    omega
theorem dec_head(u:Nat)(h:1≤u):∃c r,Lib.decDigits u=c::r∧c.toNat≠48:=by
 induction u using Nat.strongRecOn with
 |_ u ih=>
  rw [Lib.decDigits]
  by_cases h2:u<10
  ·rw [dif_pos h2]
   exact⟨_,_,rfl,by rw [UInt8.toNat_ofNat'];omega⟩
  ·rw [dif_neg h2]
   obtain⟨c,r,e,hc⟩:=ih (u / 10) (by omega) (by omega)
   rw [e]
   exact⟨c,_,rfl,hc⟩
def stripM(s:List UInt8):List UInt8 × Int:=if s.getLast? =some 100 then(s.dropLast,3)else if s.getLast? =some 109 then(s.dropLast,4)else(s,2)
def decForm(a b:List UInt8)(pt:Bool):Bool:=decide (1≤a.length)&&decide (a.length≤9)&&!(decide (1<a.length)&&decide (a.head? =some 48))&&!(pt&&(decide (b.length<1) || decide (4<b.length)))
def decP(a b:List UInt8)(pt:Bool)(m:Int):Option (Int × Int × Int):=
 if decForm a b pt=true then(natG 0 a).bind fun x=>(natG 0 b).map fun p=>((redD (x*10 ^ b.length+p) (10 ^ b.length)).1,(redD (x*10 ^ b.length+p) (10 ^ b.length)).2,m)else none
def decF(s:List UInt8):Option (Int × Int × Int):=decP (Lib.cut (stripM s).1 [46]).1 (Lib.cut (stripM s).1 [46]).2.1 (Lib.cut (stripM s).1 [46]).2.2 (stripM s).2
def dotL(l:List Int):List UInt8:=if l= []then []else 46::l.map dgB
def sufL(m:Int):List UInt8:=if m=3 then [100]else if m=4 then [109]else []
def sufM(m:Int):Int:=if m=3 then 3 else if m=4 then 4 else 2
theorem getLast_digs{s:List UInt8}(h0:s≠[])(h:∀c∈s,48≤c.toNat∧c.toNat≤57∨c=46):s.getLast?≠some 100∧s.getLast?≠some 109:=by
 have e:=List.getLast?_eq_some_getLast h0
 have hc:=h _ (List.getLast_mem h0)
 rw [e]
 constructor
 ·exact bz50
 ·exact bz50
theorem strip_suf{s:List UInt8}(h0:s≠[])(h:∀c∈s,48≤c.toNat∧c.toNat≤57∨c=46)(m:Int):stripM (s++sufL m)=(s,sufM m):=by
 obtain⟨h1,h2⟩:=getLast_digs h0 h
 unfold stripM sufL sufM
 by_cases c3:m=3
 ·subst c3
  rw [if_pos rfl,if_pos rfl]
  simp
 ·by_cases c4:m=4
  ·subst c4
   simp
  ·rw [if_neg c3,if_neg c4,if_neg c3,if_neg c4,List.append_nil,if_neg h1,if_neg h2]
theorem dgB_rng{x:Int}(h0:0≤x)(h1:x≤9):48≤(dgB x).toNat∧(dgB x).toNat≤57:=by have:=dgB_toNat h0 h1;omega
theorem body_chars{q:Nat}{l:List Int}(hl:∀y∈l,0≤y∧y≤9):∀c∈Lib.decDigits q++dotL l,48≤c.toNat∧c.toNat≤57∨c=46:=by
 intro c hc
 rcases List.mem_append.1 hc with hc|hc
 ·exact .inl (dec_digs q c hc)
 ·unfold dotL at hc
  split at hc
  ·cases hc
  ·rcases List.mem_cons.1 hc with hc|hc
   ·exact .inr hc
   ·obtain⟨y,hy,rfl⟩:=List.mem_map.1 hc
    have:=hl y hy
    exact .inl (dgB_rng this.1 this.2)
theorem nDigits_nine(q:Nat):Lib.nDigits q≤9↔q≤999999999:=by
 constructor
 ·intro h
  have h1:=Lib.lt_pow_nDigits q
  have h2:10 ^ Lib.nDigits q≤10 ^ 9:=Nat.pow_le_pow_right (by omega) h
  have h3:(10:Nat) ^ 9=1000000000:=by decide
  omega
 ·intro h
  by_cases h9:Lib.nDigits q≤9
  ·exact h9
  ·exfalso
   obtain⟨k,hk⟩:∃k,Lib.nDigits q=k+1:=⟨Lib.nDigits q-1,by have:=Lib.nDigits_pos q;omega⟩
   have hlow:∀(u:Nat) (k:Nat),Lib.nDigits u=k+2→10 ^ (k+1)≤u:=by
    intro u
    induction u using Nat.strongRecOn with
    |_ u ih=>
     intro k hk
     by_cases hs:u<10
     ·rw [Lib.nDigits_small hs]at hk;omega
     ·rw [Lib.nDigits_big hs]at hk
      cases k with
      |zero=>omega
      |succ k=>
       have:=ih (u / 10) (by omega) k (by omega)
       rw [Nat.pow_succ];omega
   have:=hlow q (Lib.nDigits q-2) (by omega)
   have h2:10 ^ 9≤10 ^ (Lib.nDigits q-2+1):=Nat.pow_le_pow_right (by omega) (by omega)
   have h3:(10:Nat) ^ 9=1000000000:=by decide
   omega
theorem dec_no_dot(q:Nat):(46:UInt8)∉Lib.decDigits q:=fun h=>by
 have:=dec_digs q _ h
 revert this;decide
theorem cut_body(q:Nat)(l:List Int):Lib.cut (Lib.decDigits q++dotL l) [46]=(Lib.decDigits q,l.map dgB,decide (l≠[])):=by
 unfold dotL
 by_cases h:l= []
 ·subst h
  rw [if_pos rfl,List.append_nil,cut_no _ (dec_no_dot q)]
  simp
 ·rw [if_neg h,cut_dot _ _ (dec_no_dot q)]
  simp [h]
theorem form_body(q:Nat)(l:List Int)(hn:l.length≤4):decForm (Lib.decDigits q) (l.map dgB) (decide (l≠[]))=decide (q≤999999999):=by
 unfold decForm
 rw [Lib.decDigits_length]
 have h1:=Lib.nDigits_pos q
 have h9:=nDigits_nine q
 have e3:(decide (1<Lib.nDigits q)&&decide ((Lib.decDigits q).head? =some 48))=false:=by
  rw [Bool.and_eq_false_iff]
  by_cases c:1<Lib.nDigits q
  ·right
   have hq:1≤q:=by
    rcases Nat.eq_zero_or_pos q with rfl|h
    ·rw [Lib.nDigits_small (by omega)]at c;omega
    ·exact h
   obtain⟨x,r,e,hx⟩:=dec_head q hq
   rw [e]
   simp only [List.head?_cons,Option.some.injEq,decide_eq_false_iff_not]
   intro k
   rw [k]at hx
   exact hx (by decide)
  ·left;simpa using c
 have e4:(decide (l≠[])&&(decide ((l.map dgB).length<1) || decide (4<(l.map dgB).length)))=false:=by
  rw [List.length_map]
  cases l with
  |nil=>rfl
  |cons a r=>simp at hn ⊢;omega
 have e9:decide (Lib.nDigits q≤9)=decide (q≤999999999):=decide_eq_decide.2 h9
 rw [e3,e4,decide_eq_true (show 1≤Lib.nDigits q from h1),e9]
 simp
theorem decF_text{q:Nat}{l:List Int}(hl:∀y∈l,0≤y∧y≤9)(hn:l.length≤4)(m:Int):decF (Lib.decDigits q++dotL l++sufL m)=
 if q≤999999999 then some ((redD (q*10 ^ l.length+partD l) (10 ^ l.length)).1,(redD (q*10 ^ l.length+partD l) (10 ^ l.length)).2,sufM m)else none:=by
 have h0:Lib.decDigits q++dotL l≠[]:=by
  have k1:=Lib.decDigits_length q
  have k2:=Lib.nDigits_pos q
  intro h
  rw [List.append_eq_nil_iff]at h
  rw [h.1]at k1
  simp at k1
  omega
 unfold decF
 rw [strip_suf h0 (body_chars hl) m]
 simp only [cut_body,decP,form_body q l hn,decide_eq_true_eq]
 have e1:=natG_dec q 0
 have e2:=natG_digs l 0 hl
 rw [Int.zero_mul,Int.zero_add]at e1 e2
 rw [e1,e2]
 simp
theorem fdig_digs{d:Int}(hd:1≤d):∀(f:Nat) (r:Int) (l:List Int),0≤r→r<d→fdig d f r=some l→∀y∈l,0≤y∧y≤9
 |0,r,l,_,_,h=>by
  unfold fdig at h
  split at h<;>cases h
  intro y hy;cases hy
 |f+1,r,l,h0,h1,h=>by
  unfold fdig at h
  split at h<;>rename_i hc
  ·cases h
   intro y hy;cases hy
  ·obtain⟨q,hq,rfl⟩:=Option.map_eq_some_iff.1 h
   intro y hy
   rcases List.mem_cons.1 hy with rfl|hy
   ·constructor
    ·exact Int.ediv_nonneg (by omega) (by omega)
    ·have:r*10 / d<10:=Int.ediv_lt_of_lt_mul (by omega) (by omega)
     omega
   ·exact fdig_digs hd f _ q (Int.emod_nonneg _ (by omega)) (Int.emod_lt_of_pos _ (by omega)) hq y hy
def dec2T(n d m:Int):List UInt8:=match fdig d 4 (n % d)with|some l=>Lib.decDigits (n / d).toNat++dotL l++sufL m|none=>[]
theorem dec2_read{n d m:Int}{l:List Int}(h1:1≤d)(h2:d≤10000)(h3:0≤n)(h4:n≤1000000000000000)(hf:fdig d 4 (n % d)=some l) :
 (decF (Lib.decDigits (n / d).toNat++dotL l++sufL m)=some (n,d,m))↔decOk n d m=true:=by
 have hr0:=Int.emod_nonneg n (show d≠0 by omega)
 have hr1:=Int.emod_lt_of_pos n (show 0<d by omega)
 have hq0:0≤n / d:=Int.ediv_nonneg h3 (by omega)
 obtain⟨-,hn⟩:=fdig_some h1 4 _ l hr0 hf
 rw [decF_text (fdig_digs h1 4 _ l hr0 hr1 hf) hn m,←dec_law h1 h2 h3 h4]
 unfold dec2Ok
 rw [hf]
 have e:(((n / d).toNat:Nat):Int)=n / d:=by omega
 rw [e]
 simp only [Bool.and_eq_true,decide_eq_true_eq]
 have hm:sufM m=m↔2≤m∧m≤4:=by
  unfold sufM
  split
  ·omega
  ·split<;>omega
 constructor
 ·intro h
  split at h<;>rename_i hc
  ·simp only [Option.some.injEq,Prod.mk.injEq]at h
   exact⟨by omega,⟨h.1,h.2.1⟩,hm.1 h.2.2⟩
  ·cases h
 ·rintro⟨a,⟨b,c⟩,k⟩
  rw [if_pos (by omega),b,c,hm.2 k]
theorem dec2_none{n d m:Int}(h1:1≤d)(h2:d≤10000)(h3:0≤n)(h4:n≤1000000000000000)(hf:fdig d 4 (n % d)=none):decOk n d m=false:=by
 rw [←dec_law h1 h2 h3 h4]
 unfold dec2Ok
 rw [hf]
end Go.Proofs.YtaghhncnicbedaaGreatDoor
namespace Go.Proofs.YtaghhncnicbedaaGreatDoor
open Go.RowKit
def bfrom(s:ByteArray)(k:Nat):List UInt8:=s.data.toList.drop k
theorem bfrom_step{s:ByteArray}{k:Nat}(h:k<s.size):bfrom s k=s[k]::bfrom s (k+1):=by
 unfold bfrom
 have h2:k<s.data.toList.length:=by simpa using h
 rw [List.drop_eq_getElem_cons h2]
 congr 1
theorem bfrom_end{s:ByteArray}{k:Nat}(h:s.size≤k):bfrom s k= []:=by
 unfold bfrom
 exact List.drop_eq_nil_of_le (by simpa using h)
def natV(r:Option Int):Value:=match r with|some x=>.tuple #[.int .i64 x,.bool true]|none=>.tuple #[.int .i64 0,.bool false]
theorem natG_bd:∀(l:List UInt8) (x y:Int),0≤x→natG x l=some y→x≤y∧y≤(x+1)*10 ^ l.length-1
 | [],x,y,h0,h=>by simp [natG]at h;subst h;simp
 |c::r,x,y,h0,h=>by
  simp only [natG]at h
  split at h
  ·rename_i hd
   simp only [digc,Bool.and_eq_true,decide_eq_true_eq]at hd
   have ih:=natG_bd r _ y (by omega) h
   refine⟨by omega,Int.le_trans ih.2 ?_⟩
   have hp:(0:Int)<10 ^ r.length:=Int.pow_pos (by omega)
   have e:(x+1)*10 ^ (c::r).length=((x+1)*10)*10 ^ r.length:=by rw [List.length_cons,Int.pow_succ,Int.mul_comm (10 ^ r.length) 10,Int.mul_assoc]
   rw [e]
   have:=Int.mul_le_mul_of_nonneg_right (show 10*x+((c.toNat:Int)-48)+1≤(x+1)*10 by omega) (Int.le_of_lt hp)
   omega
  ·cases h
theorem natural2_any(s:ByteArray)(w:World)(hs:s.size≤9):Calls Tryz.prog 239 #[.string s] w fun e w'=>e= .returned (natV (natG 0 s.data.toList))∧w=w':=by
 have h00:s.data.toList=bfrom s 0:=rfl
 rw [h00]
 clear h00
 go_enter Tryz.func239,Tryz.ntmps239
 go_wp2
 go_loop [2,4] (fun v2 v4=>∃k:Nat,∃x:Int,k≤s.size∧v4= .int .i64 k∧v2= .int .i64 x∧0≤x∧x<10 ^ k∧Hid (natG x (bfrom s k)=natG 0 (bfrom s 0))) (fun _ v4=>s.size-(intOf v4).toNat)
 case atStart=>exact⟨0,0,Nat.zero_le _,rfl,rfl,by omega,by simp,Lib.hid rfl⟩
 case round=>
  obtain⟨k,x,hk,rfl,rfl,hx0,hx1,hg⟩:=hrel
  have hb:(10:Int) ^ k≤1000000000:=by
   have:=Nat.pow_le_pow_right (show 1≤10 by omega) (show k≤9 by omega)
   have h2:((10 ^ k:Nat):Int)≤((10 ^ 9:Nat):Int):=by exact_mod_cast this
   simpa using h2
  have hx2:x≤1000000000:=by omega
  have HX:=Lib.hid hx1
  clear hx1 hb
  by_cases hk2:k<s.size
  ·have hst:=bfrom_step hk2
   cases hD:digc (s[k].toNat:Int)
   ·have HG:Hid (natG 0 (bfrom s 0)=none):=Lib.hid (by rw [←hg.out,hst];simp only [natG];rw [hD];rfl)
    clear hst hg
    go_wp2_with (go_at_call 182;(with_reducible refine(digit2_any _ _).mono ?_);rintro e w' ⟨rfl,rfl⟩;simp only [hD])
    go_returns
    exact⟨by rw [HG.out];rfl,rfl⟩
   ·have hd:48≤(s[k].toNat:Int)∧(s[k].toNat:Int)≤57:=by simpa [digc]using hD
    have HG:Hid (natG (10*x+((s[k].toNat:Int)-48)) (bfrom s (k+1))=natG 0 (bfrom s 0)):=Lib.hid (by rw [←hg.out,hst];simp only [natG];rw [hD];rfl)
    clear hst hg
    obtain⟨d,hdd⟩:∃d:Int,(s[k].toNat:Int)=d:=⟨_,rfl⟩
    rw [hdd]at hd hD HG
    obtain⟨hd1,hd2⟩:=hd
    have hw:IntKind.u8.wrap (d-48)=d-48:=by simp only [IntKind.wrap_u8];omega
    go_wp2_with (go_at_call 182;(with_reducible refine(digit2_any _ _).mono ?_);rintro e w' ⟨rfl,rfl⟩;simp only [hD,hdd])
    go_round
    case rel=>exact⟨k+1,_,by omega,by go_num,rfl,by omega,by rw [Int.pow_succ];have:=HX.out;omega,HG⟩
    case measure=>simp [intOf];omega
  ·have HG:Hid (natG 0 (bfrom s 0)=some x):=Lib.hid (by rw [←hg.out,bfrom_end (by omega)];rfl)
   clear hg
   obtain rfl:k=s.size:=by omega
   go_wp2_with fail
   go_returns
   exact⟨by rw [HG.out];rfl,rfl⟩

def tlD:Code→Code
 | .seq _ b=>b
 |c=>c
def decFV(r:Option (Int × Int × Int)):Value:=match r with|some t=>.tuple #[.agg #[.int .i64 t.1,.int .i64 t.2.1],.int .i64 t.2.2,.bool true]|none=>.tuple #[.agg #[.int .i64 0,.int .i64 0],.int .i64 0,.bool false]
theorem iter_grow(Y:World)(bs:Array Obj)(d:Nat)(s:ByteArray)(pos:Nat):(Y.grow bs d).iter s pos=Y.grow (bs.push (.stringIter s pos)) d:=by
 simp [World.iter,World.grow,World.alloc]
theorem grow_at(Y:World)(bs:Array Obj)(d j:Nat):(Y.grow bs d).heap[Y.heap.size+j]? =bs[j]?:=by
 simp only [World.grow]
 rw [Array.getElem?_append_right (by omega)]
 congr 1;omega
theorem iterAt_grow(Y:World)(bs:Array Obj)(d j:Nat)(s:ByteArray)(pos:Nat):(Y.grow bs d).iterAt (Y.heap.size+j) s pos=Y.grow (bs.setIfInBounds j (.stringIter s pos)) d:=by
 simp only [World.iterAt,World.grow]
 congr 1
 rw [Array.setIfInBounds_append_right (by omega)]
 congr 2;omega
theorem redP_go{p:Int}{f:Nat}{A B:Int}(h:A % p=0∧B % p=0):redP p (f+1) A B=redP p f (A / p) (B / p):=by rw [redP,if_pos h]
theorem redP_stop{p:Int}{f:Nat}{A B:Int}(h:¬(A % p=0∧B % p=0)):redP p f A B=(A,B):=by
 cases f with
 |zero=>rfl
 |succ f=>rw [redP,if_neg h]
def RedAt(p:Int)(f0:Nat)(A0 B0:Int)(f:Nat)(A B:Int):Prop:=redP p f A B=redP p f0 A0 B0∧B<p ^ f
theorem RedAt.next{p:Int}{f0:Nat}{A0 B0:Int}{f:Nat}{A B:Int}(hp:2≤p)(h:RedAt p f0 A0 B0 f A B)(hB:1≤B)(hm:A % p=0∧B % p=0):∃g,RedAt p f0 A0 B0 g (A / p) (B / p)∧1≤B / p∧B / p<B:=by
 obtain⟨h1,h2⟩:=h
 cases f with
 |zero=>simp at h2;omega
 |succ g=>
  have e:=Int.mul_ediv_add_emod B p
  rw [hm.2,Int.add_zero]at e
  have hq:1≤B / p:=by
   rcases Int.lt_or_le (B / p) 1 with h|h
   ·have:p*(B / p)≤p*0:=Int.mul_le_mul_of_nonneg_left (by omega) (by omega)
    omega
   ·exact h
  refine⟨g,⟨by rw [←h1,redP_go hm], ?_⟩,hq, ?_⟩
  ·rw [Int.pow_succ,←e,Int.mul_comm _ p]at h2
   exact Int.lt_of_mul_lt_mul_left h2 (by omega)
  ·have:2*(B / p)≤p*(B / p):=Int.mul_le_mul_of_nonneg_right hp (by omega)
   omega
theorem idx_two(w:World):(Instr.index 281 (.agg #[.int .i64 2,.int .i64 5]) (.int .i64 0)).run Tryz.prog w= .ok (.int .i64 2) w:=by simp [Instr.index,go_sem]
theorem idx_five(w:World):(Instr.index 281 (.agg #[.int .i64 2,.int .i64 5]) (.int .i64 1)).run Tryz.prog w= .ok (.int .i64 5) w:=by simp [Instr.index,go_sem]
def boxD(w0 wr:World):Nat:=match wr.cell? ⟨w0.heap.size,1,none⟩with|some (.int _ z)=>z.toNat|_=>0
theorem dec_T3(b:ByteArray)(x p m:Int)(w:World)(bs:Array Obj)(d:Nat)(hb:b.size≤4)(hasc:∀i (h:i<b.size),(b[i]'h).toNat<128)(hx0:0≤x)(hx1:x≤1000000000)(hp0:0≤p)(hp1:p≤10000)
 (u0 u1 u4 u5 u6 u8 u10 u12 u13 u14 u15 u16 u17 u18 u19 u20 u21 u22 u23 u24 u25 u26 u27 u28 u29 u30 u31 u32 u33 u34 u35 u36 u37 u38 u39 u40 u41 u42 u43 u44 u45 u46 u47 u48 u49 u50 u51 u52 u53 u54 u55 u56 u57 u58 u59 u60 u61 u62 u63 u64 u65 u66 u67 u68 u69 u70 u71 u72 u73 u74 u75 u76 u77 u78 u79 u80 u81 u82 u83 u84 u85 u86 u87 u88 u89 u90 u91 u92 u93 u94 u95 u96 u97 u98 u99 u100 u101 u102 u103 u104 u105 u106 u107 u108 u109 u110 u111 u112 u113 u114 u115 u116 u117 u118 u119 u120 u121 u122 u123 u124 u125 u126 u127 u128 u129 u130 u131 u132 u133 u134 u135 u136 u137 u138 u139 u140 u141:Value) :
 Code.wp Tryz.prog (tlD (tlD (tlD (tlD (tlD (tlD (tlD (tlD (Tryz.f235.body.getD .skip))))))))) (bodyPost Tryz.prog Tryz.f235 (fun e w'=>e= .returned (decFV (some ((redD (x*10 ^ b.size+p) (10 ^ b.size)).1,(redD (x*10 ^ b.size+p) (10 ^ b.size)).2,m)))∧w.Grows w')) {tmps:=#[u0,u1,.pointer (some ⟨w.heap.size,0,none⟩),.int .i64 m,u4,u5,u6,.string b,u8,.int .i64 x,u10,.int .i64 p,u12,u13,u14,u15,u16,u17,u18,u19,u20,u21,u22,u23,u24,u25,u26,u27,u28,u29,u30,u31,u32,u33,u34,u35,u36,u37,u38,u39,u40,u41,u42,u43,u44,u45,u46,u47,u48,u49,u50,u51,u52,u53,u54,u55,u56,u57,u58,u59,u60,u61,u62,u63,u64,u65,u66,u67,u68,u69,u70,u71,u72,u73,u74,u75,u76,u77,u78,u79,u80,u81,u82,u83,u84,u85,u86,u87,u88,u89,u90,u91,u92,u93,u94,u95,u96,u97,u98,u99,u100,u101,u102,u103,u104,u105,u106,u107,u108,u109,u110,u111,u112,u113,u114,u115,u116,u117,u118,u119,u120,u121,u122,u123,u124,u125,u126,u127,u128,u129,u130,u131,u132,u133,u134,u135,u136,u137,u138,u139,u140,u141],defers:=[]} ((w.alloc (.cells #[.int .i64 0,.int .i64 0] 39)).grow bs d):=by
 conv=>arg 2;whnf
 have HASC:=Lib.hid hasc
 clear hasc
 go_wp2_with fail
 go_loopw [9] (fun v9 wr=>∃k:Nat,∃X E:Int,∃bs' d',k≤b.size∧v9= .int .i64 X∧wr=((w.alloc (.cells #[.int .i64 0,.int .i64 E] 39)).grow bs' d')∧bs'[bs.size]? =some (.stringIter b k)∧Hid (X=x*10 ^ k∧E=10 ^ k)∧0≤X∧X≤10000000000000∧1≤E∧E≤10000) (fun _ wr=>b.size-wr.iterPos (w.heap.size+1+bs.size))
 case atStart=>exact⟨0,x,1,_,_,Nat.zero_le _,rfl,iter_grow _ _ _ _ _,by simp,Lib.hid (by simp),by omega,by omega,by omega,by omega⟩
 case round=>
  obtain⟨k,X,E,bs2,d2,hk,rfl,rfl,hit,HXE,hX0,hX1,hE0,hE1⟩:=hrel
  have hkk:((w.alloc (.cells #[.int .i64 0,.int .i64 E] 39)).grow bs2 d2).heap[w.heap.size+1+bs.size]? =some (.stringIter b k):=by
   have:=grow_at (w.alloc (.cells #[.int .i64 0,.int .i64 E] 39)) bs2 d2 bs.size
   rw [World.size_alloc]at this
   rw [this];exact hit
  by_cases hlt:k<b.size
  ·have hnext:∀ty,(Instr.next (.pointer (some ⟨w.heap.size+1+bs.size,0,none⟩)) true ty).run Tryz.prog ((w.alloc (.cells #[.int .i64 0,.int .i64 E] 39)).grow bs2 d2)=_:=fun ty=>Lib.run_next_ascii_at _ _ b k ty hkk hlt (HASC.out k hlt)
   have hia:=iterAt_grow (w.alloc (.cells #[.int .i64 0,.int .i64 E] 39)) bs2 d2 bs.size b (k+1)
   rw [World.size_alloc]at hia
   rw [hia]at hnext
   have hbl:bs.size<bs2.size:=(Array.getElem?_eq_some_iff.1 hit).1
   have hit2:(bs2.setIfInBounds bs.size (.stringIter b (k+1)))[bs.size]? =some (.stringIter b (k+1)):=by simp [hbl]
   have hpos:((w.alloc (.cells #[.int .i64 0,.int .i64 E] 39)).grow bs2 d2).iterPos (w.heap.size+1+bs.size)=k:=by simp [World.iterPos,hkk]
   generalize bs2.setIfInBounds bs.size (.stringIter b (k+1))=bs3 at hnext hit2
   have hk3:k≤3:=by omega
   have hE3:E≤1000:=by
    have:=HXE.out.2
    obtain h|h|h|h:k=0∨k=1∨k=2∨k=3:=by omega
    all_goals rw [this,h];decide
   have hX3:X≤1000000000000:=by
    have e:=HXE.out.1
    rw [←HXE.out.2]at e
    have h1:x*E≤1000000000*E:=Int.mul_le_mul_of_nonneg_right hx1 (by omega)
    omega
   have w6:IntKind.i64.wrap (10*X)=10*X:=IntWalk.i64_in _ (by omega)
   have w7:IntKind.i64.wrap (10*E)=10*E:=IntWalk.i64_in _ (by omega)
   have HIT:=Lib.hid (And.intro hit2 (And.intro hkk hpos))
   clear hit hit2 hkk hpos hia
   go_wp2_with fail
   clear hnext
   go_region
   go_wp2_with fail
   go_roundw
   case rel=>exact⟨k+1,_,_,_,_,by omega,rfl,rfl,HIT.out.1,Lib.hid ⟨by rw [Int.pow_succ,←Int.mul_assoc,←HXE.out.1,Int.mul_comm],by rw [Int.pow_succ,←HXE.out.2,Int.mul_comm]⟩,by omega,by omega,by omega,by omega⟩
   case measure=>
    have h2:∀dd,((w.alloc (.cells #[.int .i64 0,.int .i64 (10*E)] 39)).grow bs3 dd).heap[w.heap.size+1+bs.size]? =some (.stringIter b (k+1)):=fun dd=>by
     have:=grow_at (w.alloc (.cells #[.int .i64 0,.int .i64 (10*E)] 39)) bs3 dd bs.size
     rw [World.size_alloc,HIT.out.1]at this
     exact this
    have h1:=HIT.out.2.2
    rw [h1]
    simp only [World.iterPos,h2]
    omega
  ·have hnext:∀ty,(Instr.next (.pointer (some ⟨w.heap.size+1+bs.size,0,none⟩)) true ty).run Tryz.prog ((w.alloc (.cells #[.int .i64 0,.int .i64 E] 39)).grow bs2 d2)=_:=fun ty=>Lib.run_next_end_at _ _ b k ty hkk hlt
   obtain rfl:k=b.size:=by omega
   have hN:X+p≤10000000010000:=by omega
   have HXP:=Lib.hid (show X+p=x*10 ^ b.size+p by rw [HXE.out.1])
   have HE:=Lib.hid HXE.out.2
   have h214:E<2 ^ 14:=by rw [show(2:Int) ^ 14=16384 by decide];omega
   clear hkk hit HXE hlt
   go_wp2_with fail
   clear hnext
   go_loopw [114] (fun v114 wr=>∃A B:Int,∃bs' d',wr=((w.alloc (.cells #[.int .i64 A,.int .i64 B] 39)).grow bs' d')∧0≤A∧A≤100000000000000∧1≤B∧B≤10000∧
    ((v114= .int .i64 0∧A=X+p∧B=E)∨(v114= .int .i64 1∧Hid ((A,B)=redP 2 14 (X+p) E))∨(v114= .int .i64 2∧Hid ((A,B)=redD (X+p) E)))) (fun v114 _=>2-(intOf v114).toNat)
   case atStart=>exact⟨_,_,_,_,rfl,by omega,by omega,by omega,by omega,.inl ⟨rfl,rfl,rfl⟩⟩
   case round=>
    obtain⟨A0,B0,bs4,d4,rfl,hA00,hA01,hB00,hB01,hcase⟩:=hrel
    rcases hcase with ⟨rfl,rfl,rfl⟩|⟨rfl,H1⟩|⟨rfl,H2⟩
    ·have idx2:=idx_two
     have idx5:=idx_five
     go_wp2_with fail
     clear idx2 idx5
     go_loopw [117] (fun _ wr=>∃f:Nat,∃A B:Int,∃bs' d',wr=((w.alloc (.cells #[.int .i64 A,.int .i64 B] 39)).grow bs' d')∧Hid (RedAt 2 14 (X+p) B0 f A B)∧0≤A∧A≤100000000000000∧1≤B∧B≤10000) (fun _ wr=>boxD w wr)
     case atStart=>exact⟨14,_,_,_,_,rfl,Lib.hid ⟨rfl,h214⟩,by omega,by omega,by omega,by omega⟩
     case round=>
      obtain⟨f,A,B,bs3,d3,rfl,HRD,hA0,hA1,hB0,hB1⟩:=hrel
      have e0:=Int.tmod_eq_emod_of_nonneg (b:=2) (show 0≤A from hA0)
      have e1:=Int.tmod_eq_emod_of_nonneg (b:=2) (show 0≤B by omega)
      have e2:=Int.tdiv_eq_ediv_of_nonneg (b:=2) (show 0≤A from hA0)
      have e3:=Int.tdiv_eq_ediv_of_nonneg (b:=2) (show 0≤B by omega)
      have E:=Lib.hid (And.intro e0 (And.intro e1 (And.intro e2 e3)))
      by_cases ha:A % 2=0
      ·by_cases hb2:B % 2=0
       ·obtain⟨g,hg1,hg2,hg3⟩:=HRD.out.next (by omega) hB0 ⟨ha,hb2⟩
        have HG:=Lib.hid hg1
        have hq0:0≤A / 2:=by omega
        have hq1:A / 2≤100000000000000:=by omega
        have m0:(A.tmod 2==0)=true:=by rw [e0];simpa using ha
        have m1:(B.tmod 2==0)=true:=by rw [e1];simpa using hb2
        have w2:IntKind.i64.wrap (A.tdiv 2)=A / 2:=by rw [e2];exact IntWalk.i64_in _ (by omega)
        have w3:IntKind.i64.wrap (B.tdiv 2)=B / 2:=by rw [e3];exact IntWalk.i64_in _ (by omega)
        have w4:IntKind.i64.wrap (A.tmod 2)=0:=by rw [e0,ha];rfl
        have w5:IntKind.i64.wrap (B.tmod 2)=0:=by rw [e1,hb2];rfl
        clear hg1
        clear e0 e1 e2 e3
        go_wp2_with fail
        refine TG.begin 11 (fun w'=>w'.cell? ⟨w.heap.size,1,none⟩=some (.int .i64 B)) (by kernel_rfl) (by kernel_rfl) (by simp [go_sem]) (fun hS=>?_)
        refine TG.tkB 0 hS ?_
        refine TG.tkB 2 hS ?_
        refine TG.tkB 4 hS ?_
        refine TG.tkB 6 hS ?_
        refine TG.tkB 5 hS ?_
        refine TG.tkB 7 hS ?_
        refine TG.one (i:=1) (by kernel_rfl) rfl (fun K1 hK1=>?_)
        go_simp
        refine TG.go hK1 ?_ (fun hS=>?_)
        focus
         (try dsimp only)
         simp [go_sem]
        clear hK1 K1
        (try simp only [nS])
        refine TG.tkB 3 hS ?_
        refine TG.tkB 8 hS ?_
        refine TG.one (i:=9) (by kernel_rfl) rfl (fun K1 hK1=>?_)
        go_simp
        refine TG.go hK1 ?_ (fun hS=>?_)
        focus
         (try dsimp only)
         simp [go_sem]
        clear hK1 K1
        (try simp only [nS])
        refine TG.tkB 10 hS ?_
        refine TG.one (i:=11) (by kernel_rfl) rfl (fun K1 hK1=>?_)
        go_simp
        refine hK1 _ _ (fun h=>absurd rfl h) (TG.done (by kernel_rfl) ?_)
        clear hK1 K1 hS
        (try simp only [nS])
        go_wp2_with fail
        go_roundw
        case rel=>exact⟨g,_,_,_,_,rfl,HG,by omega,by omega,by omega,by omega⟩
        case measure=>simp [boxD,go_sem];omega
       ·have HX:=Lib.hid (redP_stop (p:=2) (f:=f) (A:=A) (B:=B) (fun h=>hb2 h.2))
        have m0:(A.tmod 2==0)=true:=by rw [e0];simpa using ha
        have m1:(B.tmod 2==0)=false:=by rw [e1];simpa using hb2
        have w4:IntKind.i64.wrap (A.tmod 2)=0:=by rw [e0,ha];rfl
        have w5:IntKind.i64.wrap (B.tmod 2)=B.tmod 2:=IntWalk.i64_in _ (by rw [e1];omega)
        have hbd:1≤B.tmod 2:=by rw [e1];omega
        clear e0 e1 e2 e3
        have hb3:(B % 2==0)=false:=by simpa using hb2
        go_wp2_with fail
        go_roundw
        case rel=>exact⟨_,_,_,_,rfl,by omega,by omega,by omega,by omega,.inr (.inl ⟨rfl,Lib.hid (by rw [←HRD.out.1,HX.out])⟩)⟩
        case measure=>simp [intOf]
      ·have HX:=Lib.hid (redP_stop (p:=2) (f:=f) (A:=A) (B:=B) (fun h=>ha h.1))
       have m0:(A.tmod 2==0)=false:=by rw [e0];simpa using ha
       have w4:IntKind.i64.wrap (A.tmod 2)=A.tmod 2:=IntWalk.i64_in _ (by rw [e0];omega)
       have hbd:1≤A.tmod 2:=by rw [e0];omega
       clear e0 e1 e2 e3
       have ha3:(A % 2==0)=false:=by simpa using ha
       go_wp2_with fail
       go_roundw
       case rel=>exact⟨_,_,_,_,rfl,by omega,by omega,by omega,by omega,.inr (.inl ⟨rfl,Lib.hid (by rw [←HRD.out.1,HX.out])⟩)⟩
       case measure=>simp [intOf]
    ·have idx2:=idx_two
     have idx5:=idx_five
     go_wp2_with fail
     clear idx2 idx5
     go_loopw [117] (fun _ wr=>∃f:Nat,∃A B:Int,∃bs' d',wr=((w.alloc (.cells #[.int .i64 A,.int .i64 B] 39)).grow bs' d')∧Hid (RedAt 5 6 A0 B0 f A B)∧0≤A∧A≤100000000000000∧1≤B∧B≤10000) (fun _ wr=>boxD w wr)
     case atStart=>exact⟨6,_,_,_,_,rfl,Lib.hid ⟨rfl,(by rw [show(5:Int) ^ 6=15625 by decide];omega)⟩,by omega,by omega,by omega,by omega⟩
     case round=>
      obtain⟨f,A,B,bs3,d3,rfl,HRD,hA0,hA1,hB0,hB1⟩:=hrel
      have e0:=Int.tmod_eq_emod_of_nonneg (b:=5) (show 0≤A from hA0)
      have e1:=Int.tmod_eq_emod_of_nonneg (b:=5) (show 0≤B by omega)
      have e2:=Int.tdiv_eq_ediv_of_nonneg (b:=5) (show 0≤A from hA0)
      have e3:=Int.tdiv_eq_ediv_of_nonneg (b:=5) (show 0≤B by omega)
      have E:=Lib.hid (And.intro e0 (And.intro e1 (And.intro e2 e3)))
      by_cases ha:A % 5=0
      ·by_cases hb2:B % 5=0
       ·obtain⟨g,hg1,hg2,hg3⟩:=HRD.out.next (by omega) hB0 ⟨ha,hb2⟩
        have HG:=Lib.hid hg1
        have hq0:0≤A / 5:=by omega
        have hq1:A / 5≤100000000000000:=by omega
        have m0:(A.tmod 5==0)=true:=by rw [e0];simpa using ha
        have m1:(B.tmod 5==0)=true:=by rw [e1];simpa using hb2
        have w2:IntKind.i64.wrap (A.tdiv 5)=A / 5:=by rw [e2];exact IntWalk.i64_in _ (by omega)
        have w3:IntKind.i64.wrap (B.tdiv 5)=B / 5:=by rw [e3];exact IntWalk.i64_in _ (by omega)
        have w4:IntKind.i64.wrap (A.tmod 5)=0:=by rw [e0,ha];rfl
        have w5:IntKind.i64.wrap (B.tmod 5)=0:=by rw [e1,hb2];rfl
        clear hg1
        clear e0 e1 e2 e3
        go_wp2_with fail
        refine TG.begin 11 (fun w'=>w'.cell? ⟨w.heap.size,1,none⟩=some (.int .i64 B)) (by kernel_rfl) (by kernel_rfl) (by simp [go_sem]) (fun hS=>?_)
        refine TG.tkB 0 hS ?_
        refine TG.tkB 2 hS ?_
        refine TG.tkB 4 hS ?_
        refine TG.tkB 6 hS ?_
        refine TG.tkB 5 hS ?_
        refine TG.tkB 7 hS ?_
        refine TG.one (i:=1) (by kernel_rfl) rfl (fun K1 hK1=>?_)
        go_simp
        refine TG.go hK1 ?_ (fun hS=>?_)
        focus
         (try dsimp only)
         simp [go_sem]
        clear hK1 K1
        (try simp only [nS])
        refine TG.tkB 3 hS ?_
        refine TG.tkB 8 hS ?_
        refine TG.one (i:=9) (by kernel_rfl) rfl (fun K1 hK1=>?_)
        go_simp
        refine TG.go hK1 ?_ (fun hS=>?_)
        focus
         (try dsimp only)
         simp [go_sem]
        clear hK1 K1
        (try simp only [nS])
        refine TG.tkB 10 hS ?_
        refine TG.one (i:=11) (by kernel_rfl) rfl (fun K1 hK1=>?_)
        go_simp
        refine hK1 _ _ (fun h=>absurd rfl h) (TG.done (by kernel_rfl) ?_)
        clear hK1 K1 hS
        (try simp only [nS])
        go_wp2_with fail
        go_roundw
        case rel=>exact⟨g,_,_,_,_,rfl,HG,by omega,by omega,by omega,by omega⟩
        case measure=>simp [boxD,go_sem];omega
       ·have HX:=Lib.hid (redP_stop (p:=5) (f:=f) (A:=A) (B:=B) (fun h=>hb2 h.2))
        have m0:(A.tmod 5==0)=true:=by rw [e0];simpa using ha
        have m1:(B.tmod 5==0)=false:=by rw [e1];simpa using hb2
        have w4:IntKind.i64.wrap (A.tmod 5)=0:=by rw [e0,ha];rfl
        have w5:IntKind.i64.wrap (B.tmod 5)=B.tmod 5:=IntWalk.i64_in _ (by rw [e1];omega)
        have hbd:1≤B.tmod 5:=by rw [e1];omega
        clear e0 e1 e2 e3
        have hb3:(B % 5==0)=false:=by simpa using hb2
        go_wp2_with fail
        go_roundw
        case rel=>exact⟨_,_,_,_,rfl,by omega,by omega,by omega,by omega,.inr (.inr ⟨rfl,Lib.hid (by unfold redD;rw [←H1.out,←HX.out];exact HRD.out.1)⟩)⟩
        case measure=>simp [intOf]
      ·have HX:=Lib.hid (redP_stop (p:=5) (f:=f) (A:=A) (B:=B) (fun h=>ha h.1))
       have m0:(A.tmod 5==0)=false:=by rw [e0];simpa using ha
       have w4:IntKind.i64.wrap (A.tmod 5)=A.tmod 5:=IntWalk.i64_in _ (by rw [e0];omega)
       have hbd:1≤A.tmod 5:=by rw [e0];omega
       clear e0 e1 e2 e3
       have ha3:(A % 5==0)=false:=by simpa using ha
       go_wp2_with fail
       go_roundw
       case rel=>exact⟨_,_,_,_,rfl,by omega,by omega,by omega,by omega,.inr (.inr ⟨rfl,Lib.hid (by unfold redD;rw [←H1.out,←HX.out];exact HRD.out.1)⟩)⟩
       case measure=>simp [intOf]
    ·go_wp2_with fail
     go_returns
     refine⟨?_,.of_below belB⟩
     have e:=H2.out
     rw [HXP.out,HE.out]at e
     rw [←e]
     rfl

theorem natG_ascii:∀(l:List UInt8) (x y:Int),natG x l=some y→∀c∈l,c.toNat<128
 | [],_,_,_,c,hc=>by cases hc
 |e::r,x,y,h,c,hc=>by
  simp only [natG]at h
  split at h
  ·rename_i hd
   rcases List.mem_cons.1 hc with rfl|hc
   ·simp only [digc,Bool.and_eq_true,decide_eq_true_eq]at hd;omega
   ·exact natG_ascii r _ y h c hc
  ·cases h
def decN(a b:ByteArray)(m:Int):Option (Int × Int × Int):=(natG 0 a.data.toList).bind fun x=>(natG 0 b.data.toList).map fun p=>((redD (x*10 ^ b.size+p) (10 ^ b.size)).1,(redD (x*10 ^ b.size+p) (10 ^ b.size)).2,m)
theorem dec_T2(a b:ByteArray)(m:Int)(w:World)(bs:Array Obj)(d:Nat)(ha:a.size≤9)(hb:b.size≤4)
 (u0 u1 u4 u5 u8 u9 u10 u11 u12 u13 u14 u15 u16 u17 u18 u19 u20 u21 u22 u23 u24 u25 u26 u27 u28 u29 u30 u31 u32 u33 u34 u35 u36 u37 u38 u39 u40 u41 u42 u43 u44 u45 u46 u47 u48 u49 u50 u51 u52 u53 u54 u55 u56 u57 u58 u59 u60 u61 u62 u63 u64 u65 u66 u67 u68 u69 u70 u71 u72 u73 u74 u75 u76 u77 u78 u79 u80 u81 u82 u83 u84 u85 u86 u87 u88 u89 u90 u91 u92 u93 u94 u95 u96 u97 u98 u99 u100 u101 u102 u103 u104 u105 u106 u107 u108 u109 u110 u111 u112 u113 u114 u115 u116 u117 u118 u119 u120 u121 u122 u123 u124 u125 u126 u127 u128 u129 u130 u131 u132 u133 u134 u135 u136 u137 u138 u139 u140 u141:Value) :
 Code.wp Tryz.prog (tlD (tlD (tlD (tlD (tlD (Tryz.f235.body.getD .skip)))))) (bodyPost Tryz.prog Tryz.f235 (fun e w'=>e= .returned (decFV (decN a b m))∧w.Grows w')) {tmps:=#[u0,u1,.pointer (some ⟨w.heap.size,0,none⟩),.int .i64 m,u4,u5,.string a,.string b,u8,u9,u10,u11,u12,u13,u14,u15,u16,u17,u18,u19,u20,u21,u22,u23,u24,u25,u26,u27,u28,u29,u30,u31,u32,u33,u34,u35,u36,u37,u38,u39,u40,u41,u42,u43,u44,u45,u46,u47,u48,u49,u50,u51,u52,u53,u54,u55,u56,u57,u58,u59,u60,u61,u62,u63,u64,u65,u66,u67,u68,u69,u70,u71,u72,u73,u74,u75,u76,u77,u78,u79,u80,u81,u82,u83,u84,u85,u86,u87,u88,u89,u90,u91,u92,u93,u94,u95,u96,u97,u98,u99,u100,u101,u102,u103,u104,u105,u106,u107,u108,u109,u110,u111,u112,u113,u114,u115,u116,u117,u118,u119,u120,u121,u122,u123,u124,u125,u126,u127,u128,u129,u130,u131,u132,u133,u134,u135,u136,u137,u138,u139,u140,u141],defers:=[]} ((w.alloc (.cells #[.int .i64 0,.int .i64 0] 39)).grow bs d):=by
 have HA:Hid _:=Lib.hid (fun w=>natural2_any a w (by omega))
 have HB:Hid _:=Lib.hid (fun w=>natural2_any b w (by omega))
 unfold decN
 cases hna:natG 0 a.data.toList with
 |none=>
  rw [hna]at HA
  simp only [natV,Option.bind_none]at HA ⊢
  clear hna
  cases hnb:natG 0 b.data.toList with
  |none=>
   rw [hnb]at HB
   simp only [natV]at HB
   clear hnb
   conv=>arg 2;whnf
   go_wp2_with ((go_at_call 239;first|(with_reducible refine(HA.out _).mono ?_)|(with_reducible refine(HB.out _).mono ?_));rintro e w' ⟨rfl,rfl⟩)
   go_returns
   exact⟨rfl,.of_below belB⟩
  |some p=>
   rw [hnb]at HB
   simp only [natV]at HB
   clear hnb
   conv=>arg 2;whnf
   go_wp2_with ((go_at_call 239;first|(with_reducible refine(HA.out _).mono ?_)|(with_reducible refine(HB.out _).mono ?_));rintro e w' ⟨rfl,rfl⟩)
   go_returns
   exact⟨rfl,.of_below belB⟩
 |some x=>
  have bx:=natG_bd _ 0 x (by omega) hna
  rw [hna]at HA
  simp only [natV,Option.bind_some]at HA ⊢
  clear hna
  cases hnb:natG 0 b.data.toList with
  |none=>
   rw [hnb]at HB
   simp only [natV,Option.map_none]at HB ⊢
   clear hnb
   conv=>arg 2;whnf
   go_wp2_with ((go_at_call 239;first|(with_reducible refine(HA.out _).mono ?_)|(with_reducible refine(HB.out _).mono ?_));rintro e w' ⟨rfl,rfl⟩)
   go_returns
   exact⟨rfl,.of_below belB⟩
  |some p=>
   have bp:=natG_bd _ 0 p (by omega) hnb
   have hasc:=natG_ascii _ _ _ hnb
   have hx:x≤1000000000:=by
    have h1:a.data.toList.length=a.size:=by simp
    rw [h1]at bx
    have h2:=Nat.pow_le_pow_right (show 1≤10 by omega) ha
    have h3:((10 ^ a.size:Nat):Int)≤((10 ^ 9:Nat):Int):=by exact_mod_cast h2
    simp at h3
    omega
   have hp:p≤10000:=by
    have h1:b.data.toList.length=b.size:=by simp
    rw [h1]at bp
    have h2:=Nat.pow_le_pow_right (show 1≤10 by omega) hb
    have h3:((10 ^ b.size:Nat):Int)≤((10 ^ 4:Nat):Int):=by exact_mod_cast h2
    simp at h3
    omega
   have hx0:=bx.1
   have hp0:=bp.1
   rw [hnb]at HB
   simp only [natV,Option.map_some]at HB ⊢
   clear hnb bx bp
   have hasc2:∀i (h:i<b.size),(b[i]'h).toNat<128:=fun i h=>hasc _ (by
    have:b[i]'h=b.data.toList[i]'(by simpa using h):=by simp;rfl
    rw [this];exact List.getElem_mem _)
   have HH:=Lib.hid (And.intro hasc2 (And.intro hx (And.intro hp (And.intro hx0 hp0))))
   clear hasc hasc2 hx hp hx0 hp0
   conv=>arg 2;whnf
   apply wp_seq_k
   intro K1 hK1
   have HK1:=Lib.hid hK1
   clear hK1
   go_wp2_with ((go_at_call 239;first|(with_reducible refine(HA.out _).mono ?_)|(with_reducible refine(HB.out _).mono ?_));rintro e w' ⟨rfl,rfl⟩)
   refine HK1.out _ _ ?_
   clear HK1 K1
   apply wp_seq_k
   intro K2 hK2
   have HK2:=Lib.hid hK2
   clear hK2
   go_wp2_with ((go_at_call 239;first|(with_reducible refine(HA.out _).mono ?_)|(with_reducible refine(HB.out _).mono ?_));rintro e w' ⟨rfl,rfl⟩)
   refine HK2.out _ _ ?_
   clear HK2 K2
   apply wp_seq_k
   intro K3 hK3
   have HK3:=Lib.hid hK3
   clear hK3
   go_wp2_with ((go_at_call 239;first|(with_reducible refine(HA.out _).mono ?_)|(with_reducible refine(HB.out _).mono ?_));rintro e w' ⟨rfl,rfl⟩)
   refine HK3.out _ _ ?_
   exact dec_T3 b x p m w bs _ hb HH.out.1 HH.out.2.2.2.1 HH.out.2.1 HH.out.2.2.2.2 HH.out.2.2.1 _ _ _ _ _ _ _ _ _ _ _ _ _ _ _ _ _ _ _ _ _ _ _ _ _ _ _ _ _ _ _ _ _ _ _ _ _ _ _ _ _ _ _ _ _ _ _ _ _ _ _ _ _ _ _ _ _ _ _ _ _ _ _ _ _ _ _ _ _ _ _ _ _ _ _ _ _ _ _ _ _ _ _ _ _ _ _ _ _ _ _ _ _ _ _ _ _ _ _ _ _ _ _ _ _ _ _ _ _ _ _ _ _ _ _ _ _ _ _ _ _ _ _ _ _ _ _ _ _ _ _ _ _ _ _ _ _

theorem node_any2(s:Nat)(lv ev:Value)(zs:List Int)(env:List (ByteArray × Int))(n:Nat)(IH:Hid (ExprOK s lv ev zs env n))(op deep:Int)(ds:List Int)(db:Nat)(p:Nat)(P left:Int)(l:List Ex)(p':Nat)(l':Int)(X:World)(hr:Hid (nodeF (exprF zs env n) ds p left=(l,p',l')))(hP:P=p)(hn:n≤5)(hdeep:deep+1=6-n)(hop:0≤op∧op≤100)
 (hs:s<X.heap.size) (hX:X.src s lv P left=X) (hl:Hid (ListAt X s lv zs)) (he:Hid (EnvAt X s ev env)) (hp:p+3*costN n≤900000) (hleft:-900000≤left-3*costN n) (hleft2:left≤900000)
 (hdl:ds.length≤3) (hdb:db<X.heap.size) (hdbs:db≠s) (hdr:∀d∈ds,1≤d∧d≤4) (hdc:∀i,i<ds.length→X.cell? ⟨db,i,none⟩=some (.int .i64 (ds.getD i 0))) :
 Calls Tryz.prog 121 #[.pointer (some ⟨s,0,none⟩),.int .i64 op,.int .i64 deep,ev,.slice (some ⟨db,0,none⟩) ds.length ds.length] X
  (ExPost s lv X (.mk op 0 0 0 ByteArray.empty l,p',l')):=by
 have:=node_any s lv ev zs env n IH op deep ds db p P left X hP hn hdeep hop hs hX hl he hp hleft hleft2 hdl hdb hdbs (Lib.hid fun i hi=>by
  have hm:ds.getD i 0∈ds:=by rw [List.getD_eq_getElem?_getD,List.getElem?_eq_getElem hi];exact List.getElem_mem hi
  exact hdr _ hm) (Lib.hid hdc)
 rw [hr.out]at this
 exact this
theorem cell_dims(w:World)(ds:List Int)(t:TypeId)(H:Nat)(hH:w.heap.size=H):∀i,i<ds.length→(w.alloc (.cells (ds.map (Value.int .i64)).toArray t)).cell? ⟨H,i,none⟩=some (.int .i64 (ds.getD i 0)):=by
 subst hH
 intro i hi
 rw [World.cell?_alloc_at _ _ _ _ rfl,List.getD_eq_getElem?_getD,List.getElem?_eq_getElem hi]
 simp [hi]
theorem dims1{a:Int}(ha:1≤a∧a≤4):∀d∈[a],1≤d∧d≤4:=by intro d hd;simp at hd;subst hd;exact ha
theorem dims2{a b:Int}(ha:1≤a∧a≤4)(hb:1≤b∧b≤4):∀d∈[a,b],1≤d∧d≤4:=by intro d hd;simp at hd;rcases hd with rfl|rfl<;>assumption
theorem dims3{a b c:Int}(ha:1≤a∧a≤4)(hb:1≤b∧b≤4)(hc:1≤c∧c≤4):∀d∈[a,b,c],1≤d∧d≤4:=by intro d hd;simp at hd;rcases hd with rfl|rfl|rfl<;>assumption
theorem alloc_drewN'(w:World)(n:Nat)(o:Obj):(w.drewN n).alloc o=(w.alloc o).drewN n:=rfl
theorem RepE.form{S:Nat→Prop}{w:World}{e:Ex}{v:Value}(h:RepE S w e v):∃a cap,v= .slice a e.args.length cap:=by cases h;exact⟨_,_,rfl⟩
theorem expr_zero(s:Nat)(lv ev:Value)(zs:List Int)(env:List (ByteArray × Int)):ExprOK s lv ev zs env 0:=by
 unfold ExprOK
 intro dim p P left deep r X hr hP hdeep hd1 hd4 hs hX hl he hp hleft hleft2
 subst hP
 suffices h:Calls Tryz.prog 63 #[.pointer (some ⟨s,0,none⟩),.int .i64 dim,.int .i64 deep,ev] (X.src s lv p left) (ExPost s lv X r)by rw [hX]at h;exact h
 clear hX
 obtain⟨E,p',l'⟩:=r
 have HL:Hid (leafF zs env dim p left=(E,p',l')):=Lib.hid hr.out
 have hc:costN 0=8:=rfl
 rw [hc]at hp hleft
 have h6:6≤deep:=by omega
 clear hdeep
 go_enter Tryz.func63,Tryz.ntmps63
 go_wp2_with fail
 refine(leaf_any s lv zs p _ left _ _ env _ rfl (by omega) (by omega) (by simp;omega) (by simp [go_sem,hs]) (Lib.hid (by(repeat' (first|(with_reducible exact hl.out)|(with_reducible refine ListAt.alloc ?_ _)|(with_reducible refine ListAt.grow ?_ _ _)|(with_reducible refine ListAt.drewN ?_ _)|(with_reducible refine ListAt.src ?_ _ _ _))))) (Lib.hid (by(repeat' (first|(with_reducible exact he.out)|(with_reducible refine EnvAt.alloc ?_ _)|(with_reducible refine EnvAt.grow ?_ _ _)|(with_reducible refine EnvAt.drewN ?_ _)|(with_reducible refine EnvAt.src ?_ _ _ _))))) (by omega) (by omega) (by omega)).mono ?_
 rintro e w' ⟨v,bs,d,rfl,rfl,hrep⟩
 rw [HL.out]at hrep
 simp only [HL.out]
 have H1:=Lib.hid hrep
 obtain⟨va,vc,hv⟩:=hrep.form
 subst hv
 clear hrep
 go_wp2_with fail
 go_returns
 refine ExPost.of_eq (P':=(p':Int)) rfl rfl rfl (.of_below belB) (((H1.out.eqw (w':=((X.src s lv (p':Int) l').alloc (.cells #[.int .i64 0,.int .i64 0,.int .i64 0,.int .i64 0,.string ⟨#[]⟩,.slice none 0 0] 91)).grow bs d) (by simp [go_sem,hs,alloc_drewN'])).lift0 ?_ ?_ d).mono ?_)
 all_goals first
  |(intro b hb;simp at hb;omega)
  |(simp;done)
  |(simp;omega)
theorem expr_low(s:Nat)(lv ev:Value)(zs:List Int)(env:List (ByteArray × Int))(n:Nat)(dim:Int)(p:Nat)(left deep:Int)(E:Ex)(p':Nat)(l':Int)(X:World)(hr:Hid (leafF zs env dim p left=(E,p',l')))(hleft0:left≤0)(hdeep:deep=5-n)(hn:n≤4)(hd1:1≤dim)(hd4:dim≤4)(hs:s<X.heap.size)
 (hl:Hid (ListAt X s lv zs)) (he:Hid (EnvAt X s ev env)) (hp:p≤900000) (hleft:-900000≤left) (hleft2:left≤900000):Calls Tryz.prog 63 #[.pointer (some ⟨s,0,none⟩),.int .i64 dim,.int .i64 deep,ev] (X.src s lv p left) (ExPost s lv X (E,p',l')):=by
 have h6:deep<6:=by omega
 have HL:=hr
 go_enter Tryz.func63,Tryz.ntmps63
 go_wp2_with fail
 refine(leaf_any s lv zs p _ left _ _ env _ rfl (by omega) (by omega) (by simp;omega) (by simp [go_sem,hs]) (Lib.hid (by(repeat' (first|(with_reducible exact hl.out)|(with_reducible refine ListAt.alloc ?_ _)|(with_reducible refine ListAt.grow ?_ _ _)|(with_reducible refine ListAt.drewN ?_ _)|(with_reducible refine ListAt.src ?_ _ _ _))))) (Lib.hid (by(repeat' (first|(with_reducible exact he.out)|(with_reducible refine EnvAt.alloc ?_ _)|(with_reducible refine EnvAt.grow ?_ _ _)|(with_reducible refine EnvAt.drewN ?_ _)|(with_reducible refine EnvAt.src ?_ _ _ _))))) (by omega) (by omega) (by omega)).mono ?_
 rintro e w' ⟨v,bs,d,rfl,rfl,hrep⟩
 rw [HL.out]at hrep
 simp only [HL.out]
 have H1:=Lib.hid hrep
 obtain⟨va,vc,hv⟩:=hrep.form
 subst hv
 clear hrep
 go_wp2_with fail
 go_returns
 refine ExPost.of_eq (P':=(p':Int)) rfl rfl rfl (.of_below belB) (((H1.out.eqw (w':=((X.src s lv (p':Int) l').alloc (.cells #[.int .i64 0,.int .i64 0,.int .i64 0,.int .i64 0,.string ⟨#[]⟩,.slice none 0 0] 91)).grow bs d) (by simp [go_sem,hs,alloc_drewN'])).lift0 ?_ ?_ d).mono ?_)
 all_goals first
  |(intro b hb;simp at hb;omega)
  |(simp;done)
  |(simp;omega)
theorem expr_b0
 (s:Nat) (lv ev:Value) (zs:List Int) (env:List (ByteArray × Int)) (n:Nat) (IH:Hid (ExprOK s lv ev zs env n)) (dim:Int) (p:Nat) (left deep:Int) (E:Ex) (p':Nat) (l':Int) (kk:Int) (X:World) (hr:Hid (exprF zs env (n+1) dim p left=(E,p',l'))) (HK:Hid (nextV zs p 14=kk)) (hleft0:0<left) (hdeep:Hid (deep=5-n)) (hn:n≤4) (hd4:dim≤4) (hs:s<X.heap.size) (hl:Hid (ListAt X s lv zs)) (he:Hid (EnvAt X s ev env)) (hp:p+(3*costN n+3)≤900000) (hleft:-900000≤left-(3*(costN n:Int)+3)) (hleft2:left≤900000)
 (hd1:dim=1) (hkk:kk=0):(Calls Tryz.prog 63 #[.pointer (some ⟨s,0,none⟩),.int .i64 dim,.int .i64 deep,ev] (X.src s lv p left) (ExPost s lv X (E,p',l'))):=by
 subst hd1
 subst hkk
 have hpr:prodF zs p 1=some (17,[1,1],p+1):=by simp [prodF,HK.out]
 have hF:=exprF_some zs env n _ p left hleft0 hpr
 rw [hr.out]at hF
 generalize hll:nodeF (exprF zs env n) [1,1] (p+1) (left-2)=rr at hF
 obtain⟨ll,pp,le⟩:=rr
 simp only [Prod.mk.injEq]at hF
 obtain⟨rfl,rfl,rfl⟩:=hF
 have HLL:=Lib.hid hll
 clear hll hpr
 have h6:deep<6:=by have:=hdeep.out;omega
 have hc8:=costN_8 n
 go_enter Tryz.func63,Tryz.ntmps63
 go_wp2_with fail
 refine(next_any s lv zs p p (left-2) _ _ rfl (by simp;omega) (by simp [go_sem,hs]) (by(repeat' (first|(with_reducible exact hl.out)|(with_reducible refine ListAt.alloc ?_ _)|(with_reducible refine ListAt.grow ?_ _ _)|(with_reducible refine ListAt.drewN ?_ _)|(with_reducible refine ListAt.src ?_ _ _ _)))) (by omega) (by omega)).mono ?_
 rintro e w' ⟨rfl,n1,rfl⟩
 rw [HK.out]
 go_wp2_with fail
 refine(node_any2 s lv ev zs env n IH _ _ [1,1] _ (p+1) ((p:Int)+1) _ ll p' l' _ HLL (by omega) (by omega) (by have:=hdeep.out;omega) (by omega) (by simp;omega) (by simp [go_sem,hs]) (Lib.hid (by(repeat' (first|(with_reducible exact hl.out)|(with_reducible refine ListAt.alloc ?_ _)|(with_reducible refine ListAt.grow ?_ _ _)|(with_reducible refine ListAt.drewN ?_ _)|(with_reducible refine ListAt.src ?_ _ _ _))))) (Lib.hid (by(repeat' (first|(with_reducible exact he.out)|(with_reducible refine EnvAt.alloc ?_ _)|(with_reducible refine EnvAt.grow ?_ _ _)|(with_reducible refine EnvAt.drewN ?_ _)|(with_reducible refine EnvAt.src ?_ _ _ _))))) (by omega) (by omega) (by omega) (by simp) (by simp) (by omega) (dims2 (by omega) (by omega)) (cell_dims _ [1,1] _ _ (by simp))).mono ?_
 rintro e w' ⟨v,bs,d,rfl,rfl,hrep⟩
 have H1:=Lib.hid hrep
 obtain⟨va,vc,hv⟩:=hrep.form
 subst hv
 clear hrep
 go_wp2_with fail
 go_returns
 refine ExPost.of_eq (P':=(p':Int)) rfl rfl rfl (.of_below belB) (((H1.out.eqw (w':=(((X.src s lv (p':Int) l').alloc (.cells #[.int .i64 0,.int .i64 0,.int .i64 0,.int .i64 0,.string ⟨#[]⟩,.slice none 0 0] 91)).alloc (.cells #[.int .i64 1,.int .i64 1] 3)).grow bs d) (by simp [go_sem,hs,alloc_drewN'])).lift0 ?_ ?_ d).mono ?_)
 all_goals first
  |(intro b hb;simp at hb;omega)
  |(simp;done)
  |(simp;omega)
theorem expr_b1
 (s:Nat) (lv ev:Value) (zs:List Int) (env:List (ByteArray × Int)) (n:Nat) (IH:Hid (ExprOK s lv ev zs env n)) (dim:Int) (p:Nat) (left deep:Int) (E:Ex) (p':Nat) (l':Int) (kk:Int) (X:World) (hr:Hid (exprF zs env (n+1) dim p left=(E,p',l'))) (HK:Hid (nextV zs p 14=kk)) (hleft0:0<left) (hdeep:Hid (deep=5-n)) (hn:n≤4) (hd4:dim≤4) (hs:s<X.heap.size) (hl:Hid (ListAt X s lv zs)) (he:Hid (EnvAt X s ev env)) (hp:p+(3*costN n+3)≤900000) (hleft:-900000≤left-(3*(costN n:Int)+3)) (hleft2:left≤900000)
 (hd1:dim=1) (hkk:kk=1):(Calls Tryz.prog 63 #[.pointer (some ⟨s,0,none⟩),.int .i64 dim,.int .i64 deep,ev] (X.src s lv p left) (ExPost s lv X (E,p',l'))):=by
 subst hd1
 subst hkk
 have hpr:prodF zs p 1=some (18,[1,1],p+1):=by simp [prodF,HK.out]
 have hF:=exprF_some zs env n _ p left hleft0 hpr
 rw [hr.out]at hF
 generalize hll:nodeF (exprF zs env n) [1,1] (p+1) (left-2)=rr at hF
 obtain⟨ll,pp,le⟩:=rr
 simp only [Prod.mk.injEq]at hF
 obtain⟨rfl,rfl,rfl⟩:=hF
 have HLL:=Lib.hid hll
 clear hll hpr
 have h6:deep<6:=by have:=hdeep.out;omega
 have hc8:=costN_8 n
 go_enter Tryz.func63,Tryz.ntmps63
 go_wp2_with fail
 refine(next_any s lv zs p p (left-2) _ _ rfl (by simp;omega) (by simp [go_sem,hs]) (by(repeat' (first|(with_reducible exact hl.out)|(with_reducible refine ListAt.alloc ?_ _)|(with_reducible refine ListAt.grow ?_ _ _)|(with_reducible refine ListAt.drewN ?_ _)|(with_reducible refine ListAt.src ?_ _ _ _)))) (by omega) (by omega)).mono ?_
 rintro e w' ⟨rfl,n1,rfl⟩
 rw [HK.out]
 go_wp2_with fail
 refine(node_any2 s lv ev zs env n IH _ _ [1,1] _ (p+1) ((p:Int)+1) _ ll p' l' _ HLL (by omega) (by omega) (by have:=hdeep.out;omega) (by omega) (by simp;omega) (by simp [go_sem,hs]) (Lib.hid (by(repeat' (first|(with_reducible exact hl.out)|(with_reducible refine ListAt.alloc ?_ _)|(with_reducible refine ListAt.grow ?_ _ _)|(with_reducible refine ListAt.drewN ?_ _)|(with_reducible refine ListAt.src ?_ _ _ _))))) (Lib.hid (by(repeat' (first|(with_reducible exact he.out)|(with_reducible refine EnvAt.alloc ?_ _)|(with_reducible refine EnvAt.grow ?_ _ _)|(with_reducible refine EnvAt.drewN ?_ _)|(with_reducible refine EnvAt.src ?_ _ _ _))))) (by omega) (by omega) (by omega) (by simp) (by simp) (by omega) (dims2 (by omega) (by omega)) (cell_dims _ [1,1] _ _ (by simp))).mono ?_
 rintro e w' ⟨v,bs,d,rfl,rfl,hrep⟩
 have H1:=Lib.hid hrep
 obtain⟨va,vc,hv⟩:=hrep.form
 subst hv
 clear hrep
 go_wp2_with fail
 go_returns
 refine ExPost.of_eq (P':=(p':Int)) rfl rfl rfl (.of_below belB) (((H1.out.eqw (w':=(((X.src s lv (p':Int) l').alloc (.cells #[.int .i64 0,.int .i64 0,.int .i64 0,.int .i64 0,.string ⟨#[]⟩,.slice none 0 0] 91)).alloc (.cells #[.int .i64 1,.int .i64 1] 3)).grow bs d) (by simp [go_sem,hs,alloc_drewN'])).lift0 ?_ ?_ d).mono ?_)
 all_goals first
  |(intro b hb;simp at hb;omega)
  |(simp;done)
  |(simp;omega)
theorem expr_b2
 (s:Nat) (lv ev:Value) (zs:List Int) (env:List (ByteArray × Int)) (n:Nat) (IH:Hid (ExprOK s lv ev zs env n)) (dim:Int) (p:Nat) (left deep:Int) (E:Ex) (p':Nat) (l':Int) (kk:Int) (X:World) (hr:Hid (exprF zs env (n+1) dim p left=(E,p',l'))) (HK:Hid (nextV zs p 14=kk)) (hleft0:0<left) (hdeep:Hid (deep=5-n)) (hn:n≤4) (hd4:dim≤4) (hs:s<X.heap.size) (hl:Hid (ListAt X s lv zs)) (he:Hid (EnvAt X s ev env)) (hp:p+(3*costN n+3)≤900000) (hleft:-900000≤left-(3*(costN n:Int)+3)) (hleft2:left≤900000)
 (hd1:dim=1) (hkk:kk=2):(Calls Tryz.prog 63 #[.pointer (some ⟨s,0,none⟩),.int .i64 dim,.int .i64 deep,ev] (X.src s lv p left) (ExPost s lv X (E,p',l'))):=by
 subst hd1
 subst hkk
 have hpr:prodF zs p 1=some (5,[1],p+1):=by simp [prodF,HK.out]
 have hF:=exprF_some zs env n _ p left hleft0 hpr
 rw [hr.out]at hF
 generalize hll:nodeF (exprF zs env n) [1] (p+1) (left-2)=rr at hF
 obtain⟨ll,pp,le⟩:=rr
 simp only [Prod.mk.injEq]at hF
 obtain⟨rfl,rfl,rfl⟩:=hF
 have HLL:=Lib.hid hll
 clear hll hpr
 have h6:deep<6:=by have:=hdeep.out;omega
 have hc8:=costN_8 n
 go_enter Tryz.func63,Tryz.ntmps63
 go_wp2_with fail
 refine(next_any s lv zs p p (left-2) _ _ rfl (by simp;omega) (by simp [go_sem,hs]) (by(repeat' (first|(with_reducible exact hl.out)|(with_reducible refine ListAt.alloc ?_ _)|(with_reducible refine ListAt.grow ?_ _ _)|(with_reducible refine ListAt.drewN ?_ _)|(with_reducible refine ListAt.src ?_ _ _ _)))) (by omega) (by omega)).mono ?_
 rintro e w' ⟨rfl,n1,rfl⟩
 rw [HK.out]
 go_wp2_with fail
 refine(node_any2 s lv ev zs env n IH _ _ [1] _ (p+1) ((p:Int)+1) _ ll p' l' _ HLL (by omega) (by omega) (by have:=hdeep.out;omega) (by omega) (by simp;omega) (by simp [go_sem,hs]) (Lib.hid (by(repeat' (first|(with_reducible exact hl.out)|(with_reducible refine ListAt.alloc ?_ _)|(with_reducible refine ListAt.grow ?_ _ _)|(with_reducible refine ListAt.drewN ?_ _)|(with_reducible refine ListAt.src ?_ _ _ _))))) (Lib.hid (by(repeat' (first|(with_reducible exact he.out)|(with_reducible refine EnvAt.alloc ?_ _)|(with_reducible refine EnvAt.grow ?_ _ _)|(with_reducible refine EnvAt.drewN ?_ _)|(with_reducible refine EnvAt.src ?_ _ _ _))))) (by omega) (by omega) (by omega) (by simp) (by simp) (by omega) (dims1 (by omega)) (cell_dims _ [1] _ _ (by simp))).mono ?_
 rintro e w' ⟨v,bs,d,rfl,rfl,hrep⟩
 have H1:=Lib.hid hrep
 obtain⟨va,vc,hv⟩:=hrep.form
 subst hv
 clear hrep
 go_wp2_with fail
 go_returns
 refine ExPost.of_eq (P':=(p':Int)) rfl rfl rfl (.of_below belB) (((H1.out.eqw (w':=(((X.src s lv (p':Int) l').alloc (.cells #[.int .i64 0,.int .i64 0,.int .i64 0,.int .i64 0,.string ⟨#[]⟩,.slice none 0 0] 91)).alloc (.cells #[.int .i64 1] 3)).grow bs d) (by simp [go_sem,hs,alloc_drewN'])).lift0 ?_ ?_ d).mono ?_)
 all_goals first
  |(intro b hb;simp at hb;omega)
  |(simp;done)
  |(simp;omega)
theorem expr_b3
 (s:Nat) (lv ev:Value) (zs:List Int) (env:List (ByteArray × Int)) (n:Nat) (IH:Hid (ExprOK s lv ev zs env n)) (dim:Int) (p:Nat) (left deep:Int) (E:Ex) (p':Nat) (l':Int) (kk:Int) (X:World) (hr:Hid (exprF zs env (n+1) dim p left=(E,p',l'))) (HK:Hid (nextV zs p 14=kk)) (hleft0:0<left) (hdeep:Hid (deep=5-n)) (hn:n≤4) (hd4:dim≤4) (hs:s<X.heap.size) (hl:Hid (ListAt X s lv zs)) (he:Hid (EnvAt X s ev env)) (hp:p+(3*costN n+3)≤900000) (hleft:-900000≤left-(3*(costN n:Int)+3)) (hleft2:left≤900000)
 (hd1:dim=1) (hkk:kk=3):(Calls Tryz.prog 63 #[.pointer (some ⟨s,0,none⟩),.int .i64 dim,.int .i64 deep,ev] (X.src s lv p left) (ExPost s lv X (E,p',l'))):=by
 subst hd1
 subst hkk
 have hpr:prodF zs p 1=some (21,[1,1,1],p+1):=by simp [prodF,HK.out]
 have hF:=exprF_some zs env n _ p left hleft0 hpr
 rw [hr.out]at hF
 generalize hll:nodeF (exprF zs env n) [1,1,1] (p+1) (left-2)=rr at hF
 obtain⟨ll,pp,le⟩:=rr
 simp only [Prod.mk.injEq]at hF
 obtain⟨rfl,rfl,rfl⟩:=hF
 have HLL:=Lib.hid hll
 clear hll hpr
 have h6:deep<6:=by have:=hdeep.out;omega
 have hc8:=costN_8 n
 go_enter Tryz.func63,Tryz.ntmps63
 go_wp2_with fail
 refine(next_any s lv zs p p (left-2) _ _ rfl (by simp;omega) (by simp [go_sem,hs]) (by(repeat' (first|(with_reducible exact hl.out)|(with_reducible refine ListAt.alloc ?_ _)|(with_reducible refine ListAt.grow ?_ _ _)|(with_reducible refine ListAt.drewN ?_ _)|(with_reducible refine ListAt.src ?_ _ _ _)))) (by omega) (by omega)).mono ?_
 rintro e w' ⟨rfl,n1,rfl⟩
 rw [HK.out]
 go_wp2_with fail
 refine(node_any2 s lv ev zs env n IH _ _ [1,1,1] _ (p+1) ((p:Int)+1) _ ll p' l' _ HLL (by omega) (by omega) (by have:=hdeep.out;omega) (by omega) (by simp;omega) (by simp [go_sem,hs]) (Lib.hid (by(repeat' (first|(with_reducible exact hl.out)|(with_reducible refine ListAt.alloc ?_ _)|(with_reducible refine ListAt.grow ?_ _ _)|(with_reducible refine ListAt.drewN ?_ _)|(with_reducible refine ListAt.src ?_ _ _ _))))) (Lib.hid (by(repeat' (first|(with_reducible exact he.out)|(with_reducible refine EnvAt.alloc ?_ _)|(with_reducible refine EnvAt.grow ?_ _ _)|(with_reducible refine EnvAt.drewN ?_ _)|(with_reducible refine EnvAt.src ?_ _ _ _))))) (by omega) (by omega) (by omega) (by simp) (by simp) (by omega) (dims3 (by omega) (by omega) (by omega)) (cell_dims _ [1,1,1] _ _ (by simp))).mono ?_
 rintro e w' ⟨v,bs,d,rfl,rfl,hrep⟩
 have H1:=Lib.hid hrep
 obtain⟨va,vc,hv⟩:=hrep.form
 subst hv
 clear hrep
 go_wp2_with fail
 go_returns
 refine ExPost.of_eq (P':=(p':Int)) rfl rfl rfl (.of_below belB) (((H1.out.eqw (w':=(((X.src s lv (p':Int) l').alloc (.cells #[.int .i64 0,.int .i64 0,.int .i64 0,.int .i64 0,.string ⟨#[]⟩,.slice none 0 0] 91)).alloc (.cells #[.int .i64 1,.int .i64 1,.int .i64 1] 3)).grow bs d) (by simp [go_sem,hs,alloc_drewN'])).lift0 ?_ ?_ d).mono ?_)
 all_goals first
  |(intro b hb;simp at hb;omega)
  |(simp;done)
  |(simp;omega)
theorem expr_bcmp
 (s:Nat) (lv ev:Value) (zs:List Int) (env:List (ByteArray × Int)) (n:Nat) (IH:Hid (ExprOK s lv ev zs env n)) (dim:Int) (p:Nat) (left deep:Int) (E:Ex) (p':Nat) (l':Int) (kk:Int) (X:World) (hr:Hid (exprF zs env (n+1) dim p left=(E,p',l'))) (HK:Hid (nextV zs p 14=kk)) (hleft0:0<left) (hdeep:Hid (deep=5-n)) (hn:n≤4) (hd4:dim≤4) (hs:s<X.heap.size) (hl:Hid (ListAt X s lv zs)) (he:Hid (EnvAt X s ev env)) (hp:p+(3*costN n+3)≤900000) (hleft:-900000≤left-(3*(costN n:Int)+3)) (hleft2:left≤900000)
 (hd1:dim=1) (hkk:kk=4∨kk=5∨kk=6∨kk=7∨kk=8):(Calls Tryz.prog 63 #[.pointer (some ⟨s,0,none⟩),.int .i64 dim,.int .i64 deep,ev] (X.src s lv p left) (ExPost s lv X (E,p',l'))):=by
 subst hd1
 have hb1:=nextV_bd zs (p+1) 3 (by omega)
 have hb2:=nextV_bd zs (p+2) 6 (by omega)
 have hpr0:prodF zs p 1=some (11+nextV zs (p+2) 6,[2+nextV zs (p+1) 3,2+nextV zs (p+1) 3],p+3):=by
  rcases hkk with rfl|rfl|rfl|rfl|rfl<;>simp [prodF,HK.out]
 generalize hA:nextV zs (p+1) 3=a at hb1 hpr0
 generalize hC:nextV zs (p+2) 6=c at hb2 hpr0
 have HA:=Lib.hid hA
 have HC:=Lib.hid hC
 clear hA hC
 have hpr:=hpr0
 clear hpr0
 have hF:=exprF_some zs env n _ p left hleft0 hpr
 rw [hr.out]at hF
 generalize hll:nodeF (exprF zs env n) [2+a,2+a] (p+3) (left-2)=rr at hF
 obtain⟨ll,pp,le⟩:=rr
 simp only [Prod.mk.injEq]at hF
 obtain⟨rfl,rfl,rfl⟩:=hF
 have HLL:=Lib.hid hll
 clear hll hpr
 rcases hkk with rfl|rfl|rfl|rfl|rfl
 all_goals
  have h6:deep<6:=by have:=hdeep.out;omega
  have hc8:=costN_8 n
  go_enter Tryz.func63,Tryz.ntmps63
  go_wp2_with fail
  refine(next_any s lv zs p p (left-2) _ _ rfl (by simp;omega) (by simp [go_sem,hs]) (by(repeat' (first|(with_reducible exact hl.out)|(with_reducible refine ListAt.alloc ?_ _)|(with_reducible refine ListAt.grow ?_ _ _)|(with_reducible refine ListAt.drewN ?_ _)|(with_reducible refine ListAt.src ?_ _ _ _)))) (by omega) (by omega)).mono ?_
  rintro e w' ⟨rfl,n1,rfl⟩
  rw [HK.out]
  go_wp2_with fail
  refine(next_any s lv zs (p+1) (p+1) (left-2) _ _ (by simp) (by simp;omega) (by simp [go_sem,hs]) (by(repeat' (first|(with_reducible exact hl.out)|(with_reducible refine ListAt.alloc ?_ _)|(with_reducible refine ListAt.grow ?_ _ _)|(with_reducible refine ListAt.drewN ?_ _)|(with_reducible refine ListAt.src ?_ _ _ _)))) (by omega) (by omega)).mono ?_
  rintro e w' ⟨rfl,n2,rfl⟩
  rw [HA.out]
  go_wp2_with fail
  refine(next_any s lv zs (p+2) (p+1+1) (left-2) _ _ (by omega) (by simp;omega) (by simp [go_sem,hs]) (by(repeat' (first|(with_reducible exact hl.out)|(with_reducible refine ListAt.alloc ?_ _)|(with_reducible refine ListAt.grow ?_ _ _)|(with_reducible refine ListAt.drewN ?_ _)|(with_reducible refine ListAt.src ?_ _ _ _)))) (by omega) (by omega)).mono ?_
  rintro e w' ⟨rfl,n3,rfl⟩
  rw [HC.out]
  go_wp2_with fail
  refine(node_any2 s lv ev zs env n IH _ _ [2+a,2+a] _ (p+3) ((p:Int)+1+1+1) _ ll p' l' _ HLL (by omega) (by omega) (by have:=hdeep.out;omega) (by omega) (by simp;omega) (by simp [go_sem,hs]) (Lib.hid (by(repeat' (first|(with_reducible exact hl.out)|(with_reducible refine ListAt.alloc ?_ _)|(with_reducible refine ListAt.grow ?_ _ _)|(with_reducible refine ListAt.drewN ?_ _)|(with_reducible refine ListAt.src ?_ _ _ _))))) (Lib.hid (by(repeat' (first|(with_reducible exact he.out)|(with_reducible refine EnvAt.alloc ?_ _)|(with_reducible refine EnvAt.grow ?_ _ _)|(with_reducible refine EnvAt.drewN ?_ _)|(with_reducible refine EnvAt.src ?_ _ _ _))))) (by omega) (by omega) (by omega) (by simp) (by simp) (by omega) (dims2 (by omega) (by omega)) (cell_dims _ [2+a,2+a] _ _ (by simp))).mono ?_
  rintro e w' ⟨v,bs,d,rfl,rfl,hrep⟩
  have H1:=Lib.hid hrep
  obtain⟨va,vc,hv⟩:=hrep.form
  subst hv
  clear hrep
  go_wp2_with fail
  go_returns
  refine ExPost.of_eq (P':=(p':Int)) rfl rfl rfl (.of_below belB) (((H1.out.eqw (w':=(((X.src s lv (p':Int) l').alloc (.cells #[.int .i64 0,.int .i64 0,.int .i64 0,.int .i64 0,.string ⟨#[]⟩,.slice none 0 0] 91)).alloc (.cells #[.int .i64 (2+a),.int .i64 (2+a)] 3)).grow bs d) (by simp [go_sem,hs,alloc_drewN'])).lift0 ?_ ?_ d).mono ?_)
  all_goals first
   |(intro b hb;simp at hb;omega)
   |(simp;done)
   |(simp;omega)
theorem expr_bleaf
 (s:Nat) (lv ev:Value) (zs:List Int) (env:List (ByteArray × Int)) (n:Nat) (IH:Hid (ExprOK s lv ev zs env n)) (dim:Int) (p:Nat) (left deep:Int) (E:Ex) (p':Nat) (l':Int) (kk:Int) (X:World) (hr:Hid (exprF zs env (n+1) dim p left=(E,p',l'))) (HK:Hid (nextV zs p 14=kk)) (hleft0:0<left) (hdeep:Hid (deep=5-n)) (hn:n≤4) (hd4:dim≤4) (hs:s<X.heap.size) (hl:Hid (ListAt X s lv zs)) (he:Hid (EnvAt X s ev env)) (hp:p+(3*costN n+3)≤900000) (hleft:-900000≤left-(3*(costN n:Int)+3)) (hleft2:left≤900000)
 (hd1:dim=1) (hkk:kk=9∨kk=10∨kk=11∨kk=12∨kk=13):(Calls Tryz.prog 63 #[.pointer (some ⟨s,0,none⟩),.int .i64 dim,.int .i64 deep,ev] (X.src s lv p left) (ExPost s lv X (E,p',l'))):=by
 subst hd1
 have hpr:prodF zs p 1=none:=by
  rcases hkk with rfl|rfl|rfl|rfl|rfl<;>simp [prodF,HK.out]
 have hF:=exprF_none zs env n 1 p left hleft0 hpr
 rw [hr.out]at hF
 have HL:=Lib.hid hF.symm
 clear hF hpr
 rcases hkk with rfl|rfl|rfl|rfl|rfl
 all_goals
  have h6:deep<6:=by have:=hdeep.out;omega
  have hc8:=costN_8 n
  go_enter Tryz.func63,Tryz.ntmps63
  go_wp2_with fail
  refine(next_any s lv zs p p (left-2) _ _ rfl (by simp;omega) (by simp [go_sem,hs]) (by(repeat' (first|(with_reducible exact hl.out)|(with_reducible refine ListAt.alloc ?_ _)|(with_reducible refine ListAt.grow ?_ _ _)|(with_reducible refine ListAt.drewN ?_ _)|(with_reducible refine ListAt.src ?_ _ _ _)))) (by omega) (by omega)).mono ?_
  rintro e w' ⟨rfl,n1,rfl⟩
  rw [HK.out]
  go_wp2_with fail
  refine(leaf_any s lv zs (p+1) _ (left-2) _ _ env _ rfl (by omega) (by omega) (by simp;omega) (by simp [go_sem,hs]) (Lib.hid (by(repeat' (first|(with_reducible exact hl.out)|(with_reducible refine ListAt.alloc ?_ _)|(with_reducible refine ListAt.grow ?_ _ _)|(with_reducible refine ListAt.drewN ?_ _)|(with_reducible refine ListAt.src ?_ _ _ _))))) (Lib.hid (by(repeat' (first|(with_reducible exact he.out)|(with_reducible refine EnvAt.alloc ?_ _)|(with_reducible refine EnvAt.grow ?_ _ _)|(with_reducible refine EnvAt.drewN ?_ _)|(with_reducible refine EnvAt.src ?_ _ _ _))))) (by omega) (by omega) (by omega)).mono ?_
  rintro e w' ⟨v,bs,d,rfl,rfl,hrep⟩
  rw [HL.out]at hrep
  simp only [HL.out]
  have H1:=Lib.hid hrep
  obtain⟨va,vc,hv⟩:=hrep.form
  subst hv
  clear hrep
  go_wp2_with fail
  go_returns
  refine ExPost.of_eq (P':=(p':Int)) rfl rfl rfl (.of_below belB) (((H1.out.eqw (w':=((X.src s lv (p':Int) l').alloc (.cells #[.int .i64 0,.int .i64 0,.int .i64 0,.int .i64 0,.string ⟨#[]⟩,.slice none 0 0] 91)).grow bs d) (by simp [go_sem,hs,alloc_drewN'])).lift0 ?_ ?_ d).mono ?_)
  all_goals first
   |(intro b hb;simp at hb;omega)
   |(simp;done)
   |(simp;omega)
end Go.Proofs.YtaghhncnicbedaaGreatDoor
