import Derived.Test.YtcfpoofhokbhlaaGreatDoorVWide
import Derived.Lib.IndexMore
import Derived.Shelf.Spec.BitsCarry
set_option linter.all false
set_option maxHeartbeats 16000000
set_option maxRecDepth 1000000
namespace Go
theorem Code.abs{c:Code}{P:Program}{Q:Exit->Act->World->Prop}{a:Act}{w:World}(h:∀W,w=W->c.wp P Q a W):c.wp P Q a w:=h w rfl
theorem Calls.quietM3{P:Program}{f:FuncId}{args:Array Value}{w:World}{B bs cs:Array Obj}{d:Nat}{v:Value}
 (h:Calls P f args (w.grow (B++(bs++cs)) d) fun e w'=>e= .returned v/\(w.grow (B++(bs++cs)) d).Grows w'):Calls P f args (w.grow (B++(bs++cs)) d) fun e w''=>e= .returned v/\∃g:dO,w''=w.grow (B++(bs++g.bs)) g.d:=
 h.mono fun _ _ ⟨he,bs',d',hw⟩=>⟨he,⟨cs++bs',d'⟩,by rw [hw,World.grow_grow,Array.append_assoc,Array.append_assoc]⟩
theorem Calls.quietMS3{P:Program}{f:FuncId}{args:Array Value}{w:World}{B bs cs:Array Obj}{d:Nat}{v:Value}
 (h:Calls P f args (w.grow (B++(bs++cs)) d) fun e w'=>e= .returned v/\(w.grow (B++(bs++cs)) d)=w'):Calls P f args (w.grow (B++(bs++cs)) d) fun e w''=>e= .returned v/\∃g:dO,w''=w.grow (B++(bs++g.bs)) g.d:=
 h.mono fun _ _ ⟨he,hw⟩=>⟨he,⟨cs,d⟩,hw.symm⟩
end Go
namespace Go
section
variable {P : Program} {l : List Oper} {Q : Exit -> Act -> World -> Prop} {a afin : Act} {w : World} {id : Nat}
theorem aK(n:Nat)(x y:Nat × Tmp × Obj)(hm:P.follows .mixedOrders=true)(hB:Region.madeB l n [(x.1,x.2.1),(y.1,y.2.1)]=true)
 (hrx:∀o,l[x.1]? =some o->∀ρ w,(execOp ρ o).run P w= .ok (.value (.pointer (some ⟨w.heap.size,0,none⟩))) (w.alloc x.2.2))
 (hry:∀o,l[y.1]? =some o->∀ρ w,(execOp ρ o).run P w= .ok (.value (.pointer (some ⟨w.heap.size,0,none⟩))) (w.alloc y.2.2))
 (h1:∀bs d,wpQuiet P ((l.take n).map Oper.mask).toArray (fun w'=>∃g:dO,w'=(w.grow bs d).grow g.bs g.d) (· =afin) ((l.take n).map Oper.mask) a)
 (h2:∀gb1 gd1 gb2 gd2 gb gd,wpList P l.toArray Q (l.drop n) ((afin.put (some x.2.1) (.pointer (some ⟨(w.grow gb1 gd1).heap.size,0,none⟩))).put (some y.2.1) (.pointer (some ⟨(((w.grow gb1 gd1).alloc x.2.2).grow gb2 gd2).heap.size,0,none⟩))) (((((w.grow gb1 gd1).alloc x.2.2).grow gb2 gd2).alloc y.2.2).grow gb gd))
 (h3:∀gb1 gd1 gb2 gd2 gb gd,wpList P l.toArray Q (l.drop n) ((afin.put (some y.2.1) (.pointer (some ⟨(w.grow gb1 gd1).heap.size,0,none⟩))).put (some x.2.1) (.pointer (some ⟨(((w.grow gb1 gd1).alloc y.2.2).grow gb2 gd2).heap.size,0,none⟩))) (((((w.grow gb1 gd1).alloc y.2.2).grow gb2 gd2).alloc x.2.2).grow gb gd)):(Code.region id l.toArray true).wp P Q a w:=
 dE n x y hm hB hrx hry h1
  (fun gb1 gd1 gb2 gd2 gb gd=>by have:=h2 gb1 gd1 gb2 gd2 gb gd;simpa only [World.size_grow,World.size_alloc]using this)
  (fun gb1 gd1 gb2 gd2 gb gd=>by have:=h3 gb1 gd1 gb2 gd2 gb gd;simpa only [World.size_grow,World.size_alloc]using this)
end
end Go
namespace Go
theorem aI{w:World}{bs:Array Obj}{d:Nat}:World.Grows w (w.grow bs d).drew:=⟨bs,d+1,rfl⟩
theorem aL{w:World}:World.Grows w w.drew:=⟨#[],w.drawn+1,by simp only [World.grow,Array.append_empty];rfl⟩
end Go
namespace Go.Proofs.YtcfpoofhokbhlaaGreatDoor
open Tryz List
def gF(d:Int):Nat->Int->Option (List Int)
 |0,r=>if r<=0 then some []else none
 |f+1,r=>if r<=0 then some []else(gF d f (r*10 % d)).map fun l=>r*10 / d::l
def jw:List Int->Int
 | []=>0
 |x::r=>x*10 ^ r.length+jw r
theorem qK{d:Int}(hd:1<=d):∀(f:Nat) (r:Int) (l:List Int),0<=r->gF d f r=some l->jw l*d=r*10 ^ l.length/\l.length<=f
 |0,r,l,h0,h=>by
  unfold gF at h
  split at h<;>cases h
  have:r=0:=by omega
  subst this;simp [jw]
 |f+1,r,l,h0,h=>by
  unfold gF at h
  split at h<;>rename_i hc
  ·cases h;have:r=0:=by omega
   subst this;simp [jw]
  ·obtain⟨q,hq,rfl⟩:=Option.map_eq_some_iff.1 h;obtain⟨h1,h2⟩:=qK hd f _ q (Int.emod_nonneg _ ze) hq;refine⟨?_,by simpa using h2⟩;have e:=Int.mul_ediv_add_emod (r*10) d;simp only [jw,length_cons];rw [Int.add_mul,h1,Int.pow_succ];generalize(10:Int) ^ q.length=t at *;have e2:r*(t*10)=(d*(r*10 / d)+r*10 % d)*t:=by rw [e,Int.mul_comm t 10,Int.mul_assoc]
   rw [e2,Int.add_mul,Int.mul_comm d,Int.mul_right_comm]
theorem xJ{d:Int}(hd:1<=d):∀(f:Nat) (r:Int),0<=r->r<d->gF d f r=none->r*10 ^ f % d≠0
 |0,r,h0,h1,h=>by
  unfold gF at h
  split at h
  ·cases h
  ·rw [Int.pow_zero,Int.mul_one,Int.emod_eq_of_lt h0 h1];omega
 |f+1,r,h0,h1,h=>by
  unfold gF at h
  split at h
  ·cases h
  ·have h2:=xJ hd f (r*10 % d) (Int.emod_nonneg _ ze) (Int.emod_lt_of_pos _ ze) zF;intro hc;apply h2;rw [Int.pow_succ,Int.mul_comm ((10:Int) ^ f),<-Int.mul_assoc]at hc;rw [Int.mul_emod,Int.emod_emod,<-Int.mul_emod];exact hc
def iG(p:Int):Nat->Int->Int->Int × Int
 |0,a,b=>(a,b)
 |f+1,a,b=>if a % p=0/\b % p=0 then iG p f (a / p) (b / p)else(a,b)
theorem qj{p:Int}(hp:2<=p):∀(f:Nat) (a b:Int),1<=b->b<p ^ f->
 (iG p f a b).1*b=a*(iG p f a b).2/\¬((iG p f a b).1 % p=0/\(iG p f a b).2 % p=0)/\(iG p f a b).2 ∣ b/\1<=(iG p f a b).2/\
 ∀q:Int,¬(a % q=0/\b % q=0)->¬((iG p f a b).1 % q=0/\(iG p f a b).2 % q=0)
 |0,a,b,h1,h2=>by simp at h2;omega
 |f+1,a,b,h1,h2=>by
  unfold iG
  split<;>rename_i hc
  ·obtain⟨a',ha⟩:=Int.dvd_of_emod_eq_zero hc.1;obtain⟨b',hb⟩:=Int.dvd_of_emod_eq_zero hc.2;subst ha hb;rw [Int.mul_ediv_cancel_left _ ze,Int.mul_ediv_cancel_left _ ze]
   have hb1:1<=b':=by
    rcases Int.lt_or_le b' 1 with h|h
    ·have:p*b'<=p*0:=Int.mul_le_mul_of_nonneg_left ze ze;omega
    ·exact h
   have hb2:b'<p ^ f:=by
    rw [Int.pow_succ,Int.mul_comm _ p]at h2;exact Int.lt_of_mul_lt_mul_left h2 ze
   obtain⟨e1,e2,e3,e4,e5⟩:=qj hp f a' b' hb1 hb2;refine⟨?_,e2,Int.dvd_trans e3 (Int.dvd_mul_left p b'),e4,fun q hq=>e5 q fun hc=>hq ?_⟩
   ·rw [Int.mul_left_comm,e1,Int.mul_assoc]
   ·exact⟨Int.emod_eq_zero_of_dvd (Int.dvd_trans (Int.dvd_of_emod_eq_zero hc.1) (Int.dvd_mul_left p a')),Int.emod_eq_zero_of_dvd (Int.dvd_trans (Int.dvd_of_emod_eq_zero hc.2) (Int.dvd_mul_left p b'))⟩
  ·exact⟨rfl,hc,Int.dvd_refl b,h1,fun q hq=>hq⟩
def kH(a b:Int):Int × Int:=iG 5 6 (iG 2 14 a b).1 (iG 2 14 a b).2
theorem Kq{g:Nat}{k:Nat}(h:g ∣ 10 ^ k)(h2:¬2 ∣ g)(h5:¬5 ∣ g):g=1:=by
 have c2:Nat.Coprime g 2:=by
  have hd:Nat.gcd g 2 ∣ 2:=Nat.gcd_dvd_right _ _;have hg:Nat.gcd g 2 ∣ g:=Nat.gcd_dvd_left _ _;have hle:=Nat.le_of_dvd ze hd;have:Nat.gcd g 2≠2:=fun e=>h2 (e ▸ hg);have h0:Nat.gcd g 2≠0:=fun e=>by rw [e]at hd;omega
  show Nat.gcd g 2=1;omega
 have c5:Nat.Coprime g 5:=by
  have hd:Nat.gcd g 5 ∣ 5:=Nat.gcd_dvd_right _ _;have hg:Nat.gcd g 5 ∣ g:=Nat.gcd_dvd_left _ _;have hle:=Nat.le_of_dvd ze hd;have:Nat.gcd g 5≠5:=fun e=>h5 (e ▸ hg);show Nat.gcd g 5=1;generalize Nat.gcd g 5=x at *;obtain rfl|rfl|rfl|rfl|rfl:x=0\/x=1\/x=2\/x=3\/x=4:=by omega
  all_goals first|rfl|(exfalso;revert hd;decide)
 have c10:Nat.Coprime g (10 ^ k):=Nat.Coprime.pow_right k (show Nat.Coprime g (2*5)from Nat.Coprime.mul_right c2 c5);exact Nat.Coprime.eq_one_of_dvd c10 h
theorem Hr{a:Int}{k:Nat}(hk:k<=4):(kH a (10 ^ k)).1*10 ^ k=a*(kH a (10 ^ k)).2/\(kH a (10 ^ k)).2 ∣ 10 ^ k/\1<=(kH a (10 ^ k)).2/\Nat.Coprime (kH a (10 ^ k)).1.natAbs (kH a (10 ^ k)).2.natAbs:=by
 have hb:(1:Int)<=10 ^ k/\(10:Int) ^ k<=10000:=by
  obtain rfl|rfl|rfl|rfl|rfl:k=0\/k=1\/k=2\/k=3\/k=4:=by omega
  all_goals decide
 obtain⟨e1,e2,e3,e4,e5⟩:=qj (p:=2) ze 14 a (10 ^ k) hb.1 (by rw [show(2:Int) ^ 14=16384 by decide];omega);have hle:=Int.le_of_dvd ze e3;unfold kH;obtain⟨f1,f2,f3,f4,f5⟩:=qj (p:=5) ze 6 (iG 2 14 a (10 ^ k)).1 (iG 2 14 a (10 ^ k)).2 e4 xF;have f6:=f5 2 e2;generalize iG 5 6 (iG 2 14 a (10 ^ k)).1 (iG 2 14 a (10 ^ k)).2=z at *;generalize iG 2 14 a (10 ^ k)=y at *;have hdv:z.2 ∣ 10 ^ k:=Int.dvd_trans f3 e3;refine⟨?_,hdv,f4, ?_⟩
 ·have h:z.1*10 ^ k*y.2=a*z.2*y.2:=by
   rw [Int.mul_right_comm,f1,Int.mul_right_comm,e1,Int.mul_right_comm]
  exact Int.eq_of_mul_eq_mul_right ze h
 ·have hg:Nat.gcd z.1.natAbs z.2.natAbs ∣ 10 ^ k:=by
   have h1:z.2.natAbs ∣ 10 ^ k:=by
    have:=Int.natAbs_dvd_natAbs.2 hdv
    rwa [Int.natAbs_pow]at this
   exact Nat.dvd_trans (Nat.gcd_dvd_right _ _) h1
  refine Kq hg (fun h=>f6 ?_) (fun h=>f2 ?_)
  ·exact RJ
  ·exact RJ
theorem Re{an ad bn bd:Int}(h1:1<=ad)(h2:1<=bd)(p:Nat.Coprime an.natAbs ad.natAbs)(q:Nat.Coprime bn.natAbs bd.natAbs)(h:an*bd=bn*ad):an=bn/\ad=bd:=by
 exact RU
def AL(n d m:Int):Bool:=
 match gF d 4 (n % d)with
 |none=>false
 |some l=>decide (n / d<=999999999)&&(decide ((kH (n / d*10 ^ l.length+jw l) (10 ^ l.length)).1=n/\(kH (n / d*10 ^ l.length+jw l) (10 ^ l.length)).2=d)&&decide (2<=m/\m<=4))
theorem Gs{n d m:Int}(h1:1<=d)(h2:d<=10000)(h3:0<=n)(h4:n<=1000000000000000):AL n d m=dG n d m:=by
 have hr0:=Int.emod_nonneg n (show d≠0 by omega);have hr1:=Int.emod_lt_of_pos n (show 0<d by omega);have hq:=Int.mul_ediv_add_emod n d;unfold AL
 cases hf:gF d 4 (n % d)with
 |none=>
  have:=xJ h1 4 _ hr0 hr1 hf;show false=_;symm;rw [Bool.eq_false_iff];intro hc;simp only [dG,Bool.and_eq_true,decide_eq_true_eq]at hc;apply this;have h5:(10000:Int) % d=0:=hc.1.1.1.2;obtain⟨c,hc⟩:=Int.dvd_of_emod_eq_zero h5;rw [show(10:Int) ^ 4=10000 by decide,hc,Int.mul_left_comm];exact Int.mul_emod_right d _
 |some l=>
  obtain⟨hp,hl⟩:=qK h1 4 _ l hr0 hf;obtain⟨e1,e2,e3,e4⟩:=Hr (a:=n / d*10 ^ l.length+jw l) hl
  have hA:(n / d*10 ^ l.length+jw l)*d=n*10 ^ l.length:=by
   rw [Int.add_mul,hp]
   conv=>rhs;rw [<-hq]
   rw [Int.add_mul,Int.mul_comm d,Int.mul_right_comm]
  show(decide (n / d<=999999999)&&_)=_;generalize kH (n / d*10 ^ l.length+jw l) (10 ^ l.length)=z at *;rw [Bool.eq_iff_iff];simp only [dG,Bool.and_eq_true,decide_eq_true_eq];constructor
  ·rintro⟨a,⟨rfl,rfl⟩,b,c⟩;refine⟨⟨⟨⟨⟨oK ⟨by omega,by omega,by omega,by omega⟩ e4,h3⟩, ?_⟩,b⟩,c⟩,a⟩;refine Int.emod_eq_zero_of_dvd (Int.dvd_trans e2 ?_);obtain h|h|h|h|h:l.length=0\/l.length=1\/l.length=2\/l.length=3\/l.length=4:=by omega
   all_goals rw [h];decide
  ·rintro⟨⟨⟨⟨⟨a,-⟩,-⟩,b⟩,c⟩,e⟩;refine⟨e, ?_,b,c⟩;have hB:(1:Int)<=10 ^ l.length:=Int.pow_pos ze
   have hx:z.1*d=n*z.2:=by
    have:z.1*d*10 ^ l.length=n*z.2*10 ^ l.length:=by
     rw [Int.mul_right_comm,e1,Int.mul_right_comm,hA,Int.mul_right_comm]
    exact Int.eq_of_mul_eq_mul_right ze this
   exact Re e3 h1 e4 (qb a) hx
theorem Jn{n d m:Int}(h:d<1\/10000<d\/n<0\/1000000000000000<n):dG n d m=false:=by
 rw [Bool.eq_false_iff];intro hc;simp only [dG,Bool.and_eq_true,decide_eq_true_eq]at hc;have:=aC hc.1.1.1.1.1;have h5:=Int.le_of_dvd ze (Int.dvd_of_emod_eq_zero hc.1.1.1.2);omega
theorem Gb:∀(a b:List UInt8),(46:UInt8)∉a->Lib.index (a++46::b) [46]=a.length
 | [],b,_=>by simp [Lib.index,isPrefixOf]
 |c::a,b,h=>by
  have h1:(46:UInt8)≠c:=fun e=>h ye;have ih:=Gb a b (fun e=>h ye);simp only [cons_append,Lib.index,isPrefixOf,ih];have h2:((46:UInt8)==c)=false:=by simpa using h1
  rw [h2];simp
theorem Lu:∀(a:List UInt8),(46:UInt8)∉a->Lib.index a [46]= -1
 | [],_=>by simp [Lib.index]
 |c::a,h=>by
  have h1:(46:UInt8)≠c:=fun e=>h ye;have ih:=Lu a (fun e=>h ye);simp only [Lib.index,isPrefixOf,ih];have h2:((46:UInt8)==c)=false:=by simpa using h1
  rw [h2];simp
theorem PH(a b:List UInt8)(h:(46:UInt8)∉a):Lib.cut (a++46::b) [46]=(a,b,true):=by
 unfold Lib.cut;rw [Gb a b h,if_pos ze];simp
theorem Rc(a:List UInt8)(h:(46:UInt8)∉a):Lib.cut a [46]=(a,[],false):=by
 unfold Lib.cut;rw [Lu a h,if_neg ze]
def gV:Int->List UInt8->Option Int
 |x,[]=>some x
 |x,c::r=>if om (c.toNat:Int)=true then gV (10*x+((c.toNat:Int)-48)) r else none
theorem l5:∀(a b:List UInt8) (x:Int),gV x (a++b)=(gV x a).bind fun y=>gV y b
 | [],b,x=>rfl
 |c::a,b,x=>by
  simp only [cons_append,gV]
  split
  ·exact l5 a b _
  ·rfl
def dgB(x:Int):UInt8:=UInt8.ofNat (48+x.toNat)
theorem xO{x:Int}(h0:0<=x)(h1:x<=9):((dgB x).toNat:Int)=48+x:=by
 unfold dgB;rw [UInt8.toNat_ofNat'];omega
theorem uh(x y:Int)(h0:0<=y)(h1:y<=9):gV x [dgB y]=some (10*x+y):=by
 have e:=xO h0 h1;simp only [gV];rw [e,if_pos (by simp [om];omega)]
 congr 1
 omega
theorem wH:∀(l:List Int) (x:Int),(∀y∈l,0<=y/\y<=9)->gV x (l.map dgB)=some (x*10 ^ l.length+jw l)
 | [],x,_=>by simp [gV,jw]
 |y::l,x,h=>by
  have hy:=h y zg;have ih:=wH l (10*x+y) (fun z hz=>h z (by simp [hz]));have e:=l5 [dgB y] (l.map dgB) x;rw [uh x y hy.1 hy.2]at e;simp only [map_cons];rw [show dgB y::l.map dgB= [dgB y]++l.map dgB from rfl,e];simp only [Option.bind_some];rw [ih]
  congr 1
  simp only [length_cons,jw,Int.pow_succ];rw [Int.add_mul,Int.mul_comm 10 x,Int.mul_assoc,Int.mul_comm 10];omega
theorem Lc(u:Nat):∀x:Int,gV x (Lib.decDigits u)=some (x*10 ^ Lib.nDigits u+u):=by
 induction u using Nat.strongRecOn with
 |_ u ih=>
  intro x;rw [Lib.decDigits];by_cases h:u<10
  ·rw [dif_pos h,Lib.nDigits_small h];have:=uh x u ze ze;unfold dgB at this;rw [Int.toNat_natCast]at this;rw [this]
   congr 1
   omega
  ·rw [dif_neg h,l5,ih (u / 10) ze,Lib.nDigits_big h];simp only [Option.bind_some];have:=uh (x*10 ^ Lib.nDigits (u / 10)+(u / 10:Nat)) ((u % 10:Nat):Int) ze ze;unfold dgB at this;rw [Int.toNat_natCast]at this;rw [this]
   congr 1
   rw [Int.pow_succ,Int.mul_add,<-Int.mul_assoc,Int.mul_comm 10 x,Int.mul_assoc,Int.mul_comm 10 (10 ^ _)];omega
theorem CX(u:Nat):∀c∈Lib.decDigits u,48<=c.toNat/\c.toNat<=57:=by
 induction u using Nat.strongRecOn with
 |_ u ih=>
  intro c hc;rw [Lib.decDigits]at hc;by_cases h:u<10
  ·rw [dif_pos h]at hc;simp only [mem_singleton]at hc;subst hc;rw [UInt8.toNat_ofNat'];omega
  ·rw [dif_neg h]at hc;rcases mem_append.1 hc with hc|hc
   ·exact ih (u / 10) ze c hc
   ·simp only [mem_singleton]at hc;subst hc;rw [UInt8.toNat_ofNat'];omega
theorem Mi(u:Nat)(h:1<=u):∃c r,Lib.decDigits u=c::r/\c.toNat≠48:=by
 induction u using Nat.strongRecOn with
 |_ u ih=>
  rw [Lib.decDigits];by_cases h2:u<10
  ·rw [dif_pos h2];exact⟨_,_,rfl,by rw [UInt8.toNat_ofNat'];omega⟩
  ·rw [dif_neg h2];obtain⟨c,r,e,hc⟩:=ih (u / 10) ze ze;rw [e];exact⟨c,_,rfl,hc⟩
def jX(s:List UInt8):List UInt8 × Int:=if s.getLast? =some 100 then(s.dropLast,3)else if s.getLast? =some 109 then(s.dropLast,4)else(s,2)
def pF(a b:List UInt8)(pt:Bool):Bool:=decide (1<=a.length)&&decide (a.length<=9)&&!(decide (1<a.length)&&decide (a.head? =some 48))&&!(pt&&(decide (b.length<1) || decide (4<b.length)))
def PE(a b:List UInt8)(pt:Bool)(m:Int):Option (Int × Int × Int):=
 if pF a b pt=true then(gV 0 a).bind fun x=>(gV 0 b).map fun p=>((kH (x*10 ^ b.length+p) (10 ^ b.length)).1,(kH (x*10 ^ b.length+p) (10 ^ b.length)).2,m)else none
def qN(s:List UInt8):Option (Int × Int × Int):=PE (Lib.cut (jX s).1 [46]).1 (Lib.cut (jX s).1 [46]).2.1 (Lib.cut (jX s).1 [46]).2.2 (jX s).2
def mD(l:List Int):List UInt8:=if l= []then []else 46::l.map dgB
def Aa(m:Int):List UInt8:=if m=3 then [100]else if m=4 then [109]else []
def KI(m:Int):Int:=if m=3 then 3 else if m=4 then 4 else 2
theorem Aw{s:List UInt8}(h0:s≠[])(h:∀c∈s,48<=c.toNat/\c.toNat<=57\/c=46):s.getLast?≠some 100/\s.getLast?≠some 109:=by
 have e:=getLast?_eq_some_getLast h0;have hc:=h _ (getLast_mem h0);rw [e];constructor
 ·exact Ro
 ·exact Ro
theorem G5{s:List UInt8}(h0:s≠[])(h:∀c∈s,48<=c.toNat/\c.toNat<=57\/c=46)(m:Int):jX (s++Aa m)=(s,KI m):=by
 obtain⟨h1,h2⟩:=Aw h0 h;unfold jX Aa KI;by_cases c3:m=3
 ·subst c3;rw [if_pos rfl,if_pos rfl];simp
 ·by_cases c4:m=4
  ·subst c4;simp
  ·rw [if_neg c3,if_neg c4,if_neg c3,if_neg c4,append_nil,if_neg h1,if_neg h2]
theorem Py{x:Int}(h0:0<=x)(h1:x<=9):48<=(dgB x).toNat/\(dgB x).toNat<=57:=by have:=xO h0 h1;omega
theorem Ff{q:Nat}{l:List Int}(hl:∀y∈l,0<=y/\y<=9):∀c∈Lib.decDigits q++mD l,48<=c.toNat/\c.toNat<=57\/c=46:=by
 intro c hc;rcases mem_append.1 hc with hc|hc
 ·exact .inl (CX q c hc)
 ·unfold mD at hc
  split at hc
  ·cases hc
  ·rcases mem_cons.1 hc with hc|hc
   ·exact .inr hc
   ·obtain⟨y,hy,rfl⟩:=mem_map.1 hc;have:=hl y hy;exact .inl (Py this.1 this.2)
theorem Ai(q:Nat):Lib.nDigits q<=9↔q<=999999999:=by
 constructor
 ·intro h;have h1:=Lib.lt_pow_nDigits q;have h2:10 ^ Lib.nDigits q<=10 ^ 9:=Nat.pow_le_pow_right ze h;have h3:(10:Nat) ^ 9=1000000000:=by decide
  omega
 ·intro h;by_cases h9:Lib.nDigits q<=9
  ·exact h9
  ·exfalso;obtain⟨k,hk⟩:∃k,Lib.nDigits q=k+1:=⟨Lib.nDigits q-1,by have:=Lib.nDigits_pos q;omega⟩
   have hlow:∀(u:Nat) (k:Nat),Lib.nDigits u=k+2->10 ^ (k+1)<=u:=by
    intro u
    induction u using Nat.strongRecOn with
    |_ u ih=>
     intro k hk;by_cases hs:u<10
     ·rw [Lib.nDigits_small hs]at hk;omega
     ·rw [Lib.nDigits_big hs]at hk
      cases k with
      |zero=>omega
      |succ k=>
       have:=ih (u / 10) ze k ze;rw [Nat.pow_succ];omega
   have:=hlow q (Lib.nDigits q-2) ze;have h2:10 ^ 9<=10 ^ (Lib.nDigits q-2+1):=Nat.pow_le_pow_right ze ze;have h3:(10:Nat) ^ 9=1000000000:=by decide
   omega
theorem uW(q:Nat):(46:UInt8)∉Lib.decDigits q:=fun h=>by
 have:=CX q _ h;revert this;decide
theorem Mm(q:Nat)(l:List Int):Lib.cut (Lib.decDigits q++mD l) [46]=(Lib.decDigits q,l.map dgB,decide (l≠[])):=by
 unfold mD;by_cases h:l= []
 ·subst h;rw [if_pos rfl,append_nil,Rc _ (uW q)];simp
 ·rw [if_neg h,PH _ _ (uW q)];simp [h]
theorem IZ(q:Nat)(l:List Int)(hn:l.length<=4):pF (Lib.decDigits q) (l.map dgB) (decide (l≠[]))=decide (q<=999999999):=by
 unfold pF;rw [Lib.decDigits_length];have h1:=Lib.nDigits_pos q;have h9:=Ai q
 have e3:(decide (1<Lib.nDigits q)&&decide ((Lib.decDigits q).head? =some 48))=false:=by
  rw [Bool.and_eq_false_iff];by_cases c:1<Lib.nDigits q
  ·right
   have hq:1<=q:=by
    rcases Nat.eq_zero_or_pos q with rfl|h
    ·rw [Lib.nDigits_small ze]at c;omega
    ·exact h
   obtain⟨x,r,e,hx⟩:=Mi q hq;rw [e];simp only [head?_cons,Option.some.injEq,decide_eq_false_iff_not];intro k;rw [k]at hx;exact hx zo
  ·left;simpa using c
 have e4:(decide (l≠[])&&(decide ((l.map dgB).length<1) || decide (4<(l.map dgB).length)))=false:=by
  rw [length_map]
  cases l with
  |nil=>rfl
  |cons a r=>simp at hn ⊢;omega
 have e9:decide (Lib.nDigits q<=9)=decide (q<=999999999):=decide_eq_decide.2 h9;rw [e3,e4,decide_eq_true (show 1<=Lib.nDigits q from h1),e9];simp
theorem Jp{q:Nat}{l:List Int}(hl:∀y∈l,0<=y/\y<=9)(hn:l.length<=4)(m:Int):qN (Lib.decDigits q++mD l++Aa m)=
 if q<=999999999 then some ((kH (q*10 ^ l.length+jw l) (10 ^ l.length)).1,(kH (q*10 ^ l.length+jw l) (10 ^ l.length)).2,KI m)else none:=by
 have h0:Lib.decDigits q++mD l≠[]:=by
  have k1:=Lib.decDigits_length q;have k2:=Lib.nDigits_pos q;intro h;rw [append_eq_nil_iff]at h;rw [h.1]at k1;simp at k1;omega
 unfold qN;rw [G5 h0 (Ff hl) m];simp only [Mm,PE,IZ q l hn,decide_eq_true_eq];have e1:=Lc q 0;have e2:=wH l 0 hl;rw [Int.zero_mul,Int.zero_add]at e1 e2;rw [e1,e2];simp
theorem xL{d:Int}(hd:1<=d):∀(f:Nat) (r:Int) (l:List Int),0<=r->r<d->gF d f r=some l->∀y∈l,0<=y/\y<=9
 |0,r,l,_,_,h=>by
  unfold gF at h
  split at h<;>cases h
  intro y hy;cases hy
 |f+1,r,l,h0,h1,h=>by
  unfold gF at h
  split at h<;>rename_i hc
  ·cases h;intro y hy;cases hy
  ·obtain⟨q,hq,rfl⟩:=Option.map_eq_some_iff.1 h;intro y hy;rcases mem_cons.1 hy with rfl|hy
   ·constructor
    ·exact Int.ediv_nonneg ze ze
    ·have:r*10 / d<10:=Int.ediv_lt_of_lt_mul ze ze;omega
   ·exact xL hd f _ q (Int.emod_nonneg _ ze) (Int.emod_lt_of_pos _ ze) hq y hy
def Gt(n d m:Int):List UInt8:=match gF d 4 (n % d)with|some l=>Lib.decDigits (n / d).toNat++mD l++Aa m|none=>[]
theorem Jq{n d m:Int}{l:List Int}(h1:1<=d)(h2:d<=10000)(h3:0<=n)(h4:n<=1000000000000000)(hf:gF d 4 (n % d)=some l) :
 (qN (Lib.decDigits (n / d).toNat++mD l++Aa m)=some (n,d,m))↔dG n d m=true:=by
 have hr0:=Int.emod_nonneg n (show d≠0 by omega);have hr1:=Int.emod_lt_of_pos n (show 0<d by omega);have hq0:0<=n / d:=Int.ediv_nonneg h3 ze;obtain⟨-,hn⟩:=qK h1 4 _ l hr0 hf;rw [Jp (xL h1 4 _ l hr0 hr1 hf) hn m,<-Gs h1 h2 h3 h4];unfold AL;rw [hf];have e:(((n / d).toNat:Nat):Int)=n / d:=by omega
 rw [e];simp only [Bool.and_eq_true,decide_eq_true_eq]
 have hm:KI m=m↔2<=m/\m<=4:=by
  unfold KI
  split
  ·omega
  ·split<;>omega
 constructor
 ·intro h
  split at h<;>rename_i hc
  ·simp only [Option.some.injEq,Prod.mk.injEq]at h;exact⟨by omega,⟨h.1,h.2.1⟩,hm.1 h.2.2⟩
  ·cases h
 ·rintro⟨a,⟨b,c⟩,k⟩;rw [if_pos ze,b,c,hm.2 k]
theorem Jr{n d m:Int}(h1:1<=d)(h2:d<=10000)(h3:0<=n)(h4:n<=1000000000000000)(hf:gF d 4 (n % d)=none):dG n d m=false:=by
 rw [<-Gs h1 h2 h3 h4];unfold AL;rw [hf]
open Go.RowKit

theorem iC(a b:Nat)(w:World)(h1:a<18446744073709551616)(h2:b<18446744073709551616) :
 Calls prog 150 #[.int .u64 a,.int .u64 b] w fun e w'=>e= .returned (.agg #[.int .u64 (hiW (a*b)),.int .u64 (loW (a*b))])/\w.Grows w':=by
 have H:Hid (∀w,Calls prog 37 #[.int .u64 a,.int .u64 b] w fun e w'=>e= .returned (.tuple #[.int .u64 (hiW (a*b)),.int .u64 (loW (a*b))])/\w'=w):=bits_Mul64 a b h1 h2;generalize a*b=n at *
 go_enter func150,ntmps150
 go_wp2_with fail
 refine gw (H.out _) ?_;clear H
 go_wp2_with fail
 go_returns
 exact⟨rfl,.of_below af⟩
theorem xQ(x y c:Nat)(hc:c<=1)(w:World):(callFunc 157 #[.int .u64 x,.int .u64 y,.int .u64 c]).run prog w=
 .ok (.value (.tuple #[.int .u64 (((x+y+c) % 18446744073709551616:Nat):Int),.int .u64 (((x+y+c) / 18446744073709551616:Nat):Int)])) w:=by
 rw [run_callFunc_extern func157 zf zf zf (e:=add64Entry) zf,run_add64 x y c ze ze ze ze];simp only [Result.andThen]
 congr 5<;>omega
theorem qi(x y b:Nat)(hb:b<=1)(w:World):(callFunc 158 #[.int .u64 x,.int .u64 y,.int .u64 b]).run prog w=
 .ok (.value (.tuple #[.int .u64 (((x+18446744073709551616-y-b) % 18446744073709551616:Nat):Int),.int .u64 ((if x<y+b then 1 else 0:Nat):Int)])) w:=by
 rw [run_callFunc_extern func158 zf zf zf (e:=sub64Entry) zf,run_sub64 x y b hb];rfl
def hiN(n:Nat):Nat:=n / 18446744073709551616
def loN(n:Nat):Nat:=n % 18446744073709551616
theorem JL(a b:Nat)(h:a+b<340282366920938463463374607431768211456) :
 (loN a+loN b+0) % 18446744073709551616=loN (a+b)/\(loN a+loN b+0) / 18446744073709551616<=1/\(hiN a+hiN b+(loN a+loN b+0) / 18446744073709551616) % 18446744073709551616=hiN (a+b):=by
 unfold loN hiN;omega
theorem wy(a b:Nat)(h:b<=a)(ha:a<340282366920938463463374607431768211456) :
 (loN a+18446744073709551616-loN b-0) % 18446744073709551616=loN (a-b)/\(if loN a<loN b+0 then 1 else 0)<=1/\(hiN a+18446744073709551616-hiN b-(if loN a<loN b+0 then 1 else 0)) % 18446744073709551616=hiN (a-b):=by
 unfold loN hiN;split<;>omega
theorem Hw(a b:Nat)(w:World)(h:a+b<340282366920938463463374607431768211456) :
 Calls prog 152 #[.agg #[.int .u64 (hiW a),.int .u64 (loW a)],.agg #[.int .u64 (hiW b),.int .u64 (loW b)]] w fun e w'=>e= .returned (.agg #[.int .u64 (hiW (a+b)),.int .u64 (loW (a+b))])/\w.Grows w':=by
 obtain⟨e1,e2,e3⟩:=JL a b h;obtain⟨c,hc⟩:∃c,(loN a+loN b+0) / 18446744073709551616=c:=⟨_,rfl⟩
 have ha:∀w,(callFunc 157 #[.int .u64 (loW a),.int .u64 (loW b),.int .u64 0]).run prog w= .ok (.value (.tuple #[.int .u64 (loW (a+b)),.int .u64 (c:Int)])) w:=by
  intro w;have:=xQ (loN a) (loN b) 0 ze w;rw [e1,hc]at this;exact this
 have hb:∀w,(callFunc 157 #[.int .u64 (hiW a),.int .u64 (hiW b),.int .u64 (c:Int)]).run prog w= .ok (.value (.tuple #[.int .u64 (hiW (a+b)),.int .u64 ((hiN a+hiN b+c) / 18446744073709551616:Nat)])) w:=by
  intro w;have:=xQ (hiN a) (hiN b) c ze w;rw [<-hc,e3,hc]at this;exact this
 generalize(((hiN a+hiN b+c) / 18446744073709551616:Nat):Int)=z at *;generalize(c:Int)=c' at *;clear e1 e2 e3 hc h;generalize hiW a=A at *;generalize hiW b=B at *;generalize loW a=La at *;generalize loW b=Lb at *;generalize hiW (a+b)=S at *;generalize loW (a+b)=T at *
 go_enter func152,ntmps152
 go_wp2_with fail
 go_returns
 exact⟨rfl,.of_below af⟩
theorem uw(a b:Nat)(w:World)(h:b<=a)(h2:a<340282366920938463463374607431768211456) :
 Calls prog 153 #[.agg #[.int .u64 (hiW a),.int .u64 (loW a)],.agg #[.int .u64 (hiW b),.int .u64 (loW b)]] w fun e w'=>e= .returned (.agg #[.int .u64 (hiW (a-b)),.int .u64 (loW (a-b))])/\w.Grows w':=by
 obtain⟨e1,e2,e3⟩:=wy a b h h2;obtain⟨c,hc⟩:∃c,(if loN a<loN b+0 then 1 else 0)=c:=⟨_,rfl⟩
 have ha:∀w,(callFunc 158 #[.int .u64 (loW a),.int .u64 (loW b),.int .u64 0]).run prog w= .ok (.value (.tuple #[.int .u64 (loW (a-b)),.int .u64 (c:Int)])) w:=by
  intro w;have:=qi (loN a) (loN b) 0 ze w;rw [e1,hc]at this;exact this
 have hb:∀w,(callFunc 158 #[.int .u64 (hiW a),.int .u64 (hiW b),.int .u64 (c:Int)]).run prog w= .ok (.value (.tuple #[.int .u64 (hiW (a-b)),.int .u64 ((if hiN a<hiN b+c then 1 else 0:Nat):Int)])) w:=by
  intro w;have:=qi (hiN a) (hiN b) c ze w;rw [<-hc,e3,hc]at this;exact this
 generalize((if hiN a<hiN b+c then 1 else 0:Nat):Int)=z at *;generalize(c:Int)=c' at *;clear e1 e2 e3 hc h h2;generalize hiW a=A at *;generalize hiW b=B at *;generalize loW a=La at *;generalize loW b=Lb at *;generalize hiW (a-b)=S at *;generalize loW (a-b)=T at *
 go_enter func153,ntmps153
 go_wp2_with fail
 go_returns
 exact⟨rfl,.of_below af⟩
theorem LF(a b:Nat)(h:b<=a)(ha:a<340282366920938463463374607431768211456):IntKind.u64.wrap (IntKind.u64.wrap (hiW a-hiW b)-((if loN a<loN b+0 then 1 else 0:Nat):Int))=hiW (a-b):=by
 simp only [IntKind.wrap_u64];unfold hiW loN
 split<;>omega
theorem uy(a b:Nat)(w:World)(h:b<=a)(h2:a<340282366920938463463374607431768211456) :
 Calls prog 137 #[.agg #[.int .u64 (hiW a),.int .u64 (loW a)],.agg #[.int .u64 (hiW b),.int .u64 (loW b)]] w fun e w'=>e= .returned (.agg #[.int .u64 (hiW (a-b)),.int .u64 (loW (a-b))])/\w.Grows w':=by
 have hp:=LF a b h h2;obtain⟨e1,e2,e3⟩:=wy a b h h2;obtain⟨c,hc⟩:∃c,(if loN a<loN b+0 then 1 else 0)=c:=⟨_,rfl⟩
 have ha:∀w,(callFunc 158 #[.int .u64 (loW a),.int .u64 (loW b),.int .u64 0]).run prog w= .ok (.value (.tuple #[.int .u64 (loW (a-b)),.int .u64 (c:Int)])) w:=by
  intro w;have:=qi (loN a) (loN b) 0 ze w;rw [e1,hc]at this;exact this
 rw [hc]at hp;generalize(c:Int)=c' at *;clear e1 e2 e3 hc h h2;generalize hiW a=A at *;generalize hiW b=B at *;generalize loW a=La at *;generalize loW b=Lb at *;generalize hiW (a-b)=S at *;generalize loW (a-b)=T at *
 go_enter func137,ntmps137
 go_wp2_with fail
 go_returns
 exact⟨rfl,.of_below af⟩
def nI(ah al bh bl:Int):Bool:=decide (ah<bh) || ((ah==bh)&&decide (al<bl))
theorem kE(a b:Nat):nI (hiW a) (loW a) (hiW b) (loW b)=decide (a<b):=by
 unfold nI;rw [Bool.eq_iff_iff];simp only [Bool.or_eq_true,Bool.and_eq_true,decide_eq_true_eq,beq_iff_eq];unfold hiW loW;omega
theorem wO(ah al bh bl:Int)(w:World) :
 Calls prog 71 #[.agg #[.int .u64 ah,.int .u64 al],.agg #[.int .u64 bh,.int .u64 bl]] w fun e w'=>e= .returned (.bool (nI ah al bh bl))/\w.Grows w':=by
 by_cases c1:ah<bh
 ·go_enter func71,ntmps71
  go_wp2_with fail
  go_returns
  exact⟨au (by simp [nI,c1]),.of_below af⟩
 ·by_cases c2:ah=bh
  ·subst c2
   go_enter func71,ntmps71
   go_wp2_with fail
   go_returns
   exact⟨au (by simp [nI]),.of_below af⟩
  ·have c3:(ah==bh)=false:=by simpa using c2
   go_enter func71,ntmps71
   go_wp2_with fail
   go_returns
   exact⟨au (by simp [nI,c1,c3]),.of_below af⟩
theorem qz(ah al bh bl:Int)(w:World) :
 Calls prog 151 #[.agg #[.int .u64 ah,.int .u64 al],.agg #[.int .u64 bh,.int .u64 bl]] w fun e w'=>e= .returned (.bool (nI ah al bh bl))/\w.Grows w':=by
 by_cases c1:ah<bh
 ·go_enter func151,ntmps151
  go_wp2_with fail
  go_returns
  exact⟨au (by simp [nI,c1]),.of_below af⟩
 ·by_cases c2:ah=bh
  ·subst c2
   go_enter func151,ntmps151
   go_wp2_with fail
   go_returns
   exact⟨au (by simp [nI]),.of_below af⟩
  ·have c3:(ah==bh)=false:=by simpa using c2
   go_enter func151,ntmps151
   go_wp2_with fail
   go_returns
   exact⟨au (by simp [nI,c1,c3]),.of_below af⟩
theorem Ea(H L d q r Q:Int)(w:World)(a1:(d==0)=false)(a2:1<=d)(h0:0<=H)
 (a3:IntKind.u64.wrap (H.tdiv d)=Q)
 (HD:Hid (∀w,Calls prog 38 #[.int .u64 (H % d),.int .u64 L,.int .u64 d] w fun e w'=>e= .returned (.tuple #[.int .u64 q,.int .u64 r])/\w.Grows w')) :
 Calls prog 155 #[.agg #[.int .u64 H,.int .u64 L],.int .u64 d] w fun e w'=>e= .returned (.agg #[.int .u64 Q,.int .u64 q])/\w.Grows w':=by
 go_enter func155,ntmps155
 go_wp2_with fail
 go_region
 go_wp2_with fail
 refine gvq (HD.out _) ?_;intro bs dr;clear HD
 go_wp2_with fail
 go_returns
 exact⟨rfl,.of_below af⟩
theorem H8(n d:Nat)(w:World)(h1:n<340282366920938463463374607431768211456)(h2:d<18446744073709551616)(h0:0<d) :
 Calls prog 155 #[.agg #[.int .u64 (hiW n),.int .u64 (loW n)],.int .u64 d] w fun e w'=>e= .returned (.agg #[.int .u64 (hiW (n / d)),.int .u64 (loW (n / d))])/\w.Grows w':=by
 obtain⟨e1,e2,e3⟩:=tZ n d h0 h2;have hh:=EK n h1;refine Ea _ _ _ _ (lK n d) _ w zp ze hh.1 ?_ ?_
 ·have:(hiW n).tdiv d=((n / 18446744073709551616 / d:Nat):Int):=by
   rw [Int.tdiv_eq_ediv_of_nonneg hh.1];unfold hiW;simp
  rw [this,<-e1];have h3:n / d<=n:=Nat.div_le_self _ _;unfold hiW;generalize n / d=m at *;exact IntWalk.u64_in _ ze
 ·intro w;have:=nD (n / 18446744073709551616 % d) (n % 18446744073709551616) d w (Nat.mod_lt _ h0) (Nat.mod_lt _ ze) h2;rw [<-e2,<-e3]at this;simpa [hiW,loW,lK]using this
theorem KR(H L d q r:Int)(w:World)(a1:(d==0)=false)(a2:1<=d)(h0:0<=H)
 (HD:Hid (∀w,Calls prog 38 #[.int .u64 (H % d),.int .u64 L,.int .u64 d] w fun e w'=>e= .returned (.tuple #[.int .u64 q,.int .u64 r])/\w.Grows w')) :
 Calls prog 154 #[.int .u64 H,.int .u64 L,.int .u64 d] w fun e w'=>e= .returned (.int .u64 r)/\w.Grows w':=by
 go_enter func154,ntmps154
 go_wp2_with fail
 refine gvq (HD.out _) ?_;intro bs dr;clear HD
 go_wp2_with fail
 go_returns
 exact⟨rfl,.of_below af⟩
theorem JY(n d:Nat)(w:World)(h1:n<340282366920938463463374607431768211456)(h2:d<18446744073709551616)(h0:0<d) :
 Calls prog 154 #[.int .u64 (hiW n),.int .u64 (loW n),.int .u64 d] w fun e w'=>e= .returned (.int .u64 (lK n d))/\w.Grows w':=by
 obtain⟨e1,e2,e3⟩:=tZ n d h0 h2;have hh:=EK n h1;refine KR _ _ _ (loW (n / d)) _ w zp ze hh.1 ?_;intro w;have:=nD (n / 18446744073709551616 % d) (n % 18446744073709551616) d w (Nat.mod_lt _ h0) (Nat.mod_lt _ ze) h2;rw [<-e2,<-e3]at this;simpa [hiW,loW,lK]using this
def jq(neg:Bool)(h l k d:Int):Value:=if(h !=0)=true\/1000000000000000<l\/(k !=0)=true\/1000000000<d then .tuple #[.agg #[.int .i64 0,.int .i64 0],.int .i64 2]else .tuple #[.agg #[.int .i64 (if neg then -l else l),.int .i64 d],.int .i64 0]
theorem lT(neg:Bool)(h l k d:Int)(w:World)(hl0:0<=l)(hd0:0<=d) :
 Calls prog 149 #[.bool neg,.agg #[.int .u64 h,.int .u64 l],.agg #[.int .u64 k,.int .u64 d]] w fun e w'=>e= .returned (jq neg h l k d)/\w.Grows w':=by
 by_cases c1:(h !=0)=true
 ·go_enter func149,ntmps149
  go_wp2_with fail
  go_returns
  exact⟨by rw [jq,if_pos (.inl c1)],.of_below af⟩
 ·have c1':(h !=0)=false:=by simpa using c1
  by_cases c2:(1000000000000000:Int)<l
  ·clear c1
   go_enter func149,ntmps149
   go_wp2_with fail
   go_returns
   exact⟨by rw [jq,if_pos (.inr (.inl c2))],.of_below af⟩
  ·have c2':decide ((1000000000000000:Int)<l)=false:=by simpa using c2
   by_cases c3:(k !=0)=true
   ·clear c1
    go_enter func149,ntmps149
    go_wp2_with fail
    go_returns
    exact⟨by rw [jq,if_pos (.inr (.inr (.inl c3)))],.of_below af⟩
   ·have c3':(k !=0)=false:=by simpa using c3
    by_cases c4:(1000000000:Int)<d
    ·clear c1 c3
     go_enter func149,ntmps149
     go_wp2_with fail
     go_returns
     exact⟨by rw [jq,if_pos (.inr (.inr (.inr c4)))],.of_below af⟩
    ·have c4':decide ((1000000000:Int)<d)=false:=by simpa using c4
     have Hn:=yq (show ¬((h !=0)=true\/1000000000000000<l\/(k !=0)=true\/1000000000<d)by
      rintro(x|x|x|x)
      ·exact c1 x
      ·exact c2 x
      ·exact c3 x
      ·exact c4 x)
     clear c1 c3;cases neg
     ·go_enter func149,ntmps149
      go_wp2_with fail
      go_returns
      exact⟨by rw [jq,if_neg Hn.out];rfl,.of_below af⟩
     ·go_enter func149,ntmps149
      go_wp2_with fail
      go_returns
      exact⟨by rw [jq,if_neg Hn.out];rfl,.of_below af⟩
def frV(r:Int × Int × Int):Value:=.tuple #[.agg #[.int .i64 r.1,.int .i64 r.2.1],.int .i64 r.2.2]
theorem Dt(n d:Int)(w:World)(h1:-9223372036854775808<=n)(h2:n<=9223372036854775807)(h3:-9223372036854775808<=d)(h4:d<=9223372036854775807) :
 Calls prog 106 #[.agg #[.int .i64 n,.int .i64 d]] w fun e w'=>e= .returned (frV (iW n d))/\w.Grows w':=by
 have hv:=yq (fun w=>bZ n d w h1 h2 h3 h4);generalize hx:ay n d=b at *;cases b
 focus
  have HR:=yq (show iW n d=(0,0,1)by unfold iW;rw [hx];rfl)
 rotate_left
 focus
  have HR:=yq (show iW n d=(-n,d,0)by unfold iW;rw [hx];rfl);obtain⟨k1,k2,k3,k4⟩:=aC hx
 rotate_left
 all_goals
  clear hx
  go_enter func106,ntmps106
  go_wp2_with fail
  refine gvq (hv.out _) ?_;intro bs dr;clear hv
  go_wp2_with fail
  go_returns
  exact⟨by rw [HR.out];rfl,.of_below af⟩
theorem Dr(n d:Int)(w:World)(h1:-9223372036854775808<=n)(h2:n<=9223372036854775807)(h3:-9223372036854775808<=d)(h4:d<=9223372036854775807) :
 Calls prog 129 #[.agg #[.int .i64 n,.int .i64 d]] w fun e w'=>e= .returned (frV (iW n d))/\w.Grows w':=by
 have hv:=yq (fun w=>dN n d w h1 h2 h3 h4);generalize hx:ay n d=b at *;cases b
 focus
  have HR:=yq (show iW n d=(0,0,1)by unfold iW;rw [hx];rfl)
 rotate_left
 focus
  have HR:=yq (show iW n d=(-n,d,0)by unfold iW;rw [hx];rfl);obtain⟨k1,k2,k3,k4⟩:=aC hx
 rotate_left
 all_goals
  clear hx
  go_enter func129,ntmps129
  go_wp2_with fail
  refine gvq (hv.out _) ?_;intro bs dr;clear hv
  go_wp2_with fail
  go_returns
  exact⟨by rw [HR.out];rfl,.of_below af⟩
theorem pz(a b:Nat):kg a b=(Nat.gcd a b:Nat):=by unfold kg;simp
theorem sK(b:Bool)(p q:Nat):jq b (hiW p) (loW p) (hiW q) (loW q)=frV (if 1000000000000000<p\/1000000000<q then(0,0,2)else(if b then -(p:Int)else p,q,0)):=by
 unfold jq hiW loW;by_cases c:1000000000000000<p\/1000000000<q
 ·rw [if_pos c,if_pos (by
   by_cases ha:p / 18446744073709551616=0
   ·by_cases hb:q / 18446744073709551616=0
    ·omega
    ·right;right;left;simp;omega
   ·left;simp;omega)]
  rfl
 ·have ha:p / 18446744073709551616=0:=by omega
  have hb:q / 18446744073709551616=0:=by omega
  have hc:p % 18446744073709551616=p:=by omega
  have hd:q % 18446744073709551616=q:=by omega
  rw [if_neg c,if_neg (by rw [ha,hb,hc,hd];simp;omega),hc,hd];rfl
theorem gY{a g:Int}(h0:0<=a)(h1:a<18446744073709551616)(hg:1<=g):IntKind.u64.wrap (a.tdiv g)=a / g:=by
 rw [Int.tdiv_eq_ediv_of_nonneg h0];have h2:=Int.ediv_nonneg h0 (show 0<=g by omega);have h3:a / g<=a:=Int.ediv_le_self g h0;exact IntWalk.u64_in _ ze
theorem tV(neg:Bool)(a b c d g h H L K M n1 n2 n3:Int)(w:World)(g0:(g==0)=false)(h0:(h==0)=false)(g1:1<=g)(hh1:1<=h)
 (a0:0<=a) (b0:0<=b) (c0:0<=c) (d0:0<=d) (a1:a<18446744073709551616) (b1:b<18446744073709551616) (c1:c<18446744073709551616) (d1:d<18446744073709551616)
 (G1:Hid (∀w,Calls prog 79 #[.int .u64 a,.int .u64 d] w fun e w'=>e= .returned (.int .u64 g)/\w.Grows w'))
 (G2:Hid (∀w,Calls prog 79 #[.int .u64 c,.int .u64 b] w fun e w'=>e= .returned (.int .u64 h)/\w.Grows w'))
 (T1:Hid (∀w,Calls prog 150 #[.int .u64 (a / g),.int .u64 (c / h)] w fun e w'=>e= .returned (.agg #[.int .u64 H,.int .u64 L])/\w.Grows w'))
 (T2:Hid (∀w,Calls prog 150 #[.int .u64 (b / h),.int .u64 (d / g)] w fun e w'=>e= .returned (.agg #[.int .u64 K,.int .u64 M])/\w.Grows w'))
 (W:Hid (∀w,Calls prog 149 #[.bool neg,.agg #[.int .u64 H,.int .u64 L],.agg #[.int .u64 K,.int .u64 M]] w fun e w'=>e= .returned (.tuple #[.agg #[.int .i64 n1,.int .i64 n2],.int .i64 n3])/\w.Grows w')) :
 Calls prog 156 #[.bool neg,.int .u64 a,.int .u64 b,.int .u64 c,.int .u64 d] w fun e w'=>e= .returned (.tuple #[.agg #[.int .i64 n1,.int .i64 n2],.int .i64 n3])/\w.Grows w':=by
 go_enter func156,ntmps156
 go_wp2_with (first|(go_at_call 79;(with_reducible refine gvq (G1.out _) ?_);intro bs dr;clear G1)|(go_at_call 79;(with_reducible refine gvq (G2.out _) ?_);intro bs2 dr2;clear G2))
 have gz:¬g=0:=by omega
 have hz:¬h=0:=by omega
 refine TG.begin 19 (fun _=>True) zf zf trivial (fun hS=>?_);refine TG.tkB 0 hS ?_;refine TG.tkB 1 hS ?_;refine TG.tkB 2 hS ?_;refine TG.takeV (i:=3) (v:=.int .u64 (a / g)) rfl zf zf zf zo (fun _ _ _ h=>h) rfl hS ?_ ?_
 focus
  intro wS hSw
  go_simp
  exact gY a0 a1 g1
 (try simp only [nS])
 refine TG.tkB 4 hS ?_;refine TG.tkB 5 hS ?_;refine TG.takeV (i:=6) (v:=.int .u64 (c / h)) rfl zf zf zf zo (fun _ _ _ h=>h) rfl hS ?_ ?_
 focus
  intro wS hSw
  go_simp
  exact gY c0 c1 hh1
 (try simp only [nS])
 refine TG.tkB 8 hS ?_;refine TG.tkB 9 hS ?_;refine TG.takeV (i:=10) (v:=.int .u64 (b / h)) rfl zf zf zf zo (fun _ _ _ h=>h) rfl hS ?_ ?_
 focus
  intro wS hSw
  go_simp
  exact gY b0 b1 hh1
 (try simp only [nS])
 refine TG.tkB 11 hS ?_;refine TG.tkB 12 hS ?_;refine TG.takeV (i:=13) (v:=.int .u64 (d / g)) rfl zf zf zf zo (fun _ _ _ h=>h) rfl hS ?_ ?_
 focus
  intro wS hSw
  go_simp
  exact gY d0 d1 g1
 (try simp only [nS])
 refine TG.one (i:=7) zf rfl (fun K1 hK1=>?_)
 go_simp
 go_at_call 150
 refine gvq (T1.out _) ?_;intro b7 d7;refine TG.go hK1 trivial (fun hS=>?_);clear hK1 K1 T1
 (try simp only [nS])
 refine TG.one (i:=14) zf rfl (fun K1 hK1=>?_)
 go_simp
 go_at_call 150
 refine gvq (T2.out _) ?_;intro b8 d8;refine TG.go hK1 trivial (fun hS=>?_);clear hK1 K1 T2
 (try simp only [nS])
 refine TG.one (i:=15) zf rfl (fun K1 hK1=>?_)
 go_simp
 go_at_call 149
 refine gvq (W.out _) ?_;intro b9 d9;refine TG.go hK1 trivial (fun hS=>?_);clear hK1 K1 W
 (try simp only [nS])
 refine TG.tkB 16 hS ?_;refine TG.tkB 17 hS ?_;refine TG.one (i:=18) zf rfl (fun K1 hK1=>?_)
 go_simp
 refine TG.go hK1 trivial (fun hS=>?_);clear hK1 K1
 (try simp only [nS])
 refine TG.one (i:=19) zf rfl (fun K1 hK1=>?_)
 go_simp
 refine hK1 _ _ (fun h=>absurd rfl h) (TG.done zf ?_);clear hK1 K1 hS
 (try simp only [nS])
 go_wp2_with fail
 go_returns
 exact⟨rfl,.of_below af⟩
theorem wD(d m k n:Nat):d / Nat.gcd m d*(k / Nat.gcd n k)=il d m k n:=by
 unfold il;rw [Nat.gcd_comm m d,Nat.gcd_comm n k]
theorem fI(a b:Nat):(a:Int) / (b:Int)=((a / b:Nat):Int):=by simp
theorem nK(neg:Bool)(n d m k:Nat)(w:World)(h1:n<18446744073709551616)(h2:d<18446744073709551616)(h3:m<18446744073709551616)(h4:k<18446744073709551616)(hd:0<d)(hk:0<k) :
 Calls prog 156 #[.bool neg,.int .u64 n,.int .u64 d,.int .u64 m,.int .u64 k] w fun e w'=>e= .returned (frV (nQ neg n d m k))/\w.Grows w':=by
 have g1:0<Nat.gcd n k:=Nat.gcd_pos_of_pos_right _ hk;have g2:0<Nat.gcd m d:=Nat.gcd_pos_of_pos_right _ hd;have b1:n / Nat.gcd n k<=n:=Nat.div_le_self _ _;have b2:m / Nat.gcd m d<=m:=Nat.div_le_self _ _;have b3:d / Nat.gcd m d<=d:=Nat.div_le_self _ _;have b4:k / Nat.gcd n k<=k:=Nat.div_le_self _ _
 refine tV neg n d m k (Nat.gcd n k:Nat) (Nat.gcd m d:Nat) (hiW (il n k m d)) (loW (il n k m d)) (hiW (il d m k n)) (loW (il d m k n)) _ _ _ w
  zp zp ze ze ze ze ze ze ze ze ze ze
  (fun w=>?_) (fun w=>?_) (fun w=>?_) (fun w=>?_) (fun w=>?_)
 ·have:=mo n k w ze ze ze ze;rw [pz]at this;exact Calls.quietD this
 ·have:=mo m d w ze ze ze ze;rw [pz]at this;exact Calls.quietD this
 ·rw [fI,fI];exact iC _ _ w ze ze
 ·rw [fI,fI,<-wD];exact iC _ _ w ze ze
 ·have:=lT neg (hiW (il n k m d)) (loW (il n k m d)) (hiW (il d m k n)) (loW (il d m k n)) w (qw _).1 (qw _).1;rw [sK]at this;exact this
theorem qI{n d:Int}(h:1<=d):(if n.tmod d<0 then n.tdiv d-1 else n.tdiv d)=n / d:=by
 have e1:=Int.mul_tdiv_add_tmod n d;have hb:=Int.tmod_lt_of_pos n (show 0<d by omega);have hc:=Int.tmod_lt_of_pos (-n) (show 0<d by omega);rw [Int.neg_tmod]at hc;symm
 split
 ·exact((Int.ediv_emod_unique (r:=n.tmod d+d) (q:=n.tdiv d-1) (show 0<d by omega)).2 ⟨by rw [Int.mul_sub];omega,by omega,by omega⟩).1
 ·exact((Int.ediv_emod_unique (r:=n.tmod d) (q:=n.tdiv d) (show 0<d by omega)).2 ⟨by omega,by omega,by omega⟩).1
theorem I5{n d:Int}(h:1<=d):(if n<n.tdiv d*d then n.tdiv d-1 else n.tdiv d)=n / d:=by
 have e1:=Int.mul_tdiv_add_tmod n d;rw [<-qI h];rw [Int.mul_comm]at e1;by_cases c:n.tmod d<0
 ·rw [if_pos c,if_pos ze]
 ·rw [if_neg c,if_neg ze]
theorem Dc{an ad bn bd:Int}(h1:1<=ad)(h2:1<=bd)(h:decide (an<0)≠decide (bn<0)):iy an ad bn bd=if an<0 then -1 else 1:=by
 unfold iy;by_cases c:an<0
 ·have hb:0<=bn:=by simp [c]at h;omega
  have k1:an*bd<0:=Int.mul_neg_of_neg_of_pos c ze;have k2:0<=bn*ad:=Int.mul_nonneg hb ze;rw [if_pos ze,if_pos c]
 ·have hb:bn<0:=by simp [c]at h;omega
  have k1:bn*ad<0:=Int.mul_neg_of_neg_of_pos hb ze;have k2:0<=an*bd:=Int.mul_nonneg ze ze;rw [if_neg ze,if_pos ze,if_neg c]
theorem sQ{a d:Int}(h:1<=d):a*d=if a<0 then -((a.natAbs*d.natAbs:Nat):Int)else((a.natAbs*d.natAbs:Nat):Int):=by
 rw [Int.natCast_mul];have hd:((d.natAbs:Nat):Int)=d:=by omega
 rw [hd]
 split
 ·rw [<-Int.neg_mul];congr 1;omega
 ·congr 1;omega
theorem Mr{an ad bn bd:Int}(h1:1<=ad)(h2:1<=bd)(h:decide (an<0)=decide (bn<0)) :
 iy an ad bn bd=if an<0 then(if bn.natAbs*ad.natAbs<an.natAbs*bd.natAbs then -1 else if an.natAbs*bd.natAbs<bn.natAbs*ad.natAbs then 1 else 0)
  else(if an.natAbs*bd.natAbs<bn.natAbs*ad.natAbs then -1 else if bn.natAbs*ad.natAbs<an.natAbs*bd.natAbs then 1 else 0):=by
 unfold iy;rw [sQ (a:=an) h2,sQ (a:=bn) h1];generalize an.natAbs*bd.natAbs=X;generalize bn.natAbs*ad.natAbs=Y;by_cases c:an<0
 ·have hb:bn<0:=by simpa [c]using h
  rw [if_pos c,if_pos hb,if_pos c]
  split<;>rename_i q<;>split<;>first|omega|(split<;>first|omega|(split<;>omega))
 ·have hb:¬bn<0:=by simpa [c]using h
  rw [if_neg c,if_neg hb,if_neg c]
  split<;>rename_i q<;>split<;>first|omega|(split<;>first|omega|(split<;>omega))
end Go.Proofs.YtcfpoofhokbhlaaGreatDoor
