import Derived.Test.YthionhbjmheimaaDoorLWord
import Derived.Shelf.Spec.BitsCarry
import Derived.Lib.IndexMore
import Derived.Lib.ItoaNum
import Derived.ProofKit
import Derived.SizedLaws
import Derived.Deep.Matrix
import Derived.Deep.Fields
import Derived.OpenShut
set_option linter.all false
set_option maxHeartbeats 16000000
set_option maxRecDepth 1000000
namespace Go.Proofs.YthionhbjmheimaaDoor

theorem lowN_neg{b c:Bool}{n d:Nat}(h:n=0∨b=c):lowN b n d=lowN c n d:=by
 rcases h with rfl|rfl
 ·unfold lowN;simp
 ·rfl
theorem lowE_cases(n d:Nat):lowE n d=0∨lowE n d=2:=by unfold lowE;split<;>simp
theorem low_bad{n d:Nat}(b:Bool)(h:lowE n d≠0):lowN b n d=0∧lowD n d=0:=by
 unfold lowE at h
 unfold lowN lowD
 split at h<;>rename_i hc
 ·rw [if_pos hc,if_pos hc];exact⟨rfl,rfl⟩
 ·exact absurd rfl h
theorem vfrac_nat{n d:Nat}(b:Bool)(h1:1≤d)(h2:d≤1000000000)(h3:n≤1000000000000000)(hg:Nat.gcd n d=1):vfrac (if b then -(n:Int)else n) d=true:=by
 refine vfrac_of ⟨by omega,by omega, ?_, ?_⟩ ?_
 ·cases b<;>simp<;>omega
 ·cases b<;>simp<;>omega
 ·cases b<;>simpa using hg
theorem low_ok{n d:Nat}(b:Bool)(hd:0<d)(h:lowE n d=0):vfrac (lowN b n d) (lowD n d)=true:=by
 have hg:0<Nat.gcd n d:=Nat.gcd_pos_of_pos_right _ hd
 unfold lowE at h
 unfold lowN lowD
 split at h<;>rename_i hc
 ·simp at h
 ·rw [if_neg hc,if_neg hc]
  have h1:0<d / Nat.gcd n d:=Nat.div_pos (Nat.gcd_le_right _ hd) hg
  exact vfrac_nat b (by omega) (by omega) (by omega) (Nat.coprime_div_gcd_div_gcd hg)

def prdX(n k m h:Nat):Nat:=n / Nat.gcd n k*(m / Nat.gcd m h)
def prdF(b:Bool)(n d m k:Nat):Int × Int × Int:=
 if 1000000000000000<prdX n k m d∨1000000000<prdX d m k n then(0,0,2)else(if b then -(prdX n k m d:Int)else prdX n k m d,prdX d m k n,0)

def negF(n d:Int):Int × Int × Int:=if vfrac n d then(-n,d,0)else(0,0,1)
def addS(an ad bn bd:Int):Int:=an*bd+bn*ad
def addF(an ad bn bd:Int):Int × Int × Int:=
 if vfrac an ad&&vfrac bn bd then
  (lowN (decide (addS an ad bn bd<0)) (addS an ad bn bd).natAbs (ad.natAbs*bd.natAbs),lowD (addS an ad bn bd).natAbs (ad.natAbs*bd.natAbs),lowE (addS an ad bn bd).natAbs (ad.natAbs*bd.natAbs))
 else(0,0,1)
def subF(an ad bn bd:Int):Int × Int × Int:=if vfrac bn bd then addF an ad (-bn) bd else(0,0,1)
def mulF(an ad bn bd:Int):Int × Int × Int:=
 if vfrac an ad&&vfrac bn bd then prdF (decide (an<0)!=decide (bn<0)) an.natAbs ad.natAbs bn.natAbs bd.natAbs else(0,0,1)
def divF(an ad bn bd:Int):Int × Int × Int:=
 if vfrac an ad&&vfrac bn bd then if bn=0 then(0,0,3)else prdF (decide (an<0)!=decide (bn<0)) an.natAbs ad.natAbs bd.natAbs bn.natAbs else(0,0,1)
def cmpI(an ad bn bd:Int):Int:=if an*bd<bn*ad then -1 else if bn*ad<an*bd then 1 else 0
def cmpF(an ad bn bd:Int):Int × Int:=if vfrac an ad&&vfrac bn bd then(cmpI an ad bn bd,0)else(0,1)
def floorF(n d:Int):Int × Int:=if vfrac n d then(n / d,0)else(0,1)

theorem vfrac_neg{n d:Int}:vfrac (-n) d=vfrac n d:=by
 unfold vfrac absI
 rw [Int.natAbs_neg]
 congr 1
 refine decide_eq_decide.2 ?_
 omega
theorem vfrac_prime{n d:Int}(h:vfrac n d=true):Nat.Coprime n.natAbs d.natAbs:=vfrac_gcd h

theorem addS_same{a d b e:Nat}(s:Bool):addS (if s then -(a:Int)else a) d (if s then -(b:Int)else b) e=if s then -((a*e+b*d:Nat):Int)else((a*e+b*d:Nat):Int):=by
 unfold addS
 cases s<;>simp [Int.neg_mul];omega
theorem addS_diff{a d b e:Nat}(s:Bool):addS (if s then -(a:Int)else a) d (if s then(b:Int)else -b) e=if s then((b*d:Nat):Int)-(a*e:Nat)else((a*e:Nat):Int)-(b*d:Nat):=by
 unfold addS
 cases s<;>simp [Int.neg_mul]<;>omega
theorem sign_form(n:Int):n=if decide (n<0)then -(n.natAbs:Int)else n.natAbs:=by
 by_cases h:n<0<;>simp [h]<;>omega

theorem add_same{an ad bn bd:Int}(h1:1≤ad)(h2:1≤bd)(hs:decide (an<0)=decide (bn<0)) :
 (addS an ad bn bd).natAbs=an.natAbs*bd.natAbs+bn.natAbs*ad.natAbs∧((addS an ad bn bd).natAbs=0∨decide (addS an ad bn bd<0)=decide (an<0)):=by
 have e:=addS_same (a:=an.natAbs) (d:=ad.natAbs) (b:=bn.natAbs) (e:=bd.natAbs) (decide (an<0))
 have e1:=sign_form an
 have e2:=sign_form bn
 rw [←hs]at e2
 rw [←e1,←e2,show((ad.natAbs:Nat):Int)=ad by omega,show((bd.natAbs:Nat):Int)=bd by omega]at e
 rw [e]
 generalize an.natAbs*bd.natAbs+bn.natAbs*ad.natAbs=N at *
 by_cases h:an<0
 ·simp [h];omega
 ·simp [h]
theorem add_diff{an ad bn bd:Int}(h1:1≤ad)(h2:1≤bd)(hs:decide (an<0)≠decide (bn<0)) :
 (an.natAbs*bd.natAbs<bn.natAbs*ad.natAbs→(addS an ad bn bd).natAbs=bn.natAbs*ad.natAbs-an.natAbs*bd.natAbs∧((addS an ad bn bd).natAbs=0∨decide (addS an ad bn bd<0)=decide (bn<0)))∧
 (bn.natAbs*ad.natAbs≤an.natAbs*bd.natAbs→(addS an ad bn bd).natAbs=an.natAbs*bd.natAbs-bn.natAbs*ad.natAbs∧((addS an ad bn bd).natAbs=0∨decide (addS an ad bn bd<0)=decide (an<0))):=by
 have e:=addS_diff (a:=an.natAbs) (d:=ad.natAbs) (b:=bn.natAbs) (e:=bd.natAbs) (decide (an<0))
 have e1:=sign_form an
 have e2:=sign_form bn
 rw [←e1,show((ad.natAbs:Nat):Int)=ad by omega,show((bd.natAbs:Nat):Int)=bd by omega]at e
 have e3:(if decide (an<0)=true then(bn.natAbs:Int)else -(bn.natAbs:Int))=bn:=by
  clear e e1 e2
  by_cases c1:an<0<;>by_cases c2:bn<0<;>simp [c1,c2]at hs ⊢<;>omega
 rw [e3]at e
 rw [e]
 generalize an.natAbs*bd.natAbs=M at *
 generalize bn.natAbs*ad.natAbs=N at *
 clear e e1 e2 e3
 by_cases c1:an<0<;>by_cases c2:bn<0<;>simp [c1,c2]at hs ⊢<;>omega

theorem frac_eq{an ad bn bd:Int}(ha:vfrac an ad=true)(hb:vfrac bn bd=true)(h:an*bd=bn*ad):an=bn∧ad=bd:=by
 have p:=vfrac_prime ha
 have q:=vfrac_prime hb
 have h1:=vfrac_bd ha
 have h2:=vfrac_bd hb
 have hn:an.natAbs*bd.natAbs=bn.natAbs*ad.natAbs:=by rw [←Int.natAbs_mul,h,Int.natAbs_mul]
 have d1:ad.natAbs ∣ bd.natAbs:=Nat.Coprime.dvd_of_dvd_mul_left (k:=ad.natAbs) (m:=an.natAbs) (Nat.Coprime.symm p) ⟨bn.natAbs,by rw [hn,Nat.mul_comm]⟩
 have d2:bd.natAbs ∣ ad.natAbs:=Nat.Coprime.dvd_of_dvd_mul_left (k:=bd.natAbs) (m:=bn.natAbs) (Nat.Coprime.symm q) ⟨an.natAbs,by rw [←hn,Nat.mul_comm]⟩
 have e:=Nat.dvd_antisymm d1 d2
 have e':ad=bd:=by omega
 subst e'
 exact⟨Int.eq_of_mul_eq_mul_right (by omega) h,rfl⟩

theorem prdX_pos{n k m h:Nat}(h1:0<n)(h2:0<m):0<prdX n k m h:=by
 unfold prdX
 exact Nat.mul_pos (Nat.div_pos (Nat.gcd_le_left _ h1) (Nat.gcd_pos_of_pos_left _ h1)) (Nat.div_pos (Nat.gcd_le_left _ h2) (Nat.gcd_pos_of_pos_left _ h2))
theorem prd_prime{n d m k:Nat}(hd:0<d)(hk:0<k)(p:Nat.Coprime n d)(q:Nat.Coprime m k):Nat.Coprime (prdX n k m d) (prdX d m k n):=by
 unfold prdX
 have g1:0<Nat.gcd n k:=Nat.gcd_pos_of_pos_right _ hk
 have g2:0<Nat.gcd m d:=Nat.gcd_pos_of_pos_right _ hd
 have a1:=Nat.coprime_div_gcd_div_gcd g1
 have a2:=Nat.coprime_div_gcd_div_gcd g2
 rw [Nat.gcd_comm d m,Nat.gcd_comm k n]
 have dv (x y:Nat):x / Nat.gcd x y ∣ x:=Nat.div_dvd_of_dvd (Nat.gcd_dvd_left x y)
 have dw (x y:Nat):y / Nat.gcd x y ∣ y:=Nat.div_dvd_of_dvd (Nat.gcd_dvd_right x y)
 refine Nat.Coprime.mul_left (Nat.Coprime.mul_right ?_ a1) (Nat.Coprime.mul_right a2 ?_)
 ·exact Nat.Coprime.coprime_dvd_left (dv n k) (Nat.Coprime.coprime_dvd_right (dw m d) p)
 ·exact Nat.Coprime.coprime_dvd_left (dv m d) (Nat.Coprime.coprime_dvd_right (dw n k) q)
def okF(r:Int × Int × Int):Prop:=(r.2.2=0∧vfrac r.1 r.2.1=true)∨(r.1=0∧r.2.1=0∧(r.2.2=2∨r.2.2=3))
theorem prdF_ok{n d m k:Nat}(b:Bool)(hd:0<d)(hk:0<k)(p:Nat.Coprime n d)(q:Nat.Coprime m k):okF (prdF b n d m k):=by
 unfold prdF
 split<;>rename_i hc
 ·exact .inr ⟨rfl,rfl,.inl rfl⟩
 ·have h1:=prdX_pos (k:=m) (h:=n) hd hk
  exact .inl ⟨rfl,vfrac_nat b (by omega) (by omega) (by omega) (prd_prime hd hk p q)⟩
theorem addF_ok{an ad bn bd:Int}(ha:vfrac an ad=true)(hb:vfrac bn bd=true):okF (addF an ad bn bd):=by
 have h1:=vfrac_bd ha
 have h2:=vfrac_bd hb
 unfold addF
 rw [ha,hb]
 simp only [Bool.and_self,if_true]
 have hd:0<ad.natAbs*bd.natAbs:=Nat.mul_pos (by omega) (by omega)
 rcases lowE_cases (addS an ad bn bd).natAbs (ad.natAbs*bd.natAbs)with h|h
 ·exact .inl ⟨h,low_ok _ hd h⟩
 ·have h3:=low_bad (decide (addS an ad bn bd<0)) (show lowE (addS an ad bn bd).natAbs (ad.natAbs*bd.natAbs)≠0 by omega)
  exact .inr ⟨h3.1,h3.2,.inl h⟩
theorem subF_ok{an ad bn bd:Int}(ha:vfrac an ad=true)(hb:vfrac bn bd=true):okF (subF an ad bn bd):=by
 unfold subF
 rw [hb]
 exact addF_ok ha (by rw [vfrac_neg];exact hb)
theorem mulF_ok{an ad bn bd:Int}(ha:vfrac an ad=true)(hb:vfrac bn bd=true):okF (mulF an ad bn bd):=by
 have h1:=vfrac_bd ha
 have h2:=vfrac_bd hb
 unfold mulF
 rw [ha,hb]
 exact prdF_ok _ (by omega) (by omega) (vfrac_prime ha) (vfrac_prime hb)
theorem divF_ok{an ad bn bd:Int}(ha:vfrac an ad=true)(hb:vfrac bn bd=true):okF (divF an ad bn bd):=by
 have h1:=vfrac_bd ha
 have h2:=vfrac_bd hb
 unfold divF
 rw [ha,hb]
 simp only [Bool.and_self,if_true]
 split<;>rename_i hc
 ·exact .inr ⟨rfl,rfl,.inr rfl⟩
 ·exact prdF_ok _ (by omega) (by omega) (vfrac_prime ha) (vfrac_prime hb).symm
end Go.Proofs.YthionhbjmheimaaDoor
namespace Go.Proofs.YthionhbjmheimaaDoor
open Go.RowKit

theorem sub64_nat(x y b:Nat)(hb:b≤1)(w:World):(callFunc 98 #[.int .u64 x,.int .u64 y,.int .u64 b]).run Tryd.prog w=
 .ok (.value (.tuple #[.int .u64 (((x+18446744073709551616-y-b) % 18446744073709551616:Nat):Int),.int .u64 ((if x<y+b then 1 else 0:Nat):Int)])) w:=by
 rw [run_callFunc_extern Tryd.func98 (by kernel_rfl) (by kernel_rfl) (by kernel_rfl) (e:=sub64Entry) (by kernel_rfl),run_sub64 x y b hb]
 rfl
def hiN(n:Nat):Nat:=n / 18446744073709551616
def loN(n:Nat):Nat:=n % 18446744073709551616
theorem sub_words(a b:Nat)(h:b≤a)(ha:a<340282366920938463463374607431768211456) :
 (loN a+18446744073709551616-loN b-0) % 18446744073709551616=loN (a-b)∧(if loN a<loN b+0 then 1 else 0)≤1∧(hiN a+18446744073709551616-hiN b-(if loN a<loN b+0 then 1 else 0)) % 18446744073709551616=hiN (a-b):=by
 unfold loN hiN;split<;>omega
theorem hi_minus(a b:Nat)(h:b≤a)(ha:a<340282366920938463463374607431768211456):IntKind.u64.wrap (IntKind.u64.wrap (hiW a-hiW b)-((if loN a<loN b+0 then 1 else 0:Nat):Int))=hiW (a-b):=by
 simp only [IntKind.wrap_u64]
 unfold hiW loN
 split<;>omega
theorem minus1_any(a b:Nat)(w:World)(h:b≤a)(h2:a<340282366920938463463374607431768211456) :
 Calls Tryd.prog 91 #[.agg #[.int .u64 (hiW a),.int .u64 (loW a)],.agg #[.int .u64 (hiW b),.int .u64 (loW b)]] w fun e w'=>e= .returned (.agg #[.int .u64 (hiW (a-b)),.int .u64 (loW (a-b))])∧w.Grows w':=by
 have hp:=hi_minus a b h h2
 obtain⟨e1,e2,e3⟩:=sub_words a b h h2
 obtain⟨c,hc⟩:∃c,(if loN a<loN b+0 then 1 else 0)=c:=⟨_,rfl⟩
 have ha:∀w,(callFunc 98 #[.int .u64 (loW a),.int .u64 (loW b),.int .u64 0]).run Tryd.prog w= .ok (.value (.tuple #[.int .u64 (loW (a-b)),.int .u64 (c:Int)])) w:=by
  intro w;have:=sub64_nat (loN a) (loN b) 0 (by omega) w;rw [e1,hc]at this;exact this
 rw [hc]at hp
 generalize(c:Int)=c' at *
 clear e1 e2 e3 hc h h2
 generalize hiW a=A at *
 generalize hiW b=B at *
 generalize loW a=La at *
 generalize loW b=Lb at *
 generalize hiW (a-b)=S at *
 generalize loW (a-b)=T at *
 go_enter Tryd.func91,Tryd.ntmps91
 go_wp2_with fail
 go_returns
 exact⟨rfl,.of_below belB⟩
def wless(ah al bh bl:Int):Bool:=decide (ah<bh) || ((ah==bh)&&decide (al<bl))
theorem wless_nat(a b:Nat):wless (hiW a) (loW a) (hiW b) (loW b)=decide (a<b):=by
 unfold wless
 rw [Bool.eq_iff_iff]
 simp only [Bool.or_eq_true,Bool.and_eq_true,decide_eq_true_eq,beq_iff_eq]
 unfold hiW loW
 omega
theorem less1_any(ah al bh bl:Int)(w:World) :
 Calls Tryd.prog 64 #[.agg #[.int .u64 ah,.int .u64 al],.agg #[.int .u64 bh,.int .u64 bl]] w fun e w'=>e= .returned (.bool (wless ah al bh bl))∧w.Grows w':=by
 by_cases c1:ah<bh
 ·go_enter Tryd.func64,Tryd.ntmps64
  go_wp2_with fail
  go_returns
  exact⟨ret_bool (by simp [wless,c1]),.of_below belB⟩
 ·by_cases c2:ah=bh
  ·subst c2
   go_enter Tryd.func64,Tryd.ntmps64
   go_wp2_with fail
   go_returns
   exact⟨ret_bool (by simp [wless]),.of_below belB⟩
  ·have c3:(ah==bh)=false:=by simpa using c2
   go_enter Tryd.func64,Tryd.ntmps64
   go_wp2_with fail
   go_returns
   exact⟨ret_bool (by simp [wless,c1,c3]),.of_below belB⟩
def witV(neg:Bool)(h l k d:Int):Value:=if(h !=0)=true∨1000000000000000<l∨(k !=0)=true∨1000000000<d then .tuple #[.agg #[.int .i64 0,.int .i64 0],.int .i64 2]else .tuple #[.agg #[.int .i64 (if neg then -l else l),.int .i64 d],.int .i64 0]
def frV(r:Int × Int × Int):Value:=.tuple #[.agg #[.int .i64 r.1,.int .i64 r.2.1],.int .i64 r.2.2]
theorem Neg1_any(n d:Int)(w:World)(h1:-9223372036854775808≤n)(h2:n≤9223372036854775807)(h3:-9223372036854775808≤d)(h4:d≤9223372036854775807) :
 Calls Tryd.prog 80 #[.agg #[.int .i64 n,.int .i64 d]] w fun e w'=>e= .returned (frV (negF n d))∧w.Grows w':=by
 have hv:=Lib.hid (fun w=>Valid1_any n d w h1 h2 h3 h4)
 generalize hx:vfrac n d=b at *
 cases b
 focus
  have HR:=Lib.hid (show negF n d=(0,0,1)by unfold negF;rw [hx];rfl)
 rotate_left
 focus
  have HR:=Lib.hid (show negF n d=(-n,d,0)by unfold negF;rw [hx];rfl)
  obtain⟨k1,k2,k3,k4⟩:=vfrac_bd hx
 rotate_left
 all_goals
  clear hx
  go_enter Tryd.func80,Tryd.ntmps80
  go_wp2_with fail
  refine(hv.out _).mono ?_
  rintro e w' ⟨rfl,bs,dr,rfl⟩
  clear hv
  go_wp2_with fail
  go_returns
  exact⟨by rw [HR.out];rfl,.of_below belB⟩
theorem gcdI_nat(a b:Nat):gcdI a b=(Nat.gcd a b:Nat):=by unfold gcdI;simp
theorem frV_wit(b:Bool)(p q:Nat):witV b (hiW p) (loW p) (hiW q) (loW q)=frV (if 1000000000000000<p∨1000000000<q then(0,0,2)else(if b then -(p:Int)else p,q,0)):=by
 unfold witV hiW loW
 by_cases c:1000000000000000<p∨1000000000<q
 ·rw [if_pos c,if_pos (by
   by_cases ha:p / 18446744073709551616=0
   ·by_cases hb:q / 18446744073709551616=0
    ·omega
    ·right;right;left;simp;omega
   ·left;simp;omega)]
  rfl
 ·have ha:p / 18446744073709551616=0:=by omega
  have hb:q / 18446744073709551616=0:=by omega
  have hc:p % 18446744073709551616=p:=by omega
  have hd:q % 18446744073709551616=q:=by omega
  rw [if_neg c,if_neg (by rw [ha,hb,hc,hd];simp;omega),hc,hd]
  rfl
theorem quo_u64{a g:Int}(h0:0≤a)(h1:a<18446744073709551616)(hg:1≤g):IntKind.u64.wrap (a.tdiv g)=a / g:=by
 rw [Int.tdiv_eq_ediv_of_nonneg h0]
 have h2:=Int.ediv_nonneg h0 (show 0≤g by omega)
 have h3:a / g≤a:=Int.ediv_le_self g h0
 exact IntWalk.u64_in _ (by omega)
theorem prdX_comm(d m k n:Nat):d / Nat.gcd m d*(k / Nat.gcd n k)=prdX d m k n:=by
 unfold prdX;rw [Nat.gcd_comm m d,Nat.gcd_comm n k]
theorem ediv_nat(a b:Nat):(a:Int) / (b:Int)=((a / b:Nat):Int):=by simp
end Go.Proofs.YthionhbjmheimaaDoor
namespace Go.Proofs.YthionhbjmheimaaDoor
theorem floor_mod{n d:Int}(h:1≤d):(if n.tmod d<0 then n.tdiv d-1 else n.tdiv d)=n / d:=by
 have e1:=Int.mul_tdiv_add_tmod n d
 have hb:=Int.tmod_lt_of_pos n (show 0<d by omega)
 have hc:=Int.tmod_lt_of_pos (-n) (show 0<d by omega)
 rw [Int.neg_tmod]at hc
 symm
 split
 ·exact((Int.ediv_emod_unique (r:=n.tmod d+d) (q:=n.tdiv d-1) (show 0<d by omega)).2 ⟨by rw [Int.mul_sub];omega,by omega,by omega⟩).1
 ·exact((Int.ediv_emod_unique (r:=n.tmod d) (q:=n.tdiv d) (show 0<d by omega)).2 ⟨by omega,by omega,by omega⟩).1
theorem floor_mul{n d:Int}(h:1≤d):(if n<n.tdiv d*d then n.tdiv d-1 else n.tdiv d)=n / d:=by
 have e1:=Int.mul_tdiv_add_tmod n d
 rw [←floor_mod h]
 rw [Int.mul_comm]at e1
 by_cases c:n.tmod d<0
 ·rw [if_pos c,if_pos (by omega)]
 ·rw [if_neg c,if_neg (by omega)]
theorem cmp_diff{an ad bn bd:Int}(h1:1≤ad)(h2:1≤bd)(h:decide (an<0)≠decide (bn<0)):cmpI an ad bn bd=if an<0 then -1 else 1:=by
 unfold cmpI
 by_cases c:an<0
 ·have hb:0≤bn:=by simp [c]at h;omega
  have k1:an*bd<0:=Int.mul_neg_of_neg_of_pos c (by omega)
  have k2:0≤bn*ad:=Int.mul_nonneg hb (by omega)
  rw [if_pos (by omega),if_pos c]
 ·have hb:bn<0:=by simp [c]at h;omega
  have k1:bn*ad<0:=Int.mul_neg_of_neg_of_pos hb (by omega)
  have k2:0≤an*bd:=Int.mul_nonneg (by omega) (by omega)
  rw [if_neg (by omega),if_pos (by omega),if_neg c]
theorem abs_mul{a d:Int}(h:1≤d):a*d=if a<0 then -((a.natAbs*d.natAbs:Nat):Int)else((a.natAbs*d.natAbs:Nat):Int):=by
 rw [Int.natCast_mul]
 have hd:((d.natAbs:Nat):Int)=d:=by omega
 rw [hd]
 split
 ·rw [←Int.neg_mul];congr 1;omega
 ·congr 1;omega
theorem cmp_same{an ad bn bd:Int}(h1:1≤ad)(h2:1≤bd)(h:decide (an<0)=decide (bn<0)) :
 cmpI an ad bn bd=if an<0 then(if bn.natAbs*ad.natAbs<an.natAbs*bd.natAbs then -1 else if an.natAbs*bd.natAbs<bn.natAbs*ad.natAbs then 1 else 0)
  else(if an.natAbs*bd.natAbs<bn.natAbs*ad.natAbs then -1 else if bn.natAbs*ad.natAbs<an.natAbs*bd.natAbs then 1 else 0):=by
 unfold cmpI
 rw [abs_mul (a:=an) h2,abs_mul (a:=bn) h1]
 generalize an.natAbs*bd.natAbs=X
 generalize bn.natAbs*ad.natAbs=Y
 by_cases c:an<0
 ·have hb:bn<0:=by simpa [c]using h
  rw [if_pos c,if_pos hb,if_pos c]
  split<;>rename_i q<;>split<;>first|omega|(split<;>first|omega|(split<;>omega))
 ·have hb:¬bn<0:=by simpa [c]using h
  rw [if_neg c,if_neg hb,if_neg c]
  split<;>rename_i q<;>split<;>first|omega|(split<;>first|omega|(split<;>omega))
def fdig(d:Int):Nat→Int→Option (List Int)
 |0,r=>if r≤0 then some []else none
 |f+1,r=>if r≤0 then some []else(fdig d f (r*10 % d)).map fun l=>r*10 / d::l
def redP(p:Int):Nat→Int→Int→Int × Int
 |0,a,b=>(a,b)
 |f+1,a,b=>if a % p=0∧b % p=0 then redP p f (a / p) (b / p)else(a,b)
def dgB(x:Int):UInt8:=UInt8.ofNat (48+x.toNat)
def dotL(l:List Int):List UInt8:=if l= []then []else 46::l.map dgB
def sufL(m:Int):List UInt8:=if m=3 then [100]else if m=4 then [109]else []
def dec2T(n d m:Int):List UInt8:=match fdig d 4 (n % d)with|some l=>Lib.decDigits (n / d).toNat++dotL l++sufL m|none=>[]
end Go.Proofs.YthionhbjmheimaaDoor
namespace Go.Proofs.YthionhbjmheimaaDoor
open Go.RowKit Go.ChangeShapes Go.WideShapes Go.Deep
section
variable {H : Type} {enc : TypeId × Value → H} {P : Program} {w : World}
def fits(P:Program)(t:TypeId)(d:DataW H):Prop:=∀n∈d.weights P t,n≤140737488351232

theorem add_at'(b off i:Nat):(⟨b,off,none⟩:Addr).add i=⟨b,off+i,none⟩:=by unfold Addr.add;split<;>simp_all
theorem cell_lt{w:World}{b o:Nat}{v:Value}(h:w.cell? ⟨b,o,none⟩=some v):b<w.heap.size:=by
 rcases Nat.lt_or_ge b w.heap.size with h1|h1
 ·exact h1
 ·simp [World.cell?,Array.getElem?_eq_none h1]at h
theorem i64_of_wf{n:Int}(h:(Lit.int .i64 n).wf=true):I64 n:=bounds_i64 h
theorem IntsAt.of_cells{a:Option Addr}{len cap:Nat}{zs:List Int}(hl:len≤cap)(hz:zs.length=cap)(hw:∀n∈zs,(Lit.int .i64 n).wf=true)(hb:len≤140737488355328)(ha:a=none→len=0)
 (hc:∀x,a=some x→∀i,i<cap→w.cell? (x.add i)=some (.int .i64 (zs.getD i 0))):IntsAt w (.slice a len cap) (zs.take len):=by
 have hlen:(zs.take len).length=len:=by rw [List.length_take];omega
 refine⟨by omega,fun z hz2=>i64_of_wf (hw z (List.mem_of_mem_take hz2)),a,cap,by rw [hlen], ?_⟩
 rw [hlen]
 by_cases h0:len=0
 ·exact .inl h0
 ·cases a with
  |none=>exact .inl (ha rfl)
  |some x=>
   obtain⟨b,off,spot⟩:=x
   have h1:=hc _ rfl 0 (by omega)
   have hspot:spot=none:=by simpa [Addr.add]using World.cell?_spot h1
   subst hspot
   have h2:∀i,i<cap→w.cell? ⟨b,off+i,none⟩=some (.int .i64 (zs.getD i 0)):=fun i hi=>by
    rw [←add_at'];exact hc _ rfl i hi
   refine .inr ⟨b,off,rfl,cell_lt (h2 0 (by omega)),fun i hi=>?_⟩
   rw [h2 i (by omega)]
   simp [List.getD_eq_getElem?_getD,hi]
theorem IntsAt.of_trod{t e:TypeId}{fuel:Nat}{v:Value}{x:DataW H × List MemPlace}(ht:P.underlying t=some (.slice e))(he:P.underlying e=some (.int .i64))(hc:P.cellsOf e=1)(hb:P.bytesOf e=8)
 (h:DataW.trod enc P w 0 (fun _=>true) true fuel t [v]=some x) (hf:fits P t x.1):∃zs,IntsAt w v zs:=by
 rcases open_ints ht he hc h with ⟨hcs,_⟩|⟨a,l,c,zs,hcs,_,hl,hm,hz,hx,hcell,hwz⟩
 ·simp at hcs
  subst hcs
  exact⟨[],by simp,by simp,none,0,rfl,.inl rfl⟩
 ·simp at hcs
  subst hcs
  simp only [if_true]at hz
  have h8:l≤140737488355328:=by
   have h9:=hf ((l+(c-l))*8) (by rw [hx];simp [DataW.weights,ht,lits,hb,hz,Nat.min_eq_left hl])
   omega
  exact⟨zs.take l,IntsAt.of_cells hl hz hwz h8 (fun e=>by cases e) fun x' hx' i hi=>by cases hx';exact hcell i (by omega)⟩
end
theorem c3:(Tryd.prog).cellsOf 3=1:=by kernel_rfl
theorem c22:(Tryd.prog).cellsOf 22=1:=by kernel_rfl
theorem b3:(Tryd.prog).bytesOf 3=8:=by kernel_rfl
theorem b22:(Tryd.prog).bytesOf 22=24:=by kernel_rfl
theorem fits_part{H:Type}{P:Program}{t:TypeId}{fs:Array Field}{l:List (DataW H)}{i:Nat}{f:Field}{d:DataW H}(ht:P.underlying t=some (.struct fs))(h:fits P t (.agg l))(hf:fs[i]? =some f)(hd:l[i]? =some d):fits P f.type d:=by
 intro n hn
 refine h n ?_
 simp only [DataW.weights,ht]
 exact DataW.weights_mem_each (j:=i) (by simp [hf]) hd n hn
theorem int_of_trod{H:Type}{enc:TypeId × Value→H}{w:World}{fuel:Nat}{v:Value}{x:DataW H × List MemPlace}(h:DataW.trod enc Tryd.prog w 0 (fun _=>true) true fuel 3 [v]=some x):∃n,v= .int .i64 n∧I64 n:=by
 obtain⟨n,hcs,_,hw⟩:=DataW.trod_int Tryd.underlying3 h
 exact⟨n,by simpa using hcs,i64_of_wf hw⟩
end Go.Proofs.YthionhbjmheimaaDoor
namespace Go
section
variable {P : Program} {ops : Array Oper} {Q : Exit → Act → World → Prop} {S : World → Prop} {T : List Nat} {f : Nat} {oi : Oper} {v : Value} {listed : Array Bool} {a a' : Act} {w : World}
theorem TS.skB(i:Nat)(hS:S w)(h:TS P ops Q S T f (listed.setIfInBounds i true) a' w)
 (hi:ops[i]? =some oi:=by rfl) (hs:Region.noSelect ops=true:=by kernel_rfl) (hf:Region.free .any ops listed i=true:=by kernel_rfl) (hr:(Region.ready .any ops listed).contains i=true:=by kernel_rfl) (hit:i∉T:=by decide)
 (hQ:∀c a w,Q (.panic c) (a.put oi.dst v) w→Q (.panic c) a w:=by exact fun _ _ _ h=>h) (hw:Region.wanted oi (yielded ops a.tmps)=true:=by rfl) (hy:∀w,S w→(execOp a.eval oi).run P w= .ok (.value v) w:=by intro wS hSw;(try dsimp only at hSw);go_simp;rfl)
 (ha:a.put oi.dst v=a':=by first|(simp only [nS];rfl)|rfl):TS P ops Q S T (f+1) listed a w:=by
 subst ha
 exact TS.takeV hi hs hf hr hit hQ hw hS hy h
end
def Rel(Y:World)(row:Option Nat)(w:World):Prop:=Y.heap.size≤w.heap.size∧∀k,k<Y.heap.size→some k≠row→w.heap[k]? =Y.heap[k]?
section
variable {Y w w' : World} {row : Option Nat}
theorem Rel.refl(Y:World)(row:Option Nat):Rel Y row Y:=⟨Nat.le_refl _,fun _ _ _=>rfl⟩
theorem Rel.grows(h:Rel Y row w)(hg:w.Grows w'):Rel Y row w':=⟨Nat.le_trans h.1 hg.below.size,fun k h1 h2=>(hg.below.block k (Nat.lt_of_lt_of_le h1 h.1)).trans (h.2 k h1 h2)⟩
theorem Rel.grown(h:Rel Y row w)(hg:w.grownBy w' row):Rel Y row w':=⟨Nat.le_trans h.1 hg.size,fun k h1 h2=>(hg.block k (Nat.lt_of_lt_of_le h1 h.1) h2).trans (h.2 k h1 h2)⟩
theorem Rel.cell(h:Rel Y row w){b o:Nat}(hb:b<Y.heap.size)(hr:some b≠row):w.cell? ⟨b,o,none⟩=Y.cell? ⟨b,o,none⟩:=World.cell?_of_block (h.2 b hb hr)
end
end Go
