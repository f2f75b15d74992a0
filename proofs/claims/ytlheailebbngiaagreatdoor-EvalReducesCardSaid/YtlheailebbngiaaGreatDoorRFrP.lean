import Derived.Test.YtlheailebbngiaaGreatDoorRWide
import Derived.Shelf.Spec.BitsCarry
set_option linter.all false
set_option maxHeartbeats 16000000
set_option maxRecDepth 1000000
namespace Go.Proofs.YtlheailebbngiaaGreatDoor
open Tryz List

theorem Ki{b c:Bool}{n d:Nat}(h:n=0\/b=c):ku b n d=ku c n d:=by
 rcases h with rfl|rfl
 ·unfold ku;simp
 ·rfl
theorem uB(n d:Nat):kK n d=0\/kK n d=2:=by unfold kK;split<;>simp
theorem Ff{n d:Nat}(b:Bool)(h:kK n d≠0):ku b n d=0/\mf n d=0:=by
 unfold kK at h;unfold ku mf
 split at h<;>rename_i hc
 ·rw [if_pos hc,if_pos hc];exact⟨rfl,rfl⟩
 ·exact absurd rfl h
theorem wh{n d:Nat}(b:Bool)(h1:1<=d)(h2:d<=1000000000)(h3:n<=1000000000000000)(hg:Nat.gcd n d=1):az (if b then -(n:Int)else n) d=true:=by
 refine oP ⟨by omega,by omega, ?_, ?_⟩ ?_
 ·cases b<;>simp<;>omega
 ·cases b<;>simp<;>omega
 ·cases b<;>simpa using hg
theorem Kh{n d:Nat}(b:Bool)(hd:0<d)(h:kK n d=0):az (ku b n d) (mf n d)=true:=by
 have hg:0<Nat.gcd n d:=Nat.gcd_pos_of_pos_right _ hd;unfold kK at h;unfold ku mf
 split at h<;>rename_i hc
 ·simp at h
 ·rw [if_neg hc,if_neg hc];have h1:0<d / Nat.gcd n d:=Nat.div_pos (Nat.gcd_le_right _ hd) hg;exact wh b ze ze ze (Nat.coprime_div_gcd_div_gcd hg)

def iw(n k m h:Nat):Nat:=n / Nat.gcd n k*(m / Nat.gcd m h)
def nX(b:Bool)(n d m k:Nat):Int × Int × Int:=
 if 1000000000000000<iw n k m d\/1000000000<iw d m k n then(0,0,2)else(if b then -(iw n k m d:Int)else iw n k m d,iw d m k n,0)

def iZ(n d:Int):Int × Int × Int:=if az n d then(-n,d,0)else(0,0,1)
def jk(an ad bn bd:Int):Int:=an*bd+bn*ad
def jW(an ad bn bd:Int):Int × Int × Int:=
 if az an ad&&az bn bd then
  (ku (decide (jk an ad bn bd<0)) (jk an ad bn bd).natAbs (ad.natAbs*bd.natAbs),mf (jk an ad bn bd).natAbs (ad.natAbs*bd.natAbs),kK (jk an ad bn bd).natAbs (ad.natAbs*bd.natAbs))
 else(0,0,1)
def l6(an ad bn bd:Int):Int × Int × Int:=if az bn bd then jW an ad (-bn) bd else(0,0,1)
def lQ(an ad bn bd:Int):Int × Int × Int:=
 if az an ad&&az bn bd then nX (decide (an<0)!=decide (bn<0)) an.natAbs ad.natAbs bn.natAbs bd.natAbs else(0,0,1)
def lS(an ad bn bd:Int):Int × Int × Int:=
 if az an ad&&az bn bd then if bn=0 then(0,0,3)else nX (decide (an<0)!=decide (bn<0)) an.natAbs ad.natAbs bd.natAbs bn.natAbs else(0,0,1)
def gJ(an ad bn bd:Int):Int:=if an*bd<bn*ad then -1 else if bn*ad<an*bd then 1 else 0
def fJ(an ad bn bd:Int):Int × Int:=if az an ad&&az bn bd then(gJ an ad bn bd,0)else(0,1)
def eO(n d:Int):Int × Int:=if az n d then(n / d,0)else(0,1)

theorem vZ{n d:Int}:az (-n) d=az n d:=by
 unfold az aI;rw [Int.natAbs_neg]
 congr 1
 refine decide_eq_decide.2 ?_;omega
theorem gP{n d:Int}(h:az n d=true):Nat.Coprime n.natAbs d.natAbs:=qf h

theorem IY{a d b e:Nat}(s:Bool):jk (if s then -(a:Int)else a) d (if s then -(b:Int)else b) e=if s then -((a*e+b*d:Nat):Int)else((a*e+b*d:Nat):Int):=by
 unfold jk;cases s<;>simp [Int.neg_mul];omega
theorem IZ{a d b e:Nat}(s:Bool):jk (if s then -(a:Int)else a) d (if s then(b:Int)else -b) e=if s then((b*d:Nat):Int)-(a*e:Nat)else((a*e:Nat):Int)-(b*d:Nat):=by
 unfold jk;cases s<;>simp [Int.neg_mul]<;>omega
theorem ny(n:Int):n=if decide (n<0)then -(n.natAbs:Int)else n.natAbs:=by
 by_cases h:n<0<;>simp [h]<;>omega

theorem CB{an ad bn bd:Int}(h1:1<=ad)(h2:1<=bd)(hs:decide (an<0)=decide (bn<0)) :
 (jk an ad bn bd).natAbs=an.natAbs*bd.natAbs+bn.natAbs*ad.natAbs/\((jk an ad bn bd).natAbs=0\/decide (jk an ad bn bd<0)=decide (an<0)):=by
 have e:=IY (a:=an.natAbs) (d:=ad.natAbs) (b:=bn.natAbs) (e:=bd.natAbs) (decide (an<0));have e1:=ny an;have e2:=ny bn;rw [<-hs]at e2;rw [<-e1,<-e2,show((ad.natAbs:Nat):Int)=ad by omega,show((bd.natAbs:Nat):Int)=bd by omega]at e;rw [e];generalize an.natAbs*bd.natAbs+bn.natAbs*ad.natAbs=N at *;by_cases h:an<0
 ·simp [h];omega
 ·simp [h]
theorem CE{an ad bn bd:Int}(h1:1<=ad)(h2:1<=bd)(hs:decide (an<0)≠decide (bn<0)) :
 (an.natAbs*bd.natAbs<bn.natAbs*ad.natAbs->(jk an ad bn bd).natAbs=bn.natAbs*ad.natAbs-an.natAbs*bd.natAbs/\((jk an ad bn bd).natAbs=0\/decide (jk an ad bn bd<0)=decide (bn<0)))/\
 (bn.natAbs*ad.natAbs<=an.natAbs*bd.natAbs->(jk an ad bn bd).natAbs=an.natAbs*bd.natAbs-bn.natAbs*ad.natAbs/\((jk an ad bn bd).natAbs=0\/decide (jk an ad bn bd<0)=decide (an<0))):=by
 have e:=IZ (a:=an.natAbs) (d:=ad.natAbs) (b:=bn.natAbs) (e:=bd.natAbs) (decide (an<0));have e1:=ny an;have e2:=ny bn;rw [<-e1,show((ad.natAbs:Nat):Int)=ad by omega,show((bd.natAbs:Nat):Int)=bd by omega]at e
 have e3:(if decide (an<0)=true then(bn.natAbs:Int)else -(bn.natAbs:Int))=bn:=by
  clear e e1 e2;by_cases c1:an<0<;>by_cases c2:bn<0<;>simp [c1,c2]at hs ⊢<;>omega
 rw [e3]at e;rw [e];generalize an.natAbs*bd.natAbs=M at *;generalize bn.natAbs*ad.natAbs=N at *;clear e e1 e2 e3;by_cases c1:an<0<;>by_cases c2:bn<0<;>simp [c1,c2]at hs ⊢<;>omega

theorem Fy{an ad bn bd:Int}(ha:az an ad=true)(hb:az bn bd=true)(h:an*bd=bn*ad):an=bn/\ad=bd:=by
 have p:=gP ha;have q:=gP hb;have h1:=aF ha;have h2:=aF hb;exact Q0
theorem J6{n k m h:Nat}(h1:0<n)(h2:0<m):0<iw n k m h:=by
 unfold iw;exact Nat.mul_pos (Nat.div_pos (Nat.gcd_le_left _ h1) (Nat.gcd_pos_of_pos_left _ h1)) (Nat.div_pos (Nat.gcd_le_left _ h2) (Nat.gcd_pos_of_pos_left _ h2))
theorem Gl{n d m k:Nat}(hd:0<d)(hk:0<k)(p:Nat.Coprime n d)(q:Nat.Coprime m k):Nat.Coprime (iw n k m d) (iw d m k n):=by
 unfold iw;have g1:0<Nat.gcd n k:=Nat.gcd_pos_of_pos_right _ hk;have g2:0<Nat.gcd m d:=Nat.gcd_pos_of_pos_right _ hd;have a1:=Nat.coprime_div_gcd_div_gcd g1;have a2:=Nat.coprime_div_gcd_div_gcd g2;rw [Nat.gcd_comm d m,Nat.gcd_comm k n];have dv (x y:Nat):x / Nat.gcd x y ∣ x:=Nat.div_dvd_of_dvd (Nat.gcd_dvd_left x y);have dw (x y:Nat):y / Nat.gcd x y ∣ y:=Nat.div_dvd_of_dvd (Nat.gcd_dvd_right x y);refine Nat.Coprime.mul_left (Nat.Coprime.mul_right ?_ a1) (Nat.Coprime.mul_right a2 ?_)
 ·exact Nat.Coprime.coprime_dvd_left (dv n k) (Nat.Coprime.coprime_dvd_right (dw m d) p)
 ·exact Nat.Coprime.coprime_dvd_left (dv m d) (Nat.Coprime.coprime_dvd_right (dw n k) q)
def okF(r:Int × Int × Int):Prop:=(r.2.2=0/\az r.1 r.2.1=true)\/(r.1=0/\r.2.1=0/\(r.2.2=2\/r.2.2=3))
theorem EY{n d m k:Nat}(b:Bool)(hd:0<d)(hk:0<k)(p:Nat.Coprime n d)(q:Nat.Coprime m k):okF (nX b n d m k):=by
 unfold nX
 split<;>rename_i hc
 ·exact .inr ⟨rfl,rfl,.inl rfl⟩
 ·have h1:=J6 (k:=m) (h:=n) hd hk;exact .inl ⟨rfl,wh b ze ze ze (Gl hd hk p q)⟩
theorem FP{an ad bn bd:Int}(ha:az an ad=true)(hb:az bn bd=true):okF (jW an ad bn bd):=by
 have h1:=aF ha;have h2:=aF hb;unfold jW;rw [ha,hb];simp only [Bool.and_self,if_true];have hd:0<ad.natAbs*bd.natAbs:=Nat.mul_pos ze ze;rcases uB (jk an ad bn bd).natAbs (ad.natAbs*bd.natAbs)with h|h
 ·exact .inl ⟨h,Kh _ hd h⟩
 ·have h3:=Ff (decide (jk an ad bn bd<0)) (show kK (jk an ad bn bd).natAbs (ad.natAbs*bd.natAbs)≠0 by omega);exact .inr ⟨h3.1,h3.2,.inl h⟩
theorem MB{an ad bn bd:Int}(ha:az an ad=true)(hb:az bn bd=true):okF (l6 an ad bn bd):=by
 unfold l6;rw [hb];exact FP ha (by rw [vZ];exact hb)
theorem NC{an ad bn bd:Int}(ha:az an ad=true)(hb:az bn bd=true):okF (lQ an ad bn bd):=by
 have h1:=aF ha;have h2:=aF hb;unfold lQ;rw [ha,hb];exact EY _ ze ze (gP ha) (gP hb)
theorem Oo{an ad bn bd:Int}(ha:az an ad=true)(hb:az bn bd=true):okF (lS an ad bn bd):=by
 have h1:=aF ha;have h2:=aF hb;unfold lS;rw [ha,hb];simp only [Bool.and_self,if_true]
 split<;>rename_i hc
 ·exact .inr ⟨rfl,rfl,.inr rfl⟩
 ·exact EY _ ze ze (gP ha) (gP hb).symm
open Go.RowKit

theorem iE(a b:Nat)(w:World)(h1:a<18446744073709551616)(h2:b<18446744073709551616) :
 Calls prog 183 #[.int .u64 a,.int .u64 b] w fun e w'=>e= .returned (.agg #[.int .u64 (hiW (a*b)),.int .u64 (loW (a*b))])/\w.Grows w':=by
 have H:Hid (∀w,Calls prog 133 #[.int .u64 a,.int .u64 b] w fun e w'=>e= .returned (.tuple #[.int .u64 (hiW (a*b)),.int .u64 (loW (a*b))])/\w'=w):=bits_Mul64 a b h1 h2;generalize a*b=n at *
 go_enter func183,ntmps183
 go_wp2_with fail
 refine(H.out _).mono ?_;rintro e w' ⟨rfl,rfl⟩;clear H
 go_wp2_with fail
 go_returns
 exact⟨rfl,.of_below ag⟩
theorem xI(x y c:Nat)(hc:c<=1)(w:World):(callFunc 208 #[.int .u64 x,.int .u64 y,.int .u64 c]).run prog w=
 .ok (.value (.tuple #[.int .u64 (((x+y+c) % 18446744073709551616:Nat):Int),.int .u64 (((x+y+c) / 18446744073709551616:Nat):Int)])) w:=by
 rw [run_callFunc_extern func208 zf zf zf (e:=add64Entry) zf,run_add64 x y c ze ze ze ze];simp only [Result.andThen]
 congr 5<;>omega
theorem qj(x y b:Nat)(hb:b<=1)(w:World):(callFunc 209 #[.int .u64 x,.int .u64 y,.int .u64 b]).run prog w=
 .ok (.value (.tuple #[.int .u64 (((x+18446744073709551616-y-b) % 18446744073709551616:Nat):Int),.int .u64 ((if x<y+b then 1 else 0:Nat):Int)])) w:=by
 rw [run_callFunc_extern func209 zf zf zf (e:=sub64Entry) zf,run_sub64 x y b hb];rfl
def hiN(n:Nat):Nat:=n / 18446744073709551616
def loN(n:Nat):Nat:=n % 18446744073709551616
theorem IX(a b:Nat)(h:a+b<340282366920938463463374607431768211456) :
 (loN a+loN b+0) % 18446744073709551616=loN (a+b)/\(loN a+loN b+0) / 18446744073709551616<=1/\(hiN a+hiN b+(loN a+loN b+0) / 18446744073709551616) % 18446744073709551616=hiN (a+b):=by
 unfold loN hiN;omega
theorem wD(a b:Nat)(h:b<=a)(ha:a<340282366920938463463374607431768211456) :
 (loN a+18446744073709551616-loN b-0) % 18446744073709551616=loN (a-b)/\(if loN a<loN b+0 then 1 else 0)<=1/\(hiN a+18446744073709551616-hiN b-(if loN a<loN b+0 then 1 else 0)) % 18446744073709551616=hiN (a-b):=by
 unfold loN hiN;split<;>omega
theorem Gm(a b:Nat)(w:World)(h:a+b<340282366920938463463374607431768211456) :
 Calls prog 185 #[.agg #[.int .u64 (hiW a),.int .u64 (loW a)],.agg #[.int .u64 (hiW b),.int .u64 (loW b)]] w fun e w'=>e= .returned (.agg #[.int .u64 (hiW (a+b)),.int .u64 (loW (a+b))])/\w.Grows w':=by
 obtain⟨e1,e2,e3⟩:=IX a b h;obtain⟨c,hc⟩:∃c,(loN a+loN b+0) / 18446744073709551616=c:=⟨_,rfl⟩
 have ha:∀w,(callFunc 208 #[.int .u64 (loW a),.int .u64 (loW b),.int .u64 0]).run prog w= .ok (.value (.tuple #[.int .u64 (loW (a+b)),.int .u64 (c:Int)])) w:=by
  intro w;have:=xI (loN a) (loN b) 0 ze w;rw [e1,hc]at this;exact this
 have hb:∀w,(callFunc 208 #[.int .u64 (hiW a),.int .u64 (hiW b),.int .u64 (c:Int)]).run prog w= .ok (.value (.tuple #[.int .u64 (hiW (a+b)),.int .u64 ((hiN a+hiN b+c) / 18446744073709551616:Nat)])) w:=by
  intro w;have:=xI (hiN a) (hiN b) c ze w;rw [<-hc,e3,hc]at this;exact this
 generalize(((hiN a+hiN b+c) / 18446744073709551616:Nat):Int)=z at *;generalize(c:Int)=c' at *;clear e1 e2 e3 hc h;generalize hiW a=A at *;generalize hiW b=B at *;generalize loW a=La at *;generalize loW b=Lb at *;generalize hiW (a+b)=S at *;generalize loW (a+b)=T at *
 go_enter func185,ntmps185
 go_wp2_with fail
 go_returns
 exact⟨rfl,.of_below ag⟩
theorem uq(a b:Nat)(w:World)(h:b<=a)(h2:a<340282366920938463463374607431768211456) :
 Calls prog 186 #[.agg #[.int .u64 (hiW a),.int .u64 (loW a)],.agg #[.int .u64 (hiW b),.int .u64 (loW b)]] w fun e w'=>e= .returned (.agg #[.int .u64 (hiW (a-b)),.int .u64 (loW (a-b))])/\w.Grows w':=by
 obtain⟨e1,e2,e3⟩:=wD a b h h2;obtain⟨c,hc⟩:∃c,(if loN a<loN b+0 then 1 else 0)=c:=⟨_,rfl⟩
 have ha:∀w,(callFunc 209 #[.int .u64 (loW a),.int .u64 (loW b),.int .u64 0]).run prog w= .ok (.value (.tuple #[.int .u64 (loW (a-b)),.int .u64 (c:Int)])) w:=by
  intro w;have:=qj (loN a) (loN b) 0 ze w;rw [e1,hc]at this;exact this
 have hb:∀w,(callFunc 209 #[.int .u64 (hiW a),.int .u64 (hiW b),.int .u64 (c:Int)]).run prog w= .ok (.value (.tuple #[.int .u64 (hiW (a-b)),.int .u64 ((if hiN a<hiN b+c then 1 else 0:Nat):Int)])) w:=by
  intro w;have:=qj (hiN a) (hiN b) c ze w;rw [<-hc,e3,hc]at this;exact this
 generalize((if hiN a<hiN b+c then 1 else 0:Nat):Int)=z at *;generalize(c:Int)=c' at *;clear e1 e2 e3 hc h h2;generalize hiW a=A at *;generalize hiW b=B at *;generalize loW a=La at *;generalize loW b=Lb at *;generalize hiW (a-b)=S at *;generalize loW (a-b)=T at *
 go_enter func186,ntmps186
 go_wp2_with fail
 go_returns
 exact⟨rfl,.of_below ag⟩
theorem Ky(a b:Nat)(h:b<=a)(ha:a<340282366920938463463374607431768211456):IntKind.u64.wrap (IntKind.u64.wrap (hiW a-hiW b)-((if loN a<loN b+0 then 1 else 0:Nat):Int))=hiW (a-b):=by
 simp only [IntKind.wrap_u64];unfold hiW loN
 split<;>omega
theorem ut(a b:Nat)(w:World)(h:b<=a)(h2:a<340282366920938463463374607431768211456) :
 Calls prog 191 #[.agg #[.int .u64 (hiW a),.int .u64 (loW a)],.agg #[.int .u64 (hiW b),.int .u64 (loW b)]] w fun e w'=>e= .returned (.agg #[.int .u64 (hiW (a-b)),.int .u64 (loW (a-b))])/\w.Grows w':=by
 have hp:=Ky a b h h2;obtain⟨e1,e2,e3⟩:=wD a b h h2;obtain⟨c,hc⟩:∃c,(if loN a<loN b+0 then 1 else 0)=c:=⟨_,rfl⟩
 have ha:∀w,(callFunc 209 #[.int .u64 (loW a),.int .u64 (loW b),.int .u64 0]).run prog w= .ok (.value (.tuple #[.int .u64 (loW (a-b)),.int .u64 (c:Int)])) w:=by
  intro w;have:=qj (loN a) (loN b) 0 ze w;rw [e1,hc]at this;exact this
 rw [hc]at hp;generalize(c:Int)=c' at *;clear e1 e2 e3 hc h h2;generalize hiW a=A at *;generalize hiW b=B at *;generalize loW a=La at *;generalize loW b=Lb at *;generalize hiW (a-b)=S at *;generalize loW (a-b)=T at *
 go_enter func191,ntmps191
 go_wp2_with fail
 go_returns
 exact⟨rfl,.of_below ag⟩
def nO(ah al bh bl:Int):Bool:=decide (ah<bh) || ((ah==bh)&&decide (al<bl))
theorem kH(a b:Nat):nO (hiW a) (loW a) (hiW b) (loW b)=decide (a<b):=by
 unfold nO;rw [Bool.eq_iff_iff];simp only [Bool.or_eq_true,Bool.and_eq_true,decide_eq_true_eq,beq_iff_eq];unfold hiW loW;omega
theorem wR(ah al bh bl:Int)(w:World) :
 Calls prog 102 #[.agg #[.int .u64 ah,.int .u64 al],.agg #[.int .u64 bh,.int .u64 bl]] w fun e w'=>e= .returned (.bool (nO ah al bh bl))/\w.Grows w':=by
 by_cases c1:ah<bh
 ·go_enter func102,ntmps102
  go_wp2_with fail
  go_returns
  exact⟨au (by simp [nO,c1]),.of_below ag⟩
 ·by_cases c2:ah=bh
  ·subst c2
   go_enter func102,ntmps102
   go_wp2_with fail
   go_returns
   exact⟨au (by simp [nO]),.of_below ag⟩
  ·have c3:(ah==bh)=false:=by simpa using c2
   go_enter func102,ntmps102
   go_wp2_with fail
   go_returns
   exact⟨au (by simp [nO,c1,c3]),.of_below ag⟩
theorem qB(ah al bh bl:Int)(w:World) :
 Calls prog 184 #[.agg #[.int .u64 ah,.int .u64 al],.agg #[.int .u64 bh,.int .u64 bl]] w fun e w'=>e= .returned (.bool (nO ah al bh bl))/\w.Grows w':=by
 by_cases c1:ah<bh
 ·go_enter func184,ntmps184
  go_wp2_with fail
  go_returns
  exact⟨au (by simp [nO,c1]),.of_below ag⟩
 ·by_cases c2:ah=bh
  ·subst c2
   go_enter func184,ntmps184
   go_wp2_with fail
   go_returns
   exact⟨au (by simp [nO]),.of_below ag⟩
  ·have c3:(ah==bh)=false:=by simpa using c2
   go_enter func184,ntmps184
   go_wp2_with fail
   go_returns
   exact⟨au (by simp [nO,c1,c3]),.of_below ag⟩
theorem Dm(H L d q r Q:Int)(w:World)(a1:(d==0)=false)(a2:1<=d)(h0:0<=H)
 (a3:IntKind.u64.wrap (H.tdiv d)=Q)
 (HD:Hid (∀w,Calls prog 167 #[.int .u64 (H % d),.int .u64 L,.int .u64 d] w fun e w'=>e= .returned (.tuple #[.int .u64 q,.int .u64 r])/\w.Grows w')) :
 Calls prog 188 #[.agg #[.int .u64 H,.int .u64 L],.int .u64 d] w fun e w'=>e= .returned (.agg #[.int .u64 Q,.int .u64 q])/\w.Grows w':=by
 go_enter func188,ntmps188
 go_wp2_with fail
 go_region
 go_wp2_with fail
 refine(HD.out _).mono ?_;rintro e w' ⟨rfl,bs,dr,rfl⟩;clear HD
 go_wp2_with fail
 go_returns
 exact⟨rfl,.of_below ag⟩
theorem Gq(n d:Nat)(w:World)(h1:n<340282366920938463463374607431768211456)(h2:d<18446744073709551616)(h0:0<d) :
 Calls prog 188 #[.agg #[.int .u64 (hiW n),.int .u64 (loW n)],.int .u64 d] w fun e w'=>e= .returned (.agg #[.int .u64 (hiW (n / d)),.int .u64 (loW (n / d))])/\w.Grows w':=by
 obtain⟨e1,e2,e3⟩:=tZ n d h0 h2;have hh:=Ea n h1;refine Dm _ _ _ _ (l7 n d) _ w zp ze hh.1 ?_ ?_
 ·have:(hiW n).tdiv d=((n / 18446744073709551616 / d:Nat):Int):=by
   rw [Int.tdiv_eq_ediv_of_nonneg hh.1];unfold hiW;simp
  rw [this,<-e1];have h3:n / d<=n:=Nat.div_le_self _ _;unfold hiW;generalize n / d=m at *;exact IntWalk.u64_in _ ze
 ·intro w;have:=q8 (n / 18446744073709551616 % d) (n % 18446744073709551616) d w (Nat.mod_lt _ h0) (Nat.mod_lt _ ze) h2;rw [<-e2,<-e3]at this;simpa [hiW,loW,l7]using this
theorem JX(H L d q r:Int)(w:World)(a1:(d==0)=false)(a2:1<=d)(h0:0<=H)
 (HD:Hid (∀w,Calls prog 167 #[.int .u64 (H % d),.int .u64 L,.int .u64 d] w fun e w'=>e= .returned (.tuple #[.int .u64 q,.int .u64 r])/\w.Grows w')) :
 Calls prog 187 #[.int .u64 H,.int .u64 L,.int .u64 d] w fun e w'=>e= .returned (.int .u64 r)/\w.Grows w':=by
 go_enter func187,ntmps187
 go_wp2_with fail
 refine(HD.out _).mono ?_;rintro e w' ⟨rfl,bs,dr,rfl⟩;clear HD
 go_wp2_with fail
 go_returns
 exact⟨rfl,.of_below ag⟩
theorem Je(n d:Nat)(w:World)(h1:n<340282366920938463463374607431768211456)(h2:d<18446744073709551616)(h0:0<d) :
 Calls prog 187 #[.int .u64 (hiW n),.int .u64 (loW n),.int .u64 d] w fun e w'=>e= .returned (.int .u64 (l7 n d))/\w.Grows w':=by
 obtain⟨e1,e2,e3⟩:=tZ n d h0 h2;have hh:=Ea n h1;refine JX _ _ _ (loW (n / d)) _ w zp ze hh.1 ?_;intro w;have:=q8 (n / 18446744073709551616 % d) (n % 18446744073709551616) d w (Nat.mod_lt _ h0) (Nat.mod_lt _ ze) h2;rw [<-e2,<-e3]at this;simpa [hiW,loW,l7]using this
def jw(neg:Bool)(h l k d:Int):Value:=if(h !=0)=true\/1000000000000000<l\/(k !=0)=true\/1000000000<d then .tuple #[.agg #[.int .i64 0,.int .i64 0],.int .i64 2]else .tuple #[.agg #[.int .i64 (if neg then -l else l),.int .i64 d],.int .i64 0]
theorem lW(neg:Bool)(h l k d:Int)(w:World)(hl0:0<=l)(hd0:0<=d) :
 Calls prog 99 #[.bool neg,.agg #[.int .u64 h,.int .u64 l],.agg #[.int .u64 k,.int .u64 d]] w fun e w'=>e= .returned (jw neg h l k d)/\w.Grows w':=by
 by_cases c1:(h !=0)=true
 ·go_enter func99,ntmps99
  go_wp2_with fail
  go_returns
  exact⟨by rw [jw,if_pos (.inl c1)],.of_below ag⟩
 ·have c1':(h !=0)=false:=by simpa using c1
  by_cases c2:(1000000000000000:Int)<l
  ·clear c1
   go_enter func99,ntmps99
   go_wp2_with fail
   go_returns
   exact⟨by rw [jw,if_pos (.inr (.inl c2))],.of_below ag⟩
  ·have c2':decide ((1000000000000000:Int)<l)=false:=by simpa using c2
   by_cases c3:(k !=0)=true
   ·clear c1
    go_enter func99,ntmps99
    go_wp2_with fail
    go_returns
    exact⟨by rw [jw,if_pos (.inr (.inr (.inl c3)))],.of_below ag⟩
   ·have c3':(k !=0)=false:=by simpa using c3
    by_cases c4:(1000000000:Int)<d
    ·clear c1 c3
     go_enter func99,ntmps99
     go_wp2_with fail
     go_returns
     exact⟨by rw [jw,if_pos (.inr (.inr (.inr c4)))],.of_below ag⟩
    ·have c4':decide ((1000000000:Int)<d)=false:=by simpa using c4
     have Hn:=zh (show ¬((h !=0)=true\/1000000000000000<l\/(k !=0)=true\/1000000000<d)by
      rintro(x|x|x|x)
      ·exact c1 x
      ·exact c2 x
      ·exact c3 x
      ·exact c4 x)
     clear c1 c3;cases neg
     ·go_enter func99,ntmps99
      go_wp2_with fail
      go_returns
      exact⟨by rw [jw,if_neg Hn.out];rfl,.of_below ag⟩
     ·go_enter func99,ntmps99
      go_wp2_with fail
      go_returns
      exact⟨by rw [jw,if_neg Hn.out];rfl,.of_below ag⟩
def frV(r:Int × Int × Int):Value:=.tuple #[.agg #[.int .i64 r.1,.int .i64 r.2.1],.int .i64 r.2.2]
theorem CO(n d:Int)(w:World)(h1:-9223372036854775808<=n)(h2:n<=9223372036854775807)(h3:-9223372036854775808<=d)(h4:d<=9223372036854775807) :
 Calls prog 149 #[.agg #[.int .i64 n,.int .i64 d]] w fun e w'=>e= .returned (frV (iZ n d))/\w.Grows w':=by
 have hv:=zh (fun w=>cK n d w h1 h2 h3 h4);generalize hx:az n d=b at *;cases b
 focus
  have HR:=zh (show iZ n d=(0,0,1)by unfold iZ;rw [hx];rfl)
 rotate_left
 focus
  have HR:=zh (show iZ n d=(-n,d,0)by unfold iZ;rw [hx];rfl);obtain⟨k1,k2,k3,k4⟩:=aF hx
 rotate_left
 all_goals
  clear hx
  go_enter func149,ntmps149
  go_wp2_with fail
  refine(hv.out _).mono ?_;rintro e w' ⟨rfl,bs,dr,rfl⟩;clear hv
  go_wp2_with fail
  go_returns
  exact⟨by rw [HR.out];rfl,.of_below ag⟩
theorem CL(n d:Int)(w:World)(h1:-9223372036854775808<=n)(h2:n<=9223372036854775807)(h3:-9223372036854775808<=d)(h4:d<=9223372036854775807) :
 Calls prog 142 #[.agg #[.int .i64 n,.int .i64 d]] w fun e w'=>e= .returned (frV (iZ n d))/\w.Grows w':=by
 have hv:=zh (fun w=>dU n d w h1 h2 h3 h4);generalize hx:az n d=b at *;cases b
 focus
  have HR:=zh (show iZ n d=(0,0,1)by unfold iZ;rw [hx];rfl)
 rotate_left
 focus
  have HR:=zh (show iZ n d=(-n,d,0)by unfold iZ;rw [hx];rfl);obtain⟨k1,k2,k3,k4⟩:=aF hx
 rotate_left
 all_goals
  clear hx
  go_enter func142,ntmps142
  go_wp2_with fail
  refine(hv.out _).mono ?_;rintro e w' ⟨rfl,bs,dr,rfl⟩;clear hv
  go_wp2_with fail
  go_returns
  exact⟨by rw [HR.out];rfl,.of_below ag⟩
theorem pI(a b:Nat):kw a b=(Nat.gcd a b:Nat):=by unfold kw;simp
theorem sM(b:Bool)(p q:Nat):jw b (hiW p) (loW p) (hiW q) (loW q)=frV (if 1000000000000000<p\/1000000000<q then(0,0,2)else(if b then -(p:Int)else p,q,0)):=by
 unfold jw hiW loW;by_cases c:1000000000000000<p\/1000000000<q
 ·rw [if_pos c,if_pos (by
   by_cases ha:p / 18446744073709551616=0
   ·by_cases hb:q / 18446744073709551616=0
    ·omega
    ·right;right;left;simp;omega
   ·left;simp;omega)]
  rfl
 ·have ha:p / 18446744073709551616=0:=by omega
  have hb:q / 18446744073709551616=0:=by omega
  have hc:p % 18446744073709551616=p:=by omega
  have hd:q % 18446744073709551616=q:=by omega
  rw [if_neg c,if_neg (by rw [ha,hb,hc,hd];simp;omega),hc,hd];rfl
theorem gZ{a g:Int}(h0:0<=a)(h1:a<18446744073709551616)(hg:1<=g):IntKind.u64.wrap (a.tdiv g)=a / g:=by
 rw [Int.tdiv_eq_ediv_of_nonneg h0];have h2:=Int.ediv_nonneg h0 (show 0<=g by omega);have h3:a / g<=a:=Int.ediv_le_self g h0;exact IntWalk.u64_in _ ze
theorem tV(neg:Bool)(a b c d g h H L K M n1 n2 n3:Int)(w:World)(g0:(g==0)=false)(h0:(h==0)=false)(g1:1<=g)(hh1:1<=h)
 (a0:0<=a) (b0:0<=b) (c0:0<=c) (d0:0<=d) (a1:a<18446744073709551616) (b1:b<18446744073709551616) (c1:c<18446744073709551616) (d1:d<18446744073709551616)
 (G1:Hid (∀w,Calls prog 94 #[.int .u64 a,.int .u64 d] w fun e w'=>e= .returned (.int .u64 g)/\w.Grows w'))
 (G2:Hid (∀w,Calls prog 94 #[.int .u64 c,.int .u64 b] w fun e w'=>e= .returned (.int .u64 h)/\w.Grows w'))
 (T1:Hid (∀w,Calls prog 183 #[.int .u64 (a / g),.int .u64 (c / h)] w fun e w'=>e= .returned (.agg #[.int .u64 H,.int .u64 L])/\w.Grows w'))
 (T2:Hid (∀w,Calls prog 183 #[.int .u64 (b / h),.int .u64 (d / g)] w fun e w'=>e= .returned (.agg #[.int .u64 K,.int .u64 M])/\w.Grows w'))
 (W:Hid (∀w,Calls prog 99 #[.bool neg,.agg #[.int .u64 H,.int .u64 L],.agg #[.int .u64 K,.int .u64 M]] w fun e w'=>e= .returned (.tuple #[.agg #[.int .i64 n1,.int .i64 n2],.int .i64 n3])/\w.Grows w')) :
 Calls prog 189 #[.bool neg,.int .u64 a,.int .u64 b,.int .u64 c,.int .u64 d] w fun e w'=>e= .returned (.tuple #[.agg #[.int .i64 n1,.int .i64 n2],.int .i64 n3])/\w.Grows w':=by
 go_enter func189,ntmps189
 go_wp2_with (first|(go_at_call 94;(with_reducible refine(G1.out _).mono ?_);rintro e w' ⟨rfl,bs,dr,rfl⟩;clear G1)|(go_at_call 94;(with_reducible refine(G2.out _).mono ?_);rintro e w' ⟨rfl,bs2,dr2,rfl⟩;clear G2))
 have gz:¬g=0:=by omega
 have hz:¬h=0:=by omega
 refine TG.begin 19 (fun _=>True) zf zf trivial (fun hS=>?_);refine TG.tkB 0 hS ?_;refine TG.tkB 1 hS ?_;refine TG.tkB 2 hS ?_;refine TG.takeV (i:=3) (v:=.int .u64 (a / g)) rfl zf zf zf zo (fun _ _ _ h=>h) rfl hS ?_ ?_
 focus
  intro wS hSw
  go_simp
  exact gZ a0 a1 g1
 (try simp only [nS])
 refine TG.tkB 4 hS ?_;refine TG.tkB 5 hS ?_;refine TG.takeV (i:=6) (v:=.int .u64 (c / h)) rfl zf zf zf zo (fun _ _ _ h=>h) rfl hS ?_ ?_
 focus
  intro wS hSw
  go_simp
  exact gZ c0 c1 hh1
 (try simp only [nS])
 refine TG.tkB 8 hS ?_;refine TG.tkB 9 hS ?_;refine TG.takeV (i:=10) (v:=.int .u64 (b / h)) rfl zf zf zf zo (fun _ _ _ h=>h) rfl hS ?_ ?_
 focus
  intro wS hSw
  go_simp
  exact gZ b0 b1 hh1
 (try simp only [nS])
 refine TG.tkB 11 hS ?_;refine TG.tkB 12 hS ?_;refine TG.takeV (i:=13) (v:=.int .u64 (d / g)) rfl zf zf zf zo (fun _ _ _ h=>h) rfl hS ?_ ?_
 focus
  intro wS hSw
  go_simp
  exact gZ d0 d1 g1
 (try simp only [nS])
 refine TG.one (i:=7) zf rfl (fun K1 hK1=>?_)
 go_simp
 go_at_call 183
 refine(T1.out _).mono ?_;rintro e' wA ⟨rfl,b7,d7,rfl⟩;refine TG.go hK1 trivial (fun hS=>?_);clear hK1 K1 T1
 (try simp only [nS])
 refine TG.one (i:=14) zf rfl (fun K1 hK1=>?_)
 go_simp
 go_at_call 183
 refine(T2.out _).mono ?_;rintro e' wA ⟨rfl,b8,d8,rfl⟩;refine TG.go hK1 trivial (fun hS=>?_);clear hK1 K1 T2
 (try simp only [nS])
 refine TG.one (i:=15) zf rfl (fun K1 hK1=>?_)
 go_simp
 go_at_call 99
 refine(W.out _).mono ?_;rintro e' wA ⟨rfl,b9,d9,rfl⟩;refine TG.go hK1 trivial (fun hS=>?_);clear hK1 K1 W
 (try simp only [nS])
 refine TG.tkB 16 hS ?_;refine TG.tkB 17 hS ?_;refine TG.one (i:=18) zf rfl (fun K1 hK1=>?_)
 go_simp
 refine TG.go hK1 trivial (fun hS=>?_);clear hK1 K1
 (try simp only [nS])
 refine TG.one (i:=19) zf rfl (fun K1 hK1=>?_)
 go_simp
 refine hK1 _ _ (fun h=>absurd rfl h) (TG.done zf ?_);clear hK1 K1 hS
 (try simp only [nS])
 go_wp2_with fail
 go_returns
 exact⟨rfl,.of_below ag⟩
theorem wH(d m k n:Nat):d / Nat.gcd m d*(k / Nat.gcd n k)=iw d m k n:=by
 unfold iw;rw [Nat.gcd_comm m d,Nat.gcd_comm n k]
theorem fH(a b:Nat):(a:Int) / (b:Int)=((a / b:Nat):Int):=by simp
theorem nP(neg:Bool)(n d m k:Nat)(w:World)(h1:n<18446744073709551616)(h2:d<18446744073709551616)(h3:m<18446744073709551616)(h4:k<18446744073709551616)(hd:0<d)(hk:0<k) :
 Calls prog 189 #[.bool neg,.int .u64 n,.int .u64 d,.int .u64 m,.int .u64 k] w fun e w'=>e= .returned (frV (nX neg n d m k))/\w.Grows w':=by
 have g1:0<Nat.gcd n k:=Nat.gcd_pos_of_pos_right _ hk;have g2:0<Nat.gcd m d:=Nat.gcd_pos_of_pos_right _ hd;have b1:n / Nat.gcd n k<=n:=Nat.div_le_self _ _;have b2:m / Nat.gcd m d<=m:=Nat.div_le_self _ _;have b3:d / Nat.gcd m d<=d:=Nat.div_le_self _ _;have b4:k / Nat.gcd n k<=k:=Nat.div_le_self _ _
 refine tV neg n d m k (Nat.gcd n k:Nat) (Nat.gcd m d:Nat) (hiW (iw n k m d)) (loW (iw n k m d)) (hiW (iw d m k n)) (loW (iw d m k n)) _ _ _ w
  zp zp ze ze ze ze ze ze ze ze ze ze
  (fun w=>?_) (fun w=>?_) (fun w=>?_) (fun w=>?_) (fun w=>?_)
 ·have:=mE n k w ze ze ze ze;rw [pI]at this;exact Calls.quietD this
 ·have:=mE m d w ze ze ze ze;rw [pI]at this;exact Calls.quietD this
 ·rw [fH,fH];exact iE _ _ w ze ze
 ·rw [fH,fH,<-wH];exact iE _ _ w ze ze
 ·have:=lW neg (hiW (iw n k m d)) (loW (iw n k m d)) (hiW (iw d m k n)) (loW (iw d m k n)) w (qx _).1 (qx _).1;rw [sM]at this;exact this
theorem qJ{n d:Int}(h:1<=d):(if n.tmod d<0 then n.tdiv d-1 else n.tdiv d)=n / d:=by
 have e1:=Int.mul_tdiv_add_tmod n d;have hb:=Int.tmod_lt_of_pos n (show 0<d by omega);have hc:=Int.tmod_lt_of_pos (-n) (show 0<d by omega);rw [Int.neg_tmod]at hc;symm
 split
 ·exact((Int.ediv_emod_unique (r:=n.tmod d+d) (q:=n.tdiv d-1) (show 0<d by omega)).2 ⟨by rw [Int.mul_sub];omega,by omega,by omega⟩).1
 ·exact((Int.ediv_emod_unique (r:=n.tmod d) (q:=n.tdiv d) (show 0<d by omega)).2 ⟨by omega,by omega,by omega⟩).1
theorem H9{n d:Int}(h:1<=d):(if n<n.tdiv d*d then n.tdiv d-1 else n.tdiv d)=n / d:=by
 have e1:=Int.mul_tdiv_add_tmod n d;rw [<-qJ h];rw [Int.mul_comm]at e1;by_cases c:n.tmod d<0
 ·rw [if_pos c,if_pos ze]
 ·rw [if_neg c,if_neg ze]
theorem Cu{an ad bn bd:Int}(h1:1<=ad)(h2:1<=bd)(h:decide (an<0)≠decide (bn<0)):gJ an ad bn bd=if an<0 then -1 else 1:=by
 unfold gJ;by_cases c:an<0
 ·have hb:0<=bn:=by simp [c]at h;omega
  have k1:an*bd<0:=Int.mul_neg_of_neg_of_pos c ze;have k2:0<=bn*ad:=Int.mul_nonneg hb ze;rw [if_pos ze,if_pos c]
 ·have hb:bn<0:=by simp [c]at h;omega
  have k1:bn*ad<0:=Int.mul_neg_of_neg_of_pos hb ze;have k2:0<=an*bd:=Int.mul_nonneg ze ze;rw [if_neg ze,if_pos ze,if_neg c]
theorem sQ{a d:Int}(h:1<=d):a*d=if a<0 then -((a.natAbs*d.natAbs:Nat):Int)else((a.natAbs*d.natAbs:Nat):Int):=by
 rw [Int.natCast_mul];have hd:((d.natAbs:Nat):Int)=d:=by omega
 rw [hd]
 split
 ·rw [<-Int.neg_mul];congr 1;omega
 ·congr 1;omega
theorem Lc{an ad bn bd:Int}(h1:1<=ad)(h2:1<=bd)(h:decide (an<0)=decide (bn<0)) :
 gJ an ad bn bd=if an<0 then(if bn.natAbs*ad.natAbs<an.natAbs*bd.natAbs then -1 else if an.natAbs*bd.natAbs<bn.natAbs*ad.natAbs then 1 else 0)
  else(if an.natAbs*bd.natAbs<bn.natAbs*ad.natAbs then -1 else if bn.natAbs*ad.natAbs<an.natAbs*bd.natAbs then 1 else 0):=by
 unfold gJ;rw [sQ (a:=an) h2,sQ (a:=bn) h1];generalize an.natAbs*bd.natAbs=X;generalize bn.natAbs*ad.natAbs=Y;by_cases c:an<0
 ·have hb:bn<0:=by simpa [c]using h
  rw [if_pos c,if_pos hb,if_pos c]
  split<;>rename_i q<;>split<;>first|omega|(split<;>first|omega|(split<;>omega))
 ·have hb:¬bn<0:=by simpa [c]using h
  rw [if_neg c,if_neg hb,if_neg c]
  split<;>rename_i q<;>split<;>first|omega|(split<;>first|omega|(split<;>omega))
end Go.Proofs.YtlheailebbngiaaGreatDoor
