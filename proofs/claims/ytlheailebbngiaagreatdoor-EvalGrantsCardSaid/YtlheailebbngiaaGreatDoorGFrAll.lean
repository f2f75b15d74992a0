import Derived.Test.YtlheailebbngiaaGreatDoorGFrA2S
import Derived.Test.YtlheailebbngiaaGreatDoorGFrA2L
import Derived.Test.YtlheailebbngiaaGreatDoorGFrA2M
set_option linter.all false
set_option maxHeartbeats 16000000
set_option maxRecDepth 1000000
namespace Go.Proofs.YtlheailebbngiaaGreatDoor
open Tryz List
open Go.RowKit
theorem sD(n:Int):aH n=((n.natAbs:Nat):Int):=rfl
theorem mX{d:Int}(h:1<=d):d=((d.natAbs:Nat):Int):=by omega
theorem Lf(an ad bn bd:Int)(w:World)(hi:kN an ad bn bd):Calls prog 146 #[.agg #[.int .i64 an,.int .i64 ad],.agg #[.int .i64 bn,.int .i64 bd]] w fun e w'=>e= .returned (frV (lK an ad bn bd))/\w.Grows w':=by
 obtain⟨i1,i2,i3,i4⟩:=hi;have V1:=zh (fun w=>dS an ad w i1.1 i1.2 i2.1 i2.2);have V2:=zh (fun w=>dS bn bd w i3.1 i3.2 i4.1 i4.2);by_cases hv:(aA an ad&&aA bn bd)=true
 case neg=>
  have e:lK an ad bn bd=(0,0,1):=by unfold lK;rw [if_neg hv]
  rw [e];exact M8 an ad bn bd _ _ w (Bool.eq_false_iff.2 hv) V1 V2
 have hva:=(Bool.and_eq_true_iff.1 hv).1;have hvb:=(Bool.and_eq_true_iff.1 hv).2;have e:lK an ad bn bd=nL (decide (an<0)!=decide (bn<0)) an.natAbs ad.natAbs bn.natAbs bd.natAbs:=by unfold lK;rw [if_pos hv];try rfl
 rw [e];rw [hva]at V1;rw [hvb]at V2;have b1:=aF hva;have b2:=aF hvb;obtain⟨neg,hc,hz⟩:=ED an bn;rw [<-vU (b:=neg) hz];exact FY an ad bn bd _ _ _ _ _ _ _ neg w rfl rfl rfl rfl hc V1 V2 (fun n h w=>iF n w h.1 h.2) i1 i2 i3 i4 (fun w=>nD neg an.natAbs ad.natAbs bn.natAbs bd.natAbs w ze ze ze ze ze ze)
theorem Lm(an ad bn bd:Int)(w:World)(hi:kN an ad bn bd):Calls prog 147 #[.agg #[.int .i64 an,.int .i64 ad],.agg #[.int .i64 bn,.int .i64 bd]] w fun e w'=>e= .returned (frV (lL an ad bn bd))/\w.Grows w':=by
 obtain⟨i1,i2,i3,i4⟩:=hi;have V1:=zh (fun w=>dS an ad w i1.1 i1.2 i2.1 i2.2);have V2:=zh (fun w=>dS bn bd w i3.1 i3.2 i4.1 i4.2);by_cases hv:(aA an ad&&aA bn bd)=true
 case neg=>
  have e:lL an ad bn bd=(0,0,1):=by unfold lL;rw [if_neg hv]
  rw [e];exact NT an ad bn bd _ _ w (Bool.eq_false_iff.2 hv) V1 V2
 have hva:=(Bool.and_eq_true_iff.1 hv).1;have hvb:=(Bool.and_eq_true_iff.1 hv).2;have e:lL an ad bn bd=(if bn=0 then(0,0,3)else nL (decide (an<0)!=decide (bn<0)) an.natAbs ad.natAbs bd.natAbs bn.natAbs):=by unfold lL;rw [if_pos hv];try rfl
 rw [e];rw [hva]at V1;rw [hvb]at V2;have b1:=aF hva;have b2:=aF hvb;by_cases h0:bn=0
 ·subst h0;rw [if_pos rfl];exact GV an ad bd w V1 V2
 rw [if_neg h0];obtain⟨neg,hc,hz⟩:=ED an bn
 have hz':an.natAbs=0\/bd.natAbs=0\/neg=(decide (an<0)!=decide (bn<0)):=by
  rcases hz with h|h|h
  ·exact .inl h
  ·omega
  ·exact .inr (.inr h)
 rw [<-vU (b:=neg) hz'];exact GX an ad bn bd _ _ _ _ _ _ _ neg w rfl rfl rfl rfl hc (by simpa using h0) V1 V2 (fun n h w=>iF n w h.1 h.2) i1 i2 i3 i4 (fun w=>nD neg an.natAbs ad.natAbs bd.natAbs bn.natAbs w ze ze ze ze ze ze)
theorem Lg(an ad bn bd:Int)(w:World)(hi:kN an ad bn bd):Calls prog 153 #[.agg #[.int .i64 an,.int .i64 ad],.agg #[.int .i64 bn,.int .i64 bd]] w fun e w'=>e= .returned (frV (lK an ad bn bd))/\w.Grows w':=by
 obtain⟨i1,i2,i3,i4⟩:=hi;have V1:=zh (fun w=>cB an ad w i1.1 i1.2 i2.1 i2.2);have V2:=zh (fun w=>cB bn bd w i3.1 i3.2 i4.1 i4.2);by_cases hv:(aA an ad&&aA bn bd)=true
 case neg=>
  have e:lK an ad bn bd=(0,0,1):=by unfold lK;rw [if_neg hv]
  rw [e];exact M9 an ad bn bd _ _ w (Bool.eq_false_iff.2 hv) V1 V2
 have hva:=(Bool.and_eq_true_iff.1 hv).1;have hvb:=(Bool.and_eq_true_iff.1 hv).2;have e:lK an ad bn bd=nL (decide (an<0)!=decide (bn<0)) an.natAbs ad.natAbs bn.natAbs bd.natAbs:=by unfold lK;rw [if_pos hv];try rfl
 rw [e];rw [hva]at V1;rw [hvb]at V2;have b1:=aF hva;have b2:=aF hvb;refine FZ an ad bn bd _ _ _ _ _ w rfl rfl (IntWalk.u64_in _ ze) (IntWalk.u64_in _ ze) V1 V2 (fun n h w=>fM n w h.1 h.2) i1 i2 i3 i4 (fun w=>?_);have:=oN (decide (an<0)!=decide (bn<0)) an.natAbs ad.natAbs bn.natAbs bd.natAbs w ze ze ze ze ze ze;rw [<-mX b1.1,<-mX b2.1]at this;exact this
theorem Lp(an ad bn bd:Int)(w:World)(hi:kN an ad bn bd):Calls prog 154 #[.agg #[.int .i64 an,.int .i64 ad],.agg #[.int .i64 bn,.int .i64 bd]] w fun e w'=>e= .returned (frV (lL an ad bn bd))/\w.Grows w':=by
 obtain⟨i1,i2,i3,i4⟩:=hi;have V1:=zh (fun w=>cB an ad w i1.1 i1.2 i2.1 i2.2);have V2:=zh (fun w=>cB bn bd w i3.1 i3.2 i4.1 i4.2);by_cases hv:(aA an ad&&aA bn bd)=true
 case neg=>
  have e:lL an ad bn bd=(0,0,1):=by unfold lL;rw [if_neg hv]
  rw [e];exact NU an ad bn bd _ _ w (Bool.eq_false_iff.2 hv) V1 V2
 have hva:=(Bool.and_eq_true_iff.1 hv).1;have hvb:=(Bool.and_eq_true_iff.1 hv).2;have e:lL an ad bn bd=(if bn=0 then(0,0,3)else nL (decide (an<0)!=decide (bn<0)) an.natAbs ad.natAbs bd.natAbs bn.natAbs):=by unfold lL;rw [if_pos hv];try rfl
 rw [e];rw [hva]at V1;rw [hvb]at V2;have b1:=aF hva;have b2:=aF hvb;by_cases h0:bn=0
 ·subst h0;rw [if_pos rfl];exact GY an ad bd w V1 V2
 rw [if_neg h0];refine GZ an ad bn bd _ _ _ _ _ w rfl rfl (IntWalk.u64_in _ ze) (IntWalk.u64_in _ ze) (by simpa using h0) V1 V2 (fun n h w=>fM n w h.1 h.2) i1 i2 i3 i4 (fun w=>?_);have:=oN (decide (an<0)!=decide (bn<0)) an.natAbs ad.natAbs bd.natAbs bn.natAbs w ze ze ze ze ze ze;rw [<-mX b1.1,<-mX b2.1]at this;exact this
theorem pE{an bd:Int}(h1:-1000000000000000<=an)(h2:an<=1000000000000000)(h3:1<=bd)(h4:bd<=1000000000):an.natAbs*bd.natAbs<=1000000000000000000000000:=
 Nat.le_trans (Nat.mul_le_mul (show an.natAbs<=1000000000000000 by omega) (show bd.natAbs<=1000000000 by omega)) zo
theorem EX{ad bd:Int}(h1:1<=ad)(h2:ad<=1000000000)(h3:1<=bd)(h4:bd<=1000000000):0<ad.natAbs*bd.natAbs/\ad.natAbs*bd.natAbs<=1000000000000000000:=
 ⟨Nat.mul_pos ze ze,Nat.le_trans (Nat.mul_le_mul (show ad.natAbs<=1000000000 by omega) (show bd.natAbs<=1000000000 by omega)) zo⟩
theorem qw{n:Nat}(h:n<18446744073709551616):hiW n=0:=by unfold hiW;omega
theorem qf{n:Nat}(h:n<18446744073709551616):loW n=(n:Int):=by unfold loW;omega
def pI(neg:Bool)(N D:Nat):Int × Int × Int:=(jX neg N D,l5 N D,kF N D)
theorem jK{b c:Bool}{N D:Nat}(h:N=0\/b=c):pI b N D=pI c N D:=by unfold pI;rw [JH h]
theorem Nf(neg:Bool)(N D:Nat)(hD:D<=1000000000000000000):jo neg (hiW (N / Nat.gcd N D)) (loW (N / Nat.gcd N D)) 0 ((D / Nat.gcd N D:Nat):Int)=frV (pI neg N D):=by
 have h:=r9 neg (N / Nat.gcd N D) (D / Nat.gcd N D);have h2:D / Nat.gcd N D<=D:=Nat.div_le_self _ _;have e1:hiW (D / Nat.gcd N D)=0:=qw ze;have e2:loW (D / Nat.gcd N D)=((D / Nat.gcd N D:Nat):Int):=qf ze;rw [e1,e2]at h;rw [h];unfold pI jX l5 kF
 split<;>rfl
theorem uF{ad bd:Int}{D:Nat}(h:ad.natAbs*bd.natAbs=D)(hD:D<=1000000000000000000):IntKind.u64.wrap (aH ad*aH bd)=(D:Int):=by
 have e:aH ad*aH bd=(D:Int):=by rw [sD,sD,<-Int.natCast_mul,h]
 rw [e];exact IntWalk.u64_in _ ze
theorem P7(neg:Bool)(N D:Nat)(hN:N<=1000000000000000000000000000)(hD0:0<D)(hD:D<=1000000000000000000) :
 (hiW N=0->loW N=0->pI neg N D=(0,1,0))/\
 (∀w,Calls prog 99 #[.bool neg,.agg #[.int .u64 (hiW (N / Nat.gcd N D)),.int .u64 (loW (N / Nat.gcd N D))],.agg #[.int .u64 0,.int .u64 (D / Nat.gcd N D:Nat)]] w fun e w'=>e= .returned (frV (pI neg N D))/\w.Grows w')/\
 (∀w,Calls prog 188 #[.agg #[.int .u64 (hiW N),.int .u64 (loW N)],.int .u64 (Nat.gcd N D:Nat)] w fun e w'=>e= .returned (.agg #[.int .u64 (hiW (N / Nat.gcd N D)),.int .u64 (loW (N / Nat.gcd N D))])/\w.Grows w')/\
 (∀w,Calls prog 187 #[.int .u64 (hiW N),.int .u64 (loW N),.int .u64 (D:Nat)] w fun e w'=>e= .returned (.int .u64 (lW N D))/\w.Grows w')/\
 (∀w,Calls prog 94 #[.int .u64 (D:Nat),.int .u64 (lW N D)] w fun e w'=>e= .returned (.int .u64 (Nat.gcd N D:Nat))/\w.Grows w'):=by
 have hg:0<Nat.gcd N D:=Nat.gcd_pos_of_pos_right _ hD0;have hgd:Nat.gcd N D<=D:=Nat.gcd_le_right _ hD0;have hr:=Ez N D hD0;refine⟨fun h1 h2=>?_,fun w=>?_,fun w=>?_,fun w=>?_,fun w=>?_⟩
 ·have:N=0:=by unfold hiW at h1;unfold loW at h2;omega
  subst this;unfold pI jX l5 kF;rw [Nat.gcd_zero_left,Nat.div_self hD0,Nat.zero_div];simp
 ·rw [<-Nf neg N D hD];exact lS _ _ _ _ _ w (qh _).1 (Int.natCast_nonneg _)
 ·exact FO N (Nat.gcd N D) w ze ze hg
 ·exact IB N D w ze ze hD0
 ·have:=mf (D:Nat) (lW N D) w ze ze ze ze;rw [Bl N D hD0]at this;exact Calls.quietD this
theorem Cn(an ad bn bd:Int)(w:World)(hi:kN an ad bn bd):Calls prog 144 #[.agg #[.int .i64 an,.int .i64 ad],.agg #[.int .i64 bn,.int .i64 bd]] w fun e w'=>e= .returned (frV (jR an ad bn bd))/\w.Grows w':=by
 obtain⟨i1,i2,i3,i4⟩:=hi;have V1:=zh (fun w=>dS an ad w i1.1 i1.2 i2.1 i2.2);have V2:=zh (fun w=>dS bn bd w i3.1 i3.2 i4.1 i4.2);by_cases hv:(aA an ad&&aA bn bd)=true
 case neg=>
  have e:jR an ad bn bd=(0,0,1):=by unfold jR;rw [if_neg hv]
  rw [e];exact Ol an ad bn bd _ _ w (Bool.eq_false_iff.2 hv) V1 V2
 have hva:=(Bool.and_eq_true_iff.1 hv).1;have hvb:=(Bool.and_eq_true_iff.1 hv).2;have e:jR an ad bn bd=pI (decide (jg an ad bn bd<0)) (jg an ad bn bd).natAbs (ad.natAbs*bd.natAbs):=by unfold jR;rw [if_pos hv];try rfl
 rw [e];rw [hva]at V1;rw [hvb]at V2;have b1:=aF hva;have b2:=aF hvb;have hD:=EX b1.1 b1.2.1 b2.1 b2.2.1;have c1:=pE (an:=an) (bd:=bd) b1.2.2.1 b1.2.2.2 b2.1 b2.2.1;have c2:=pE (an:=bn) (bd:=ad) b2.2.2.1 b2.2.2.2 b1.1 b1.2.1;have Z:Hid _:=zh (fun n (h:I64 n) w=>iF n w h.1 h.2);have T1:Hid _:=zh (fun w=>mO iC i1 i4 w);have T2:Hid _:=zh (fun w=>mO iC i3 i2 w);have hg (N:Nat):0<Nat.gcd N (ad.natAbs*bd.natAbs)/\Nat.gcd N (ad.natAbs*bd.natAbs)<=ad.natAbs*bd.natAbs:=⟨Nat.gcd_pos_of_pos_right _ hD.1,Nat.gcd_le_right _ hD.1⟩
 have hq (N:Nat):IntKind.u64.wrap ((((ad.natAbs*bd.natAbs:Nat):Int)).tdiv (Nat.gcd N (ad.natAbs*bd.natAbs):Nat))=((ad.natAbs*bd.natAbs / Nat.gcd N (ad.natAbs*bd.natAbs):Nat):Int):=by
  have:=(hg N).1;rw [gW ze ze ze,fG]
 have key (neg:Bool) (N:Nat) (hN:N<=2000000000000000000000000):=P7 neg N (ad.natAbs*bd.natAbs) ze hD.1 hD.2;have tr {a b:Int × Int × Int} (h:a=b):a.1=b.1/\a.2.1=b.2.1/\a.2.2=b.2.2:=by rw [h];exact⟨rfl,rfl,rfl⟩
 by_cases hs:decide (an<0)=decide (bn<0)
 ·obtain⟨e1,e2⟩:=Cb b1.1 b2.1 hs;rw [jK e2,e1];obtain⟨k1,k2,k3,k4,k5⟩:=key (decide (an<0)) (an.natAbs*bd.natAbs+bn.natAbs*ad.natAbs) ze;have g1:=hg (an.natAbs*bd.natAbs+bn.natAbs*ad.natAbs)
  exact Ip an ad bn bd _ _ _ _ _ _ _ _ _ _ _ _ _ _ _ _ _ w rfl rfl (by rw [hs];simp) V1 V2 Z i1 i2 i3 i4 T1 T2 (uF rfl hD.2) ze zp (hq _)
   (fun w=>FL _ _ w ze) (fun h1 h2=>tr (k1 h1 h2)) (fun _=>⟨k2,k3,k4,k5⟩)
 ·obtain⟨f1,f2⟩:=Cc b1.1 b2.1 hs;have L:=fun w=>qj (hiW (an.natAbs*bd.natAbs)) (loW (an.natAbs*bd.natAbs)) (hiW (bn.natAbs*ad.natAbs)) (loW (bn.natAbs*ad.natAbs)) w;rw [kC]at L;by_cases hl:an.natAbs*bd.natAbs<bn.natAbs*ad.natAbs
  ·obtain⟨e1,e2⟩:=f1 hl;rw [jK e2,e1];rw [decide_eq_true hl]at L;obtain⟨k1,k2,k3,k4,k5⟩:=key (!decide (an<0)) (bn.natAbs*ad.natAbs-an.natAbs*bd.natAbs) ze
   have hnn:decide (bn<0)=!decide (an<0):=by
    revert hs;cases decide (an<0)<;>cases decide (bn<0)<;>simp
   have g1:=hg (bn.natAbs*ad.natAbs-an.natAbs*bd.natAbs);rw [hnn]
   exact Ir an ad bn bd _ _ _ _ _ _ _ _ _ _ _ _ _ _ _ _ _ w rfl rfl (by simpa using hs) V1 V2 Z i1 i2 i3 i4 T1 T2 (uF rfl hD.2) ze zp (hq _)
    L (fun w=>tO _ _ w ze ze) (fun h1 h2=>tr (k1 h1 h2)) (fun _=>⟨k2,k3,k4,k5⟩)
  ·obtain⟨e1,e2⟩:=f2 ze;rw [jK e2,e1];rw [decide_eq_false hl]at L;obtain⟨k1,k2,k3,k4,k5⟩:=key (decide (an<0)) (an.natAbs*bd.natAbs-bn.natAbs*ad.natAbs) ze;have g1:=hg (an.natAbs*bd.natAbs-bn.natAbs*ad.natAbs)
   exact Iq an ad bn bd _ _ _ _ _ _ _ _ _ _ _ _ _ _ _ _ _ w rfl rfl (by simpa using hs) V1 V2 Z i1 i2 i3 i4 T1 T2 (uF rfl hD.2) ze zp (hq _)
    L (fun w=>tO _ _ w ze ze) (fun h1 h2=>tr (k1 h1 h2)) (fun _=>⟨k2,k3,k4,k5⟩)
theorem Co(an ad bn bd:Int)(w:World)(hi:kN an ad bn bd):Calls prog 151 #[.agg #[.int .i64 an,.int .i64 ad],.agg #[.int .i64 bn,.int .i64 bd]] w fun e w'=>e= .returned (frV (jR an ad bn bd))/\w.Grows w':=by
 obtain⟨i1,i2,i3,i4⟩:=hi;have V1:=zh (fun w=>cB an ad w i1.1 i1.2 i2.1 i2.2);have V2:=zh (fun w=>cB bn bd w i3.1 i3.2 i4.1 i4.2);by_cases hv:(aA an ad&&aA bn bd)=true
 case neg=>
  have e:jR an ad bn bd=(0,0,1):=by unfold jR;rw [if_neg hv]
  rw [e];exact Om an ad bn bd _ _ w (Bool.eq_false_iff.2 hv) V1 V2
 have hva:=(Bool.and_eq_true_iff.1 hv).1;have hvb:=(Bool.and_eq_true_iff.1 hv).2;have e:jR an ad bn bd=pI (decide (jg an ad bn bd<0)) (jg an ad bn bd).natAbs (ad.natAbs*bd.natAbs):=by unfold jR;rw [if_pos hv];try rfl
 rw [e];rw [hva]at V1;rw [hvb]at V2;have b1:=aF hva;have b2:=aF hvb;have hD:=EX b1.1 b1.2.1 b2.1 b2.2.1;have c1:=pE (an:=an) (bd:=bd) b1.2.2.1 b1.2.2.2 b2.1 b2.2.1;have c2:=pE (an:=bn) (bd:=ad) b2.2.2.1 b2.2.2.2 b1.1 b1.2.1;have Z:Hid _:=zh (fun n (h:I64 n) w=>fM n w h.1 h.2);have T1:Hid _:=zh (fun w=>oI iD i1 (b:=bd) ze ze w);have T2:Hid _:=zh (fun w=>oI iD i3 (b:=ad) ze ze w);have u1:IntKind.u64.wrap ad=ad:=IntWalk.u64_in _ ze;have u2:IntKind.u64.wrap bd=bd:=IntWalk.u64_in _ ze
 have u3:IntKind.u64.wrap (ad*bd)=((ad.natAbs*bd.natAbs:Nat):Int):=by
  have e:ad*bd=((ad.natAbs*bd.natAbs:Nat):Int):=by rw [Int.natCast_mul,<-mX b1.1,<-mX b2.1]
  rw [e];exact IntWalk.u64_in _ ze
 by_cases hs:decide (an<0)=decide (bn<0)
 ·obtain⟨e1,e2⟩:=Cb b1.1 b2.1 hs;rw [jK e2,e1];exact Iu an ad bn bd _ _ _ _ _ _ _ _ _ _ _ w rfl hs.symm V1 V2 Z i1 i2 i3 i4 T1 T2 u1 u2 u3 (fun w=>FM _ _ w ze) (fun w=>jT _ _ _ w ze ze hD.1)
 ·obtain⟨f1,f2⟩:=Cc b1.1 b2.1 hs;have L:=fun w=>ww (hiW (an.natAbs*bd.natAbs)) (loW (an.natAbs*bd.natAbs)) (hiW (bn.natAbs*ad.natAbs)) (loW (bn.natAbs*ad.natAbs)) w;rw [kC]at L;by_cases hl:an.natAbs*bd.natAbs<bn.natAbs*ad.natAbs
  ·obtain⟨e1,e2⟩:=f1 hl;rw [jK e2,e1];rw [decide_eq_true hl]at L;exact Iy an ad bn bd _ _ _ _ _ _ _ _ _ _ _ _ w rfl rfl (by simpa using hs) V1 V2 Z i1 i2 i3 i4 T1 T2 u1 u2 u3 L (fun w=>tQ _ _ w ze ze) (fun w=>jT _ _ _ w ze ze hD.1)
  ·obtain⟨e1,e2⟩:=f2 ze;rw [jK e2,e1];rw [decide_eq_false hl]at L;exact Iw an ad bn bd _ _ _ _ _ _ _ _ _ _ _ _ w rfl rfl (by simpa using hs) V1 V2 Z i1 i2 i3 i4 T1 T2 u1 u2 u3 L (fun w=>tQ _ _ w ze ze) (fun w=>jT _ _ _ w ze ze hD.1)
theorem KY(an ad bn bd:Int)(w:World)(hi:kN an ad bn bd):Calls prog 145 #[.agg #[.int .i64 an,.int .i64 ad],.agg #[.int .i64 bn,.int .i64 bd]] w fun e w'=>e= .returned (frV (lV an ad bn bd))/\w.Grows w':=by
 obtain⟨i1,i2,i3,i4⟩:=hi;have N:=zh (fun w=>Cg bn bd w i3.1 i3.2 i4.1 i4.2);by_cases hv:aA bn bd=true
 ·have b2:=aF hv;have e0:lV an ad bn bd=jR an ad (-bn) bd:=by unfold lV;rw [if_pos hv]
  have e1:iW bn bd=(-bn,bd,0):=by unfold iW;rw [if_pos hv]
  have A:=zh (fun w=>Cn an ad (-bn) bd w ⟨i1,i2,by unfold I64;omega,i4⟩);rw [e1]at N;rw [e0];generalize jR an ad (-bn) bd=r at *;obtain⟨r1,r2,r3⟩:=r;clear e0 e1 hv;unfold frV at N A;generalize -bn=c at *
  go_enter func145,ntmps145
  go_wp2_with (first|(go_at_call 142;(with_reducible refine(N.out _).mono ?_);rintro e w' ⟨rfl,bs,dr,rfl⟩)|(go_at_call 144;(with_reducible refine(A.out _).mono ?_);rintro e w' ⟨rfl,bs2,dr2,rfl⟩))
  exact gz9
 ·have e0:lV an ad bn bd=(0,0,1):=by unfold lV;rw [if_neg hv]
  have e1:iW bn bd=(0,0,1):=by unfold iW;rw [if_neg hv]
  rw [e1]at N;rw [e0];clear e0 e1 hv;unfold frV at N
  go_enter func145,ntmps145
  go_wp2_with (go_at_call 142;(with_reducible refine(N.out _).mono ?_);rintro e w' ⟨rfl,bs,dr,rfl⟩)
  exact gz9
theorem KZ(an ad bn bd:Int)(w:World)(hi:kN an ad bn bd):Calls prog 152 #[.agg #[.int .i64 an,.int .i64 ad],.agg #[.int .i64 bn,.int .i64 bd]] w fun e w'=>e= .returned (frV (lV an ad bn bd))/\w.Grows w':=by
 obtain⟨i1,i2,i3,i4⟩:=hi;have N:=zh (fun w=>Ch bn bd w i3.1 i3.2 i4.1 i4.2);by_cases hv:aA bn bd=true
 ·have b2:=aF hv;have e0:lV an ad bn bd=jR an ad (-bn) bd:=by unfold lV;rw [if_pos hv]
  have e1:iW bn bd=(-bn,bd,0):=by unfold iW;rw [if_pos hv]
  have A:=zh (fun w=>Co an ad (-bn) bd w ⟨i1,i2,by unfold I64;omega,i4⟩);rw [e1]at N;rw [e0];generalize jR an ad (-bn) bd=r at *;obtain⟨r1,r2,r3⟩:=r;clear e0 e1 hv;unfold frV at N A;generalize -bn=c at *
  go_enter func152,ntmps152
  go_wp2_with (first|(go_at_call 149;(with_reducible refine(N.out _).mono ?_);rintro e w' ⟨rfl,bs,dr,rfl⟩)|(go_at_call 151;(with_reducible refine(A.out _).mono ?_);rintro e w' ⟨rfl,bs2,dr2,rfl⟩))
  exact gz9
 ·have e0:lV an ad bn bd=(0,0,1):=by unfold lV;rw [if_neg hv]
  have e1:iW bn bd=(0,0,1):=by unfold iW;rw [if_neg hv]
  rw [e1]at N;rw [e0];clear e0 e1 hv;unfold frV at N
  go_enter func152,ntmps152
  go_wp2_with (go_at_call 149;(with_reducible refine(N.out _).mono ?_);rintro e w' ⟨rfl,bs,dr,rfl⟩)
  exact gz9
theorem IC(n d:Int)(w:World)(h1:I64 n)(h2:I64 d):Calls prog 59 #[.int .i64 n,.int .i64 d] w fun e w'=>e= .returned (frV (mkN n d,mkD n d,mkE n d))/\w.Grows w':=by
 by_cases h0:d=0
 ·subst h0;exact Dh n w
 unfold I64 at h1 h2;have hg:0<Nat.gcd n.natAbs d.natAbs:=Nat.gcd_pos_of_pos_right _ ze;have hgd:Nat.gcd n.natAbs d.natAbs<=d.natAbs:=Nat.gcd_le_right _ ze
 have e:(mkN n d,mkD n d,mkE n d)=pI ((decide (n<0)!=decide (d<0))&&(n !=0)) n.natAbs d.natAbs:=by
  have hz:n.natAbs=0\/(decide (n<0)!=decide (d<0))=((decide (n<0)!=decide (d<0))&&(n !=0)):=by
   by_cases hn:n=0
   ·left;omega
   ·right;have:(n !=0)=true:=by simpa using hn
    rw [this,Bool.and_true]
  rw [<-jK hz];unfold mkN mkD mkE pI;rw [if_neg h0,if_neg h0,if_neg h0]
 rw [e];have q1:n.natAbs / Nat.gcd n.natAbs d.natAbs<=n.natAbs:=Nat.div_le_self _ _;have q2:d.natAbs / Nat.gcd n.natAbs d.natAbs<=d.natAbs:=Nat.div_le_self _ _;refine Di n d _ _ (Nat.gcd n.natAbs d.natAbs:Nat) (n.natAbs / Nat.gcd n.natAbs d.natAbs:Nat) (d.natAbs / Nat.gcd n.natAbs d.natAbs:Nat) _ _ _ _ _ _ rfl w rfl rfl (by simpa using h0) ze zp ?_ ?_ (fun w=>iF n w h1.1 h1.2) (fun w=>iF d w h2.1 h2.2) (fun w=>?_) (fun w=>?_)
 ·rw [sD,gW ze ze ze,fG]
 ·rw [sD,gW ze ze ze,fG]
 ·have:=mf (aH n) (aH d) w (mZ n h1.1 h1.2).1 (by have:=mZ n h1.1 h1.2;omega) (mZ d h2.1 h2.2).1 (by have:=mZ d h2.1 h2.2;omega);rw [show jY (aH n) (aH d)=(Nat.gcd n.natAbs d.natAbs:Nat)by unfold jY;rw [lq,lq]]at this;exact Calls.quietD this
 ·have h:=r9 ((decide (n<0)!=decide (d<0))&&(n !=0)) (n.natAbs / Nat.gcd n.natAbs d.natAbs) (d.natAbs / Nat.gcd n.natAbs d.natAbs);have e1:hiW (n.natAbs / Nat.gcd n.natAbs d.natAbs)=0:=qw ze;have e2:loW (n.natAbs / Nat.gcd n.natAbs d.natAbs)=((n.natAbs / Nat.gcd n.natAbs d.natAbs:Nat):Int):=qf ze;have e3:hiW (d.natAbs / Nat.gcd n.natAbs d.natAbs)=0:=qw ze;have e4:loW (d.natAbs / Nat.gcd n.natAbs d.natAbs)=((d.natAbs / Nat.gcd n.natAbs d.natAbs:Nat):Int):=qf ze;rw [e1,e2,e3,e4]at h;have k:=lS ((decide (n<0)!=decide (d<0))&&(n !=0)) 0 ((n.natAbs / Nat.gcd n.natAbs d.natAbs:Nat):Int) 0 ((d.natAbs / Nat.gcd n.natAbs d.natAbs:Nat):Int) w (Int.natCast_nonneg _) (Int.natCast_nonneg _);rw [h]at k
  have e5 (b:Bool) (N D:Nat):pI b N D=(if 1000000000000000<N / Nat.gcd N D\/1000000000<D / Nat.gcd N D then(0,0,2)else(if b=true then -((N / Nat.gcd N D:Nat):Int)else(N / Nat.gcd N D:Nat),((D / Nat.gcd N D:Nat):Int),0)):=by
   unfold pI jX l5 kF
   split<;>rfl
  rw [e5];exact k
def dM(x:Val):Value:=.agg #[.int .i64 x.dim,.bool x.yes,.int .i64 x.n,.int .i64 x.d]
def vC(x:Val):Prop:=I64 x.n/\I64 x.d
theorem rR(x:Val)(w:World)(hr:vC x):Calls prog 31 #[dM x] w fun r w'=>r= .returned (.bool x.ok)/\w.Grows w':=by
 have HV:=zh (fun w=>cB x.n x.d w hr.1.1 hr.1.2 hr.2.1 hr.2.2);have HF:Hid (x.ok=if x.dim=1 then decide (x.n=0/\x.d=0)else decide (2<=x.dim/\x.dim<=4)&&!x.yes&&aA x.n x.d):=zh rfl;clear hr;generalize aA x.n x.d=q at *;obtain⟨m,yes,n,d⟩:=x;dsimp only at HV HF ⊢;generalize hok:Val.ok ⟨m,yes,n,d⟩=okv at *;clear hok;show Calls prog 31 #[.agg #[.int .i64 m,.bool yes,.int .i64 n,.int .i64 d]] w _;by_cases h1:m=1
 ·subst h1;rw [if_pos rfl]at HF;by_cases c1:n=0
  ·subst c1;by_cases c2:d=0
   ·subst c2
    go_enter func31,ntmps31
    go_wp2_with fail
    exact J6
   ·have e2:(d==0)=false:=by simpa using c2
    have HN:=zh c2;clear c2
    go_enter func31,ntmps31
    exact Nr
  ·have e2:(n==0)=false:=by simpa using c1
   have HN:=zh c1;clear c1
   go_enter func31,ntmps31
   exact Nr
 ·rw [if_neg h1]at HF;have e1:(m==1)=false:=by simpa using h1
  by_cases hm:2<=m/\m<=4
  ·rw [decide_eq_true hm,Bool.true_and]at HF;rcases(show m=2\/m=3\/m=4 by omega)with rfl|rfl|rfl
   all_goals
    cases yes
    all_goals
     cases q
     all_goals
      go_enter func31,ntmps31
      exact Qz
  ·rw [decide_eq_false hm]at HF;by_cases h2:m<2
   focus
    have e2:(m==2)=false:=by rw [beq_eq_false_iff_ne];omega
   rotate_left
   focus
    have h4:m > 4:=by omega
    have e2:(m==2)=false:=by rw [beq_eq_false_iff_ne];omega
   rotate_left
   all_goals
    have e3:(m==3)=false:=by rw [beq_eq_false_iff_ne];omega
    have e4:(m==4)=false:=by rw [beq_eq_false_iff_ne];omega
    clear hm
    go_enter func31,ntmps31
    go_wp2_with fail
    exact J6
theorem rH(x:Val)(w:World)(hr:vC x):Calls prog 66 #[dM x] w fun r w'=>r= .returned (.bool x.ok)/\w.Grows w':=by
 have HV:=zh (fun w=>dS x.n x.d w hr.1.1 hr.1.2 hr.2.1 hr.2.2);have HF:Hid (x.ok=if x.dim=1 then decide (x.n=0/\x.d=0)else decide (2<=x.dim/\x.dim<=4)&&!x.yes&&aA x.n x.d):=zh rfl;clear hr;generalize aA x.n x.d=q at *;obtain⟨m,yes,n,d⟩:=x;dsimp only at HV HF ⊢;generalize hok:Val.ok ⟨m,yes,n,d⟩=okv at *;clear hok;show Calls prog 66 #[.agg #[.int .i64 m,.bool yes,.int .i64 n,.int .i64 d]] w _;by_cases h1:m=1
 ·subst h1;rw [if_pos rfl]at HF;by_cases c1:n=0
  ·subst c1;by_cases c2:d=0
   ·subst c2
    go_enter func66,ntmps66
    go_wp2_with fail
    exact J6
   ·have e2:(d==0)=false:=by simpa using c2
    have HN:=zh c2;clear c2
    go_enter func66,ntmps66
    exact Nr
  ·have e2:(n==0)=false:=by simpa using c1
   have HN:=zh c1;clear c1
   go_enter func66,ntmps66
   exact Nr
 ·rw [if_neg h1]at HF;have e1:(m==1)=false:=by simpa using h1
  by_cases hm:2<=m/\m<=4
  ·rw [decide_eq_true hm,Bool.true_and]at HF;rcases(show m=2\/m=3\/m=4 by omega)with rfl|rfl|rfl
   all_goals
    cases yes
    all_goals
     cases q
     all_goals
      go_enter func66,ntmps66
      exact Qz
  ·rw [decide_eq_false hm]at HF;by_cases h2:m<2
   focus
    have e2:(m==2)=false:=by rw [beq_eq_false_iff_ne];omega
   rotate_left
   focus
    have h4:m > 4:=by omega
    have e2:(m==2)=false:=by rw [beq_eq_false_iff_ne];omega
   rotate_left
   all_goals
    have e3:(m==3)=false:=by rw [beq_eq_false_iff_ne];omega
    have e4:(m==4)=false:=by rw [beq_eq_false_iff_ne];omega
    clear hm
    go_enter func66,ntmps66
    go_wp2_with fail
    exact J6
theorem kJ(m n d:Int)(w:World):Calls prog 48 #[.int .i64 m,.agg #[.int .i64 n,.int .i64 d]] w fun r w'=>r= .returned (dM (.num m n d))/\w.Grows w':=by
 show Calls _ _ _ _ fun r w'=>r= .returned (.agg #[.int .i64 m,.bool false,.int .i64 n,.int .i64 d])/\_
 go_enter func48,ntmps48
 exact nR
theorem rA(b:Bool)(w:World):Calls prog 116 #[.bool b] w fun r w'=>r= .returned (dM (.truth b))/\w.Grows w':=by
 show Calls _ _ _ _ fun r w'=>r= .returned (.agg #[.int .i64 1,.bool b,.int .i64 0,.int .i64 0])/\_
 go_enter func116,ntmps116
 exact nR
theorem BO(op an ad bn bd:Int)(w:World)(h11:11<=op)(h16:op<=16)(hi:kN an ad bn bd) :
 Calls prog 115 #[.int .i64 op,.agg #[.int .i64 an,.int .i64 ad],.agg #[.int .i64 bn,.int .i64 bd]] w fun r w'=>r= .returned (.tuple #[.bool (rP op (gm an ad bn bd).1),.int .i64 (gm an ad bn bd).2])/\w.Grows w':=by
 have HC:=zh (fun w=>pO an ad bn bd w hi);unfold frI at HC;generalize gm an ad bn bd=q at *;obtain⟨c,e⟩:=q;dsimp only at HC ⊢;clear hi;rcases(show op=11\/op=12\/op=13\/op=14\/op=15\/op=16 by omega)with rfl|rfl|rfl|rfl|rfl|rfl
 all_goals
  clear h11 h16;simp only [rP]
  go_enter func115,ntmps115
  go_wp2_with (go_at_call 143;refine(HC.out _).mono ?_;rintro e' w' ⟨rfl,bs,d,rfl⟩)
  go_returns
  exact⟨rfl,.of_below af⟩
def BH(op a b:Int):Int:=if op=9/\a=2 then b else if op=10/\b≠2 then 2 else a
theorem vg(op a b:Int)(w:World) :
 Calls prog 118 #[.int .i64 op,.int .i64 a,.int .i64 b] w fun r w'=>r= .returned (.int .i64 (BH op a b))/\w.Grows w':=by
 go_enter func118,ntmps118
 go_wp2_with fail
 all_goals
  go_returns
  exact⟨ret_int (by unfold BH;simp_all),.of_below af⟩
def arF(op an ad bn bd:Int):Int × Int × Int:=
 if op=7 then jR an ad bn bd else if op=8 then lV an ad bn bd else if op=9 then lK an ad bn bd else if op=10 then lL an ad bn bd
 else if op=19 then(if(gm an ad bn bd).1<0 then(an,ad,(gm an ad bn bd).2)else(bn,bd,(gm an ad bn bd).2))
 else if(gm an ad bn bd).1<0 then(bn,bd,(gm an ad bn bd).2)else(an,ad,(gm an ad bn bd).2)
theorem Ih(op an ad bn bd:Int)(w:World)(ho:op=7\/op=8\/op=9\/op=10\/op=19\/op=20)(hi:kN an ad bn bd) :
 Calls prog 117 #[.int .i64 op,.agg #[.int .i64 an,.int .i64 ad],.agg #[.int .i64 bn,.int .i64 bd]] w fun r w'=>r= .returned (frV (arF op an ad bn bd))/\w.Grows w':=by
 have HA:=zh (fun w=>Cn an ad bn bd w hi);have HS:=zh (fun w=>KY an ad bn bd w hi);have HM:=zh (fun w=>Lf an ad bn bd w hi);have HD:=zh (fun w=>Lm an ad bn bd w hi);have HC:=zh (fun w=>pO an ad bn bd w hi);unfold frI at HC;unfold frV at HA HS HM HD ⊢;have HF:=zh (show arF op an ad bn bd=arF op an ad bn bd from rfl);generalize hr:arF op an ad bn bd=R at HF ⊢;clear HF;unfold arF at hr;generalize jR an ad bn bd=qa at *;generalize lV an ad bn bd=qs at *;generalize lK an ad bn bd=qm at *;generalize lL an ad bn bd=qd at *;generalize gm an ad bn bd=qc at *;clear hi;have HR:=zh hr;clear hr;by_cases hc:qc.1<0
 all_goals
  rcases ho with rfl|rfl|rfl|rfl|rfl|rfl
  all_goals
   go_enter func117,ntmps117
   go_wp2_with (first
    |(go_at_call 144;refine(HA.out _).mono ?_;rintro e' w' ⟨rfl,bs,d,rfl⟩)
    |(go_at_call 145;refine(HS.out _).mono ?_;rintro e' w' ⟨rfl,bs,d,rfl⟩)
    |(go_at_call 146;refine(HM.out _).mono ?_;rintro e' w' ⟨rfl,bs,d,rfl⟩)
    |(go_at_call 147;refine(HD.out _).mono ?_;rintro e' w' ⟨rfl,bs,d,rfl⟩)
    |(go_at_call 143;refine(HC.out _).mono ?_;rintro e' w' ⟨rfl,bs,d,rfl⟩))
   all_goals
    go_returns
    exact⟨by rw [<-HR.out];first|(simp [hc];done)|(simp;done)|(rw [if_neg hc];done)|(simp [if_neg hc];done)|(simp_all;done)|(simp;split<;>first|rfl|(exfalso;omega)|simp_all),.of_below af⟩
end Go.Proofs.YtlheailebbngiaaGreatDoor
