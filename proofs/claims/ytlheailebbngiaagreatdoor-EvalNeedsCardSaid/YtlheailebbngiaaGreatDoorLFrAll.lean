import Derived.Test.YtlheailebbngiaaGreatDoorLFrA1
import Derived.Test.YtlheailebbngiaaGreatDoorLFrA2L
import Derived.Test.YtlheailebbngiaaGreatDoorLFrA2M
import Derived.Test.YtlheailebbngiaaGreatDoorLK
set_option linter.all false
set_option maxHeartbeats 16000000
set_option maxRecDepth 1000000
namespace Go.Proofs.YtlheailebbngiaaGreatDoor
open Go.RowKit
theorem abs_nat(n:Int):absI n=((n.natAbs:Nat):Int):=rfl
theorem den_nat{d:Int}(h:1≤d):d=((d.natAbs:Nat):Int):=by omega
theorem Mul2_any(an ad bn bd:Int)(w:World)(hi:I64x4 an ad bn bd):Calls Tryz.prog 146 #[.agg #[.int .i64 an,.int .i64 ad],.agg #[.int .i64 bn,.int .i64 bd]] w fun e w'=>e= .returned (frV (mulF an ad bn bd))∧w.Grows w':=by
 obtain⟨i1,i2,i3,i4⟩:=hi
 have V1:=Lib.hid (fun w=>Valid2_any an ad w i1.1 i1.2 i2.1 i2.2)
 have V2:=Lib.hid (fun w=>Valid2_any bn bd w i3.1 i3.2 i4.1 i4.2)
 by_cases hv:(vfrac an ad&&vfrac bn bd)=true
 case neg=>
  have e:mulF an ad bn bd=(0,0,1):=by unfold mulF;rw [if_neg hv]
  rw [e]
  exact mul2_no an ad bn bd _ _ w (Bool.eq_false_iff.2 hv) V1 V2
 have hva:=(Bool.and_eq_true_iff.1 hv).1
 have hvb:=(Bool.and_eq_true_iff.1 hv).2
 have e:mulF an ad bn bd=prdF (decide (an<0)!=decide (bn<0)) an.natAbs ad.natAbs bn.natAbs bd.natAbs:=by unfold mulF;rw [if_pos hv];try rfl
 rw [e]
 rw [hva]at V1
 rw [hvb]at V2
 have b1:=vfrac_bd hva
 have b2:=vfrac_bd hvb
 obtain⟨neg,hc,hz⟩:=mulCase an bn
 rw [←prdF_zero (b:=neg) hz]
 exact mul2_core an ad bn bd _ _ _ _ _ _ _ neg w rfl rfl rfl rfl hc V1 V2 (fun n h w=>size2_any n w h.1 h.2) i1 i2 i3 i4 (fun w=>quotient2_any neg an.natAbs ad.natAbs bn.natAbs bd.natAbs w (by omega) (by omega) (by omega) (by omega) (by omega) (by omega))
theorem Div2_any(an ad bn bd:Int)(w:World)(hi:I64x4 an ad bn bd):Calls Tryz.prog 147 #[.agg #[.int .i64 an,.int .i64 ad],.agg #[.int .i64 bn,.int .i64 bd]] w fun e w'=>e= .returned (frV (divF an ad bn bd))∧w.Grows w':=by
 obtain⟨i1,i2,i3,i4⟩:=hi
 have V1:=Lib.hid (fun w=>Valid2_any an ad w i1.1 i1.2 i2.1 i2.2)
 have V2:=Lib.hid (fun w=>Valid2_any bn bd w i3.1 i3.2 i4.1 i4.2)
 by_cases hv:(vfrac an ad&&vfrac bn bd)=true
 case neg=>
  have e:divF an ad bn bd=(0,0,1):=by unfold divF;rw [if_neg hv]
  rw [e]
  exact div2_no an ad bn bd _ _ w (Bool.eq_false_iff.2 hv) V1 V2
 have hva:=(Bool.and_eq_true_iff.1 hv).1
 have hvb:=(Bool.and_eq_true_iff.1 hv).2
 have e:divF an ad bn bd=(if bn=0 then(0,0,3)else prdF (decide (an<0)!=decide (bn<0)) an.natAbs ad.natAbs bd.natAbs bn.natAbs):=by unfold divF;rw [if_pos hv];try rfl
 rw [e]
 rw [hva]at V1
 rw [hvb]at V2
 have b1:=vfrac_bd hva
 have b2:=vfrac_bd hvb
 by_cases h0:bn=0
 ·subst h0
  rw [if_pos rfl]
  exact div2_zero an ad bd w V1 V2
 rw [if_neg h0]
 obtain⟨neg,hc,hz⟩:=mulCase an bn
 have hz':an.natAbs=0∨bd.natAbs=0∨neg=(decide (an<0)!=decide (bn<0)):=by
  rcases hz with h|h|h
  ·exact .inl h
  ·omega
  ·exact .inr (.inr h)
 rw [←prdF_zero (b:=neg) hz']
 exact div2_core an ad bn bd _ _ _ _ _ _ _ neg w rfl rfl rfl rfl hc (by simpa using h0) V1 V2 (fun n h w=>size2_any n w h.1 h.2) i1 i2 i3 i4 (fun w=>quotient2_any neg an.natAbs ad.natAbs bd.natAbs bn.natAbs w (by omega) (by omega) (by omega) (by omega) (by omega) (by omega))
theorem Mul1_any(an ad bn bd:Int)(w:World)(hi:I64x4 an ad bn bd):Calls Tryz.prog 153 #[.agg #[.int .i64 an,.int .i64 ad],.agg #[.int .i64 bn,.int .i64 bd]] w fun e w'=>e= .returned (frV (mulF an ad bn bd))∧w.Grows w':=by
 obtain⟨i1,i2,i3,i4⟩:=hi
 have V1:=Lib.hid (fun w=>Valid1_any an ad w i1.1 i1.2 i2.1 i2.2)
 have V2:=Lib.hid (fun w=>Valid1_any bn bd w i3.1 i3.2 i4.1 i4.2)
 by_cases hv:(vfrac an ad&&vfrac bn bd)=true
 case neg=>
  have e:mulF an ad bn bd=(0,0,1):=by unfold mulF;rw [if_neg hv]
  rw [e]
  exact mul1_no an ad bn bd _ _ w (Bool.eq_false_iff.2 hv) V1 V2
 have hva:=(Bool.and_eq_true_iff.1 hv).1
 have hvb:=(Bool.and_eq_true_iff.1 hv).2
 have e:mulF an ad bn bd=prdF (decide (an<0)!=decide (bn<0)) an.natAbs ad.natAbs bn.natAbs bd.natAbs:=by unfold mulF;rw [if_pos hv];try rfl
 rw [e]
 rw [hva]at V1
 rw [hvb]at V2
 have b1:=vfrac_bd hva
 have b2:=vfrac_bd hvb
 refine mul1_core an ad bn bd _ _ _ _ _ w rfl rfl (IntWalk.u64_in _ (by omega)) (IntWalk.u64_in _ (by omega)) V1 V2 (fun n h w=>size1_any n w h.1 h.2) i1 i2 i3 i4 (fun w=>?_)
 have:=product1_any (decide (an<0)!=decide (bn<0)) an.natAbs ad.natAbs bn.natAbs bd.natAbs w (by omega) (by omega) (by omega) (by omega) (by omega) (by omega)
 rw [←den_nat b1.1,←den_nat b2.1]at this
 exact this
theorem Div1_any(an ad bn bd:Int)(w:World)(hi:I64x4 an ad bn bd):Calls Tryz.prog 154 #[.agg #[.int .i64 an,.int .i64 ad],.agg #[.int .i64 bn,.int .i64 bd]] w fun e w'=>e= .returned (frV (divF an ad bn bd))∧w.Grows w':=by
 obtain⟨i1,i2,i3,i4⟩:=hi
 have V1:=Lib.hid (fun w=>Valid1_any an ad w i1.1 i1.2 i2.1 i2.2)
 have V2:=Lib.hid (fun w=>Valid1_any bn bd w i3.1 i3.2 i4.1 i4.2)
 by_cases hv:(vfrac an ad&&vfrac bn bd)=true
 case neg=>
  have e:divF an ad bn bd=(0,0,1):=by unfold divF;rw [if_neg hv]
  rw [e]
  exact div1_no an ad bn bd _ _ w (Bool.eq_false_iff.2 hv) V1 V2
 have hva:=(Bool.and_eq_true_iff.1 hv).1
 have hvb:=(Bool.and_eq_true_iff.1 hv).2
 have e:divF an ad bn bd=(if bn=0 then(0,0,3)else prdF (decide (an<0)!=decide (bn<0)) an.natAbs ad.natAbs bd.natAbs bn.natAbs):=by unfold divF;rw [if_pos hv];try rfl
 rw [e]
 rw [hva]at V1
 rw [hvb]at V2
 have b1:=vfrac_bd hva
 have b2:=vfrac_bd hvb
 by_cases h0:bn=0
 ·subst h0
  rw [if_pos rfl]
  exact div1_zero an ad bd w V1 V2
 rw [if_neg h0]
 refine div1_core an ad bn bd _ _ _ _ _ w rfl rfl (IntWalk.u64_in _ (by omega)) (IntWalk.u64_in _ (by omega)) (by simpa using h0) V1 V2 (fun n h w=>size1_any n w h.1 h.2) i1 i2 i3 i4 (fun w=>?_)
 have:=product1_any (decide (an<0)!=decide (bn<0)) an.natAbs ad.natAbs bd.natAbs bn.natAbs w (by omega) (by omega) (by omega) (by omega) (by omega) (by omega)
 rw [←den_nat b1.1,←den_nat b2.1]at this
 exact this
theorem cross_bd{an bd:Int}(h1:-1000000000000000≤an)(h2:an≤1000000000000000)(h3:1≤bd)(h4:bd≤1000000000):an.natAbs*bd.natAbs≤1000000000000000000000000:=
 Nat.le_trans (Nat.mul_le_mul (show an.natAbs≤1000000000000000 by omega) (show bd.natAbs≤1000000000 by omega)) (by decide)
theorem dens_bd{ad bd:Int}(h1:1≤ad)(h2:ad≤1000000000)(h3:1≤bd)(h4:bd≤1000000000):0<ad.natAbs*bd.natAbs∧ad.natAbs*bd.natAbs≤1000000000000000000:=
 ⟨Nat.mul_pos (by omega) (by omega),Nat.le_trans (Nat.mul_le_mul (show ad.natAbs≤1000000000 by omega) (show bd.natAbs≤1000000000 by omega)) (by decide)⟩
theorem hiW_small{n:Nat}(h:n<18446744073709551616):hiW n=0:=by unfold hiW;omega
theorem loW_small{n:Nat}(h:n<18446744073709551616):loW n=(n:Int):=by unfold loW;omega
def addV(neg:Bool)(N D:Nat):Int × Int × Int:=(lowN neg N D,lowD N D,lowE N D)
theorem addV_neg{b c:Bool}{N D:Nat}(h:N=0∨b=c):addV b N D=addV c N D:=by unfold addV;rw [lowN_neg h]
theorem low_wit(neg:Bool)(N D:Nat)(hD:D≤1000000000000000000):witV neg (hiW (N / Nat.gcd N D)) (loW (N / Nat.gcd N D)) 0 ((D / Nat.gcd N D:Nat):Int)=frV (addV neg N D):=by
 have h:=frV_wit neg (N / Nat.gcd N D) (D / Nat.gcd N D)
 have h2:D / Nat.gcd N D≤D:=Nat.div_le_self _ _
 have e1:hiW (D / Nat.gcd N D)=0:=hiW_small (by omega)
 have e2:loW (D / Nat.gcd N D)=((D / Nat.gcd N D:Nat):Int):=loW_small (by omega)
 rw [e1,e2]at h
 rw [h]
 unfold addV lowN lowD lowE
 split<;>rfl
theorem den_wrap{ad bd:Int}{D:Nat}(h:ad.natAbs*bd.natAbs=D)(hD:D≤1000000000000000000):IntKind.u64.wrap (absI ad*absI bd)=(D:Int):=by
 have e:absI ad*absI bd=(D:Int):=by rw [abs_nat,abs_nat,←Int.natCast_mul,h]
 rw [e];exact IntWalk.u64_in _ (by omega)
theorem rest2(neg:Bool)(N D:Nat)(hN:N≤1000000000000000000000000000)(hD0:0<D)(hD:D≤1000000000000000000) :
 (hiW N=0→loW N=0→addV neg N D=(0,1,0))∧
 (∀w,Calls Tryz.prog 99 #[.bool neg,.agg #[.int .u64 (hiW (N / Nat.gcd N D)),.int .u64 (loW (N / Nat.gcd N D))],.agg #[.int .u64 0,.int .u64 (D / Nat.gcd N D:Nat)]] w fun e w'=>e= .returned (frV (addV neg N D))∧w.Grows w')∧
 (∀w,Calls Tryz.prog 188 #[.agg #[.int .u64 (hiW N),.int .u64 (loW N)],.int .u64 (Nat.gcd N D:Nat)] w fun e w'=>e= .returned (.agg #[.int .u64 (hiW (N / Nat.gcd N D)),.int .u64 (loW (N / Nat.gcd N D))])∧w.Grows w')∧
 (∀w,Calls Tryz.prog 187 #[.int .u64 (hiW N),.int .u64 (loW N),.int .u64 (D:Nat)] w fun e w'=>e= .returned (.int .u64 (remI N D))∧w.Grows w')∧
 (∀w,Calls Tryz.prog 94 #[.int .u64 (D:Nat),.int .u64 (remI N D)] w fun e w'=>e= .returned (.int .u64 (Nat.gcd N D:Nat))∧w.Grows w'):=by
 have hg:0<Nat.gcd N D:=Nat.gcd_pos_of_pos_right _ hD0
 have hgd:Nat.gcd N D≤D:=Nat.gcd_le_right _ hD0
 have hr:=remI_bd N D hD0
 refine⟨fun h1 h2=>?_,fun w=>?_,fun w=>?_,fun w=>?_,fun w=>?_⟩
 ·have:N=0:=by unfold hiW at h1;unfold loW at h2;omega
  subst this
  unfold addV lowN lowD lowE
  rw [Nat.gcd_zero_left,Nat.div_self hD0,Nat.zero_div]
  simp
 ·rw [←low_wit neg N D hD]
  exact within2_any _ _ _ _ _ w (loW_bd _).1 (Int.natCast_nonneg _)
 ·exact over2_any N (Nat.gcd N D) w (by omega) (by omega) hg
 ·exact Rem64_any N D w (by omega) (by omega) hD0
 ·have:=gcd2_any (D:Nat) (remI N D) w (by omega) (by omega) (by omega) (by omega)
  rw [gcd_rest N D hD0]at this
  exact Calls.quietD this
theorem Add2_any(an ad bn bd:Int)(w:World)(hi:I64x4 an ad bn bd):Calls Tryz.prog 144 #[.agg #[.int .i64 an,.int .i64 ad],.agg #[.int .i64 bn,.int .i64 bd]] w fun e w'=>e= .returned (frV (addF an ad bn bd))∧w.Grows w':=by
 obtain⟨i1,i2,i3,i4⟩:=hi
 have V1:=Lib.hid (fun w=>Valid2_any an ad w i1.1 i1.2 i2.1 i2.2)
 have V2:=Lib.hid (fun w=>Valid2_any bn bd w i3.1 i3.2 i4.1 i4.2)
 by_cases hv:(vfrac an ad&&vfrac bn bd)=true
 case neg=>
  have e:addF an ad bn bd=(0,0,1):=by unfold addF;rw [if_neg hv]
  rw [e]
  exact add2_no an ad bn bd _ _ w (Bool.eq_false_iff.2 hv) V1 V2
 have hva:=(Bool.and_eq_true_iff.1 hv).1
 have hvb:=(Bool.and_eq_true_iff.1 hv).2
 have e:addF an ad bn bd=addV (decide (addS an ad bn bd<0)) (addS an ad bn bd).natAbs (ad.natAbs*bd.natAbs):=by unfold addF;rw [if_pos hv];try rfl
 rw [e]
 rw [hva]at V1
 rw [hvb]at V2
 have b1:=vfrac_bd hva
 have b2:=vfrac_bd hvb
 have hD:=dens_bd b1.1 b1.2.1 b2.1 b2.2.1
 have c1:=cross_bd (an:=an) (bd:=bd) b1.2.2.1 b1.2.2.2 b2.1 b2.2.1
 have c2:=cross_bd (an:=bn) (bd:=ad) b2.2.2.1 b2.2.2.2 b1.1 b1.2.1
 have Z:Hid _:=Lib.hid (fun n (h:I64 n) w=>size2_any n w h.1 h.2)
 have T1:Hid _:=Lib.hid (fun w=>times_abs times2_any i1 i4 w)
 have T2:Hid _:=Lib.hid (fun w=>times_abs times2_any i3 i2 w)
 have hg (N:Nat):0<Nat.gcd N (ad.natAbs*bd.natAbs)∧Nat.gcd N (ad.natAbs*bd.natAbs)≤ad.natAbs*bd.natAbs:=⟨Nat.gcd_pos_of_pos_right _ hD.1,Nat.gcd_le_right _ hD.1⟩
 have hq (N:Nat):IntKind.u64.wrap ((((ad.natAbs*bd.natAbs:Nat):Int)).tdiv (Nat.gcd N (ad.natAbs*bd.natAbs):Nat))=((ad.natAbs*bd.natAbs / Nat.gcd N (ad.natAbs*bd.natAbs):Nat):Int):=by
  have:=(hg N).1
  rw [quo_u64 (by omega) (by omega) (by omega),ediv_nat]
 have key (neg:Bool) (N:Nat) (hN:N≤2000000000000000000000000):=rest2 neg N (ad.natAbs*bd.natAbs) (by omega) hD.1 hD.2
 have tr {a b:Int × Int × Int} (h:a=b):a.1=b.1∧a.2.1=b.2.1∧a.2.2=b.2.2:=by rw [h];exact⟨rfl,rfl,rfl⟩
 by_cases hs:decide (an<0)=decide (bn<0)
 ·obtain⟨e1,e2⟩:=add_same b1.1 b2.1 hs
  rw [addV_neg e2,e1]
  obtain⟨k1,k2,k3,k4,k5⟩:=key (decide (an<0)) (an.natAbs*bd.natAbs+bn.natAbs*ad.natAbs) (by omega)
  have g1:=hg (an.natAbs*bd.natAbs+bn.natAbs*ad.natAbs)
  exact add2_same an ad bn bd _ _ _ _ _ _ _ _ _ _ _ _ _ _ _ _ _ w rfl rfl (by rw [hs];simp) V1 V2 Z i1 i2 i3 i4 T1 T2 (den_wrap rfl hD.2) (by omega) (by simp;omega) (hq _)
   (fun w=>plus2_any _ _ w (by omega)) (fun h1 h2=>tr (k1 h1 h2)) (fun _=>⟨k2,k3,k4,k5⟩)
 ·obtain⟨f1,f2⟩:=add_diff b1.1 b2.1 hs
  have L:=fun w=>less2_any (hiW (an.natAbs*bd.natAbs)) (loW (an.natAbs*bd.natAbs)) (hiW (bn.natAbs*ad.natAbs)) (loW (bn.natAbs*ad.natAbs)) w
  rw [wless_nat]at L
  by_cases hl:an.natAbs*bd.natAbs<bn.natAbs*ad.natAbs
  ·obtain⟨e1,e2⟩:=f1 hl
   rw [addV_neg e2,e1]
   rw [decide_eq_true hl]at L
   obtain⟨k1,k2,k3,k4,k5⟩:=key (!decide (an<0)) (bn.natAbs*ad.natAbs-an.natAbs*bd.natAbs) (by omega)
   have hnn:decide (bn<0)=!decide (an<0):=by
    revert hs;cases decide (an<0)<;>cases decide (bn<0)<;>simp
   have g1:=hg (bn.natAbs*ad.natAbs-an.natAbs*bd.natAbs)
   rw [hnn]
   exact add2_less an ad bn bd _ _ _ _ _ _ _ _ _ _ _ _ _ _ _ _ _ w rfl rfl (by simpa using hs) V1 V2 Z i1 i2 i3 i4 T1 T2 (den_wrap rfl hD.2) (by omega) (by simp;omega) (hq _)
    L (fun w=>minus2_any _ _ w (by omega) (by omega)) (fun h1 h2=>tr (k1 h1 h2)) (fun _=>⟨k2,k3,k4,k5⟩)
  ·obtain⟨e1,e2⟩:=f2 (by omega)
   rw [addV_neg e2,e1]
   rw [decide_eq_false hl]at L
   obtain⟨k1,k2,k3,k4,k5⟩:=key (decide (an<0)) (an.natAbs*bd.natAbs-bn.natAbs*ad.natAbs) (by omega)
   have g1:=hg (an.natAbs*bd.natAbs-bn.natAbs*ad.natAbs)
   exact add2_more an ad bn bd _ _ _ _ _ _ _ _ _ _ _ _ _ _ _ _ _ w rfl rfl (by simpa using hs) V1 V2 Z i1 i2 i3 i4 T1 T2 (den_wrap rfl hD.2) (by omega) (by simp;omega) (hq _)
    L (fun w=>minus2_any _ _ w (by omega) (by omega)) (fun h1 h2=>tr (k1 h1 h2)) (fun _=>⟨k2,k3,k4,k5⟩)
theorem Add1_any(an ad bn bd:Int)(w:World)(hi:I64x4 an ad bn bd):Calls Tryz.prog 151 #[.agg #[.int .i64 an,.int .i64 ad],.agg #[.int .i64 bn,.int .i64 bd]] w fun e w'=>e= .returned (frV (addF an ad bn bd))∧w.Grows w':=by
 obtain⟨i1,i2,i3,i4⟩:=hi
 have V1:=Lib.hid (fun w=>Valid1_any an ad w i1.1 i1.2 i2.1 i2.2)
 have V2:=Lib.hid (fun w=>Valid1_any bn bd w i3.1 i3.2 i4.1 i4.2)
 by_cases hv:(vfrac an ad&&vfrac bn bd)=true
 case neg=>
  have e:addF an ad bn bd=(0,0,1):=by unfold addF;rw [if_neg hv]
  rw [e]
  exact add1_no an ad bn bd _ _ w (Bool.eq_false_iff.2 hv) V1 V2
 have hva:=(Bool.and_eq_true_iff.1 hv).1
 have hvb:=(Bool.and_eq_true_iff.1 hv).2
 have e:addF an ad bn bd=addV (decide (addS an ad bn bd<0)) (addS an ad bn bd).natAbs (ad.natAbs*bd.natAbs):=by unfold addF;rw [if_pos hv];try rfl
 rw [e]
 rw [hva]at V1
 rw [hvb]at V2
 have b1:=vfrac_bd hva
 have b2:=vfrac_bd hvb
 have hD:=dens_bd b1.1 b1.2.1 b2.1 b2.2.1
 have c1:=cross_bd (an:=an) (bd:=bd) b1.2.2.1 b1.2.2.2 b2.1 b2.2.1
 have c2:=cross_bd (an:=bn) (bd:=ad) b2.2.2.1 b2.2.2.2 b1.1 b1.2.1
 have Z:Hid _:=Lib.hid (fun n (h:I64 n) w=>size1_any n w h.1 h.2)
 have T1:Hid _:=Lib.hid (fun w=>times_nn times1_any i1 (b:=bd) (by omega) (by omega) w)
 have T2:Hid _:=Lib.hid (fun w=>times_nn times1_any i3 (b:=ad) (by omega) (by omega) w)
 have u1:IntKind.u64.wrap ad=ad:=IntWalk.u64_in _ (by omega)
 have u2:IntKind.u64.wrap bd=bd:=IntWalk.u64_in _ (by omega)
 have u3:IntKind.u64.wrap (ad*bd)=((ad.natAbs*bd.natAbs:Nat):Int):=by
  have e:ad*bd=((ad.natAbs*bd.natAbs:Nat):Int):=by rw [Int.natCast_mul,←den_nat b1.1,←den_nat b2.1]
  rw [e];exact IntWalk.u64_in _ (by omega)
 by_cases hs:decide (an<0)=decide (bn<0)
 ·obtain⟨e1,e2⟩:=add_same b1.1 b2.1 hs
  rw [addV_neg e2,e1]
  exact add1_same an ad bn bd _ _ _ _ _ _ _ _ _ _ _ w rfl hs.symm V1 V2 Z i1 i2 i3 i4 T1 T2 u1 u2 u3 (fun w=>plus1_any _ _ w (by omega)) (fun w=>lowest1_any _ _ _ w (by omega) (by omega) hD.1)
 ·obtain⟨f1,f2⟩:=add_diff b1.1 b2.1 hs
  have L:=fun w=>less1_any (hiW (an.natAbs*bd.natAbs)) (loW (an.natAbs*bd.natAbs)) (hiW (bn.natAbs*ad.natAbs)) (loW (bn.natAbs*ad.natAbs)) w
  rw [wless_nat]at L
  by_cases hl:an.natAbs*bd.natAbs<bn.natAbs*ad.natAbs
  ·obtain⟨e1,e2⟩:=f1 hl
   rw [addV_neg e2,e1]
   rw [decide_eq_true hl]at L
   exact add1_less an ad bn bd _ _ _ _ _ _ _ _ _ _ _ _ w rfl rfl (by simpa using hs) V1 V2 Z i1 i2 i3 i4 T1 T2 u1 u2 u3 L (fun w=>minus1_any _ _ w (by omega) (by omega)) (fun w=>lowest1_any _ _ _ w (by omega) (by omega) hD.1)
  ·obtain⟨e1,e2⟩:=f2 (by omega)
   rw [addV_neg e2,e1]
   rw [decide_eq_false hl]at L
   exact add1_more an ad bn bd _ _ _ _ _ _ _ _ _ _ _ _ w rfl rfl (by simpa using hs) V1 V2 Z i1 i2 i3 i4 T1 T2 u1 u2 u3 L (fun w=>minus1_any _ _ w (by omega) (by omega)) (fun w=>lowest1_any _ _ _ w (by omega) (by omega) hD.1)
theorem Sub2_any(an ad bn bd:Int)(w:World)(hi:I64x4 an ad bn bd):Calls Tryz.prog 145 #[.agg #[.int .i64 an,.int .i64 ad],.agg #[.int .i64 bn,.int .i64 bd]] w fun e w'=>e= .returned (frV (subF an ad bn bd))∧w.Grows w':=by
 obtain⟨i1,i2,i3,i4⟩:=hi
 have N:=Lib.hid (fun w=>Neg2_any bn bd w i3.1 i3.2 i4.1 i4.2)
 by_cases hv:vfrac bn bd=true
 ·have b2:=vfrac_bd hv
  have e0:subF an ad bn bd=addF an ad (-bn) bd:=by unfold subF;rw [if_pos hv]
  have e1:negF bn bd=(-bn,bd,0):=by unfold negF;rw [if_pos hv]
  have A:=Lib.hid (fun w=>Add2_any an ad (-bn) bd w ⟨i1,i2,by unfold I64;omega,i4⟩)
  rw [e1]at N
  rw [e0]
  generalize addF an ad (-bn) bd=r at *
  obtain⟨r1,r2,r3⟩:=r
  clear e0 e1 hv
  unfold frV at N A
  generalize -bn=c at *
  go_enter Tryz.func145,Tryz.ntmps145
  go_wp2_with (first|(go_at_call 142;(with_reducible refine(N.out _).mono ?_);rintro e w' ⟨rfl,bs,dr,rfl⟩)|(go_at_call 144;(with_reducible refine(A.out _).mono ?_);rintro e w' ⟨rfl,bs2,dr2,rfl⟩))
  exact lz10
 ·have e0:subF an ad bn bd=(0,0,1):=by unfold subF;rw [if_neg hv]
  have e1:negF bn bd=(0,0,1):=by unfold negF;rw [if_neg hv]
  rw [e1]at N
  rw [e0]
  clear e0 e1 hv
  unfold frV at N
  go_enter Tryz.func145,Tryz.ntmps145
  go_wp2_with (go_at_call 142;(with_reducible refine(N.out _).mono ?_);rintro e w' ⟨rfl,bs,dr,rfl⟩)
  exact lz10
theorem Sub1_any(an ad bn bd:Int)(w:World)(hi:I64x4 an ad bn bd):Calls Tryz.prog 152 #[.agg #[.int .i64 an,.int .i64 ad],.agg #[.int .i64 bn,.int .i64 bd]] w fun e w'=>e= .returned (frV (subF an ad bn bd))∧w.Grows w':=by
 obtain⟨i1,i2,i3,i4⟩:=hi
 have N:=Lib.hid (fun w=>Neg1_any bn bd w i3.1 i3.2 i4.1 i4.2)
 by_cases hv:vfrac bn bd=true
 ·have b2:=vfrac_bd hv
  have e0:subF an ad bn bd=addF an ad (-bn) bd:=by unfold subF;rw [if_pos hv]
  have e1:negF bn bd=(-bn,bd,0):=by unfold negF;rw [if_pos hv]
  have A:=Lib.hid (fun w=>Add1_any an ad (-bn) bd w ⟨i1,i2,by unfold I64;omega,i4⟩)
  rw [e1]at N
  rw [e0]
  generalize addF an ad (-bn) bd=r at *
  obtain⟨r1,r2,r3⟩:=r
  clear e0 e1 hv
  unfold frV at N A
  generalize -bn=c at *
  go_enter Tryz.func152,Tryz.ntmps152
  go_wp2_with (first|(go_at_call 149;(with_reducible refine(N.out _).mono ?_);rintro e w' ⟨rfl,bs,dr,rfl⟩)|(go_at_call 151;(with_reducible refine(A.out _).mono ?_);rintro e w' ⟨rfl,bs2,dr2,rfl⟩))
  exact lz10
 ·have e0:subF an ad bn bd=(0,0,1):=by unfold subF;rw [if_neg hv]
  have e1:negF bn bd=(0,0,1):=by unfold negF;rw [if_neg hv]
  rw [e1]at N
  rw [e0]
  clear e0 e1 hv
  unfold frV at N
  go_enter Tryz.func152,Tryz.ntmps152
  go_wp2_with (go_at_call 149;(with_reducible refine(N.out _).mono ?_);rintro e w' ⟨rfl,bs,dr,rfl⟩)
  exact lz10
theorem Make2_any(n d:Int)(w:World)(h1:I64 n)(h2:I64 d):Calls Tryz.prog 59 #[.int .i64 n,.int .i64 d] w fun e w'=>e= .returned (frV (mkN n d,mkD n d,mkE n d))∧w.Grows w':=by
 by_cases h0:d=0
 ·subst h0
  exact make2_zero n w
 unfold I64 at h1 h2
 have hg:0<Nat.gcd n.natAbs d.natAbs:=Nat.gcd_pos_of_pos_right _ (by omega)
 have hgd:Nat.gcd n.natAbs d.natAbs≤d.natAbs:=Nat.gcd_le_right _ (by omega)
 have e:(mkN n d,mkD n d,mkE n d)=addV ((decide (n<0)!=decide (d<0))&&(n !=0)) n.natAbs d.natAbs:=by
  have hz:n.natAbs=0∨(decide (n<0)!=decide (d<0))=((decide (n<0)!=decide (d<0))&&(n !=0)):=by
   by_cases hn:n=0
   ·left;omega
   ·right
    have:(n !=0)=true:=by simpa using hn
    rw [this,Bool.and_true]
  rw [←addV_neg hz]
  unfold mkN mkD mkE addV
  rw [if_neg h0,if_neg h0,if_neg h0]
 rw [e]
 have q1:n.natAbs / Nat.gcd n.natAbs d.natAbs≤n.natAbs:=Nat.div_le_self _ _
 have q2:d.natAbs / Nat.gcd n.natAbs d.natAbs≤d.natAbs:=Nat.div_le_self _ _
 refine make2_core n d _ _ (Nat.gcd n.natAbs d.natAbs:Nat) (n.natAbs / Nat.gcd n.natAbs d.natAbs:Nat) (d.natAbs / Nat.gcd n.natAbs d.natAbs:Nat) _ _ _ _ _ _ rfl w rfl rfl (by simpa using h0) (by omega) (by simp;omega) ?_ ?_ (fun w=>size2_any n w h1.1 h1.2) (fun w=>size2_any d w h2.1 h2.2) (fun w=>?_) (fun w=>?_)
 ·rw [abs_nat,quo_u64 (by omega) (by omega) (by omega),ediv_nat]
 ·rw [abs_nat,quo_u64 (by omega) (by omega) (by omega),ediv_nat]
 ·have:=gcd2_any (absI n) (absI d) w (absI_bd n h1.1 h1.2).1 (by have:=absI_bd n h1.1 h1.2;omega) (absI_bd d h2.1 h2.2).1 (by have:=absI_bd d h2.1 h2.2;omega)
  rw [show gcdI (absI n) (absI d)=(Nat.gcd n.natAbs d.natAbs:Nat)by unfold gcdI;rw [absI_toNat,absI_toNat]]at this
  exact Calls.quietD this
 ·have h:=frV_wit ((decide (n<0)!=decide (d<0))&&(n !=0)) (n.natAbs / Nat.gcd n.natAbs d.natAbs) (d.natAbs / Nat.gcd n.natAbs d.natAbs)
  have e1:hiW (n.natAbs / Nat.gcd n.natAbs d.natAbs)=0:=hiW_small (by omega)
  have e2:loW (n.natAbs / Nat.gcd n.natAbs d.natAbs)=((n.natAbs / Nat.gcd n.natAbs d.natAbs:Nat):Int):=loW_small (by omega)
  have e3:hiW (d.natAbs / Nat.gcd n.natAbs d.natAbs)=0:=hiW_small (by omega)
  have e4:loW (d.natAbs / Nat.gcd n.natAbs d.natAbs)=((d.natAbs / Nat.gcd n.natAbs d.natAbs:Nat):Int):=loW_small (by omega)
  rw [e1,e2,e3,e4]at h
  have k:=within2_any ((decide (n<0)!=decide (d<0))&&(n !=0)) 0 ((n.natAbs / Nat.gcd n.natAbs d.natAbs:Nat):Int) 0 ((d.natAbs / Nat.gcd n.natAbs d.natAbs:Nat):Int) w (Int.natCast_nonneg _) (Int.natCast_nonneg _)
  rw [h]at k
  have e5 (b:Bool) (N D:Nat):addV b N D=(if 1000000000000000<N / Nat.gcd N D∨1000000000<D / Nat.gcd N D then(0,0,2)else(if b=true then -((N / Nat.gcd N D:Nat):Int)else(N / Nat.gcd N D:Nat),((D / Nat.gcd N D:Nat):Int),0)):=by
   unfold addV lowN lowD lowE
   split<;>rfl
  rw [e5]
  exact k
def vwV(v:Vw)(y:Value):Value:=.agg #[.int .i64 v.age,.int .i64 v.year,.int .i64 v.children,.int .i64 v.insured,.int .i64 v.worked,.int .i64 v.voluntary,.int .i64 v.service,.int .i64 v.equated,.int .i64 v.raising,.int .i64 v.resident,.int .i64 v.bn,.int .i64 v.bd,y]
structure VwRng(v:Vw):Prop where
 base:I64 v.bn∧I64 v.bd
def Vw.ds(v:Vw):List Int:=[v.insured,v.worked,v.voluntary,v.service,v.equated,v.raising,v.resident]
theorem days_any(v:Vw)(y:Value)(w:World)(hy:∃a n c,y= .slice a n c):Calls Tryz.prog 50 #[vwV v y] w fun r w'=>r= .returned (.agg #[.int .i64 v.insured,.int .i64 v.worked,.int .i64 v.voluntary,.int .i64 v.service,.int .i64 v.equated,.int .i64 v.raising,.int .i64 v.resident])∧w.Grows w':=by
 obtain⟨a,n,c,rfl⟩:=hy
 obtain⟨age,year,children,insured,worked,voluntary,service,equated,raising,resident,bn,bd,years⟩:=v
 show Calls Tryz.prog 50 #[.agg #[.int .i64 age,.int .i64 year,.int .i64 children,.int .i64 insured,.int .i64 worked,.int .i64 voluntary,.int .i64 service,.int .i64 equated,.int .i64 raising,.int .i64 resident,.int .i64 bn,.int .i64 bd,.slice a n c]] w _
 dsimp only
 go_enter Tryz.func50,Tryz.ntmps50
 exact lz28
def Vw.rngB(v:Vw):Bool:=decide (0≤v.age∧v.age≤199∧1900≤v.year∧v.year≤2099∧0≤v.children∧v.children≤99)
def Vw.baseB(v:Vw):Bool:=vfrac v.bn v.bd&&decide (0≤v.bn∧v.bn≤1000000000000*v.bd)
theorem Vw.ok_split(v:Vw):v.ok=(v.rngB&&(v.ds.all daysOk)&&v.baseB&&yearsOk v.years):=by
 unfold Vw.ok Vw.rngB Vw.baseB Vw.ds
 simp [Bool.and_assoc]
theorem ds_bad{v:Vw}{k:Nat}(hk:k<7)(hb:daysOk (v.ds.getD k 0)=false):v.ok=false:=by
 rw [Vw.ok_split]
 have:v.ds.all daysOk=false:=by
  rw [List.all_eq_false]
  refine⟨v.ds.getD k 0, ?_,by rw [hb];simp⟩
  rw [List.getD_eq_getElem?_getD,List.getElem?_eq_getElem (show k<v.ds.length from hk)]
  exact List.getElem_mem _
 rw [this];simp
theorem ds_good{v:Vw}(hg:∀k,k<7→daysOk (v.ds.getD k 0)=true):v.ds.all daysOk=true:=by
 rw [List.all_eq_true]
 intro x hx
 obtain⟨k,hk,rfl⟩:=List.mem_iff_getElem.1 hx
 have:=hg k hk
 rwa [List.getD_eq_getElem?_getD,List.getElem?_eq_getElem hk]at this
theorem rng_bad{v:Vw}(h:¬(0≤v.age∧v.age≤199∧1900≤v.year∧v.year≤2099∧0≤v.children∧v.children≤99)):v.ok=false:=by
 rw [Vw.ok_split]
 unfold Vw.rngB
 rw [decide_eq_false h];simp
theorem vv8_rng(v:Vw)(y:Value)(w:World)(hy:∃a n c,y= .slice a n c)(h:¬(0≤v.age∧v.age≤199∧1900≤v.year∧v.year≤2099∧0≤v.children∧v.children≤99)):(Calls Tryz.prog 21 #[vwV v y] w fun r w'=>r= .returned (.bool v.ok)∧w.Grows w'):=by
 have HF:=Lib.hid (rng_bad h)
 by_cases c1:v.age<0
 ·exact lz24
 by_cases c2:v.age > 199
 ·exact lz24
 by_cases c3:v.year<1900
 ·exact lz24
 by_cases c4:v.year > 2099
 ·exact lz24
 by_cases c5:v.children<0
 ·exact lz24
 have c6:v.children > 99:=by omega
 exact lz24
theorem vv8_in(v:Vw)(y:Value)(w:World)(hr:VwRng v)(hy:YrAt w y v.years)(h:0≤v.age∧v.age≤199∧1900≤v.year∧v.year≤2099∧0≤v.children∧v.children≤99):(Calls Tryz.prog 21 #[vwV v y] w fun r w'=>r= .returned (.bool v.ok)∧w.Grows w'):=by
 have HY:=Lib.hid hy
 have HD:=Lib.hid (fun w a n c=>days_any v (.slice a n c) w ⟨a,n,c,rfl⟩)
 have HB:Hid (∀k,k<7→daysOk (v.ds.getD k 0)=false→v.ok=false):=Lib.hid (fun k hk hb=>ds_bad hk hb)
 have HG:Hid ((∀k,k<7→daysOk (v.ds.getD k 0)=true)→v.ok=(v.baseB&&yearsOk v.years)):=Lib.hid (fun hg=>by
  rw [Vw.ok_split,ds_good hg];unfold Vw.rngB;rw [decide_eq_true h];simp)
 have HI:=Lib.hid hr.base
 have HC:=Lib.hid (fun w=>Compare1_any v.bn v.bd 1000000000000 1 w ⟨hr.base.1,hr.base.2,by unfold I64;omega,by unfold I64;omega⟩)
 have HM:Hid (∀w,Calls Tryz.prog 46 #[.int .i64 1000000000000,.int .i64 1] w fun e w'=>e= .returned (.tuple #[.agg #[.int .i64 1000000000000,.int .i64 1],.int .i64 0])∧w.Grows w'):=Lib.hid (fun w=>by
  have:=MakeFraction_any 1000000000000 1 w (by decide) (by decide) (by decide) (by decide)
  rw [show mkN 1000000000000 1=1000000000000 by decide+kernel,show mkD 1000000000000 1=1 by decide+kernel,show mkE 1000000000000 1=0 by decide+kernel]at this
  exact this)
 have HYR:=Lib.hid (fun w' (hg:w.Grows w')=>amounts_any v.years y w' (HY.out.grows hg))
 obtain⟨-,a,c,rfl,-⟩:=hy
 obtain⟨h1,h2,h3,h4,h5,h6⟩:=h
 clear hr
 unfold vwV at HD ⊢
 go_enter Tryz.func21,Tryz.ntmps21
 go_wp2_with (go_at_call 50;refine(HD.out _ _ _ _).mono ?_;rintro e' w' ⟨rfl,bs,d,rfl⟩)
 obtain⟨W,hW⟩:∃W,((w.alloc (.cells #[.int .i64 v.age,.int .i64 v.year,.int .i64 v.children,.int .i64 v.insured,.int .i64 v.worked,.int .i64 v.voluntary,.int .i64 v.service,.int .i64 v.equated,.int .i64 v.raising,.int .i64 v.resident,.int .i64 v.bn,.int .i64 v.bd,.slice a v.years.length c] 26)).grow bs d).alloc (.cells #[.int .i64 v.insured,.int .i64 v.worked,.int .i64 v.voluntary,.int .i64 v.service,.int .i64 v.equated,.int .i64 v.raising,.int .i64 v.resident] 101)=W:=⟨_,rfl⟩
 have hg:w.Grows W:=by rw [←hW];exact .of_below belB
 have b0:W.cell? ⟨w.heap.size,10,none⟩=some (.int .i64 v.bn):=by rw [←hW];simp [go_sem]
 have b1:W.cell? ⟨w.heap.size,11,none⟩=some (.int .i64 v.bd):=by rw [←hW];simp [go_sem]
 have b2:W.cell? ⟨w.heap.size,12,none⟩=some (.slice a v.years.length c):=by rw [←hW];simp [go_sem]
 have HA:Hid (∀k,k<7→W.cell? ⟨w.heap.size+1+bs.size,k,none⟩=some (.int .i64 (v.ds.getD k 0))):=Lib.hid (fun k hk=>by
  rw [←hW,World.cell?_alloc_at _ _ _ _ (by simp)]
  rcases(show k=0∨k=1∨k=2∨k=3∨k=4∨k=5∨k=6 by omega)with rfl|rfl|rfl|rfl|rfl|rfl|rfl<;>rfl)
 have hsz:w.heap.size<W.heap.size:=by rw [←hW];simp;omega
 rw [hW]
 clear hW
 have HG2:=Lib.hid hg
 clear hg
 go_loopw [4] (fun v4 wr=>∃k:Nat,k≤7∧v4= .int .i64 k∧Hid (∀j,j<k→daysOk (v.ds.getD j 0)=true)∧W=wr) (fun v4 _=>7-(intOf v4).toNat)
 case atStart=>exact⟨0,by omega,rfl,Lib.hid (fun j hj=>by omega),rfl⟩
 case round=>
  obtain⟨k,hk,rfl,hno,rfl⟩:=hrel
  by_cases hlt:k<7
  ·have x0:=HA.out k hlt
   have d1:(k:Int)<7:=by omega
   have HKL:=Lib.hid hlt
   clear hlt
   obtain⟨dk,hdk⟩:∃dk,v.ds.getD k 0=dk:=⟨_,rfl⟩
   rw [hdk]at x0
   have HDK:=Lib.hid hdk
   exact lz15
  ·obtain rfl:k=7:=by omega
   have HF:=Lib.hid (HG.out hno.out)
   unfold Vw.baseB at HF
   obtain⟨q,hq⟩:∃q,vfrac v.bn v.bd=q:=⟨_,rfl⟩
   have HC2:=HC.out
   unfold cmpF frI at HC2
   rw [show vfrac 1000000000000 1=true by decide+kernel,hq,Bool.and_true]at HC2
   rw [hq]at HF
   clear hq
   obtain⟨yb,hyb⟩:∃yb,yearsOk v.years=yb:=⟨_,rfl⟩
   have HYR2:=HYR.out
   rw [hyb]at HYR2 HF
   clear hyb
   have HYR3:=Lib.hid HYR2
   clear HYR2
   cases q with
   |false=>
    simp only [Bool.false_eq_true,if_false]at HC2
    have HC3:=Lib.hid HC2
    clear HC2
    go_wp2_with (first
     |(go_at_call 46;refine(HM.out _).mono ?_;rintro e' w' ⟨rfl,bs2,d2,rfl⟩)
     |(go_at_call 24;refine(HC3.out _).mono ?_;rintro e' w' ⟨rfl,bs3,d3,rfl⟩))
    go_returns
    exact⟨ret_bool (by rw [HF.out];rfl),World.Grows.trans HG2.out (.of_below belB)⟩
   |true=>
    have hcm:cmpI v.bn v.bd 1000000000000 1≤0↔v.bn≤1000000000000*v.bd:=by
     unfold cmpI
     rw [Int.mul_one]
     (repeat' split)<;>omega
    simp only [if_true]at HC2
    generalize cmpI v.bn v.bd 1000000000000 1=cc at HC2 hcm
    have HC3:=Lib.hid HC2
    clear HC2
    have HCM:=Lib.hid hcm
    clear hcm
    by_cases g1:cc≤0
    ·by_cases g2:v.bn≥0
     ·have HF2:Hid (v.ok=yb):=Lib.hid (by rw [HF.out,decide_eq_true ⟨g2,HCM.out.1 g1⟩];rfl)
      go_wp2_with (first
       |(go_at_call 46;refine(HM.out _).mono ?_;rintro e' w' ⟨rfl,bs2,d2,rfl⟩)
       |(go_at_call 24;refine(HC3.out _).mono ?_;rintro e' w' ⟨rfl,bs3,d3,rfl⟩)
       |(go_at_call 56;refine(HYR3.out _ (World.Grows.trans HG2.out (.of_below belB))).mono ?_;rintro e' w' ⟨rfl,rfl⟩))
      go_returns
      exact⟨ret_bool (by rw [HF2.out]),World.Grows.trans HG2.out (.of_below belB)⟩
     ·have HF2:Hid (v.ok=false):=Lib.hid (by rw [HF.out,decide_eq_false (fun h=>g2 h.1)];rfl)
      go_wp2_with (first
       |(go_at_call 46;refine(HM.out _).mono ?_;rintro e' w' ⟨rfl,bs2,d2,rfl⟩)
       |(go_at_call 24;refine(HC3.out _).mono ?_;rintro e' w' ⟨rfl,bs3,d3,rfl⟩))
      go_returns
      exact⟨ret_bool (by rw [HF2.out]),World.Grows.trans HG2.out (.of_below belB)⟩
    ·have HF2:Hid (v.ok=false):=Lib.hid (by rw [HF.out,decide_eq_false (fun h=>g1 (HCM.out.2 h.2))];rfl)
     go_wp2_with (first
      |(go_at_call 46;refine(HM.out _).mono ?_;rintro e' w' ⟨rfl,bs2,d2,rfl⟩)
      |(go_at_call 24;refine(HC3.out _).mono ?_;rintro e' w' ⟨rfl,bs3,d3,rfl⟩))
     go_returns
     exact⟨ret_bool (by rw [HF2.out]),World.Grows.trans HG2.out (.of_below belB)⟩
theorem ValidView8_any(v:Vw)(y:Value)(w:World)(hr:VwRng v)(hy:YrAt w y v.years):(Calls Tryz.prog 21 #[vwV v y] w fun r w'=>r= .returned (.bool v.ok)∧w.Grows w'):=by
 by_cases h:0≤v.age∧v.age≤199∧1900≤v.year∧v.year≤2099∧0≤v.children∧v.children≤99
 ·exact vv8_in v y w hr hy h
 ·obtain⟨-,a,c,rfl,-⟩:=hy
  exact vv8_rng v _ w ⟨_,_,_,rfl⟩ h
theorem vv2_rng(v:Vw)(y:Value)(w:World)(hy:∃a n c,y= .slice a n c)(h:¬(0≤v.age∧v.age≤199∧1900≤v.year∧v.year≤2099∧0≤v.children∧v.children≤99)):(Calls Tryz.prog 20 #[vwV v y] w fun r w'=>r= .returned (.bool v.ok)∧w.Grows w'):=by
 have HF:=Lib.hid (rng_bad h)
 by_cases c1:v.age<0
 ·exact lz25
 by_cases c2:v.age > 199
 ·exact lz25
 by_cases c3:v.year<1900
 ·exact lz25
 by_cases c4:v.year > 2099
 ·exact lz25
 by_cases c5:v.children<0
 ·exact lz25
 have c6:v.children > 99:=by omega
 exact lz25
theorem idx7(x0 x1 x2 x3 x4 x5 x6:Int)(k:Nat)(hk:k<7)(w:World):(Instr.index 101 (.agg #[.int .i64 x0,.int .i64 x1,.int .i64 x2,.int .i64 x3,.int .i64 x4,.int .i64 x5,.int .i64 x6]) (.int .i64 (k:Int))).run Tryz.prog w= .ok (.int .i64 ([x0,x1,x2,x3,x4,x5,x6].getD k 0)) w:=by
 rcases(show k=0∨k=1∨k=2∨k=3∨k=4∨k=5∨k=6 by omega)with rfl|rfl|rfl|rfl|rfl|rfl|rfl<;>simp [Instr.index,go_sem]
theorem base_eq{n d:Int}(h:vfrac n d=true)(hn:0≤n):decide (n≤1000000000000*d)=(decide (n.tdiv d≤1000000000000)&&(decide (n.tdiv d<1000000000000) || decide (n.tmod d=0))):=by
 have hd:0<d:=by have:=vfrac_bd h;omega
 rw [Int.tdiv_eq_ediv_of_nonneg hn,Int.tmod_eq_emod_of_nonneg hn]
 have e:=Int.mul_ediv_add_emod n d
 have r0:=Int.emod_nonneg n (show d≠0 by omega)
 have r1:=Int.emod_lt_of_pos n hd
 generalize n / d=q at *
 generalize n % d=r at *
 by_cases c1:q<1000000000000
 ·have h1:d*q≤d*999999999999:=Int.mul_le_mul_of_nonneg_left (by omega) (by omega)
  rw [decide_eq_true c1,decide_eq_true (show q≤1000000000000 by omega),decide_eq_true (show n≤1000000000000*d by omega)];rfl
 ·rw [decide_eq_false c1,Bool.false_or]
  by_cases c2:q≤1000000000000
  ·obtain rfl:q=1000000000000:=by omega
   rw [decide_eq_true c2,Bool.true_and]
   by_cases c3:r=0
   ·rw [decide_eq_true c3,decide_eq_true (by omega)]
   ·rw [decide_eq_false c3,decide_eq_false (by omega)]
  ·have h1:d*1000000000001≤d*q:=Int.mul_le_mul_of_nonneg_left (by omega) (by omega)
   rw [decide_eq_false c2,Bool.false_and,decide_eq_false (by omega)]
theorem vv2_yrs(v:Vw)(y:Value)(w:World)(hy:YrAt w y v.years)(h:0≤v.age∧v.age≤199∧1900≤v.year∧v.year≤2099∧0≤v.children∧v.children≤99)(hyo:yearsOk v.years=false):(Calls Tryz.prog 20 #[vwV v y] w fun r w'=>r= .returned (.bool v.ok)∧w.Grows w'):=by
 have HF:Hid (v.ok=false):=Lib.hid (by rw [Vw.ok_split,hyo,Bool.and_false])
 have HY:=Lib.hid hy
 have HYR:=Lib.hid (fun w' (hg:w.Grows w')=>validYears_any v.years y w' (HY.out.grows hg))
 rw [hyo]at HYR
 obtain⟨-,a,c,rfl,-⟩:=hy
 obtain⟨h1,h2,h3,h4,h5,h6⟩:=h
 clear hyo
 unfold vwV
 go_enter Tryz.func20,Tryz.ntmps20
 go_wp2_with (go_at_call 54;refine(HYR.out _ (.of_below belB)).mono ?_;rintro e' w' ⟨rfl,bs,d,rfl⟩)
 go_returns
 exact⟨ret_bool HF.out.symm,.of_below belB⟩
theorem vv2_in(v:Vw)(y:Value)(w:World)(hr:VwRng v)(hy:YrAt w y v.years)(h:0≤v.age∧v.age≤199∧1900≤v.year∧v.year≤2099∧0≤v.children∧v.children≤99)(hyo:yearsOk v.years=true):(Calls Tryz.prog 20 #[vwV v y] w fun r w'=>r= .returned (.bool v.ok)∧w.Grows w'):=by
 have HY:=Lib.hid hy
 have HB:Hid (∀k,k<7→daysOk (v.ds.getD k 0)=false→v.ok=false):=Lib.hid (fun k hk hb=>ds_bad hk hb)
 have HG:Hid ((∀k,k<7→daysOk (v.ds.getD k 0)=true)→v.ok=v.baseB):=Lib.hid (fun hg=>by
  rw [Vw.ok_split,ds_good hg,hyo];unfold Vw.rngB;rw [decide_eq_true h];simp)
 have HYR:=Lib.hid (fun w' (hg:w.Grows w')=>validYears_any v.years y w' (HY.out.grows hg))
 rw [hyo]at HYR
 have HV:=Lib.hid (fun w=>Valid2_any v.bn v.bd w hr.base.1.1 hr.base.1.2 hr.base.2.1 hr.base.2.2)
 obtain⟨-,a,c,rfl,-⟩:=hy
 obtain⟨h1,h2,h3,h4,h5,h6⟩:=h
 have HI:=Lib.hid hr.base
 have HIX:=Lib.hid (idx7 v.insured v.worked v.voluntary v.service v.equated v.raising v.resident)
 clear hr hyo
 unfold vwV
 go_enter Tryz.func20,Tryz.ntmps20
 go_wp2_with ((first|(go_at_call 54;refine(HYR.out _ (.of_below (by(repeat' (first|(with_reducible exact Below.refl _ _)|(with_reducible assumption)|(with_reducible refine Below.grow ?_ ?_ _ _)|(with_reducible refine Below.alloc ?_ ?_ _)|(with_reducible refine Below.drewN ?_ _)|(with_reducible refine Below.drew ?_)|(with_reducible refine Below.setCell ?_ ?_ _)|go_size))))).mono ?_;rintro e' w' ⟨rfl,bs,d,rfl⟩)|(go_at_call 55;refine(HV.out _).mono ?_;rintro e' w' ⟨rfl,bs3,d3,rfl⟩)))
 obtain⟨W,hW⟩:∃W,(w.alloc (.cells #[.int .i64 v.age,.int .i64 v.year,.int .i64 v.children,.int .i64 v.insured,.int .i64 v.worked,.int .i64 v.voluntary,.int .i64 v.service,.int .i64 v.equated,.int .i64 v.raising,.int .i64 v.resident,.int .i64 v.bn,.int .i64 v.bd,.slice a v.years.length c] 26)).grow bs d=W:=⟨_,rfl⟩
 have hg:w.Grows W:=by rw [←hW];exact .of_below belB
 have b0:W.cell? ⟨w.heap.size,10,none⟩=some (.int .i64 v.bn):=by rw [←hW];simp [go_sem]
 have b1:W.cell? ⟨w.heap.size,11,none⟩=some (.int .i64 v.bd):=by rw [←hW];simp [go_sem]
 have hsz:w.heap.size<W.heap.size:=by rw [←hW];simp;omega
 rw [hW]
 clear hW
 have HG2:=Lib.hid hg
 clear hg
 go_loopw [54] (fun v54 wr=>∃k:Nat,k≤7∧v54= .int .i64 k∧Hid (∀j,j<k→daysOk (v.ds.getD j 0)=true)∧W=wr) (fun v54 _=>7-(intOf v54).toNat)
 case atStart=>exact⟨0,by omega,rfl,Lib.hid (fun j hj=>by omega),rfl⟩
 case round=>
  obtain⟨k,hk,rfl,hno,rfl⟩:=hrel
  by_cases hlt:k<7
  ·have x0:=HIX.out k hlt W
   have d1:(k:Int)<7:=by omega
   have HKL:=Lib.hid hlt
   clear hlt
   obtain⟨dk,hdk⟩:∃dk,v.ds.getD k 0=dk:=⟨_,rfl⟩
   unfold Vw.ds at hdk
   rw [hdk]at x0
   have HDK:Hid (v.ds.getD k 0=dk):=Lib.hid hdk
   exact lz15
  ·obtain rfl:k=7:=by omega
   have HF:=Lib.hid (HG.out hno.out)
   unfold Vw.baseB at HF
   cases hq:vfrac v.bn v.bd with
   |false=>
    rw [hq]at HF HV
    have HF2:Hid (v.ok=false):=Lib.hid (by rw [HF.out];rfl)
    clear hq
    go_wp2_with ((first|(go_at_call 54;refine(HYR.out _ (.of_below (by(repeat' (first|(with_reducible exact Below.refl _ _)|(with_reducible assumption)|(with_reducible refine Below.grow ?_ ?_ _ _)|(with_reducible refine Below.alloc ?_ ?_ _)|(with_reducible refine Below.drewN ?_ _)|(with_reducible refine Below.drew ?_)|(with_reducible refine Below.setCell ?_ ?_ _)|go_size))))).mono ?_;rintro e' w' ⟨rfl,bs,d,rfl⟩)|(go_at_call 55;refine(HV.out _).mono ?_;rintro e' w' ⟨rfl,bs3,d3,rfl⟩)))
    go_returns
    exact⟨ret_bool (by rw [HF2.out];try exact decide_eq_false (by omega)),World.Grows.trans HG2.out (.of_below belB)⟩
   |true=>
    have HBE:=Lib.hid (fun hn=>base_eq hq hn)
    have hbd:=vfrac_bd hq
    have hd0:v.bd≠0:=by omega
    rw [hq]at HF HV
    clear hq
    by_cases g2:v.bn≥0
    ·have HF3:Hid (v.ok=(decide (v.bn.tdiv v.bd≤1000000000000)&&(decide (v.bn.tdiv v.bd<1000000000000) || decide (v.bn.tmod v.bd=0)))):=Lib.hid (by
      rw [HF.out,←HBE.out g2,Bool.true_and]
      simp [g2])
     have t1:=Int.tdiv_eq_ediv_of_nonneg (b:=v.bd) g2
     have t2:=Int.tmod_eq_emod_of_nonneg (b:=v.bd) g2
     have hb0:v.bn≤1000000000000000:=by omega
     have u1:0≤v.bn / v.bd:=Int.ediv_nonneg g2 (by omega)
     have u2:v.bn / v.bd≤1000000000000000:=Int.le_trans (Int.ediv_le_self v.bd g2) hb0
     have u3:=Int.emod_nonneg v.bn hd0
     have u4:=Int.emod_lt_of_pos v.bn (show 0<v.bd by omega)
     have e1:IntKind.i64.wrap (v.bn.tdiv v.bd)=v.bn.tdiv v.bd:=IntWalk.i64_in _ (by rw [t1];omega)
     have e2:IntKind.i64.wrap (v.bn.tmod v.bd)=v.bn.tmod v.bd:=IntWalk.i64_in _ (by rw [t2];omega)
     have e3:IntKind.i64.wrap (v.bn / v.bd)=v.bn / v.bd:=IntWalk.i64_in _ (by omega)
     have e4:IntKind.i64.wrap (v.bn % v.bd)=v.bn % v.bd:=IntWalk.i64_in _ (by omega)
     rw [t1,t2]at HF3
     by_cases c1:v.bn / v.bd<1000000000000
     ·have c2:v.bn / v.bd≤1000000000000:=by omega
      have HF2:Hid (v.ok=true):=Lib.hid (by rw [HF3.out,decide_eq_true c1,decide_eq_true c2];rfl)
      go_wp2_with ((first|(go_at_call 54;refine(HYR.out _ (.of_below (by(repeat' (first|(with_reducible exact Below.refl _ _)|(with_reducible assumption)|(with_reducible refine Below.grow ?_ ?_ _ _)|(with_reducible refine Below.alloc ?_ ?_ _)|(with_reducible refine Below.drewN ?_ _)|(with_reducible refine Below.drew ?_)|(with_reducible refine Below.setCell ?_ ?_ _)|go_size))))).mono ?_;rintro e' w' ⟨rfl,bs,d,rfl⟩)|(go_at_call 55;refine(HV.out _).mono ?_;rintro e' w' ⟨rfl,bs3,d3,rfl⟩)))
      go_returns
      exact⟨ret_bool (by rw [HF2.out];try exact decide_eq_false (by omega)),World.Grows.trans HG2.out (.of_below belB)⟩
     ·by_cases c2:v.bn / v.bd≤1000000000000
      ·by_cases c3:v.bn % v.bd=0
       focus
        have HF2:Hid (v.ok=true):=Lib.hid (by rw [HF3.out,decide_eq_true c3,decide_eq_true c2,Bool.or_true];rfl)
       rotate_left
       focus
        have c4:(v.bn % v.bd==0)=false:=by simpa using c3
        have HF2:Hid (v.ok=false):=Lib.hid (by rw [HF3.out,decide_eq_false c3,decide_eq_false c1];simp)
       rotate_left
       all_goals
        go_wp2_with ((first|(go_at_call 54;refine(HYR.out _ (.of_below (by(repeat' (first|(with_reducible exact Below.refl _ _)|(with_reducible assumption)|(with_reducible refine Below.grow ?_ ?_ _ _)|(with_reducible refine Below.alloc ?_ ?_ _)|(with_reducible refine Below.drewN ?_ _)|(with_reducible refine Below.drew ?_)|(with_reducible refine Below.setCell ?_ ?_ _)|go_size))))).mono ?_;rintro e' w' ⟨rfl,bs,d,rfl⟩)|(go_at_call 55;refine(HV.out _).mono ?_;rintro e' w' ⟨rfl,bs3,d3,rfl⟩)))
        go_returns
        exact⟨ret_bool (by rw [HF2.out];try exact decide_eq_false (by omega)),World.Grows.trans HG2.out (.of_below belB)⟩
      ·have HF2:Hid (v.ok=false):=Lib.hid (by rw [HF3.out,decide_eq_false c2];rfl)
       go_wp2_with ((first|(go_at_call 54;refine(HYR.out _ (.of_below (by(repeat' (first|(with_reducible exact Below.refl _ _)|(with_reducible assumption)|(with_reducible refine Below.grow ?_ ?_ _ _)|(with_reducible refine Below.alloc ?_ ?_ _)|(with_reducible refine Below.drewN ?_ _)|(with_reducible refine Below.drew ?_)|(with_reducible refine Below.setCell ?_ ?_ _)|go_size))))).mono ?_;rintro e' w' ⟨rfl,bs,d,rfl⟩)|(go_at_call 55;refine(HV.out _).mono ?_;rintro e' w' ⟨rfl,bs3,d3,rfl⟩)))
       go_returns
       exact⟨ret_bool (by rw [HF2.out];try exact decide_eq_false (by omega)),World.Grows.trans HG2.out (.of_below belB)⟩
    ·have HF2:Hid (v.ok=false):=Lib.hid (by rw [HF.out,decide_eq_false (fun h=>g2 h.1)];rfl)
     go_wp2_with ((first|(go_at_call 54;refine(HYR.out _ (.of_below (by(repeat' (first|(with_reducible exact Below.refl _ _)|(with_reducible assumption)|(with_reducible refine Below.grow ?_ ?_ _ _)|(with_reducible refine Below.alloc ?_ ?_ _)|(with_reducible refine Below.drewN ?_ _)|(with_reducible refine Below.drew ?_)|(with_reducible refine Below.setCell ?_ ?_ _)|go_size))))).mono ?_;rintro e' w' ⟨rfl,bs,d,rfl⟩)|(go_at_call 55;refine(HV.out _).mono ?_;rintro e' w' ⟨rfl,bs3,d3,rfl⟩)))
     go_returns
     exact⟨ret_bool (by rw [HF2.out];try exact decide_eq_false (by omega)),World.Grows.trans HG2.out (.of_below belB)⟩
theorem ValidView2_any(v:Vw)(y:Value)(w:World)(hr:VwRng v)(hy:YrAt w y v.years):(Calls Tryz.prog 20 #[vwV v y] w fun r w'=>r= .returned (.bool v.ok)∧w.Grows w'):=by
 by_cases h:0≤v.age∧v.age≤199∧1900≤v.year∧v.year≤2099∧0≤v.children∧v.children≤99
 ·by_cases hyo:yearsOk v.years=true
  ·exact vv2_in v y w hr hy h hyo
  ·exact vv2_yrs v y w hy h (by simpa using hyo)
 ·obtain⟨-,a,c,rfl,-⟩:=hy
  exact vv2_rng v _ w ⟨_,_,_,rfl⟩ h
end Go.Proofs.YtlheailebbngiaaGreatDoor
