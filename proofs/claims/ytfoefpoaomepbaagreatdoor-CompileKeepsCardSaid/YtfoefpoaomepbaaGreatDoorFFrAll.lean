import Derived.Test.YtfoefpoaomepbaaGreatDoorFFrA1
import Derived.Test.YtfoefpoaomepbaaGreatDoorFFrMk
import Derived.Test.YtfoefpoaomepbaaGreatDoorFK
set_option linter.all false
set_option maxHeartbeats 16000000
set_option maxRecDepth 1000000
namespace Go.Proofs.YtfoefpoaomepbaaGreatDoor
open Go.RowKit
theorem abs_nat(n:Int):absI n=((n.natAbs:Nat):Int):=rfl
theorem den_nat{d:Int}(h:1≤d):d=((d.natAbs:Nat):Int):=by omega
theorem Mul2_any(an ad bn bd:Int)(w:World)(hi:I64x4 an ad bn bd):Calls Tryz.prog 141 #[.agg #[.int .i64 an,.int .i64 ad],.agg #[.int .i64 bn,.int .i64 bd]] w fun e w'=>e= .returned (frV (mulF an ad bn bd))∧w.Grows w':=by
 obtain⟨i1,i2,i3,i4⟩:=hi
 have V1:=Lib.hid (fun w=>Valid2_any an ad w i1.1 i1.2 i2.1 i2.2)
 have V2:=Lib.hid (fun w=>Valid2_any bn bd w i3.1 i3.2 i4.1 i4.2)
 by_cases hv:(vfrac an ad&&vfrac bn bd)=true
 case neg=>
  have e:mulF an ad bn bd=(0,0,1):=by unfold mulF;rw [if_neg hv]
  rw [e]
  exact mul2_no an ad bn bd _ _ w (Bool.eq_false_iff.2 hv) V1 V2
 have hva:=(Bool.and_eq_true_iff.1 hv).1
 have hvb:=(Bool.and_eq_true_iff.1 hv).2
 have e:mulF an ad bn bd=prdF (decide (an<0)!=decide (bn<0)) an.natAbs ad.natAbs bn.natAbs bd.natAbs:=by unfold mulF;rw [if_pos hv];try rfl
 rw [e]
 rw [hva]at V1
 rw [hvb]at V2
 have b1:=vfrac_bd hva
 have b2:=vfrac_bd hvb
 obtain⟨neg,hc,hz⟩:=mulCase an bn
 rw [←prdF_zero (b:=neg) hz]
 exact mul2_core an ad bn bd _ _ _ _ _ _ _ neg w rfl rfl rfl rfl hc V1 V2 (fun n h w=>size2_any n w h.1 h.2) i1 i2 i3 i4 (fun w=>quotient2_any neg an.natAbs ad.natAbs bn.natAbs bd.natAbs w (by omega) (by omega) (by omega) (by omega) (by omega) (by omega))
theorem Div2_any(an ad bn bd:Int)(w:World)(hi:I64x4 an ad bn bd):Calls Tryz.prog 142 #[.agg #[.int .i64 an,.int .i64 ad],.agg #[.int .i64 bn,.int .i64 bd]] w fun e w'=>e= .returned (frV (divF an ad bn bd))∧w.Grows w':=by
 obtain⟨i1,i2,i3,i4⟩:=hi
 have V1:=Lib.hid (fun w=>Valid2_any an ad w i1.1 i1.2 i2.1 i2.2)
 have V2:=Lib.hid (fun w=>Valid2_any bn bd w i3.1 i3.2 i4.1 i4.2)
 by_cases hv:(vfrac an ad&&vfrac bn bd)=true
 case neg=>
  have e:divF an ad bn bd=(0,0,1):=by unfold divF;rw [if_neg hv]
  rw [e]
  exact div2_no an ad bn bd _ _ w (Bool.eq_false_iff.2 hv) V1 V2
 have hva:=(Bool.and_eq_true_iff.1 hv).1
 have hvb:=(Bool.and_eq_true_iff.1 hv).2
 have e:divF an ad bn bd=(if bn=0 then(0,0,3)else prdF (decide (an<0)!=decide (bn<0)) an.natAbs ad.natAbs bd.natAbs bn.natAbs):=by unfold divF;rw [if_pos hv];try rfl
 rw [e]
 rw [hva]at V1
 rw [hvb]at V2
 have b1:=vfrac_bd hva
 have b2:=vfrac_bd hvb
 by_cases h0:bn=0
 ·subst h0
  rw [if_pos rfl]
  exact div2_zero an ad bd w V1 V2
 rw [if_neg h0]
 obtain⟨neg,hc,hz⟩:=mulCase an bn
 have hz':an.natAbs=0∨bd.natAbs=0∨neg=(decide (an<0)!=decide (bn<0)):=by
  rcases hz with h|h|h
  ·exact .inl h
  ·omega
  ·exact .inr (.inr h)
 rw [←prdF_zero (b:=neg) hz']
 exact div2_core an ad bn bd _ _ _ _ _ _ _ neg w rfl rfl rfl rfl hc (by simpa using h0) V1 V2 (fun n h w=>size2_any n w h.1 h.2) i1 i2 i3 i4 (fun w=>quotient2_any neg an.natAbs ad.natAbs bd.natAbs bn.natAbs w (by omega) (by omega) (by omega) (by omega) (by omega) (by omega))
theorem Mul1_any(an ad bn bd:Int)(w:World)(hi:I64x4 an ad bn bd):Calls Tryz.prog 116 #[.agg #[.int .i64 an,.int .i64 ad],.agg #[.int .i64 bn,.int .i64 bd]] w fun e w'=>e= .returned (frV (mulF an ad bn bd))∧w.Grows w':=by
 obtain⟨i1,i2,i3,i4⟩:=hi
 have V1:=Lib.hid (fun w=>Valid1_any an ad w i1.1 i1.2 i2.1 i2.2)
 have V2:=Lib.hid (fun w=>Valid1_any bn bd w i3.1 i3.2 i4.1 i4.2)
 by_cases hv:(vfrac an ad&&vfrac bn bd)=true
 case neg=>
  have e:mulF an ad bn bd=(0,0,1):=by unfold mulF;rw [if_neg hv]
  rw [e]
  exact mul1_no an ad bn bd _ _ w (Bool.eq_false_iff.2 hv) V1 V2
 have hva:=(Bool.and_eq_true_iff.1 hv).1
 have hvb:=(Bool.and_eq_true_iff.1 hv).2
 have e:mulF an ad bn bd=prdF (decide (an<0)!=decide (bn<0)) an.natAbs ad.natAbs bn.natAbs bd.natAbs:=by unfold mulF;rw [if_pos hv];try rfl
 rw [e]
 rw [hva]at V1
 rw [hvb]at V2
 have b1:=vfrac_bd hva
 have b2:=vfrac_bd hvb
 refine mul1_core an ad bn bd _ _ _ _ _ w rfl rfl (IntWalk.u64_in _ (by omega)) (IntWalk.u64_in _ (by omega)) V1 V2 (fun n h w=>size1_any n w h.1 h.2) i1 i2 i3 i4 (fun w=>?_)
 have:=product1_any (decide (an<0)!=decide (bn<0)) an.natAbs ad.natAbs bn.natAbs bd.natAbs w (by omega) (by omega) (by omega) (by omega) (by omega) (by omega)
 rw [←den_nat b1.1,←den_nat b2.1]at this
 exact this
theorem Div1_any(an ad bn bd:Int)(w:World)(hi:I64x4 an ad bn bd):Calls Tryz.prog 117 #[.agg #[.int .i64 an,.int .i64 ad],.agg #[.int .i64 bn,.int .i64 bd]] w fun e w'=>e= .returned (frV (divF an ad bn bd))∧w.Grows w':=by
 obtain⟨i1,i2,i3,i4⟩:=hi
 have V1:=Lib.hid (fun w=>Valid1_any an ad w i1.1 i1.2 i2.1 i2.2)
 have V2:=Lib.hid (fun w=>Valid1_any bn bd w i3.1 i3.2 i4.1 i4.2)
 by_cases hv:(vfrac an ad&&vfrac bn bd)=true
 case neg=>
  have e:divF an ad bn bd=(0,0,1):=by unfold divF;rw [if_neg hv]
  rw [e]
  exact div1_no an ad bn bd _ _ w (Bool.eq_false_iff.2 hv) V1 V2
 have hva:=(Bool.and_eq_true_iff.1 hv).1
 have hvb:=(Bool.and_eq_true_iff.1 hv).2
 have e:divF an ad bn bd=(if bn=0 then(0,0,3)else prdF (decide (an<0)!=decide (bn<0)) an.natAbs ad.natAbs bd.natAbs bn.natAbs):=by unfold divF;rw [if_pos hv];try rfl
 rw [e]
 rw [hva]at V1
 rw [hvb]at V2
 have b1:=vfrac_bd hva
 have b2:=vfrac_bd hvb
 by_cases h0:bn=0
 ·subst h0
  rw [if_pos rfl]
  exact div1_zero an ad bd w V1 V2
 rw [if_neg h0]
 refine div1_core an ad bn bd _ _ _ _ _ w rfl rfl (IntWalk.u64_in _ (by omega)) (IntWalk.u64_in _ (by omega)) (by simpa using h0) V1 V2 (fun n h w=>size1_any n w h.1 h.2) i1 i2 i3 i4 (fun w=>?_)
 have:=product1_any (decide (an<0)!=decide (bn<0)) an.natAbs ad.natAbs bd.natAbs bn.natAbs w (by omega) (by omega) (by omega) (by omega) (by omega) (by omega)
 rw [←den_nat b1.1,←den_nat b2.1]at this
 exact this
theorem cross_bd{an bd:Int}(h1:-1000000000000000≤an)(h2:an≤1000000000000000)(h3:1≤bd)(h4:bd≤1000000000):an.natAbs*bd.natAbs≤1000000000000000000000000:=
 Nat.le_trans (Nat.mul_le_mul (show an.natAbs≤1000000000000000 by omega) (show bd.natAbs≤1000000000 by omega)) (by decide)
theorem dens_bd{ad bd:Int}(h1:1≤ad)(h2:ad≤1000000000)(h3:1≤bd)(h4:bd≤1000000000):0<ad.natAbs*bd.natAbs∧ad.natAbs*bd.natAbs≤1000000000000000000:=
 ⟨Nat.mul_pos (by omega) (by omega),Nat.le_trans (Nat.mul_le_mul (show ad.natAbs≤1000000000 by omega) (show bd.natAbs≤1000000000 by omega)) (by decide)⟩
theorem hiW_small{n:Nat}(h:n<18446744073709551616):hiW n=0:=by unfold hiW;omega
theorem loW_small{n:Nat}(h:n<18446744073709551616):loW n=(n:Int):=by unfold loW;omega
def addV(neg:Bool)(N D:Nat):Int × Int × Int:=(lowN neg N D,lowD N D,lowE N D)
theorem addV_neg{b c:Bool}{N D:Nat}(h:N=0∨b=c):addV b N D=addV c N D:=by unfold addV;rw [lowN_neg h]
theorem low_wit(neg:Bool)(N D:Nat)(hD:D≤1000000000000000000):witV neg (hiW (N / Nat.gcd N D)) (loW (N / Nat.gcd N D)) 0 ((D / Nat.gcd N D:Nat):Int)=frV (addV neg N D):=by
 have h:=frV_wit neg (N / Nat.gcd N D) (D / Nat.gcd N D)
 have h2:D / Nat.gcd N D≤D:=Nat.div_le_self _ _
 have e1:hiW (D / Nat.gcd N D)=0:=hiW_small (by omega)
 have e2:loW (D / Nat.gcd N D)=((D / Nat.gcd N D:Nat):Int):=loW_small (by omega)
 rw [e1,e2]at h
 rw [h]
 unfold addV lowN lowD lowE
 split<;>rfl
theorem den_wrap{ad bd:Int}{D:Nat}(h:ad.natAbs*bd.natAbs=D)(hD:D≤1000000000000000000):IntKind.u64.wrap (absI ad*absI bd)=(D:Int):=by
 have e:absI ad*absI bd=(D:Int):=by rw [abs_nat,abs_nat,←Int.natCast_mul,h]
 rw [e];exact IntWalk.u64_in _ (by omega)
theorem rest2(neg:Bool)(N D:Nat)(hN:N≤1000000000000000000000000000)(hD0:0<D)(hD:D≤1000000000000000000) :
 (hiW N=0→loW N=0→addV neg N D=(0,1,0))∧
 (∀w,Calls Tryz.prog 183 #[.bool neg,.agg #[.int .u64 (hiW (N / Nat.gcd N D)),.int .u64 (loW (N / Nat.gcd N D))],.agg #[.int .u64 0,.int .u64 (D / Nat.gcd N D:Nat)]] w fun e w'=>e= .returned (frV (addV neg N D))∧w.Grows w')∧
 (∀w,Calls Tryz.prog 184 #[.agg #[.int .u64 (hiW N),.int .u64 (loW N)],.int .u64 (Nat.gcd N D:Nat)] w fun e w'=>e= .returned (.agg #[.int .u64 (hiW (N / Nat.gcd N D)),.int .u64 (loW (N / Nat.gcd N D))])∧w.Grows w')∧
 (∀w,Calls Tryz.prog 182 #[.int .u64 (hiW N),.int .u64 (loW N),.int .u64 (D:Nat)] w fun e w'=>e= .returned (.int .u64 (remI N D))∧w.Grows w')∧
 (∀w,Calls Tryz.prog 181 #[.int .u64 (D:Nat),.int .u64 (remI N D)] w fun e w'=>e= .returned (.int .u64 (Nat.gcd N D:Nat))∧w.Grows w'):=by
 have hg:0<Nat.gcd N D:=Nat.gcd_pos_of_pos_right _ hD0
 have hgd:Nat.gcd N D≤D:=Nat.gcd_le_right _ hD0
 have hr:=remI_bd N D hD0
 refine⟨fun h1 h2=>?_,fun w=>?_,fun w=>?_,fun w=>?_,fun w=>?_⟩
 ·have:N=0:=by unfold hiW at h1;unfold loW at h2;omega
  subst this
  unfold addV lowN lowD lowE
  rw [Nat.gcd_zero_left,Nat.div_self hD0,Nat.zero_div]
  simp
 ·rw [←low_wit neg N D hD]
  exact within2_any _ _ _ _ _ w (loW_bd _).1 (Int.natCast_nonneg _)
 ·exact over2_any N (Nat.gcd N D) w (by omega) (by omega) hg
 ·exact Rem64_any N D w (by omega) (by omega) hD0
 ·have:=gcd2_any (D:Nat) (remI N D) w (by omega) (by omega) (by omega) (by omega)
  rw [gcd_rest N D hD0]at this
  exact Calls.quietD this
theorem Add2_any(an ad bn bd:Int)(w:World)(hi:I64x4 an ad bn bd):Calls Tryz.prog 139 #[.agg #[.int .i64 an,.int .i64 ad],.agg #[.int .i64 bn,.int .i64 bd]] w fun e w'=>e= .returned (frV (addF an ad bn bd))∧w.Grows w':=by
 obtain⟨i1,i2,i3,i4⟩:=hi
 have V1:=Lib.hid (fun w=>Valid2_any an ad w i1.1 i1.2 i2.1 i2.2)
 have V2:=Lib.hid (fun w=>Valid2_any bn bd w i3.1 i3.2 i4.1 i4.2)
 by_cases hv:(vfrac an ad&&vfrac bn bd)=true
 case neg=>
  have e:addF an ad bn bd=(0,0,1):=by unfold addF;rw [if_neg hv]
  rw [e]
  exact add2_no an ad bn bd _ _ w (Bool.eq_false_iff.2 hv) V1 V2
 have hva:=(Bool.and_eq_true_iff.1 hv).1
 have hvb:=(Bool.and_eq_true_iff.1 hv).2
 have e:addF an ad bn bd=addV (decide (addS an ad bn bd<0)) (addS an ad bn bd).natAbs (ad.natAbs*bd.natAbs):=by unfold addF;rw [if_pos hv];try rfl
 rw [e]
 rw [hva]at V1
 rw [hvb]at V2
 have b1:=vfrac_bd hva
 have b2:=vfrac_bd hvb
 have hD:=dens_bd b1.1 b1.2.1 b2.1 b2.2.1
 have c1:=cross_bd (an:=an) (bd:=bd) b1.2.2.1 b1.2.2.2 b2.1 b2.2.1
 have c2:=cross_bd (an:=bn) (bd:=ad) b2.2.2.1 b2.2.2.2 b1.1 b1.2.1
 have Z:Hid _:=Lib.hid (fun n (h:I64 n) w=>size2_any n w h.1 h.2)
 have T1:Hid _:=Lib.hid (fun w=>times_abs times2_any i1 i4 w)
 have T2:Hid _:=Lib.hid (fun w=>times_abs times2_any i3 i2 w)
 have hg (N:Nat):0<Nat.gcd N (ad.natAbs*bd.natAbs)∧Nat.gcd N (ad.natAbs*bd.natAbs)≤ad.natAbs*bd.natAbs:=⟨Nat.gcd_pos_of_pos_right _ hD.1,Nat.gcd_le_right _ hD.1⟩
 have hq (N:Nat):IntKind.u64.wrap ((((ad.natAbs*bd.natAbs:Nat):Int)).tdiv (Nat.gcd N (ad.natAbs*bd.natAbs):Nat))=((ad.natAbs*bd.natAbs / Nat.gcd N (ad.natAbs*bd.natAbs):Nat):Int):=by
  have:=(hg N).1
  rw [quo_u64 (by omega) (by omega) (by omega),ediv_nat]
 have key (neg:Bool) (N:Nat) (hN:N≤2000000000000000000000000):=rest2 neg N (ad.natAbs*bd.natAbs) (by omega) hD.1 hD.2
 have tr {a b:Int × Int × Int} (h:a=b):a.1=b.1∧a.2.1=b.2.1∧a.2.2=b.2.2:=by rw [h];exact⟨rfl,rfl,rfl⟩
 by_cases hs:decide (an<0)=decide (bn<0)
 ·obtain⟨e1,e2⟩:=add_same b1.1 b2.1 hs
  rw [addV_neg e2,e1]
  obtain⟨k1,k2,k3,k4,k5⟩:=key (decide (an<0)) (an.natAbs*bd.natAbs+bn.natAbs*ad.natAbs) (by omega)
  have g1:=hg (an.natAbs*bd.natAbs+bn.natAbs*ad.natAbs)
  exact add2_same an ad bn bd _ _ _ _ _ _ _ _ _ _ _ _ _ _ _ _ _ w rfl rfl (by rw [hs];simp) V1 V2 Z i1 i2 i3 i4 T1 T2 (den_wrap rfl hD.2) (by omega) (by simp;omega) (hq _)
   (fun w=>plus2_any _ _ w (by omega)) (fun h1 h2=>tr (k1 h1 h2)) (fun _=>⟨k2,k3,k4,k5⟩)
 ·obtain⟨f1,f2⟩:=add_diff b1.1 b2.1 hs
  have L:=fun w=>less2_any (hiW (an.natAbs*bd.natAbs)) (loW (an.natAbs*bd.natAbs)) (hiW (bn.natAbs*ad.natAbs)) (loW (bn.natAbs*ad.natAbs)) w
  rw [wless_nat]at L
  by_cases hl:an.natAbs*bd.natAbs<bn.natAbs*ad.natAbs
  ·obtain⟨e1,e2⟩:=f1 hl
   rw [addV_neg e2,e1]
   rw [decide_eq_true hl]at L
   obtain⟨k1,k2,k3,k4,k5⟩:=key (!decide (an<0)) (bn.natAbs*ad.natAbs-an.natAbs*bd.natAbs) (by omega)
   have hnn:decide (bn<0)=!decide (an<0):=by
    revert hs;cases decide (an<0)<;>cases decide (bn<0)<;>simp
   have g1:=hg (bn.natAbs*ad.natAbs-an.natAbs*bd.natAbs)
   rw [hnn]
   exact add2_less an ad bn bd _ _ _ _ _ _ _ _ _ _ _ _ _ _ _ _ _ w rfl rfl (by simpa using hs) V1 V2 Z i1 i2 i3 i4 T1 T2 (den_wrap rfl hD.2) (by omega) (by simp;omega) (hq _)
    L (fun w=>minus2_any _ _ w (by omega) (by omega)) (fun h1 h2=>tr (k1 h1 h2)) (fun _=>⟨k2,k3,k4,k5⟩)
  ·obtain⟨e1,e2⟩:=f2 (by omega)
   rw [addV_neg e2,e1]
   rw [decide_eq_false hl]at L
   obtain⟨k1,k2,k3,k4,k5⟩:=key (decide (an<0)) (an.natAbs*bd.natAbs-bn.natAbs*ad.natAbs) (by omega)
   have g1:=hg (an.natAbs*bd.natAbs-bn.natAbs*ad.natAbs)
   exact add2_more an ad bn bd _ _ _ _ _ _ _ _ _ _ _ _ _ _ _ _ _ w rfl rfl (by simpa using hs) V1 V2 Z i1 i2 i3 i4 T1 T2 (den_wrap rfl hD.2) (by omega) (by simp;omega) (hq _)
    L (fun w=>minus2_any _ _ w (by omega) (by omega)) (fun h1 h2=>tr (k1 h1 h2)) (fun _=>⟨k2,k3,k4,k5⟩)
theorem Add1_any(an ad bn bd:Int)(w:World)(hi:I64x4 an ad bn bd):Calls Tryz.prog 114 #[.agg #[.int .i64 an,.int .i64 ad],.agg #[.int .i64 bn,.int .i64 bd]] w fun e w'=>e= .returned (frV (addF an ad bn bd))∧w.Grows w':=by
 obtain⟨i1,i2,i3,i4⟩:=hi
 have V1:=Lib.hid (fun w=>Valid1_any an ad w i1.1 i1.2 i2.1 i2.2)
 have V2:=Lib.hid (fun w=>Valid1_any bn bd w i3.1 i3.2 i4.1 i4.2)
 by_cases hv:(vfrac an ad&&vfrac bn bd)=true
 case neg=>
  have e:addF an ad bn bd=(0,0,1):=by unfold addF;rw [if_neg hv]
  rw [e]
  exact add1_no an ad bn bd _ _ w (Bool.eq_false_iff.2 hv) V1 V2
 have hva:=(Bool.and_eq_true_iff.1 hv).1
 have hvb:=(Bool.and_eq_true_iff.1 hv).2
 have e:addF an ad bn bd=addV (decide (addS an ad bn bd<0)) (addS an ad bn bd).natAbs (ad.natAbs*bd.natAbs):=by unfold addF;rw [if_pos hv];try rfl
 rw [e]
 rw [hva]at V1
 rw [hvb]at V2
 have b1:=vfrac_bd hva
 have b2:=vfrac_bd hvb
 have hD:=dens_bd b1.1 b1.2.1 b2.1 b2.2.1
 have c1:=cross_bd (an:=an) (bd:=bd) b1.2.2.1 b1.2.2.2 b2.1 b2.2.1
 have c2:=cross_bd (an:=bn) (bd:=ad) b2.2.2.1 b2.2.2.2 b1.1 b1.2.1
 have Z:Hid _:=Lib.hid (fun n (h:I64 n) w=>size1_any n w h.1 h.2)
 have T1:Hid _:=Lib.hid (fun w=>times_nn times1_any i1 (b:=bd) (by omega) (by omega) w)
 have T2:Hid _:=Lib.hid (fun w=>times_nn times1_any i3 (b:=ad) (by omega) (by omega) w)
 have u1:IntKind.u64.wrap ad=ad:=IntWalk.u64_in _ (by omega)
 have u2:IntKind.u64.wrap bd=bd:=IntWalk.u64_in _ (by omega)
 have u3:IntKind.u64.wrap (ad*bd)=((ad.natAbs*bd.natAbs:Nat):Int):=by
  have e:ad*bd=((ad.natAbs*bd.natAbs:Nat):Int):=by rw [Int.natCast_mul,←den_nat b1.1,←den_nat b2.1]
  rw [e];exact IntWalk.u64_in _ (by omega)
 by_cases hs:decide (an<0)=decide (bn<0)
 ·obtain⟨e1,e2⟩:=add_same b1.1 b2.1 hs
  rw [addV_neg e2,e1]
  exact add1_same an ad bn bd _ _ _ _ _ _ _ _ _ _ _ w rfl hs.symm V1 V2 Z i1 i2 i3 i4 T1 T2 u1 u2 u3 (fun w=>plus1_any _ _ w (by omega)) (fun w=>lowest1_any _ _ _ w (by omega) (by omega) hD.1)
 ·obtain⟨f1,f2⟩:=add_diff b1.1 b2.1 hs
  have L:=fun w=>less1_any (hiW (an.natAbs*bd.natAbs)) (loW (an.natAbs*bd.natAbs)) (hiW (bn.natAbs*ad.natAbs)) (loW (bn.natAbs*ad.natAbs)) w
  rw [wless_nat]at L
  by_cases hl:an.natAbs*bd.natAbs<bn.natAbs*ad.natAbs
  ·obtain⟨e1,e2⟩:=f1 hl
   rw [addV_neg e2,e1]
   rw [decide_eq_true hl]at L
   exact add1_less an ad bn bd _ _ _ _ _ _ _ _ _ _ _ _ w rfl rfl (by simpa using hs) V1 V2 Z i1 i2 i3 i4 T1 T2 u1 u2 u3 L (fun w=>minus1_any _ _ w (by omega) (by omega)) (fun w=>lowest1_any _ _ _ w (by omega) (by omega) hD.1)
  ·obtain⟨e1,e2⟩:=f2 (by omega)
   rw [addV_neg e2,e1]
   rw [decide_eq_false hl]at L
   exact add1_more an ad bn bd _ _ _ _ _ _ _ _ _ _ _ _ w rfl rfl (by simpa using hs) V1 V2 Z i1 i2 i3 i4 T1 T2 u1 u2 u3 L (fun w=>minus1_any _ _ w (by omega) (by omega)) (fun w=>lowest1_any _ _ _ w (by omega) (by omega) hD.1)
theorem Sub2_any(an ad bn bd:Int)(w:World)(hi:I64x4 an ad bn bd):Calls Tryz.prog 140 #[.agg #[.int .i64 an,.int .i64 ad],.agg #[.int .i64 bn,.int .i64 bd]] w fun e w'=>e= .returned (frV (subF an ad bn bd))∧w.Grows w':=by
 obtain⟨i1,i2,i3,i4⟩:=hi
 have N:=Lib.hid (fun w=>Neg2_any bn bd w i3.1 i3.2 i4.1 i4.2)
 by_cases hv:vfrac bn bd=true
 ·have b2:=vfrac_bd hv
  have e0:subF an ad bn bd=addF an ad (-bn) bd:=by unfold subF;rw [if_pos hv]
  have e1:negF bn bd=(-bn,bd,0):=by unfold negF;rw [if_pos hv]
  have A:=Lib.hid (fun w=>Add2_any an ad (-bn) bd w ⟨i1,i2,by unfold I64;omega,i4⟩)
  rw [e1]at N
  rw [e0]
  generalize addF an ad (-bn) bd=r at *
  obtain⟨r1,r2,r3⟩:=r
  clear e0 e1 hv
  unfold frV at N A
  generalize -bn=c at *
  go_enter Tryz.func140,Tryz.ntmps140
  go_wp2_with (first|(go_at_call 137;(with_reducible refine(N.out _).mono ?_);rintro e w' ⟨rfl,bs,dr,rfl⟩)|(go_at_call 139;(with_reducible refine(A.out _).mono ?_);rintro e w' ⟨rfl,bs2,dr2,rfl⟩))
  exact fz17
 ·have e0:subF an ad bn bd=(0,0,1):=by unfold subF;rw [if_neg hv]
  have e1:negF bn bd=(0,0,1):=by unfold negF;rw [if_neg hv]
  rw [e1]at N
  rw [e0]
  clear e0 e1 hv
  unfold frV at N
  go_enter Tryz.func140,Tryz.ntmps140
  go_wp2_with (go_at_call 137;(with_reducible refine(N.out _).mono ?_);rintro e w' ⟨rfl,bs,dr,rfl⟩)
  exact fz17
theorem Sub1_any(an ad bn bd:Int)(w:World)(hi:I64x4 an ad bn bd):Calls Tryz.prog 115 #[.agg #[.int .i64 an,.int .i64 ad],.agg #[.int .i64 bn,.int .i64 bd]] w fun e w'=>e= .returned (frV (subF an ad bn bd))∧w.Grows w':=by
 obtain⟨i1,i2,i3,i4⟩:=hi
 have N:=Lib.hid (fun w=>Neg1_any bn bd w i3.1 i3.2 i4.1 i4.2)
 by_cases hv:vfrac bn bd=true
 ·have b2:=vfrac_bd hv
  have e0:subF an ad bn bd=addF an ad (-bn) bd:=by unfold subF;rw [if_pos hv]
  have e1:negF bn bd=(-bn,bd,0):=by unfold negF;rw [if_pos hv]
  have A:=Lib.hid (fun w=>Add1_any an ad (-bn) bd w ⟨i1,i2,by unfold I64;omega,i4⟩)
  rw [e1]at N
  rw [e0]
  generalize addF an ad (-bn) bd=r at *
  obtain⟨r1,r2,r3⟩:=r
  clear e0 e1 hv
  unfold frV at N A
  generalize -bn=c at *
  go_enter Tryz.func115,Tryz.ntmps115
  go_wp2_with (first|(go_at_call 112;(with_reducible refine(N.out _).mono ?_);rintro e w' ⟨rfl,bs,dr,rfl⟩)|(go_at_call 114;(with_reducible refine(A.out _).mono ?_);rintro e w' ⟨rfl,bs2,dr2,rfl⟩))
  exact fz17
 ·have e0:subF an ad bn bd=(0,0,1):=by unfold subF;rw [if_neg hv]
  have e1:negF bn bd=(0,0,1):=by unfold negF;rw [if_neg hv]
  rw [e1]at N
  rw [e0]
  clear e0 e1 hv
  unfold frV at N
  go_enter Tryz.func115,Tryz.ntmps115
  go_wp2_with (go_at_call 112;(with_reducible refine(N.out _).mono ?_);rintro e w' ⟨rfl,bs,dr,rfl⟩)
  exact fz17
def vwV(v:Vw)(y:Value):Value:=.agg #[.int .i64 v.age,.int .i64 v.year,.int .i64 v.children,.int .i64 v.insured,.int .i64 v.worked,.int .i64 v.voluntary,.int .i64 v.service,.int .i64 v.equated,.int .i64 v.raising,.int .i64 v.resident,.int .i64 v.bn,.int .i64 v.bd,y]
structure VwRng(v:Vw):Prop where
 base:I64 v.bn∧I64 v.bd
def Vw.ds(v:Vw):List Int:=[v.insured,v.worked,v.voluntary,v.service,v.equated,v.raising,v.resident]
theorem days_any(v:Vw)(y:Value)(w:World)(hy:∃a n c,y= .slice a n c):Calls Tryz.prog 94 #[vwV v y] w fun r w'=>r= .returned (.agg #[.int .i64 v.insured,.int .i64 v.worked,.int .i64 v.voluntary,.int .i64 v.service,.int .i64 v.equated,.int .i64 v.raising,.int .i64 v.resident])∧w.Grows w':=by
 obtain⟨a,n,c,rfl⟩:=hy
 obtain⟨age,year,children,insured,worked,voluntary,service,equated,raising,resident,bn,bd,years⟩:=v
 show Calls Tryz.prog 94 #[.agg #[.int .i64 age,.int .i64 year,.int .i64 children,.int .i64 insured,.int .i64 worked,.int .i64 voluntary,.int .i64 service,.int .i64 equated,.int .i64 raising,.int .i64 resident,.int .i64 bn,.int .i64 bd,.slice a n c]] w _
 dsimp only
 go_enter Tryz.func94,Tryz.ntmps94
 go_wp2_with fail
 exact fz17
end Go.Proofs.YtfoefpoaomepbaaGreatDoor
