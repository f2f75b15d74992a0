import Derived.Test.YteildlpchhlchaaGreatDoorRFrPd
import Derived.Test.YteildlpchhlchaaGreatDoorRCodM
set_option linter.all false
set_option maxHeartbeats 16000000
set_option maxRecDepth 1000000
namespace Go.Proofs.YteildlpchhlchaaGreatDoor
open Tryz List
open Go.RowKit
theorem El(n d a b g p q n1 n2 n3:Int)(s t neg:Bool)(hneg:((s !=t)&&(n !=0))=neg)(w:World)(h1:decide (n<0)=s)(h2:decide (d<0)=t)(d0:(d==0)=false)(g1:1<=g)(g0:(g==0)=false)(e1:IntKind.u64.wrap (a.tdiv g)=p)(e2:IntKind.u64.wrap (b.tdiv g)=q)
 (Z1:Hid (∀w,Calls prog 177 #[.int .i64 n] w fun e w'=>e= .returned (.int .u64 a)/\w=w'))
 (Z2:Hid (∀w,Calls prog 177 #[.int .i64 d] w fun e w'=>e= .returned (.int .u64 b)/\w=w'))
 (G:Hid (∀w,Calls prog 176 #[.int .u64 a,.int .u64 b] w fun e w'=>e= .returned (.int .u64 g)/\w.Grows w'))
 (Q:Hid (∀w,Calls prog 181 #[.bool neg,.agg #[.int .u64 0,.int .u64 p],.agg #[.int .u64 0,.int .u64 q]] w fun e w'=>e= .returned (.tuple #[.agg #[.int .i64 n1,.int .i64 n2],.int .i64 n3])/\w.Grows w'))
 :Calls prog 132 #[.int .i64 n,.int .i64 d] w fun e w'=>e= .returned (.tuple #[.agg #[.int .i64 n1,.int .i64 n2],.int .i64 n3])/\w.Grows w':=by
 by_cases c:n=0
 ·subst c;cases s
  ·obtain rfl:neg=false:=by rw [<-hneg];cases t<;>rfl
   clear hneg;cases t
   focus
    go_enter func132,ntmps132
    go_wp2_with (first|(go_at_call 177;(with_reducible refine gw (Z1.out _) ?_);clear Z1)|(go_at_call 177;(with_reducible refine gw (Z2.out _) ?_);clear Z2)|(go_at_call 176;(with_reducible refine gvq (G.out _) ?_);intro bs dr;clear G))
    have gz:¬g=0:=by omega
    refine TS.begin [20,21] (World.Grows _) zd zd aO (fun hS=>?_);refine kq 0 hS ?_;refine kq 1 hS ?_;refine kq 2 hS ?_;refine kq 3 hS ?_;refine kq 4 hS ?_;refine kq 5 hS ?_;refine TS.take (i:=6) (v:=undef) rfl zd zd zd zf (fun _ _ _ h=>h) (.inl ⟨rfl,rfl⟩) hS ?_
    (try simp only [nS])
    refine TS.take (i:=7) (v:=undef) rfl zd zd zd zf (fun _ _ _ h=>h) (.inl ⟨rfl,rfl⟩) hS ?_
    (try simp only [nS])
   rotate_left
   focus
    go_enter func132,ntmps132
    go_wp2_with (first|(go_at_call 177;(with_reducible refine gw (Z1.out _) ?_);clear Z1)|(go_at_call 177;(with_reducible refine gw (Z2.out _) ?_);clear Z2)|(go_at_call 176;(with_reducible refine gvq (G.out _) ?_);intro bs dr;clear G))
    have gz:¬g=0:=by omega
    refine TS.begin [20,21] (World.Grows _) zd zd aO (fun hS=>?_);refine kq 0 hS ?_;refine kq 1 hS ?_;refine kq 2 hS ?_;refine kq 3 hS ?_;refine kq 4 hS ?_;refine kq 5 hS ?_;refine kq 6 hS ?_;refine kq 7 hS ?_
   rotate_left
   all_goals
    refine kq 8 hS ?_;refine kq 9 hS ?_;refine kq 10 hS ?_;refine TS.takeV (i:=11) (v:=.int .u64 (p)) rfl zd zd zd zf (fun _ _ _ h=>h) rfl hS ?_ ?_
    focus
     rintro wS ⟨gbS,gdS,rfl⟩
     go_simp
     (try exact e1)
    (try simp only [nS])
    refine kq 12 hS ?_;refine kq 13 hS ?_;refine kq 14 hS ?_;refine TS.takeV (i:=15) (v:=.int .u64 (q)) rfl zd zd zd zf (fun _ _ _ h=>h) rfl hS ?_ ?_
    focus
     rintro wS ⟨gbS,gdS,rfl⟩
     go_simp
     (try exact e2)
    (try simp only [nS])
    refine kq 16 hS ?_;refine TS.one (i:=17) zd rfl (fun K1 hK1=>?_)
    go_simp
    go_at_call 181
    refine gvq (Q.out _) ?_;intro bA dA;refine TS.go hK1 zp (fun hS=>?_);clear hK1 K1
    (try simp only [nS])
    refine kq 18 hS ?_;refine kq 19 hS ?_;refine TS.wtB 20 ?_;refine TS.weB 21 ?_;clear hS
    go_wp2_with fail
    go_returns
    exact⟨rfl,.of_below au⟩
  ·exact absurd h1 zf
 ·have c1:(n !=0)=true:=by simpa using c
  have c2:(n==0)=false:=by simpa using c
  rw [c1,Bool.and_true]at hneg;subst hneg;cases s<;>cases t
  focus
   go_enter func132,ntmps132
   go_wp2_with (first|(go_at_call 177;(with_reducible refine gw (Z1.out _) ?_);clear Z1)|(go_at_call 177;(with_reducible refine gw (Z2.out _) ?_);clear Z2)|(go_at_call 176;(with_reducible refine gvq (G.out _) ?_);intro bs dr;clear G))
   have gz:¬g=0:=by omega
   refine TS.begin [20,21] (World.Grows _) zd zd aO (fun hS=>?_);refine kq 0 hS ?_;refine kq 1 hS ?_;refine kq 2 hS ?_;refine kq 3 hS ?_;refine kq 4 hS ?_;refine kq 5 hS ?_;refine TS.take (i:=6) (v:=undef) rfl zd zd zd zf (fun _ _ _ h=>h) (.inl ⟨rfl,rfl⟩) hS ?_
   (try simp only [nS])
   refine TS.take (i:=7) (v:=undef) rfl zd zd zd zf (fun _ _ _ h=>h) (.inl ⟨rfl,rfl⟩) hS ?_
   (try simp only [nS])
  rotate_left
  focus
   go_enter func132,ntmps132
   go_wp2_with (first|(go_at_call 177;(with_reducible refine gw (Z1.out _) ?_);clear Z1)|(go_at_call 177;(with_reducible refine gw (Z2.out _) ?_);clear Z2)|(go_at_call 176;(with_reducible refine gvq (G.out _) ?_);intro bs dr;clear G))
   have gz:¬g=0:=by omega
   refine TS.begin [20,21] (World.Grows _) zd zd aO (fun hS=>?_);refine kq 0 hS ?_;refine kq 1 hS ?_;refine kq 2 hS ?_;refine kq 3 hS ?_;refine kq 4 hS ?_;refine kq 5 hS ?_;refine kq 6 hS ?_;refine kq 7 hS ?_
  rotate_left
  focus
   go_enter func132,ntmps132
   go_wp2_with (first|(go_at_call 177;(with_reducible refine gw (Z1.out _) ?_);clear Z1)|(go_at_call 177;(with_reducible refine gw (Z2.out _) ?_);clear Z2)|(go_at_call 176;(with_reducible refine gvq (G.out _) ?_);intro bs dr;clear G))
   have gz:¬g=0:=by omega
   refine TS.begin [20,21] (World.Grows _) zd zd aO (fun hS=>?_);refine kq 0 hS ?_;refine kq 1 hS ?_;refine kq 2 hS ?_;refine kq 3 hS ?_;refine kq 4 hS ?_;refine kq 5 hS ?_;refine kq 6 hS ?_;refine kq 7 hS ?_
  rotate_left
  focus
   go_enter func132,ntmps132
   go_wp2_with (first|(go_at_call 177;(with_reducible refine gw (Z1.out _) ?_);clear Z1)|(go_at_call 177;(with_reducible refine gw (Z2.out _) ?_);clear Z2)|(go_at_call 176;(with_reducible refine gvq (G.out _) ?_);intro bs dr;clear G))
   have gz:¬g=0:=by omega
   refine TS.begin [20,21] (World.Grows _) zd zd aO (fun hS=>?_);refine kq 0 hS ?_;refine kq 1 hS ?_;refine kq 2 hS ?_;refine kq 3 hS ?_;refine kq 4 hS ?_;refine kq 5 hS ?_;refine TS.take (i:=6) (v:=undef) rfl zd zd zd zf (fun _ _ _ h=>h) (.inl ⟨rfl,rfl⟩) hS ?_
   (try simp only [nS])
   refine TS.take (i:=7) (v:=undef) rfl zd zd zd zf (fun _ _ _ h=>h) (.inl ⟨rfl,rfl⟩) hS ?_
   (try simp only [nS])
  rotate_left
  all_goals
   refine kq 8 hS ?_;refine kq 9 hS ?_;refine kq 10 hS ?_;refine TS.takeV (i:=11) (v:=.int .u64 (p)) rfl zd zd zd zf (fun _ _ _ h=>h) rfl hS ?_ ?_
   focus
    rintro wS ⟨gbS,gdS,rfl⟩
    go_simp
    (try exact e1)
   (try simp only [nS])
   refine kq 12 hS ?_;refine kq 13 hS ?_;refine kq 14 hS ?_;refine TS.takeV (i:=15) (v:=.int .u64 (q)) rfl zd zd zd zf (fun _ _ _ h=>h) rfl hS ?_ ?_
   focus
    rintro wS ⟨gbS,gdS,rfl⟩
    go_simp
    (try exact e2)
   (try simp only [nS])
   refine kq 16 hS ?_;refine TS.one (i:=17) zd rfl (fun K1 hK1=>?_)
   go_simp
   go_at_call 181
   refine gvq (Q.out _) ?_;intro bA dA;refine TS.go hK1 zp (fun hS=>?_);clear hK1 K1
   (try simp only [nS])
   refine kq 18 hS ?_;refine kq 19 hS ?_;refine TS.wtB 20 ?_;refine TS.weB 21 ?_;clear hS
   go_wp2_with fail
   go_returns
   exact⟨rfl,.of_below au⟩
theorem Ej(n:Int)(w:World):Calls prog 132 #[.int .i64 n,.int .i64 0] w fun e w'=>e= .returned (frV (0,0,3))/\w.Grows w':=by
 go_enter func132,ntmps132
 exact uD
theorem rq(n:Int):aG n=((n.natAbs:Nat):Int):=rfl
theorem mM{d:Int}(h:1<=d):d=((d.natAbs:Nat):Int):=by omega
theorem MG(an ad bn bd:Int)(w:World)(hi:lw an ad bn bd):Calls prog 137 #[.agg #[.int .i64 an,.int .i64 ad],.agg #[.int .i64 bn,.int .i64 bd]] w fun e w'=>e= .returned (frV (kv an ad bn bd))/\w.Grows w':=by
 obtain⟨i1,i2,i3,i4⟩:=hi;have V1:=yq (fun w=>dE an ad w i1.1 i1.2 i2.1 i2.2);have V2:=yq (fun w=>dE bn bd w i3.1 i3.2 i4.1 i4.2);by_cases hv:(az an ad&&az bn bd)=true
 case neg=>
  have e:kv an ad bn bd=(0,0,1):=by unfold kv;rw [if_neg hv]
  rw [e];exact NZ an ad bn bd _ _ w (Bool.eq_false_iff.2 hv) V1 V2
 have hva:=(Bool.and_eq_true_iff.1 hv).1;have hvb:=(Bool.and_eq_true_iff.1 hv).2;have e:kv an ad bn bd=nD (decide (an<0)!=decide (bn<0)) an.natAbs ad.natAbs bn.natAbs bd.natAbs:=by unfold kv;rw [if_pos hv];try rfl
 rw [e];rw [hva]at V1;rw [hvb]at V2;have b1:=aF hva;have b2:=aF hvb;obtain⟨neg,hc,hz⟩:=FW an bn;rw [<-vM (b:=neg) hz];exact Hr an ad bn bd _ _ _ _ _ _ _ neg w rfl rfl rfl rfl hc V1 V2 (fun n h w=>iw n w h.1 h.2) i1 i2 i3 i4 (fun w=>ng neg an.natAbs ad.natAbs bn.natAbs bd.natAbs w zb zb zb zb zb zb)
theorem MN(an ad bn bd:Int)(w:World)(hi:lw an ad bn bd):Calls prog 138 #[.agg #[.int .i64 an,.int .i64 ad],.agg #[.int .i64 bn,.int .i64 bd]] w fun e w'=>e= .returned (frV (kF an ad bn bd))/\w.Grows w':=by
 obtain⟨i1,i2,i3,i4⟩:=hi;have V1:=yq (fun w=>dE an ad w i1.1 i1.2 i2.1 i2.2);have V2:=yq (fun w=>dE bn bd w i3.1 i3.2 i4.1 i4.2);by_cases hv:(az an ad&&az bn bd)=true
 case neg=>
  have e:kF an ad bn bd=(0,0,1):=by unfold kF;rw [if_neg hv]
  rw [e];exact O4 an ad bn bd _ _ w (Bool.eq_false_iff.2 hv) V1 V2
 have hva:=(Bool.and_eq_true_iff.1 hv).1;have hvb:=(Bool.and_eq_true_iff.1 hv).2;have e:kF an ad bn bd=(if bn=0 then(0,0,3)else nD (decide (an<0)!=decide (bn<0)) an.natAbs ad.natAbs bd.natAbs bn.natAbs):=by unfold kF;rw [if_pos hv];try rfl
 rw [e];rw [hva]at V1;rw [hvb]at V2;have b1:=aF hva;have b2:=aF hvb;by_cases h0:bn=0
 ·subst h0;rw [if_pos rfl];exact IZ an ad bd w V1 V2
 rw [if_neg h0];obtain⟨neg,hc,hz⟩:=FW an bn
 have hz':an.natAbs=0\/bd.natAbs=0\/neg=(decide (an<0)!=decide (bn<0)):=by
  rcases hz with h|h|h
  ·exact .inl h
  ·omega
  ·exact .inr (.inr h)
 rw [<-vM (b:=neg) hz'];exact I5 an ad bn bd _ _ _ _ _ _ _ neg w rfl rfl rfl rfl hc yJ V1 V2 (fun n h w=>iw n w h.1 h.2) i1 i2 i3 i4 (fun w=>ng neg an.natAbs ad.natAbs bd.natAbs bn.natAbs w zb zb zb zb zb zb)
theorem MH(an ad bn bd:Int)(w:World)(hi:lw an ad bn bd):Calls prog 119 #[.agg #[.int .i64 an,.int .i64 ad],.agg #[.int .i64 bn,.int .i64 bd]] w fun e w'=>e= .returned (frV (kv an ad bn bd))/\w.Grows w':=by
 obtain⟨i1,i2,i3,i4⟩:=hi;have V1:=yq (fun w=>bP an ad w i1.1 i1.2 i2.1 i2.2);have V2:=yq (fun w=>bP bn bd w i3.1 i3.2 i4.1 i4.2);by_cases hv:(az an ad&&az bn bd)=true
 case neg=>
  have e:kv an ad bn bd=(0,0,1):=by unfold kv;rw [if_neg hv]
  rw [e];exact N7 an ad bn bd _ _ w (Bool.eq_false_iff.2 hv) V1 V2
 have hva:=(Bool.and_eq_true_iff.1 hv).1;have hvb:=(Bool.and_eq_true_iff.1 hv).2;have e:kv an ad bn bd=nD (decide (an<0)!=decide (bn<0)) an.natAbs ad.natAbs bn.natAbs bd.natAbs:=by unfold kv;rw [if_pos hv];try rfl
 rw [e];rw [hva]at V1;rw [hvb]at V2;have b1:=aF hva;have b2:=aF hvb;refine Ht an ad bn bd _ _ _ _ _ w rfl rfl (IntWalk.u64_in _ zb) (IntWalk.u64_in _ zb) V1 V2 (fun n h w=>fD n w h.1 h.2) i1 i2 i3 i4 (fun w=>?_);have:=oG (decide (an<0)!=decide (bn<0)) an.natAbs ad.natAbs bn.natAbs bd.natAbs w zb zb zb zb zb zb;rw [<-mM b1.1,<-mM b2.1]at this;exact this
theorem MO(an ad bn bd:Int)(w:World)(hi:lw an ad bn bd):Calls prog 120 #[.agg #[.int .i64 an,.int .i64 ad],.agg #[.int .i64 bn,.int .i64 bd]] w fun e w'=>e= .returned (frV (kF an ad bn bd))/\w.Grows w':=by
 obtain⟨i1,i2,i3,i4⟩:=hi;have V1:=yq (fun w=>bP an ad w i1.1 i1.2 i2.1 i2.2);have V2:=yq (fun w=>bP bn bd w i3.1 i3.2 i4.1 i4.2);by_cases hv:(az an ad&&az bn bd)=true
 case neg=>
  have e:kF an ad bn bd=(0,0,1):=by unfold kF;rw [if_neg hv]
  rw [e];exact O5 an ad bn bd _ _ w (Bool.eq_false_iff.2 hv) V1 V2
 have hva:=(Bool.and_eq_true_iff.1 hv).1;have hvb:=(Bool.and_eq_true_iff.1 hv).2;have e:kF an ad bn bd=(if bn=0 then(0,0,3)else nD (decide (an<0)!=decide (bn<0)) an.natAbs ad.natAbs bd.natAbs bn.natAbs):=by unfold kF;rw [if_pos hv];try rfl
 rw [e];rw [hva]at V1;rw [hvb]at V2;have b1:=aF hva;have b2:=aF hvb;by_cases h0:bn=0
 ·subst h0;rw [if_pos rfl];exact I6 an ad bd w V1 V2
 rw [if_neg h0];refine I7 an ad bn bd _ _ _ _ _ w rfl rfl (IntWalk.u64_in _ zb) (IntWalk.u64_in _ zb) yJ V1 V2 (fun n h w=>fD n w h.1 h.2) i1 i2 i3 i4 (fun w=>?_);have:=oG (decide (an<0)!=decide (bn<0)) an.natAbs ad.natAbs bd.natAbs bn.natAbs w zb zb zb zb zb zb;rw [<-mM b1.1,<-mM b2.1]at this;exact this
theorem oV{an bd:Int}(h1:-1000000000000000<=an)(h2:an<=1000000000000000)(h3:1<=bd)(h4:bd<=1000000000):an.natAbs*bd.natAbs<=1000000000000000000000000:=
 Nat.le_trans (Nat.mul_le_mul (show an.natAbs<=1000000000000000 by omega) (show bd.natAbs<=1000000000 by omega)) zf
theorem Ga{ad bd:Int}(h1:1<=ad)(h2:ad<=1000000000)(h3:1<=bd)(h4:bd<=1000000000):0<ad.natAbs*bd.natAbs/\ad.natAbs*bd.natAbs<=1000000000000000000:=
 ⟨Nat.mul_pos zb zb,Nat.le_trans (Nat.mul_le_mul (show ad.natAbs<=1000000000 by omega) (show bd.natAbs<=1000000000 by omega)) zf⟩
theorem pV{n:Nat}(h:n<18446744073709551616):hiW n=0:=by unfold hiW;omega
theorem pO{n:Nat}(h:n<18446744073709551616):loW n=(n:Int):=by unfold loW;omega
def oZ(neg:Bool)(N D:Nat):Int × Int × Int:=(jN neg N D,lQ N D,ky N D)
theorem jr{b c:Bool}{N D:Nat}(h:N=0\/b=c):oZ b N D=oZ c N D:=by unfold oZ;rw [K4 h]
theorem Oc(neg:Bool)(N D:Nat)(hD:D<=1000000000000000000):jg neg (hiW (N / Nat.gcd N D)) (loW (N / Nat.gcd N D)) 0 ((D / Nat.gcd N D:Nat):Int)=frV (oZ neg N D):=by
 have h:=q9 neg (N / Nat.gcd N D) (D / Nat.gcd N D);have h2:D / Nat.gcd N D<=D:=Nat.div_le_self _ _;have e1:hiW (D / Nat.gcd N D)=0:=pV zb;have e2:loW (D / Nat.gcd N D)=((D / Nat.gcd N D:Nat):Int):=pO zb;rw [e1,e2]at h;rw [h];unfold oZ jN lQ ky
 split<;>rfl
theorem tV{ad bd:Int}{D:Nat}(h:ad.natAbs*bd.natAbs=D)(hD:D<=1000000000000000000):IntKind.u64.wrap (aG ad*aG bd)=(D:Int):=by
 have e:aG ad*aG bd=(D:Int):=by rw [rq,rq,<-Int.natCast_mul,h]
 rw [e];exact IntWalk.u64_in _ zb
theorem R8(neg:Bool)(N D:Nat)(hN:N<=1000000000000000000000000000)(hD0:0<D)(hD:D<=1000000000000000000) :
 (hiW N=0->loW N=0->oZ neg N D=(0,1,0))/\
 (∀w,Calls prog 181 #[.bool neg,.agg #[.int .u64 (hiW (N / Nat.gcd N D)),.int .u64 (loW (N / Nat.gcd N D))],.agg #[.int .u64 0,.int .u64 (D / Nat.gcd N D:Nat)]] w fun e w'=>e= .returned (frV (oZ neg N D))/\w.Grows w')/\
 (∀w,Calls prog 187 #[.agg #[.int .u64 (hiW N),.int .u64 (loW N)],.int .u64 (Nat.gcd N D:Nat)] w fun e w'=>e= .returned (.agg #[.int .u64 (hiW (N / Nat.gcd N D)),.int .u64 (loW (N / Nat.gcd N D))])/\w.Grows w')/\
 (∀w,Calls prog 186 #[.int .u64 (hiW N),.int .u64 (loW N),.int .u64 (D:Nat)] w fun e w'=>e= .returned (.int .u64 (lL N D))/\w.Grows w')/\
 (∀w,Calls prog 176 #[.int .u64 (D:Nat),.int .u64 (lL N D)] w fun e w'=>e= .returned (.int .u64 (Nat.gcd N D:Nat))/\w.Grows w'):=by
 have hg:0<Nat.gcd N D:=Nat.gcd_pos_of_pos_right _ hD0;have hgd:Nat.gcd N D<=D:=Nat.gcd_le_right _ hD0;have hr:=FQ N D hD0;refine⟨fun h1 h2=>?_,fun w=>?_,fun w=>?_,fun w=>?_,fun w=>?_⟩
 ·have:N=0:=by unfold hiW at h1;unfold loW at h2;omega
  subst this;unfold oZ jN lQ ky;rw [Nat.gcd_zero_left,Nat.div_self hD0,Nat.zero_div];simp
 ·rw [<-Oc neg N D hD];exact lI _ _ _ _ _ w (pQ _).1 (Int.natCast_nonneg _)
 ·exact GX N (Nat.gcd N D) w zb zb hg
 ·exact JF N D w zb zb hD0
 ·have:=l5 (D:Nat) (lL N D) w zb zb zb zb;rw [Ct N D hD0]at this;exact Calls.quietD this
theorem Du(an ad bn bd:Int)(w:World)(hi:lw an ad bn bd):Calls prog 135 #[.agg #[.int .i64 an,.int .i64 ad],.agg #[.int .i64 bn,.int .i64 bd]] w fun e w'=>e= .returned (frV (jv an ad bn bd))/\w.Grows w':=by
 obtain⟨i1,i2,i3,i4⟩:=hi;have V1:=yq (fun w=>dE an ad w i1.1 i1.2 i2.1 i2.2);have V2:=yq (fun w=>dE bn bd w i3.1 i3.2 i4.1 i4.2);by_cases hv:(az an ad&&az bn bd)=true
 case neg=>
  have e:jv an ad bn bd=(0,0,1):=by unfold jv;rw [if_neg hv]
  rw [e];exact Pt an ad bn bd _ _ w (Bool.eq_false_iff.2 hv) V1 V2
 have hva:=(Bool.and_eq_true_iff.1 hv).1;have hvb:=(Bool.and_eq_true_iff.1 hv).2;have e:jv an ad bn bd=oZ (decide (jc an ad bn bd<0)) (jc an ad bn bd).natAbs (ad.natAbs*bd.natAbs):=by unfold jv;rw [if_pos hv];try rfl
 rw [e];rw [hva]at V1;rw [hvb]at V2;have b1:=aF hva;have b2:=aF hvb;have hD:=Ga b1.1 b1.2.1 b2.1 b2.2.1;have c1:=oV (an:=an) (bd:=bd) b1.2.2.1 b1.2.2.2 b2.1 b2.2.1;have c2:=oV (an:=bn) (bd:=ad) b2.2.2.1 b2.2.2.2 b1.1 b1.2.1;have Z:Hid _:=yq (fun n (h:I64 n) w=>iw n w h.1 h.2);have T1:Hid _:=yq (fun w=>mD ik i1 i4 w);have T2:Hid _:=yq (fun w=>mD ik i3 i2 w);have hg (N:Nat):0<Nat.gcd N (ad.natAbs*bd.natAbs)/\Nat.gcd N (ad.natAbs*bd.natAbs)<=ad.natAbs*bd.natAbs:=⟨Nat.gcd_pos_of_pos_right _ hD.1,Nat.gcd_le_right _ hD.1⟩
 have hq (N:Nat):IntKind.u64.wrap ((((ad.natAbs*bd.natAbs:Nat):Int)).tdiv (Nat.gcd N (ad.natAbs*bd.natAbs):Nat))=((ad.natAbs*bd.natAbs / Nat.gcd N (ad.natAbs*bd.natAbs):Nat):Int):=by
  have:=(hg N).1;rw [gQ zb zb zb,fC]
 have key (neg:Bool) (N:Nat) (hN:N<=2000000000000000000000000):=R8 neg N (ad.natAbs*bd.natAbs) zb hD.1 hD.2;have tr {a b:Int × Int × Int} (h:a=b):a.1=b.1/\a.2.1=b.2.1/\a.2.2=b.2.2:=by rw [h];exact⟨rfl,rfl,rfl⟩
 by_cases hs:decide (an<0)=decide (bn<0)
 ·obtain⟨e1,e2⟩:=Df b1.1 b2.1 hs;rw [jr e2,e1];obtain⟨k1,k2,k3,k4,k5⟩:=key (decide (an<0)) (an.natAbs*bd.natAbs+bn.natAbs*ad.natAbs) zb;have g1:=hg (an.natAbs*bd.natAbs+bn.natAbs*ad.natAbs)
  exact Jv an ad bn bd _ _ _ _ _ _ _ _ _ _ _ _ _ _ _ _ _ w rfl rfl (by rw [hs];simp) V1 V2 Z i1 i2 i3 i4 T1 T2 (tV rfl hD.2) zb zg (hq _)
   (fun w=>GU _ _ w zb) (fun h1 h2=>tr (k1 h1 h2)) (fun _=>⟨k2,k3,k4,k5⟩)
 ·obtain⟨f1,f2⟩:=Dg b1.1 b2.1 hs;have L:=fun w=>pR (hiW (an.natAbs*bd.natAbs)) (loW (an.natAbs*bd.natAbs)) (hiW (bn.natAbs*ad.natAbs)) (loW (bn.natAbs*ad.natAbs)) w;rw [kg]at L;by_cases hl:an.natAbs*bd.natAbs<bn.natAbs*ad.natAbs
  ·obtain⟨e1,e2⟩:=f1 hl;rw [jr e2,e1];rw [decide_eq_true hl]at L;obtain⟨k1,k2,k3,k4,k5⟩:=key (!decide (an<0)) (bn.natAbs*ad.natAbs-an.natAbs*bd.natAbs) zb
   have hnn:decide (bn<0)=!decide (an<0):=by
    revert hs;cases decide (an<0)<;>cases decide (bn<0)<;>simp
   have g1:=hg (bn.natAbs*ad.natAbs-an.natAbs*bd.natAbs);rw [hnn]
   exact Jy an ad bn bd _ _ _ _ _ _ _ _ _ _ _ _ _ _ _ _ _ w rfl rfl yp V1 V2 Z i1 i2 i3 i4 T1 T2 (tV rfl hD.2) zb zg (hq _)
    L (fun w=>sM _ _ w zb zb) (fun h1 h2=>tr (k1 h1 h2)) (fun _=>⟨k2,k3,k4,k5⟩)
  ·obtain⟨e1,e2⟩:=f2 zb;rw [jr e2,e1];rw [decide_eq_false hl]at L;obtain⟨k1,k2,k3,k4,k5⟩:=key (decide (an<0)) (an.natAbs*bd.natAbs-bn.natAbs*ad.natAbs) zb;have g1:=hg (an.natAbs*bd.natAbs-bn.natAbs*ad.natAbs)
   exact Jw an ad bn bd _ _ _ _ _ _ _ _ _ _ _ _ _ _ _ _ _ w rfl rfl yp V1 V2 Z i1 i2 i3 i4 T1 T2 (tV rfl hD.2) zb zg (hq _)
    L (fun w=>sM _ _ w zb zb) (fun h1 h2=>tr (k1 h1 h2)) (fun _=>⟨k2,k3,k4,k5⟩)
theorem Dv(an ad bn bd:Int)(w:World)(hi:lw an ad bn bd):Calls prog 117 #[.agg #[.int .i64 an,.int .i64 ad],.agg #[.int .i64 bn,.int .i64 bd]] w fun e w'=>e= .returned (frV (jv an ad bn bd))/\w.Grows w':=by
 obtain⟨i1,i2,i3,i4⟩:=hi;have V1:=yq (fun w=>bP an ad w i1.1 i1.2 i2.1 i2.2);have V2:=yq (fun w=>bP bn bd w i3.1 i3.2 i4.1 i4.2);by_cases hv:(az an ad&&az bn bd)=true
 case neg=>
  have e:jv an ad bn bd=(0,0,1):=by unfold jv;rw [if_neg hv]
  rw [e];exact Pv an ad bn bd _ _ w (Bool.eq_false_iff.2 hv) V1 V2
 have hva:=(Bool.and_eq_true_iff.1 hv).1;have hvb:=(Bool.and_eq_true_iff.1 hv).2;have e:jv an ad bn bd=oZ (decide (jc an ad bn bd<0)) (jc an ad bn bd).natAbs (ad.natAbs*bd.natAbs):=by unfold jv;rw [if_pos hv];try rfl
 rw [e];rw [hva]at V1;rw [hvb]at V2;have b1:=aF hva;have b2:=aF hvb;have hD:=Ga b1.1 b1.2.1 b2.1 b2.2.1;have c1:=oV (an:=an) (bd:=bd) b1.2.2.1 b1.2.2.2 b2.1 b2.2.1;have c2:=oV (an:=bn) (bd:=ad) b2.2.2.1 b2.2.2.2 b1.1 b1.2.1;have Z:Hid _:=yq (fun n (h:I64 n) w=>fD n w h.1 h.2);have T1:Hid _:=yq (fun w=>om il i1 (b:=bd) zb zb w);have T2:Hid _:=yq (fun w=>om il i3 (b:=ad) zb zb w);have u1:IntKind.u64.wrap ad=ad:=IntWalk.u64_in _ zb;have u2:IntKind.u64.wrap bd=bd:=IntWalk.u64_in _ zb
 have u3:IntKind.u64.wrap (ad*bd)=((ad.natAbs*bd.natAbs:Nat):Int):=by
  have e:ad*bd=((ad.natAbs*bd.natAbs:Nat):Int):=by rw [Int.natCast_mul,<-mM b1.1,<-mM b2.1]
  rw [e];exact IntWalk.u64_in _ zb
 by_cases hs:decide (an<0)=decide (bn<0)
 ·obtain⟨e1,e2⟩:=Df b1.1 b2.1 hs;rw [jr e2,e1];exact Jz an ad bn bd _ _ _ _ _ _ _ _ _ _ _ w rfl hs.symm V1 V2 Z i1 i2 i3 i4 T1 T2 u1 u2 u3 (fun w=>GV _ _ w zb) (fun w=>jG _ _ _ w zb zb hD.1)
 ·obtain⟨f1,f2⟩:=Dg b1.1 b2.1 hs;have L:=fun w=>vY (hiW (an.natAbs*bd.natAbs)) (loW (an.natAbs*bd.natAbs)) (hiW (bn.natAbs*ad.natAbs)) (loW (bn.natAbs*ad.natAbs)) w;rw [kg]at L;by_cases hl:an.natAbs*bd.natAbs<bn.natAbs*ad.natAbs
  ·obtain⟨e1,e2⟩:=f1 hl;rw [jr e2,e1];rw [decide_eq_true hl]at L;exact JB an ad bn bd _ _ _ _ _ _ _ _ _ _ _ _ w rfl rfl yp V1 V2 Z i1 i2 i3 i4 T1 T2 u1 u2 u3 L (fun w=>sN _ _ w zb zb) (fun w=>jG _ _ _ w zb zb hD.1)
  ·obtain⟨e1,e2⟩:=f2 zb;rw [jr e2,e1];rw [decide_eq_false hl]at L;exact JA an ad bn bd _ _ _ _ _ _ _ _ _ _ _ _ w rfl rfl yp V1 V2 Z i1 i2 i3 i4 T1 T2 u1 u2 u3 L (fun w=>sN _ _ w zb zb) (fun w=>jG _ _ _ w zb zb hD.1)
theorem Mt(an ad bn bd:Int)(w:World)(hi:lw an ad bn bd):Calls prog 136 #[.agg #[.int .i64 an,.int .i64 ad],.agg #[.int .i64 bn,.int .i64 bd]] w fun e w'=>e= .returned (frV (lC an ad bn bd))/\w.Grows w':=by
 obtain⟨i1,i2,i3,i4⟩:=hi;have N:=yq (fun w=>Dl bn bd w i3.1 i3.2 i4.1 i4.2);by_cases hv:az bn bd=true
 ·have b2:=aF hv;have e0:lC an ad bn bd=jv an ad (-bn) bd:=by unfold lC;rw [if_pos hv]
  have e1:iA bn bd=(-bn,bd,0):=by unfold iA;rw [if_pos hv]
  have A:=yq (fun w=>Du an ad (-bn) bd w ⟨i1,i2,by unfold I64;omega,i4⟩);rw [e1]at N;rw [e0];generalize jv an ad (-bn) bd=r at *;obtain⟨r1,r2,r3⟩:=r;clear e0 e1 hv;unfold frV at N A;generalize -bn=c at *
  go_enter func136,ntmps136
  go_wp2_with (first|(go_at_call 133;(with_reducible refine gvq (N.out _) ?_);intro bs dr)|(go_at_call 135;(with_reducible refine gvq (A.out _) ?_);intro bs2 dr2))
  exact qO
 ·have e0:lC an ad bn bd=(0,0,1):=by unfold lC;rw [if_neg hv]
  have e1:iA bn bd=(0,0,1):=by unfold iA;rw [if_neg hv]
  rw [e1]at N;rw [e0];clear e0 e1 hv;unfold frV at N
  go_enter func136,ntmps136
  go_wp2_with (go_at_call 133;(with_reducible refine gvq (N.out _) ?_);intro bs dr)
  exact qO
theorem Mv(an ad bn bd:Int)(w:World)(hi:lw an ad bn bd):Calls prog 118 #[.agg #[.int .i64 an,.int .i64 ad],.agg #[.int .i64 bn,.int .i64 bd]] w fun e w'=>e= .returned (frV (lC an ad bn bd))/\w.Grows w':=by
 obtain⟨i1,i2,i3,i4⟩:=hi;have N:=yq (fun w=>Dm bn bd w i3.1 i3.2 i4.1 i4.2);by_cases hv:az bn bd=true
 ·have b2:=aF hv;have e0:lC an ad bn bd=jv an ad (-bn) bd:=by unfold lC;rw [if_pos hv]
  have e1:iA bn bd=(-bn,bd,0):=by unfold iA;rw [if_pos hv]
  have A:=yq (fun w=>Dv an ad (-bn) bd w ⟨i1,i2,by unfold I64;omega,i4⟩);rw [e1]at N;rw [e0];generalize jv an ad (-bn) bd=r at *;obtain⟨r1,r2,r3⟩:=r;clear e0 e1 hv;unfold frV at N A;generalize -bn=c at *
  go_enter func118,ntmps118
  go_wp2_with (first|(go_at_call 115;(with_reducible refine gvq (N.out _) ?_);intro bs dr)|(go_at_call 117;(with_reducible refine gvq (A.out _) ?_);intro bs2 dr2))
  exact qO
 ·have e0:lC an ad bn bd=(0,0,1):=by unfold lC;rw [if_neg hv]
  have e1:iA bn bd=(0,0,1):=by unfold iA;rw [if_neg hv]
  rw [e1]at N;rw [e0];clear e0 e1 hv;unfold frV at N
  go_enter func118,ntmps118
  go_wp2_with (go_at_call 115;(with_reducible refine gvq (N.out _) ?_);intro bs dr)
  exact qO
theorem JG(n d:Int)(w:World)(h1:I64 n)(h2:I64 d):Calls prog 132 #[.int .i64 n,.int .i64 d] w fun e w'=>e= .returned (frV (mkN n d,mkD n d,mkE n d))/\w.Grows w':=by
 by_cases h0:d=0
 ·subst h0;exact Ej n w
 unfold I64 at h1 h2;have hg:0<Nat.gcd n.natAbs d.natAbs:=Nat.gcd_pos_of_pos_right _ zb;have hgd:Nat.gcd n.natAbs d.natAbs<=d.natAbs:=Nat.gcd_le_right _ zb
 have e:(mkN n d,mkD n d,mkE n d)=oZ ((decide (n<0)!=decide (d<0))&&(n !=0)) n.natAbs d.natAbs:=by
  have hz:n.natAbs=0\/(decide (n<0)!=decide (d<0))=((decide (n<0)!=decide (d<0))&&(n !=0)):=by
   by_cases hn:n=0
   ·left;omega
   ·right;have:(n !=0)=true:=by simpa using hn
    rw [this,Bool.and_true]
  rw [<-jr hz];unfold mkN mkD mkE oZ;rw [if_neg h0,if_neg h0,if_neg h0]
 rw [e];have q1:n.natAbs / Nat.gcd n.natAbs d.natAbs<=n.natAbs:=Nat.div_le_self _ _;have q2:d.natAbs / Nat.gcd n.natAbs d.natAbs<=d.natAbs:=Nat.div_le_self _ _;refine El n d _ _ (Nat.gcd n.natAbs d.natAbs:Nat) (n.natAbs / Nat.gcd n.natAbs d.natAbs:Nat) (d.natAbs / Nat.gcd n.natAbs d.natAbs:Nat) _ _ _ _ _ _ rfl w rfl rfl yJ zb zg ?_ ?_ (fun w=>iw n w h1.1 h1.2) (fun w=>iw d w h2.1 h2.2) (fun w=>?_) (fun w=>?_)
 ·rw [rq,gQ zb zb zb,fC]
 ·rw [rq,gQ zb zb zb,fC]
 ·have:=l5 (aG n) (aG d) w (mP n h1.1 h1.2).1 (by have:=mP n h1.1 h1.2;omega) (mP d h2.1 h2.2).1 (by have:=mP d h2.1 h2.2;omega);rw [show jP (aG n) (aG d)=(Nat.gcd n.natAbs d.natAbs:Nat)by unfold jP;rw [kY,kY]]at this;exact Calls.quietD this
 ·have h:=q9 ((decide (n<0)!=decide (d<0))&&(n !=0)) (n.natAbs / Nat.gcd n.natAbs d.natAbs) (d.natAbs / Nat.gcd n.natAbs d.natAbs);have e1:hiW (n.natAbs / Nat.gcd n.natAbs d.natAbs)=0:=pV zb;have e2:loW (n.natAbs / Nat.gcd n.natAbs d.natAbs)=((n.natAbs / Nat.gcd n.natAbs d.natAbs:Nat):Int):=pO zb;have e3:hiW (d.natAbs / Nat.gcd n.natAbs d.natAbs)=0:=pV zb;have e4:loW (d.natAbs / Nat.gcd n.natAbs d.natAbs)=((d.natAbs / Nat.gcd n.natAbs d.natAbs:Nat):Int):=pO zb;rw [e1,e2,e3,e4]at h;have k:=lI ((decide (n<0)!=decide (d<0))&&(n !=0)) 0 ((n.natAbs / Nat.gcd n.natAbs d.natAbs:Nat):Int) 0 ((d.natAbs / Nat.gcd n.natAbs d.natAbs:Nat):Int) w (Int.natCast_nonneg _) (Int.natCast_nonneg _);rw [h]at k
  have e5 (b:Bool) (N D:Nat):oZ b N D=(if 1000000000000000<N / Nat.gcd N D\/1000000000<D / Nat.gcd N D then(0,0,2)else(if b=true then -((N / Nat.gcd N D:Nat):Int)else(N / Nat.gcd N D:Nat),((D / Nat.gcd N D:Nat):Int),0)):=by
   unfold oZ jN lQ ky
   split<;>rfl
  rw [e5];exact k
def vwV(v:Vw)(y:Value):Value:=.agg #[.int .i64 v.age,.int .i64 v.year,.int .i64 v.children,.int .i64 v.insured,.int .i64 v.worked,.int .i64 v.voluntary,.int .i64 v.service,.int .i64 v.equated,.int .i64 v.raising,.int .i64 v.resident,.int .i64 v.bn,.int .i64 v.bd,y]
structure fP(v:Vw):Prop where
 base:I64 v.bn/\I64 v.bd
def Vw.ds(v:Vw):List Int:=[v.insured,v.worked,v.voluntary,v.service,v.equated,v.raising,v.resident]
theorem tY(v:Vw)(y:Value)(w:World)(hy:∃a n c,y= .slice a n c):Calls prog 94 #[vwV v y] w fun r w'=>r= .returned (.agg #[.int .i64 v.insured,.int .i64 v.worked,.int .i64 v.voluntary,.int .i64 v.service,.int .i64 v.equated,.int .i64 v.raising,.int .i64 v.resident])/\w.Grows w':=by
 obtain⟨a,n,c,rfl⟩:=hy;obtain⟨age,year,children,insured,worked,voluntary,service,equated,raising,resident,bn,bd,years⟩:=v;show Calls prog 94 #[.agg #[.int .i64 age,.int .i64 year,.int .i64 children,.int .i64 insured,.int .i64 worked,.int .i64 voluntary,.int .i64 service,.int .i64 equated,.int .i64 raising,.int .i64 resident,.int .i64 bn,.int .i64 bd,.slice a n c]] w _;dsimp only
 go_enter func94,ntmps94
 exact uD
def Vw.rngB(v:Vw):Bool:=decide (0<=v.age/\v.age<=199/\1900<=v.year/\v.year<=2099/\0<=v.children/\v.children<=99)
def Vw.baseB(v:Vw):Bool:=az v.bn v.bd&&decide (0<=v.bn/\v.bn<=1000000000000*v.bd)
theorem Vw.ok_split(v:Vw):v.ok=(v.rngB&&(v.ds.all dR)&&v.baseB&&bi v.years):=by
 unfold Vw.ok Vw.rngB Vw.baseB Vw.ds;simp [Bool.and_assoc]
theorem LU{v:Vw}{k:Nat}(hk:k<7)(hb:dR (v.ds.getD k 0)=false):v.ok=false:=by
 rw [Vw.ok_split]
 have:v.ds.all dR=false:=by
  rw [all_eq_false];refine⟨v.ds.getD k 0, ?_,by rw [hb];simp⟩;rw [getD_eq_getElem?_getD,getElem?_eq_getElem (show k<v.ds.length from hk)];exact getElem_mem _
 rw [this];simp
theorem F5{v:Vw}(hg:∀k,k<7->dR (v.ds.getD k 0)=true):v.ds.all dR=true:=by
 rw [all_eq_true];intro x hx;obtain⟨k,hk,rfl⟩:=mem_iff_getElem.1 hx;have:=hg k hk
 rwa [getD_eq_getElem?_getD,getElem?_eq_getElem hk]at this
theorem Fz{v:Vw}(h:¬(0<=v.age/\v.age<=199/\1900<=v.year/\v.year<=2099/\0<=v.children/\v.children<=99)):v.ok=false:=by
 rw [Vw.ok_split];unfold Vw.rngB;rw [decide_eq_false h];simp
theorem MQ(v:Vw)(y:Value)(w:World)(hy:∃a n c,y= .slice a n c)(h:¬(0<=v.age/\v.age<=199/\1900<=v.year/\v.year<=2099/\0<=v.children/\v.children<=99)):(Calls prog 41 #[vwV v y] w fun r w'=>r= .returned (.bool v.ok)/\w.Grows w'):=by
 have HF:=yq (Fz h);by_cases c1:v.age<0
 ·exact GD
 by_cases c2:v.age > 199
 ·exact GD
 by_cases c3:v.year<1900
 ·exact GD
 by_cases c4:v.year > 2099
 ·exact GD
 by_cases c5:v.children<0
 ·exact GD
 have c6:v.children > 99:=by omega
 exact GD
theorem PV(v:Vw)(y:Value)(w:World)(hr:fP v)(hy:bR w y v.years)(h:0<=v.age/\v.age<=199/\1900<=v.year/\v.year<=2099/\0<=v.children/\v.children<=99):(Calls prog 41 #[vwV v y] w fun r w'=>r= .returned (.bool v.ok)/\w.Grows w'):=by
 have HY:=yq hy;have HD:=yq (fun w a n c=>tY v (.slice a n c) w ⟨a,n,c,rfl⟩);have HB:Hid (∀k,k<7->dR (v.ds.getD k 0)=false->v.ok=false):=yq (fun k hk hb=>LU hk hb)
 have HG:Hid ((∀k,k<7->dR (v.ds.getD k 0)=true)->v.ok=(v.baseB&&bi v.years)):=yq (fun hg=>by
  rw [Vw.ok_split,F5 hg];unfold Vw.rngB;rw [decide_eq_true h];simp)
 have HI:=yq hr.base;have HC:=yq (fun w=>pF v.bn v.bd 1000000000000 1 w ⟨hr.base.1,hr.base.2,by unfold I64;omega,by unfold I64;omega⟩)
 have HM:Hid (∀w,Calls prog 40 #[.int .i64 1000000000000,.int .i64 1] w fun e w'=>e= .returned (.tuple #[.agg #[.int .i64 1000000000000,.int .i64 1],.int .i64 0])/\w.Grows w'):=yq (fun w=>by
  have:=fI 1000000000000 1 w zf zf zf zf;rw [show mkN 1000000000000 1=1000000000000 by decide+kernel,show mkD 1000000000000 1=1 by decide+kernel,show mkE 1000000000000 1=0 by decide+kernel]at this
  exact this)
 have HYR:=yq (fun w' (hg:w.Grows w')=>ma v.years y w' (HY.out.grows hg));obtain⟨-,a,c,rfl,-⟩:=hy;obtain⟨h1,h2,h3,h4,h5,h6⟩:=h;clear hr;unfold vwV at HD ⊢
 go_enter func41,ntmps41
 go_wp2_with (go_at_call 94;refine gvq (HD.out _ _ _ _) ?_;intro bs d)
 obtain⟨W,hW⟩:∃W,((w.alloc (.cells #[.int .i64 v.age,.int .i64 v.year,.int .i64 v.children,.int .i64 v.insured,.int .i64 v.worked,.int .i64 v.voluntary,.int .i64 v.service,.int .i64 v.equated,.int .i64 v.raising,.int .i64 v.resident,.int .i64 v.bn,.int .i64 v.bd,.slice a v.years.length c] 38)).grow bs d).alloc (.cells #[.int .i64 v.insured,.int .i64 v.worked,.int .i64 v.voluntary,.int .i64 v.service,.int .i64 v.equated,.int .i64 v.raising,.int .i64 v.resident] 90)=W:=⟨_,rfl⟩;have hg:w.Grows W:=by rw [<-hW];exact .of_below au
 have b0:W.cell? ⟨w.heap.size,10,none⟩=some (.int .i64 v.bn):=by rw [<-hW];simp [go_sem]
 have b1:W.cell? ⟨w.heap.size,11,none⟩=some (.int .i64 v.bd):=by rw [<-hW];simp [go_sem]
 have b2:W.cell? ⟨w.heap.size,12,none⟩=some (.slice a v.years.length c):=by rw [<-hW];simp [go_sem]
 have HA:Hid (∀k,k<7->W.cell? ⟨w.heap.size+1+bs.size,k,none⟩=some (.int .i64 (v.ds.getD k 0))):=yq (fun k hk=>by
  rw [<-hW,World.cell?_alloc_at _ _ _ _ ze]
  rcases(show k=0\/k=1\/k=2\/k=3\/k=4\/k=5\/k=6 by omega)with rfl|rfl|rfl|rfl|rfl|rfl|rfl<;>rfl)
 have hsz:w.heap.size<W.heap.size:=by rw [<-hW];simp;omega
 rw [hW];clear hW;have HG2:=yq hg;clear hg
 go_loopw [4] (fun v4 wr=>∃k:Nat,k<=7/\v4= .int .i64 k/\Hid (∀j,j<k->dR (v.ds.getD j 0)=true)/\W=wr) (fun v4 _=>7-(intOf v4).toNat)
 case atStart=>exact⟨0,by omega,rfl,yq (fun j hj=>by omega),rfl⟩
 case round=>
  obtain⟨k,hk,rfl,hno,rfl⟩:=hrel;by_cases hlt:k<7
  ·have x0:=HA.out k hlt;have d1:(k:Int)<7:=by omega
   have HKL:=yq hlt;clear hlt;obtain⟨dk,hdk⟩:∃dk,v.ds.getD k 0=dk:=⟨_,rfl⟩;rw [hdk]at x0;have HDK:=yq hdk;exact RY
  ·obtain rfl:k=7:=by omega
   have HF:=yq (HG.out hno.out);unfold Vw.baseB at HF;obtain⟨q,hq⟩:∃q,az v.bn v.bd=q:=⟨_,rfl⟩;have HC2:=HC.out;unfold qi frI at HC2;rw [show az 1000000000000 1=true by decide+kernel,hq,Bool.and_true]at HC2;rw [hq]at HF;clear hq;obtain⟨yb,hyb⟩:∃yb,bi v.years=yb:=⟨_,rfl⟩;have HYR2:=HYR.out;rw [hyb]at HYR2 HF;clear hyb;have HYR3:=yq HYR2;clear HYR2
   cases q with
   |false=>
    simp only [Bool.false_eq_true,if_false]at HC2;have HC3:=yq HC2;clear HC2
    go_wp2_with (first
     |(go_at_call 40;refine gvq (HM.out _) ?_;intro bs2 d2)
     |(go_at_call 95;refine gvq (HC3.out _) ?_;intro bs3 d3))
    go_returns
    exact⟨av yo,World.Grows.trans HG2.out (.of_below au)⟩
   |true=>
    have hcm:gY v.bn v.bd 1000000000000 1<=0↔v.bn<=1000000000000*v.bd:=by
     unfold gY;rw [Int.mul_one]
     (repeat' split)<;>omega
    simp only [if_true]at HC2;generalize gY v.bn v.bd 1000000000000 1=cc at HC2 hcm;have HC3:=yq HC2;clear HC2;have HCM:=yq hcm;clear hcm;by_cases g1:cc<=0
    ·by_cases g2:v.bn≥0
     ·have HF2:Hid (v.ok=yb):=yq (by rw [HF.out,decide_eq_true ⟨g2,HCM.out.1 g1⟩];rfl)
      go_wp2_with (first
       |(go_at_call 40;refine gvq (HM.out _) ?_;intro bs2 d2)
       |(go_at_call 95;refine gvq (HC3.out _) ?_;intro bs3 d3)
       |(go_at_call 96;refine gw (HYR3.out _ (World.Grows.trans HG2.out (.of_below au))) ?_))
      go_returns
      exact⟨av (by rw [HF2.out]),World.Grows.trans HG2.out (.of_below au)⟩
     ·have HF2:Hid (v.ok=false):=yq xM
      go_wp2_with (first
       |(go_at_call 40;refine gvq (HM.out _) ?_;intro bs2 d2)
       |(go_at_call 95;refine gvq (HC3.out _) ?_;intro bs3 d3))
      go_returns
      exact⟨av (by rw [HF2.out]),World.Grows.trans HG2.out (.of_below au)⟩
    ·have HF2:Hid (v.ok=false):=yq (by rw [HF.out,decide_eq_false (fun h=>g1 (HCM.out.2 h.2))];rfl)
     go_wp2_with (first
      |(go_at_call 40;refine gvq (HM.out _) ?_;intro bs2 d2)
      |(go_at_call 95;refine gvq (HC3.out _) ?_;intro bs3 d3))
     go_returns
     exact⟨av (by rw [HF2.out]),World.Grows.trans HG2.out (.of_below au)⟩
theorem gT(v:Vw)(y:Value)(w:World)(hr:fP v)(hy:bR w y v.years):(Calls prog 41 #[vwV v y] w fun r w'=>r= .returned (.bool v.ok)/\w.Grows w'):=by
 by_cases h:0<=v.age/\v.age<=199/\1900<=v.year/\v.year<=2099/\0<=v.children/\v.children<=99
 ·exact PV v y w hr hy h
 ·obtain⟨-,a,c,rfl,-⟩:=hy;exact MQ v _ w ⟨_,_,_,rfl⟩ h
theorem MS(v:Vw)(y:Value)(w:World)(hy:∃a n c,y= .slice a n c)(h:¬(0<=v.age/\v.age<=199/\1900<=v.year/\v.year<=2099/\0<=v.children/\v.children<=99)):(Calls prog 67 #[vwV v y] w fun r w'=>r= .returned (.bool v.ok)/\w.Grows w'):=by
 have HF:=yq (Fz h);by_cases c1:v.age<0
 ·exact GA
 by_cases c2:v.age > 199
 ·exact GA
 by_cases c3:v.year<1900
 ·exact GA
 by_cases c4:v.year > 2099
 ·exact GA
 by_cases c5:v.children<0
 ·exact GA
 have c6:v.children > 99:=by omega
 exact GA
theorem Tw(x0 x1 x2 x3 x4 x5 x6:Int)(k:Nat)(hk:k<7)(w:World):(Instr.index 90 (.agg #[.int .i64 x0,.int .i64 x1,.int .i64 x2,.int .i64 x3,.int .i64 x4,.int .i64 x5,.int .i64 x6]) (.int .i64 (k:Int))).run prog w= .ok (.int .i64 ([x0,x1,x2,x3,x4,x5,x6].getD k 0)) w:=by
 rcases(show k=0\/k=1\/k=2\/k=3\/k=4\/k=5\/k=6 by omega)with rfl|rfl|rfl|rfl|rfl|rfl|rfl<;>simp [Instr.index,go_sem]
theorem Pg{n d:Int}(h:az n d=true)(hn:0<=n):decide (n<=1000000000000*d)=(decide (n.tdiv d<=1000000000000)&&(decide (n.tdiv d<1000000000000) || decide (n.tmod d=0))):=by
 have hd:0<d:=by have:=aF h;omega
 rw [Int.tdiv_eq_ediv_of_nonneg hn,Int.tmod_eq_emod_of_nonneg hn];have e:=Int.mul_ediv_add_emod n d;have r0:=Int.emod_nonneg n (show d≠0 by omega);have r1:=Int.emod_lt_of_pos n hd;generalize n / d=q at *;generalize n % d=r at *;by_cases c1:q<1000000000000
 ·have h1:d*q<=d*999999999999:=Int.mul_le_mul_of_nonneg_left zb zb;rw [decide_eq_true c1,decide_eq_true (show q<=1000000000000 by omega),decide_eq_true (show n<=1000000000000*d by omega)];rfl
 ·rw [decide_eq_false c1,Bool.false_or];by_cases c2:q<=1000000000000
  ·obtain rfl:q=1000000000000:=by omega
   rw [decide_eq_true c2,Bool.true_and];by_cases c3:r=0
   ·rw [decide_eq_true c3,decide_eq_true zb]
   ·rw [decide_eq_false c3,decide_eq_false zb]
  ·have h1:d*1000000000001<=d*q:=Int.mul_le_mul_of_nonneg_left zb zb;rw [decide_eq_false c2,Bool.false_and,decide_eq_false zb]
theorem MR(v:Vw)(y:Value)(w:World)(hy:bR w y v.years)(h:0<=v.age/\v.age<=199/\1900<=v.year/\v.year<=2099/\0<=v.children/\v.children<=99)(hyo:bi v.years=false):(Calls prog 67 #[vwV v y] w fun r w'=>r= .returned (.bool v.ok)/\w.Grows w'):=by
 have HF:Hid (v.ok=false):=yq (by rw [Vw.ok_split,hyo,Bool.and_false]);have HY:=yq hy;have HYR:=yq (fun w' (hg:w.Grows w')=>gK v.years y w' (HY.out.grows hg));rw [hyo]at HYR;obtain⟨-,a,c,rfl,-⟩:=hy;obtain⟨h1,h2,h3,h4,h5,h6⟩:=h;clear hyo;unfold vwV
 go_enter func67,ntmps67
 go_wp2_with (go_at_call 127;refine gvq (HYR.out _ (.of_below au)) ?_;intro bs d)
 go_returns
 exact⟨av HF.out.symm,.of_below au⟩
theorem PW(v:Vw)(y:Value)(w:World)(hr:fP v)(hy:bR w y v.years)(h:0<=v.age/\v.age<=199/\1900<=v.year/\v.year<=2099/\0<=v.children/\v.children<=99)(hyo:bi v.years=true):(Calls prog 67 #[vwV v y] w fun r w'=>r= .returned (.bool v.ok)/\w.Grows w'):=by
 have HY:=yq hy;have HB:Hid (∀k,k<7->dR (v.ds.getD k 0)=false->v.ok=false):=yq (fun k hk hb=>LU hk hb)
 have HG:Hid ((∀k,k<7->dR (v.ds.getD k 0)=true)->v.ok=v.baseB):=yq (fun hg=>by
  rw [Vw.ok_split,F5 hg,hyo];unfold Vw.rngB;rw [decide_eq_true h];simp)
 have HYR:=yq (fun w' (hg:w.Grows w')=>gK v.years y w' (HY.out.grows hg));rw [hyo]at HYR;have HV:=yq (fun w=>dE v.bn v.bd w hr.base.1.1 hr.base.1.2 hr.base.2.1 hr.base.2.2);obtain⟨-,a,c,rfl,-⟩:=hy;obtain⟨h1,h2,h3,h4,h5,h6⟩:=h;have HI:=yq hr.base;have HIX:=yq (Tw v.insured v.worked v.voluntary v.service v.equated v.raising v.resident);clear hr hyo;unfold vwV
 go_enter func67,ntmps67
 go_wp2_with ((first|(go_at_call 127;refine gvq (HYR.out _ (.of_below zN)) ?_;intro bs d)|(go_at_call 128;refine gvq (HV.out _) ?_;intro bs3 d3)))
 obtain⟨W,hW⟩:∃W,(w.alloc (.cells #[.int .i64 v.age,.int .i64 v.year,.int .i64 v.children,.int .i64 v.insured,.int .i64 v.worked,.int .i64 v.voluntary,.int .i64 v.service,.int .i64 v.equated,.int .i64 v.raising,.int .i64 v.resident,.int .i64 v.bn,.int .i64 v.bd,.slice a v.years.length c] 38)).grow bs d=W:=⟨_,rfl⟩;have hg:w.Grows W:=by rw [<-hW];exact .of_below au
 have b0:W.cell? ⟨w.heap.size,10,none⟩=some (.int .i64 v.bn):=by rw [<-hW];simp [go_sem]
 have b1:W.cell? ⟨w.heap.size,11,none⟩=some (.int .i64 v.bd):=by rw [<-hW];simp [go_sem]
 have hsz:w.heap.size<W.heap.size:=by rw [<-hW];simp;omega
 rw [hW];clear hW;have HG2:=yq hg;clear hg
 go_loopw [54] (fun v54 wr=>∃k:Nat,k<=7/\v54= .int .i64 k/\Hid (∀j,j<k->dR (v.ds.getD j 0)=true)/\W=wr) (fun v54 _=>7-(intOf v54).toNat)
 case atStart=>exact⟨0,by omega,rfl,yq (fun j hj=>by omega),rfl⟩
 case round=>
  obtain⟨k,hk,rfl,hno,rfl⟩:=hrel;by_cases hlt:k<7
  ·have x0:=HIX.out k hlt W;have d1:(k:Int)<7:=by omega
   have HKL:=yq hlt;clear hlt;obtain⟨dk,hdk⟩:∃dk,v.ds.getD k 0=dk:=⟨_,rfl⟩;unfold Vw.ds at hdk;rw [hdk]at x0;have HDK:Hid (v.ds.getD k 0=dk):=yq hdk;exact RY
  ·obtain rfl:k=7:=by omega
   have HF:=yq (HG.out hno.out);unfold Vw.baseB at HF
   cases hq:az v.bn v.bd with
   |false=>
    rw [hq]at HF HV;have HF2:Hid (v.ok=false):=yq yo;clear hq
    go_wp2_with ((first|(go_at_call 127;refine gvq (HYR.out _ (.of_below zN)) ?_;intro bs d)|(go_at_call 128;refine gvq (HV.out _) ?_;intro bs3 d3)))
    go_returns
    exact⟨av zZ,World.Grows.trans HG2.out (.of_below au)⟩
   |true=>
    have HBE:=yq (fun hn=>Pg hq hn);have hbd:=aF hq;have hd0:v.bd≠0:=by omega
    rw [hq]at HF HV;clear hq;by_cases g2:v.bn≥0
    ·have HF3:Hid (v.ok=(decide (v.bn.tdiv v.bd<=1000000000000)&&(decide (v.bn.tdiv v.bd<1000000000000) || decide (v.bn.tmod v.bd=0)))):=yq (by
      rw [HF.out,<-HBE.out g2,Bool.true_and]
      simp [g2])
     have t1:=Int.tdiv_eq_ediv_of_nonneg (b:=v.bd) g2;have t2:=Int.tmod_eq_emod_of_nonneg (b:=v.bd) g2;have hb0:v.bn<=1000000000000000:=by omega
     have u1:0<=v.bn / v.bd:=Int.ediv_nonneg g2 zb;have u2:v.bn / v.bd<=1000000000000000:=Int.le_trans (Int.ediv_le_self v.bd g2) hb0;have u3:=Int.emod_nonneg v.bn hd0;have u4:=Int.emod_lt_of_pos v.bn (show 0<v.bd by omega);have e1:IntKind.i64.wrap (v.bn.tdiv v.bd)=v.bn.tdiv v.bd:=IntWalk.i64_in _ (by rw [t1];omega);have e2:IntKind.i64.wrap (v.bn.tmod v.bd)=v.bn.tmod v.bd:=IntWalk.i64_in _ (by rw [t2];omega);have e3:IntKind.i64.wrap (v.bn / v.bd)=v.bn / v.bd:=IntWalk.i64_in _ zb;have e4:IntKind.i64.wrap (v.bn % v.bd)=v.bn % v.bd:=IntWalk.i64_in _ zb;rw [t1,t2]at HF3;by_cases c1:v.bn / v.bd<1000000000000
     ·have c2:v.bn / v.bd<=1000000000000:=by omega
      have HF2:Hid (v.ok=true):=yq (by rw [HF3.out,decide_eq_true c1,decide_eq_true c2];rfl)
      go_wp2_with ((first|(go_at_call 127;refine gvq (HYR.out _ (.of_below zN)) ?_;intro bs d)|(go_at_call 128;refine gvq (HV.out _) ?_;intro bs3 d3)))
      go_returns
      exact⟨av zZ,World.Grows.trans HG2.out (.of_below au)⟩
     ·by_cases c2:v.bn / v.bd<=1000000000000
      ·by_cases c3:v.bn % v.bd=0
       focus
        have HF2:Hid (v.ok=true):=yq (by rw [HF3.out,decide_eq_true c3,decide_eq_true c2,Bool.or_true];rfl)
       rotate_left
       focus
        have c4:(v.bn % v.bd==0)=false:=by simpa using c3
        have HF2:Hid (v.ok=false):=yq (by rw [HF3.out,decide_eq_false c3,decide_eq_false c1];simp)
       rotate_left
       all_goals
        go_wp2_with ((first|(go_at_call 127;refine gvq (HYR.out _ (.of_below zN)) ?_;intro bs d)|(go_at_call 128;refine gvq (HV.out _) ?_;intro bs3 d3)))
        go_returns
        exact⟨av zZ,World.Grows.trans HG2.out (.of_below au)⟩
      ·have HF2:Hid (v.ok=false):=yq (by rw [HF3.out,decide_eq_false c2];rfl)
       go_wp2_with ((first|(go_at_call 127;refine gvq (HYR.out _ (.of_below zN)) ?_;intro bs d)|(go_at_call 128;refine gvq (HV.out _) ?_;intro bs3 d3)))
       go_returns
       exact⟨av zZ,World.Grows.trans HG2.out (.of_below au)⟩
    ·have HF2:Hid (v.ok=false):=yq xM
     go_wp2_with ((first|(go_at_call 127;refine gvq (HYR.out _ (.of_below zN)) ?_;intro bs d)|(go_at_call 128;refine gvq (HV.out _) ?_;intro bs3 d3)))
     go_returns
     exact⟨av zZ,World.Grows.trans HG2.out (.of_below au)⟩
theorem mg(v:Vw)(y:Value)(w:World)(hr:fP v)(hy:bR w y v.years):(Calls prog 67 #[vwV v y] w fun r w'=>r= .returned (.bool v.ok)/\w.Grows w'):=by
 by_cases h:0<=v.age/\v.age<=199/\1900<=v.year/\v.year<=2099/\0<=v.children/\v.children<=99
 ·by_cases hyo:bi v.years=true
  ·exact PW v y w hr hy h hyo
  ·exact MR v y w hy h (by simpa using hyo)
 ·obtain⟨-,a,c,rfl,-⟩:=hy;exact MS v _ w ⟨_,_,_,rfl⟩ h
def MW(x:Val):Value:=.agg #[.int .i64 x.dim,.bool x.yes,.int .i64 x.n,.int .i64 x.d]
def SG(x:Val):Prop:=I64 x.n/\I64 x.d
theorem IU(m n d:Int)(w:World):Calls prog 129 #[.int .i64 m,.agg #[.int .i64 n,.int .i64 d]] w fun r w'=>r= .returned (MW (.num m n d))/\w.Grows w':=by
 show Calls _ _ _ _ fun r w'=>r= .returned (.agg #[.int .i64 m,.bool false,.int .i64 n,.int .i64 d])/\_
 go_enter func129,ntmps129
 exact uD
def inV(o:Option Val):Value:=match o with|some x=>.tuple #[MW x,.bool true]|none=>.tuple #[MW .zero,.bool false]
theorem wz{s:List UInt8}(h:bE s≠0):s= [98,97,115,101]\/s= [97,103,101]\/s= [121,101,97,114]\/s= [99,104,105,108,100,114,101,110]\/s= [105,110,115,117,114,101,100]\/s= [119,111,114,107,101,100]\/s= [118,111,108,117,110,116,97,114,121]\/s= [115,101,114,118,105,99,101]\/s= [101,113,117,97,116,101,100]\/s= [114,97,105,115,105,110,103]\/s= [114,101,115,105,100,101,110,116]:=by
 unfold bE at h
 split at h
 ·rename_i c;rcases c with c|c|c<;>simp [c]
 ·split at h
  ·rename_i c;rcases c with c|c|c|c|c|c|c<;>simp [c]
  ·split at h
   ·rename_i c;simp [c]
   ·exact absurd rfl h
theorem Cn(v:Vw)(y:Value)(s:ByteArray)(w:World)(hr:fP v)(hy:bR w y v.years)(hd:bE s.toList≠0)(hv:v.ok=true):(Calls prog 68 #[vwV v y,.string s] w fun r w'=>r= .returned (inV (dJ v s))/\w.Grows w'):=by
 have HF:dJ v s=some (.num (bE s.toList) (v.numF s.toList).1 (v.numF s.toList).2):=by unfold dJ;rw [if_neg (by rw [hv];simp [hd])]
 rw [HF];show Calls _ _ _ _ fun r w'=>r= .returned (.tuple #[.agg #[.int .i64 (bE s.toList),.bool false,.int .i64 (v.numF s.toList).1,.int .i64 (v.numF s.toList).2],.bool true])/\_;have HY:=yq hy;have HV:=yq (fun w' (hg:w.Grows w')=>mg v y w' hr (HY.out.grows hg));have HI:=yq (fun w=>lg s w);have HN:=yq (fun m n d w=>IU m n d w);unfold MW Val.num at HN;dsimp only at HN;obtain⟨-,a,c,rfl,-⟩:=hy;unfold vwV at HV ⊢;rw [hv]at HV;have hc:=wz hd;clear hr HF hv;have HG:Hid (∀o1 o2,w.Grows ((w.alloc o1).alloc o2)):=yq (fun o1 o2=>.of_below au);rcases hc with hs|hs|hs|hs|hs|hs|hs|hs|hs|hs|hs
 all_goals
  rw [hs]at HI hd ⊢;simp [bE]at HI;simp only [bE,Vw.numF];simp;clear hd
  go_enter func68,ntmps68
  go_wp2_with (first
   |(go_at_call 100;refine gw (HI.out _) ?_)
   |(go_at_call 67;refine gvq (HV.out _ (HG.out _ _)) ?_;intro bs d)
   |(go_at_call 129;refine gvq (HN.out _ _ _ _) ?_;intro bs2 d2))
  exact qO
theorem Ck(v:Vw)(y:Value)(s:ByteArray)(w:World)(hr:fP v)(hy:bR w y v.years)(h:bE s.toList=0\/v.ok=false):(Calls prog 57 #[vwV v y,.string s] w fun r w'=>r= .returned (inV (dJ v s))/\w.Grows w'):=by
 have HF:Hid (dJ v s=none):=yq (by unfold dJ;rw [if_pos h]);rw [HF.out];show Calls _ _ _ _ fun r w'=>r= .returned (.tuple #[.agg #[.int .i64 0,.bool false,.int .i64 0,.int .i64 0],.bool false])/\_;have HY:=yq hy;have HV:=yq (fun w' (hg:w.Grows w')=>gT v y w' hr (HY.out.grows hg));have HI:=yq (fun w=>iI s w);obtain⟨-,a,c,rfl,-⟩:=hy;unfold vwV at HV ⊢;clear hr;by_cases hd:bE s.toList=0
 ·rw [hd]at HI;clear h hd
  go_enter func57,ntmps57
  go_wp2_with (go_at_call 45;refine gw (HI.out _) ?_)
  exact qO
 ·rw [h.resolve_left hd]at HV;rw [decide_eq_true hd]at HI;clear h hd;generalize bE s.toList=D at HI;have HG:Hid (∀o1 o2,w.Grows ((w.alloc o1).alloc o2)):=yq (fun o1 o2=>.of_below au);exact RN
def Vw.at(v:Vw)(k:Nat):Int:=[v.age,v.year,v.children,v.insured,v.worked,v.voluntary,v.service,v.equated,v.raising,v.resident].getD k 0
theorem IB{v:Vw}{s:ByteArray}(h:bE s.toList≠0)(hb:¬s.toList= [98,97,115,101]):∃j,j<10/\(bC j).toList=s.toList/\v.numF s.toList=(v.at j,1)/\∀k,k<11->k≠j->((bC k).toList==s.toList)=false:=by
 have hc:=(wz h).resolve_left hb;generalize s.toList=l at *;rcases hc with rfl|rfl|rfl|rfl|rfl|rfl|rfl|rfl|rfl|rfl
 ·exact⟨0,by omega,by decide+kernel,rfl,fun k h1 h2=>by rcases(show k=1\/k=2\/k=3\/k=4\/k=5\/k=6\/k=7\/k=8\/k=9\/k=10 by omega)with rfl|rfl|rfl|rfl|rfl|rfl|rfl|rfl|rfl|rfl<;>decide+kernel⟩
 ·exact⟨1,by omega,by decide+kernel,rfl,fun k h1 h2=>by rcases(show k=0\/k=2\/k=3\/k=4\/k=5\/k=6\/k=7\/k=8\/k=9\/k=10 by omega)with rfl|rfl|rfl|rfl|rfl|rfl|rfl|rfl|rfl|rfl<;>decide+kernel⟩
 ·exact⟨2,by omega,by decide+kernel,rfl,fun k h1 h2=>by rcases(show k=0\/k=1\/k=3\/k=4\/k=5\/k=6\/k=7\/k=8\/k=9\/k=10 by omega)with rfl|rfl|rfl|rfl|rfl|rfl|rfl|rfl|rfl|rfl<;>decide+kernel⟩
 ·exact⟨3,by omega,by decide+kernel,rfl,fun k h1 h2=>by rcases(show k=0\/k=1\/k=2\/k=4\/k=5\/k=6\/k=7\/k=8\/k=9\/k=10 by omega)with rfl|rfl|rfl|rfl|rfl|rfl|rfl|rfl|rfl|rfl<;>decide+kernel⟩
 ·exact⟨4,by omega,by decide+kernel,rfl,fun k h1 h2=>by rcases(show k=0\/k=1\/k=2\/k=3\/k=5\/k=6\/k=7\/k=8\/k=9\/k=10 by omega)with rfl|rfl|rfl|rfl|rfl|rfl|rfl|rfl|rfl|rfl<;>decide+kernel⟩
 ·exact⟨5,by omega,by decide+kernel,rfl,fun k h1 h2=>by rcases(show k=0\/k=1\/k=2\/k=3\/k=4\/k=6\/k=7\/k=8\/k=9\/k=10 by omega)with rfl|rfl|rfl|rfl|rfl|rfl|rfl|rfl|rfl|rfl<;>decide+kernel⟩
 ·exact⟨6,by omega,by decide+kernel,rfl,fun k h1 h2=>by rcases(show k=0\/k=1\/k=2\/k=3\/k=4\/k=5\/k=7\/k=8\/k=9\/k=10 by omega)with rfl|rfl|rfl|rfl|rfl|rfl|rfl|rfl|rfl|rfl<;>decide+kernel⟩
 ·exact⟨7,by omega,by decide+kernel,rfl,fun k h1 h2=>by rcases(show k=0\/k=1\/k=2\/k=3\/k=4\/k=5\/k=6\/k=8\/k=9\/k=10 by omega)with rfl|rfl|rfl|rfl|rfl|rfl|rfl|rfl|rfl|rfl<;>decide+kernel⟩
 ·exact⟨8,by omega,by decide+kernel,rfl,fun k h1 h2=>by rcases(show k=0\/k=1\/k=2\/k=3\/k=4\/k=5\/k=6\/k=7\/k=9\/k=10 by omega)with rfl|rfl|rfl|rfl|rfl|rfl|rfl|rfl|rfl|rfl<;>decide+kernel⟩
 ·exact⟨9,by omega,by decide+kernel,rfl,fun k h1 h2=>by rcases(show k=0\/k=1\/k=2\/k=3\/k=4\/k=5\/k=6\/k=7\/k=8\/k=10 by omega)with rfl|rfl|rfl|rfl|rfl|rfl|rfl|rfl|rfl|rfl<;>decide+kernel⟩
theorem Vw.at_days(v:Vw)(k:Nat):v.at (k+3)=v.ds.getD k 0:=rfl
theorem Cm(v:Vw)(y:Value)(s:ByteArray)(w:World)(hr:fP v)(hy:bR w y v.years)(hd:bE s.toList≠0)(hv:v.ok=true)(hb:s.toList= [98,97,115,101]):(Calls prog 57 #[vwV v y,.string s] w fun r w'=>r= .returned (inV (dJ v s))/\w.Grows w'):=by
 have HF:Hid (dJ v s=some (.num (bE s.toList) (v.numF s.toList).1 (v.numF s.toList).2)):=yq xK;rw [HF.out];show Calls _ _ _ _ fun r w'=>r= .returned (.tuple #[.agg #[.int .i64 (bE s.toList),.bool false,.int .i64 (v.numF s.toList).1,.int .i64 (v.numF s.toList).2],.bool true])/\_;have HY:=yq hy;have HV:=yq (fun w' (hg:w.Grows w')=>gT v y w' hr (HY.out.grows hg));have HI:=yq (fun w=>iI s w);obtain⟨-,a,c,rfl,-⟩:=hy;have HDS:=yq (fun w=>tY v (.slice a v.years.length c) w ⟨a,_,c,rfl⟩);unfold vwV at HV HDS ⊢;rw [hv]at HV;rw [decide_eq_true hd]at HI;clear hr HF hv;have HG:Hid (∀o1 o2,w.Grows ((w.alloc o1).alloc o2)):=yq (fun o1 o2=>.of_below au);have hN:v.numF s.toList=(v.bn,v.bd):=by rw [hb];rfl
 rw [hN];clear HDS hN hd;generalize bE s.toList=D at *;have hb2:(s.toList== [98,97,115,101])=true:=by rw [hb];rfl
 exact RN
theorem EA(v:Vw)(y:Value)(s:ByteArray)(w:World)(hr:fP v)(hy:bR w y v.years)(hd:bE s.toList≠0)(hv:v.ok=true)(hb:¬s.toList= [98,97,115,101]):(Calls prog 57 #[vwV v y,.string s] w fun r w'=>r= .returned (inV (dJ v s))/\w.Grows w'):=by
 have HF:Hid (dJ v s=some (.num (bE s.toList) (v.numF s.toList).1 (v.numF s.toList).2)):=yq xK;rw [HF.out];show Calls _ _ _ _ fun r w'=>r= .returned (.tuple #[.agg #[.int .i64 (bE s.toList),.bool false,.int .i64 (v.numF s.toList).1,.int .i64 (v.numF s.toList).2],.bool true])/\_;have HY:=yq hy;have HV:=yq (fun w' (hg:w.Grows w')=>gT v y w' hr (HY.out.grows hg));have HI:=yq (fun w=>iI s w);obtain⟨-,a,c,rfl,-⟩:=hy;have HDS:=yq (fun w=>tY v (.slice a v.years.length c) w ⟨a,_,c,rfl⟩);unfold vwV at HV HDS ⊢;rw [hv]at HV;rw [decide_eq_true hd]at HI;clear hr HF hv;have HG:Hid (∀o1 o2,w.Grows ((w.alloc o1).alloc o2)):=yq (fun o1 o2=>.of_below au);obtain⟨j,hj,hjs,hN,hne⟩:=IB (v:=v) hd hb;rw [hN];clear hN hd;generalize bE s.toList=D at *;have hb2:(s.toList== [98,97,115,101])=false:=by rw [beq_eq_false_iff_ne];exact hb
 have HNE:=yq hne;have HJS:Hid (((bC j).toList==s.toList)=true):=yq (by rw [hjs];simp);clear hb hjs hne;dsimp only
 go_enter func57,ntmps57
 go_wp2_with (first
  |(go_at_call 45;refine gw (HI.out _) ?_)
  |(go_at_call 41;refine gvq (HV.out _ (HG.out _ _)) ?_;intro bs d)
  |(go_at_call 58;refine gw (iH _) ?_)
  |(go_at_call 94;refine gvq (HDS.out _) ?_;intro bs2 d2))
 obtain⟨W,hW⟩:∃W,((((((w.alloc (.cells #[.int .i64 v.age,.int .i64 v.year,.int .i64 v.children,.int .i64 v.insured,.int .i64 v.worked,.int .i64 v.voluntary,.int .i64 v.service,.int .i64 v.equated,.int .i64 v.raising,.int .i64 v.resident,.int .i64 v.bn,.int .i64 v.bd,.slice a v.years.length c] 38)).alloc (.cells #[.int .i64 0,.bool false,.int .i64 0,.int .i64 0] 41)).grow bs d).alloc (.cells oM 9)).grow bs2 d2).alloc (.cells #[.int .i64 v.insured,.int .i64 v.worked,.int .i64 v.voluntary,.int .i64 v.service,.int .i64 v.equated,.int .i64 v.raising,.int .i64 v.resident] 90))=W:=⟨_,rfl⟩;have hg:w.Grows W:=by rw [<-hW];exact .of_below au
 have b0:W.cell? ⟨w.heap.size,0,none⟩=some (.int .i64 v.age):=by rw [<-hW];simp [go_sem]
 have b1:W.cell? ⟨w.heap.size,1,none⟩=some (.int .i64 v.year):=by rw [<-hW];simp [go_sem]
 have b2:W.cell? ⟨w.heap.size,2,none⟩=some (.int .i64 v.children):=by rw [<-hW];simp [go_sem]
 have r0:W.cell? ⟨w.heap.size+1,0,none⟩=some (.int .i64 0):=by rw [<-hW];simp [go_sem]
 have r1:W.cell? ⟨w.heap.size+1,1,none⟩=some (.bool false):=by rw [<-hW];simp [go_sem]
 have r2:W.cell? ⟨w.heap.size+1,2,none⟩=some (.int .i64 0):=by rw [<-hW];simp [go_sem]
 have r3:W.cell? ⟨w.heap.size+1,3,none⟩=some (.int .i64 0):=by rw [<-hW];simp [go_sem]
 have rf:∀j,W.frozen? ⟨w.heap.size+1,j,none⟩=false:=by intro j;rw [<-hW];simp [go_sem]
 have HA:Hid (∀k,k<7->W.cell? ⟨w.heap.size+1+1+bs.size+1+bs2.size,k,none⟩=some (.int .i64 (v.ds.getD k 0))):=yq (fun k hk=>by
  rw [<-hW,World.cell?_alloc_at _ _ _ _ ze]
  rcases(show k=0\/k=1\/k=2\/k=3\/k=4\/k=5\/k=6 by omega)with rfl|rfl|rfl|rfl|rfl|rfl|rfl<;>rfl)
 have HNM:Hid (∀k,k<11->W.cell? ⟨w.heap.size+1+1+bs.size,k,none⟩=some (.string (bC k))):=yq (fun k hk=>by
  rw [<-hW,World.cell?_alloc_lt _ _ _ zg,World.cell?_grow _ _ _ ze,World.cell?_alloc_at _ _ _ _ ze]
  exact lW k hk)
 have hsz:w.heap.size+1<W.heap.size:=by rw [<-hW];simp;omega
 rw [hW];have HW:=yq hW;clear hW;have HG2:=yq hg;clear hg;generalize w.heap.size+1+1+bs.size+1+bs2.size=B2 at *;generalize w.heap.size+1+1+bs.size=B1 at *
 go_loopw [10,11] (fun v10 v11 wr=>∃k:Nat,k<=11/\v11= .int .i64 k/\v10= .int .i64 (if k<=j then 0 else v.at j)/\W=wr) (fun _ v11 _=>11-(intOf v11).toNat)
 case atStart=>exact⟨0,by omega,rfl,by simp,rfl⟩
 case round=>
  obtain⟨k,hk,rfl,rfl,rfl⟩:=hrel;by_cases hlt:k<11
  ·have x0:=HNM.out k hlt;have d1:(k:Int)<11:=by omega
   have HKL:=yq hlt;by_cases hkj:k=j
   ·subst hkj;have he:=HJS.out;generalize hN:bC k=nk at *;generalize hI:(if k<=k then(0:Int)else v.at k)=I0;clear hlt hN hI;by_cases h0:k=0
    ·subst h0
     go_wp2_with fail
     go_roundw
     case rel=>exact⟨1,by omega,rfl,by simp [Vw.at],zF⟩
     case measure=>simp [intOf]
    ·by_cases h1:k=1
     ·subst h1
      go_wp2_with fail
      go_roundw
      case rel=>exact⟨2,by omega,rfl,by simp [Vw.at],zF⟩
      case measure=>simp [intOf]
     ·by_cases h2:k=2
      ·subst h2
       go_wp2_with fail
       go_roundw
       case rel=>exact⟨3,by omega,rfl,by simp [Vw.at],zF⟩
       case measure=>simp [intOf]
      ·obtain⟨m,rfl⟩:∃m,k=m+3:=⟨k-3,by omega⟩;have hm7:m<7:=by omega
       have y0:=HA.out m hm7;have hm7i:(m:Int)<7:=by omega
       have HAT:=yq (Vw.at_days v m);generalize v.ds.getD m 0=dm at *;clear h0 h1 h2
       go_wp2_with fail
       go_roundw
       case rel=>exact⟨m+3+1,by omega,by go_num,by rw [if_neg zb,HAT.out],zF⟩
       case measure=>simp [intOf];omega
   ·have he:=HNE.out k hlt hkj;generalize hN:bC k=nk at *;have HI3:Hid ((if k<=j then(0:Int)else v.at j)=(if k+1<=j then(0:Int)else v.at j)):=yq (by split<;>split<;>first|rfl|omega);generalize hI:(if k<=j then(0:Int)else v.at j)=I0 at *;clear hlt hN hI
    go_wp2_with fail
    go_roundw
    case rel=>exact⟨k+1,by omega,by go_num,by rw [HI3.out],zF⟩
    case measure=>simp [intOf];have:=HKL.out;omega
  ·obtain rfl:k=11:=by omega
   rw [if_neg zb];have hW:=HW.out;subst hW;clear b0 b1 b2 r0 r1 r2 r3 rf HA HNM HG2 hsz HW;exact uD
end Go.Proofs.YteildlpchhlchaaGreatDoor
