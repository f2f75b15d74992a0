import Derived.Test.YtcfpoofhokbhlaaGreatDoorVFrMd
set_option linter.all false
set_option maxHeartbeats 16000000
set_option maxRecDepth 1000000
namespace Go.Proofs.YtcfpoofhokbhlaaGreatDoor
open Tryz List
open Go.RowKit
theorem Ew(n d a b g p q n1 n2 n3:Int)(s t neg:Bool)(hneg:((s !=t)&&(n !=0))=neg)(w:World)(h1:decide (n<0)=s)(h2:decide (d<0)=t)(d0:(d==0)=false)(g1:1<=g)(g0:(g==0)=false)(e1:IntKind.u64.wrap (a.tdiv g)=p)(e2:IntKind.u64.wrap (b.tdiv g)=q)
 (Z1:Hid (∀w,Calls prog 80 #[.int .i64 n] w fun e w'=>e= .returned (.int .u64 a)/\w=w'))
 (Z2:Hid (∀w,Calls prog 80 #[.int .i64 d] w fun e w'=>e= .returned (.int .u64 b)/\w=w'))
 (G:Hid (∀w,Calls prog 79 #[.int .u64 a,.int .u64 b] w fun e w'=>e= .returned (.int .u64 g)/\w.Grows w'))
 (Q:Hid (∀w,Calls prog 149 #[.bool neg,.agg #[.int .u64 0,.int .u64 p],.agg #[.int .u64 0,.int .u64 q]] w fun e w'=>e= .returned (.tuple #[.agg #[.int .i64 n1,.int .i64 n2],.int .i64 n3])/\w.Grows w'))
 :Calls prog 127 #[.int .i64 n,.int .i64 d] w fun e w'=>e= .returned (.tuple #[.agg #[.int .i64 n1,.int .i64 n2],.int .i64 n3])/\w.Grows w':=by
 by_cases c:n=0
 ·subst c;cases s
  ·obtain rfl:neg=false:=by rw [<-hneg];cases t<;>rfl
   clear hneg;cases t
   focus
    go_enter func127,ntmps127
    go_wp2_with (first|(go_at_call 80;(with_reducible refine gw (Z1.out _) ?_);clear Z1)|(go_at_call 80;(with_reducible refine gw (Z2.out _) ?_);clear Z2)|(go_at_call 79;(with_reducible refine gvq (G.out _) ?_);intro bs dr;clear G))
    have gz:¬g=0:=by omega
    refine TS.begin [20,21] (World.Grows _) zf zf aI (fun hS=>?_);refine kq 0 hS ?_;refine kq 1 hS ?_;refine kq 2 hS ?_;refine kq 3 hS ?_;refine kq 4 hS ?_;refine kq 5 hS ?_;refine TS.take (i:=6) (v:=undef) rfl zf zf zf zo (fun _ _ _ h=>h) (.inl ⟨rfl,rfl⟩) hS ?_
    (try simp only [nS])
    refine TS.take (i:=7) (v:=undef) rfl zf zf zf zo (fun _ _ _ h=>h) (.inl ⟨rfl,rfl⟩) hS ?_
    (try simp only [nS])
   rotate_left
   focus
    go_enter func127,ntmps127
    go_wp2_with (first|(go_at_call 80;(with_reducible refine gw (Z1.out _) ?_);clear Z1)|(go_at_call 80;(with_reducible refine gw (Z2.out _) ?_);clear Z2)|(go_at_call 79;(with_reducible refine gvq (G.out _) ?_);intro bs dr;clear G))
    have gz:¬g=0:=by omega
    refine TS.begin [20,21] (World.Grows _) zf zf aI (fun hS=>?_);refine kq 0 hS ?_;refine kq 1 hS ?_;refine kq 2 hS ?_;refine kq 3 hS ?_;refine kq 4 hS ?_;refine kq 5 hS ?_;refine kq 6 hS ?_;refine kq 7 hS ?_
   rotate_left
   all_goals
    refine kq 8 hS ?_;refine kq 9 hS ?_;refine kq 10 hS ?_;refine TS.takeV (i:=11) (v:=.int .u64 (p)) rfl zf zf zf zo (fun _ _ _ h=>h) rfl hS ?_ ?_
    focus
     rintro wS ⟨gbS,gdS,rfl⟩
     go_simp
     (try exact e1)
    (try simp only [nS])
    refine kq 12 hS ?_;refine kq 13 hS ?_;refine kq 14 hS ?_;refine TS.takeV (i:=15) (v:=.int .u64 (q)) rfl zf zf zf zo (fun _ _ _ h=>h) rfl hS ?_ ?_
    focus
     rintro wS ⟨gbS,gdS,rfl⟩
     go_simp
     (try exact e2)
    (try simp only [nS])
    refine kq 16 hS ?_;refine TS.one (i:=17) zf rfl (fun K1 hK1=>?_)
    go_simp
    go_at_call 149
    refine gvq (Q.out _) ?_;intro bA dA;refine TS.go hK1 zA (fun hS=>?_);clear hK1 K1
    (try simp only [nS])
    refine kq 18 hS ?_;refine kq 19 hS ?_;refine TS.wtB 20 ?_;refine TS.weB 21 ?_;clear hS
    go_wp2_with fail
    go_returns
    exact⟨rfl,.of_below af⟩
  ·exact absurd h1 zo
 ·have c1:(n !=0)=true:=by simpa using c
  have c2:(n==0)=false:=by simpa using c
  rw [c1,Bool.and_true]at hneg;subst hneg;cases s<;>cases t
  focus
   go_enter func127,ntmps127
   go_wp2_with (first|(go_at_call 80;(with_reducible refine gw (Z1.out _) ?_);clear Z1)|(go_at_call 80;(with_reducible refine gw (Z2.out _) ?_);clear Z2)|(go_at_call 79;(with_reducible refine gvq (G.out _) ?_);intro bs dr;clear G))
   have gz:¬g=0:=by omega
   refine TS.begin [20,21] (World.Grows _) zf zf aI (fun hS=>?_);refine kq 0 hS ?_;refine kq 1 hS ?_;refine kq 2 hS ?_;refine kq 3 hS ?_;refine kq 4 hS ?_;refine kq 5 hS ?_;refine TS.take (i:=6) (v:=undef) rfl zf zf zf zo (fun _ _ _ h=>h) (.inl ⟨rfl,rfl⟩) hS ?_
   (try simp only [nS])
   refine TS.take (i:=7) (v:=undef) rfl zf zf zf zo (fun _ _ _ h=>h) (.inl ⟨rfl,rfl⟩) hS ?_
   (try simp only [nS])
  rotate_left
  focus
   go_enter func127,ntmps127
   go_wp2_with (first|(go_at_call 80;(with_reducible refine gw (Z1.out _) ?_);clear Z1)|(go_at_call 80;(with_reducible refine gw (Z2.out _) ?_);clear Z2)|(go_at_call 79;(with_reducible refine gvq (G.out _) ?_);intro bs dr;clear G))
   have gz:¬g=0:=by omega
   refine TS.begin [20,21] (World.Grows _) zf zf aI (fun hS=>?_);refine kq 0 hS ?_;refine kq 1 hS ?_;refine kq 2 hS ?_;refine kq 3 hS ?_;refine kq 4 hS ?_;refine kq 5 hS ?_;refine kq 6 hS ?_;refine kq 7 hS ?_
  rotate_left
  focus
   go_enter func127,ntmps127
   go_wp2_with (first|(go_at_call 80;(with_reducible refine gw (Z1.out _) ?_);clear Z1)|(go_at_call 80;(with_reducible refine gw (Z2.out _) ?_);clear Z2)|(go_at_call 79;(with_reducible refine gvq (G.out _) ?_);intro bs dr;clear G))
   have gz:¬g=0:=by omega
   refine TS.begin [20,21] (World.Grows _) zf zf aI (fun hS=>?_);refine kq 0 hS ?_;refine kq 1 hS ?_;refine kq 2 hS ?_;refine kq 3 hS ?_;refine kq 4 hS ?_;refine kq 5 hS ?_;refine kq 6 hS ?_;refine kq 7 hS ?_
  rotate_left
  focus
   go_enter func127,ntmps127
   go_wp2_with (first|(go_at_call 80;(with_reducible refine gw (Z1.out _) ?_);clear Z1)|(go_at_call 80;(with_reducible refine gw (Z2.out _) ?_);clear Z2)|(go_at_call 79;(with_reducible refine gvq (G.out _) ?_);intro bs dr;clear G))
   have gz:¬g=0:=by omega
   refine TS.begin [20,21] (World.Grows _) zf zf aI (fun hS=>?_);refine kq 0 hS ?_;refine kq 1 hS ?_;refine kq 2 hS ?_;refine kq 3 hS ?_;refine kq 4 hS ?_;refine kq 5 hS ?_;refine TS.take (i:=6) (v:=undef) rfl zf zf zf zo (fun _ _ _ h=>h) (.inl ⟨rfl,rfl⟩) hS ?_
   (try simp only [nS])
   refine TS.take (i:=7) (v:=undef) rfl zf zf zf zo (fun _ _ _ h=>h) (.inl ⟨rfl,rfl⟩) hS ?_
   (try simp only [nS])
  rotate_left
  all_goals
   refine kq 8 hS ?_;refine kq 9 hS ?_;refine kq 10 hS ?_;refine TS.takeV (i:=11) (v:=.int .u64 (p)) rfl zf zf zf zo (fun _ _ _ h=>h) rfl hS ?_ ?_
   focus
    rintro wS ⟨gbS,gdS,rfl⟩
    go_simp
    (try exact e1)
   (try simp only [nS])
   refine kq 12 hS ?_;refine kq 13 hS ?_;refine kq 14 hS ?_;refine TS.takeV (i:=15) (v:=.int .u64 (q)) rfl zf zf zf zo (fun _ _ _ h=>h) rfl hS ?_ ?_
   focus
    rintro wS ⟨gbS,gdS,rfl⟩
    go_simp
    (try exact e2)
   (try simp only [nS])
   refine kq 16 hS ?_;refine TS.one (i:=17) zf rfl (fun K1 hK1=>?_)
   go_simp
   go_at_call 149
   refine gvq (Q.out _) ?_;intro bA dA;refine TS.go hK1 zA (fun hS=>?_);clear hK1 K1
   (try simp only [nS])
   refine kq 18 hS ?_;refine kq 19 hS ?_;refine TS.wtB 20 ?_;refine TS.weB 21 ?_;clear hS
   go_wp2_with fail
   go_returns
   exact⟨rfl,.of_below af⟩
theorem Ev(n:Int)(w:World):Calls prog 127 #[.int .i64 n,.int .i64 0] w fun e w'=>e= .returned (frV (0,0,3))/\w.Grows w':=by
 go_enter func127,ntmps127
 exact nE
theorem sP(n:Int):aG n=((n.natAbs:Nat):Int):=rfl
theorem ni{d:Int}(h:1<=d):d=((d.natAbs:Nat):Int):=by omega
theorem MR(an ad bn bd:Int)(w:World)(hi:kS an ad bn bd):Calls prog 133 #[.agg #[.int .i64 an,.int .i64 ad],.agg #[.int .i64 bn,.int .i64 bd]] w fun e w'=>e= .returned (frV (lL an ad bn bd))/\w.Grows w':=by
 obtain⟨i1,i2,i3,i4⟩:=hi;have V1:=yq (fun w=>dN an ad w i1.1 i1.2 i2.1 i2.2);have V2:=yq (fun w=>dN bn bd w i3.1 i3.2 i4.1 i4.2);by_cases hv:(ay an ad&&ay bn bd)=true
 case neg=>
  have e:lL an ad bn bd=(0,0,1):=by unfold lL;rw [if_neg hv]
  rw [e];exact OE an ad bn bd _ _ w (Bool.eq_false_iff.2 hv) V1 V2
 have hva:=(Bool.and_eq_true_iff.1 hv).1;have hvb:=(Bool.and_eq_true_iff.1 hv).2;have e:lL an ad bn bd=nQ (decide (an<0)!=decide (bn<0)) an.natAbs ad.natAbs bn.natAbs bd.natAbs:=by unfold lL;rw [if_pos hv];try rfl
 rw [e];rw [hva]at V1;rw [hvb]at V2;have b1:=aC hva;have b2:=aC hvb;obtain⟨neg,hc,hz⟩:=F3 an bn;rw [<-wE (b:=neg) hz];exact Ij an ad bn bd _ _ _ _ _ _ _ neg w rfl rfl rfl rfl hc V1 V2 (fun n h w=>iF n w h.1 h.2) i1 i2 i3 i4 (fun w=>nK neg an.natAbs ad.natAbs bn.natAbs bd.natAbs w ze ze ze ze ze ze)
theorem M0(an ad bn bd:Int)(w:World)(hi:kS an ad bn bd):Calls prog 134 #[.agg #[.int .i64 an,.int .i64 ad],.agg #[.int .i64 bn,.int .i64 bd]] w fun e w'=>e= .returned (frV (lM an ad bn bd))/\w.Grows w':=by
 obtain⟨i1,i2,i3,i4⟩:=hi;have V1:=yq (fun w=>dN an ad w i1.1 i1.2 i2.1 i2.2);have V2:=yq (fun w=>dN bn bd w i3.1 i3.2 i4.1 i4.2);by_cases hv:(ay an ad&&ay bn bd)=true
 case neg=>
  have e:lM an ad bn bd=(0,0,1):=by unfold lM;rw [if_neg hv]
  rw [e];exact Pw an ad bn bd _ _ w (Bool.eq_false_iff.2 hv) V1 V2
 have hva:=(Bool.and_eq_true_iff.1 hv).1;have hvb:=(Bool.and_eq_true_iff.1 hv).2;have e:lM an ad bn bd=(if bn=0 then(0,0,3)else nQ (decide (an<0)!=decide (bn<0)) an.natAbs ad.natAbs bd.natAbs bn.natAbs):=by unfold lM;rw [if_pos hv];try rfl
 rw [e];rw [hva]at V1;rw [hvb]at V2;have b1:=aC hva;have b2:=aC hvb;by_cases h0:bn=0
 ·subst h0;rw [if_pos rfl];exact Jg an ad bd w V1 V2
 rw [if_neg h0];obtain⟨neg,hc,hz⟩:=F3 an bn
 have hz':an.natAbs=0\/bd.natAbs=0\/neg=(decide (an<0)!=decide (bn<0)):=by
  rcases hz with h|h|h
  ·exact .inl h
  ·omega
  ·exact .inr (.inr h)
 rw [<-wE (b:=neg) hz'];exact Jh an ad bn bd _ _ _ _ _ _ _ neg w rfl rfl rfl rfl hc yG V1 V2 (fun n h w=>iF n w h.1 h.2) i1 i2 i3 i4 (fun w=>nK neg an.natAbs ad.natAbs bd.natAbs bn.natAbs w ze ze ze ze ze ze)
theorem MS(an ad bn bd:Int)(w:World)(hi:kS an ad bn bd):Calls prog 110 #[.agg #[.int .i64 an,.int .i64 ad],.agg #[.int .i64 bn,.int .i64 bd]] w fun e w'=>e= .returned (frV (lL an ad bn bd))/\w.Grows w':=by
 obtain⟨i1,i2,i3,i4⟩:=hi;have V1:=yq (fun w=>bZ an ad w i1.1 i1.2 i2.1 i2.2);have V2:=yq (fun w=>bZ bn bd w i3.1 i3.2 i4.1 i4.2);by_cases hv:(ay an ad&&ay bn bd)=true
 case neg=>
  have e:lL an ad bn bd=(0,0,1):=by unfold lL;rw [if_neg hv]
  rw [e];exact OG an ad bn bd _ _ w (Bool.eq_false_iff.2 hv) V1 V2
 have hva:=(Bool.and_eq_true_iff.1 hv).1;have hvb:=(Bool.and_eq_true_iff.1 hv).2;have e:lL an ad bn bd=nQ (decide (an<0)!=decide (bn<0)) an.natAbs ad.natAbs bn.natAbs bd.natAbs:=by unfold lL;rw [if_pos hv];try rfl
 rw [e];rw [hva]at V1;rw [hvb]at V2;have b1:=aC hva;have b2:=aC hvb;refine Ik an ad bn bd _ _ _ _ _ w rfl rfl (IntWalk.u64_in _ ze) (IntWalk.u64_in _ ze) V1 V2 (fun n h w=>fO n w h.1 h.2) i1 i2 i3 i4 (fun w=>?_);have:=oU (decide (an<0)!=decide (bn<0)) an.natAbs ad.natAbs bn.natAbs bd.natAbs w ze ze ze ze ze ze;rw [<-ni b1.1,<-ni b2.1]at this;exact this
theorem M3(an ad bn bd:Int)(w:World)(hi:kS an ad bn bd):Calls prog 111 #[.agg #[.int .i64 an,.int .i64 ad],.agg #[.int .i64 bn,.int .i64 bd]] w fun e w'=>e= .returned (frV (lM an ad bn bd))/\w.Grows w':=by
 obtain⟨i1,i2,i3,i4⟩:=hi;have V1:=yq (fun w=>bZ an ad w i1.1 i1.2 i2.1 i2.2);have V2:=yq (fun w=>bZ bn bd w i3.1 i3.2 i4.1 i4.2);by_cases hv:(ay an ad&&ay bn bd)=true
 case neg=>
  have e:lM an ad bn bd=(0,0,1):=by unfold lM;rw [if_neg hv]
  rw [e];exact Px an ad bn bd _ _ w (Bool.eq_false_iff.2 hv) V1 V2
 have hva:=(Bool.and_eq_true_iff.1 hv).1;have hvb:=(Bool.and_eq_true_iff.1 hv).2;have e:lM an ad bn bd=(if bn=0 then(0,0,3)else nQ (decide (an<0)!=decide (bn<0)) an.natAbs ad.natAbs bd.natAbs bn.natAbs):=by unfold lM;rw [if_pos hv];try rfl
 rw [e];rw [hva]at V1;rw [hvb]at V2;have b1:=aC hva;have b2:=aC hvb;by_cases h0:bn=0
 ·subst h0;rw [if_pos rfl];exact Ji an ad bd w V1 V2
 rw [if_neg h0];refine Jj an ad bn bd _ _ _ _ _ w rfl rfl (IntWalk.u64_in _ ze) (IntWalk.u64_in _ ze) yG V1 V2 (fun n h w=>fO n w h.1 h.2) i1 i2 i3 i4 (fun w=>?_);have:=oU (decide (an<0)!=decide (bn<0)) an.natAbs ad.natAbs bd.natAbs bn.natAbs w ze ze ze ze ze ze;rw [<-ni b1.1,<-ni b2.1]at this;exact this
theorem pI{an bd:Int}(h1:-1000000000000000<=an)(h2:an<=1000000000000000)(h3:1<=bd)(h4:bd<=1000000000):an.natAbs*bd.natAbs<=1000000000000000000000000:=
 Nat.le_trans (Nat.mul_le_mul (show an.natAbs<=1000000000000000 by omega) (show bd.natAbs<=1000000000 by omega)) zo
theorem Gr{ad bd:Int}(h1:1<=ad)(h2:ad<=1000000000)(h3:1<=bd)(h4:bd<=1000000000):0<ad.natAbs*bd.natAbs/\ad.natAbs*bd.natAbs<=1000000000000000000:=
 ⟨Nat.mul_pos ze ze,Nat.le_trans (Nat.mul_le_mul (show ad.natAbs<=1000000000 by omega) (show bd.natAbs<=1000000000 by omega)) zo⟩
theorem qD{n:Nat}(h:n<18446744073709551616):hiW n=0:=by unfold hiW;omega
theorem qp{n:Nat}(h:n<18446744073709551616):loW n=(n:Int):=by unfold loW;omega
def pO(neg:Bool)(N D:Nat):Int × Int × Int:=(jZ neg N D,l8 N D,kJ N D)
theorem jL{b c:Bool}{N D:Nat}(h:N=0\/b=c):pO b N D=pO c N D:=by unfold pO;rw [Lf h]
theorem OL(neg:Bool)(N D:Nat)(hD:D<=1000000000000000000):jq neg (hiW (N / Nat.gcd N D)) (loW (N / Nat.gcd N D)) 0 ((D / Nat.gcd N D:Nat):Int)=frV (pO neg N D):=by
 have h:=sK neg (N / Nat.gcd N D) (D / Nat.gcd N D);have h2:D / Nat.gcd N D<=D:=Nat.div_le_self _ _;have e1:hiW (D / Nat.gcd N D)=0:=qD ze;have e2:loW (D / Nat.gcd N D)=((D / Nat.gcd N D:Nat):Int):=qp ze;rw [e1,e2]at h;rw [h];unfold pO jZ l8 kJ
 split<;>rfl
theorem uV{ad bd:Int}{D:Nat}(h:ad.natAbs*bd.natAbs=D)(hD:D<=1000000000000000000):IntKind.u64.wrap (aG ad*aG bd)=(D:Int):=by
 have e:aG ad*aG bd=(D:Int):=by rw [sP,sP,<-Int.natCast_mul,h]
 rw [e];exact IntWalk.u64_in _ ze
theorem Sk(neg:Bool)(N D:Nat)(hN:N<=1000000000000000000000000000)(hD0:0<D)(hD:D<=1000000000000000000) :
 (hiW N=0->loW N=0->pO neg N D=(0,1,0))/\
 (∀w,Calls prog 149 #[.bool neg,.agg #[.int .u64 (hiW (N / Nat.gcd N D)),.int .u64 (loW (N / Nat.gcd N D))],.agg #[.int .u64 0,.int .u64 (D / Nat.gcd N D:Nat)]] w fun e w'=>e= .returned (frV (pO neg N D))/\w.Grows w')/\
 (∀w,Calls prog 155 #[.agg #[.int .u64 (hiW N),.int .u64 (loW N)],.int .u64 (Nat.gcd N D:Nat)] w fun e w'=>e= .returned (.agg #[.int .u64 (hiW (N / Nat.gcd N D)),.int .u64 (loW (N / Nat.gcd N D))])/\w.Grows w')/\
 (∀w,Calls prog 154 #[.int .u64 (hiW N),.int .u64 (loW N),.int .u64 (D:Nat)] w fun e w'=>e= .returned (.int .u64 (lK N D))/\w.Grows w')/\
 (∀w,Calls prog 79 #[.int .u64 (D:Nat),.int .u64 (lK N D)] w fun e w'=>e= .returned (.int .u64 (Nat.gcd N D:Nat))/\w.Grows w'):=by
 have hg:0<Nat.gcd N D:=Nat.gcd_pos_of_pos_right _ hD0;have hgd:Nat.gcd N D<=D:=Nat.gcd_le_right _ hD0;have hr:=FU N D hD0;refine⟨fun h1 h2=>?_,fun w=>?_,fun w=>?_,fun w=>?_,fun w=>?_⟩
 ·have:N=0:=by unfold hiW at h1;unfold loW at h2;omega
  subst this;unfold pO jZ l8 kJ;rw [Nat.gcd_zero_left,Nat.div_self hD0,Nat.zero_div];simp
 ·rw [<-OL neg N D hD];exact lT _ _ _ _ _ w (qw _).1 (Int.natCast_nonneg _)
 ·exact H8 N (Nat.gcd N D) w ze ze hg
 ·exact JY N D w ze ze hD0
 ·have:=mo (D:Nat) (lK N D) w ze ze ze ze;rw [Cx N D hD0]at this;exact Calls.quietD this
theorem Dz(an ad bn bd:Int)(w:World)(hi:kS an ad bn bd):Calls prog 131 #[.agg #[.int .i64 an,.int .i64 ad],.agg #[.int .i64 bn,.int .i64 bd]] w fun e w'=>e= .returned (frV (jT an ad bn bd))/\w.Grows w':=by
 obtain⟨i1,i2,i3,i4⟩:=hi;have V1:=yq (fun w=>dN an ad w i1.1 i1.2 i2.1 i2.2);have V2:=yq (fun w=>dN bn bd w i3.1 i3.2 i4.1 i4.2);by_cases hv:(ay an ad&&ay bn bd)=true
 case neg=>
  have e:jT an ad bn bd=(0,0,1):=by unfold jT;rw [if_neg hv]
  rw [e];exact PR an ad bn bd _ _ w (Bool.eq_false_iff.2 hv) V1 V2
 have hva:=(Bool.and_eq_true_iff.1 hv).1;have hvb:=(Bool.and_eq_true_iff.1 hv).2;have e:jT an ad bn bd=pO (decide (ji an ad bn bd<0)) (ji an ad bn bd).natAbs (ad.natAbs*bd.natAbs):=by unfold jT;rw [if_pos hv];try rfl
 rw [e];rw [hva]at V1;rw [hvb]at V2;have b1:=aC hva;have b2:=aC hvb;have hD:=Gr b1.1 b1.2.1 b2.1 b2.2.1;have c1:=pI (an:=an) (bd:=bd) b1.2.2.1 b1.2.2.2 b2.1 b2.2.1;have c2:=pI (an:=bn) (bd:=ad) b2.2.2.1 b2.2.2.2 b1.1 b1.2.1;have Z:Hid _:=yq (fun n (h:I64 n) w=>iF n w h.1 h.2);have T1:Hid _:=yq (fun w=>mR iC i1 i4 w);have T2:Hid _:=yq (fun w=>mR iC i3 i2 w);have hg (N:Nat):0<Nat.gcd N (ad.natAbs*bd.natAbs)/\Nat.gcd N (ad.natAbs*bd.natAbs)<=ad.natAbs*bd.natAbs:=⟨Nat.gcd_pos_of_pos_right _ hD.1,Nat.gcd_le_right _ hD.1⟩
 have hq (N:Nat):IntKind.u64.wrap ((((ad.natAbs*bd.natAbs:Nat):Int)).tdiv (Nat.gcd N (ad.natAbs*bd.natAbs):Nat))=((ad.natAbs*bd.natAbs / Nat.gcd N (ad.natAbs*bd.natAbs):Nat):Int):=by
  have:=(hg N).1;rw [gY ze ze ze,fI]
 have key (neg:Bool) (N:Nat) (hN:N<=2000000000000000000000000):=Sk neg N (ad.natAbs*bd.natAbs) ze hD.1 hD.2;have tr {a b:Int × Int × Int} (h:a=b):a.1=b.1/\a.2.1=b.2.1/\a.2.2=b.2.2:=by rw [h];exact⟨rfl,rfl,rfl⟩
 by_cases hs:decide (an<0)=decide (bn<0)
 ·obtain⟨e1,e2⟩:=Dm b1.1 b2.1 hs;rw [jL e2,e1];obtain⟨k1,k2,k3,k4,k5⟩:=key (decide (an<0)) (an.natAbs*bd.natAbs+bn.natAbs*ad.natAbs) ze;have g1:=hg (an.natAbs*bd.natAbs+bn.natAbs*ad.natAbs)
  exact JP an ad bn bd _ _ _ _ _ _ _ _ _ _ _ _ _ _ _ _ _ w rfl rfl (by rw [hs];simp) V1 V2 Z i1 i2 i3 i4 T1 T2 (uV rfl hD.2) ze zp (hq _)
   (fun w=>Hw _ _ w ze) (fun h1 h2=>tr (k1 h1 h2)) (fun _=>⟨k2,k3,k4,k5⟩)
 ·obtain⟨f1,f2⟩:=Dn b1.1 b2.1 hs;have L:=fun w=>qz (hiW (an.natAbs*bd.natAbs)) (loW (an.natAbs*bd.natAbs)) (hiW (bn.natAbs*ad.natAbs)) (loW (bn.natAbs*ad.natAbs)) w;rw [kE]at L;by_cases hl:an.natAbs*bd.natAbs<bn.natAbs*ad.natAbs
  ·obtain⟨e1,e2⟩:=f1 hl;rw [jL e2,e1];rw [decide_eq_true hl]at L;obtain⟨k1,k2,k3,k4,k5⟩:=key (!decide (an<0)) (bn.natAbs*ad.natAbs-an.natAbs*bd.natAbs) ze
   have hnn:decide (bn<0)=!decide (an<0):=by
    revert hs;cases decide (an<0)<;>cases decide (bn<0)<;>simp
   have g1:=hg (bn.natAbs*ad.natAbs-an.natAbs*bd.natAbs);rw [hnn]
   exact JR an ad bn bd _ _ _ _ _ _ _ _ _ _ _ _ _ _ _ _ _ w rfl rfl yt V1 V2 Z i1 i2 i3 i4 T1 T2 (uV rfl hD.2) ze zp (hq _)
    L (fun w=>uw _ _ w ze ze) (fun h1 h2=>tr (k1 h1 h2)) (fun _=>⟨k2,k3,k4,k5⟩)
  ·obtain⟨e1,e2⟩:=f2 ze;rw [jL e2,e1];rw [decide_eq_false hl]at L;obtain⟨k1,k2,k3,k4,k5⟩:=key (decide (an<0)) (an.natAbs*bd.natAbs-bn.natAbs*ad.natAbs) ze;have g1:=hg (an.natAbs*bd.natAbs-bn.natAbs*ad.natAbs)
   exact JQ an ad bn bd _ _ _ _ _ _ _ _ _ _ _ _ _ _ _ _ _ w rfl rfl yt V1 V2 Z i1 i2 i3 i4 T1 T2 (uV rfl hD.2) ze zp (hq _)
    L (fun w=>uw _ _ w ze ze) (fun h1 h2=>tr (k1 h1 h2)) (fun _=>⟨k2,k3,k4,k5⟩)
theorem DC(an ad bn bd:Int)(w:World)(hi:kS an ad bn bd):Calls prog 108 #[.agg #[.int .i64 an,.int .i64 ad],.agg #[.int .i64 bn,.int .i64 bd]] w fun e w'=>e= .returned (frV (jT an ad bn bd))/\w.Grows w':=by
 obtain⟨i1,i2,i3,i4⟩:=hi;have V1:=yq (fun w=>bZ an ad w i1.1 i1.2 i2.1 i2.2);have V2:=yq (fun w=>bZ bn bd w i3.1 i3.2 i4.1 i4.2);by_cases hv:(ay an ad&&ay bn bd)=true
 case neg=>
  have e:jT an ad bn bd=(0,0,1):=by unfold jT;rw [if_neg hv]
  rw [e];exact PS an ad bn bd _ _ w (Bool.eq_false_iff.2 hv) V1 V2
 have hva:=(Bool.and_eq_true_iff.1 hv).1;have hvb:=(Bool.and_eq_true_iff.1 hv).2;have e:jT an ad bn bd=pO (decide (ji an ad bn bd<0)) (ji an ad bn bd).natAbs (ad.natAbs*bd.natAbs):=by unfold jT;rw [if_pos hv];try rfl
 rw [e];rw [hva]at V1;rw [hvb]at V2;have b1:=aC hva;have b2:=aC hvb;have hD:=Gr b1.1 b1.2.1 b2.1 b2.2.1;have c1:=pI (an:=an) (bd:=bd) b1.2.2.1 b1.2.2.2 b2.1 b2.2.1;have c2:=pI (an:=bn) (bd:=ad) b2.2.2.1 b2.2.2.2 b1.1 b1.2.1;have Z:Hid _:=yq (fun n (h:I64 n) w=>fO n w h.1 h.2);have T1:Hid _:=yq (fun w=>oM iD i1 (b:=bd) ze ze w);have T2:Hid _:=yq (fun w=>oM iD i3 (b:=ad) ze ze w);have u1:IntKind.u64.wrap ad=ad:=IntWalk.u64_in _ ze;have u2:IntKind.u64.wrap bd=bd:=IntWalk.u64_in _ ze
 have u3:IntKind.u64.wrap (ad*bd)=((ad.natAbs*bd.natAbs:Nat):Int):=by
  have e:ad*bd=((ad.natAbs*bd.natAbs:Nat):Int):=by rw [Int.natCast_mul,<-ni b1.1,<-ni b2.1]
  rw [e];exact IntWalk.u64_in _ ze
 by_cases hs:decide (an<0)=decide (bn<0)
 ·obtain⟨e1,e2⟩:=Dm b1.1 b2.1 hs;rw [jL e2,e1];exact JS an ad bn bd _ _ _ _ _ _ _ _ _ _ _ w rfl hs.symm V1 V2 Z i1 i2 i3 i4 T1 T2 u1 u2 u3 (fun w=>Hy _ _ w ze) (fun w=>jV _ _ _ w ze ze hD.1)
 ·obtain⟨f1,f2⟩:=Dn b1.1 b2.1 hs;have L:=fun w=>wO (hiW (an.natAbs*bd.natAbs)) (loW (an.natAbs*bd.natAbs)) (hiW (bn.natAbs*ad.natAbs)) (loW (bn.natAbs*ad.natAbs)) w;rw [kE]at L;by_cases hl:an.natAbs*bd.natAbs<bn.natAbs*ad.natAbs
  ·obtain⟨e1,e2⟩:=f1 hl;rw [jL e2,e1];rw [decide_eq_true hl]at L;exact JV an ad bn bd _ _ _ _ _ _ _ _ _ _ _ _ w rfl rfl yt V1 V2 Z i1 i2 i3 i4 T1 T2 u1 u2 u3 L (fun w=>uy _ _ w ze ze) (fun w=>jV _ _ _ w ze ze hD.1)
  ·obtain⟨e1,e2⟩:=f2 ze;rw [jL e2,e1];rw [decide_eq_false hl]at L;exact JU an ad bn bd _ _ _ _ _ _ _ _ _ _ _ _ w rfl rfl yt V1 V2 Z i1 i2 i3 i4 T1 T2 u1 u2 u3 L (fun w=>uy _ _ w ze ze) (fun w=>jV _ _ _ w ze ze hD.1)
theorem MJ(an ad bn bd:Int)(w:World)(hi:kS an ad bn bd):Calls prog 132 #[.agg #[.int .i64 an,.int .i64 ad],.agg #[.int .i64 bn,.int .i64 bd]] w fun e w'=>e= .returned (frV (lX an ad bn bd))/\w.Grows w':=by
 obtain⟨i1,i2,i3,i4⟩:=hi;have N:=yq (fun w=>Dr bn bd w i3.1 i3.2 i4.1 i4.2);by_cases hv:ay bn bd=true
 ·have b2:=aC hv;have e0:lX an ad bn bd=jT an ad (-bn) bd:=by unfold lX;rw [if_pos hv]
  have e1:iW bn bd=(-bn,bd,0):=by unfold iW;rw [if_pos hv]
  have A:=yq (fun w=>Dz an ad (-bn) bd w ⟨i1,i2,by unfold I64;omega,i4⟩);rw [e1]at N;rw [e0];generalize jT an ad (-bn) bd=r at *;obtain⟨r1,r2,r3⟩:=r;clear e0 e1 hv;unfold frV at N A;generalize -bn=c at *
  go_enter func132,ntmps132
  go_wp2_with (first|(go_at_call 129;(with_reducible refine gvq (N.out _) ?_);intro bs dr)|(go_at_call 131;(with_reducible refine gvq (A.out _) ?_);intro bs2 dr2))
  exact lU
 ·have e0:lX an ad bn bd=(0,0,1):=by unfold lX;rw [if_neg hv]
  have e1:iW bn bd=(0,0,1):=by unfold iW;rw [if_neg hv]
  rw [e1]at N;rw [e0];clear e0 e1 hv;unfold frV at N
  go_enter func132,ntmps132
  go_wp2_with (go_at_call 129;(with_reducible refine gvq (N.out _) ?_);intro bs dr)
  exact lU
theorem MK(an ad bn bd:Int)(w:World)(hi:kS an ad bn bd):Calls prog 109 #[.agg #[.int .i64 an,.int .i64 ad],.agg #[.int .i64 bn,.int .i64 bd]] w fun e w'=>e= .returned (frV (lX an ad bn bd))/\w.Grows w':=by
 obtain⟨i1,i2,i3,i4⟩:=hi;have N:=yq (fun w=>Dt bn bd w i3.1 i3.2 i4.1 i4.2);by_cases hv:ay bn bd=true
 ·have b2:=aC hv;have e0:lX an ad bn bd=jT an ad (-bn) bd:=by unfold lX;rw [if_pos hv]
  have e1:iW bn bd=(-bn,bd,0):=by unfold iW;rw [if_pos hv]
  have A:=yq (fun w=>DC an ad (-bn) bd w ⟨i1,i2,by unfold I64;omega,i4⟩);rw [e1]at N;rw [e0];generalize jT an ad (-bn) bd=r at *;obtain⟨r1,r2,r3⟩:=r;clear e0 e1 hv;unfold frV at N A;generalize -bn=c at *
  go_enter func109,ntmps109
  go_wp2_with (first|(go_at_call 106;(with_reducible refine gvq (N.out _) ?_);intro bs dr)|(go_at_call 108;(with_reducible refine gvq (A.out _) ?_);intro bs2 dr2))
  exact lU
 ·have e0:lX an ad bn bd=(0,0,1):=by unfold lX;rw [if_neg hv]
  have e1:iW bn bd=(0,0,1):=by unfold iW;rw [if_neg hv]
  rw [e1]at N;rw [e0];clear e0 e1 hv;unfold frV at N
  go_enter func109,ntmps109
  go_wp2_with (go_at_call 106;(with_reducible refine gvq (N.out _) ?_);intro bs dr)
  exact lU
theorem JZ(n d:Int)(w:World)(h1:I64 n)(h2:I64 d):Calls prog 127 #[.int .i64 n,.int .i64 d] w fun e w'=>e= .returned (frV (mkN n d,mkD n d,mkE n d))/\w.Grows w':=by
 by_cases h0:d=0
 ·subst h0;exact Ev n w
 unfold I64 at h1 h2;have hg:0<Nat.gcd n.natAbs d.natAbs:=Nat.gcd_pos_of_pos_right _ ze;have hgd:Nat.gcd n.natAbs d.natAbs<=d.natAbs:=Nat.gcd_le_right _ ze
 have e:(mkN n d,mkD n d,mkE n d)=pO ((decide (n<0)!=decide (d<0))&&(n !=0)) n.natAbs d.natAbs:=by
  have hz:n.natAbs=0\/(decide (n<0)!=decide (d<0))=((decide (n<0)!=decide (d<0))&&(n !=0)):=by
   by_cases hn:n=0
   ·left;omega
   ·right;have:(n !=0)=true:=by simpa using hn
    rw [this,Bool.and_true]
  rw [<-jL hz];unfold mkN mkD mkE pO;rw [if_neg h0,if_neg h0,if_neg h0]
 rw [e];have q1:n.natAbs / Nat.gcd n.natAbs d.natAbs<=n.natAbs:=Nat.div_le_self _ _;have q2:d.natAbs / Nat.gcd n.natAbs d.natAbs<=d.natAbs:=Nat.div_le_self _ _;refine Ew n d _ _ (Nat.gcd n.natAbs d.natAbs:Nat) (n.natAbs / Nat.gcd n.natAbs d.natAbs:Nat) (d.natAbs / Nat.gcd n.natAbs d.natAbs:Nat) _ _ _ _ _ _ rfl w rfl rfl yG ze zp ?_ ?_ (fun w=>iF n w h1.1 h1.2) (fun w=>iF d w h2.1 h2.2) (fun w=>?_) (fun w=>?_)
 ·rw [sP,gY ze ze ze,fI]
 ·rw [sP,gY ze ze ze,fI]
 ·have:=mo (aG n) (aG d) w (nz n h1.1 h1.2).1 (by have:=nz n h1.1 h1.2;omega) (nz d h2.1 h2.2).1 (by have:=nz d h2.1 h2.2;omega);rw [show kg (aG n) (aG d)=(Nat.gcd n.natAbs d.natAbs:Nat)by unfold kg;rw [lm,lm]]at this;exact Calls.quietD this
 ·have h:=sK ((decide (n<0)!=decide (d<0))&&(n !=0)) (n.natAbs / Nat.gcd n.natAbs d.natAbs) (d.natAbs / Nat.gcd n.natAbs d.natAbs);have e1:hiW (n.natAbs / Nat.gcd n.natAbs d.natAbs)=0:=qD ze;have e2:loW (n.natAbs / Nat.gcd n.natAbs d.natAbs)=((n.natAbs / Nat.gcd n.natAbs d.natAbs:Nat):Int):=qp ze;have e3:hiW (d.natAbs / Nat.gcd n.natAbs d.natAbs)=0:=qD ze;have e4:loW (d.natAbs / Nat.gcd n.natAbs d.natAbs)=((d.natAbs / Nat.gcd n.natAbs d.natAbs:Nat):Int):=qp ze;rw [e1,e2,e3,e4]at h;have k:=lT ((decide (n<0)!=decide (d<0))&&(n !=0)) 0 ((n.natAbs / Nat.gcd n.natAbs d.natAbs:Nat):Int) 0 ((d.natAbs / Nat.gcd n.natAbs d.natAbs:Nat):Int) w (Int.natCast_nonneg _) (Int.natCast_nonneg _);rw [h]at k
  have e5 (b:Bool) (N D:Nat):pO b N D=(if 1000000000000000<N / Nat.gcd N D\/1000000000<D / Nat.gcd N D then(0,0,2)else(if b=true then -((N / Nat.gcd N D:Nat):Int)else(N / Nat.gcd N D:Nat),((D / Nat.gcd N D:Nat):Int),0)):=by
   unfold pO jZ l8 kJ
   split<;>rfl
  rw [e5];exact k
def vwV(v:Vw)(y:Value):Value:=.agg #[.int .i64 v.age,.int .i64 v.year,.int .i64 v.children,.int .i64 v.insured,.int .i64 v.worked,.int .i64 v.voluntary,.int .i64 v.service,.int .i64 v.equated,.int .i64 v.raising,.int .i64 v.resident,.int .i64 v.bn,.int .i64 v.bd,y]
structure dV(v:Vw):Prop where
 base:I64 v.bn/\I64 v.bd
def Vw.ds(v:Vw):List Int:=[v.insured,v.worked,v.voluntary,v.service,v.equated,v.raising,v.resident]
theorem uY(v:Vw)(y:Value)(w:World)(hy:∃a n c,y= .slice a n c):Calls prog 27 #[vwV v y] w fun r w'=>r= .returned (.agg #[.int .i64 v.insured,.int .i64 v.worked,.int .i64 v.voluntary,.int .i64 v.service,.int .i64 v.equated,.int .i64 v.raising,.int .i64 v.resident])/\w.Grows w':=by
 obtain⟨a,n,c,rfl⟩:=hy;obtain⟨age,year,children,insured,worked,voluntary,service,equated,raising,resident,bn,bd,years⟩:=v;show Calls prog 27 #[.agg #[.int .i64 age,.int .i64 year,.int .i64 children,.int .i64 insured,.int .i64 worked,.int .i64 voluntary,.int .i64 service,.int .i64 equated,.int .i64 raising,.int .i64 resident,.int .i64 bn,.int .i64 bd,.slice a n c]] w _;dsimp only
 go_enter func27,ntmps27
 exact nE
def Vw.rngB(v:Vw):Bool:=decide (0<=v.age/\v.age<=199/\1900<=v.year/\v.year<=2099/\0<=v.children/\v.children<=99)
def Vw.baseB(v:Vw):Bool:=ay v.bn v.bd&&decide (0<=v.bn/\v.bn<=1000000000000*v.bd)
theorem Vw.ok_split(v:Vw):v.ok=(v.rngB&&(v.ds.all ed)&&v.baseB&&bD v.years):=by
 unfold Vw.ok Vw.rngB Vw.baseB Vw.ds;simp [Bool.and_assoc]
theorem L8{v:Vw}{k:Nat}(hk:k<7)(hb:ed (v.ds.getD k 0)=false):v.ok=false:=by
 rw [Vw.ok_split]
 have:v.ds.all ed=false:=by
  rw [all_eq_false];refine⟨v.ds.getD k 0, ?_,by rw [hb];simp⟩;rw [getD_eq_getElem?_getD,getElem?_eq_getElem (show k<v.ds.length from hk)];exact getElem_mem _
 rw [this];simp
theorem Gm{v:Vw}(hg:∀k,k<7->ed (v.ds.getD k 0)=true):v.ds.all ed=true:=by
 rw [all_eq_true];intro x hx;obtain⟨k,hk,rfl⟩:=mem_iff_getElem.1 hx;have:=hg k hk
 rwa [getD_eq_getElem?_getD,getElem?_eq_getElem hk]at this
theorem FP{v:Vw}(h:¬(0<=v.age/\v.age<=199/\1900<=v.year/\v.year<=2099/\0<=v.children/\v.children<=99)):v.ok=false:=by
 rw [Vw.ok_split];unfold Vw.rngB;rw [decide_eq_false h];simp
theorem M9(v:Vw)(y:Value)(w:World)(hy:∃a n c,y= .slice a n c)(h:¬(0<=v.age/\v.age<=199/\1900<=v.year/\v.year<=2099/\0<=v.children/\v.children<=99)):(Calls prog 16 #[vwV v y] w fun r w'=>r= .returned (.bool v.ok)/\w.Grows w'):=by
 have HF:=yq (FP h);by_cases c1:v.age<0
 ·exact GI
 by_cases c2:v.age > 199
 ·exact GI
 by_cases c3:v.year<1900
 ·exact GI
 by_cases c4:v.year > 2099
 ·exact GI
 by_cases c5:v.children<0
 ·exact GI
 have c6:v.children > 99:=by omega
 exact GI
theorem Qt(v:Vw)(y:Value)(w:World)(hr:dV v)(hy:bI w y v.years)(h:0<=v.age/\v.age<=199/\1900<=v.year/\v.year<=2099/\0<=v.children/\v.children<=99):(Calls prog 16 #[vwV v y] w fun r w'=>r= .returned (.bool v.ok)/\w.Grows w'):=by
 have HY:=yq hy;have HD:=yq (fun w a n c=>uY v (.slice a n c) w ⟨a,n,c,rfl⟩);have HB:Hid (∀k,k<7->ed (v.ds.getD k 0)=false->v.ok=false):=yq (fun k hk hb=>L8 hk hb)
 have HG:Hid ((∀k,k<7->ed (v.ds.getD k 0)=true)->v.ok=(v.baseB&&bD v.years)):=yq (fun hg=>by
  rw [Vw.ok_split,Gm hg];unfold Vw.rngB;rw [decide_eq_true h];simp)
 have HI:=yq hr.base;have HC:=yq (fun w=>pX v.bn v.bd 1000000000000 1 w ⟨hr.base.1,hr.base.2,by unfold I64;omega,by unfold I64;omega⟩)
 have HM:Hid (∀w,Calls prog 12 #[.int .i64 1000000000000,.int .i64 1] w fun e w'=>e= .returned (.tuple #[.agg #[.int .i64 1000000000000,.int .i64 1],.int .i64 0])/\w.Grows w'):=yq (fun w=>by
  have:=dZ 1000000000000 1 w zo zo zo zo;rw [show mkN 1000000000000 1=1000000000000 by decide+kernel,show mkD 1000000000000 1=1 by decide+kernel,show mkE 1000000000000 1=0 by decide+kernel]at this
  exact this)
 have HYR:=yq (fun w' (hg:w.Grows w')=>mH v.years y w' (HY.out.grows hg));obtain⟨-,a,c,rfl,-⟩:=hy;obtain⟨h1,h2,h3,h4,h5,h6⟩:=h;clear hr;unfold vwV at HD ⊢
 go_enter func16,ntmps16
 go_wp2_with (go_at_call 27;refine gvq (HD.out _ _ _ _) ?_;intro bs d)
 obtain⟨W,hW⟩:∃W,((w.alloc (.cells #[.int .i64 v.age,.int .i64 v.year,.int .i64 v.children,.int .i64 v.insured,.int .i64 v.worked,.int .i64 v.voluntary,.int .i64 v.service,.int .i64 v.equated,.int .i64 v.raising,.int .i64 v.resident,.int .i64 v.bn,.int .i64 v.bd,.slice a v.years.length c] 41)).grow bs d).alloc (.cells #[.int .i64 v.insured,.int .i64 v.worked,.int .i64 v.voluntary,.int .i64 v.service,.int .i64 v.equated,.int .i64 v.raising,.int .i64 v.resident] 81)=W:=⟨_,rfl⟩;have hg:w.Grows W:=by rw [<-hW];exact .of_below af
 have b0:W.cell? ⟨w.heap.size,10,none⟩=some (.int .i64 v.bn):=by rw [<-hW];simp [go_sem]
 have b1:W.cell? ⟨w.heap.size,11,none⟩=some (.int .i64 v.bd):=by rw [<-hW];simp [go_sem]
 have b2:W.cell? ⟨w.heap.size,12,none⟩=some (.slice a v.years.length c):=by rw [<-hW];simp [go_sem]
 have HA:Hid (∀k,k<7->W.cell? ⟨w.heap.size+1+bs.size,k,none⟩=some (.int .i64 (v.ds.getD k 0))):=yq (fun k hk=>by
  rw [<-hW,World.cell?_alloc_at _ _ _ _ zg]
  rcases(show k=0\/k=1\/k=2\/k=3\/k=4\/k=5\/k=6 by omega)with rfl|rfl|rfl|rfl|rfl|rfl|rfl<;>rfl)
 have hsz:w.heap.size<W.heap.size:=by rw [<-hW];simp;omega
 rw [hW];clear hW;have HG2:=yq hg;clear hg
 go_loopw [4] (fun v4 wr=>∃k:Nat,k<=7/\v4= .int .i64 k/\Hid (∀j,j<k->ed (v.ds.getD j 0)=true)/\W=wr) (fun v4 _=>7-(intOf v4).toNat)
 case atStart=>exact⟨0,by omega,rfl,yq (fun j hj=>by omega),rfl⟩
 case round=>
  obtain⟨k,hk,rfl,hno,rfl⟩:=hrel;by_cases hlt:k<7
  ·have x0:=HA.out k hlt;have d1:(k:Int)<7:=by omega
   have HKL:=yq hlt;clear hlt;obtain⟨dk,hdk⟩:∃dk,v.ds.getD k 0=dk:=⟨_,rfl⟩;rw [hdk]at x0;have HDK:=yq hdk;exact RX
  ·obtain rfl:k=7:=by omega
   have HF:=yq (HG.out hno.out);unfold Vw.baseB at HF;obtain⟨q,hq⟩:∃q,ay v.bn v.bd=q:=⟨_,rfl⟩;have HC2:=HC.out;unfold gu frI at HC2;rw [show ay 1000000000000 1=true by decide+kernel,hq,Bool.and_true]at HC2;rw [hq]at HF;clear hq;obtain⟨yb,hyb⟩:∃yb,bD v.years=yb:=⟨_,rfl⟩;have HYR2:=HYR.out;rw [hyb]at HYR2 HF;clear hyb;have HYR3:=yq HYR2;clear HYR2
   cases q with
   |false=>
    simp only [Bool.false_eq_true,if_false]at HC2;have HC3:=yq HC2;clear HC2
    go_wp2_with (first
     |(go_at_call 12;refine gvq (HM.out _) ?_;intro bs2 d2)
     |(go_at_call 28;refine gvq (HC3.out _) ?_;intro bs3 d3))
    go_returns
    exact⟨au (by rw [HF.out];rfl),World.Grows.trans HG2.out (.of_below af)⟩
   |true=>
    have hcm:iy v.bn v.bd 1000000000000 1<=0↔v.bn<=1000000000000*v.bd:=by
     unfold iy;rw [Int.mul_one]
     (repeat' split)<;>omega
    simp only [if_true]at HC2;generalize iy v.bn v.bd 1000000000000 1=cc at HC2 hcm;have HC3:=yq HC2;clear HC2;have HCM:=yq hcm;clear hcm;by_cases g1:cc<=0
    ·by_cases g2:v.bn≥0
     ·have HF2:Hid (v.ok=yb):=yq (by rw [HF.out,decide_eq_true ⟨g2,HCM.out.1 g1⟩];rfl)
      go_wp2_with (first
       |(go_at_call 12;refine gvq (HM.out _) ?_;intro bs2 d2)
       |(go_at_call 28;refine gvq (HC3.out _) ?_;intro bs3 d3)
       |(go_at_call 29;refine gw (HYR3.out _ (World.Grows.trans HG2.out (.of_below af))) ?_))
      go_returns
      exact⟨au (by rw [HF2.out]),World.Grows.trans HG2.out (.of_below af)⟩
     ·have HF2:Hid (v.ok=false):=yq xx
      go_wp2_with (first
       |(go_at_call 12;refine gvq (HM.out _) ?_;intro bs2 d2)
       |(go_at_call 28;refine gvq (HC3.out _) ?_;intro bs3 d3))
      go_returns
      exact⟨au (by rw [HF2.out]),World.Grows.trans HG2.out (.of_below af)⟩
    ·have HF2:Hid (v.ok=false):=yq (by rw [HF.out,decide_eq_false (fun h=>g1 (HCM.out.2 h.2))];rfl)
     go_wp2_with (first
      |(go_at_call 12;refine gvq (HM.out _) ?_;intro bs2 d2)
      |(go_at_call 28;refine gvq (HC3.out _) ?_;intro bs3 d3))
     go_returns
     exact⟨au (by rw [HF2.out]),World.Grows.trans HG2.out (.of_below af)⟩
theorem eY(v:Vw)(y:Value)(w:World)(hr:dV v)(hy:bI w y v.years):(Calls prog 16 #[vwV v y] w fun r w'=>r= .returned (.bool v.ok)/\w.Grows w'):=by
 by_cases h:0<=v.age/\v.age<=199/\1900<=v.year/\v.year<=2099/\0<=v.children/\v.children<=99
 ·exact Qt v y w hr hy h
 ·obtain⟨-,a,c,rfl,-⟩:=hy;exact M9 v _ w ⟨_,_,_,rfl⟩ h
theorem Nb(v:Vw)(y:Value)(w:World)(hy:∃a n c,y= .slice a n c)(h:¬(0<=v.age/\v.age<=199/\1900<=v.year/\v.year<=2099/\0<=v.children/\v.children<=99)):(Calls prog 63 #[vwV v y] w fun r w'=>r= .returned (.bool v.ok)/\w.Grows w'):=by
 have HF:=yq (FP h);by_cases c1:v.age<0
 ·exact GH
 by_cases c2:v.age > 199
 ·exact GH
 by_cases c3:v.year<1900
 ·exact GH
 by_cases c4:v.year > 2099
 ·exact GH
 by_cases c5:v.children<0
 ·exact GH
 have c6:v.children > 99:=by omega
 exact GH
theorem Tg(x0 x1 x2 x3 x4 x5 x6:Int)(k:Nat)(hk:k<7)(w:World):(Instr.index 81 (.agg #[.int .i64 x0,.int .i64 x1,.int .i64 x2,.int .i64 x3,.int .i64 x4,.int .i64 x5,.int .i64 x6]) (.int .i64 (k:Int))).run prog w= .ok (.int .i64 ([x0,x1,x2,x3,x4,x5,x6].getD k 0)) w:=by
 rcases(show k=0\/k=1\/k=2\/k=3\/k=4\/k=5\/k=6 by omega)with rfl|rfl|rfl|rfl|rfl|rfl|rfl<;>simp [Instr.index,go_sem]
theorem PO{n d:Int}(h:ay n d=true)(hn:0<=n):decide (n<=1000000000000*d)=(decide (n.tdiv d<=1000000000000)&&(decide (n.tdiv d<1000000000000) || decide (n.tmod d=0))):=by
 have hd:0<d:=by have:=aC h;omega
 rw [Int.tdiv_eq_ediv_of_nonneg hn,Int.tmod_eq_emod_of_nonneg hn];have e:=Int.mul_ediv_add_emod n d;have r0:=Int.emod_nonneg n (show d≠0 by omega);have r1:=Int.emod_lt_of_pos n hd;generalize n / d=q at *;generalize n % d=r at *;by_cases c1:q<1000000000000
 ·have h1:d*q<=d*999999999999:=Int.mul_le_mul_of_nonneg_left ze ze;rw [decide_eq_true c1,decide_eq_true (show q<=1000000000000 by omega),decide_eq_true (show n<=1000000000000*d by omega)];rfl
 ·rw [decide_eq_false c1,Bool.false_or];by_cases c2:q<=1000000000000
  ·obtain rfl:q=1000000000000:=by omega
   rw [decide_eq_true c2,Bool.true_and];by_cases c3:r=0
   ·rw [decide_eq_true c3,decide_eq_true ze]
   ·rw [decide_eq_false c3,decide_eq_false ze]
  ·have h1:d*1000000000001<=d*q:=Int.mul_le_mul_of_nonneg_left ze ze;rw [decide_eq_false c2,Bool.false_and,decide_eq_false ze]
theorem Na(v:Vw)(y:Value)(w:World)(hy:bI w y v.years)(h:0<=v.age/\v.age<=199/\1900<=v.year/\v.year<=2099/\0<=v.children/\v.children<=99)(hyo:bD v.years=false):(Calls prog 63 #[vwV v y] w fun r w'=>r= .returned (.bool v.ok)/\w.Grows w'):=by
 have HF:Hid (v.ok=false):=yq (by rw [Vw.ok_split,hyo,Bool.and_false]);have HY:=yq hy;have HYR:=yq (fun w' (hg:w.Grows w')=>gW v.years y w' (HY.out.grows hg));rw [hyo]at HYR;obtain⟨-,a,c,rfl,-⟩:=hy;obtain⟨h1,h2,h3,h4,h5,h6⟩:=h;clear hyo;unfold vwV
 go_enter func63,ntmps63
 go_wp2_with (go_at_call 82;refine gvq (HYR.out _ (.of_below af)) ?_;intro bs d)
 go_returns
 exact⟨au HF.out.symm,.of_below af⟩
theorem Qu(v:Vw)(y:Value)(w:World)(hr:dV v)(hy:bI w y v.years)(h:0<=v.age/\v.age<=199/\1900<=v.year/\v.year<=2099/\0<=v.children/\v.children<=99)(hyo:bD v.years=true):(Calls prog 63 #[vwV v y] w fun r w'=>r= .returned (.bool v.ok)/\w.Grows w'):=by
 have HY:=yq hy;have HB:Hid (∀k,k<7->ed (v.ds.getD k 0)=false->v.ok=false):=yq (fun k hk hb=>L8 hk hb)
 have HG:Hid ((∀k,k<7->ed (v.ds.getD k 0)=true)->v.ok=v.baseB):=yq (fun hg=>by
  rw [Vw.ok_split,Gm hg,hyo];unfold Vw.rngB;rw [decide_eq_true h];simp)
 have HYR:=yq (fun w' (hg:w.Grows w')=>gW v.years y w' (HY.out.grows hg));rw [hyo]at HYR;have HV:=yq (fun w=>dN v.bn v.bd w hr.base.1.1 hr.base.1.2 hr.base.2.1 hr.base.2.2);obtain⟨-,a,c,rfl,-⟩:=hy;obtain⟨h1,h2,h3,h4,h5,h6⟩:=h;have HI:=yq hr.base;have HIX:=yq (Tg v.insured v.worked v.voluntary v.service v.equated v.raising v.resident);clear hr hyo;unfold vwV
 go_enter func63,ntmps63
 go_wp2_with ((first|(go_at_call 82;refine gvq (HYR.out _ (.of_below zT)) ?_;intro bs d)|(go_at_call 61;refine gvq (HV.out _) ?_;intro bs3 d3)))
 obtain⟨W,hW⟩:∃W,(w.alloc (.cells #[.int .i64 v.age,.int .i64 v.year,.int .i64 v.children,.int .i64 v.insured,.int .i64 v.worked,.int .i64 v.voluntary,.int .i64 v.service,.int .i64 v.equated,.int .i64 v.raising,.int .i64 v.resident,.int .i64 v.bn,.int .i64 v.bd,.slice a v.years.length c] 41)).grow bs d=W:=⟨_,rfl⟩;have hg:w.Grows W:=by rw [<-hW];exact .of_below af
 have b0:W.cell? ⟨w.heap.size,10,none⟩=some (.int .i64 v.bn):=by rw [<-hW];simp [go_sem]
 have b1:W.cell? ⟨w.heap.size,11,none⟩=some (.int .i64 v.bd):=by rw [<-hW];simp [go_sem]
 have hsz:w.heap.size<W.heap.size:=by rw [<-hW];simp;omega
 rw [hW];clear hW;have HG2:=yq hg;clear hg
 go_loopw [54] (fun v54 wr=>∃k:Nat,k<=7/\v54= .int .i64 k/\Hid (∀j,j<k->ed (v.ds.getD j 0)=true)/\W=wr) (fun v54 _=>7-(intOf v54).toNat)
 case atStart=>exact⟨0,by omega,rfl,yq (fun j hj=>by omega),rfl⟩
 case round=>
  obtain⟨k,hk,rfl,hno,rfl⟩:=hrel;by_cases hlt:k<7
  ·have x0:=HIX.out k hlt W;have d1:(k:Int)<7:=by omega
   have HKL:=yq hlt;clear hlt;obtain⟨dk,hdk⟩:∃dk,v.ds.getD k 0=dk:=⟨_,rfl⟩;unfold Vw.ds at hdk;rw [hdk]at x0;have HDK:Hid (v.ds.getD k 0=dk):=yq hdk;exact RX
  ·obtain rfl:k=7:=by omega
   have HF:=yq (HG.out hno.out);unfold Vw.baseB at HF
   cases hq:ay v.bn v.bd with
   |false=>
    rw [hq]at HF HV;have HF2:Hid (v.ok=false):=yq (by rw [HF.out];rfl);clear hq
    go_wp2_with ((first|(go_at_call 82;refine gvq (HYR.out _ (.of_below zT)) ?_;intro bs d)|(go_at_call 61;refine gvq (HV.out _) ?_;intro bs3 d3)))
    go_returns
    exact⟨au yf,World.Grows.trans HG2.out (.of_below af)⟩
   |true=>
    have HBE:=yq (fun hn=>PO hq hn);have hbd:=aC hq;have hd0:v.bd≠0:=by omega
    rw [hq]at HF HV;clear hq;by_cases g2:v.bn≥0
    ·have HF3:Hid (v.ok=(decide (v.bn.tdiv v.bd<=1000000000000)&&(decide (v.bn.tdiv v.bd<1000000000000) || decide (v.bn.tmod v.bd=0)))):=yq (by
      rw [HF.out,<-HBE.out g2,Bool.true_and]
      simp [g2])
     have t1:=Int.tdiv_eq_ediv_of_nonneg (b:=v.bd) g2;have t2:=Int.tmod_eq_emod_of_nonneg (b:=v.bd) g2;have hb0:v.bn<=1000000000000000:=by omega
     have u1:0<=v.bn / v.bd:=Int.ediv_nonneg g2 ze;have u2:v.bn / v.bd<=1000000000000000:=Int.le_trans (Int.ediv_le_self v.bd g2) hb0;have u3:=Int.emod_nonneg v.bn hd0;have u4:=Int.emod_lt_of_pos v.bn (show 0<v.bd by omega);have e1:IntKind.i64.wrap (v.bn.tdiv v.bd)=v.bn.tdiv v.bd:=IntWalk.i64_in _ (by rw [t1];omega);have e2:IntKind.i64.wrap (v.bn.tmod v.bd)=v.bn.tmod v.bd:=IntWalk.i64_in _ (by rw [t2];omega);have e3:IntKind.i64.wrap (v.bn / v.bd)=v.bn / v.bd:=IntWalk.i64_in _ ze;have e4:IntKind.i64.wrap (v.bn % v.bd)=v.bn % v.bd:=IntWalk.i64_in _ ze;rw [t1,t2]at HF3;by_cases c1:v.bn / v.bd<1000000000000
     ·have c2:v.bn / v.bd<=1000000000000:=by omega
      have HF2:Hid (v.ok=true):=yq (by rw [HF3.out,decide_eq_true c1,decide_eq_true c2];rfl)
      go_wp2_with ((first|(go_at_call 82;refine gvq (HYR.out _ (.of_below zT)) ?_;intro bs d)|(go_at_call 61;refine gvq (HV.out _) ?_;intro bs3 d3)))
      go_returns
      exact⟨au yf,World.Grows.trans HG2.out (.of_below af)⟩
     ·by_cases c2:v.bn / v.bd<=1000000000000
      ·by_cases c3:v.bn % v.bd=0
       focus
        have HF2:Hid (v.ok=true):=yq (by rw [HF3.out,decide_eq_true c3,decide_eq_true c2,Bool.or_true];rfl)
       rotate_left
       focus
        have c4:(v.bn % v.bd==0)=false:=by simpa using c3
        have HF2:Hid (v.ok=false):=yq (by rw [HF3.out,decide_eq_false c3,decide_eq_false c1];simp)
       rotate_left
       all_goals
        go_wp2_with ((first|(go_at_call 82;refine gvq (HYR.out _ (.of_below zT)) ?_;intro bs d)|(go_at_call 61;refine gvq (HV.out _) ?_;intro bs3 d3)))
        go_returns
        exact⟨au yf,World.Grows.trans HG2.out (.of_below af)⟩
      ·have HF2:Hid (v.ok=false):=yq (by rw [HF3.out,decide_eq_false c2];rfl)
       go_wp2_with ((first|(go_at_call 82;refine gvq (HYR.out _ (.of_below zT)) ?_;intro bs d)|(go_at_call 61;refine gvq (HV.out _) ?_;intro bs3 d3)))
       go_returns
       exact⟨au yf,World.Grows.trans HG2.out (.of_below af)⟩
    ·have HF2:Hid (v.ok=false):=yq xx
     go_wp2_with ((first|(go_at_call 82;refine gvq (HYR.out _ (.of_below zT)) ?_;intro bs d)|(go_at_call 61;refine gvq (HV.out _) ?_;intro bs3 d3)))
     go_returns
     exact⟨au yf,World.Grows.trans HG2.out (.of_below af)⟩
theorem jN(v:Vw)(y:Value)(w:World)(hr:dV v)(hy:bI w y v.years):(Calls prog 63 #[vwV v y] w fun r w'=>r= .returned (.bool v.ok)/\w.Grows w'):=by
 by_cases h:0<=v.age/\v.age<=199/\1900<=v.year/\v.year<=2099/\0<=v.children/\v.children<=99
 ·by_cases hyo:bD v.years=true
  ·exact Qu v y w hr hy h hyo
  ·exact Na v y w hy h (by simpa using hyo)
 ·obtain⟨-,a,c,rfl,-⟩:=hy;exact Nb v _ w ⟨_,_,_,rfl⟩ h
def dY(x:Val):Value:=.agg #[.int .i64 x.dim,.bool x.yes,.int .i64 x.n,.int .i64 x.d]
def Fv(x:Val):Prop:=I64 x.n/\I64 x.d
theorem si(x:Val)(w:World)(hr:Fv x):Calls prog 59 #[dY x] w fun r w'=>r= .returned (.bool x.ok)/\w.Grows w':=by
 have HV:=yq (fun w=>bZ x.n x.d w hr.1.1 hr.1.2 hr.2.1 hr.2.2);have HF:Hid (x.ok=if x.dim=1 then decide (x.n=0/\x.d=0)else decide (2<=x.dim/\x.dim<=4)&&!x.yes&&ay x.n x.d):=yq rfl;clear hr;generalize ay x.n x.d=q at *;obtain⟨m,yes,n,d⟩:=x;dsimp only at HV HF ⊢;generalize hok:Val.ok ⟨m,yes,n,d⟩=okv at *;clear hok;show Calls prog 59 #[.agg #[.int .i64 m,.bool yes,.int .i64 n,.int .i64 d]] w _;by_cases h1:m=1
 ·subst h1;rw [if_pos rfl]at HF;by_cases c1:n=0
  ·subst c1;by_cases c2:d=0
   ·subst c2
    go_enter func59,ntmps59
    go_wp2_with fail
    exact Qg
   ·have e2:(d==0)=false:=by simpa using c2
    have HN:=yq c2;clear c2;exact RB
  ·have e2:(n==0)=false:=by simpa using c1
   have HN:=yq c1;clear c1;exact RB
 ·rw [if_neg h1]at HF;have e1:(m==1)=false:=by simpa using h1
  by_cases hm:2<=m/\m<=4
  ·rw [decide_eq_true hm,Bool.true_and]at HF;rcases(show m=2\/m=3\/m=4 by omega)with rfl|rfl|rfl
   all_goals
    cases yes
    all_goals
     cases q
     all_goals
      go_enter func59,ntmps59
      go_wp2_with (first|(go_at_call 53;refine gvq (HV.out _) ?_;intro bs2 d2)|(go_at_call 61;refine gvq (HV.out _) ?_;intro bs2 d2))
      exact Qg
  ·rw [decide_eq_false hm]at HF;by_cases h2:m<2
   focus
    have e2:(m==2)=false:=by rw [beq_eq_false_iff_ne];omega
   rotate_left
   focus
    have h4:m > 4:=by omega
    have e2:(m==2)=false:=by rw [beq_eq_false_iff_ne];omega
   rotate_left
   all_goals
    have e3:(m==3)=false:=by rw [beq_eq_false_iff_ne];omega
    have e4:(m==4)=false:=by rw [beq_eq_false_iff_ne];omega
    clear hm
    go_enter func59,ntmps59
    go_wp2_with fail
    exact Qg
theorem kN(m n d:Int)(w:World):Calls prog 93 #[.int .i64 m,.agg #[.int .i64 n,.int .i64 d]] w fun r w'=>r= .returned (dY (.num m n d))/\w.Grows w':=by
 show Calls _ _ _ _ fun r w'=>r= .returned (.agg #[.int .i64 m,.bool false,.int .i64 n,.int .i64 d])/\_
 go_enter func93,ntmps93
 exact nE
theorem rJ(b:Bool)(w:World):Calls prog 99 #[.bool b] w fun r w'=>r= .returned (dY (.truth b))/\w.Grows w':=by
 show Calls _ _ _ _ fun r w'=>r= .returned (.agg #[.int .i64 1,.bool b,.int .i64 0,.int .i64 0])/\_
 go_enter func99,ntmps99
 exact nE
theorem Da(op an ad bn bd:Int)(w:World)(h11:11<=op)(h16:op<=16)(hi:kS an ad bn bd) :
 Calls prog 98 #[.int .i64 op,.agg #[.int .i64 an,.int .i64 ad],.agg #[.int .i64 bn,.int .i64 bd]] w fun r w'=>r= .returned (.tuple #[.bool (rZ op (gu an ad bn bd).1),.int .i64 (gu an ad bn bd).2])/\w.Grows w':=by
 have HC:=yq (fun w=>pW an ad bn bd w hi);unfold frI at HC;generalize gu an ad bn bd=q at *;obtain⟨c,e⟩:=q;dsimp only at HC ⊢;clear hi;rcases(show op=11\/op=12\/op=13\/op=14\/op=15\/op=16 by omega)with rfl|rfl|rfl|rfl|rfl|rfl
 all_goals
  clear h11 h16;simp only [rZ]
  go_enter func98,ntmps98
  go_wp2_with (go_at_call 130;refine gvq (HC.out _) ?_;intro bs d)
  go_returns
  exact⟨rfl,.of_below af⟩
def CV(op a b:Int):Int:=if op=9/\a=2 then b else if op=10/\b≠2 then 2 else a
theorem vM(op a b:Int)(w:World) :
 Calls prog 101 #[.int .i64 op,.int .i64 a,.int .i64 b] w fun r w'=>r= .returned (.int .i64 (CV op a b))/\w.Grows w':=by
 go_enter func101,ntmps101
 go_wp2_with fail
 all_goals
  go_returns
  exact⟨ret_int (by unfold CV;simp_all),.of_below af⟩
def arF(op an ad bn bd:Int):Int × Int × Int:=
 if op=7 then jT an ad bn bd else if op=8 then lX an ad bn bd else if op=9 then lL an ad bn bd else if op=10 then lM an ad bn bd
 else if op=19 then(if(gu an ad bn bd).1<0 then(an,ad,(gu an ad bn bd).2)else(bn,bd,(gu an ad bn bd).2))
 else if(gu an ad bn bd).1<0 then(bn,bd,(gu an ad bn bd).2)else(an,ad,(gu an ad bn bd).2)
theorem JI(op an ad bn bd:Int)(w:World)(ho:op=7\/op=8\/op=9\/op=10\/op=19\/op=20)(hi:kS an ad bn bd) :
 Calls prog 100 #[.int .i64 op,.agg #[.int .i64 an,.int .i64 ad],.agg #[.int .i64 bn,.int .i64 bd]] w fun r w'=>r= .returned (frV (arF op an ad bn bd))/\w.Grows w':=by
 have HA:=yq (fun w=>Dz an ad bn bd w hi);have HS:=yq (fun w=>MJ an ad bn bd w hi);have HM:=yq (fun w=>MR an ad bn bd w hi);have HD:=yq (fun w=>M0 an ad bn bd w hi);have HC:=yq (fun w=>pW an ad bn bd w hi);unfold frI at HC;unfold frV at HA HS HM HD ⊢;have HF:=yq (show arF op an ad bn bd=arF op an ad bn bd from rfl);generalize hr:arF op an ad bn bd=R at HF ⊢;clear HF;unfold arF at hr;generalize jT an ad bn bd=qa at *;generalize lX an ad bn bd=qs at *;generalize lL an ad bn bd=qm at *;generalize lM an ad bn bd=qd at *;generalize gu an ad bn bd=qc at *;clear hi;have HR:=yq hr;clear hr;by_cases hc:qc.1<0
 all_goals
  rcases ho with rfl|rfl|rfl|rfl|rfl|rfl
  all_goals
   go_enter func100,ntmps100
   go_wp2_with (first
    |(go_at_call 131;refine gvq (HA.out _) ?_;intro bs d)
    |(go_at_call 132;refine gvq (HS.out _) ?_;intro bs d)
    |(go_at_call 133;refine gvq (HM.out _) ?_;intro bs d)
    |(go_at_call 134;refine gvq (HD.out _) ?_;intro bs d)
    |(go_at_call 130;refine gvq (HC.out _) ?_;intro bs d))
   all_goals
    go_returns
    exact⟨by rw [<-HR.out];first|(simp [hc];done)|(simp;done)|(rw [if_neg hc];done)|(simp [if_neg hc];done)|(simp_all;done)|(simp;split<;>first|rfl|(exfalso;omega)|simp_all),.of_below af⟩
end Go.Proofs.YtcfpoofhokbhlaaGreatDoor
