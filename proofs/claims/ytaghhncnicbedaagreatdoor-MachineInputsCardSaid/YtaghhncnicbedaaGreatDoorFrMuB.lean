/- Negatives and products of fractions, in both packages. -/
import Derived.Test.YtaghhncnicbedaaGreatDoorBFrP
set_option linter.all false
set_option maxHeartbeats 16000000
set_option maxRecDepth 1000000
namespace Go.Proofs.YtaghhncnicbedaaGreatDoor
open Go.RowKit
def frV(r:Int × Int × Int):Value:=.tuple #[.agg #[.int .i64 r.1,.int .i64 r.2.1],.int .i64 r.2.2]
theorem Neg1_any(n d:Int)(w:World)(h1:-9223372036854775808≤n)(h2:n≤9223372036854775807)(h3:-9223372036854775808≤d)(h4:d≤9223372036854775807) :
 Calls Tryz.prog 112 #[.agg #[.int .i64 n,.int .i64 d]] w fun e w'=>e= .returned (frV (negF n d))∧w.Grows w':=by
 have hv:=Lib.hid (fun w=>Valid1_any n d w h1 h2 h3 h4)
 generalize hx:vfrac n d=b at *
 cases b
 focus
  have HR:=Lib.hid (show negF n d=(0,0,1)by unfold negF;rw [hx];rfl)
 rotate_left
 focus
  have HR:=Lib.hid (show negF n d=(-n,d,0)by unfold negF;rw [hx];rfl)
  obtain⟨k1,k2,k3,k4⟩:=vfrac_bd hx
 rotate_left
 all_goals
  clear hx
  go_enter Tryz.func112,Tryz.ntmps112
  go_wp2_with fail
  refine(hv.out _).mono ?_
  rintro e w' ⟨rfl,bs,dr,rfl⟩
  clear hv
  go_wp2_with fail
  go_returns
  exact⟨by rw [HR.out];rfl,.of_below belB⟩
theorem Neg2_any(n d:Int)(w:World)(h1:-9223372036854775808≤n)(h2:n≤9223372036854775807)(h3:-9223372036854775808≤d)(h4:d≤9223372036854775807) :
 Calls Tryz.prog 104 #[.agg #[.int .i64 n,.int .i64 d]] w fun e w'=>e= .returned (frV (negF n d))∧w.Grows w':=by
 have hv:=Lib.hid (fun w=>Valid2_any n d w h1 h2 h3 h4)
 generalize hx:vfrac n d=b at *
 cases b
 focus
  have HR:=Lib.hid (show negF n d=(0,0,1)by unfold negF;rw [hx];rfl)
 rotate_left
 focus
  have HR:=Lib.hid (show negF n d=(-n,d,0)by unfold negF;rw [hx];rfl)
  obtain⟨k1,k2,k3,k4⟩:=vfrac_bd hx
 rotate_left
 all_goals
  clear hx
  go_enter Tryz.func104,Tryz.ntmps104
  go_wp2_with fail
  refine(hv.out _).mono ?_
  rintro e w' ⟨rfl,bs,dr,rfl⟩
  clear hv
  go_wp2_with fail
  go_returns
  exact⟨by rw [HR.out];rfl,.of_below belB⟩
theorem gcdI_nat(a b:Nat):gcdI a b=(Nat.gcd a b:Nat):=by unfold gcdI;simp
theorem frV_wit(b:Bool)(p q:Nat):witV b (hiW p) (loW p) (hiW q) (loW q)=frV (if 1000000000000000<p∨1000000000<q then(0,0,2)else(if b then -(p:Int)else p,q,0)):=by
 unfold witV hiW loW
 by_cases c:1000000000000000<p∨1000000000<q
 ·rw [if_pos c,if_pos (by
   by_cases ha:p / 18446744073709551616=0
   ·by_cases hb:q / 18446744073709551616=0
    ·omega
    ·right;right;left;simp;omega
   ·left;simp;omega)]
  rfl
 ·have ha:p / 18446744073709551616=0:=by omega
  have hb:q / 18446744073709551616=0:=by omega
  have hc:p % 18446744073709551616=p:=by omega
  have hd:q % 18446744073709551616=q:=by omega
  rw [if_neg c,if_neg (by rw [ha,hb,hc,hd];simp;omega),hc,hd]
  rfl
theorem quo_u64{a g:Int}(h0:0≤a)(h1:a<18446744073709551616)(hg:1≤g):IntKind.u64.wrap (a.tdiv g)=a / g:=by
 rw [Int.tdiv_eq_ediv_of_nonneg h0]
 have h2:=Int.ediv_nonneg h0 (show 0≤g by omega)
 have h3:a / g≤a:=Int.ediv_le_self g h0
 exact IntWalk.u64_in _ (by omega)
theorem quotient2_core(neg:Bool)(a b c d g h H L K M n1 n2 n3:Int)(w:World)(g0:(g==0)=false)(h0:(h==0)=false)(g1:1≤g)(hh1:1≤h)
 (a0:0≤a) (b0:0≤b) (c0:0≤c) (d0:0≤d) (a1:a<18446744073709551616) (b1:b<18446744073709551616) (c1:c<18446744073709551616) (d1:d<18446744073709551616)
 (G1:Hid (∀w,Calls Tryz.prog 136 #[.int .u64 a,.int .u64 d] w fun e w'=>e= .returned (.int .u64 g)∧w.Grows w'))
 (G2:Hid (∀w,Calls Tryz.prog 136 #[.int .u64 c,.int .u64 b] w fun e w'=>e= .returned (.int .u64 h)∧w.Grows w'))
 (T1:Hid (∀w,Calls Tryz.prog 148 #[.int .u64 (a / g),.int .u64 (c / h)] w fun e w'=>e= .returned (.agg #[.int .u64 H,.int .u64 L])∧w.Grows w'))
 (T2:Hid (∀w,Calls Tryz.prog 148 #[.int .u64 (b / h),.int .u64 (d / g)] w fun e w'=>e= .returned (.agg #[.int .u64 K,.int .u64 M])∧w.Grows w'))
 (W:Hid (∀w,Calls Tryz.prog 147 #[.bool neg,.agg #[.int .u64 H,.int .u64 L],.agg #[.int .u64 K,.int .u64 M]] w fun e w'=>e= .returned (.tuple #[.agg #[.int .i64 n1,.int .i64 n2],.int .i64 n3])∧w.Grows w')) :
 Calls Tryz.prog 154 #[.bool neg,.int .u64 a,.int .u64 b,.int .u64 c,.int .u64 d] w fun e w'=>e= .returned (.tuple #[.agg #[.int .i64 n1,.int .i64 n2],.int .i64 n3])∧w.Grows w':=by
 go_enter Tryz.func154,Tryz.ntmps154
 go_wp2_with (first|(go_at_call 136;(with_reducible refine(G1.out _).mono ?_);rintro e w' ⟨rfl,bs,dr,rfl⟩;clear G1)|(go_at_call 136;(with_reducible refine(G2.out _).mono ?_);rintro e w' ⟨rfl,bs2,dr2,rfl⟩;clear G2))
 have gz:¬g=0:=by omega
 have hz:¬h=0:=by omega
 refine TG.begin 19 (fun _=>True) (by kernel_rfl) (by kernel_rfl) trivial (fun hS=>?_)
 refine TG.tkB 0 hS ?_
 refine TG.tkB 1 hS ?_
 refine TG.tkB 2 hS ?_
 refine TG.takeV (i:=3) (v:=.int .u64 (a / g)) rfl (by kernel_rfl) (by kernel_rfl) (by kernel_rfl) (by decide) (fun _ _ _ h=>h) rfl hS ?_ ?_
 focus
  intro wS hSw
  go_simp
  exact quo_u64 a0 a1 g1
 (try simp only [nS])
 refine TG.tkB 4 hS ?_
 refine TG.tkB 5 hS ?_
 refine TG.takeV (i:=6) (v:=.int .u64 (c / h)) rfl (by kernel_rfl) (by kernel_rfl) (by kernel_rfl) (by decide) (fun _ _ _ h=>h) rfl hS ?_ ?_
 focus
  intro wS hSw
  go_simp
  exact quo_u64 c0 c1 hh1
 (try simp only [nS])
 refine TG.tkB 8 hS ?_
 refine TG.tkB 9 hS ?_
 refine TG.takeV (i:=10) (v:=.int .u64 (b / h)) rfl (by kernel_rfl) (by kernel_rfl) (by kernel_rfl) (by decide) (fun _ _ _ h=>h) rfl hS ?_ ?_
 focus
  intro wS hSw
  go_simp
  exact quo_u64 b0 b1 hh1
 (try simp only [nS])
 refine TG.tkB 11 hS ?_
 refine TG.tkB 12 hS ?_
 refine TG.takeV (i:=13) (v:=.int .u64 (d / g)) rfl (by kernel_rfl) (by kernel_rfl) (by kernel_rfl) (by decide) (fun _ _ _ h=>h) rfl hS ?_ ?_
 focus
  intro wS hSw
  go_simp
  exact quo_u64 d0 d1 g1
 (try simp only [nS])
 refine TG.one (i:=7) (by kernel_rfl) rfl (fun K1 hK1=>?_)
 go_simp
 go_at_call 148
 refine(T1.out _).mono ?_
 rintro e' wA ⟨rfl,b7,d7,rfl⟩
 refine TG.go hK1 trivial (fun hS=>?_)
 clear hK1 K1 T1
 (try simp only [nS])
 refine TG.one (i:=14) (by kernel_rfl) rfl (fun K1 hK1=>?_)
 go_simp
 go_at_call 148
 refine(T2.out _).mono ?_
 rintro e' wA ⟨rfl,b8,d8,rfl⟩
 refine TG.go hK1 trivial (fun hS=>?_)
 clear hK1 K1 T2
 (try simp only [nS])
 refine TG.one (i:=15) (by kernel_rfl) rfl (fun K1 hK1=>?_)
 go_simp
 go_at_call 147
 refine(W.out _).mono ?_
 rintro e' wA ⟨rfl,b9,d9,rfl⟩
 refine TG.go hK1 trivial (fun hS=>?_)
 clear hK1 K1 W
 (try simp only [nS])
 refine TG.tkB 16 hS ?_
 refine TG.tkB 17 hS ?_
 refine TG.one (i:=18) (by kernel_rfl) rfl (fun K1 hK1=>?_)
 go_simp
 refine TG.go hK1 trivial (fun hS=>?_)
 clear hK1 K1
 (try simp only [nS])
 refine TG.one (i:=19) (by kernel_rfl) rfl (fun K1 hK1=>?_)
 go_simp
 refine hK1 _ _ (fun h=>absurd rfl h) (TG.done (by kernel_rfl) ?_)
 clear hK1 K1 hS
 (try simp only [nS])
 go_wp2_with fail
 go_returns
 exact⟨rfl,.of_below belB⟩
theorem prdX_comm(d m k n:Nat):d / Nat.gcd m d*(k / Nat.gcd n k)=prdX d m k n:=by
 unfold prdX;rw [Nat.gcd_comm m d,Nat.gcd_comm n k]
theorem ediv_nat(a b:Nat):(a:Int) / (b:Int)=((a / b:Nat):Int):=by simp
theorem quotient2_any(neg:Bool)(n d m k:Nat)(w:World)(h1:n<18446744073709551616)(h2:d<18446744073709551616)(h3:m<18446744073709551616)(h4:k<18446744073709551616)(hd:0<d)(hk:0<k) :
 Calls Tryz.prog 154 #[.bool neg,.int .u64 n,.int .u64 d,.int .u64 m,.int .u64 k] w fun e w'=>e= .returned (frV (prdF neg n d m k))∧w.Grows w':=by
 have g1:0<Nat.gcd n k:=Nat.gcd_pos_of_pos_right _ hk
 have g2:0<Nat.gcd m d:=Nat.gcd_pos_of_pos_right _ hd
 have b1:n / Nat.gcd n k≤n:=Nat.div_le_self _ _
 have b2:m / Nat.gcd m d≤m:=Nat.div_le_self _ _
 have b3:d / Nat.gcd m d≤d:=Nat.div_le_self _ _
 have b4:k / Nat.gcd n k≤k:=Nat.div_le_self _ _
 refine quotient2_core neg n d m k (Nat.gcd n k:Nat) (Nat.gcd m d:Nat) (hiW (prdX n k m d)) (loW (prdX n k m d)) (hiW (prdX d m k n)) (loW (prdX d m k n)) _ _ _ w
  (by simp;omega) (by simp;omega) (by omega) (by omega) (by omega) (by omega) (by omega) (by omega) (by omega) (by omega) (by omega) (by omega)
  (fun w=>?_) (fun w=>?_) (fun w=>?_) (fun w=>?_) (fun w=>?_)
 ·have:=gcd2_any n k w (by omega) (by omega) (by omega) (by omega)
  rw [gcdI_nat]at this
  exact Calls.quietD this
 ·have:=gcd2_any m d w (by omega) (by omega) (by omega) (by omega)
  rw [gcdI_nat]at this
  exact Calls.quietD this
 ·rw [ediv_nat,ediv_nat]
  exact times2_any _ _ w (by omega) (by omega)
 ·rw [ediv_nat,ediv_nat,←prdX_comm]
  exact times2_any _ _ w (by omega) (by omega)
 ·have:=within2_any neg (hiW (prdX n k m d)) (loW (prdX n k m d)) (hiW (prdX d m k n)) (loW (prdX d m k n)) w (loW_bd _).1 (loW_bd _).1
  rw [frV_wit]at this
  exact this
end Go.Proofs.YtaghhncnicbedaaGreatDoor
