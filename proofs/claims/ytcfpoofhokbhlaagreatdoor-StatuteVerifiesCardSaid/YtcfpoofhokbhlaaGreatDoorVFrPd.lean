import Derived.Test.YtcfpoofhokbhlaaGreatDoorVFrFl
set_option linter.all false
set_option maxHeartbeats 16000000
set_option maxRecDepth 1000000
namespace Go.Proofs.YtcfpoofhokbhlaaGreatDoor
open Tryz List
open Go.RowKit
theorem Ot{neg:Bool}{p q:Nat}:frV (if 1000000000000000<p\/1000000000<q then(0,0,2)else(if neg then -(p:Int)else p,q,0))=jq neg (hiW p) (loW p) (hiW q) (loW q):=(sK neg p q).symm
theorem vI(neg:Bool)(a b c d g h H L K M:Int)(w:World)(g0:(g==0)=false)(h0:(h==0)=false)(g1:1<=g)(hh1:1<=h)(hl0:0<=L)(hm0:0<=M)
 (e1:IntKind.u64.wrap (a.tdiv g)=a / g) (e2:IntKind.u64.wrap (c.tdiv h)=c / h) (e3:IntKind.u64.wrap (b.tdiv h)=b / h) (e4:IntKind.u64.wrap (d.tdiv g)=d / g)
 (G1:Hid (∀w,Calls prog 45 #[.int .u64 a,.int .u64 d] w fun e w'=>e= .returned (.int .u64 g)/\w.Grows w'))
 (G2:Hid (∀w,Calls prog 45 #[.int .u64 c,.int .u64 b] w fun e w'=>e= .returned (.int .u64 h)/\w.Grows w'))
 (T1:Hid (∀w,Calls prog 70 #[.int .u64 (a / g),.int .u64 (c / h)] w fun e w'=>e= .returned (.agg #[.int .u64 H,.int .u64 L])/\w.Grows w'))
 (T2:Hid (∀w,Calls prog 70 #[.int .u64 (b / h),.int .u64 (d / g)] w fun e w'=>e= .returned (.agg #[.int .u64 K,.int .u64 M])/\w.Grows w')) :
 Calls prog 138 #[.bool neg,.int .u64 a,.int .u64 b,.int .u64 c,.int .u64 d] w fun e w'=>e= .returned (jq neg H L K M)/\w.Grows w':=by
 by_cases c1:(H !=0)=true
 ·have HW:=yq (show jq neg H L K M= .tuple #[.agg #[.int .i64 0,.int .i64 0],.int .i64 2]by rw [jq,if_pos (.inl c1)])
  go_enter func138,ntmps138
  go_wp2_with (first|(go_at_call 45;(with_reducible refine gvq (G1.out _) ?_);intro bs dr;clear G1)|(go_at_call 45;(with_reducible refine gvq (G2.out _) ?_);intro bs2 dr2;clear G2))
  have gz:¬g=0:=by omega
  have hz:¬h=0:=by omega
  generalize bs++bs2=B;apply aK 16 (14,14,.cells #[.int .u64 0,.int .u64 0] 91) (15,15,.cells #[.int .u64 0,.int .u64 0] 91) zf zf
  case hrx=>
   intro o ho ρ w;obtain rfl:=Option.some.inj ho;simp [go_sem]
  case hry=>
   intro o ho ρ w;obtain rfl:=Option.some.inj ho;simp [go_sem]
  case h1=>
   intro bs d;simp only [take_succ_cons,take_zero,map_cons,map_nil,Oper.mask];repeat(go_big_quiet_step ((go_at_call 70;first|(with_reducible exact Calls.quietM3 (T1.out _))|(with_reducible exact Calls.quietM3 (T2.out _)))))
   exact wpQuiet_nil rfl
  all_goals
   intro gb1 gd1 gb2 gd2 gb gd;simp only [drop_succ_cons,drop_zero,Act.put,setIfInBounds_toArray,set_cons_zero,set_cons_succ,World.grow_grow,World.size_grow,World.size_alloc,Array.size_append]
  all_goals
   go_wp2_with fail
   go_returns
   exact⟨by rw [HW.out],.of_below af⟩
 ·have c1':(H !=0)=false:=by simpa using c1
  by_cases c2:(1000000000000000:Int)<L
  ·have HW:=yq (show jq neg H L K M= .tuple #[.agg #[.int .i64 0,.int .i64 0],.int .i64 2]by rw [jq,if_pos (.inr (.inl c2))]);clear c1
   go_enter func138,ntmps138
   go_wp2_with (first|(go_at_call 45;(with_reducible refine gvq (G1.out _) ?_);intro bs dr;clear G1)|(go_at_call 45;(with_reducible refine gvq (G2.out _) ?_);intro bs2 dr2;clear G2))
   have gz:¬g=0:=by omega
   have hz:¬h=0:=by omega
   generalize bs++bs2=B;apply aK 16 (14,14,.cells #[.int .u64 0,.int .u64 0] 91) (15,15,.cells #[.int .u64 0,.int .u64 0] 91) zf zf
   case hrx=>
    intro o ho ρ w;obtain rfl:=Option.some.inj ho;simp [go_sem]
   case hry=>
    intro o ho ρ w;obtain rfl:=Option.some.inj ho;simp [go_sem]
   case h1=>
    intro bs d;simp only [take_succ_cons,take_zero,map_cons,map_nil,Oper.mask];repeat(go_big_quiet_step ((go_at_call 70;first|(with_reducible exact Calls.quietM3 (T1.out _))|(with_reducible exact Calls.quietM3 (T2.out _)))))
    exact wpQuiet_nil rfl
   all_goals
    intro gb1 gd1 gb2 gd2 gb gd;simp only [drop_succ_cons,drop_zero,Act.put,setIfInBounds_toArray,set_cons_zero,set_cons_succ,World.grow_grow,World.size_grow,World.size_alloc,Array.size_append]
   all_goals
    go_wp2_with fail
    go_returns
    exact⟨by rw [HW.out],.of_below af⟩
  ·have c2':decide ((1000000000000000:Int)<L)=false:=by simpa using c2
   by_cases c3:(K !=0)=true
   ·have HW:=yq (show jq neg H L K M= .tuple #[.agg #[.int .i64 0,.int .i64 0],.int .i64 2]by rw [jq,if_pos (.inr (.inr (.inl c3)))]);clear c1
    go_enter func138,ntmps138
    go_wp2_with (first|(go_at_call 45;(with_reducible refine gvq (G1.out _) ?_);intro bs dr;clear G1)|(go_at_call 45;(with_reducible refine gvq (G2.out _) ?_);intro bs2 dr2;clear G2))
    have gz:¬g=0:=by omega
    have hz:¬h=0:=by omega
    generalize bs++bs2=B;apply aK 16 (14,14,.cells #[.int .u64 0,.int .u64 0] 91) (15,15,.cells #[.int .u64 0,.int .u64 0] 91) zf zf
    case hrx=>
     intro o ho ρ w;obtain rfl:=Option.some.inj ho;simp [go_sem]
    case hry=>
     intro o ho ρ w;obtain rfl:=Option.some.inj ho;simp [go_sem]
    case h1=>
     intro bs d;simp only [take_succ_cons,take_zero,map_cons,map_nil,Oper.mask];repeat(go_big_quiet_step ((go_at_call 70;first|(with_reducible exact Calls.quietM3 (T1.out _))|(with_reducible exact Calls.quietM3 (T2.out _)))))
     exact wpQuiet_nil rfl
    all_goals
     intro gb1 gd1 gb2 gd2 gb gd;simp only [drop_succ_cons,drop_zero,Act.put,setIfInBounds_toArray,set_cons_zero,set_cons_succ,World.grow_grow,World.size_grow,World.size_alloc,Array.size_append]
    all_goals
     go_wp2_with fail
     go_returns
     exact⟨by rw [HW.out],.of_below af⟩
   ·have c3':(K !=0)=false:=by simpa using c3
    by_cases c4:(1000000000:Int)<M
    ·have HW:=yq (show jq neg H L K M= .tuple #[.agg #[.int .i64 0,.int .i64 0],.int .i64 2]by rw [jq,if_pos (.inr (.inr (.inr c4)))]);clear c1 c3
     go_enter func138,ntmps138
     go_wp2_with (first|(go_at_call 45;(with_reducible refine gvq (G1.out _) ?_);intro bs dr;clear G1)|(go_at_call 45;(with_reducible refine gvq (G2.out _) ?_);intro bs2 dr2;clear G2))
     have gz:¬g=0:=by omega
     have hz:¬h=0:=by omega
     generalize bs++bs2=B;apply aK 16 (14,14,.cells #[.int .u64 0,.int .u64 0] 91) (15,15,.cells #[.int .u64 0,.int .u64 0] 91) zf zf
     case hrx=>
      intro o ho ρ w;obtain rfl:=Option.some.inj ho;simp [go_sem]
     case hry=>
      intro o ho ρ w;obtain rfl:=Option.some.inj ho;simp [go_sem]
     case h1=>
      intro bs d;simp only [take_succ_cons,take_zero,map_cons,map_nil,Oper.mask];repeat(go_big_quiet_step ((go_at_call 70;first|(with_reducible exact Calls.quietM3 (T1.out _))|(with_reducible exact Calls.quietM3 (T2.out _)))))
      exact wpQuiet_nil rfl
     all_goals
      intro gb1 gd1 gb2 gd2 gb gd;simp only [drop_succ_cons,drop_zero,Act.put,setIfInBounds_toArray,set_cons_zero,set_cons_succ,World.grow_grow,World.size_grow,World.size_alloc,Array.size_append]
     all_goals
      go_wp2_with fail
      go_returns
      exact⟨by rw [HW.out],.of_below af⟩
    ·have c4':decide ((1000000000:Int)<M)=false:=by simpa using c4
     have HW:=yq (show jq neg H L K M= .tuple #[.agg #[.int .i64 (if neg then -L else L),.int .i64 M],.int .i64 0]by
      rw [jq,if_neg];rintro(x|x|x|x)
      ·exact c1 x
      ·exact c2 x
      ·exact c3 x
      ·exact c4 x)
     clear c1 c3;cases neg
     all_goals
      go_enter func138,ntmps138
      go_wp2_with (first|(go_at_call 45;(with_reducible refine gvq (G1.out _) ?_);intro bs dr;clear G1)|(go_at_call 45;(with_reducible refine gvq (G2.out _) ?_);intro bs2 dr2;clear G2))
      have gz:¬g=0:=by omega
      have hz:¬h=0:=by omega
      generalize bs++bs2=B;apply aK 16 (14,14,.cells #[.int .u64 0,.int .u64 0] 91) (15,15,.cells #[.int .u64 0,.int .u64 0] 91) zf zf
      case hrx=>
       intro o ho ρ w;obtain rfl:=Option.some.inj ho;simp [go_sem]
      case hry=>
       intro o ho ρ w;obtain rfl:=Option.some.inj ho;simp [go_sem]
      case h1=>
       intro bs d;simp only [take_succ_cons,take_zero,map_cons,map_nil,Oper.mask];repeat(go_big_quiet_step ((go_at_call 70;first|(with_reducible exact Calls.quietM3 (T1.out _))|(with_reducible exact Calls.quietM3 (T2.out _)))))
       exact wpQuiet_nil rfl
      all_goals
       intro gb1 gd1 gb2 gd2 gb gd;simp only [drop_succ_cons,drop_zero,Act.put,setIfInBounds_toArray,set_cons_zero,set_cons_succ,World.grow_grow,World.size_grow,World.size_alloc,Array.size_append]
      all_goals
       go_wp2_with fail
       go_returns
       exact⟨by rw [HW.out];rfl,.of_below af⟩
theorem oU(neg:Bool)(n d m k:Nat)(w:World)(h1:n<18446744073709551616)(h2:d<18446744073709551616)(h3:m<18446744073709551616)(h4:k<18446744073709551616)(hd:0<d)(hk:0<k) :
 Calls prog 138 #[.bool neg,.int .u64 n,.int .u64 d,.int .u64 m,.int .u64 k] w fun e w'=>e= .returned (frV (nQ neg n d m k))/\w.Grows w':=by
 have g1:0<Nat.gcd n k:=Nat.gcd_pos_of_pos_right _ hk;have g2:0<Nat.gcd m d:=Nat.gcd_pos_of_pos_right _ hd;have b1:n / Nat.gcd n k<=n:=Nat.div_le_self _ _;have b2:m / Nat.gcd m d<=m:=Nat.div_le_self _ _;have b3:d / Nat.gcd m d<=d:=Nat.div_le_self _ _;have b4:k / Nat.gcd n k<=k:=Nat.div_le_self _ _;rw [show frV (nQ neg n d m k)=jq neg (hiW (il n k m d)) (loW (il n k m d)) (hiW (il d m k n)) (loW (il d m k n))from Ot]
 refine vI neg n d m k (Nat.gcd n k:Nat) (Nat.gcd m d:Nat) _ _ _ _ w
  zp zp ze ze (qw _).1 (qw _).1 (gY ze ze ze) (gY ze ze ze) (gY ze ze ze) (gY ze ze ze)
  (fun w=>?_) (fun w=>?_) (fun w=>?_) (fun w=>?_)
 ·have:=pE n k w ze ze ze ze;rw [pz]at this;exact Calls.quietD this
 ·have:=pE m d w ze ze ze ze;rw [pz]at this;exact Calls.quietD this
 ·rw [fI,fI];exact iD _ _ w ze ze
 ·rw [fI,fI,<-wD];exact iD _ _ w ze ze
end Go.Proofs.YtcfpoofhokbhlaaGreatDoor
