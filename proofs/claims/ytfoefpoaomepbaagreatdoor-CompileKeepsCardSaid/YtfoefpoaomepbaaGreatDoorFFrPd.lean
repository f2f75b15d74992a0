import Derived.Test.YtfoefpoaomepbaaGreatDoorFFrFl
import Derived.Test.YtfoefpoaomepbaaGreatDoorFK
set_option linter.all false
set_option maxHeartbeats 16000000
set_option maxRecDepth 1000000
namespace Go.Proofs.YtfoefpoaomepbaaGreatDoor
open Go.RowKit
theorem prd_ite{neg:Bool}{p q:Nat}:frV (if 1000000000000000<p∨1000000000<q then(0,0,2)else(if neg then -(p:Int)else p,q,0))=witV neg (hiW p) (loW p) (hiW q) (loW q):=(frV_wit neg p q).symm
theorem product1_core(neg:Bool)(a b c d g h H L K M:Int)(w:World)(g0:(g==0)=false)(h0:(h==0)=false)(g1:1≤g)(hh1:1≤h)(hl0:0≤L)(hm0:0≤M)
 (e1:IntKind.u64.wrap (a.tdiv g)=a / g) (e2:IntKind.u64.wrap (c.tdiv h)=c / h) (e3:IntKind.u64.wrap (b.tdiv h)=b / h) (e4:IntKind.u64.wrap (d.tdiv g)=d / g)
 (G1:Hid (∀w,Calls Tryz.prog 147 #[.int .u64 a,.int .u64 d] w fun e w'=>e= .returned (.int .u64 g)∧w.Grows w'))
 (G2:Hid (∀w,Calls Tryz.prog 147 #[.int .u64 c,.int .u64 b] w fun e w'=>e= .returned (.int .u64 h)∧w.Grows w'))
 (T1:Hid (∀w,Calls Tryz.prog 156 #[.int .u64 (a / g),.int .u64 (c / h)] w fun e w'=>e= .returned (.agg #[.int .u64 H,.int .u64 L])∧w.Grows w'))
 (T2:Hid (∀w,Calls Tryz.prog 156 #[.int .u64 (b / h),.int .u64 (d / g)] w fun e w'=>e= .returned (.agg #[.int .u64 K,.int .u64 M])∧w.Grows w')) :
 Calls Tryz.prog 160 #[.bool neg,.int .u64 a,.int .u64 b,.int .u64 c,.int .u64 d] w fun e w'=>e= .returned (witV neg H L K M)∧w.Grows w':=by
 by_cases c1:(H !=0)=true
 ·have HW:=Lib.hid (show witV neg H L K M= .tuple #[.agg #[.int .i64 0,.int .i64 0],.int .i64 2]by rw [witV,if_pos (.inl c1)])
  go_enter Tryz.func160,Tryz.ntmps160
  go_wp2_with (first|(go_at_call 147;(with_reducible refine(G1.out _).mono ?_);rintro e w' ⟨rfl,bs,dr,rfl⟩;clear G1)|(go_at_call 147;(with_reducible refine(G2.out _).mono ?_);rintro e w' ⟨rfl,bs2,dr2,rfl⟩;clear G2))
  have gz:¬g=0:=by omega
  have hz:¬h=0:=by omega
  generalize bs++bs2=B
  apply wp_region_made2b 16 (14,14,.cells #[.int .u64 0,.int .u64 0] 168) (15,15,.cells #[.int .u64 0,.int .u64 0] 168) (by kernel_rfl) (by kernel_rfl)
  case hrx=>
   intro o ho ρ w
   obtain rfl:=Option.some.inj ho
   simp [go_sem]
  case hry=>
   intro o ho ρ w
   obtain rfl:=Option.some.inj ho
   simp [go_sem]
  case h1=>
   intro bs d
   simp only [List.take_succ_cons,List.take_zero,List.map_cons,List.map_nil,Oper.mask]
   repeat(go_big_quiet_step ((go_at_call 156;first|(with_reducible exact Calls.quietM3 (T1.out _))|(with_reducible exact Calls.quietM3 (T2.out _)))))
   exact wpQuiet_nil rfl
  all_goals
   intro gb1 gd1 gb2 gd2 gb gd
   simp only [List.drop_succ_cons,List.drop_zero,Act.put,List.setIfInBounds_toArray,List.set_cons_zero,List.set_cons_succ,World.grow_grow,World.size_grow,World.size_alloc,Array.size_append]
  all_goals
   go_wp2_with fail
   go_returns
   exact⟨by rw [HW.out],.of_below belB⟩
 ·have c1':(H !=0)=false:=by simpa using c1
  by_cases c2:(1000000000000000:Int)<L
  ·have HW:=Lib.hid (show witV neg H L K M= .tuple #[.agg #[.int .i64 0,.int .i64 0],.int .i64 2]by rw [witV,if_pos (.inr (.inl c2))])
   clear c1
   go_enter Tryz.func160,Tryz.ntmps160
   go_wp2_with (first|(go_at_call 147;(with_reducible refine(G1.out _).mono ?_);rintro e w' ⟨rfl,bs,dr,rfl⟩;clear G1)|(go_at_call 147;(with_reducible refine(G2.out _).mono ?_);rintro e w' ⟨rfl,bs2,dr2,rfl⟩;clear G2))
   have gz:¬g=0:=by omega
   have hz:¬h=0:=by omega
   generalize bs++bs2=B
   apply wp_region_made2b 16 (14,14,.cells #[.int .u64 0,.int .u64 0] 168) (15,15,.cells #[.int .u64 0,.int .u64 0] 168) (by kernel_rfl) (by kernel_rfl)
   case hrx=>
    intro o ho ρ w
    obtain rfl:=Option.some.inj ho
    simp [go_sem]
   case hry=>
    intro o ho ρ w
    obtain rfl:=Option.some.inj ho
    simp [go_sem]
   case h1=>
    intro bs d
    simp only [List.take_succ_cons,List.take_zero,List.map_cons,List.map_nil,Oper.mask]
    repeat(go_big_quiet_step ((go_at_call 156;first|(with_reducible exact Calls.quietM3 (T1.out _))|(with_reducible exact Calls.quietM3 (T2.out _)))))
    exact wpQuiet_nil rfl
   all_goals
    intro gb1 gd1 gb2 gd2 gb gd
    simp only [List.drop_succ_cons,List.drop_zero,Act.put,List.setIfInBounds_toArray,List.set_cons_zero,List.set_cons_succ,World.grow_grow,World.size_grow,World.size_alloc,Array.size_append]
   all_goals
    go_wp2_with fail
    go_returns
    exact⟨by rw [HW.out],.of_below belB⟩
  ·have c2':decide ((1000000000000000:Int)<L)=false:=by simpa using c2
   by_cases c3:(K !=0)=true
   ·have HW:=Lib.hid (show witV neg H L K M= .tuple #[.agg #[.int .i64 0,.int .i64 0],.int .i64 2]by rw [witV,if_pos (.inr (.inr (.inl c3)))])
    clear c1
    go_enter Tryz.func160,Tryz.ntmps160
    go_wp2_with (first|(go_at_call 147;(with_reducible refine(G1.out _).mono ?_);rintro e w' ⟨rfl,bs,dr,rfl⟩;clear G1)|(go_at_call 147;(with_reducible refine(G2.out _).mono ?_);rintro e w' ⟨rfl,bs2,dr2,rfl⟩;clear G2))
    have gz:¬g=0:=by omega
    have hz:¬h=0:=by omega
    generalize bs++bs2=B
    apply wp_region_made2b 16 (14,14,.cells #[.int .u64 0,.int .u64 0] 168) (15,15,.cells #[.int .u64 0,.int .u64 0] 168) (by kernel_rfl) (by kernel_rfl)
    case hrx=>
     intro o ho ρ w
     obtain rfl:=Option.some.inj ho
     simp [go_sem]
    case hry=>
     intro o ho ρ w
     obtain rfl:=Option.some.inj ho
     simp [go_sem]
    case h1=>
     intro bs d
     simp only [List.take_succ_cons,List.take_zero,List.map_cons,List.map_nil,Oper.mask]
     repeat(go_big_quiet_step ((go_at_call 156;first|(with_reducible exact Calls.quietM3 (T1.out _))|(with_reducible exact Calls.quietM3 (T2.out _)))))
     exact wpQuiet_nil rfl
    all_goals
     intro gb1 gd1 gb2 gd2 gb gd
     simp only [List.drop_succ_cons,List.drop_zero,Act.put,List.setIfInBounds_toArray,List.set_cons_zero,List.set_cons_succ,World.grow_grow,World.size_grow,World.size_alloc,Array.size_append]
    all_goals
     go_wp2_with fail
     go_returns
     exact⟨by rw [HW.out],.of_below belB⟩
   ·have c3':(K !=0)=false:=by simpa using c3
    by_cases c4:(1000000000:Int)<M
    ·have HW:=Lib.hid (show witV neg H L K M= .tuple #[.agg #[.int .i64 0,.int .i64 0],.int .i64 2]by rw [witV,if_pos (.inr (.inr (.inr c4)))])
     clear c1 c3
     go_enter Tryz.func160,Tryz.ntmps160
     go_wp2_with (first|(go_at_call 147;(with_reducible refine(G1.out _).mono ?_);rintro e w' ⟨rfl,bs,dr,rfl⟩;clear G1)|(go_at_call 147;(with_reducible refine(G2.out _).mono ?_);rintro e w' ⟨rfl,bs2,dr2,rfl⟩;clear G2))
     have gz:¬g=0:=by omega
     have hz:¬h=0:=by omega
     generalize bs++bs2=B
     apply wp_region_made2b 16 (14,14,.cells #[.int .u64 0,.int .u64 0] 168) (15,15,.cells #[.int .u64 0,.int .u64 0] 168) (by kernel_rfl) (by kernel_rfl)
     case hrx=>
      intro o ho ρ w
      obtain rfl:=Option.some.inj ho
      simp [go_sem]
     case hry=>
      intro o ho ρ w
      obtain rfl:=Option.some.inj ho
      simp [go_sem]
     case h1=>
      intro bs d
      simp only [List.take_succ_cons,List.take_zero,List.map_cons,List.map_nil,Oper.mask]
      repeat(go_big_quiet_step ((go_at_call 156;first|(with_reducible exact Calls.quietM3 (T1.out _))|(with_reducible exact Calls.quietM3 (T2.out _)))))
      exact wpQuiet_nil rfl
     all_goals
      intro gb1 gd1 gb2 gd2 gb gd
      simp only [List.drop_succ_cons,List.drop_zero,Act.put,List.setIfInBounds_toArray,List.set_cons_zero,List.set_cons_succ,World.grow_grow,World.size_grow,World.size_alloc,Array.size_append]
     all_goals
      go_wp2_with fail
      go_returns
      exact⟨by rw [HW.out],.of_below belB⟩
    ·have c4':decide ((1000000000:Int)<M)=false:=by simpa using c4
     have HW:=Lib.hid (show witV neg H L K M= .tuple #[.agg #[.int .i64 (if neg then -L else L),.int .i64 M],.int .i64 0]by
      rw [witV,if_neg]
      rintro(x|x|x|x)
      ·exact c1 x
      ·exact c2 x
      ·exact c3 x
      ·exact c4 x)
     clear c1 c3
     cases neg
     all_goals
      go_enter Tryz.func160,Tryz.ntmps160
      go_wp2_with (first|(go_at_call 147;(with_reducible refine(G1.out _).mono ?_);rintro e w' ⟨rfl,bs,dr,rfl⟩;clear G1)|(go_at_call 147;(with_reducible refine(G2.out _).mono ?_);rintro e w' ⟨rfl,bs2,dr2,rfl⟩;clear G2))
      have gz:¬g=0:=by omega
      have hz:¬h=0:=by omega
      generalize bs++bs2=B
      apply wp_region_made2b 16 (14,14,.cells #[.int .u64 0,.int .u64 0] 168) (15,15,.cells #[.int .u64 0,.int .u64 0] 168) (by kernel_rfl) (by kernel_rfl)
      case hrx=>
       intro o ho ρ w
       obtain rfl:=Option.some.inj ho
       simp [go_sem]
      case hry=>
       intro o ho ρ w
       obtain rfl:=Option.some.inj ho
       simp [go_sem]
      case h1=>
       intro bs d
       simp only [List.take_succ_cons,List.take_zero,List.map_cons,List.map_nil,Oper.mask]
       repeat(go_big_quiet_step ((go_at_call 156;first|(with_reducible exact Calls.quietM3 (T1.out _))|(with_reducible exact Calls.quietM3 (T2.out _)))))
       exact wpQuiet_nil rfl
      all_goals
       intro gb1 gd1 gb2 gd2 gb gd
       simp only [List.drop_succ_cons,List.drop_zero,Act.put,List.setIfInBounds_toArray,List.set_cons_zero,List.set_cons_succ,World.grow_grow,World.size_grow,World.size_alloc,Array.size_append]
      all_goals
       go_wp2_with fail
       go_returns
       exact⟨by rw [HW.out];rfl,.of_below belB⟩
theorem product1_any(neg:Bool)(n d m k:Nat)(w:World)(h1:n<18446744073709551616)(h2:d<18446744073709551616)(h3:m<18446744073709551616)(h4:k<18446744073709551616)(hd:0<d)(hk:0<k) :
 Calls Tryz.prog 160 #[.bool neg,.int .u64 n,.int .u64 d,.int .u64 m,.int .u64 k] w fun e w'=>e= .returned (frV (prdF neg n d m k))∧w.Grows w':=by
 have g1:0<Nat.gcd n k:=Nat.gcd_pos_of_pos_right _ hk
 have g2:0<Nat.gcd m d:=Nat.gcd_pos_of_pos_right _ hd
 have b1:n / Nat.gcd n k≤n:=Nat.div_le_self _ _
 have b2:m / Nat.gcd m d≤m:=Nat.div_le_self _ _
 have b3:d / Nat.gcd m d≤d:=Nat.div_le_self _ _
 have b4:k / Nat.gcd n k≤k:=Nat.div_le_self _ _
 rw [show frV (prdF neg n d m k)=witV neg (hiW (prdX n k m d)) (loW (prdX n k m d)) (hiW (prdX d m k n)) (loW (prdX d m k n))from prd_ite]
 refine product1_core neg n d m k (Nat.gcd n k:Nat) (Nat.gcd m d:Nat) _ _ _ _ w
  (by simp;omega) (by simp;omega) (by omega) (by omega) (loW_bd _).1 (loW_bd _).1 (quo_u64 (by omega) (by omega) (by omega)) (quo_u64 (by omega) (by omega) (by omega)) (quo_u64 (by omega) (by omega) (by omega)) (quo_u64 (by omega) (by omega) (by omega))
  (fun w=>?_) (fun w=>?_) (fun w=>?_) (fun w=>?_)
 ·have:=gcd1_any n k w (by omega) (by omega) (by omega) (by omega)
  rw [gcdI_nat]at this
  exact Calls.quietD this
 ·have:=gcd1_any m d w (by omega) (by omega) (by omega) (by omega)
  rw [gcdI_nat]at this
  exact Calls.quietD this
 ·rw [ediv_nat,ediv_nat]
  exact times1_any _ _ w (by omega) (by omega)
 ·rw [ediv_nat,ediv_nat,←prdX_comm]
  exact times1_any _ _ w (by omega) (by omega)
def ordR(s p:Bool):Int:=if p==s then 1 else -1
theorem order1_core(an ad bn bd xh xl yh yl:Int)(s p:Bool)(w:World)(hne:¬(an=bn∧ad=bd))(hs1:decide (an<0)=s)(hs2:decide (bn<0)=s)
 (Z:Hid (∀n,I64 n→∀w,Calls Tryz.prog 93 #[.int .i64 n] w fun e w'=>e= .returned (.int .u64 (absI n))∧w=w')) (I1:I64 an) (I2:I64 ad) (I3:I64 bn) (I4:I64 bd)
 (T1:Hid (∀w,Calls Tryz.prog 156 #[.int .u64 (absI an),.int .u64 bd] w fun e w'=>e= .returned (.agg #[.int .u64 xh,.int .u64 xl])∧w.Grows w')) (T2:Hid (∀w,Calls Tryz.prog 156 #[.int .u64 (absI bn),.int .u64 ad] w fun e w'=>e= .returned (.agg #[.int .u64 yh,.int .u64 yl])∧w.Grows w')) (u1:IntKind.u64.wrap ad=ad) (u2:IntKind.u64.wrap bd=bd)
 (L1:Hid (∀w,Calls Tryz.prog 158 #[.agg #[.int .u64 xh,.int .u64 xl],.agg #[.int .u64 yh,.int .u64 yl]] w fun e w'=>e= .returned (.bool p)∧w.Grows w'))
 :Calls Tryz.prog 148 #[.agg #[.int .i64 an,.int .i64 ad],.agg #[.int .i64 bn,.int .i64 bd]] w fun e w'=>e= .returned (.int .i64 (ordR s p))∧w.Grows w':=by
 by_cases e1:an=bn
 focus
  have e2:ad≠bd:=fun h=>hne ⟨e1,h⟩
  have d2:(ad==bd)=false:=by simpa using e2
  clear hne
  subst e1
  go_enter Tryz.func148,Tryz.ntmps148
  go_wp2_with fail
  refine Code.abs fun W0 hW0=>?_
  have y0:W0.cell? ⟨w.heap.size,0,none⟩=some (.int .i64 an):=by rw [←hW0];simp [go_sem]
  have y1:W0.cell? ⟨w.heap.size,1,none⟩=some (.int .i64 ad):=by rw [←hW0];simp [go_sem]
  have y2:W0.cell? ⟨w.heap.size+1,0,none⟩=some (.int .i64 an):=by rw [←hW0];simp [go_sem]
 rotate_left
 focus
  have d1:(an==bn)=false:=by simpa using e1
  clear hne
  go_enter Tryz.func148,Tryz.ntmps148
  go_wp2_with fail
  refine Code.abs fun W0 hW0=>?_
  have y0:W0.cell? ⟨w.heap.size,0,none⟩=some (.int .i64 an):=by rw [←hW0];simp [go_sem]
  have y1:W0.cell? ⟨w.heap.size,1,none⟩=some (.int .i64 ad):=by rw [←hW0];simp [go_sem]
  have y2:W0.cell? ⟨w.heap.size+1,0,none⟩=some (.int .i64 bn):=by rw [←hW0];simp [go_sem]
 rotate_left
 all_goals
  have y3:W0.cell? ⟨w.heap.size+1,1,none⟩=some (.int .i64 bd):=by rw [←hW0];simp [go_sem]
  have hby:Below w.heap.size w W0:=by rw [←hW0];(exact belB)
  have hq0:w.heap.size<W0.heap.size:=by rw [←hW0];simp;try omega
  have hq1:w.heap.size+1<W0.heap.size:=by rw [←hW0];simp;try omega
  clear hW0
  apply wp_region_made2 16 (14,5,.cells #[.int .u64 0,.int .u64 0] 168) (15,6,.cells #[.int .u64 0,.int .u64 0] 168) (by kernel_rfl) (by kernel_rfl)
  case hrx=>
   intro o ho ρ w
   obtain rfl:=Option.some.inj ho
   simp [go_sem]
  case hry=>
   intro o ho ρ w
   obtain rfl:=Option.some.inj ho
   simp [go_sem]
  case h1=>
   intro bs d
   simp only [List.take_succ_cons,List.take_zero,List.map_cons,List.map_nil,Oper.mask]
   repeat(go_big_quiet_step ((first|(go_at_call 93;(with_reducible exact Calls.quietMS (Z.out _ (by assumption) _)))|(go_at_call 156;first|(with_reducible exact Calls.quietM (T1.out _))|(with_reducible exact Calls.quietM (T2.out _))))))
   exact wpQuiet_nil rfl
  all_goals
   intro gb1 gd1 gb2 gd2 gb gd
   simp only [List.drop_succ_cons,List.drop_zero,Act.put,List.setIfInBounds_toArray,List.set_cons_zero,List.set_cons_succ]
  focus
   clear T1 T2 Z
   go_wp2_with fail
   refine Code.abs fun W hW=>?_
   have x0:W.cell? ⟨w.heap.size,0,none⟩=some (.int .i64 an):=by rw [←hW];simp [go_sem,hq0,hq1,y0]
   have x1:W.cell? ⟨W0.heap.size+gb1.size,0,none⟩=some (.int .u64 xh):=by rw [←hW];simp [go_sem]
   have x2:W.cell? ⟨W0.heap.size+gb1.size,1,none⟩=some (.int .u64 xl):=by rw [←hW];simp [go_sem]
   have x3:W.cell? ⟨W0.heap.size+gb1.size+1+gb2.size,0,none⟩=some (.int .u64 yh):=by rw [←hW];simp [go_sem]
   have x4:W.cell? ⟨W0.heap.size+gb1.size+1+gb2.size,1,none⟩=some (.int .u64 yl):=by rw [←hW];simp [go_sem]
  rotate_left
  focus
   clear T1 T2 Z
   go_wp2_with fail
   refine Code.abs fun W hW=>?_
   have x0:W.cell? ⟨w.heap.size,0,none⟩=some (.int .i64 an):=by rw [←hW];simp [go_sem,hq0,hq1,y0]
   have x1:W.cell? ⟨W0.heap.size+gb1.size,0,none⟩=some (.int .u64 yh):=by rw [←hW];simp [go_sem]
   have x2:W.cell? ⟨W0.heap.size+gb1.size,1,none⟩=some (.int .u64 yl):=by rw [←hW];simp [go_sem]
   have x3:W.cell? ⟨W0.heap.size+gb1.size+1+gb2.size,0,none⟩=some (.int .u64 xh):=by rw [←hW];simp [go_sem]
   have x4:W.cell? ⟨W0.heap.size+gb1.size+1+gb2.size,1,none⟩=some (.int .u64 xl):=by rw [←hW];simp [go_sem]
  rotate_left
  all_goals
   have hbw:Below w.heap.size w W:=by rw [←hW];(exact belB)
   have hz0:w.heap.size<W.heap.size:=by rw [←hW];simp;omega
   have hz1:W0.heap.size+gb1.size+1+gb2.size<W.heap.size:=by rw [←hW];simp;omega
   have hz2:W0.heap.size+gb1.size<W.heap.size:=by omega
   clear hW
   refine wp_region_quietG (by kernel_rfl) (by kernel_rfl) ?_
   repeat(go_big_quiet_step ((go_at_call 158;exact Calls.quietG (L1.out _))))
   refine wpQuiet_nil ?_
   intro _ hw'
   obtain⟨⟨gb,gd⟩,hw''⟩:=hw'
   subst hw''
   cases s<;>cases p
   all_goals
    go_wp2_with fail
    go_returns
    exact⟨rfl,.of_below belB⟩
theorem times_nn{F:FuncId}(T:∀(a b:Nat) (w:World),a<18446744073709551616→b<18446744073709551616→Calls Tryz.prog F #[.int .u64 a,.int .u64 b] w fun e w'=>e= .returned (.agg #[.int .u64 (hiW (a*b)),.int .u64 (loW (a*b))])∧w.Grows w')
 {a b:Int} (ha:I64 a) (hb:0≤b) (hb2:b≤9223372036854775807) (w:World):Calls Tryz.prog F #[.int .u64 (absI a),.int .u64 b] w fun e w'=>e= .returned (.agg #[.int .u64 (hiW (a.natAbs*b.natAbs)),.int .u64 (loW (a.natAbs*b.natAbs))])∧w.Grows w':=by
 unfold I64 at ha
 have:=T a.natAbs b.natAbs w (by omega) (by omega)
 rwa [show((b.natAbs:Nat):Int)=b by omega]at this
theorem ordR_same{an ad bn bd:Int}(ha:vfrac an ad=true)(hb:vfrac bn bd=true)(hne:¬(an=bn∧ad=bd))(h:decide (an<0)=decide (bn<0)) :
 cmpI an ad bn bd=ordR (decide (an<0)) (decide (an.natAbs*bd.natAbs<bn.natAbs*ad.natAbs)):=by
 have b1:=vfrac_bd ha
 have b2:=vfrac_bd hb
 rw [cmpR_same b1.1 b2.1 h]
 have hx:an.natAbs*bd.natAbs≠bn.natAbs*ad.natAbs:=by
  intro hc
  apply hne
  refine frac_eq ha hb ?_
  have e1:=abs_mul (a:=an) b2.1
  have e2:=abs_mul (a:=bn) b1.1
  rw [e1,e2,hc]
  by_cases c:an<0
  ·have:bn<0:=by simpa [c]using h
   rw [if_pos c,if_pos this]
  ·have:¬bn<0:=by simpa [c]using h
   rw [if_neg c,if_neg this]
 unfold cmpR ordR
 generalize an.natAbs*bd.natAbs=X at *
 generalize bn.natAbs*ad.natAbs=Y at *
 by_cases c:an<0<;>by_cases d:X<Y<;>by_cases e:Y<X<;>simp [c,d,e]<;>omega
theorem order1_same(an ad:Int)(w:World):Calls Tryz.prog 148 #[.agg #[.int .i64 an,.int .i64 ad],.agg #[.int .i64 an,.int .i64 ad]] w fun e w'=>e= .returned (.int .i64 0)∧w.Grows w':=by
 go_enter Tryz.func148,Tryz.ntmps148
 go_wp2_with fail
 exact fz17
theorem order1_diff(an ad bn bd r:Int)(w:World)(hd:decide (an<0)≠decide (bn<0))(hr:Hid (r=if an<0 then -1 else 1)):Calls Tryz.prog 148 #[.agg #[.int .i64 an,.int .i64 ad],.agg #[.int .i64 bn,.int .i64 bd]] w fun e w'=>e= .returned (.int .i64 r)∧w.Grows w':=by
 have d0:(an==bn)=false:=by
  rw [beq_eq_false_iff_ne];intro h;rw [h]at hd;exact hd rfl
 by_cases c:an<0
 ·have d1:decide (an<0)=true:=by simpa using c
  have d2:decide (bn<0)=false:=by simp [c]at hd;simpa using hd
  have HR:=Lib.hid (show r= -1 by rw [hr.out,if_pos c])
  exact fz59
 ·have d1:decide (an<0)=false:=by simpa using c
  have d2:decide (bn<0)=true:=by simp [c]at hd;simpa using hd
  have HR:=Lib.hid (show r=1 by rw [hr.out,if_neg c])
  exact fz59
theorem order1_any(an ad bn bd:Int)(w:World)(hva:vfrac an ad=true)(hvb:vfrac bn bd=true) :
 Calls Tryz.prog 148 #[.agg #[.int .i64 an,.int .i64 ad],.agg #[.int .i64 bn,.int .i64 bd]] w fun e w'=>e= .returned (.int .i64 (cmpI an ad bn bd))∧w.Grows w':=by
 have b1:=vfrac_bd hva
 have b2:=vfrac_bd hvb
 have i1:I64 an:=by unfold I64;omega
 have i2:I64 ad:=by unfold I64;omega
 have i3:I64 bn:=by unfold I64;omega
 have i4:I64 bd:=by unfold I64;omega
 by_cases he:an=bn∧ad=bd
 ·obtain⟨rfl,rfl⟩:=he
  rw [show cmpI an ad an ad=0 by unfold cmpI;rw [if_neg (by omega),if_neg (by omega)]]
  exact order1_same an ad w
 ·by_cases hs:decide (an<0)=decide (bn<0)
  ·rw [ordR_same hva hvb he hs]
   refine order1_core an ad bn bd _ _ _ _ _ _ w he rfl hs.symm (fun n h w=>size1_any n w h.1 h.2) i1 i2 i3 i4 (times_nn times1_any i1 (by omega) (by omega)) (times_nn times1_any i3 (by omega) (by omega)) (IntWalk.u64_in _ (by omega)) (IntWalk.u64_in _ (by omega)) ?_
   intro w;have:=less1_any (hiW (an.natAbs*bd.natAbs)) (loW (an.natAbs*bd.natAbs)) (hiW (bn.natAbs*ad.natAbs)) (loW (bn.natAbs*ad.natAbs)) w;rwa [wless_nat]at this
  ·rw [cmp_diff b1.1 b2.1 hs]
   exact order1_diff an ad bn bd _ w hs (Lib.hid rfl)
theorem cmp1_yes(an ad bn bd r:Int)(w:World)
 (V1:Hid (∀w,Calls Tryz.prog 97 #[.agg #[.int .i64 an,.int .i64 ad]] w fun e w'=>e= .returned (.bool true)∧w.Grows w')) (V2:Hid (∀w,Calls Tryz.prog 97 #[.agg #[.int .i64 bn,.int .i64 bd]] w fun e w'=>e= .returned (.bool true)∧w.Grows w'))
 (O:Hid (∀w,Calls Tryz.prog 148 #[.agg #[.int .i64 an,.int .i64 ad],.agg #[.int .i64 bn,.int .i64 bd]] w fun e w'=>e= .returned (.int .i64 r)∧w.Grows w'))
 :Calls Tryz.prog 95 #[.agg #[.int .i64 an,.int .i64 ad],.agg #[.int .i64 bn,.int .i64 bd]] w fun e w'=>e= .returned (frI (r,0))∧w.Grows w':=by
 go_enter Tryz.func95,Tryz.ntmps95
 go_wp2_with (first|(go_at_call 97;(with_reducible refine(V1.out _).mono ?_);rintro e w' ⟨rfl,bs,dr,rfl⟩)|(go_at_call 97;(with_reducible refine(V2.out _).mono ?_);rintro e w' ⟨rfl,bs2,dr2,rfl⟩)|(go_at_call 148;(with_reducible refine(O.out _).mono ?_);rintro e w' ⟨rfl,bs3,dr3,rfl⟩))
 go_returns
 exact⟨rfl,.of_below belB⟩
theorem cmp1_no(an ad bn bd:Int)(p q:Bool)(w:World)(hpq:(p&&q)=false)
 (V1:Hid (∀w,Calls Tryz.prog 97 #[.agg #[.int .i64 an,.int .i64 ad]] w fun e w'=>e= .returned (.bool p)∧w.Grows w')) (V2:Hid (∀w,Calls Tryz.prog 97 #[.agg #[.int .i64 bn,.int .i64 bd]] w fun e w'=>e= .returned (.bool q)∧w.Grows w'))
 :Calls Tryz.prog 95 #[.agg #[.int .i64 an,.int .i64 ad],.agg #[.int .i64 bn,.int .i64 bd]] w fun e w'=>e= .returned (frI (0,1))∧w.Grows w':=by
 have O:Hid True:=Lib.hid trivial
 cases p<;>cases q
 all_goals first
  |(exfalso;simp at hpq;done)
  |(clear hpq
    skip)
 all_goals
  go_enter Tryz.func95,Tryz.ntmps95
  go_wp2_with (first|(go_at_call 97;(with_reducible refine(V1.out _).mono ?_);rintro e w' ⟨rfl,bs,dr,rfl⟩)|(go_at_call 97;(with_reducible refine(V2.out _).mono ?_);rintro e w' ⟨rfl,bs2,dr2,rfl⟩)|(go_at_call 148;(with_reducible refine(O.out _).mono ?_);rintro e w' ⟨rfl,bs3,dr3,rfl⟩))
  go_returns
  exact⟨rfl,.of_below belB⟩
theorem Compare1_any(an ad bn bd:Int)(w:World)(hi:I64x4 an ad bn bd) :
 Calls Tryz.prog 95 #[.agg #[.int .i64 an,.int .i64 ad],.agg #[.int .i64 bn,.int .i64 bd]] w fun e w'=>e= .returned (frI (cmpF an ad bn bd))∧w.Grows w':=by
 obtain⟨i1,i2,i3,i4⟩:=hi
 have V1:=Lib.hid (fun w=>Valid1_any an ad w i1.1 i1.2 i2.1 i2.2)
 have V2:=Lib.hid (fun w=>Valid1_any bn bd w i3.1 i3.2 i4.1 i4.2)
 by_cases hv:(vfrac an ad&&vfrac bn bd)=true
 ·have hva:=(Bool.and_eq_true_iff.1 hv).1
  have hvb:=(Bool.and_eq_true_iff.1 hv).2
  rw [show cmpF an ad bn bd=(cmpI an ad bn bd,0)by unfold cmpF;rw [if_pos hv]]
  have O:=Lib.hid (fun w=>order1_any an ad bn bd w hva hvb)
  rw [hva]at V1
  rw [hvb]at V2
  exact cmp1_yes an ad bn bd _ w V1 V2 O
 ·rw [show cmpF an ad bn bd=(0,1)by unfold cmpF;rw [if_neg hv]]
  exact cmp1_no an ad bn bd _ _ w (Bool.eq_false_iff.2 hv) V1 V2
end Go.Proofs.YtfoefpoaomepbaaGreatDoor
