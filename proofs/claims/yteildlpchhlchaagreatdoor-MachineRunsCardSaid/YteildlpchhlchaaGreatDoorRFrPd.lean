import Derived.Test.YteildlpchhlchaaGreatDoorRAbs
set_option linter.all false
set_option maxHeartbeats 16000000
set_option maxRecDepth 1000000
namespace Go.Proofs.YteildlpchhlchaaGreatDoor
open Tryz List
open Go.RowKit
theorem NN{neg:Bool}{p q:Nat}:frV (if 1000000000000000<p\/1000000000<q then(0,0,2)else(if neg then -(p:Int)else p,q,0))=jg neg (hiW p) (loW p) (hiW q) (loW q):=(q9 neg p q).symm
theorem uE(neg:Bool)(a b c d g h H L K M:Int)(w:World)(g0:(g==0)=false)(h0:(h==0)=false)(g1:1<=g)(hh1:1<=h)(hl0:0<=L)(hm0:0<=M)
 (e1:IntKind.u64.wrap (a.tdiv g)=a / g) (e2:IntKind.u64.wrap (c.tdiv h)=c / h) (e3:IntKind.u64.wrap (b.tdiv h)=b / h) (e4:IntKind.u64.wrap (d.tdiv g)=d / g)
 (G1:Hid (∀w,Calls prog 153 #[.int .u64 a,.int .u64 d] w fun e w'=>e= .returned (.int .u64 g)/\w.Grows w'))
 (G2:Hid (∀w,Calls prog 153 #[.int .u64 c,.int .u64 b] w fun e w'=>e= .returned (.int .u64 h)/\w.Grows w'))
 (T1:Hid (∀w,Calls prog 162 #[.int .u64 (a / g),.int .u64 (c / h)] w fun e w'=>e= .returned (.agg #[.int .u64 H,.int .u64 L])/\w.Grows w'))
 (T2:Hid (∀w,Calls prog 162 #[.int .u64 (b / h),.int .u64 (d / g)] w fun e w'=>e= .returned (.agg #[.int .u64 K,.int .u64 M])/\w.Grows w')) :
 Calls prog 166 #[.bool neg,.int .u64 a,.int .u64 b,.int .u64 c,.int .u64 d] w fun e w'=>e= .returned (jg neg H L K M)/\w.Grows w':=by
 by_cases c1:(H !=0)=true
 ·have HW:=yq (show jg neg H L K M= .tuple #[.agg #[.int .i64 0,.int .i64 0],.int .i64 2]by rw [jg,if_pos (.inl c1)])
  go_enter func166,ntmps166
  go_wp2_with (first|(go_at_call 153;(with_reducible refine gvq (G1.out _) ?_);intro bs dr;clear G1)|(go_at_call 153;(with_reducible refine gvq (G2.out _) ?_);intro bs2 dr2;clear G2))
  have gz:¬g=0:=by omega
  have hz:¬h=0:=by omega
  generalize bs++bs2=B;apply aH 16 (14,14,.cells #[.int .u64 0,.int .u64 0] 158) (15,15,.cells #[.int .u64 0,.int .u64 0] 158) zd zd
  case hrx=>
   intro o ho ρ w;obtain rfl:=Option.some.inj ho;simp [go_sem]
  case hry=>
   intro o ho ρ w;obtain rfl:=Option.some.inj ho;simp [go_sem]
  case h1=>
   intro bs d;simp only [take_succ_cons,take_zero,map_cons,map_nil,Oper.mask];repeat(go_big_quiet_step ((go_at_call 162;first|(with_reducible exact Calls.quietM3 (T1.out _))|(with_reducible exact Calls.quietM3 (T2.out _)))))
   exact wpQuiet_nil rfl
  all_goals
   intro gb1 gd1 gb2 gd2 gb gd;simp only [drop_succ_cons,drop_zero,Act.put,setIfInBounds_toArray,set_cons_zero,set_cons_succ,World.grow_grow,World.size_grow,World.size_alloc,Array.size_append]
  all_goals
   go_wp2_with fail
   go_returns
   exact⟨by rw [HW.out],.of_below au⟩
 ·have c1':(H !=0)=false:=by simpa using c1
  by_cases c2:(1000000000000000:Int)<L
  ·have HW:=yq (show jg neg H L K M= .tuple #[.agg #[.int .i64 0,.int .i64 0],.int .i64 2]by rw [jg,if_pos (.inr (.inl c2))]);clear c1
   go_enter func166,ntmps166
   go_wp2_with (first|(go_at_call 153;(with_reducible refine gvq (G1.out _) ?_);intro bs dr;clear G1)|(go_at_call 153;(with_reducible refine gvq (G2.out _) ?_);intro bs2 dr2;clear G2))
   have gz:¬g=0:=by omega
   have hz:¬h=0:=by omega
   generalize bs++bs2=B;apply aH 16 (14,14,.cells #[.int .u64 0,.int .u64 0] 158) (15,15,.cells #[.int .u64 0,.int .u64 0] 158) zd zd
   case hrx=>
    intro o ho ρ w;obtain rfl:=Option.some.inj ho;simp [go_sem]
   case hry=>
    intro o ho ρ w;obtain rfl:=Option.some.inj ho;simp [go_sem]
   case h1=>
    intro bs d;simp only [take_succ_cons,take_zero,map_cons,map_nil,Oper.mask];repeat(go_big_quiet_step ((go_at_call 162;first|(with_reducible exact Calls.quietM3 (T1.out _))|(with_reducible exact Calls.quietM3 (T2.out _)))))
    exact wpQuiet_nil rfl
   all_goals
    intro gb1 gd1 gb2 gd2 gb gd;simp only [drop_succ_cons,drop_zero,Act.put,setIfInBounds_toArray,set_cons_zero,set_cons_succ,World.grow_grow,World.size_grow,World.size_alloc,Array.size_append]
   all_goals
    go_wp2_with fail
    go_returns
    exact⟨by rw [HW.out],.of_below au⟩
  ·have c2':decide ((1000000000000000:Int)<L)=false:=by simpa using c2
   by_cases c3:(K !=0)=true
   ·have HW:=yq (show jg neg H L K M= .tuple #[.agg #[.int .i64 0,.int .i64 0],.int .i64 2]by rw [jg,if_pos (.inr (.inr (.inl c3)))]);clear c1
    go_enter func166,ntmps166
    go_wp2_with (first|(go_at_call 153;(with_reducible refine gvq (G1.out _) ?_);intro bs dr;clear G1)|(go_at_call 153;(with_reducible refine gvq (G2.out _) ?_);intro bs2 dr2;clear G2))
    have gz:¬g=0:=by omega
    have hz:¬h=0:=by omega
    generalize bs++bs2=B;apply aH 16 (14,14,.cells #[.int .u64 0,.int .u64 0] 158) (15,15,.cells #[.int .u64 0,.int .u64 0] 158) zd zd
    case hrx=>
     intro o ho ρ w;obtain rfl:=Option.some.inj ho;simp [go_sem]
    case hry=>
     intro o ho ρ w;obtain rfl:=Option.some.inj ho;simp [go_sem]
    case h1=>
     intro bs d;simp only [take_succ_cons,take_zero,map_cons,map_nil,Oper.mask];repeat(go_big_quiet_step ((go_at_call 162;first|(with_reducible exact Calls.quietM3 (T1.out _))|(with_reducible exact Calls.quietM3 (T2.out _)))))
     exact wpQuiet_nil rfl
    all_goals
     intro gb1 gd1 gb2 gd2 gb gd;simp only [drop_succ_cons,drop_zero,Act.put,setIfInBounds_toArray,set_cons_zero,set_cons_succ,World.grow_grow,World.size_grow,World.size_alloc,Array.size_append]
    all_goals
     go_wp2_with fail
     go_returns
     exact⟨by rw [HW.out],.of_below au⟩
   ·have c3':(K !=0)=false:=by simpa using c3
    by_cases c4:(1000000000:Int)<M
    ·have HW:=yq (show jg neg H L K M= .tuple #[.agg #[.int .i64 0,.int .i64 0],.int .i64 2]by rw [jg,if_pos (.inr (.inr (.inr c4)))]);clear c1 c3
     go_enter func166,ntmps166
     go_wp2_with (first|(go_at_call 153;(with_reducible refine gvq (G1.out _) ?_);intro bs dr;clear G1)|(go_at_call 153;(with_reducible refine gvq (G2.out _) ?_);intro bs2 dr2;clear G2))
     have gz:¬g=0:=by omega
     have hz:¬h=0:=by omega
     generalize bs++bs2=B;apply aH 16 (14,14,.cells #[.int .u64 0,.int .u64 0] 158) (15,15,.cells #[.int .u64 0,.int .u64 0] 158) zd zd
     case hrx=>
      intro o ho ρ w;obtain rfl:=Option.some.inj ho;simp [go_sem]
     case hry=>
      intro o ho ρ w;obtain rfl:=Option.some.inj ho;simp [go_sem]
     case h1=>
      intro bs d;simp only [take_succ_cons,take_zero,map_cons,map_nil,Oper.mask];repeat(go_big_quiet_step ((go_at_call 162;first|(with_reducible exact Calls.quietM3 (T1.out _))|(with_reducible exact Calls.quietM3 (T2.out _)))))
      exact wpQuiet_nil rfl
     all_goals
      intro gb1 gd1 gb2 gd2 gb gd;simp only [drop_succ_cons,drop_zero,Act.put,setIfInBounds_toArray,set_cons_zero,set_cons_succ,World.grow_grow,World.size_grow,World.size_alloc,Array.size_append]
     all_goals
      go_wp2_with fail
      go_returns
      exact⟨by rw [HW.out],.of_below au⟩
    ·have c4':decide ((1000000000:Int)<M)=false:=by simpa using c4
     have HW:=yq (show jg neg H L K M= .tuple #[.agg #[.int .i64 (if neg then -L else L),.int .i64 M],.int .i64 0]by
      rw [jg,if_neg];rintro(x|x|x|x)
      ·exact c1 x
      ·exact c2 x
      ·exact c3 x
      ·exact c4 x)
     clear c1 c3;cases neg
     all_goals
      go_enter func166,ntmps166
      go_wp2_with (first|(go_at_call 153;(with_reducible refine gvq (G1.out _) ?_);intro bs dr;clear G1)|(go_at_call 153;(with_reducible refine gvq (G2.out _) ?_);intro bs2 dr2;clear G2))
      have gz:¬g=0:=by omega
      have hz:¬h=0:=by omega
      generalize bs++bs2=B;apply aH 16 (14,14,.cells #[.int .u64 0,.int .u64 0] 158) (15,15,.cells #[.int .u64 0,.int .u64 0] 158) zd zd
      case hrx=>
       intro o ho ρ w;obtain rfl:=Option.some.inj ho;simp [go_sem]
      case hry=>
       intro o ho ρ w;obtain rfl:=Option.some.inj ho;simp [go_sem]
      case h1=>
       intro bs d;simp only [take_succ_cons,take_zero,map_cons,map_nil,Oper.mask];repeat(go_big_quiet_step ((go_at_call 162;first|(with_reducible exact Calls.quietM3 (T1.out _))|(with_reducible exact Calls.quietM3 (T2.out _)))))
       exact wpQuiet_nil rfl
      all_goals
       intro gb1 gd1 gb2 gd2 gb gd;simp only [drop_succ_cons,drop_zero,Act.put,setIfInBounds_toArray,set_cons_zero,set_cons_succ,World.grow_grow,World.size_grow,World.size_alloc,Array.size_append]
      all_goals
       go_wp2_with fail
       go_returns
       exact⟨by rw [HW.out];rfl,.of_below au⟩
theorem oG(neg:Bool)(n d m k:Nat)(w:World)(h1:n<18446744073709551616)(h2:d<18446744073709551616)(h3:m<18446744073709551616)(h4:k<18446744073709551616)(hd:0<d)(hk:0<k) :
 Calls prog 166 #[.bool neg,.int .u64 n,.int .u64 d,.int .u64 m,.int .u64 k] w fun e w'=>e= .returned (frV (nD neg n d m k))/\w.Grows w':=by
 have g1:0<Nat.gcd n k:=Nat.gcd_pos_of_pos_right _ hk;have g2:0<Nat.gcd m d:=Nat.gcd_pos_of_pos_right _ hd;have b1:n / Nat.gcd n k<=n:=Nat.div_le_self _ _;have b2:m / Nat.gcd m d<=m:=Nat.div_le_self _ _;have b3:d / Nat.gcd m d<=d:=Nat.div_le_self _ _;have b4:k / Nat.gcd n k<=k:=Nat.div_le_self _ _;rw [show frV (nD neg n d m k)=jg neg (hiW (gV n k m d)) (loW (gV n k m d)) (hiW (gV d m k n)) (loW (gV d m k n))from NN]
 refine uE neg n d m k (Nat.gcd n k:Nat) (Nat.gcd m d:Nat) _ _ _ _ w
  zg zg zb zb (pQ _).1 (pQ _).1 (gQ zb zb zb) (gQ zb zb zb) (gQ zb zb zb) (gQ zb zb zb)
  (fun w=>?_) (fun w=>?_) (fun w=>?_) (fun w=>?_)
 ·have:=oQ n k w zb zb zb zb;rw [oP]at this;exact Calls.quietD this
 ·have:=oQ m d w zb zb zb zb;rw [oP]at this;exact Calls.quietD this
 ·rw [fC,fC];exact il _ _ w zb zb
 ·rw [fC,fC,<-vL];exact il _ _ w zb zb
def Qy(s p:Bool):Int:=if p==s then 1 else -1
theorem BH(an ad bn bd xh xl yh yl:Int)(s p:Bool)(w:World)(hne:¬(an=bn/\ad=bd))(hs1:decide (an<0)=s)(hs2:decide (bn<0)=s)
 (Z:Hid (∀n,I64 n->∀w,Calls prog 93 #[.int .i64 n] w fun e w'=>e= .returned (.int .u64 (aG n))/\w=w')) (I1:I64 an) (I2:I64 ad) (I3:I64 bn) (I4:I64 bd)
 (T1:Hid (∀w,Calls prog 162 #[.int .u64 (aG an),.int .u64 bd] w fun e w'=>e= .returned (.agg #[.int .u64 xh,.int .u64 xl])/\w.Grows w')) (T2:Hid (∀w,Calls prog 162 #[.int .u64 (aG bn),.int .u64 ad] w fun e w'=>e= .returned (.agg #[.int .u64 yh,.int .u64 yl])/\w.Grows w')) (u1:IntKind.u64.wrap ad=ad) (u2:IntKind.u64.wrap bd=bd)
 (L1:Hid (∀w,Calls prog 164 #[.agg #[.int .u64 xh,.int .u64 xl],.agg #[.int .u64 yh,.int .u64 yl]] w fun e w'=>e= .returned (.bool p)/\w.Grows w'))
 :Calls prog 154 #[.agg #[.int .i64 an,.int .i64 ad],.agg #[.int .i64 bn,.int .i64 bd]] w fun e w'=>e= .returned (.int .i64 (Qy s p))/\w.Grows w':=by
 by_cases e1:an=bn
 focus
  have e2:ad≠bd:=fun h=>hne ⟨e1,h⟩;have d2:(ad==bd)=false:=by simpa using e2
  clear hne;subst e1
  go_enter func154,ntmps154
  go_wp2_with fail
  refine Code.abs fun W0 hW0=>?_;have y0:W0.cell? ⟨w.heap.size,0,none⟩=some (.int .i64 an):=by rw [<-hW0];simp [go_sem]
  have y1:W0.cell? ⟨w.heap.size,1,none⟩=some (.int .i64 ad):=by rw [<-hW0];simp [go_sem]
  have y2:W0.cell? ⟨w.heap.size+1,0,none⟩=some (.int .i64 an):=by rw [<-hW0];simp [go_sem]
 rotate_left
 focus
  have d1:(an==bn)=false:=by simpa using e1
  clear hne
  go_enter func154,ntmps154
  go_wp2_with fail
  refine Code.abs fun W0 hW0=>?_;have y0:W0.cell? ⟨w.heap.size,0,none⟩=some (.int .i64 an):=by rw [<-hW0];simp [go_sem]
  have y1:W0.cell? ⟨w.heap.size,1,none⟩=some (.int .i64 ad):=by rw [<-hW0];simp [go_sem]
  have y2:W0.cell? ⟨w.heap.size+1,0,none⟩=some (.int .i64 bn):=by rw [<-hW0];simp [go_sem]
 rotate_left
 all_goals
  have y3:W0.cell? ⟨w.heap.size+1,1,none⟩=some (.int .i64 bd):=by rw [<-hW0];simp [go_sem]
  have hby:Below w.heap.size w W0:=by rw [<-hW0];(exact au)
  have hq0:w.heap.size<W0.heap.size:=by rw [<-hW0];simp;try omega
  have hq1:w.heap.size+1<W0.heap.size:=by rw [<-hW0];simp;try omega
  clear hW0;apply iT 16 (14,5,.cells #[.int .u64 0,.int .u64 0] 158) (15,6,.cells #[.int .u64 0,.int .u64 0] 158) zd zd
  case hrx=>
   intro o ho ρ w;obtain rfl:=Option.some.inj ho;simp [go_sem]
  case hry=>
   intro o ho ρ w;obtain rfl:=Option.some.inj ho;simp [go_sem]
  case h1=>
   intro bs d;simp only [take_succ_cons,take_zero,map_cons,map_nil,Oper.mask];repeat(go_big_quiet_step ((first|(go_at_call 93;(with_reducible exact Calls.quietMS (Z.out _ zm _)))|(go_at_call 162;first|(with_reducible exact Calls.quietM (T1.out _))|(with_reducible exact Calls.quietM (T2.out _))))))
   exact wpQuiet_nil rfl
  all_goals
   intro gb1 gd1 gb2 gd2 gb gd;simp only [drop_succ_cons,drop_zero,Act.put,setIfInBounds_toArray,set_cons_zero,set_cons_succ]
  focus
   clear T1 T2 Z
   go_wp2_with fail
   refine Code.abs fun W hW=>?_;have x0:W.cell? ⟨w.heap.size,0,none⟩=some (.int .i64 an):=by rw [<-hW];simp [go_sem,hq0,hq1,y0]
   have x1:W.cell? ⟨W0.heap.size+gb1.size,0,none⟩=some (.int .u64 xh):=by rw [<-hW];simp [go_sem]
   have x2:W.cell? ⟨W0.heap.size+gb1.size,1,none⟩=some (.int .u64 xl):=by rw [<-hW];simp [go_sem]
   have x3:W.cell? ⟨W0.heap.size+gb1.size+1+gb2.size,0,none⟩=some (.int .u64 yh):=by rw [<-hW];simp [go_sem]
   have x4:W.cell? ⟨W0.heap.size+gb1.size+1+gb2.size,1,none⟩=some (.int .u64 yl):=by rw [<-hW];simp [go_sem]
  rotate_left
  focus
   clear T1 T2 Z
   go_wp2_with fail
   refine Code.abs fun W hW=>?_;have x0:W.cell? ⟨w.heap.size,0,none⟩=some (.int .i64 an):=by rw [<-hW];simp [go_sem,hq0,hq1,y0]
   have x1:W.cell? ⟨W0.heap.size+gb1.size,0,none⟩=some (.int .u64 yh):=by rw [<-hW];simp [go_sem]
   have x2:W.cell? ⟨W0.heap.size+gb1.size,1,none⟩=some (.int .u64 yl):=by rw [<-hW];simp [go_sem]
   have x3:W.cell? ⟨W0.heap.size+gb1.size+1+gb2.size,0,none⟩=some (.int .u64 xh):=by rw [<-hW];simp [go_sem]
   have x4:W.cell? ⟨W0.heap.size+gb1.size+1+gb2.size,1,none⟩=some (.int .u64 xl):=by rw [<-hW];simp [go_sem]
  rotate_left
  all_goals
   have hbw:Below w.heap.size w W:=by rw [<-hW];(exact au)
   have hz0:w.heap.size<W.heap.size:=by rw [<-hW];simp;omega
   have hz1:W0.heap.size+gb1.size+1+gb2.size<W.heap.size:=by rw [<-hW];simp;omega
   have hz2:W0.heap.size+gb1.size<W.heap.size:=by omega
   clear hW;refine jZ zd zd ?_;repeat(go_big_quiet_step ((go_at_call 164;exact Calls.quietG (L1.out _))))
   refine wpQuiet_nil ?_;intro _ hw';obtain⟨⟨gb,gd⟩,hw''⟩:=hw';subst hw'';cases s<;>cases p
   all_goals
    go_wp2_with fail
    go_returns
    exact⟨rfl,.of_below au⟩
theorem om{F:FuncId}(T:∀(a b:Nat) (w:World),a<18446744073709551616->b<18446744073709551616->Calls prog F #[.int .u64 a,.int .u64 b] w fun e w'=>e= .returned (.agg #[.int .u64 (hiW (a*b)),.int .u64 (loW (a*b))])/\w.Grows w')
 {a b:Int} (ha:I64 a) (hb:0<=b) (hb2:b<=9223372036854775807) (w:World):Calls prog F #[.int .u64 (aG a),.int .u64 b] w fun e w'=>e= .returned (.agg #[.int .u64 (hiW (a.natAbs*b.natAbs)),.int .u64 (loW (a.natAbs*b.natAbs))])/\w.Grows w':=by
 unfold I64 at ha;have:=T a.natAbs b.natAbs w zb zb
 rwa [show((b.natAbs:Nat):Int)=b by omega]at this
theorem GY{an ad bn bd:Int}(ha:az an ad=true)(hb:az bn bd=true)(hne:¬(an=bn/\ad=bd))(h:decide (an<0)=decide (bn<0)) :
 gY an ad bn bd=Qy (decide (an<0)) (decide (an.natAbs*bd.natAbs<bn.natAbs*ad.natAbs)):=by
 have b1:=aF ha;have b2:=aF hb;rw [wZ b1.1 b2.1 h]
 have hx:an.natAbs*bd.natAbs≠bn.natAbs*ad.natAbs:=by
  intro hc;apply hne;refine F4 ha hb ?_;have e1:=ru (a:=an) b2.1;have e2:=ru (a:=bn) b1.1;rw [e1,e2,hc];by_cases c:an<0
  ·have:bn<0:=by simpa [c]using h
   rw [if_pos c,if_pos this]
  ·have:¬bn<0:=by simpa [c]using h
   rw [if_neg c,if_neg this]
 unfold O7 Qy;generalize an.natAbs*bd.natAbs=X at *;generalize bn.natAbs*ad.natAbs=Y at *;by_cases c:an<0<;>by_cases d:X<Y<;>by_cases e:Y<X<;>simp [c,d,e]<;>omega
theorem BF(an ad:Int)(w:World):Calls prog 154 #[.agg #[.int .i64 an,.int .i64 ad],.agg #[.int .i64 an,.int .i64 ad]] w fun e w'=>e= .returned (.int .i64 0)/\w.Grows w':=by
 go_enter func154,ntmps154
 exact uD
theorem BG(an ad bn bd r:Int)(w:World)(hd:decide (an<0)≠decide (bn<0))(hr:Hid (r=if an<0 then -1 else 1)):Calls prog 154 #[.agg #[.int .i64 an,.int .i64 ad],.agg #[.int .i64 bn,.int .i64 bd]] w fun e w'=>e= .returned (.int .i64 r)/\w.Grows w':=by
 have d0:(an==bn)=false:=by
  rw [beq_eq_false_iff_ne];intro h;rw [h]at hd;exact hd rfl
 by_cases c:an<0
 ·have d1:decide (an<0)=true:=by simpa using c
  have d2:decide (bn<0)=false:=by simp [c]at hd;simpa using hd
  have HR:=yq (show r= -1 by rw [hr.out,if_pos c]);exact Ry
 ·have d1:decide (an<0)=false:=by simpa using c
  have d2:decide (bn<0)=true:=by simp [c]at hd;simpa using hd
  have HR:=yq (show r=1 by rw [hr.out,if_neg c]);exact Ry
theorem Ea(an ad bn bd:Int)(w:World)(hva:az an ad=true)(hvb:az bn bd=true) :
 Calls prog 154 #[.agg #[.int .i64 an,.int .i64 ad],.agg #[.int .i64 bn,.int .i64 bd]] w fun e w'=>e= .returned (.int .i64 (gY an ad bn bd))/\w.Grows w':=by
 have b1:=aF hva;have b2:=aF hvb;have i1:I64 an:=by unfold I64;omega
 have i2:I64 ad:=by unfold I64;omega
 have i3:I64 bn:=by unfold I64;omega
 have i4:I64 bd:=by unfold I64;omega
 by_cases he:an=bn/\ad=bd
 ·obtain⟨rfl,rfl⟩:=he;rw [show gY an ad an ad=0 by unfold gY;rw [if_neg zb,if_neg zb]];exact BF an ad w
 ·by_cases hs:decide (an<0)=decide (bn<0)
  ·rw [GY hva hvb he hs];refine BH an ad bn bd _ _ _ _ _ _ w he rfl hs.symm (fun n h w=>fD n w h.1 h.2) i1 i2 i3 i4 (om il i1 zb zb) (om il i3 zb zb) (IntWalk.u64_in _ zb) (IntWalk.u64_in _ zb) ?_;intro w;have:=vY (hiW (an.natAbs*bd.natAbs)) (loW (an.natAbs*bd.natAbs)) (hiW (bn.natAbs*ad.natAbs)) (loW (bn.natAbs*ad.natAbs)) w;rwa [kg]at this
  ·rw [CX b1.1 b2.1 hs];exact BG an ad bn bd _ w hs (yq rfl)
theorem Me(an ad bn bd r:Int)(w:World)
 (V1:Hid (∀w,Calls prog 97 #[.agg #[.int .i64 an,.int .i64 ad]] w fun e w'=>e= .returned (.bool true)/\w.Grows w')) (V2:Hid (∀w,Calls prog 97 #[.agg #[.int .i64 bn,.int .i64 bd]] w fun e w'=>e= .returned (.bool true)/\w.Grows w'))
 (O:Hid (∀w,Calls prog 154 #[.agg #[.int .i64 an,.int .i64 ad],.agg #[.int .i64 bn,.int .i64 bd]] w fun e w'=>e= .returned (.int .i64 r)/\w.Grows w'))
 :Calls prog 95 #[.agg #[.int .i64 an,.int .i64 ad],.agg #[.int .i64 bn,.int .i64 bd]] w fun e w'=>e= .returned (frI (r,0))/\w.Grows w':=by
 go_enter func95,ntmps95
 go_wp2_with (first|(go_at_call 97;(with_reducible refine gvq (V1.out _) ?_);intro bs dr)|(go_at_call 97;(with_reducible refine gvq (V2.out _) ?_);intro bs2 dr2)|(go_at_call 154;(with_reducible refine gvq (O.out _) ?_);intro bs3 dr3))
 go_returns
 exact⟨rfl,.of_below au⟩
theorem O9(an ad bn bd:Int)(p q:Bool)(w:World)(hpq:(p&&q)=false)
 (V1:Hid (∀w,Calls prog 97 #[.agg #[.int .i64 an,.int .i64 ad]] w fun e w'=>e= .returned (.bool p)/\w.Grows w')) (V2:Hid (∀w,Calls prog 97 #[.agg #[.int .i64 bn,.int .i64 bd]] w fun e w'=>e= .returned (.bool q)/\w.Grows w'))
 :Calls prog 95 #[.agg #[.int .i64 an,.int .i64 ad],.agg #[.int .i64 bn,.int .i64 bd]] w fun e w'=>e= .returned (frI (0,1))/\w.Grows w':=by
 have O:Hid True:=yq trivial;cases p<;>cases q
 all_goals first
  |(exfalso;simp at hpq;done)
  |(clear hpq
    skip)
 all_goals
  go_enter func95,ntmps95
  go_wp2_with (first|(go_at_call 97;(with_reducible refine gvq (V1.out _) ?_);intro bs dr)|(go_at_call 97;(with_reducible refine gvq (V2.out _) ?_);intro bs2 dr2)|(go_at_call 154;(with_reducible refine gvq (O.out _) ?_);intro bs3 dr3))
  go_returns
  exact⟨rfl,.of_below au⟩
theorem pF(an ad bn bd:Int)(w:World)(hi:lw an ad bn bd) :
 Calls prog 95 #[.agg #[.int .i64 an,.int .i64 ad],.agg #[.int .i64 bn,.int .i64 bd]] w fun e w'=>e= .returned (frI (qi an ad bn bd))/\w.Grows w':=by
 obtain⟨i1,i2,i3,i4⟩:=hi;have V1:=yq (fun w=>bP an ad w i1.1 i1.2 i2.1 i2.2);have V2:=yq (fun w=>bP bn bd w i3.1 i3.2 i4.1 i4.2);by_cases hv:(az an ad&&az bn bd)=true
 ·have hva:=(Bool.and_eq_true_iff.1 hv).1;have hvb:=(Bool.and_eq_true_iff.1 hv).2;rw [show qi an ad bn bd=(gY an ad bn bd,0)by unfold qi;rw [if_pos hv]];have O:=yq (fun w=>Ea an ad bn bd w hva hvb);rw [hva]at V1;rw [hvb]at V2;exact Me an ad bn bd _ w V1 V2 O
 ·rw [show qi an ad bn bd=(0,1)by unfold qi;rw [if_neg hv]];exact O9 an ad bn bd _ _ w (Bool.eq_false_iff.2 hv) V1 V2
theorem vM{b c:Bool}{n d m k:Nat}(h:n=0\/m=0\/b=c):nD b n d m k=nD c n d m k:=by
 rcases h with rfl|rfl|rfl
 ·have:gV 0 k m d=0:=by simp [gV]
  unfold nD;rw [this];cases b<;>cases c<;>simp
 ·have:gV n k 0 d=0:=by simp [gV]
  unfold nD;rw [this];cases b<;>cases c<;>simp
 ·rfl
def AV(s1 s2 s3 s4 neg:Bool):Prop:=(s1=true/\s2=true/\neg=true)\/(s1=true/\s2=false/\s3=false/\neg=false)\/(s1=false/\s3=true/\s4=true/\neg=true)\/(s1=false/\s3=true/\s4=false/\neg=false)\/(s1=false/\s3=false/\neg=false)
theorem FW(an bn:Int):∃neg,AV (decide (an<0)) (decide (0<bn)) (decide (0<an)) (decide (bn<0)) neg/\(an.natAbs=0\/bn.natAbs=0\/neg=(decide (an<0)!=decide (bn<0))):=by
 by_cases h1:an<0
 ·by_cases h2:0<bn
  ·exact⟨true,.inl (by simp [h1,h2]),by right;right;simp [h1];omega⟩
  ·refine⟨false,.inr (.inl (by simp [h1,h2];omega)), ?_⟩;by_cases h3:bn=0
   ·exact .inr (.inl zb)
   ·right;right;simp [h1];omega
 ·by_cases h2:0<an
  ·by_cases h3:bn<0
   ·exact⟨true,.inr (.inr (.inl (by simp [h1,h2,h3]))),by right;right;simp [h1,h3]⟩
   ·exact⟨false,.inr (.inr (.inr (.inl (by simp [h1,h2,h3])))),by right;right;simp [h1,h3]⟩
  ·exact⟨false,.inr (.inr (.inr (.inr (by simp [h1,h2])))),.inl zb⟩
theorem Hr(an ad bn bd n1 n2 n3:Int)(s1 s2 s3 s4 neg:Bool)(w:World)(h1:decide (an<0)=s1)(h2:decide (0<bn)=s2)(h3:decide (0<an)=s3)(h4:decide (bn<0)=s4)(hc:AV s1 s2 s3 s4 neg)
 (V1:Hid (∀w,Calls prog 128 #[.agg #[.int .i64 an,.int .i64 ad]] w fun e w'=>e= .returned (.bool true)/\w.Grows w')) (V2:Hid (∀w,Calls prog 128 #[.agg #[.int .i64 bn,.int .i64 bd]] w fun e w'=>e= .returned (.bool true)/\w.Grows w'))
 (Z:Hid (∀n,I64 n->∀w,Calls prog 177 #[.int .i64 n] w fun e w'=>e= .returned (.int .u64 (aG n))/\w=w')) (I1:I64 an) (I2:I64 ad) (I3:I64 bn) (I4:I64 bd)
 (Q:Hid (∀w,Calls prog 188 #[.bool neg,.int .u64 (aG an),.int .u64 (aG ad),.int .u64 (aG bn),.int .u64 (aG bd)] w fun e w'=>(e= .returned (.tuple #[.agg #[.int .i64 n1,.int .i64 n2],.int .i64 n3])/\w.Grows w')))
 :Calls prog 137 (#[.agg #[.int .i64 an,.int .i64 ad],.agg #[.int .i64 bn,.int .i64 bd]]) w fun e w'=>(e= .returned (.tuple #[.agg #[.int .i64 n1,.int .i64 n2],.int .i64 n3])/\w.Grows w'):=by
 rcases hc with ⟨rfl,rfl,rfl⟩|⟨rfl,rfl,rfl,rfl⟩|⟨rfl,rfl,rfl,rfl⟩|⟨rfl,rfl,rfl,rfl⟩|⟨rfl,rfl,rfl⟩
 all_goals
  go_enter func137,ntmps137
  go_wp2_with (first|(go_at_call 128;(with_reducible refine gvq (V1.out _) ?_);intro bs dr)|(go_at_call 128;(with_reducible refine gvq (V2.out _) ?_);intro bs2 dr2))
  refine TS.begin [16,17] (World.Grows _) zd zd aO (fun hS=>?_);refine kq 0 hS ?_;refine kq 1 hS ?_;refine kq 2 hS ?_;refine TS.takeC (i:=3) (v:=(.int .u64 (aG an))) (fn:=177) (args:=#[.int .i64 an]) rfl zd zd zd zf (fun _ _ _ h=>h) rfl hS ?_ ?_ ?_
  focus
   rintro wS ⟨gbS,gdS,rfl⟩
   go_simp
  focus exact fun wS _=>(Z.out _ zm wS)
  (try simp only [nS])
  refine kq 4 hS ?_;refine kq 5 hS ?_;refine TS.takeC (i:=6) (v:=(.int .u64 (aG ad))) (fn:=177) (args:=#[.int .i64 ad]) rfl zd zd zd zf (fun _ _ _ h=>h) rfl hS ?_ ?_ ?_
  focus
   rintro wS ⟨gbS,gdS,rfl⟩
   go_simp
  focus exact fun wS _=>(Z.out _ zm wS)
  (try simp only [nS])
  refine kq 7 hS ?_;refine kq 8 hS ?_;refine TS.takeC (i:=9) (v:=(.int .u64 (aG bn))) (fn:=177) (args:=#[.int .i64 bn]) rfl zd zd zd zf (fun _ _ _ h=>h) rfl hS ?_ ?_ ?_
  focus
   rintro wS ⟨gbS,gdS,rfl⟩
   go_simp
  focus exact fun wS _=>(Z.out _ zm wS)
  (try simp only [nS])
  refine kq 10 hS ?_;refine kq 11 hS ?_;refine TS.takeC (i:=12) (v:=(.int .u64 (aG bd))) (fn:=177) (args:=#[.int .i64 bd]) rfl zd zd zd zf (fun _ _ _ h=>h) rfl hS ?_ ?_ ?_
  focus
   rintro wS ⟨gbS,gdS,rfl⟩
   go_simp
  focus exact fun wS _=>(Z.out _ zm wS)
  (try simp only [nS])
  refine TS.one (i:=13) zd rfl (fun K1 hK1=>?_)
  go_simp
  go_at_call 188
  refine gvq (Q.out _) ?_;intro bA dA;refine TS.go hK1 zp (fun hS=>?_);clear hK1 K1
  (try simp only [nS])
  refine kq 14 hS ?_;refine kq 15 hS ?_;refine TS.wtB 16 ?_;refine TS.weB 17 ?_;clear hS
  go_wp2_with fail
  go_returns
  exact⟨rfl,.of_below au⟩
theorem I5(an ad bn bd n1 n2 n3:Int)(s1 s2 s3 s4 neg:Bool)(w:World)(h1:decide (an<0)=s1)(h2:decide (0<bn)=s2)(h3:decide (0<an)=s3)(h4:decide (bn<0)=s4)(hc:AV s1 s2 s3 s4 neg)(h5:(bn==0)=false)
 (V1:Hid (∀w,Calls prog 128 #[.agg #[.int .i64 an,.int .i64 ad]] w fun e w'=>e= .returned (.bool true)/\w.Grows w')) (V2:Hid (∀w,Calls prog 128 #[.agg #[.int .i64 bn,.int .i64 bd]] w fun e w'=>e= .returned (.bool true)/\w.Grows w'))
 (Z:Hid (∀n,I64 n->∀w,Calls prog 177 #[.int .i64 n] w fun e w'=>e= .returned (.int .u64 (aG n))/\w=w')) (I1:I64 an) (I2:I64 ad) (I3:I64 bn) (I4:I64 bd)
 (Q:Hid (∀w,Calls prog 188 #[.bool neg,.int .u64 (aG an),.int .u64 (aG ad),.int .u64 (aG bd),.int .u64 (aG bn)] w fun e w'=>(e= .returned (.tuple #[.agg #[.int .i64 n1,.int .i64 n2],.int .i64 n3])/\w.Grows w')))
 :Calls prog 138 (#[.agg #[.int .i64 an,.int .i64 ad],.agg #[.int .i64 bn,.int .i64 bd]]) w fun e w'=>(e= .returned (.tuple #[.agg #[.int .i64 n1,.int .i64 n2],.int .i64 n3])/\w.Grows w'):=by
 rcases hc with ⟨rfl,rfl,rfl⟩|⟨rfl,rfl,rfl,rfl⟩|⟨rfl,rfl,rfl,rfl⟩|⟨rfl,rfl,rfl,rfl⟩|⟨rfl,rfl,rfl⟩
 all_goals
  go_enter func138,ntmps138
  go_wp2_with (first|(go_at_call 128;(with_reducible refine gvq (V1.out _) ?_);intro bs dr)|(go_at_call 128;(with_reducible refine gvq (V2.out _) ?_);intro bs2 dr2))
  refine TS.begin [16,17] (World.Grows _) zd zd aO (fun hS=>?_);refine kq 0 hS ?_;refine kq 1 hS ?_;refine kq 2 hS ?_;refine TS.takeC (i:=3) (v:=(.int .u64 (aG an))) (fn:=177) (args:=#[.int .i64 an]) rfl zd zd zd zf (fun _ _ _ h=>h) rfl hS ?_ ?_ ?_
  focus
   rintro wS ⟨gbS,gdS,rfl⟩
   go_simp
  focus exact fun wS _=>(Z.out _ zm wS)
  (try simp only [nS])
  refine kq 4 hS ?_;refine kq 5 hS ?_;refine TS.takeC (i:=6) (v:=(.int .u64 (aG ad))) (fn:=177) (args:=#[.int .i64 ad]) rfl zd zd zd zf (fun _ _ _ h=>h) rfl hS ?_ ?_ ?_
  focus
   rintro wS ⟨gbS,gdS,rfl⟩
   go_simp
  focus exact fun wS _=>(Z.out _ zm wS)
  (try simp only [nS])
  refine kq 7 hS ?_;refine kq 8 hS ?_;refine TS.takeC (i:=9) (v:=(.int .u64 (aG bd))) (fn:=177) (args:=#[.int .i64 bd]) rfl zd zd zd zf (fun _ _ _ h=>h) rfl hS ?_ ?_ ?_
  focus
   rintro wS ⟨gbS,gdS,rfl⟩
   go_simp
  focus exact fun wS _=>(Z.out _ zm wS)
  (try simp only [nS])
  refine kq 10 hS ?_;refine kq 11 hS ?_;refine TS.takeC (i:=12) (v:=(.int .u64 (aG bn))) (fn:=177) (args:=#[.int .i64 bn]) rfl zd zd zd zf (fun _ _ _ h=>h) rfl hS ?_ ?_ ?_
  focus
   rintro wS ⟨gbS,gdS,rfl⟩
   go_simp
  focus exact fun wS _=>(Z.out _ zm wS)
  (try simp only [nS])
  refine TS.one (i:=13) zd rfl (fun K1 hK1=>?_)
  go_simp
  go_at_call 188
  refine gvq (Q.out _) ?_;intro bA dA;refine TS.go hK1 zp (fun hS=>?_);clear hK1 K1
  (try simp only [nS])
  refine kq 14 hS ?_;refine kq 15 hS ?_;refine TS.wtB 16 ?_;refine TS.weB 17 ?_;clear hS
  go_wp2_with fail
  go_returns
  exact⟨rfl,.of_below au⟩

theorem Ht(an ad bn bd n1 n2 n3:Int)(s t:Bool)(w:World)(h1:decide (an<0)=s)(h2:decide (bn<0)=t)(u1:IntKind.u64.wrap ad=ad)(u2:IntKind.u64.wrap bd=bd)
 (V1:Hid (∀w,Calls prog 97 #[.agg #[.int .i64 an,.int .i64 ad]] w fun e w'=>e= .returned (.bool true)/\w.Grows w')) (V2:Hid (∀w,Calls prog 97 #[.agg #[.int .i64 bn,.int .i64 bd]] w fun e w'=>e= .returned (.bool true)/\w.Grows w'))
 (Z:Hid (∀n,I64 n->∀w,Calls prog 93 #[.int .i64 n] w fun e w'=>e= .returned (.int .u64 (aG n))/\w=w')) (I1:I64 an) (I2:I64 ad) (I3:I64 bn) (I4:I64 bd)
 (Q:Hid (∀w,Calls prog 166 #[.bool (s !=t),.int .u64 (aG an),.int .u64 ad,.int .u64 (aG bn),.int .u64 bd] w fun e w'=>(e= .returned (.tuple #[.agg #[.int .i64 n1,.int .i64 n2],.int .i64 n3])/\w.Grows w')))
 :Calls prog 119 (#[.agg #[.int .i64 an,.int .i64 ad],.agg #[.int .i64 bn,.int .i64 bd]]) w fun e w'=>(e= .returned (.tuple #[.agg #[.int .i64 n1,.int .i64 n2],.int .i64 n3])/\w.Grows w'):=by
 go_enter func119,ntmps119
 go_wp2_with (first|(go_at_call 97;(with_reducible refine gvq (V1.out _) ?_);intro bs dr)|(go_at_call 97;(with_reducible refine gvq (V2.out _) ?_);intro bs2 dr2))
 refine TS.begin [22,23] (World.Grows _) zd zd aO (fun hS=>?_);refine kq 0 hS ?_;refine kq 1 hS ?_;refine kq 2 hS ?_;refine kq 3 hS ?_;refine kq 4 hS ?_;refine kq 5 hS ?_;refine kq 6 hS ?_;refine kq 7 hS ?_;refine kq 8 hS ?_;refine TS.takeC (i:=9) (v:=(.int .u64 (aG an))) (fn:=93) (args:=#[.int .i64 an]) rfl zd zd zd zf (fun _ _ _ h=>h) rfl hS ?_ ?_ ?_
 focus
  rintro wS ⟨gbS,gdS,rfl⟩
  go_simp
 focus exact fun wS _=>(Z.out _ zm wS)
 (try simp only [nS])
 refine kq 10 hS ?_;refine kq 11 hS ?_;refine kq 12 hS ?_;refine kq 13 hS ?_;refine kq 14 hS ?_;refine TS.takeC (i:=15) (v:=(.int .u64 (aG bn))) (fn:=93) (args:=#[.int .i64 bn]) rfl zd zd zd zf (fun _ _ _ h=>h) rfl hS ?_ ?_ ?_
 focus
  rintro wS ⟨gbS,gdS,rfl⟩
  go_simp
 focus exact fun wS _=>(Z.out _ zm wS)
 (try simp only [nS])
 refine kq 16 hS ?_;refine kq 17 hS ?_;refine kq 18 hS ?_;refine TS.one (i:=19) zd rfl (fun K1 hK1=>?_)
 go_simp
 go_at_call 166
 refine gvq (Q.out _) ?_;intro bA dA;refine TS.go hK1 zp (fun hS=>?_);clear hK1 K1
 (try simp only [nS])
 refine kq 20 hS ?_;refine kq 21 hS ?_;refine TS.wtB 22 ?_;refine TS.weB 23 ?_;clear hS
 go_wp2_with fail
 go_returns
 exact⟨rfl,.of_below au⟩
theorem I7(an ad bn bd n1 n2 n3:Int)(s t:Bool)(w:World)(h1:decide (an<0)=s)(h2:decide (bn<0)=t)(u1:IntKind.u64.wrap ad=ad)(u2:IntKind.u64.wrap bd=bd)(h5:(bn==0)=false)
 (V1:Hid (∀w,Calls prog 97 #[.agg #[.int .i64 an,.int .i64 ad]] w fun e w'=>e= .returned (.bool true)/\w.Grows w')) (V2:Hid (∀w,Calls prog 97 #[.agg #[.int .i64 bn,.int .i64 bd]] w fun e w'=>e= .returned (.bool true)/\w.Grows w'))
 (Z:Hid (∀n,I64 n->∀w,Calls prog 93 #[.int .i64 n] w fun e w'=>e= .returned (.int .u64 (aG n))/\w=w')) (I1:I64 an) (I2:I64 ad) (I3:I64 bn) (I4:I64 bd)
 (Q:Hid (∀w,Calls prog 166 #[.bool (s !=t),.int .u64 (aG an),.int .u64 ad,.int .u64 bd,.int .u64 (aG bn)] w fun e w'=>(e= .returned (.tuple #[.agg #[.int .i64 n1,.int .i64 n2],.int .i64 n3])/\w.Grows w')))
 :Calls prog 120 (#[.agg #[.int .i64 an,.int .i64 ad],.agg #[.int .i64 bn,.int .i64 bd]]) w fun e w'=>(e= .returned (.tuple #[.agg #[.int .i64 n1,.int .i64 n2],.int .i64 n3])/\w.Grows w'):=by
 go_enter func120,ntmps120
 go_wp2_with (first|(go_at_call 97;(with_reducible refine gvq (V1.out _) ?_);intro bs dr)|(go_at_call 97;(with_reducible refine gvq (V2.out _) ?_);intro bs2 dr2))
 refine TS.begin [22,23] (World.Grows _) zd zd aO (fun hS=>?_);refine kq 0 hS ?_;refine kq 1 hS ?_;refine kq 2 hS ?_;refine kq 3 hS ?_;refine kq 4 hS ?_;refine kq 5 hS ?_;refine kq 6 hS ?_;refine kq 7 hS ?_;refine kq 8 hS ?_;refine TS.takeC (i:=9) (v:=(.int .u64 (aG an))) (fn:=93) (args:=#[.int .i64 an]) rfl zd zd zd zf (fun _ _ _ h=>h) rfl hS ?_ ?_ ?_
 focus
  rintro wS ⟨gbS,gdS,rfl⟩
  go_simp
 focus exact fun wS _=>(Z.out _ zm wS)
 (try simp only [nS])
 refine kq 10 hS ?_;refine kq 11 hS ?_;refine kq 12 hS ?_;refine kq 13 hS ?_;refine kq 14 hS ?_;refine kq 15 hS ?_;refine kq 16 hS ?_;refine kq 17 hS ?_;refine TS.takeC (i:=18) (v:=(.int .u64 (aG bn))) (fn:=93) (args:=#[.int .i64 bn]) rfl zd zd zd zf (fun _ _ _ h=>h) rfl hS ?_ ?_ ?_
 focus
  rintro wS ⟨gbS,gdS,rfl⟩
  go_simp
 focus exact fun wS _=>(Z.out _ zm wS)
 (try simp only [nS])
 refine TS.one (i:=19) zd rfl (fun K1 hK1=>?_)
 go_simp
 go_at_call 166
 refine gvq (Q.out _) ?_;intro bA dA;refine TS.go hK1 zp (fun hS=>?_);clear hK1 K1
 (try simp only [nS])
 refine kq 20 hS ?_;refine kq 21 hS ?_;refine TS.wtB 22 ?_;refine TS.weB 23 ?_;clear hS
 go_wp2_with fail
 go_returns
 exact⟨rfl,.of_below au⟩
theorem N7(an ad bn bd:Int)(p q:Bool)(w:World)(hpq:(p&&q)=false)
 (V1:Hid (∀w,Calls prog 97 #[.agg #[.int .i64 an,.int .i64 ad]] w fun e w'=>e= .returned (.bool p)/\w.Grows w')) (V2:Hid (∀w,Calls prog 97 #[.agg #[.int .i64 bn,.int .i64 bd]] w fun e w'=>e= .returned (.bool q)/\w.Grows w'))
 :Calls prog 119 (#[.agg #[.int .i64 an,.int .i64 ad],.agg #[.int .i64 bn,.int .i64 bd]]) w fun e w'=>e= .returned (frV (0,0,1))/\w.Grows w':=by
 cases p<;>cases q
 all_goals first
  |(exfalso;simp at hpq;done)
  |clear hpq
 all_goals
  go_enter func119,ntmps119
  go_wp2_with (first|(go_at_call 97;(with_reducible refine gvq (V1.out _) ?_);intro bs dr)|(go_at_call 97;(with_reducible refine gvq (V2.out _) ?_);intro bs2 dr2))
  go_returns
  exact⟨rfl,.of_below au⟩
theorem O5(an ad bn bd:Int)(p q:Bool)(w:World)(hpq:(p&&q)=false)
 (V1:Hid (∀w,Calls prog 97 #[.agg #[.int .i64 an,.int .i64 ad]] w fun e w'=>e= .returned (.bool p)/\w.Grows w')) (V2:Hid (∀w,Calls prog 97 #[.agg #[.int .i64 bn,.int .i64 bd]] w fun e w'=>e= .returned (.bool q)/\w.Grows w'))
 :Calls prog 120 (#[.agg #[.int .i64 an,.int .i64 ad],.agg #[.int .i64 bn,.int .i64 bd]]) w fun e w'=>e= .returned (frV (0,0,1))/\w.Grows w':=by
 cases p<;>cases q
 all_goals first
  |(exfalso;simp at hpq;done)
  |clear hpq
 all_goals
  go_enter func120,ntmps120
  go_wp2_with (first|(go_at_call 97;(with_reducible refine gvq (V1.out _) ?_);intro bs dr)|(go_at_call 97;(with_reducible refine gvq (V2.out _) ?_);intro bs2 dr2))
  go_returns
  exact⟨rfl,.of_below au⟩
theorem Pv(an ad bn bd:Int)(p q:Bool)(w:World)(hpq:(p&&q)=false)
 (V1:Hid (∀w,Calls prog 97 #[.agg #[.int .i64 an,.int .i64 ad]] w fun e w'=>e= .returned (.bool p)/\w.Grows w')) (V2:Hid (∀w,Calls prog 97 #[.agg #[.int .i64 bn,.int .i64 bd]] w fun e w'=>e= .returned (.bool q)/\w.Grows w'))
 :Calls prog 117 (#[.agg #[.int .i64 an,.int .i64 ad],.agg #[.int .i64 bn,.int .i64 bd]]) w fun e w'=>e= .returned (frV (0,0,1))/\w.Grows w':=by
 cases p<;>cases q
 all_goals first
  |(exfalso;simp at hpq;done)
  |clear hpq
 all_goals
  go_enter func117,ntmps117
  go_wp2_with (first|(go_at_call 97;(with_reducible refine gvq (V1.out _) ?_);intro bs dr)|(go_at_call 97;(with_reducible refine gvq (V2.out _) ?_);intro bs2 dr2))
  go_returns
  exact⟨rfl,.of_below au⟩
theorem NZ(an ad bn bd:Int)(p q:Bool)(w:World)(hpq:(p&&q)=false)
 (V1:Hid (∀w,Calls prog 128 #[.agg #[.int .i64 an,.int .i64 ad]] w fun e w'=>e= .returned (.bool p)/\w.Grows w')) (V2:Hid (∀w,Calls prog 128 #[.agg #[.int .i64 bn,.int .i64 bd]] w fun e w'=>e= .returned (.bool q)/\w.Grows w'))
 :Calls prog 137 (#[.agg #[.int .i64 an,.int .i64 ad],.agg #[.int .i64 bn,.int .i64 bd]]) w fun e w'=>e= .returned (frV (0,0,1))/\w.Grows w':=by
 cases p<;>cases q
 all_goals first
  |(exfalso;simp at hpq;done)
  |clear hpq
 all_goals
  go_enter func137,ntmps137
  go_wp2_with (first|(go_at_call 128;(with_reducible refine gvq (V1.out _) ?_);intro bs dr)|(go_at_call 128;(with_reducible refine gvq (V2.out _) ?_);intro bs2 dr2))
  go_returns
  exact⟨rfl,.of_below au⟩
theorem O4(an ad bn bd:Int)(p q:Bool)(w:World)(hpq:(p&&q)=false)
 (V1:Hid (∀w,Calls prog 128 #[.agg #[.int .i64 an,.int .i64 ad]] w fun e w'=>e= .returned (.bool p)/\w.Grows w')) (V2:Hid (∀w,Calls prog 128 #[.agg #[.int .i64 bn,.int .i64 bd]] w fun e w'=>e= .returned (.bool q)/\w.Grows w'))
 :Calls prog 138 (#[.agg #[.int .i64 an,.int .i64 ad],.agg #[.int .i64 bn,.int .i64 bd]]) w fun e w'=>e= .returned (frV (0,0,1))/\w.Grows w':=by
 cases p<;>cases q
 all_goals first
  |(exfalso;simp at hpq;done)
  |clear hpq
 all_goals
  go_enter func138,ntmps138
  go_wp2_with (first|(go_at_call 128;(with_reducible refine gvq (V1.out _) ?_);intro bs dr)|(go_at_call 128;(with_reducible refine gvq (V2.out _) ?_);intro bs2 dr2))
  go_returns
  exact⟨rfl,.of_below au⟩
theorem Pt(an ad bn bd:Int)(p q:Bool)(w:World)(hpq:(p&&q)=false)
 (V1:Hid (∀w,Calls prog 128 #[.agg #[.int .i64 an,.int .i64 ad]] w fun e w'=>e= .returned (.bool p)/\w.Grows w')) (V2:Hid (∀w,Calls prog 128 #[.agg #[.int .i64 bn,.int .i64 bd]] w fun e w'=>e= .returned (.bool q)/\w.Grows w'))
 :Calls prog 135 (#[.agg #[.int .i64 an,.int .i64 ad],.agg #[.int .i64 bn,.int .i64 bd]]) w fun e w'=>e= .returned (frV (0,0,1))/\w.Grows w':=by
 cases p<;>cases q
 all_goals first
  |(exfalso;simp at hpq;done)
  |clear hpq
 all_goals
  go_enter func135,ntmps135
  go_wp2_with (first|(go_at_call 128;(with_reducible refine gvq (V1.out _) ?_);intro bs dr)|(go_at_call 128;(with_reducible refine gvq (V2.out _) ?_);intro bs2 dr2))
  go_returns
  exact⟨rfl,.of_below au⟩
theorem I6(an ad bd:Int)(w:World)
 (V1:Hid (∀w,Calls prog 97 #[.agg #[.int .i64 an,.int .i64 ad]] w fun e w'=>e= .returned (.bool true)/\w.Grows w')) (V2:Hid (∀w,Calls prog 97 #[.agg #[.int .i64 0,.int .i64 bd]] w fun e w'=>e= .returned (.bool true)/\w.Grows w'))
 :Calls prog 120 #[.agg #[.int .i64 an,.int .i64 ad],.agg #[.int .i64 0,.int .i64 bd]] w fun e w'=>e= .returned (frV (0,0,3))/\w.Grows w':=by
 go_enter func120,ntmps120
 go_wp2_with (first|(go_at_call 97;(with_reducible refine gvq (V1.out _) ?_);intro bs dr)|(go_at_call 97;(with_reducible refine gvq (V2.out _) ?_);intro bs2 dr2))
 go_returns
 exact⟨rfl,.of_below au⟩
theorem IZ(an ad bd:Int)(w:World)
 (V1:Hid (∀w,Calls prog 128 #[.agg #[.int .i64 an,.int .i64 ad]] w fun e w'=>e= .returned (.bool true)/\w.Grows w')) (V2:Hid (∀w,Calls prog 128 #[.agg #[.int .i64 0,.int .i64 bd]] w fun e w'=>e= .returned (.bool true)/\w.Grows w'))
 :Calls prog 138 #[.agg #[.int .i64 an,.int .i64 ad],.agg #[.int .i64 0,.int .i64 bd]] w fun e w'=>e= .returned (frV (0,0,3))/\w.Grows w':=by
 go_enter func138,ntmps138
 go_wp2_with (first|(go_at_call 128;(with_reducible refine gvq (V1.out _) ?_);intro bs dr)|(go_at_call 128;(with_reducible refine gvq (V2.out _) ?_);intro bs2 dr2))
 go_returns
 exact⟨rfl,.of_below au⟩

theorem Jz(an ad bn bd xh xl yh yl zh zl D n1 n2 n3:Int)(s:Bool)(w:World)(h1:decide (an<0)=s)(h2:decide (bn<0)=s)
 (V1:Hid (∀w,Calls prog 97 #[.agg #[.int .i64 an,.int .i64 ad]] w fun e w'=>e= .returned (.bool true)/\w.Grows w')) (V2:Hid (∀w,Calls prog 97 #[.agg #[.int .i64 bn,.int .i64 bd]] w fun e w'=>e= .returned (.bool true)/\w.Grows w'))
 (Z:Hid (∀n,I64 n->∀w,Calls prog 93 #[.int .i64 n] w fun e w'=>e= .returned (.int .u64 (aG n))/\w=w')) (I1:I64 an) (I2:I64 ad) (I3:I64 bn) (I4:I64 bd)
 (T1:Hid (∀w,Calls prog 162 #[.int .u64 (aG an),.int .u64 bd] w fun e w'=>e= .returned (.agg #[.int .u64 xh,.int .u64 xl])/\w.Grows w')) (T2:Hid (∀w,Calls prog 162 #[.int .u64 (aG bn),.int .u64 ad] w fun e w'=>e= .returned (.agg #[.int .u64 yh,.int .u64 yl])/\w.Grows w')) (u1:IntKind.u64.wrap ad=ad) (u2:IntKind.u64.wrap bd=bd) (u3:IntKind.u64.wrap (ad*bd)=D)
 (O:Hid (∀w,Calls prog 163 #[.agg #[.int .u64 xh,.int .u64 xl],.agg #[.int .u64 yh,.int .u64 yl]] w fun e w'=>e= .returned (.agg #[.int .u64 zh,.int .u64 zl])/\w.Grows w'))
 (Q:Hid (∀w,Calls prog 92 #[.bool s,.agg #[.int .u64 zh,.int .u64 zl],.int .u64 D] w fun e w'=>(e= .returned (.tuple #[.agg #[.int .i64 n1,.int .i64 n2],.int .i64 n3])/\w.Grows w')))
 :Calls prog 117 (#[.agg #[.int .i64 an,.int .i64 ad],.agg #[.int .i64 bn,.int .i64 bd]]) w fun e w'=>(e= .returned (.tuple #[.agg #[.int .i64 n1,.int .i64 n2],.int .i64 n3])/\w.Grows w'):=by
 have L:Hid True:=yq trivial
 go_enter func117,ntmps117
 go_wp2_with (first|(go_at_call 97;(with_reducible refine gvq (V1.out _) ?_);intro bs dr)|(go_at_call 97;(with_reducible refine gvq (V2.out _) ?_);intro bs2 dr2))
 generalize bs++bs2=B;apply aH 16 (14,6,.cells #[.int .u64 0,.int .u64 0] 158) (15,7,.cells #[.int .u64 0,.int .u64 0] 158) zd zd
 case hrx=>
  intro o ho ρ w;obtain rfl:=Option.some.inj ho;simp [go_sem]
 case hry=>
  intro o ho ρ w;obtain rfl:=Option.some.inj ho;simp [go_sem]
 case h1=>
  intro bs d;simp only [take_succ_cons,take_zero,map_cons,map_nil,Oper.mask];repeat(go_big_quiet_step ((first|(go_at_call 93;(with_reducible exact Calls.quietMS3 (Z.out _ zm _)))|(go_at_call 162;first|(with_reducible exact Calls.quietM3 (T1.out _))|(with_reducible exact Calls.quietM3 (T2.out _))))))
  exact wpQuiet_nil rfl
 all_goals
  intro gb1 gd1 gb2 gd2 gb gd;simp only [drop_succ_cons,drop_zero,Act.put,setIfInBounds_toArray,set_cons_zero,set_cons_succ,World.grow_grow,World.size_grow,World.size_alloc,Array.size_append]
 all_goals
  go_wp2_with (first|(go_at_call 164;(with_reducible refine gvq (L.out _) ?_);intro bs3 dr3))
  refine TS.begin [10,11] (World.Grows _) zd zd aO (fun hS=>?_);refine kq 0 hS ?_;refine kq 1 hS ?_;refine kq 2 hS ?_;refine kq 3 hS ?_;refine kq 4 hS ?_;refine kq 6 hS ?_;refine TS.one (i:=5) zd rfl (fun K1 hK1=>?_)
  go_simp
  go_at_call 163
  refine gvq (O.out _) ?_;intro bA dA;refine TS.go hK1 zp (fun hS=>?_);clear hK1 K1
  (try simp only [nS])
  refine TS.one (i:=7) zd rfl (fun K1 hK1=>?_)
  go_simp
  go_at_call 92
  refine gvq (Q.out _) ?_;intro bA dA;refine TS.go hK1 zp (fun hS=>?_);clear hK1 K1
  (try simp only [nS])
  refine kq 8 hS ?_;refine kq 9 hS ?_;refine TS.wtB 10 ?_;refine TS.weB 11 ?_;clear hS
  go_wp2_with fail
  go_returns
  exact⟨rfl,.of_below au⟩
theorem JB(an ad bn bd xh xl yh yl zh zl D n1 n2 n3:Int)(s t:Bool)(w:World)(h1:decide (an<0)=s)(h2:decide (bn<0)=t)(h3:(s==t)=false)
 (V1:Hid (∀w,Calls prog 97 #[.agg #[.int .i64 an,.int .i64 ad]] w fun e w'=>e= .returned (.bool true)/\w.Grows w')) (V2:Hid (∀w,Calls prog 97 #[.agg #[.int .i64 bn,.int .i64 bd]] w fun e w'=>e= .returned (.bool true)/\w.Grows w'))
 (Z:Hid (∀n,I64 n->∀w,Calls prog 93 #[.int .i64 n] w fun e w'=>e= .returned (.int .u64 (aG n))/\w=w')) (I1:I64 an) (I2:I64 ad) (I3:I64 bn) (I4:I64 bd)
 (T1:Hid (∀w,Calls prog 162 #[.int .u64 (aG an),.int .u64 bd] w fun e w'=>e= .returned (.agg #[.int .u64 xh,.int .u64 xl])/\w.Grows w')) (T2:Hid (∀w,Calls prog 162 #[.int .u64 (aG bn),.int .u64 ad] w fun e w'=>e= .returned (.agg #[.int .u64 yh,.int .u64 yl])/\w.Grows w')) (u1:IntKind.u64.wrap ad=ad) (u2:IntKind.u64.wrap bd=bd) (u3:IntKind.u64.wrap (ad*bd)=D)
 (L:Hid (∀w,Calls prog 164 #[.agg #[.int .u64 xh,.int .u64 xl],.agg #[.int .u64 yh,.int .u64 yl]] w fun e w'=>e= .returned (.bool true)/\w.Grows w'))
 (O:Hid (∀w,Calls prog 165 #[.agg #[.int .u64 yh,.int .u64 yl],.agg #[.int .u64 xh,.int .u64 xl]] w fun e w'=>e= .returned (.agg #[.int .u64 zh,.int .u64 zl])/\w.Grows w'))
 (Q:Hid (∀w,Calls prog 92 #[.bool t,.agg #[.int .u64 zh,.int .u64 zl],.int .u64 D] w fun e w'=>(e= .returned (.tuple #[.agg #[.int .i64 n1,.int .i64 n2],.int .i64 n3])/\w.Grows w')))
 :Calls prog 117 (#[.agg #[.int .i64 an,.int .i64 ad],.agg #[.int .i64 bn,.int .i64 bd]]) w fun e w'=>(e= .returned (.tuple #[.agg #[.int .i64 n1,.int .i64 n2],.int .i64 n3])/\w.Grows w'):=by
 go_enter func117,ntmps117
 go_wp2_with (first|(go_at_call 97;(with_reducible refine gvq (V1.out _) ?_);intro bs dr)|(go_at_call 97;(with_reducible refine gvq (V2.out _) ?_);intro bs2 dr2))
 generalize bs++bs2=B;apply aH 16 (14,6,.cells #[.int .u64 0,.int .u64 0] 158) (15,7,.cells #[.int .u64 0,.int .u64 0] 158) zd zd
 case hrx=>
  intro o ho ρ w;obtain rfl:=Option.some.inj ho;simp [go_sem]
 case hry=>
  intro o ho ρ w;obtain rfl:=Option.some.inj ho;simp [go_sem]
 case h1=>
  intro bs d;simp only [take_succ_cons,take_zero,map_cons,map_nil,Oper.mask];repeat(go_big_quiet_step ((first|(go_at_call 93;(with_reducible exact Calls.quietMS3 (Z.out _ zm _)))|(go_at_call 162;first|(with_reducible exact Calls.quietM3 (T1.out _))|(with_reducible exact Calls.quietM3 (T2.out _))))))
  exact wpQuiet_nil rfl
 all_goals
  intro gb1 gd1 gb2 gd2 gb gd;simp only [drop_succ_cons,drop_zero,Act.put,setIfInBounds_toArray,set_cons_zero,set_cons_succ,World.grow_grow,World.size_grow,World.size_alloc,Array.size_append]
 all_goals
  go_wp2_with (first|(go_at_call 164;(with_reducible refine gvq (L.out _) ?_);intro bs3 dr3))
  refine TS.begin [10,11] (World.Grows _) zd zd aO (fun hS=>?_);refine kq 0 hS ?_;refine kq 1 hS ?_;refine kq 2 hS ?_;refine kq 3 hS ?_;refine kq 4 hS ?_;refine kq 6 hS ?_;refine TS.one (i:=5) zd rfl (fun K1 hK1=>?_)
  go_simp
  go_at_call 165
  refine gvq (O.out _) ?_;intro bA dA;refine TS.go hK1 zp (fun hS=>?_);clear hK1 K1
  (try simp only [nS])
  refine TS.one (i:=7) zd rfl (fun K1 hK1=>?_)
  go_simp
  go_at_call 92
  refine gvq (Q.out _) ?_;intro bA dA;refine TS.go hK1 zp (fun hS=>?_);clear hK1 K1
  (try simp only [nS])
  refine kq 8 hS ?_;refine kq 9 hS ?_;refine TS.wtB 10 ?_;refine TS.weB 11 ?_;clear hS
  go_wp2_with fail
  go_returns
  exact⟨rfl,.of_below au⟩
theorem JA(an ad bn bd xh xl yh yl zh zl D n1 n2 n3:Int)(s t:Bool)(w:World)(h1:decide (an<0)=s)(h2:decide (bn<0)=t)(h3:(s==t)=false)
 (V1:Hid (∀w,Calls prog 97 #[.agg #[.int .i64 an,.int .i64 ad]] w fun e w'=>e= .returned (.bool true)/\w.Grows w')) (V2:Hid (∀w,Calls prog 97 #[.agg #[.int .i64 bn,.int .i64 bd]] w fun e w'=>e= .returned (.bool true)/\w.Grows w'))
 (Z:Hid (∀n,I64 n->∀w,Calls prog 93 #[.int .i64 n] w fun e w'=>e= .returned (.int .u64 (aG n))/\w=w')) (I1:I64 an) (I2:I64 ad) (I3:I64 bn) (I4:I64 bd)
 (T1:Hid (∀w,Calls prog 162 #[.int .u64 (aG an),.int .u64 bd] w fun e w'=>e= .returned (.agg #[.int .u64 xh,.int .u64 xl])/\w.Grows w')) (T2:Hid (∀w,Calls prog 162 #[.int .u64 (aG bn),.int .u64 ad] w fun e w'=>e= .returned (.agg #[.int .u64 yh,.int .u64 yl])/\w.Grows w')) (u1:IntKind.u64.wrap ad=ad) (u2:IntKind.u64.wrap bd=bd) (u3:IntKind.u64.wrap (ad*bd)=D)
 (L:Hid (∀w,Calls prog 164 #[.agg #[.int .u64 xh,.int .u64 xl],.agg #[.int .u64 yh,.int .u64 yl]] w fun e w'=>e= .returned (.bool false)/\w.Grows w'))
 (O:Hid (∀w,Calls prog 165 #[.agg #[.int .u64 xh,.int .u64 xl],.agg #[.int .u64 yh,.int .u64 yl]] w fun e w'=>e= .returned (.agg #[.int .u64 zh,.int .u64 zl])/\w.Grows w'))
 (Q:Hid (∀w,Calls prog 92 #[.bool s,.agg #[.int .u64 zh,.int .u64 zl],.int .u64 D] w fun e w'=>(e= .returned (.tuple #[.agg #[.int .i64 n1,.int .i64 n2],.int .i64 n3])/\w.Grows w')))
 :Calls prog 117 (#[.agg #[.int .i64 an,.int .i64 ad],.agg #[.int .i64 bn,.int .i64 bd]]) w fun e w'=>(e= .returned (.tuple #[.agg #[.int .i64 n1,.int .i64 n2],.int .i64 n3])/\w.Grows w'):=by
 go_enter func117,ntmps117
 go_wp2_with (first|(go_at_call 97;(with_reducible refine gvq (V1.out _) ?_);intro bs dr)|(go_at_call 97;(with_reducible refine gvq (V2.out _) ?_);intro bs2 dr2))
 generalize bs++bs2=B;apply aH 16 (14,6,.cells #[.int .u64 0,.int .u64 0] 158) (15,7,.cells #[.int .u64 0,.int .u64 0] 158) zd zd
 case hrx=>
  intro o ho ρ w;obtain rfl:=Option.some.inj ho;simp [go_sem]
 case hry=>
  intro o ho ρ w;obtain rfl:=Option.some.inj ho;simp [go_sem]
 case h1=>
  intro bs d;simp only [take_succ_cons,take_zero,map_cons,map_nil,Oper.mask];repeat(go_big_quiet_step ((first|(go_at_call 93;(with_reducible exact Calls.quietMS3 (Z.out _ zm _)))|(go_at_call 162;first|(with_reducible exact Calls.quietM3 (T1.out _))|(with_reducible exact Calls.quietM3 (T2.out _))))))
  exact wpQuiet_nil rfl
 all_goals
  intro gb1 gd1 gb2 gd2 gb gd;simp only [drop_succ_cons,drop_zero,Act.put,setIfInBounds_toArray,set_cons_zero,set_cons_succ,World.grow_grow,World.size_grow,World.size_alloc,Array.size_append]
 all_goals
  go_wp2_with (first|(go_at_call 164;(with_reducible refine gvq (L.out _) ?_);intro bs3 dr3))
  refine TS.begin [10,11] (World.Grows _) zd zd aO (fun hS=>?_);refine kq 0 hS ?_;refine kq 1 hS ?_;refine kq 2 hS ?_;refine kq 3 hS ?_;refine kq 4 hS ?_;refine kq 6 hS ?_;refine TS.one (i:=5) zd rfl (fun K1 hK1=>?_)
  go_simp
  go_at_call 165
  refine gvq (O.out _) ?_;intro bA dA;refine TS.go hK1 zp (fun hS=>?_);clear hK1 K1
  (try simp only [nS])
  refine TS.one (i:=7) zd rfl (fun K1 hK1=>?_)
  go_simp
  go_at_call 92
  refine gvq (Q.out _) ?_;intro bA dA;refine TS.go hK1 zp (fun hS=>?_);clear hK1 K1
  (try simp only [nS])
  refine kq 8 hS ?_;refine kq 9 hS ?_;refine TS.wtB 10 ?_;refine TS.weB 11 ?_;clear hS
  go_wp2_with fail
  go_returns
  exact⟨rfl,.of_below au⟩


theorem Jv(an ad bn bd xh xl yh yl zh zl D r g q oh ol n1 n2 n3:Int)(s t:Bool)(w:World)(h1:decide (an<0)=s)(h2:decide (bn<0)=t)(h3:(s==t)=true)
 (V1:Hid (∀w,Calls prog 128 #[.agg #[.int .i64 an,.int .i64 ad]] w fun e w'=>e= .returned (.bool true)/\w.Grows w')) (V2:Hid (∀w,Calls prog 128 #[.agg #[.int .i64 bn,.int .i64 bd]] w fun e w'=>e= .returned (.bool true)/\w.Grows w'))
 (Z:Hid (∀n,I64 n->∀w,Calls prog 177 #[.int .i64 n] w fun e w'=>e= .returned (.int .u64 (aG n))/\w=w')) (I1:I64 an) (I2:I64 ad) (I3:I64 bn) (I4:I64 bd)
 (T1:Hid (∀w,Calls prog 182 #[.int .u64 (aG an),.int .u64 (aG bd)] w fun e w'=>e= .returned (.agg #[.int .u64 xh,.int .u64 xl])/\w.Grows w')) (T2:Hid (∀w,Calls prog 182 #[.int .u64 (aG bn),.int .u64 (aG ad)] w fun e w'=>e= .returned (.agg #[.int .u64 yh,.int .u64 yl])/\w.Grows w')) (u3:IntKind.u64.wrap (aG ad*aG bd)=D) (g1:1<=g) (g0:(g==0)=false) (eq:IntKind.u64.wrap (D.tdiv g)=q)

 (O:Hid (∀w,Calls prog 183 #[.agg #[.int .u64 xh,.int .u64 xl],.agg #[.int .u64 yh,.int .u64 yl]] w fun e w'=>e= .returned (.agg #[.int .u64 zh,.int .u64 zl])/\w.Grows w'))
 (hz:zh=0->zl=0->n1=0/\n2=1/\n3=0)
 (hq:zh≠0\/zl≠0->Hid (∀w,Calls prog 181 #[.bool s,.agg #[.int .u64 oh,.int .u64 ol],.agg #[.int .u64 0,.int .u64 q]] w fun e w'=>(e= .returned (.tuple #[.agg #[.int .i64 n1,.int .i64 n2],.int .i64 n3])/\w.Grows w'))/\
  Hid (∀w,Calls prog 187 #[.agg #[.int .u64 zh,.int .u64 zl],.int .u64 g] w fun e w'=>e= .returned (.agg #[.int .u64 oh,.int .u64 ol])/\w.Grows w')/\
  Hid (∀w,Calls prog 186 #[.int .u64 zh,.int .u64 zl,.int .u64 D] w fun e w'=>e= .returned (.int .u64 r)/\w.Grows w')/\
  Hid (∀w,Calls prog 176 #[.int .u64 D,.int .u64 r] w fun e w'=>e= .returned (.int .u64 g)/\w.Grows w'))
 :Calls prog 135 (#[.agg #[.int .i64 an,.int .i64 ad],.agg #[.int .i64 bn,.int .i64 bd]]) w fun e w'=>(e= .returned (.tuple #[.agg #[.int .i64 n1,.int .i64 n2],.int .i64 n3])/\w.Grows w'):=by
 have L:Hid True:=yq trivial;by_cases z1:zh=0
 ·subst z1;by_cases z2:zl=0
  ·subst z2;have R:Hid True:=yq trivial;have G:Hid True:=yq trivial;have E:=yq (hz rfl rfl);clear hz
   go_enter func135,ntmps135
   go_wp2_with (first|(go_at_call 128;(with_reducible refine gvq (V1.out _) ?_);intro bs dr)|(go_at_call 128;(with_reducible refine gvq (V2.out _) ?_);intro bs2 dr2))
   generalize bs++bs2=B;apply aH 16 (14,6,.cells #[.int .u64 0,.int .u64 0] 228) (15,7,.cells #[.int .u64 0,.int .u64 0] 228) zd zd
   case hrx=>
    intro o ho ρ w;obtain rfl:=Option.some.inj ho;simp [go_sem]
   case hry=>
    intro o ho ρ w;obtain rfl:=Option.some.inj ho;simp [go_sem]
   case h1=>
    intro bs d;simp only [take_succ_cons,take_zero,map_cons,map_nil,Oper.mask];repeat(go_big_quiet_step ((first|(go_at_call 177;(with_reducible exact Calls.quietMS3 (Z.out _ zm _)))|(go_at_call 182;first|(with_reducible exact Calls.quietM3 (T1.out _))|(with_reducible exact Calls.quietM3 (T2.out _))))))
    exact wpQuiet_nil rfl
   all_goals
    intro gb1 gd1 gb2 gd2 gb gd;simp only [drop_succ_cons,drop_zero,Act.put,setIfInBounds_toArray,set_cons_zero,set_cons_succ,World.grow_grow,World.size_grow,World.size_alloc,Array.size_append]
   all_goals
    clear T1 T2
    go_wp2_with (first|(go_at_call 184;(with_reducible refine gvq (L.out _) ?_);intro bs3 dr3)|(go_at_call 183;(with_reducible refine gvq (O.out _) ?_);intro bs4 dr4))
    clear O L;refine TS.begin [7] (World.Grows _) zd zd aO (fun hS=>?_);refine kq 0 hS ?_;refine kq 1 hS ?_;refine TS.takeC (i:=2) (v:=(.int .u64 (aG ad))) (fn:=177) (args:=#[.int .i64 ad]) rfl zd zd zd zf (fun _ _ _ h=>h) rfl hS ?_ ?_ ?_
    focus
     rintro wS ⟨gbS,gdS,rfl⟩
     go_simp
    focus exact fun wS _=>(Z.out _ zm wS)
    (try simp only [nS])
    refine kq 3 hS ?_;refine kq 4 hS ?_;refine TS.takeC (i:=5) (v:=(.int .u64 (aG bd))) (fn:=177) (args:=#[.int .i64 bd]) rfl zd zd zd zf (fun _ _ _ h=>h) rfl hS ?_ ?_ ?_
    focus
     rintro wS ⟨gbS,gdS,rfl⟩
     go_simp
    focus exact fun wS _=>(Z.out _ zm wS)
    (try simp only [nS])
    refine kq 6 hS ?_;refine TS.weB 7 ?_;clear hS
    go_wp2_with (first|(go_at_call 186;(with_reducible refine gvq (R.out _) ?_);intro bs5 dr5)|(go_at_call 176;(with_reducible refine gvq (G.out _) ?_);intro bs6 dr6))
   all_goals
    go_returns
    exact⟨by rw [E.out.1,E.out.2.1,E.out.2.2],.of_below au⟩
  ·have z3:(zl==0)=false:=by simpa using z2
   obtain⟨Q,U,R,G⟩:=hq (.inr z2);clear hz hq
   go_enter func135,ntmps135
   go_wp2_with (first|(go_at_call 128;(with_reducible refine gvq (V1.out _) ?_);intro bs dr)|(go_at_call 128;(with_reducible refine gvq (V2.out _) ?_);intro bs2 dr2))
   generalize bs++bs2=B;apply aH 16 (14,6,.cells #[.int .u64 0,.int .u64 0] 228) (15,7,.cells #[.int .u64 0,.int .u64 0] 228) zd zd
   case hrx=>
    intro o ho ρ w;obtain rfl:=Option.some.inj ho;simp [go_sem]
   case hry=>
    intro o ho ρ w;obtain rfl:=Option.some.inj ho;simp [go_sem]
   case h1=>
    intro bs d;simp only [take_succ_cons,take_zero,map_cons,map_nil,Oper.mask];repeat(go_big_quiet_step ((first|(go_at_call 177;(with_reducible exact Calls.quietMS3 (Z.out _ zm _)))|(go_at_call 182;first|(with_reducible exact Calls.quietM3 (T1.out _))|(with_reducible exact Calls.quietM3 (T2.out _))))))
    exact wpQuiet_nil rfl
   all_goals
    intro gb1 gd1 gb2 gd2 gb gd;simp only [drop_succ_cons,drop_zero,Act.put,setIfInBounds_toArray,set_cons_zero,set_cons_succ,World.grow_grow,World.size_grow,World.size_alloc,Array.size_append]
   all_goals
    clear T1 T2
    go_wp2_with (first|(go_at_call 184;(with_reducible refine gvq (L.out _) ?_);intro bs3 dr3)|(go_at_call 183;(with_reducible refine gvq (O.out _) ?_);intro bs4 dr4))
    clear O L;refine TS.begin [7] (World.Grows _) zd zd aO (fun hS=>?_);refine kq 0 hS ?_;refine kq 1 hS ?_;refine TS.takeC (i:=2) (v:=(.int .u64 (aG ad))) (fn:=177) (args:=#[.int .i64 ad]) rfl zd zd zd zf (fun _ _ _ h=>h) rfl hS ?_ ?_ ?_
    focus
     rintro wS ⟨gbS,gdS,rfl⟩
     go_simp
    focus exact fun wS _=>(Z.out _ zm wS)
    (try simp only [nS])
    refine kq 3 hS ?_;refine kq 4 hS ?_;refine TS.takeC (i:=5) (v:=(.int .u64 (aG bd))) (fn:=177) (args:=#[.int .i64 bd]) rfl zd zd zd zf (fun _ _ _ h=>h) rfl hS ?_ ?_ ?_
    focus
     rintro wS ⟨gbS,gdS,rfl⟩
     go_simp
    focus exact fun wS _=>(Z.out _ zm wS)
    (try simp only [nS])
    refine kq 6 hS ?_;refine TS.weB 7 ?_;clear hS
    go_wp2_with (first|(go_at_call 186;(with_reducible refine gvq (R.out _) ?_);intro bs5 dr5)|(go_at_call 176;(with_reducible refine gvq (G.out _) ?_);intro bs6 dr6))
   all_goals
    clear R G;have gz:¬g=0:=by omega
    refine TS.begin [11,12] (World.Grows _) zd zd aO (fun hS=>?_);refine kq 0 hS ?_;refine kq 1 hS ?_;refine kq 2 hS ?_;refine kq 4 hS ?_;refine kq 5 hS ?_;refine TS.takeV (i:=6) (v:=.int .u64 (q)) rfl zd zd zd zf (fun _ _ _ h=>h) rfl hS ?_ ?_
    focus
     rintro wS ⟨gbS,gdS,rfl⟩
     go_simp
     (try exact eq)
    (try simp only [nS])
    refine kq 7 hS ?_;refine TS.one (i:=3) zd rfl (fun K1 hK1=>?_)
    go_simp
    go_at_call 187
    refine gvq (U.out _) ?_;intro bA dA;refine TS.go hK1 zp (fun hS=>?_);clear hK1 K1
    (try simp only [nS])
    refine TS.one (i:=8) zd rfl (fun K1 hK1=>?_)
    go_simp
    go_at_call 181
    refine gvq (Q.out _) ?_;intro bA dA;refine TS.go hK1 zp (fun hS=>?_);clear hK1 K1
    (try simp only [nS])
    refine kq 9 hS ?_;refine kq 10 hS ?_;refine TS.wtB 11 ?_;refine TS.weB 12 ?_;clear hS
    go_wp2_with fail
    go_returns
    exact⟨rfl,.of_below au⟩
 ·have z3:(zh==0)=false:=by simpa using z1
  obtain⟨Q,U,R,G⟩:=hq (.inl z1);clear hz hq
  go_enter func135,ntmps135
  go_wp2_with (first|(go_at_call 128;(with_reducible refine gvq (V1.out _) ?_);intro bs dr)|(go_at_call 128;(with_reducible refine gvq (V2.out _) ?_);intro bs2 dr2))
  generalize bs++bs2=B;apply aH 16 (14,6,.cells #[.int .u64 0,.int .u64 0] 228) (15,7,.cells #[.int .u64 0,.int .u64 0] 228) zd zd
  case hrx=>
   intro o ho ρ w;obtain rfl:=Option.some.inj ho;simp [go_sem]
  case hry=>
   intro o ho ρ w;obtain rfl:=Option.some.inj ho;simp [go_sem]
  case h1=>
   intro bs d;simp only [take_succ_cons,take_zero,map_cons,map_nil,Oper.mask];repeat(go_big_quiet_step ((first|(go_at_call 177;(with_reducible exact Calls.quietMS3 (Z.out _ zm _)))|(go_at_call 182;first|(with_reducible exact Calls.quietM3 (T1.out _))|(with_reducible exact Calls.quietM3 (T2.out _))))))
   exact wpQuiet_nil rfl
  all_goals
   intro gb1 gd1 gb2 gd2 gb gd;simp only [drop_succ_cons,drop_zero,Act.put,setIfInBounds_toArray,set_cons_zero,set_cons_succ,World.grow_grow,World.size_grow,World.size_alloc,Array.size_append]
  all_goals
   clear T1 T2
   go_wp2_with (first|(go_at_call 184;(with_reducible refine gvq (L.out _) ?_);intro bs3 dr3)|(go_at_call 183;(with_reducible refine gvq (O.out _) ?_);intro bs4 dr4))
   clear O L;refine TS.begin [7] (World.Grows _) zd zd aO (fun hS=>?_);refine kq 0 hS ?_;refine kq 1 hS ?_;refine TS.takeC (i:=2) (v:=(.int .u64 (aG ad))) (fn:=177) (args:=#[.int .i64 ad]) rfl zd zd zd zf (fun _ _ _ h=>h) rfl hS ?_ ?_ ?_
   focus
    rintro wS ⟨gbS,gdS,rfl⟩
    go_simp
   focus exact fun wS _=>(Z.out _ zm wS)
   (try simp only [nS])
   refine kq 3 hS ?_;refine kq 4 hS ?_;refine TS.takeC (i:=5) (v:=(.int .u64 (aG bd))) (fn:=177) (args:=#[.int .i64 bd]) rfl zd zd zd zf (fun _ _ _ h=>h) rfl hS ?_ ?_ ?_
   focus
    rintro wS ⟨gbS,gdS,rfl⟩
    go_simp
   focus exact fun wS _=>(Z.out _ zm wS)
   (try simp only [nS])
   refine kq 6 hS ?_;refine TS.weB 7 ?_;clear hS
   go_wp2_with (first|(go_at_call 186;(with_reducible refine gvq (R.out _) ?_);intro bs5 dr5)|(go_at_call 176;(with_reducible refine gvq (G.out _) ?_);intro bs6 dr6))
  all_goals
   clear R G;have gz:¬g=0:=by omega
   refine TS.begin [11,12] (World.Grows _) zd zd aO (fun hS=>?_);refine kq 0 hS ?_;refine kq 1 hS ?_;refine kq 2 hS ?_;refine kq 4 hS ?_;refine kq 5 hS ?_;refine TS.takeV (i:=6) (v:=.int .u64 (q)) rfl zd zd zd zf (fun _ _ _ h=>h) rfl hS ?_ ?_
   focus
    rintro wS ⟨gbS,gdS,rfl⟩
    go_simp
    (try exact eq)
   (try simp only [nS])
   refine kq 7 hS ?_;refine TS.one (i:=3) zd rfl (fun K1 hK1=>?_)
   go_simp
   go_at_call 187
   refine gvq (U.out _) ?_;intro bA dA;refine TS.go hK1 zp (fun hS=>?_);clear hK1 K1
   (try simp only [nS])
   refine TS.one (i:=8) zd rfl (fun K1 hK1=>?_)
   go_simp
   go_at_call 181
   refine gvq (Q.out _) ?_;intro bA dA;refine TS.go hK1 zp (fun hS=>?_);clear hK1 K1
   (try simp only [nS])
   refine kq 9 hS ?_;refine kq 10 hS ?_;refine TS.wtB 11 ?_;refine TS.weB 12 ?_;clear hS
   go_wp2_with fail
   go_returns
   exact⟨rfl,.of_below au⟩


theorem Jy(an ad bn bd xh xl yh yl zh zl D r g q oh ol n1 n2 n3:Int)(s t:Bool)(w:World)(h1:decide (an<0)=s)(h2:decide (bn<0)=t)(h3:(s==t)=false)
 (V1:Hid (∀w,Calls prog 128 #[.agg #[.int .i64 an,.int .i64 ad]] w fun e w'=>e= .returned (.bool true)/\w.Grows w')) (V2:Hid (∀w,Calls prog 128 #[.agg #[.int .i64 bn,.int .i64 bd]] w fun e w'=>e= .returned (.bool true)/\w.Grows w'))
 (Z:Hid (∀n,I64 n->∀w,Calls prog 177 #[.int .i64 n] w fun e w'=>e= .returned (.int .u64 (aG n))/\w=w')) (I1:I64 an) (I2:I64 ad) (I3:I64 bn) (I4:I64 bd)
 (T1:Hid (∀w,Calls prog 182 #[.int .u64 (aG an),.int .u64 (aG bd)] w fun e w'=>e= .returned (.agg #[.int .u64 xh,.int .u64 xl])/\w.Grows w')) (T2:Hid (∀w,Calls prog 182 #[.int .u64 (aG bn),.int .u64 (aG ad)] w fun e w'=>e= .returned (.agg #[.int .u64 yh,.int .u64 yl])/\w.Grows w')) (u3:IntKind.u64.wrap (aG ad*aG bd)=D) (g1:1<=g) (g0:(g==0)=false) (eq:IntKind.u64.wrap (D.tdiv g)=q)
 (L:Hid (∀w,Calls prog 184 #[.agg #[.int .u64 xh,.int .u64 xl],.agg #[.int .u64 yh,.int .u64 yl]] w fun e w'=>e= .returned (.bool true)/\w.Grows w'))
 (O:Hid (∀w,Calls prog 185 #[.agg #[.int .u64 yh,.int .u64 yl],.agg #[.int .u64 xh,.int .u64 xl]] w fun e w'=>e= .returned (.agg #[.int .u64 zh,.int .u64 zl])/\w.Grows w'))
 (hz:zh=0->zl=0->n1=0/\n2=1/\n3=0)
 (hq:zh≠0\/zl≠0->Hid (∀w,Calls prog 181 #[.bool (!s),.agg #[.int .u64 oh,.int .u64 ol],.agg #[.int .u64 0,.int .u64 q]] w fun e w'=>(e= .returned (.tuple #[.agg #[.int .i64 n1,.int .i64 n2],.int .i64 n3])/\w.Grows w'))/\
  Hid (∀w,Calls prog 187 #[.agg #[.int .u64 zh,.int .u64 zl],.int .u64 g] w fun e w'=>e= .returned (.agg #[.int .u64 oh,.int .u64 ol])/\w.Grows w')/\
  Hid (∀w,Calls prog 186 #[.int .u64 zh,.int .u64 zl,.int .u64 D] w fun e w'=>e= .returned (.int .u64 r)/\w.Grows w')/\
  Hid (∀w,Calls prog 176 #[.int .u64 D,.int .u64 r] w fun e w'=>e= .returned (.int .u64 g)/\w.Grows w'))
 :Calls prog 135 (#[.agg #[.int .i64 an,.int .i64 ad],.agg #[.int .i64 bn,.int .i64 bd]]) w fun e w'=>(e= .returned (.tuple #[.agg #[.int .i64 n1,.int .i64 n2],.int .i64 n3])/\w.Grows w'):=by
 by_cases z1:zh=0
 ·subst z1;by_cases z2:zl=0
  ·subst z2;have R:Hid True:=yq trivial;have G:Hid True:=yq trivial;have E:=yq (hz rfl rfl);clear hz
   go_enter func135,ntmps135
   go_wp2_with (first|(go_at_call 128;(with_reducible refine gvq (V1.out _) ?_);intro bs dr)|(go_at_call 128;(with_reducible refine gvq (V2.out _) ?_);intro bs2 dr2))
   generalize bs++bs2=B;apply aH 16 (14,6,.cells #[.int .u64 0,.int .u64 0] 228) (15,7,.cells #[.int .u64 0,.int .u64 0] 228) zd zd
   case hrx=>
    intro o ho ρ w;obtain rfl:=Option.some.inj ho;simp [go_sem]
   case hry=>
    intro o ho ρ w;obtain rfl:=Option.some.inj ho;simp [go_sem]
   case h1=>
    intro bs d;simp only [take_succ_cons,take_zero,map_cons,map_nil,Oper.mask];repeat(go_big_quiet_step ((first|(go_at_call 177;(with_reducible exact Calls.quietMS3 (Z.out _ zm _)))|(go_at_call 182;first|(with_reducible exact Calls.quietM3 (T1.out _))|(with_reducible exact Calls.quietM3 (T2.out _))))))
    exact wpQuiet_nil rfl
   all_goals
    intro gb1 gd1 gb2 gd2 gb gd;simp only [drop_succ_cons,drop_zero,Act.put,setIfInBounds_toArray,set_cons_zero,set_cons_succ,World.grow_grow,World.size_grow,World.size_alloc,Array.size_append]
   all_goals
    clear T1 T2
    go_wp2_with (first|(go_at_call 184;(with_reducible refine gvq (L.out _) ?_);intro bs3 dr3)|(go_at_call 185;(with_reducible refine gvq (O.out _) ?_);intro bs4 dr4))
    clear O L;refine TS.begin [7] (World.Grows _) zd zd aO (fun hS=>?_);refine kq 0 hS ?_;refine kq 1 hS ?_;refine TS.takeC (i:=2) (v:=(.int .u64 (aG ad))) (fn:=177) (args:=#[.int .i64 ad]) rfl zd zd zd zf (fun _ _ _ h=>h) rfl hS ?_ ?_ ?_
    focus
     rintro wS ⟨gbS,gdS,rfl⟩
     go_simp
    focus exact fun wS _=>(Z.out _ zm wS)
    (try simp only [nS])
    refine kq 3 hS ?_;refine kq 4 hS ?_;refine TS.takeC (i:=5) (v:=(.int .u64 (aG bd))) (fn:=177) (args:=#[.int .i64 bd]) rfl zd zd zd zf (fun _ _ _ h=>h) rfl hS ?_ ?_ ?_
    focus
     rintro wS ⟨gbS,gdS,rfl⟩
     go_simp
    focus exact fun wS _=>(Z.out _ zm wS)
    (try simp only [nS])
    refine kq 6 hS ?_;refine TS.weB 7 ?_;clear hS
    go_wp2_with (first|(go_at_call 186;(with_reducible refine gvq (R.out _) ?_);intro bs5 dr5)|(go_at_call 176;(with_reducible refine gvq (G.out _) ?_);intro bs6 dr6))
   all_goals
    go_returns
    exact⟨by rw [E.out.1,E.out.2.1,E.out.2.2],.of_below au⟩
  ·have z3:(zl==0)=false:=by simpa using z2
   obtain⟨Q,U,R,G⟩:=hq (.inr z2);clear hz hq
   go_enter func135,ntmps135
   go_wp2_with (first|(go_at_call 128;(with_reducible refine gvq (V1.out _) ?_);intro bs dr)|(go_at_call 128;(with_reducible refine gvq (V2.out _) ?_);intro bs2 dr2))
   generalize bs++bs2=B;apply aH 16 (14,6,.cells #[.int .u64 0,.int .u64 0] 228) (15,7,.cells #[.int .u64 0,.int .u64 0] 228) zd zd
   case hrx=>
    intro o ho ρ w;obtain rfl:=Option.some.inj ho;simp [go_sem]
   case hry=>
    intro o ho ρ w;obtain rfl:=Option.some.inj ho;simp [go_sem]
   case h1=>
    intro bs d;simp only [take_succ_cons,take_zero,map_cons,map_nil,Oper.mask];repeat(go_big_quiet_step ((first|(go_at_call 177;(with_reducible exact Calls.quietMS3 (Z.out _ zm _)))|(go_at_call 182;first|(with_reducible exact Calls.quietM3 (T1.out _))|(with_reducible exact Calls.quietM3 (T2.out _))))))
    exact wpQuiet_nil rfl
   all_goals
    intro gb1 gd1 gb2 gd2 gb gd;simp only [drop_succ_cons,drop_zero,Act.put,setIfInBounds_toArray,set_cons_zero,set_cons_succ,World.grow_grow,World.size_grow,World.size_alloc,Array.size_append]
   all_goals
    clear T1 T2
    go_wp2_with (first|(go_at_call 184;(with_reducible refine gvq (L.out _) ?_);intro bs3 dr3)|(go_at_call 185;(with_reducible refine gvq (O.out _) ?_);intro bs4 dr4))
    clear O L;refine TS.begin [7] (World.Grows _) zd zd aO (fun hS=>?_);refine kq 0 hS ?_;refine kq 1 hS ?_;refine TS.takeC (i:=2) (v:=(.int .u64 (aG ad))) (fn:=177) (args:=#[.int .i64 ad]) rfl zd zd zd zf (fun _ _ _ h=>h) rfl hS ?_ ?_ ?_
    focus
     rintro wS ⟨gbS,gdS,rfl⟩
     go_simp
    focus exact fun wS _=>(Z.out _ zm wS)
    (try simp only [nS])
    refine kq 3 hS ?_;refine kq 4 hS ?_;refine TS.takeC (i:=5) (v:=(.int .u64 (aG bd))) (fn:=177) (args:=#[.int .i64 bd]) rfl zd zd zd zf (fun _ _ _ h=>h) rfl hS ?_ ?_ ?_
    focus
     rintro wS ⟨gbS,gdS,rfl⟩
     go_simp
    focus exact fun wS _=>(Z.out _ zm wS)
    (try simp only [nS])
    refine kq 6 hS ?_;refine TS.weB 7 ?_;clear hS
    go_wp2_with (first|(go_at_call 186;(with_reducible refine gvq (R.out _) ?_);intro bs5 dr5)|(go_at_call 176;(with_reducible refine gvq (G.out _) ?_);intro bs6 dr6))
   all_goals
    clear R G;have gz:¬g=0:=by omega
    refine TS.begin [11,12] (World.Grows _) zd zd aO (fun hS=>?_);refine kq 0 hS ?_;refine kq 1 hS ?_;refine kq 2 hS ?_;refine kq 4 hS ?_;refine kq 5 hS ?_;refine TS.takeV (i:=6) (v:=.int .u64 (q)) rfl zd zd zd zf (fun _ _ _ h=>h) rfl hS ?_ ?_
    focus
     rintro wS ⟨gbS,gdS,rfl⟩
     go_simp
     (try exact eq)
    (try simp only [nS])
    refine kq 7 hS ?_;refine TS.one (i:=3) zd rfl (fun K1 hK1=>?_)
    go_simp
    go_at_call 187
    refine gvq (U.out _) ?_;intro bA dA;refine TS.go hK1 zp (fun hS=>?_);clear hK1 K1
    (try simp only [nS])
    refine TS.one (i:=8) zd rfl (fun K1 hK1=>?_)
    go_simp
    go_at_call 181
    refine gvq (Q.out _) ?_;intro bA dA;refine TS.go hK1 zp (fun hS=>?_);clear hK1 K1
    (try simp only [nS])
    refine kq 9 hS ?_;refine kq 10 hS ?_;refine TS.wtB 11 ?_;refine TS.weB 12 ?_;clear hS
    go_wp2_with fail
    go_returns
    exact⟨rfl,.of_below au⟩
 ·have z3:(zh==0)=false:=by simpa using z1
  obtain⟨Q,U,R,G⟩:=hq (.inl z1);clear hz hq
  go_enter func135,ntmps135
  go_wp2_with (first|(go_at_call 128;(with_reducible refine gvq (V1.out _) ?_);intro bs dr)|(go_at_call 128;(with_reducible refine gvq (V2.out _) ?_);intro bs2 dr2))
  generalize bs++bs2=B;apply aH 16 (14,6,.cells #[.int .u64 0,.int .u64 0] 228) (15,7,.cells #[.int .u64 0,.int .u64 0] 228) zd zd
  case hrx=>
   intro o ho ρ w;obtain rfl:=Option.some.inj ho;simp [go_sem]
  case hry=>
   intro o ho ρ w;obtain rfl:=Option.some.inj ho;simp [go_sem]
  case h1=>
   intro bs d;simp only [take_succ_cons,take_zero,map_cons,map_nil,Oper.mask];repeat(go_big_quiet_step ((first|(go_at_call 177;(with_reducible exact Calls.quietMS3 (Z.out _ zm _)))|(go_at_call 182;first|(with_reducible exact Calls.quietM3 (T1.out _))|(with_reducible exact Calls.quietM3 (T2.out _))))))
   exact wpQuiet_nil rfl
  all_goals
   intro gb1 gd1 gb2 gd2 gb gd;simp only [drop_succ_cons,drop_zero,Act.put,setIfInBounds_toArray,set_cons_zero,set_cons_succ,World.grow_grow,World.size_grow,World.size_alloc,Array.size_append]
  all_goals
   clear T1 T2
   go_wp2_with (first|(go_at_call 184;(with_reducible refine gvq (L.out _) ?_);intro bs3 dr3)|(go_at_call 185;(with_reducible refine gvq (O.out _) ?_);intro bs4 dr4))
   clear O L;refine TS.begin [7] (World.Grows _) zd zd aO (fun hS=>?_);refine kq 0 hS ?_;refine kq 1 hS ?_;refine TS.takeC (i:=2) (v:=(.int .u64 (aG ad))) (fn:=177) (args:=#[.int .i64 ad]) rfl zd zd zd zf (fun _ _ _ h=>h) rfl hS ?_ ?_ ?_
   focus
    rintro wS ⟨gbS,gdS,rfl⟩
    go_simp
   focus exact fun wS _=>(Z.out _ zm wS)
   (try simp only [nS])
   refine kq 3 hS ?_;refine kq 4 hS ?_;refine TS.takeC (i:=5) (v:=(.int .u64 (aG bd))) (fn:=177) (args:=#[.int .i64 bd]) rfl zd zd zd zf (fun _ _ _ h=>h) rfl hS ?_ ?_ ?_
   focus
    rintro wS ⟨gbS,gdS,rfl⟩
    go_simp
   focus exact fun wS _=>(Z.out _ zm wS)
   (try simp only [nS])
   refine kq 6 hS ?_;refine TS.weB 7 ?_;clear hS
   go_wp2_with (first|(go_at_call 186;(with_reducible refine gvq (R.out _) ?_);intro bs5 dr5)|(go_at_call 176;(with_reducible refine gvq (G.out _) ?_);intro bs6 dr6))
  all_goals
   clear R G;have gz:¬g=0:=by omega
   refine TS.begin [11,12] (World.Grows _) zd zd aO (fun hS=>?_);refine kq 0 hS ?_;refine kq 1 hS ?_;refine kq 2 hS ?_;refine kq 4 hS ?_;refine kq 5 hS ?_;refine TS.takeV (i:=6) (v:=.int .u64 (q)) rfl zd zd zd zf (fun _ _ _ h=>h) rfl hS ?_ ?_
   focus
    rintro wS ⟨gbS,gdS,rfl⟩
    go_simp
    (try exact eq)
   (try simp only [nS])
   refine kq 7 hS ?_;refine TS.one (i:=3) zd rfl (fun K1 hK1=>?_)
   go_simp
   go_at_call 187
   refine gvq (U.out _) ?_;intro bA dA;refine TS.go hK1 zp (fun hS=>?_);clear hK1 K1
   (try simp only [nS])
   refine TS.one (i:=8) zd rfl (fun K1 hK1=>?_)
   go_simp
   go_at_call 181
   refine gvq (Q.out _) ?_;intro bA dA;refine TS.go hK1 zp (fun hS=>?_);clear hK1 K1
   (try simp only [nS])
   refine kq 9 hS ?_;refine kq 10 hS ?_;refine TS.wtB 11 ?_;refine TS.weB 12 ?_;clear hS
   go_wp2_with fail
   go_returns
   exact⟨rfl,.of_below au⟩


theorem Jw(an ad bn bd xh xl yh yl zh zl D r g q oh ol n1 n2 n3:Int)(s t:Bool)(w:World)(h1:decide (an<0)=s)(h2:decide (bn<0)=t)(h3:(s==t)=false)
 (V1:Hid (∀w,Calls prog 128 #[.agg #[.int .i64 an,.int .i64 ad]] w fun e w'=>e= .returned (.bool true)/\w.Grows w')) (V2:Hid (∀w,Calls prog 128 #[.agg #[.int .i64 bn,.int .i64 bd]] w fun e w'=>e= .returned (.bool true)/\w.Grows w'))
 (Z:Hid (∀n,I64 n->∀w,Calls prog 177 #[.int .i64 n] w fun e w'=>e= .returned (.int .u64 (aG n))/\w=w')) (I1:I64 an) (I2:I64 ad) (I3:I64 bn) (I4:I64 bd)
 (T1:Hid (∀w,Calls prog 182 #[.int .u64 (aG an),.int .u64 (aG bd)] w fun e w'=>e= .returned (.agg #[.int .u64 xh,.int .u64 xl])/\w.Grows w')) (T2:Hid (∀w,Calls prog 182 #[.int .u64 (aG bn),.int .u64 (aG ad)] w fun e w'=>e= .returned (.agg #[.int .u64 yh,.int .u64 yl])/\w.Grows w')) (u3:IntKind.u64.wrap (aG ad*aG bd)=D) (g1:1<=g) (g0:(g==0)=false) (eq:IntKind.u64.wrap (D.tdiv g)=q)
 (L:Hid (∀w,Calls prog 184 #[.agg #[.int .u64 xh,.int .u64 xl],.agg #[.int .u64 yh,.int .u64 yl]] w fun e w'=>e= .returned (.bool false)/\w.Grows w'))
 (O:Hid (∀w,Calls prog 185 #[.agg #[.int .u64 xh,.int .u64 xl],.agg #[.int .u64 yh,.int .u64 yl]] w fun e w'=>e= .returned (.agg #[.int .u64 zh,.int .u64 zl])/\w.Grows w'))
 (hz:zh=0->zl=0->n1=0/\n2=1/\n3=0)
 (hq:zh≠0\/zl≠0->Hid (∀w,Calls prog 181 #[.bool s,.agg #[.int .u64 oh,.int .u64 ol],.agg #[.int .u64 0,.int .u64 q]] w fun e w'=>(e= .returned (.tuple #[.agg #[.int .i64 n1,.int .i64 n2],.int .i64 n3])/\w.Grows w'))/\
  Hid (∀w,Calls prog 187 #[.agg #[.int .u64 zh,.int .u64 zl],.int .u64 g] w fun e w'=>e= .returned (.agg #[.int .u64 oh,.int .u64 ol])/\w.Grows w')/\
  Hid (∀w,Calls prog 186 #[.int .u64 zh,.int .u64 zl,.int .u64 D] w fun e w'=>e= .returned (.int .u64 r)/\w.Grows w')/\
  Hid (∀w,Calls prog 176 #[.int .u64 D,.int .u64 r] w fun e w'=>e= .returned (.int .u64 g)/\w.Grows w'))
 :Calls prog 135 (#[.agg #[.int .i64 an,.int .i64 ad],.agg #[.int .i64 bn,.int .i64 bd]]) w fun e w'=>(e= .returned (.tuple #[.agg #[.int .i64 n1,.int .i64 n2],.int .i64 n3])/\w.Grows w'):=by
 by_cases z1:zh=0
 ·subst z1;by_cases z2:zl=0
  ·subst z2;have R:Hid True:=yq trivial;have G:Hid True:=yq trivial;have E:=yq (hz rfl rfl);clear hz
   go_enter func135,ntmps135
   go_wp2_with (first|(go_at_call 128;(with_reducible refine gvq (V1.out _) ?_);intro bs dr)|(go_at_call 128;(with_reducible refine gvq (V2.out _) ?_);intro bs2 dr2))
   generalize bs++bs2=B;apply aH 16 (14,6,.cells #[.int .u64 0,.int .u64 0] 228) (15,7,.cells #[.int .u64 0,.int .u64 0] 228) zd zd
   case hrx=>
    intro o ho ρ w;obtain rfl:=Option.some.inj ho;simp [go_sem]
   case hry=>
    intro o ho ρ w;obtain rfl:=Option.some.inj ho;simp [go_sem]
   case h1=>
    intro bs d;simp only [take_succ_cons,take_zero,map_cons,map_nil,Oper.mask];repeat(go_big_quiet_step ((first|(go_at_call 177;(with_reducible exact Calls.quietMS3 (Z.out _ zm _)))|(go_at_call 182;first|(with_reducible exact Calls.quietM3 (T1.out _))|(with_reducible exact Calls.quietM3 (T2.out _))))))
    exact wpQuiet_nil rfl
   all_goals
    intro gb1 gd1 gb2 gd2 gb gd;simp only [drop_succ_cons,drop_zero,Act.put,setIfInBounds_toArray,set_cons_zero,set_cons_succ,World.grow_grow,World.size_grow,World.size_alloc,Array.size_append]
   all_goals
    clear T1 T2
    go_wp2_with (first|(go_at_call 184;(with_reducible refine gvq (L.out _) ?_);intro bs3 dr3)|(go_at_call 185;(with_reducible refine gvq (O.out _) ?_);intro bs4 dr4))
    clear O L;refine TS.begin [7] (World.Grows _) zd zd aO (fun hS=>?_);refine kq 0 hS ?_;refine kq 1 hS ?_;refine TS.takeC (i:=2) (v:=(.int .u64 (aG ad))) (fn:=177) (args:=#[.int .i64 ad]) rfl zd zd zd zf (fun _ _ _ h=>h) rfl hS ?_ ?_ ?_
    focus
     rintro wS ⟨gbS,gdS,rfl⟩
     go_simp
    focus exact fun wS _=>(Z.out _ zm wS)
    (try simp only [nS])
    refine kq 3 hS ?_;refine kq 4 hS ?_;refine TS.takeC (i:=5) (v:=(.int .u64 (aG bd))) (fn:=177) (args:=#[.int .i64 bd]) rfl zd zd zd zf (fun _ _ _ h=>h) rfl hS ?_ ?_ ?_
    focus
     rintro wS ⟨gbS,gdS,rfl⟩
     go_simp
    focus exact fun wS _=>(Z.out _ zm wS)
    (try simp only [nS])
    refine kq 6 hS ?_;refine TS.weB 7 ?_;clear hS
    go_wp2_with (first|(go_at_call 186;(with_reducible refine gvq (R.out _) ?_);intro bs5 dr5)|(go_at_call 176;(with_reducible refine gvq (G.out _) ?_);intro bs6 dr6))
   all_goals
    go_returns
    exact⟨by rw [E.out.1,E.out.2.1,E.out.2.2],.of_below au⟩
  ·have z3:(zl==0)=false:=by simpa using z2
   obtain⟨Q,U,R,G⟩:=hq (.inr z2);clear hz hq
   go_enter func135,ntmps135
   go_wp2_with (first|(go_at_call 128;(with_reducible refine gvq (V1.out _) ?_);intro bs dr)|(go_at_call 128;(with_reducible refine gvq (V2.out _) ?_);intro bs2 dr2))
   generalize bs++bs2=B;apply aH 16 (14,6,.cells #[.int .u64 0,.int .u64 0] 228) (15,7,.cells #[.int .u64 0,.int .u64 0] 228) zd zd
   case hrx=>
    intro o ho ρ w;obtain rfl:=Option.some.inj ho;simp [go_sem]
   case hry=>
    intro o ho ρ w;obtain rfl:=Option.some.inj ho;simp [go_sem]
   case h1=>
    intro bs d;simp only [take_succ_cons,take_zero,map_cons,map_nil,Oper.mask];repeat(go_big_quiet_step ((first|(go_at_call 177;(with_reducible exact Calls.quietMS3 (Z.out _ zm _)))|(go_at_call 182;first|(with_reducible exact Calls.quietM3 (T1.out _))|(with_reducible exact Calls.quietM3 (T2.out _))))))
    exact wpQuiet_nil rfl
   all_goals
    intro gb1 gd1 gb2 gd2 gb gd;simp only [drop_succ_cons,drop_zero,Act.put,setIfInBounds_toArray,set_cons_zero,set_cons_succ,World.grow_grow,World.size_grow,World.size_alloc,Array.size_append]
   all_goals
    clear T1 T2
    go_wp2_with (first|(go_at_call 184;(with_reducible refine gvq (L.out _) ?_);intro bs3 dr3)|(go_at_call 185;(with_reducible refine gvq (O.out _) ?_);intro bs4 dr4))
    clear O L;refine TS.begin [7] (World.Grows _) zd zd aO (fun hS=>?_);refine kq 0 hS ?_;refine kq 1 hS ?_;refine TS.takeC (i:=2) (v:=(.int .u64 (aG ad))) (fn:=177) (args:=#[.int .i64 ad]) rfl zd zd zd zf (fun _ _ _ h=>h) rfl hS ?_ ?_ ?_
    focus
     rintro wS ⟨gbS,gdS,rfl⟩
     go_simp
    focus exact fun wS _=>(Z.out _ zm wS)
    (try simp only [nS])
    refine kq 3 hS ?_;refine kq 4 hS ?_;refine TS.takeC (i:=5) (v:=(.int .u64 (aG bd))) (fn:=177) (args:=#[.int .i64 bd]) rfl zd zd zd zf (fun _ _ _ h=>h) rfl hS ?_ ?_ ?_
    focus
     rintro wS ⟨gbS,gdS,rfl⟩
     go_simp
    focus exact fun wS _=>(Z.out _ zm wS)
    (try simp only [nS])
    refine kq 6 hS ?_;refine TS.weB 7 ?_;clear hS
    go_wp2_with (first|(go_at_call 186;(with_reducible refine gvq (R.out _) ?_);intro bs5 dr5)|(go_at_call 176;(with_reducible refine gvq (G.out _) ?_);intro bs6 dr6))
   all_goals
    clear R G;have gz:¬g=0:=by omega
    refine TS.begin [11,12] (World.Grows _) zd zd aO (fun hS=>?_);refine kq 0 hS ?_;refine kq 1 hS ?_;refine kq 2 hS ?_;refine kq 4 hS ?_;refine kq 5 hS ?_;refine TS.takeV (i:=6) (v:=.int .u64 (q)) rfl zd zd zd zf (fun _ _ _ h=>h) rfl hS ?_ ?_
    focus
     rintro wS ⟨gbS,gdS,rfl⟩
     go_simp
     (try exact eq)
    (try simp only [nS])
    refine kq 7 hS ?_;refine TS.one (i:=3) zd rfl (fun K1 hK1=>?_)
    go_simp
    go_at_call 187
    refine gvq (U.out _) ?_;intro bA dA;refine TS.go hK1 zp (fun hS=>?_);clear hK1 K1
    (try simp only [nS])
    refine TS.one (i:=8) zd rfl (fun K1 hK1=>?_)
    go_simp
    go_at_call 181
    refine gvq (Q.out _) ?_;intro bA dA;refine TS.go hK1 zp (fun hS=>?_);clear hK1 K1
    (try simp only [nS])
    refine kq 9 hS ?_;refine kq 10 hS ?_;refine TS.wtB 11 ?_;refine TS.weB 12 ?_;clear hS
    go_wp2_with fail
    go_returns
    exact⟨rfl,.of_below au⟩
 ·have z3:(zh==0)=false:=by simpa using z1
  obtain⟨Q,U,R,G⟩:=hq (.inl z1);clear hz hq
  go_enter func135,ntmps135
  go_wp2_with (first|(go_at_call 128;(with_reducible refine gvq (V1.out _) ?_);intro bs dr)|(go_at_call 128;(with_reducible refine gvq (V2.out _) ?_);intro bs2 dr2))
  generalize bs++bs2=B;apply aH 16 (14,6,.cells #[.int .u64 0,.int .u64 0] 228) (15,7,.cells #[.int .u64 0,.int .u64 0] 228) zd zd
  case hrx=>
   intro o ho ρ w;obtain rfl:=Option.some.inj ho;simp [go_sem]
  case hry=>
   intro o ho ρ w;obtain rfl:=Option.some.inj ho;simp [go_sem]
  case h1=>
   intro bs d;simp only [take_succ_cons,take_zero,map_cons,map_nil,Oper.mask];repeat(go_big_quiet_step ((first|(go_at_call 177;(with_reducible exact Calls.quietMS3 (Z.out _ zm _)))|(go_at_call 182;first|(with_reducible exact Calls.quietM3 (T1.out _))|(with_reducible exact Calls.quietM3 (T2.out _))))))
   exact wpQuiet_nil rfl
  all_goals
   intro gb1 gd1 gb2 gd2 gb gd;simp only [drop_succ_cons,drop_zero,Act.put,setIfInBounds_toArray,set_cons_zero,set_cons_succ,World.grow_grow,World.size_grow,World.size_alloc,Array.size_append]
  all_goals
   clear T1 T2
   go_wp2_with (first|(go_at_call 184;(with_reducible refine gvq (L.out _) ?_);intro bs3 dr3)|(go_at_call 185;(with_reducible refine gvq (O.out _) ?_);intro bs4 dr4))
   clear O L;refine TS.begin [7] (World.Grows _) zd zd aO (fun hS=>?_);refine kq 0 hS ?_;refine kq 1 hS ?_;refine TS.takeC (i:=2) (v:=(.int .u64 (aG ad))) (fn:=177) (args:=#[.int .i64 ad]) rfl zd zd zd zf (fun _ _ _ h=>h) rfl hS ?_ ?_ ?_
   focus
    rintro wS ⟨gbS,gdS,rfl⟩
    go_simp
   focus exact fun wS _=>(Z.out _ zm wS)
   (try simp only [nS])
   refine kq 3 hS ?_;refine kq 4 hS ?_;refine TS.takeC (i:=5) (v:=(.int .u64 (aG bd))) (fn:=177) (args:=#[.int .i64 bd]) rfl zd zd zd zf (fun _ _ _ h=>h) rfl hS ?_ ?_ ?_
   focus
    rintro wS ⟨gbS,gdS,rfl⟩
    go_simp
   focus exact fun wS _=>(Z.out _ zm wS)
   (try simp only [nS])
   refine kq 6 hS ?_;refine TS.weB 7 ?_;clear hS
   go_wp2_with (first|(go_at_call 186;(with_reducible refine gvq (R.out _) ?_);intro bs5 dr5)|(go_at_call 176;(with_reducible refine gvq (G.out _) ?_);intro bs6 dr6))
  all_goals
   clear R G;have gz:¬g=0:=by omega
   refine TS.begin [11,12] (World.Grows _) zd zd aO (fun hS=>?_);refine kq 0 hS ?_;refine kq 1 hS ?_;refine kq 2 hS ?_;refine kq 4 hS ?_;refine kq 5 hS ?_;refine TS.takeV (i:=6) (v:=.int .u64 (q)) rfl zd zd zd zf (fun _ _ _ h=>h) rfl hS ?_ ?_
   focus
    rintro wS ⟨gbS,gdS,rfl⟩
    go_simp
    (try exact eq)
   (try simp only [nS])
   refine kq 7 hS ?_;refine TS.one (i:=3) zd rfl (fun K1 hK1=>?_)
   go_simp
   go_at_call 187
   refine gvq (U.out _) ?_;intro bA dA;refine TS.go hK1 zp (fun hS=>?_);clear hK1 K1
   (try simp only [nS])
   refine TS.one (i:=8) zd rfl (fun K1 hK1=>?_)
   go_simp
   go_at_call 181
   refine gvq (Q.out _) ?_;intro bA dA;refine TS.go hK1 zp (fun hS=>?_);clear hK1 K1
   (try simp only [nS])
   refine kq 9 hS ?_;refine kq 10 hS ?_;refine TS.wtB 11 ?_;refine TS.weB 12 ?_;clear hS
   go_wp2_with fail
   go_returns
   exact⟨rfl,.of_below au⟩
end Go.Proofs.YteildlpchhlchaaGreatDoor
