import Derived.Test.YtcfpoofhokbhlaaGreatDoorVAbs
import Derived.Test.YtcfpoofhokbhlaaGreatDoorVEvP
set_option linter.all false
set_option maxHeartbeats 16000000
set_option maxRecDepth 1000000
namespace Go.Proofs.YtcfpoofhokbhlaaGreatDoor
open Tryz List
open Go.RowKit
def frI(r:Int × Int):Value:=.tuple #[.int .i64 r.1,.int .i64 r.2]
theorem uN{n d:Int}(h:1<=d):n / d=n.tdiv d\/n / d=n.tdiv d-1:=by
 rw [<-qI h];split<;>simp
theorem FB(n d:Int)(w:World)(h1:-9223372036854775808<=n)(h2:n<=9223372036854775807)(h3:-9223372036854775808<=d)(h4:d<=9223372036854775807) :
 Calls prog 128 #[.agg #[.int .i64 n,.int .i64 d]] w fun e w'=>e= .returned (frI (eD n d))/\w.Grows w':=by
 have hv:=yq (fun w=>dN n d w h1 h2 h3 h4);generalize hx:ay n d=b at *;cases b
 ·have HR:=yq (show eD n d=(0,1)by unfold eD;rw [hx];rfl);clear hx
  go_enter func128,ntmps128
  go_wp2_with fail
  refine gvq (hv.out _) ?_;intro bs dr;clear hv
  go_wp2_with fail
  go_returns
  exact⟨by rw [HR.out];rfl,.of_below af⟩
 ·have HR:=yq (show eD n d=(n / d,0)by unfold eD;rw [hx];rfl);obtain⟨k1,k2,k3,k4⟩:=aC hx;have hf:=uO hx;have HF:=yq (qI (n:=n) k1);have hft:=uN (n:=n) k1;have hq1:-1000000000000001<=n.tdiv d:=by omega
  have hq2:n.tdiv d<=1000000000000001:=by omega
  have d0:(d==0)=false:=by simp;omega
  clear hx hf hft;have e1:IntKind.i64.wrap (n.tdiv d)=n.tdiv d:=IntWalk.i64_in _ ze;generalize n / d=z at *;by_cases c:n.tmod d<0
  focus
   have HZ:=yq (show z=n.tdiv d-1 by rw [<-HF.out,if_pos c])
  rotate_left
  focus
   have HZ:=yq (show z=n.tdiv d by rw [<-HF.out,if_neg c])
  rotate_left
  all_goals
   clear HF
   go_enter func128,ntmps128
   go_wp2_with fail
   refine gvq (hv.out _) ?_;intro bs dr;clear hv
   go_wp2_with fail
   go_returns
   exact⟨by rw [HR.out,HZ.out];rfl,.of_below af⟩
theorem FC(n d:Int)(w:World)(h1:-9223372036854775808<=n)(h2:n<=9223372036854775807)(h3:-9223372036854775808<=d)(h4:d<=9223372036854775807) :
 Calls prog 107 #[.agg #[.int .i64 n,.int .i64 d]] w fun e w'=>e= .returned (frI (eD n d))/\w.Grows w':=by
 have hv:=yq (fun w=>bZ n d w h1 h2 h3 h4);generalize hx:ay n d=b at *;cases b
 ·have HR:=yq (show eD n d=(0,1)by unfold eD;rw [hx];rfl);clear hx
  go_enter func107,ntmps107
  go_wp2_with fail
  refine gvq (hv.out _) ?_;intro bs dr;clear hv
  go_wp2_with fail
  go_returns
  exact⟨by rw [HR.out];rfl,.of_below af⟩
 ·have HR:=yq (show eD n d=(n / d,0)by unfold eD;rw [hx];rfl);obtain⟨k1,k2,k3,k4⟩:=aC hx;have hf:=uO hx;have HF:=yq (I5 (n:=n) k1);have hft:=uN (n:=n) k1;have hq1:-1000000000000001<=n.tdiv d:=by omega
  have hq2:n.tdiv d<=1000000000000001:=by omega
  have d0:(d==0)=false:=by simp;omega
  clear hx hf hft;have e1:IntKind.i64.wrap (n.tdiv d)=n.tdiv d:=IntWalk.i64_in _ ze;generalize n / d=z at *
  have hp1:n.tdiv d*d<=2000000000000000/\-2000000000000000<=n.tdiv d*d:=by
   have e5:=Int.mul_tdiv_add_tmod n d;have hb:=Int.tmod_lt_of_pos n (show 0<d by omega);have hc:=Int.tmod_lt_of_pos (-n) (show 0<d by omega);rw [Int.neg_tmod]at hc;rw [Int.mul_comm]at e5;omega
  have hp2:=hp1.1;have hp3:=hp1.2;clear hp1;by_cases c:n<n.tdiv d*d
  focus
   have HZ:=yq (show z=n.tdiv d-1 by rw [<-HF.out,if_pos c])
  rotate_left
  focus
   have HZ:=yq (show z=n.tdiv d by rw [<-HF.out,if_neg c])
  rotate_left
  all_goals
   clear HF
   go_enter func107,ntmps107
   go_wp2_with fail
   refine gvq (hv.out _) ?_;intro bs dr;clear hv
   go_wp2_with fail
   go_returns
   exact⟨by rw [HR.out,HZ.out];rfl,.of_below af⟩
def PI(s p q:Bool):Int:=if s then(if q then -1 else if p then 1 else 0)else(if p then -1 else if q then 1 else 0)
theorem Jt(an ad bn bd xh xl yh yl:Int)(s p q:Bool)(w:World)(hs1:decide (an<0)=s)(hs2:decide (bn<0)=s)
 (V1:Hid (∀w,Calls prog 61 #[.agg #[.int .i64 an,.int .i64 ad]] w fun e w'=>e= .returned (.bool true)/\w.Grows w')) (V2:Hid (∀w,Calls prog 61 #[.agg #[.int .i64 bn,.int .i64 bd]] w fun e w'=>e= .returned (.bool true)/\w.Grows w'))
 (Z:Hid (∀n,I64 n->∀w,Calls prog 80 #[.int .i64 n] w fun e w'=>e= .returned (.int .u64 (aG n))/\w=w')) (I1:I64 an) (I2:I64 ad) (I3:I64 bn) (I4:I64 bd)
 (T1:Hid (∀w,Calls prog 150 #[.int .u64 (aG an),.int .u64 (aG bd)] w fun e w'=>e= .returned (.agg #[.int .u64 xh,.int .u64 xl])/\w.Grows w')) (T2:Hid (∀w,Calls prog 150 #[.int .u64 (aG bn),.int .u64 (aG ad)] w fun e w'=>e= .returned (.agg #[.int .u64 yh,.int .u64 yl])/\w.Grows w'))
 (L1:Hid (∀w,Calls prog 151 #[.agg #[.int .u64 xh,.int .u64 xl],.agg #[.int .u64 yh,.int .u64 yl]] w fun e w'=>e= .returned (.bool p)/\w.Grows w')) (L2:Hid (∀w,Calls prog 151 #[.agg #[.int .u64 yh,.int .u64 yl],.agg #[.int .u64 xh,.int .u64 xl]] w fun e w'=>e= .returned (.bool q)/\w.Grows w'))
 :Calls prog 130 #[.agg #[.int .i64 an,.int .i64 ad],.agg #[.int .i64 bn,.int .i64 bd]] w fun e w'=>e= .returned (frI (PI s p q,0))/\w.Grows w':=by
 cases s<;>
 ·go_enter func130,ntmps130
  go_wp2_with (first|(go_at_call 61;(with_reducible refine gvq (V1.out _) ?_);intro bs dr)|(go_at_call 61;(with_reducible refine gvq (V2.out _) ?_);intro bs2 dr2))
  clear V1 V2;obtain⟨W,hW⟩:∃W,(((w.alloc (.cells #[.int .i64 an,.int .i64 ad] 39)).alloc (.cells #[.int .i64 bn,.int .i64 bd] 39)).grow (bs++bs2) dr2)=W:=⟨_,rfl⟩;have x0:W.cell? ⟨w.heap.size,0,none⟩=some (.int .i64 an):=by rw [<-hW];simp [go_sem]
  have x1:W.cell? ⟨w.heap.size,1,none⟩=some (.int .i64 ad):=by rw [<-hW];simp [go_sem]
  have x2:W.cell? ⟨w.heap.size+1,0,none⟩=some (.int .i64 bn):=by rw [<-hW];simp [go_sem]
  have x3:W.cell? ⟨w.heap.size+1,1,none⟩=some (.int .i64 bd):=by rw [<-hW];simp [go_sem]
  have hbw:Below w.heap.size w W:=by rw [<-hW];(exact af)
  have hz0:w.heap.size<W.heap.size:=by rw [<-hW];simp;omega
  have hz1:w.heap.size+1<W.heap.size:=by rw [<-hW];simp;omega
  rw [hW];clear hW;apply dE 16 (14,6,.cells #[.int .u64 0,.int .u64 0] 198) (15,7,.cells #[.int .u64 0,.int .u64 0] 198) zf zf
  case hrx=>
   intro o ho ρ w;obtain rfl:=Option.some.inj ho;simp [go_sem]
  case hry=>
   intro o ho ρ w;obtain rfl:=Option.some.inj ho;simp [go_sem]
  case h1=>
   intro bs d;simp only [take_succ_cons,take_zero,map_cons,map_nil,Oper.mask];repeat(go_big_quiet_step ((first|(go_at_call 80;(with_reducible exact Calls.quietMS (Z.out _ zv _)))|(go_at_call 150;first|(with_reducible exact Calls.quietM (T1.out _))|(with_reducible exact Calls.quietM (T2.out _))))))
   exact wpQuiet_nil rfl
  all_goals
   intro gb1 gd1 gb2 gd2 gb gd;simp only [drop_succ_cons,drop_zero,Act.put,setIfInBounds_toArray,set_cons_zero,set_cons_succ]
  all_goals
   clear T1 T2 Z;cases p<;>cases q
  all_goals
   go_wp2_with (first|(go_at_call 151;(with_reducible refine gvq (L1.out _) ?_);intro bs3 dr3)|(go_at_call 151;(with_reducible refine gvq (L2.out _) ?_);intro bs4 dr4))
   go_returns
   exact⟨rfl,.of_below af⟩
theorem PK(an ad bn bd:Int)(p q:Bool)(w:World)(hpq:(p&&q)=false)
 (V1:Hid (∀w,Calls prog 61 #[.agg #[.int .i64 an,.int .i64 ad]] w fun e w'=>e= .returned (.bool p)/\w.Grows w')) (V2:Hid (∀w,Calls prog 61 #[.agg #[.int .i64 bn,.int .i64 bd]] w fun e w'=>e= .returned (.bool q)/\w.Grows w'))
 :Calls prog 130 #[.agg #[.int .i64 an,.int .i64 ad],.agg #[.int .i64 bn,.int .i64 bd]] w fun e w'=>e= .returned (frI (0,1))/\w.Grows w':=by
 cases p<;>cases q
 all_goals first
  |(exfalso;simp at hpq;done)
  |(clear hpq
    go_enter func130,ntmps130
    go_wp2_with (first|(go_at_call 61;(with_reducible refine gvq (V1.out _) ?_);intro bs dr)|(go_at_call 61;(with_reducible refine gvq (V2.out _) ?_);intro bs2 dr2))
    go_returns
    exact⟨rfl,.of_below af⟩)
theorem Js(an ad bn bd r:Int)(w:World)(hd:decide (an<0)≠decide (bn<0))(hr:Hid (r=if an<0 then -1 else 1))
 (V1:Hid (∀w,Calls prog 61 #[.agg #[.int .i64 an,.int .i64 ad]] w fun e w'=>e= .returned (.bool true)/\w.Grows w')) (V2:Hid (∀w,Calls prog 61 #[.agg #[.int .i64 bn,.int .i64 bd]] w fun e w'=>e= .returned (.bool true)/\w.Grows w'))
 :Calls prog 130 #[.agg #[.int .i64 an,.int .i64 ad],.agg #[.int .i64 bn,.int .i64 bd]] w fun e w'=>e= .returned (frI (r,0))/\w.Grows w':=by
 by_cases c:an<0
 focus
  have d1:decide (an<0)=true:=by simpa using c
  have d2:decide (bn<0)=false:=by simp [c]at hd;simpa using hd
  have HR:=yq (show r= -1 by rw [hr.out,if_pos c])
 rotate_left
 focus
  have d1:decide (an<0)=false:=by simpa using c
  have d2:decide (bn<0)=true:=by simp [c]at hd;simpa using hd
  have HR:=yq (show r=1 by rw [hr.out,if_neg c])
 rotate_left
 all_goals
  clear hd c hr
  go_enter func130,ntmps130
  go_wp2_with (first|(go_at_call 61;(with_reducible refine gvq (V1.out _) ?_);intro bs dr)|(go_at_call 61;(with_reducible refine gvq (V2.out _) ?_);intro bs2 dr2))
  go_returns
  exact⟨by rw [HR.out];rfl,.of_below af⟩
theorem xP{an ad bn bd:Int}(h1:1<=ad)(h2:1<=bd)(h:decide (an<0)=decide (bn<0)) :
 iy an ad bn bd=PI (decide (an<0)) (decide (an.natAbs*bd.natAbs<bn.natAbs*ad.natAbs)) (decide (bn.natAbs*ad.natAbs<an.natAbs*bd.natAbs)):=by
 rw [Mr h1 h2 h];unfold PI;by_cases c:an<0<;>simp [c]
theorem mR{F:FuncId}(T:∀(a b:Nat) (w:World),a<18446744073709551616->b<18446744073709551616->Calls prog F #[.int .u64 a,.int .u64 b] w fun e w'=>e= .returned (.agg #[.int .u64 (hiW (a*b)),.int .u64 (loW (a*b))])/\w.Grows w')
 {a b:Int} (ha:I64 a) (hb:I64 b) (w:World):Calls prog F #[.int .u64 (aG a),.int .u64 (aG b)] w fun e w'=>e= .returned (.agg #[.int .u64 (hiW (a.natAbs*b.natAbs)),.int .u64 (loW (a.natAbs*b.natAbs))])/\w.Grows w':=by
 unfold I64 at ha hb;exact T a.natAbs b.natAbs w ze ze
def kS(a b c d:Int):Prop:=I64 a/\I64 b/\I64 c/\I64 d
theorem pW(an ad bn bd:Int)(w:World)(hi:kS an ad bn bd) :
 Calls prog 130 #[.agg #[.int .i64 an,.int .i64 ad],.agg #[.int .i64 bn,.int .i64 bd]] w fun e w'=>e= .returned (frI (gu an ad bn bd))/\w.Grows w':=by
 obtain⟨i1,i2,i3,i4⟩:=hi;have V1:=yq (fun w=>dN an ad w i1.1 i1.2 i2.1 i2.2);have V2:=yq (fun w=>dN bn bd w i3.1 i3.2 i4.1 i4.2);by_cases hv:(ay an ad&&ay bn bd)=true
 ·have hva:=(Bool.and_eq_true_iff.1 hv).1;have hvb:=(Bool.and_eq_true_iff.1 hv).2;rw [show gu an ad bn bd=(iy an ad bn bd,0)by unfold gu;rw [if_pos hv]];rw [hva]at V1;rw [hvb]at V2;have b1:=aC hva;have b2:=aC hvb;by_cases hs:decide (an<0)=decide (bn<0)
  ·rw [xP b1.1 b2.1 hs];refine Jt an ad bn bd _ _ _ _ _ _ _ w rfl hs.symm V1 V2 (fun n h w=>iF n w h.1 h.2) i1 i2 i3 i4 (mR iC i1 i4) (mR iC i3 i2) ?_ ?_
   ·intro w;have:=qz (hiW (an.natAbs*bd.natAbs)) (loW (an.natAbs*bd.natAbs)) (hiW (bn.natAbs*ad.natAbs)) (loW (bn.natAbs*ad.natAbs)) w;rwa [kE]at this
   ·intro w;have:=qz (hiW (bn.natAbs*ad.natAbs)) (loW (bn.natAbs*ad.natAbs)) (hiW (an.natAbs*bd.natAbs)) (loW (an.natAbs*bd.natAbs)) w;rwa [kE]at this
  ·rw [Dc b1.1 b2.1 hs];exact Js an ad bn bd _ w hs (yq rfl) V1 V2
 ·rw [show gu an ad bn bd=(0,1)by unfold gu;rw [if_neg hv]];exact PK an ad bn bd _ _ w (Bool.eq_false_iff.2 hv) V1 V2
end Go.Proofs.YtcfpoofhokbhlaaGreatDoor
