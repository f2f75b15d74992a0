import Derived.Test.YtcfpoofhokbhlaaGreatDoorVFrFl
set_option linter.all false
set_option maxHeartbeats 16000000
set_option maxRecDepth 1000000
namespace Go.Proofs.YtcfpoofhokbhlaaGreatDoor
open Tryz List
open Go.RowKit
def QT(s p:Bool):Int:=if p==s then 1 else -1
theorem BC(an ad bn bd xh xl yh yl:Int)(s p:Bool)(w:World)(hne:¬(an=bn/\ad=bd))(hs1:decide (an<0)=s)(hs2:decide (bn<0)=s)
 (Z:Hid (∀n,I64 n->∀w,Calls prog 23 #[.int .i64 n] w fun e w'=>e= .returned (.int .u64 (aG n))/\w=w')) (I1:I64 an) (I2:I64 ad) (I3:I64 bn) (I4:I64 bd)
 (T1:Hid (∀w,Calls prog 70 #[.int .u64 (aG an),.int .u64 bd] w fun e w'=>e= .returned (.agg #[.int .u64 xh,.int .u64 xl])/\w.Grows w')) (T2:Hid (∀w,Calls prog 70 #[.int .u64 (aG bn),.int .u64 ad] w fun e w'=>e= .returned (.agg #[.int .u64 yh,.int .u64 yl])/\w.Grows w')) (u1:IntKind.u64.wrap ad=ad) (u2:IntKind.u64.wrap bd=bd)
 (L1:Hid (∀w,Calls prog 71 #[.agg #[.int .u64 xh,.int .u64 xl],.agg #[.int .u64 yh,.int .u64 yl]] w fun e w'=>e= .returned (.bool p)/\w.Grows w'))
 :Calls prog 54 #[.agg #[.int .i64 an,.int .i64 ad],.agg #[.int .i64 bn,.int .i64 bd]] w fun e w'=>e= .returned (.int .i64 (QT s p))/\w.Grows w':=by
 by_cases e1:an=bn
 focus
  have e2:ad≠bd:=fun h=>hne ⟨e1,h⟩;have d2:(ad==bd)=false:=by simpa using e2
  clear hne;subst e1
  go_enter func54,ntmps54
  go_wp2_with fail
  refine Code.abs fun W0 hW0=>?_;have y0:W0.cell? ⟨w.heap.size,0,none⟩=some (.int .i64 an):=by rw [<-hW0];simp [go_sem]
  have y1:W0.cell? ⟨w.heap.size,1,none⟩=some (.int .i64 ad):=by rw [<-hW0];simp [go_sem]
  have y2:W0.cell? ⟨w.heap.size+1,0,none⟩=some (.int .i64 an):=by rw [<-hW0];simp [go_sem]
 rotate_left
 focus
  have d1:(an==bn)=false:=by simpa using e1
  clear hne
  go_enter func54,ntmps54
  go_wp2_with fail
  refine Code.abs fun W0 hW0=>?_;have y0:W0.cell? ⟨w.heap.size,0,none⟩=some (.int .i64 an):=by rw [<-hW0];simp [go_sem]
  have y1:W0.cell? ⟨w.heap.size,1,none⟩=some (.int .i64 ad):=by rw [<-hW0];simp [go_sem]
  have y2:W0.cell? ⟨w.heap.size+1,0,none⟩=some (.int .i64 bn):=by rw [<-hW0];simp [go_sem]
 rotate_left
 all_goals
  have y3:W0.cell? ⟨w.heap.size+1,1,none⟩=some (.int .i64 bd):=by rw [<-hW0];simp [go_sem]
  have hby:Below w.heap.size w W0:=by rw [<-hW0];(exact af)
  have hq0:w.heap.size<W0.heap.size:=by rw [<-hW0];simp;try omega
  have hq1:w.heap.size+1<W0.heap.size:=by rw [<-hW0];simp;try omega
  clear hW0;apply dE 16 (14,5,.cells #[.int .u64 0,.int .u64 0] 91) (15,6,.cells #[.int .u64 0,.int .u64 0] 91) zf zf
  case hrx=>
   intro o ho ρ w;obtain rfl:=Option.some.inj ho;simp [go_sem]
  case hry=>
   intro o ho ρ w;obtain rfl:=Option.some.inj ho;simp [go_sem]
  case h1=>
   intro bs d;simp only [take_succ_cons,take_zero,map_cons,map_nil,Oper.mask];repeat(go_big_quiet_step ((first|(go_at_call 23;(with_reducible exact Calls.quietMS (Z.out _ zv _)))|(go_at_call 70;first|(with_reducible exact Calls.quietM (T1.out _))|(with_reducible exact Calls.quietM (T2.out _))))))
   exact wpQuiet_nil rfl
  all_goals
   intro gb1 gd1 gb2 gd2 gb gd;simp only [drop_succ_cons,drop_zero,Act.put,setIfInBounds_toArray,set_cons_zero,set_cons_succ]
  focus
   clear T1 T2 Z
   go_wp2_with fail
   refine Code.abs fun W hW=>?_;have x0:W.cell? ⟨w.heap.size,0,none⟩=some (.int .i64 an):=by rw [<-hW];simp [go_sem,hq0,hq1,y0]
   have x1:W.cell? ⟨W0.heap.size+gb1.size,0,none⟩=some (.int .u64 xh):=by rw [<-hW];simp [go_sem]
   have x2:W.cell? ⟨W0.heap.size+gb1.size,1,none⟩=some (.int .u64 xl):=by rw [<-hW];simp [go_sem]
   have x3:W.cell? ⟨W0.heap.size+gb1.size+1+gb2.size,0,none⟩=some (.int .u64 yh):=by rw [<-hW];simp [go_sem]
   have x4:W.cell? ⟨W0.heap.size+gb1.size+1+gb2.size,1,none⟩=some (.int .u64 yl):=by rw [<-hW];simp [go_sem]
  rotate_left
  focus
   clear T1 T2 Z
   go_wp2_with fail
   refine Code.abs fun W hW=>?_;have x0:W.cell? ⟨w.heap.size,0,none⟩=some (.int .i64 an):=by rw [<-hW];simp [go_sem,hq0,hq1,y0]
   have x1:W.cell? ⟨W0.heap.size+gb1.size,0,none⟩=some (.int .u64 yh):=by rw [<-hW];simp [go_sem]
   have x2:W.cell? ⟨W0.heap.size+gb1.size,1,none⟩=some (.int .u64 yl):=by rw [<-hW];simp [go_sem]
   have x3:W.cell? ⟨W0.heap.size+gb1.size+1+gb2.size,0,none⟩=some (.int .u64 xh):=by rw [<-hW];simp [go_sem]
   have x4:W.cell? ⟨W0.heap.size+gb1.size+1+gb2.size,1,none⟩=some (.int .u64 xl):=by rw [<-hW];simp [go_sem]
  rotate_left
  all_goals
   have hbw:Below w.heap.size w W:=by rw [<-hW];(exact af)
   have hz0:w.heap.size<W.heap.size:=by rw [<-hW];simp;omega
   have hz1:W0.heap.size+gb1.size+1+gb2.size<W.heap.size:=by rw [<-hW];simp;omega
   have hz2:W0.heap.size+gb1.size<W.heap.size:=by omega
   clear hW;refine eX zf zf ?_;repeat(go_big_quiet_step ((go_at_call 71;exact Calls.quietG (L1.out _))))
   refine wpQuiet_nil ?_;intro _ hw';obtain⟨⟨gb,gd⟩,hw''⟩:=hw';subst hw'';cases s<;>cases p
   all_goals
    go_wp2_with fail
    go_returns
    exact⟨rfl,.of_below af⟩
theorem oM{F:FuncId}(T:∀(a b:Nat) (w:World),a<18446744073709551616->b<18446744073709551616->Calls prog F #[.int .u64 a,.int .u64 b] w fun e w'=>e= .returned (.agg #[.int .u64 (hiW (a*b)),.int .u64 (loW (a*b))])/\w.Grows w')
 {a b:Int} (ha:I64 a) (hb:0<=b) (hb2:b<=9223372036854775807) (w:World):Calls prog F #[.int .u64 (aG a),.int .u64 b] w fun e w'=>e= .returned (.agg #[.int .u64 (hiW (a.natAbs*b.natAbs)),.int .u64 (loW (a.natAbs*b.natAbs))])/\w.Grows w':=by
 unfold I64 at ha;have:=T a.natAbs b.natAbs w ze ze
 rwa [show((b.natAbs:Nat):Int)=b by omega]at this
theorem H9{an ad bn bd:Int}(ha:ay an ad=true)(hb:ay bn bd=true)(hne:¬(an=bn/\ad=bd))(h:decide (an<0)=decide (bn<0)) :
 iy an ad bn bd=QT (decide (an<0)) (decide (an.natAbs*bd.natAbs<bn.natAbs*ad.natAbs)):=by
 have b1:=aC ha;have b2:=aC hb;rw [xP b1.1 b2.1 h]
 have hx:an.natAbs*bd.natAbs≠bn.natAbs*ad.natAbs:=by
  intro hc;apply hne;refine Gj ha hb ?_;have e1:=sQ (a:=an) b2.1;have e2:=sQ (a:=bn) b1.1;rw [e1,e2,hc];by_cases c:an<0
  ·have:bn<0:=by simpa [c]using h
   rw [if_pos c,if_pos this]
  ·have:¬bn<0:=by simpa [c]using h
   rw [if_neg c,if_neg this]
 unfold PI QT;generalize an.natAbs*bd.natAbs=X at *;generalize bn.natAbs*ad.natAbs=Y at *;by_cases c:an<0<;>by_cases d:X<Y<;>by_cases e:Y<X<;>simp [c,d,e]<;>omega
theorem BA(an ad:Int)(w:World):Calls prog 54 #[.agg #[.int .i64 an,.int .i64 ad],.agg #[.int .i64 an,.int .i64 ad]] w fun e w'=>e= .returned (.int .i64 0)/\w.Grows w':=by
 go_enter func54,ntmps54
 exact nE
theorem BB(an ad bn bd r:Int)(w:World)(hd:decide (an<0)≠decide (bn<0))(hr:Hid (r=if an<0 then -1 else 1)):Calls prog 54 #[.agg #[.int .i64 an,.int .i64 ad],.agg #[.int .i64 bn,.int .i64 bd]] w fun e w'=>e= .returned (.int .i64 r)/\w.Grows w':=by
 have d0:(an==bn)=false:=by
  rw [beq_eq_false_iff_ne];intro h;rw [h]at hd;exact hd rfl
 by_cases c:an<0
 ·have d1:decide (an<0)=true:=by simpa using c
  have d2:decide (bn<0)=false:=by simp [c]at hd;simpa using hd
  have HR:=yq (show r= -1 by rw [hr.out,if_pos c]);exact Rs
 ·have d1:decide (an<0)=false:=by simpa using c
  have d2:decide (bn<0)=true:=by simp [c]at hd;simpa using hd
  have HR:=yq (show r=1 by rw [hr.out,if_neg c]);exact Rs
theorem Ec(an ad bn bd:Int)(w:World)(hva:ay an ad=true)(hvb:ay bn bd=true) :
 Calls prog 54 #[.agg #[.int .i64 an,.int .i64 ad],.agg #[.int .i64 bn,.int .i64 bd]] w fun e w'=>e= .returned (.int .i64 (iy an ad bn bd))/\w.Grows w':=by
 have b1:=aC hva;have b2:=aC hvb;have i1:I64 an:=by unfold I64;omega
 have i2:I64 ad:=by unfold I64;omega
 have i3:I64 bn:=by unfold I64;omega
 have i4:I64 bd:=by unfold I64;omega
 by_cases he:an=bn/\ad=bd
 ·obtain⟨rfl,rfl⟩:=he;rw [show iy an ad an ad=0 by unfold iy;rw [if_neg ze,if_neg ze]];exact BA an ad w
 ·by_cases hs:decide (an<0)=decide (bn<0)
  ·rw [H9 hva hvb he hs];refine BC an ad bn bd _ _ _ _ _ _ w he rfl hs.symm (fun n h w=>fO n w h.1 h.2) i1 i2 i3 i4 (oM iD i1 ze ze) (oM iD i3 ze ze) (IntWalk.u64_in _ ze) (IntWalk.u64_in _ ze) ?_;intro w;have:=wO (hiW (an.natAbs*bd.natAbs)) (loW (an.natAbs*bd.natAbs)) (hiW (bn.natAbs*ad.natAbs)) (loW (bn.natAbs*ad.natAbs)) w;rwa [kE]at this
  ·rw [Dc b1.1 b2.1 hs];exact BB an ad bn bd _ w hs (yq rfl)
theorem Ms(an ad bn bd r:Int)(w:World)
 (V1:Hid (∀w,Calls prog 53 #[.agg #[.int .i64 an,.int .i64 ad]] w fun e w'=>e= .returned (.bool true)/\w.Grows w')) (V2:Hid (∀w,Calls prog 53 #[.agg #[.int .i64 bn,.int .i64 bd]] w fun e w'=>e= .returned (.bool true)/\w.Grows w'))
 (O:Hid (∀w,Calls prog 54 #[.agg #[.int .i64 an,.int .i64 ad],.agg #[.int .i64 bn,.int .i64 bd]] w fun e w'=>e= .returned (.int .i64 r)/\w.Grows w'))
 :Calls prog 28 #[.agg #[.int .i64 an,.int .i64 ad],.agg #[.int .i64 bn,.int .i64 bd]] w fun e w'=>e= .returned (frI (r,0))/\w.Grows w':=by
 go_enter func28,ntmps28
 go_wp2_with (first|(go_at_call 53;(with_reducible refine gvq (V1.out _) ?_);intro bs dr)|(go_at_call 53;(with_reducible refine gvq (V2.out _) ?_);intro bs2 dr2)|(go_at_call 54;(with_reducible refine gvq (O.out _) ?_);intro bs3 dr3))
 go_returns
 exact⟨rfl,.of_below af⟩
theorem PL(an ad bn bd:Int)(p q:Bool)(w:World)(hpq:(p&&q)=false)
 (V1:Hid (∀w,Calls prog 53 #[.agg #[.int .i64 an,.int .i64 ad]] w fun e w'=>e= .returned (.bool p)/\w.Grows w')) (V2:Hid (∀w,Calls prog 53 #[.agg #[.int .i64 bn,.int .i64 bd]] w fun e w'=>e= .returned (.bool q)/\w.Grows w'))
 :Calls prog 28 #[.agg #[.int .i64 an,.int .i64 ad],.agg #[.int .i64 bn,.int .i64 bd]] w fun e w'=>e= .returned (frI (0,1))/\w.Grows w':=by
 have O:Hid True:=yq trivial;cases p<;>cases q
 all_goals first
  |(exfalso;simp at hpq;done)
  |(clear hpq
    skip)
 all_goals
  go_enter func28,ntmps28
  go_wp2_with (first|(go_at_call 53;(with_reducible refine gvq (V1.out _) ?_);intro bs dr)|(go_at_call 53;(with_reducible refine gvq (V2.out _) ?_);intro bs2 dr2)|(go_at_call 54;(with_reducible refine gvq (O.out _) ?_);intro bs3 dr3))
  go_returns
  exact⟨rfl,.of_below af⟩
theorem pX(an ad bn bd:Int)(w:World)(hi:kS an ad bn bd) :
 Calls prog 28 #[.agg #[.int .i64 an,.int .i64 ad],.agg #[.int .i64 bn,.int .i64 bd]] w fun e w'=>e= .returned (frI (gu an ad bn bd))/\w.Grows w':=by
 obtain⟨i1,i2,i3,i4⟩:=hi;have V1:=yq (fun w=>bZ an ad w i1.1 i1.2 i2.1 i2.2);have V2:=yq (fun w=>bZ bn bd w i3.1 i3.2 i4.1 i4.2);by_cases hv:(ay an ad&&ay bn bd)=true
 ·have hva:=(Bool.and_eq_true_iff.1 hv).1;have hvb:=(Bool.and_eq_true_iff.1 hv).2;rw [show gu an ad bn bd=(iy an ad bn bd,0)by unfold gu;rw [if_pos hv]];have O:=yq (fun w=>Ec an ad bn bd w hva hvb);rw [hva]at V1;rw [hvb]at V2;exact Ms an ad bn bd _ w V1 V2 O
 ·rw [show gu an ad bn bd=(0,1)by unfold gu;rw [if_neg hv]];exact PL an ad bn bd _ _ w (Bool.eq_false_iff.2 hv) V1 V2
end Go.Proofs.YtcfpoofhokbhlaaGreatDoor
