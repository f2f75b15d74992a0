import Derived.Test.YtfoefpoaomepbaaGreatDoorGCodV
import Derived.Test.YtfoefpoaomepbaaGreatDoorGStpP
set_option linter.all false
set_option maxHeartbeats 16000000
set_option maxRecDepth 1000000
namespace Go.Proofs.YtfoefpoaomepbaaGreatDoor
open Go.Proofs.Tryz Tryz List
open Go.RowKit
theorem IE(e:Ex)(a:Option Addr)(cap:Nat)(w:World)(hr:fE e)(ht:Tab w)(hle:(e.args.length:Int)=aJ e.op)(ho:e.op=1):(Calls prog 134 #[exV e (.slice a e.args.length cap)] w fun r w'=>r= .returned (.bool (fO e))/\w.Grows w'):=by
 have HF:Hid (fO e=(aV e.num e.den e.dim&&e.name.toList.isEmpty)):=yq (by unfold fO;rw [decide_eq_true hle,Bool.true_and,if_pos ho]);obtain⟨on,od⟩:=hr.num;obtain⟨pn,pd⟩:=hr.den;have hsz:=hr.name;have hi:=yq (And.intro hr.num (And.intro hr.den hr.dim));clear hr;have HT:=yq ht;clear ht;have h1:((e.args.length:Int)!=aJ 1)=false:=by rw [ho]at hle;simpa using hle
 clear hle;cases hd:aV e.num e.den e.dim
 all_goals
  have HD:Hid _:=yq (fun w (ht:Tab w)=>bv e.num e.den e.dim w hi.out.1 hi.out.2.1 hi.out.2.2 ht);unfold dX at HD;rw [hd]at HD HF;clear hd
  go_enter func134,ntmps134
  go_wp2_with fail
  go_quiet ((go_at_call 172;exact Calls.quiet_eq (jl _ _)))
  go_wp2_with (go_at_call 144;refine(HD.out _ ((HT.out.alloc _).drewN _)).mono ?_;rintro e' w' ⟨s,rfl,-,bs,d,rfl⟩)
  all_goals
   go_returns
   exact⟨av yk,.of_below af⟩
theorem Gh:Ha:=fun e a cap w hr ht hle ho=>IE e a cap w hr ht hle ho
theorem mG(S:Nat->Prop)(e:Ex)(v:Value)(w:World)(h:Hid (ax S w e v))(hbig:Hid (e.size<=2305843009213693952))(ht:Hid (Tab w)):Calls prog 35 #[exV e v] w fun r w'=>r= .returned (.bool (bB e))/\w.Grows w':=
 p8 S e v w h hbig ht (yq (.inl Gh))
theorem G5(n:Int):aO n=((n.natAbs:Nat):Int):=rfl
theorem Nz(an ad bn bd:Int)(w:World)(hi:mK an ad bn bd):Calls prog 141 #[.agg #[.int .i64 an,.int .i64 ad],.agg #[.int .i64 bn,.int .i64 bd]] w fun e w'=>e= .returned (frV (rW an ad bn bd))/\w.Grows w':=by
 obtain⟨i1,i2,i3,i4⟩:=hi;have V1:=yq (fun w=>dL an ad w i1.1 i1.2 i2.1 i2.2);have V2:=yq (fun w=>dL bn bd w i3.1 i3.2 i4.1 i4.2);by_cases hv:(aL an ad&&aL bn bd)=true
 case neg=>
  have e:rW an ad bn bd=(0,0,1):=by unfold rW;rw [if_neg hv]
  rw [e];exact OZ an ad bn bd _ _ w (Bool.eq_false_iff.2 hv) V1 V2
 have hva:=(Bool.and_eq_true_iff.1 hv).1;have hvb:=(Bool.and_eq_true_iff.1 hv).2;have e:rW an ad bn bd=tN (decide (an<0)!=decide (bn<0)) an.natAbs ad.natAbs bn.natAbs bd.natAbs:=by unfold rW;rw [if_pos hv];try rfl
 rw [e];rw [hva]at V1;rw [hvb]at V2;have b1:=aG hva;have b2:=aG hvb;obtain⟨neg,hc,hz⟩:=Gm an bn;rw [<-wM (b:=neg) hz];exact IP an ad bn bd _ _ _ _ _ _ _ neg w rfl rfl rfl rfl hc V1 V2 (fun n h w=>jX n w h.1 h.2) i1 i2 i3 i4 (fun w=>nN neg an.natAbs ad.natAbs bn.natAbs bd.natAbs w zb zb zb zb zb zb)
theorem NF(an ad bn bd:Int)(w:World)(hi:mK an ad bn bd):Calls prog 142 #[.agg #[.int .i64 an,.int .i64 ad],.agg #[.int .i64 bn,.int .i64 bd]] w fun e w'=>e= .returned (frV (rY an ad bn bd))/\w.Grows w':=by
 obtain⟨i1,i2,i3,i4⟩:=hi;have V1:=yq (fun w=>dL an ad w i1.1 i1.2 i2.1 i2.2);have V2:=yq (fun w=>dL bn bd w i3.1 i3.2 i4.1 i4.2);by_cases hv:(aL an ad&&aL bn bd)=true
 case neg=>
  have e:rY an ad bn bd=(0,0,1):=by unfold rY;rw [if_neg hv]
  rw [e];exact P5 an ad bn bd _ _ w (Bool.eq_false_iff.2 hv) V1 V2
 have hva:=(Bool.and_eq_true_iff.1 hv).1;have hvb:=(Bool.and_eq_true_iff.1 hv).2;have e:rY an ad bn bd=(if bn=0 then(0,0,3)else tN (decide (an<0)!=decide (bn<0)) an.natAbs ad.natAbs bd.natAbs bn.natAbs):=by unfold rY;rw [if_pos hv];try rfl
 rw [e];rw [hva]at V1;rw [hvb]at V2;have b1:=aG hva;have b2:=aG hvb;by_cases h0:bn=0
 ·subst h0;rw [if_pos rfl];exact JF an ad bd w V1 V2
 rw [if_neg h0];obtain⟨neg,hc,hz⟩:=Gm an bn
 have hz':an.natAbs=0\/bd.natAbs=0\/neg=(decide (an<0)!=decide (bn<0)):=by
  rcases hz with h|h|h
  ·exact .inl h
  ·omega
  ·exact .inr (.inr h)
 rw [<-wM (b:=neg) hz'];exact JG an ad bn bd _ _ _ _ _ _ _ neg w rfl rfl rfl rfl hc (by simpa using h0) V1 V2 (fun n h w=>jX n w h.1 h.2) i1 i2 i3 i4 (fun w=>nN neg an.natAbs ad.natAbs bd.natAbs bn.natAbs w zb zb zb zb zb zb)
theorem Dm{an bd:Int}(h1:-1000000000000000<=an)(h2:an<=1000000000000000)(h3:1<=bd)(h4:bd<=1000000000):an.natAbs*bd.natAbs<=1000000000000000000000000:=
 Nat.le_trans (Nat.mul_le_mul (show an.natAbs<=1000000000000000 by omega) (show bd.natAbs<=1000000000 by omega)) zf
theorem P8{ad bd:Int}(h1:1<=ad)(h2:ad<=1000000000)(h3:1<=bd)(h4:bd<=1000000000):0<ad.natAbs*bd.natAbs/\ad.natAbs*bd.natAbs<=1000000000000000000:=
 ⟨Nat.mul_pos zb zb,Nat.le_trans (Nat.mul_le_mul (show ad.natAbs<=1000000000 by omega) (show bd.natAbs<=1000000000 by omega)) zf⟩
theorem Jn{n:Nat}(h:n<18446744073709551616):hiW n=0:=by unfold hiW;omega
theorem I6{n:Nat}(h:n<18446744073709551616):loW n=(n:Int):=by unfold loW;omega
def Bb(neg:Bool)(N D:Nat):Int × Int × Int:=(kN neg N D,nZ N D,lI N D)
theorem vB{b c:Bool}{N D:Nat}(h:N=0\/b=c):Bb b N D=Bb c N D:=by unfold Bb;rw [LK h]
theorem O6(neg:Bool)(N D:Nat)(hD:D<=1000000000000000000):vK neg (hiW (N / Nat.gcd N D)) (loW (N / Nat.gcd N D)) 0 ((D / Nat.gcd N D:Nat):Int)=frV (Bb neg N D):=by
 have h:=GD neg (N / Nat.gcd N D) (D / Nat.gcd N D);have h2:D / Nat.gcd N D<=D:=Nat.div_le_self _ _;have e1:hiW (D / Nat.gcd N D)=0:=Jn zb;have e2:loW (D / Nat.gcd N D)=((D / Nat.gcd N D:Nat):Int):=I6 zb;rw [e1,e2]at h;rw [h];unfold Bb kN nZ lI
 split<;>rfl
theorem uQ{ad bd:Int}{D:Nat}(h:ad.natAbs*bd.natAbs=D)(hD:D<=1000000000000000000):IntKind.u64.wrap (aO ad*aO bd)=(D:Int):=by
 have e:aO ad*aO bd=(D:Int):=by rw [G5,G5,<-Int.natCast_mul,h]
 rw [e];exact IntWalk.u64_in _ zb
theorem Sr(neg:Bool)(N D:Nat)(hN:N<=1000000000000000000000000000)(hD0:0<D)(hD:D<=1000000000000000000) :
 (hiW N=0->loW N=0->Bb neg N D=(0,1,0))/\
 (∀w,Calls prog 183 #[.bool neg,.agg #[.int .u64 (hiW (N / Nat.gcd N D)),.int .u64 (loW (N / Nat.gcd N D))],.agg #[.int .u64 0,.int .u64 (D / Nat.gcd N D:Nat)]] w fun e w'=>e= .returned (frV (Bb neg N D))/\w.Grows w')/\
 (∀w,Calls prog 184 #[.agg #[.int .u64 (hiW N),.int .u64 (loW N)],.int .u64 (Nat.gcd N D:Nat)] w fun e w'=>e= .returned (.agg #[.int .u64 (hiW (N / Nat.gcd N D)),.int .u64 (loW (N / Nat.gcd N D))])/\w.Grows w')/\
 (∀w,Calls prog 182 #[.int .u64 (hiW N),.int .u64 (loW N),.int .u64 (D:Nat)] w fun e w'=>e= .returned (.int .u64 (lT N D))/\w.Grows w')/\
 (∀w,Calls prog 181 #[.int .u64 (D:Nat),.int .u64 (lT N D)] w fun e w'=>e= .returned (.int .u64 (Nat.gcd N D:Nat))/\w.Grows w'):=by
 have hg:0<Nat.gcd N D:=Nat.gcd_pos_of_pos_right _ hD0;have hgd:Nat.gcd N D<=D:=Nat.gcd_le_right _ hD0;have hr:=Gd N D hD0;refine⟨fun h1 h2=>?_,fun w=>?_,fun w=>?_,fun w=>?_,fun w=>?_⟩
 ·have:N=0:=by unfold hiW at h1;unfold loW at h2;omega
  subst this;unfold Bb kN nZ lI;rw [Nat.gcd_zero_left,Nat.div_self hD0,Nat.zero_div];simp
 ·rw [<-O6 neg N D hD];exact qZ _ _ _ _ _ w (Av _).1 (Int.natCast_nonneg _)
 ·exact Iz N (Nat.gcd N D) w zb zb hg
 ·exact Kg N D w zb zb hD0
 ·have:=pO (D:Nat) (lT N D) w zb zb zb zb;rw [CL N D hD0]at this;exact Calls.quietD this
theorem DN(an ad bn bd:Int)(w:World)(hi:mK an ad bn bd):Calls prog 139 #[.agg #[.int .i64 an,.int .i64 ad],.agg #[.int .i64 bn,.int .i64 bd]] w fun e w'=>e= .returned (frV (pX an ad bn bd))/\w.Grows w':=by
 obtain⟨i1,i2,i3,i4⟩:=hi;have V1:=yq (fun w=>dL an ad w i1.1 i1.2 i2.1 i2.2);have V2:=yq (fun w=>dL bn bd w i3.1 i3.2 i4.1 i4.2);by_cases hv:(aL an ad&&aL bn bd)=true
 case neg=>
  have e:pX an ad bn bd=(0,0,1):=by unfold pX;rw [if_neg hv]
  rw [e];exact Qz an ad bn bd _ _ w (Bool.eq_false_iff.2 hv) V1 V2
 have hva:=(Bool.and_eq_true_iff.1 hv).1;have hvb:=(Bool.and_eq_true_iff.1 hv).2;have e:pX an ad bn bd=Bb (decide (jw an ad bn bd<0)) (jw an ad bn bd).natAbs (ad.natAbs*bd.natAbs):=by unfold pX;rw [if_pos hv];try rfl
 rw [e];rw [hva]at V1;rw [hvb]at V2;have b1:=aG hva;have b2:=aG hvb;have hD:=P8 b1.1 b1.2.1 b2.1 b2.2.1;have c1:=Dm (an:=an) (bd:=bd) b1.2.2.1 b1.2.2.2 b2.1 b2.2.1;have c2:=Dm (an:=bn) (bd:=ad) b2.2.2.1 b2.2.2.2 b1.1 b1.2.1;have Z:Hid _:=yq (fun n (h:I64 n) w=>jX n w h.1 h.2);have T1:Hid _:=yq (fun w=>mR gP i1 i4 w);have T2:Hid _:=yq (fun w=>mR gP i3 i2 w);have hg (N:Nat):0<Nat.gcd N (ad.natAbs*bd.natAbs)/\Nat.gcd N (ad.natAbs*bd.natAbs)<=ad.natAbs*bd.natAbs:=⟨Nat.gcd_pos_of_pos_right _ hD.1,Nat.gcd_le_right _ hD.1⟩
 have hq (N:Nat):IntKind.u64.wrap ((((ad.natAbs*bd.natAbs:Nat):Int)).tdiv (Nat.gcd N (ad.natAbs*bd.natAbs):Nat))=((ad.natAbs*bd.natAbs / Nat.gcd N (ad.natAbs*bd.natAbs):Nat):Int):=by
  have:=(hg N).1;rw [o7 zb zb zb,mi]
 have key (neg:Bool) (N:Nat) (hN:N<=2000000000000000000000000):=Sr neg N (ad.natAbs*bd.natAbs) zb hD.1 hD.2;have tr {a b:Int × Int × Int} (h:a=b):a.1=b.1/\a.2.1=b.2.1/\a.2.2=b.2.2:=by rw [h];exact⟨rfl,rfl,rfl⟩
 by_cases hs:decide (an<0)=decide (bn<0)
 ·obtain⟨e1,e2⟩:=Nq b1.1 b2.1 hs;rw [vB e2,e1];obtain⟨k1,k2,k3,k4,k5⟩:=key (decide (an<0)) (an.natAbs*bd.natAbs+bn.natAbs*ad.natAbs) zb;have g1:=hg (an.natAbs*bd.natAbs+bn.natAbs*ad.natAbs)
  exact Kb an ad bn bd _ _ _ _ _ _ _ _ _ _ _ _ _ _ _ _ _ w rfl rfl (by rw [hs];simp) V1 V2 Z i1 i2 i3 i4 T1 T2 (uQ rfl hD.2) zb zg (hq _)
   (fun w=>Ir _ _ w zb) (fun h1 h2=>tr (k1 h1 h2)) (fun _=>⟨k2,k3,k4,k5⟩)
 ·obtain⟨f1,f2⟩:=Nr b1.1 b2.1 hs;have L:=fun w=>qz (hiW (an.natAbs*bd.natAbs)) (loW (an.natAbs*bd.natAbs)) (hiW (bn.natAbs*ad.natAbs)) (loW (bn.natAbs*ad.natAbs)) w;rw [qh]at L;by_cases hl:an.natAbs*bd.natAbs<bn.natAbs*ad.natAbs
  ·obtain⟨e1,e2⟩:=f1 hl;rw [vB e2,e1];rw [decide_eq_true hl]at L;obtain⟨k1,k2,k3,k4,k5⟩:=key (!decide (an<0)) (bn.natAbs*ad.natAbs-an.natAbs*bd.natAbs) zb
   have hnn:decide (bn<0)=!decide (an<0):=by
    revert hs;cases decide (an<0)<;>cases decide (bn<0)<;>simp
   have g1:=hg (bn.natAbs*ad.natAbs-an.natAbs*bd.natAbs);rw [hnn]
   exact Ke an ad bn bd _ _ _ _ _ _ _ _ _ _ _ _ _ _ _ _ _ w rfl rfl (by simpa using hs) V1 V2 Z i1 i2 i3 i4 T1 T2 (uQ rfl hD.2) zb zg (hq _)
    L (fun w=>tZ _ _ w zb zb) (fun h1 h2=>tr (k1 h1 h2)) (fun _=>⟨k2,k3,k4,k5⟩)
  ·obtain⟨e1,e2⟩:=f2 zb;rw [vB e2,e1];rw [decide_eq_false hl]at L;obtain⟨k1,k2,k3,k4,k5⟩:=key (decide (an<0)) (an.natAbs*bd.natAbs-bn.natAbs*ad.natAbs) zb;have g1:=hg (an.natAbs*bd.natAbs-bn.natAbs*ad.natAbs)
   exact Kc an ad bn bd _ _ _ _ _ _ _ _ _ _ _ _ _ _ _ _ _ w rfl rfl (by simpa using hs) V1 V2 Z i1 i2 i3 i4 T1 T2 (uQ rfl hD.2) zb zg (hq _)
    L (fun w=>tZ _ _ w zb zb) (fun h1 h2=>tr (k1 h1 h2)) (fun _=>⟨k2,k3,k4,k5⟩)
theorem Ns(an ad bn bd:Int)(w:World)(hi:mK an ad bn bd):Calls prog 140 #[.agg #[.int .i64 an,.int .i64 ad],.agg #[.int .i64 bn,.int .i64 bd]] w fun e w'=>e= .returned (frV (sZ an ad bn bd))/\w.Grows w':=by
 obtain⟨i1,i2,i3,i4⟩:=hi;have N:=yq (fun w=>DF bn bd w i3.1 i3.2 i4.1 i4.2);by_cases hv:aL bn bd=true
 ·have b2:=aG hv;have e0:sZ an ad bn bd=pX an ad (-bn) bd:=by unfold sZ;rw [if_pos hv]
  have e1:nW bn bd=(-bn,bd,0):=by unfold nW;rw [if_pos hv]
  have A:=yq (fun w=>DN an ad (-bn) bd w ⟨i1,i2,by unfold I64;omega,i4⟩);rw [e1]at N;rw [e0];generalize pX an ad (-bn) bd=r at *;obtain⟨r1,r2,r3⟩:=r;clear e0 e1 hv;unfold frV at N A;generalize -bn=c at *
  go_enter func140,ntmps140
  go_wp2_with (first|(go_at_call 137;(with_reducible refine gv (N.out _) ?_);intro bs dr)|(go_at_call 139;(with_reducible refine gv (A.out _) ?_);intro bs2 dr2))
  exact Pj
 ·have e0:sZ an ad bn bd=(0,0,1):=by unfold sZ;rw [if_neg hv]
  have e1:nW bn bd=(0,0,1):=by unfold nW;rw [if_neg hv]
  rw [e1]at N;rw [e0];clear e0 e1 hv;unfold frV at N
  go_enter func140,ntmps140
  go_wp2_with (go_at_call 137;(with_reducible refine gv (N.out _) ?_);intro bs dr)
  exact Pj
def Vw.ds(v:Vw):List Int:=[v.insured,v.worked,v.voluntary,v.service,v.equated,v.raising,v.resident]
theorem Cw{k:Nat}(h:k<11):1<=lJ.getD k 0/\lJ.getD k 0<=4:=by
 have key:∀k,k<11->(1:Int)<=lJ.getD k 0/\lJ.getD k 0<=4:=by decide
 exact key k h
end Go.Proofs.YtfoefpoaomepbaaGreatDoor
