import Derived.Test.YtlheailebbngiaaGreatDoorRDcC
import Derived.Test.YtlheailebbngiaaGreatDoorRTyR
import Derived.Lib.ItoaLen
set_option linter.all false
set_option maxHeartbeats 16000000
set_option maxRecDepth 1000000
namespace Go.Proofs.YtlheailebbngiaaGreatDoor
open Tryz List
open Go.RowKit
def jU(n d m:Int)(w:World)(e:Ending)(w':World):Prop:=∃s,e= .returned (.tuple #[.string s,.bool (dL n d m)])/\(dL n d m=true->s.data.toList=FM n d m)/\w.Grows w'
theorem jU.no{n d m:Int}{w w':World}(h:dL n d m=false)(hw:w.Grows w'):jU n d m w (.returned (.tuple #[.string ⟨#[]⟩,.bool false])) w':=
 ⟨⟨#[]⟩,by rw [h],fun k=>(by rw [h]at k;cases k),hw⟩
theorem jU.yes{n d m:Int}{w w':World}{s:ByteArray}(h:dL n d m=true)(hs:s.data.toList=FM n d m)(hw:w.Grows w'):jU n d m w (.returned (.tuple #[.string s,.bool true])) w':=
 ⟨s,by rw [h],fun _=>hs,hw⟩
def sD(n d:Int)(k:Nat)(l:List Int)(r:Int)(s:ByteArray):Prop:=
 gI d 4 (n % d)=(gI d (4-k) r).map (l++ ·)/\l.length=k/\s.data.toList=Lib.decDigits (n / d).toNat++mI l
theorem Ik{l:List Int}(h:l≠[])(x:Int):mI (l++[x])=mI l++[dgB x]:=by
 unfold mI;rw [if_neg h,if_neg zg];simp
theorem KT(x:Int):mI [x]= [46,dgB x]:=by unfold mI;rw [if_neg zg];rfl
theorem Ew{x:Int}(h0:0<=x)(h1:x<=9):Lib.decDigits x.toNat= [dgB x]:=by
 rw [Lib.decDigits,dif_pos ze];rfl
theorem mO(a b:ByteArray):(a++b).data.toList=a.data.toList++b.data.toList:=by
 rw [ByteArray.data_append,Array.toList_append]
theorem xx{d:Int}{f:Nat}{r:Int}(h:0<r):gI d (f+1) r=(gI d f (r*10 % d)).map fun l=>r*10 / d::l:=by
 rw [gI,if_neg ze]
theorem sD.first{n d r:Int}{s:ByteArray}(h:sD n d 0 [] r s)(hr:0<r)(h0:0<=r*10 / d)(h1:r*10 / d<=9):sD n d 1 [r*10 / d] (r*10 % d) (s++⟨#[46]⟩++⟨(Lib.decDigits (r*10 / d).toNat).toArray⟩):=by
 obtain⟨a,-,c⟩:=h;refine⟨?_,rfl, ?_⟩
 ·rw [a,show 4-0=3+1 by rfl,xx hr];cases gI d 3 (r*10 % d)<;>rfl
 ·rw [mO,mO,c,Ew h0 h1,KT];simp [mI]
theorem sD.more{n d r:Int}{s:ByteArray}{k:Nat}{l:List Int}(h:sD n d k l r s)(hk:0<k)(hk4:k<4)(hr:0<r)(h0:0<=r*10 / d)(h1:r*10 / d<=9) :
 sD n d (k+1) (l++[r*10 / d]) (r*10 % d) (s++⟨(Lib.decDigits (r*10 / d).toNat).toArray⟩):=by
 obtain⟨a,b,c⟩:=h;refine⟨?_,by simp [b], ?_⟩
 ·rw [a,show 4-k=(4-(k+1))+1 by omega,xx hr];cases gI d (4-(k+1)) (r*10 % d)<;>simp
 ·rw [mO,c,Ew h0 h1,Ik (by intro e;rw [e]at b;simp at b;omega),append_assoc]
theorem sD.none4{n d r:Int}{s:ByteArray}{l:List Int}(h:sD n d 4 l r s)(hr:0<r):gI d 4 (n % d)=none:=by
 rw [h.1];show(gI d 0 r).map _=none;rw [gI,if_neg ze];rfl
theorem sD.some{n d r:Int}{s:ByteArray}{k:Nat}{l:List Int}(h:sD n d k l r s)(hr:r<=0):gI d 4 (n % d)=some l:=by
 rw [h.1]
 have:gI d (4-k) r=Option.some []:=by
  cases 4-k with
  |zero=>rw [gI,if_pos hr]
  |succ f=>rw [gI,if_pos hr]
 rw [this];simp
theorem yY{s:ByteArray}{n d m:Int}{l:List Int}(h1:1<=d)(h2:d<=10000)(h3:0<=n)(h4:n<=1000000000000000)(hf:gI d 4 (n % d)=some l)(hs:s.data.toList=Lib.decDigits (n / d).toNat++mI l++xO m) :
 (qO s.data.toList=none/\dL n d m=false)\/∃a b c,qO s.data.toList=some (a,b,c)/\((a=n/\b=d/\c=m/\dL n d m=true/\s.data.toList=FM n d m)\/(a≠n/\dL n d m=false)\/(b≠d/\dL n d m=false)\/(c≠m/\dL n d m=false)):=by
 have hr:=Iz (m:=m) h1 h2 h3 h4 hf;rw [<-hs]at hr
 cases hd:qO s.data.toList with
 |none=>
  left;refine⟨rfl, ?_⟩;rw [Bool.eq_false_iff];intro k;have:=hr.2 k;rw [hd]at this;cases this
 |some t=>
  right;obtain⟨a,b,c⟩:=t;refine⟨a,b,c,rfl, ?_⟩;by_cases e1:a=n
  ·by_cases e2:b=d
   ·by_cases e3:c=m
    ·left;refine⟨e1,e2,e3,hr.1 (by rw [hd,e1,e2,e3]), ?_⟩;unfold FM;rw [hf];exact hs
    ·right;right;right;refine⟨e3, ?_⟩;rw [Bool.eq_false_iff];intro k;have:=hr.2 k;rw [hd]at this;simp only [Option.some.injEq,Prod.mk.injEq]at this;exact e3 this.2.2
   ·right;right;left;refine⟨e2, ?_⟩;rw [Bool.eq_false_iff];intro k;have:=hr.2 k;rw [hd]at this;simp only [Option.some.injEq,Prod.mk.injEq]at this;exact e2 this.2.1
  ·right;left;refine⟨e1, ?_⟩;rw [Bool.eq_false_iff];intro k;have:=hr.2 k;rw [hd]at this;simp only [Option.some.injEq,Prod.mk.injEq]at this;exact e1 this.1
theorem oL(n d m:Int)(w:World)(h1:I64 n)(h2:I64 d)(h3:I64 m)(ht:Tab w):Calls prog 205 #[.agg #[.int .i64 n,.int .i64 d],.int .i64 m] w (jU n d m w):=by
 unfold I64 at h1 h2 h3;by_cases c1:d<1
 ·exact MJ
 by_cases c2:10000<d
 ·exact MJ
 by_cases c3:n<0
 ·exact MJ
 by_cases c4:(1000000000000000:Int)<n
 ·exact MJ
 have d0:1<=d:=by omega
 have d1:d<=10000:=by omega
 have n0:0<=n:=by omega
 have n1:n<=1000000000000000:=by omega
 clear c1 c2 c3 c4;have hq0:0<=n / d:=Int.ediv_nonneg n0 ze;have hq1:n / d<=n:=Int.ediv_le_self _ n0;have hr0:0<=n % d:=Int.emod_nonneg _ ze;have hr1:n % d<d:=Int.emod_lt_of_pos _ ze;have et:n.tdiv d=n / d:=Int.tdiv_eq_ediv_of_nonneg n0;have em:n.tmod d=n % d:=Int.tmod_eq_emod_of_nonneg n0;have dz:(d==0)=false:=by simp;omega
 have HT:=zh ht;have hi:Lib.itoa (n / d)=Lib.decDigits (n / d).toNat:=by unfold Lib.itoa;rw [if_neg ze]
 have HI:Hid (∀w,Tab w->Calls prog 211 #[.int .i64 (n / d)] w fun e w'=>e= .returned (.string ⟨(Lib.decDigits (n / d).toNat).toArray⟩)/\w.Grows w'):=zh (fun w h=>by
  have:=LP (n / d) ze ze w h
  rwa [hi]at this)
 have HS0:Hid (sD n d 0 [] (n % d) ⟨(Lib.decDigits (n / d).toNat).toArray⟩):=zh ⟨by show _=(gI d 4 (n % d)).map _;simp,rfl,by simp [mI]⟩
 have HZ0:Hid ((⟨(Lib.decDigits (n / d).toNat).toArray⟩:ByteArray).size<=20):=zh (by
  show(Lib.decDigits (n / d).toNat).toArray.size<=20;rw [size_toArray,Lib.decDigits_length]
  exact Lib.nDigits_le20 _ ze)
 clear hi ht;generalize(⟨(Lib.decDigits (n / d).toNat).toArray⟩:ByteArray)=s0 at *
 go_enter func205,ntmps205
 go_wp2_with (go_at_call 211;(with_reducible refine(HI.out _ (HT.out.alloc _)).mono ?_);rintro e w' ⟨rfl,bs,dr,rfl⟩)
 go_loopw [6,7,8] (fun v6 v7 v8 wr=>∃k:Nat,∃l:List Int,∃r:Int,∃s:ByteArray,k<=4/\v8= .int .i64 k/\v7= .int .i64 r/\v6= .string s/\0<=r/\r<d/\(s.size:Int)<=30+10*k/\Hid (sD n d k l r s)/\
  World.Grows (w.alloc (.cells #[.int .i64 n,.int .i64 d] 23)) wr) (fun _ _ v8 _=>5-(intOf v8).toNat)
 case atStart=>exact⟨0,[],_,_,by omega,rfl,rfl,rfl,hr0,hr1,by have:=HZ0.out;omega,HS0,.of_below ag⟩
 case round=>
  obtain⟨k,l,r,s,hk,rfl,rfl,rfl,r0,r1,hsz,HF,bs3,dr3,rfl⟩:=hrel;clear HI;by_cases hp:0<r
  ·have x0:0<=r*10 / d:=Int.ediv_nonneg ze ze
   have x1:r*10 / d<=9:=by
    have:r*10 / d<10:=Int.ediv_lt_of_lt_mul ze ze;omega
   have x2:0<=r*10 % d:=Int.emod_nonneg _ ze;have x3:r*10 % d<d:=Int.emod_lt_of_pos _ ze;have x4:(r*10).tdiv d=r*10 / d:=Int.tdiv_eq_ediv_of_nonneg ze;have x5:(r*10).tmod d=r*10 % d:=Int.tmod_eq_emod_of_nonneg ze;have HX:Hid _:=zh (fun w=>EF (r*10 / d) x0 x1 w);have HXB:=zh (And.intro x0 x1);obtain⟨s9,hs9⟩:∃s9,(⟨(Lib.decDigits (r*10 / d).toNat).toArray⟩:ByteArray)=s9:=⟨_,rfl⟩;have hz9:s9.size=1:=by rw [<-hs9,Ew x0 x1];rfl
   rw [hs9]at HX;have HS9:=zh hs9;clear hs9;by_cases k0:k=0
   ·subst k0;have hl:l= []:=eq_nil_of_length_eq_zero HF.out.2.1;subst hl
    go_wp2_with (go_at_call 211;(with_reducible refine(HX.out _).mono ?_);rintro e w' ⟨rfl,rfl⟩)
    go_roundw
    case rel=>exact⟨1,_,_,_,by omega,rfl,rfl,rfl,x2,x3,by
     rw [ByteArray.size_append,ByteArray.size_append,hz9];show((s.size+1+1:Nat):Int)<=_
     simp at hsz ⊢;omega,zh (by rw [<-HS9.out];exact HF.out.first hp HXB.out.1 HXB.out.2),.of_below ag⟩
    case measure=>simp [intOf]
   ·by_cases k4:k=4
    ·subst k4;have HN:=zh (IA (m:=m) d0 d1 n0 n1 (HF.out.none4 hp))
     go_wp2_with fail
     go_returns
     exact jU.no HN.out (.of_below ag)
    ·have kz:((k:Int)==0)=false:=by simp;omega
     have k44:((k:Int)==4)=false:=by simp;omega
     go_wp2_with (go_at_call 211;(with_reducible refine(HX.out _).mono ?_);rintro e w' ⟨rfl,rfl⟩)
     go_roundw
     case rel=>exact⟨k+1,_,_,_,by omega,by go_num,rfl,rfl,x2,x3,by
      rw [ByteArray.size_append,hz9];omega,zh (by rw [<-HS9.out];exact HF.out.more ze ze hp HXB.out.1 HXB.out.2),.of_below ag⟩
     case measure=>simp [intOf];omega
  ·clear HS0 HZ0;have hsz2:(s.size:Int)<=70:=by omega
   by_cases m3:m=3
   ·subst m3;have HDEC:=zh (yY (m:=3) (s:=s++⟨#[100]⟩) d0 d1 n0 n1 (HF.out.some ze) (by rw [mO,HF.out.2.2];try rfl));have HD:Hid _:=zh (fun w=>lG (s++⟨#[100]⟩) w (by rw [ByteArray.size_append];unfold maxLen;show s.size+1<=_;omega));clear HF;rcases HDEC.out with ⟨hn,hno⟩|⟨a,b,c,hs,⟨rfl,rfl,rfl,hy,ht⟩|⟨h1,hno⟩|⟨h1,hno⟩|⟨h1,hno⟩⟩
    ·exact Ps
    ·exact PD
    ·exact Pz
    ·exact Py
    ·rw [hs]at HD;simp only [mM]at HD;have HO:=zh hno;have q1:(c==3)=false:=by simpa using h1
     exact MK
   ·by_cases m4:m=4
    ·subst m4;have HDEC:=zh (yY (m:=4) (s:=s++⟨#[109]⟩) d0 d1 n0 n1 (HF.out.some ze) (by rw [mO,HF.out.2.2];try rfl));have HD:Hid _:=zh (fun w=>lG (s++⟨#[109]⟩) w (by rw [ByteArray.size_append];unfold maxLen;show s.size+1<=_;omega));clear HF;rcases HDEC.out with ⟨hn,hno⟩|⟨a,b,c,hs,⟨rfl,rfl,rfl,hy,ht⟩|⟨h1,hno⟩|⟨h1,hno⟩|⟨h1,hno⟩⟩
     ·exact Ps
     ·exact PD
     ·exact Pz
     ·exact Py
     ·rw [hs]at HD;simp only [mM]at HD;have HO:=zh hno;have q1:(c==4)=false:=by simpa using h1
      exact MK
    ·have y3:(m==3)=false:=by simpa using m3
     have y4:(m==4)=false:=by simpa using m4
     have hsuf:xO m= []:=by unfold xO;rw [if_neg m3,if_neg m4]
     have hap:s.data.toList=s.data.toList++xO m:=by rw [hsuf,append_nil]
     have HAP:=zh hap;clear m3 m4 hsuf hap;have HDEC:=zh (yY (m:=m) (s:=s) d0 d1 n0 n1 (HF.out.some ze) (by rw [HAP.out,HF.out.2.2];try rfl));have HD:Hid _:=zh (fun w=>lG (s) w zE);clear HF;rcases HDEC.out with ⟨hn,hno⟩|⟨a,b,c,hs,⟨rfl,rfl,rfl,hy,ht⟩|⟨h1,hno⟩|⟨h1,hno⟩|⟨h1,hno⟩⟩
     ·exact Ps
     ·exact PD
     ·exact Pz
     ·exact Py
     ·rw [hs]at HD;simp only [mM]at HD;have HO:=zh hno;have q1:(c==m)=false:=by simpa using h1
      exact MK
def ib(e:Ex):Bool:=decide ((e.args.length:Int)=bi e.op)&&
 (if e.op=1 then dL e.num e.den e.dim&&e.name.toList.isEmpty
  else if e.op=2 then decide (e.num=0)&&decide (e.den=0)&&decide (e.dim=0)&&fe e.name
  else if e.op=3 then decide (e.dim=0)&&e.name.toList.isEmpty&&decide (e.den=1)&&decide (1<=e.num)&&decide (e.num<=45)
  else decide (e.num=0)&&decide (e.den=0)&&decide (e.dim=0)&&e.name.toList.isEmpty)
theorem BR(e:Ex):aN e=(ib e&&aZ e.args):=by
 rw [eX];unfold ib;by_cases hl:(e.args.length:Int)=bi e.op
 ·rw [decide_eq_true hl,Bool.true_and,Bool.true_and]
  have nil (h:e.op=1\/e.op=2\/e.op=3):aZ e.args=true:=by
   have:e.args= []:=by
    have h0:bi e.op=0:=by unfold bi;rw [if_pos ze]
    exact eq_nil_of_length_eq_zero ze
   rw [this];rfl
  by_cases o1:e.op=1
  ·rw [if_pos o1,if_pos o1,nil (.inl o1),Bool.and_true]
  ·rw [if_neg o1,if_neg o1];by_cases o2:e.op=2
   ·rw [if_pos o2,if_pos o2,nil (.inr (.inl o2)),Bool.and_true]
   ·rw [if_neg o2,if_neg o2];by_cases o3:e.op=3
    ·rw [if_pos o3,if_pos o3,nil (.inr (.inr o3)),Bool.and_true]
    ·rw [if_neg o3,if_neg o3,Bool.and_comm]
 ·rw [decide_eq_false hl];rfl
theorem BP(l:List Ex):aZ l=!(List.range l.length).any fun k=>!aN (l.getD k default):=by
 induction l with
 |nil=>rfl
 |cons e r ih=>
  rw [aZ,ih,length_cons,range_succ_eq_map,any_cons,any_map];simp only [getD_cons_zero,Bool.not_or,Bool.not_not]
  congr 1
theorem Gv(e:Ex)(a:Option Addr)(cap:Nat)(w:World)(hr:kU e)(hne:¬(e.args.length:Int)=bi e.op):(Calls prog 179 #[exV e (.slice a e.args.length cap)] w fun r w'=>r= .returned (.bool (ib e))/\w.Grows w'):=by
 have HF:Hid (ib e=false):=zh (by unfold ib;rw [decide_eq_false hne,Bool.false_and]);obtain⟨on,od⟩:=hr.num;obtain⟨pn,pd⟩:=hr.den;have hsz:=hr.name;have hi:=zh (And.intro hr.num (And.intro hr.den hr.dim));clear hr;have h1:((e.args.length:Int)!=bi e.op)=true:=by simpa using hne
 clear hne
 go_enter func179,ntmps179
 go_wp2_with fail
 go_quiet ((go_at_call 204;exact Calls.quiet_eq (jO _ _)))
 exact PH
theorem Gu(e:Ex)(a:Option Addr)(cap:Nat)(w:World)(hr:kU e)(ht:Tab w)(hle:(e.args.length:Int)=bi e.op)(ho:e.op=1):(Calls prog 179 #[exV e (.slice a e.args.length cap)] w fun r w'=>r= .returned (.bool (ib e))/\w.Grows w'):=by
 have HF:Hid (ib e=(dL e.num e.den e.dim&&e.name.toList.isEmpty)):=zh (by unfold ib;rw [decide_eq_true hle,Bool.true_and,if_pos ho]);obtain⟨on,od⟩:=hr.num;obtain⟨pn,pd⟩:=hr.den;have hsz:=hr.name;have hi:=zh (And.intro hr.num (And.intro hr.den hr.dim));clear hr;have HT:=zh ht;clear ht;have h1:((e.args.length:Int)!=bi 1)=false:=by rw [ho]at hle;simpa using hle
 clear hle;cases hd:dL e.num e.den e.dim
 all_goals
  have HD:Hid _:=zh (fun w (ht:Tab w)=>oL e.num e.den e.dim w hi.out.1 hi.out.2.1 hi.out.2.2 ht);unfold jU at HD;rw [hd]at HD HF;clear hd
  go_enter func179,ntmps179
  go_wp2_with fail
  go_quiet ((go_at_call 204;exact Calls.quiet_eq (jO _ _)))
  go_wp2_with (go_at_call 205;refine(HD.out _ ((HT.out.alloc _).drewN _)).mono ?_;rintro e' w' ⟨s,rfl,-,bs,d,rfl⟩)
  all_goals
   go_returns
   exact⟨au (by rw [HF.out];simp [*]),.of_below ag⟩
theorem Du(e:Ex)(a:Option Addr)(cap:Nat)(w:World)(hr:kU e)(hle:(e.args.length:Int)=bi e.op)(ho:e.op=2):(Calls prog 179 #[exV e (.slice a e.args.length cap)] w fun r w'=>r= .returned (.bool (ib e))/\w.Grows w'):=by
 have HF:Hid (ib e=(decide (e.num=0)&&decide (e.den=0)&&decide (e.dim=0)&&fe e.name)):=zh (by unfold ib;rw [decide_eq_true hle,Bool.true_and,if_neg ze,if_pos ho]);obtain⟨on,od⟩:=hr.num;obtain⟨pn,pd⟩:=hr.den;have hsz:=hr.name;have hi:=zh (And.intro hr.num (And.intro hr.den hr.dim));clear hr;have h1:((e.args.length:Int)!=bi 2)=false:=by rw [ho]at hle;simpa using hle
 clear hle;have HM:=zh (show e.name.size<=maxLen by unfold maxLen;omega)
 go_enter func179,ntmps179
 go_wp2_with fail
 go_quiet ((go_at_call 204;exact Calls.quiet_eq (jO _ _)))
 go_wp2_with (go_at_call 206;refine(Bj _ _ HM.out).mono ?_;rintro e' w' ⟨rfl,rfl⟩)
 all_goals
  go_returns
  exact⟨au (by rw [HF.out];first|(simp [*];done)|(simp [*];rfl)),.of_below ag⟩
theorem Dv(e:Ex)(a:Option Addr)(cap:Nat)(w:World)(hr:kU e)(hle:(e.args.length:Int)=bi e.op)(ho:e.op=3):(Calls prog 179 #[exV e (.slice a e.args.length cap)] w fun r w'=>r= .returned (.bool (ib e))/\w.Grows w'):=by
 have HF:Hid (ib e=(decide (e.dim=0)&&e.name.toList.isEmpty&&decide (e.den=1)&&decide (1<=e.num)&&decide (e.num<=45))):=zh (by unfold ib;rw [decide_eq_true hle,Bool.true_and,if_neg ze,if_neg ze,if_pos ho]);obtain⟨on,od⟩:=hr.num;obtain⟨pn,pd⟩:=hr.den;have hsz:=hr.name;have hi:=zh (And.intro hr.num (And.intro hr.den hr.dim));clear hr;have h1:((e.args.length:Int)!=bi 3)=false:=by rw [ho]at hle;simpa using hle
 clear hle
 go_enter func179,ntmps179
 go_wp2_with fail
 go_quiet ((go_at_call 204;exact Calls.quiet_eq (jO _ _)))
 go_wp2_with fail
 all_goals
  go_returns
  exact⟨au (by rw [HF.out];first|(simp [*];done)|(simp [*];rfl)|(simp [*];intros;omega)),.of_below ag⟩
theorem Kb(e:Ex)(a:Option Addr)(cap:Nat)(w:World)(hr:kU e)(hle:(e.args.length:Int)=bi e.op)(o1:¬e.op=1)(o2:¬e.op=2)(o3:¬e.op=3):(Calls prog 179 #[exV e (.slice a e.args.length cap)] w fun r w'=>r= .returned (.bool (ib e))/\w.Grows w'):=by
 have HF:Hid (ib e=(decide (e.num=0)&&decide (e.den=0)&&decide (e.dim=0)&&e.name.toList.isEmpty)):=zh (by unfold ib;rw [decide_eq_true hle,Bool.true_and,if_neg o1,if_neg o2,if_neg o3]);obtain⟨on,od⟩:=hr.num;obtain⟨pn,pd⟩:=hr.den;have hsz:=hr.name;have hi:=zh (And.intro hr.num (And.intro hr.den hr.dim));clear hr;have h1:((e.args.length:Int)!=bi e.op)=false:=by simpa using hle
 have p1:(e.op==1)=false:=by simpa using o1
 have p2:(e.op==2)=false:=by simpa using o2
 have p3:(e.op==3)=false:=by simpa using o3
 clear hle o1 o2 o3
 go_enter func179,ntmps179
 go_wp2_with fail
 go_quiet ((go_at_call 204;exact Calls.quiet_eq (jO _ _)))
 go_wp2_with fail
 all_goals
  go_returns
  exact⟨au (by rw [HF.out];simp [*]),.of_below ag⟩
theorem Gw(e:Ex)(a:Option Addr)(cap:Nat)(w:World)(hr:kU e)(ht:Tab w):(Calls prog 179 #[exV e (.slice a e.args.length cap)] w fun r w'=>r= .returned (.bool (ib e))/\w.Grows w'):=by
 by_cases hle:(e.args.length:Int)=bi e.op
 ·by_cases o1:e.op=1
  ·exact Gu e a cap w hr ht hle o1
  ·by_cases o2:e.op=2
   ·exact Du e a cap w hr hle o2
   ·by_cases o3:e.op=3
    ·exact Dv e a cap w hr hle o3
    ·exact Kb e a cap w hr hle o1 o2 o3
 ·exact Gv e a cap w hr hle
theorem Hz:∀args w,(callFunc 180 args).run prog w= .ok (.enter 180 args) w:=enters_of func180 zf rfl
theorem Eh(S:Nat->Prop)(n:Nat):∀(e:Ex),e.size<=n->∀(v:Value) (w:World),aC S w e v->Tab w->
 Calls prog 136 #[exV e v] w fun r w'=>r= .returned (.bool (aN e))/\w.Grows w':=by
 induction n with
 |zero=>intro e he;have:=e.size_pos;omega
 |succ n ih=>
  intro e he v w h ht;have HR:=zh h;have HT:=zh ht;have HN:Hid (_):=zh (fun a cap w (ht:Tab w)=>Gw e a cap w h.rng ht);have hany:=BP e.args;have hfn:=BR e;obtain⟨a,cap,rfl⟩:=h.form0
  have HC:Hid (∀w',w.Grows w'->Calls prog 122 #[.slice a e.args.length cap,.func (.func 180) #[] #[]] w' fun r w''=>r= .returned (.bool (!aZ e.args))/\w'.Grows w''):=zh (fun w' hg=>by
   have:=nQ S 180 #[] Hz e (.slice a e.args.length cap) (fun k=>!aN (e.arg k)) w' (HR.out.grows hg) (zh (fun k hk ak ck w1 hg1 hR1=>by
    have hsm:=e.size_arg k hk;have IH:=zh (fun w2 h1 h2=>ih (e.arg k) ze (.slice ak (e.arg k).args.length ck) w2 h1 h2);have hT1:=zh ((HT.out.grows hg).grows hg1);have HR1:=zh hR1;dsimp only;generalize aN (e.arg k)=q at *;clear hany hfn HN HR HT hR1 ih hg hg1;generalize e.arg k=x at *;show Calls prog 180 #[exV x (.slice ak x.args.length ck)] w1 _
    go_enter func180,ntmps180
    go_wp2_with (go_at_call 136;refine(IH.out _ (HR1.out.alloc _) (hT1.out.alloc _)).mono ?_;rintro e' w' ⟨rfl,bs,d,rfl⟩)
    go_returns
    exact⟨au rfl,.of_below ag⟩))
   rw [show(List.range e.args.length).any (fun k=>!aN (e.arg k))=!aZ e.args by rw [hany,Bool.not_not];rfl]at this
   exact this)
  clear hany ih h ht;generalize aZ e.args=q at *;generalize ib e=p at *;have HF:=zh hfn;clear hfn;cases p
  ·go_enter func136,ntmps136
   go_wp2_with (go_at_call 179;refine(HN.out _ _ _ (HT.out.alloc _)).mono ?_;rintro e' w' ⟨rfl,bs,d,rfl⟩)
   go_returns
   exact⟨au (by rw [HF.out];rfl),.of_below ag⟩
  ·go_enter func136,ntmps136
   go_wp2_with (first|(go_at_call 179;refine(HN.out _ _ _ (HT.out.alloc _)).mono ?_;rintro e' w' ⟨rfl,bs,d,rfl⟩)|(go_at_call 122;refine(HC.out _ (.of_below ag)).mono ?_;rintro e' w' ⟨rfl,bs2,d2,rfl⟩))
   go_returns
   exact⟨au (by rw [HF.out];simp),.of_below ag⟩
theorem qI(S:Nat->Prop)(e:Ex)(v:Value)(w:World)(h:aC S w e v)(ht:Tab w):Calls prog 136 #[exV e v] w fun r w'=>r= .returned (.bool (aN e))/\w.Grows w':=Eh S e.size e (Nat.le_refl _) v w h ht
theorem mQ(S:Nat->Prop)(e:Ex)(v:Value)(w:World)(h:Hid (aC S w e v))(hbig:Hid (e.size<=2305843009213693952))(ht:Hid (Tab w)):Calls prog 108 #[exV e v] w fun r w'=>r= .returned (.bool (cZ e))/\w.Grows w':=by
 obtain⟨a,cap,hv⟩:=h.out.form0;subst hv;by_cases c1:(e.depth:Int)<=10
 ·by_cases c2:(e.size:Int)<=60
  ·go_enter func108,ntmps108
   go_wp2_with ((first|(go_at_call 134;refine(mW S e.size e (Nat.le_refl _) _ _ (h.out.alloc _) hbig).mono ?_;rintro r w' ⟨rfl,bs,d,rfl⟩)|(go_at_call 135;refine(oH S e.size e (Nat.le_refl _) _ _ ((h.out.alloc _).grow _ _) hbig).mono ?_;rintro r w' ⟨rfl,bs2,d2,rfl⟩)|(go_at_call 136;refine(qI S e _ _ ((h.out.alloc _).grow _ _) ((ht.out.alloc _).grow _ _)).mono ?_;rintro r w' ⟨rfl,bs3,d3,rfl⟩)))
   exact QK
  ·go_enter func108,ntmps108
   go_wp2_with ((first|(go_at_call 134;refine(mW S e.size e (Nat.le_refl _) _ _ (h.out.alloc _) hbig).mono ?_;rintro r w' ⟨rfl,bs,d,rfl⟩)|(go_at_call 135;refine(oH S e.size e (Nat.le_refl _) _ _ ((h.out.alloc _).grow _ _) hbig).mono ?_;rintro r w' ⟨rfl,bs2,d2,rfl⟩)|(go_at_call 136;refine(qI S e _ _ ((h.out.alloc _).grow _ _) ((ht.out.alloc _).grow _ _)).mono ?_;rintro r w' ⟨rfl,bs3,d3,rfl⟩)))
   exact QH
 ·go_enter func108,ntmps108
  go_wp2_with ((first|(go_at_call 134;refine(mW S e.size e (Nat.le_refl _) _ _ (h.out.alloc _) hbig).mono ?_;rintro r w' ⟨rfl,bs,d,rfl⟩)|(go_at_call 135;refine(oH S e.size e (Nat.le_refl _) _ _ ((h.out.alloc _).grow _ _) hbig).mono ?_;rintro r w' ⟨rfl,bs2,d2,rfl⟩)|(go_at_call 136;refine(qI S e _ _ ((h.out.alloc _).grow _ _) ((ht.out.alloc _).grow _ _)).mono ?_;rintro r w' ⟨rfl,bs3,d3,rfl⟩)))
  exact QJ
def jl(r:Int × Int)(w:World)(e:Ending)(w':World):Prop:=e= .returned (.tuple #[.int .i64 r.1,.int .i64 r.2])/\w.Grows w'
theorem kN{r:Int × Int}{a b:Int}{w w':World}(h:r=(a,b))(hg:w.Grows w'):jl r w (.returned (.tuple #[.int .i64 a,.int .i64 b])) w':=by subst h;exact⟨rfl,hg⟩
theorem gQ{l:List Ex}(h:aZ l=true)(k:Nat)(hk:k<l.length):aN (l.getD k default)=true:=by
 by_cases hf:aN (l.getD k default)=true
 ·exact hf
 ·rw [rJ l k hk (by simpa using hf)]at h;cases h
theorem qH{e:Ex}(h:aN e=true)(h1:¬e.op=1)(h2:¬e.op=2)(h3:¬e.op=3):(e.args.length:Int)=bi e.op/\4<=e.op/\e.op<=21/\aZ e.args=true:=by
 rw [eX,Bool.and_eq_true,decide_eq_true_eq,if_neg h1,if_neg h2,if_neg h3,Bool.and_eq_true]at h;have hop:4<=e.op/\e.op<=21:=by have ha:=h.1;unfold bi at ha;(repeat' split at ha)<;>omega
 exact⟨h.1,hop.1,hop.2,h.2.1⟩
abbrev BA(env:List (ByteArray × Int))(e:Ex):Int:=(aD env e).1
abbrev pG(env:List (ByteArray × Int))(e:Ex):Int:=(aD env e).2
abbrev fI(env:List (ByteArray × Int))(e:Ex)(k:Nat):List Int:=(e.args.take k).map (BA env)
theorem uQ(env:List (ByteArray × Int))(e:Ex)(k:Nat)(hk:k<e.args.length):fI env e (k+1)=fI env e k++[BA env (e.arg k)]:=by
 unfold fI;rw [take_succ_eq_append_getElem hk,map_append]
 congr 1
 show [BA env e.args[k]]= [BA env (e.args.getD k default)];rw [getD_eq_getElem?_getD,getElem?_eq_getElem hk];rfl
theorem D9(env:List (ByteArray × Int))(e:Ex)(h1:¬e.op=1)(h2:¬e.op=2)(h3:¬e.op=3)(hok:∀j,j<e.args.length->pG env (e.arg j)=0) :
 aD env e=if ax e.op (fI env e e.args.length)=0 then(0,6)else(ax e.op (fI env e e.args.length),0):=by
 rw [iK,wX env e.args hok];unfold fA fI;rw [if_neg h1,if_neg h3,if_neg h2,if_neg zg,take_length]
theorem yP(env:List (ByteArray × Int))(e:Ex)(h1:¬e.op=1)(h2:¬e.op=2)(h3:¬e.op=3)(k:Nat)(hk:k<e.args.length)(hj:∀j,j<k->pG env (e.arg j)=0)(hb:pG env (e.arg k)≠0):aD env e=(0,pG env (e.arg k)):=by
 have:=uJ env e.args k hk hj hb;rw [iK];unfold fA;have hb2:(bf env e.args).2≠0:=by rw [this];exact hb
 rw [if_neg h1,if_neg h3,if_neg h2,if_pos hb2,this];rfl
theorem bL{w:World}{base:Nat}{e:TypeId}{size:Nat}{v:Value}{n:Nat}{xs:List Value}(h:w.ownsRow base e size v n xs){w':World}(hg:w.Grows w'):w'.ownsRow base e size v n xs:=
 ji h fun k _ hk=>hg.below.block k hk
theorem O5:(prog.info? 3).map (fun i=>(i.zero,i.size,i.bytes))=some (some (.int .i64 0),1,8):=by kernel_rfl
theorem mD(env:List (ByteArray × Int))(e:Ex)(a:Option Addr)(cap:Nat)(ve:Value)(w:World)(hv:aW w ve env)(ho:e.op=1\/e.op=2\/e.op=3):(Calls prog 111 #[exV e (.slice a e.args.length cap),ve] w (jl (aD env e) w)):=by
 have HV:=zh hv;obtain⟨-,ae,ce,rfl,-⟩:=hv;have HF:=zh (iK env e);unfold fA at HF;have HL:=zh (Bb env e.name);have HC:Hid (∀w',w.Grows w'->Calls prog 138 #[.string e.name,.slice ae env.length ce] w' (LkP env e.name w')):=zh (fun w' hg=>DR e.name env _ w' (HV.out.grows hg));unfold LkP at HC;rcases ho with ho|ho|ho
 ·go_enter func111,ntmps111
  go_wp2_with fail
  go_returns
  exact kN (by rw [HF.out,if_pos ho]) (.of_below ag)
 ·cases hb:(mg env e.name).2
  all_goals
   rw [hb]at HC;have HB:=zh hb;clear hb;generalize hm:(mg env e.name).1=m at HC;have HM:=zh hm;clear hm
   go_enter func111,ntmps111
   go_wp2_with (go_at_call 138;refine(HC.out _ (.of_below ag)).mono ?_;rintro e' w' ⟨rfl,bs,d,rfl⟩)
   go_returns
   exact kN (by rw [HF.out,if_neg ze,if_neg ze,if_pos ho,HL.out,HB.out];first|(rw [if_pos rfl,HM.out];done)|(rw [if_neg zg];done)) (.of_below ag)
 ·go_enter func111,ntmps111
  exact Qz
theorem Bz(S:Nat->Prop)(env:List (ByteArray × Int))(hE:gm env=true)(n:Nat):∀(e:Ex),e.size<=n->aN e=true->∀(v ve:Value) (w:World),aC S w e v->aW w ve env->
 Calls prog 111 #[exV e v,ve] w (jl (aD env e) w):=by
 induction n with
 |zero=>intro e he;have:=e.size_pos;omega
 |succ n ih=>
  intro e he hf v ve w h hv;have HR:=zh h;have HV:=zh hv;have hrng:=h.rng;obtain⟨a,cap,rfl⟩:=h.form0;by_cases h1:e.op=1
  ·exact mD env e a cap ve w hv (.inl h1)
  by_cases h2:e.op=2
  ·exact mD env e a cap ve w hv (.inr (.inl h2))
  by_cases h3:e.op=3
  ·exact mD env e a cap ve w hv (.inr (.inr h3))
  obtain⟨hal,ho4,ho21,hfs⟩:=qH hf h1 h2 h3;have hn3:e.args.length<=3/\1<=e.args.length:=by unfold bi at hal;(repeat' split at hal)<;>omega
  have HOK:=zh (D9 env e h1 h2 h3);have HBAD:=zh (yP env e h1 h2 h3);have HOP:=zh (And.intro hal (And.intro ho4 ho21))
  have IH:Hid (∀k,k<e.args.length->∀ak ck w',w.Grows w'->aC S w' (e.arg k) (.slice ak (e.arg k).args.length ck)->Calls prog 111 #[exV (e.arg k) (.slice ak (e.arg k).args.length ck),ve] w' (jl (aD env (e.arg k)) w')):=
   zh (fun k hk ak ck w' hg hr=>by
    have hsm:=e.size_arg k hk
    exact ih (e.arg k) ze (gQ hfs k hk) _ ve w' hr (HV.out.grows hg))
  have HDM:Hid (∀k,k<e.args.length->pG env (e.arg k)=0->1<=BA env (e.arg k)):=zh (fun k hk hc=>(qD hE (e.arg k) (gQ hfs k hk) hc).1);unfold jl at IH;obtain⟨-,ae,ce,rfl,-⟩:=hv;have p1:(e.op==1)=false:=by simpa using h1
  have p2:(e.op==2)=false:=by simpa using h2
  have p3:(e.op==3)=false:=by simpa using h3
  clear h ih hE hf hfs hal ho4 ho21 he h1 h2 h3;obtain⟨i0,hi,hz0,hz1,hz2⟩:=info_parts O5
  go_enter func111,ntmps111
  go_wp2_with fail
  go_loopw [8,38] (fun v8 v38 wr=>∃k:Nat,k<=e.args.length/\v38= .int .i64 k/\Hid (∀j,j<k->pG env (e.arg j)=0)/\Below (w.heap.size+1) (w.alloc (.cells #[.int .i64 e.op,.int .i64 e.num,.int .i64 e.den,.int .i64 e.dim,.string e.name,.slice a e.args.length cap] 51)) wr/\wr.ownsRow (w.heap.size+1) 3 1 v8 k ((fI env e k).map (Value.int .i64))) (fun _ v38 _=>e.args.length-(intOf v38).toNat)
  case atStart=>exact⟨0,by omega,rfl,zh (fun j hj=>by omega),.refl _ _,World.ownsRow_nil _ _ _ _⟩
  case round=>
   obtain⟨k,hk,rfl,hno,hB,hown⟩:=hrel;have hsW:w.heap.size+1<=wr.heap.size:=by have:=hB.size;simpa using this
   have hbox:wr.cell? ⟨w.heap.size,0,none⟩=some (.int .i64 e.op):=by
    rw [hB.cell (p:=⟨w.heap.size,0,none⟩) zg,World.cell?_alloc_at _ _ _ _ rfl];rfl
   have hG:w.Grows wr:=.of_below ((((Below.refl _ _).alloc (Nat.le_refl _) _)).trans (hB.mono ze));have HB:=zh hB;have HO:=zh hown;have HG:=zh hG;by_cases hlt:k<e.args.length
   ·have hRk:=HR.out.grows hG
    cases hRk with
    |mk _ _ _ vs hr hc hs=>
     rcases hc with h0|⟨b,off,rfl,-,hbw,hx⟩
     ·omega
     ·have hR:=hs k hlt;obtain⟨x0,x1,x2,x3,x4,x5⟩:=hx k hlt;obtain⟨ak,ck,hvk⟩:=hR.form0;rw [hvk]at x5 hR;have HRK:=zh hR;have hcall:=fun w' hg hg2=>IH.out k hlt ak ck w' hg (HRK.out.grows hg2);have HNX:=zh (uQ env e k hlt);have HKL:=zh hlt;have HBK:=zh (fun hj hb=>HBAD.out k hlt hj hb);have d1:(k:Int)<(e.args.length:Int):=by omega
      clear hx hs hr hvk hG hB hown hR;unfold exV at hcall;obtain⟨x,hxe⟩:∃x,e.arg k=x:=⟨_,rfl⟩;rw [hxe]at hcall x0 x1 x2 x3 x4 x5 HNX HBK;have HXE:=zh hxe;clear hxe;have HCL:=zh hcall;clear hcall;obtain⟨q,hq⟩:∃q,aD env x=q:=⟨_,rfl⟩;unfold pG at HBK;unfold BA at HNX;rw [hq]at HCL HBK HNX;have HQ:=zh hq;clear hq;obtain⟨qd,qc⟩:=q;dsimp only at HCL HBK HNX;by_cases hqc:qc=0
      ·subst hqc
       go_wp2_with (first
        |(go_at_call 111;refine(HCL.out _ (World.Grows.trans HG.out (.of_below ag)) (.of_below ag)).mono ?_;rintro e' w' ⟨rfl,bs,d,rfl⟩)
        |(at_builtin;refine wpList_append_own _ rfl _ _ 24 rfl (w.heap.size+1) 3 i0 (.int .i64 0) 1 8 underlying24 hi hz0 hz1 hz2 rfl zo _ _ _ rfl ((bL (HO.out.alloc _) ⟨bs,d,rfl⟩).alloc _) ⟨wr.heap.size+1+bs.size,0,none⟩ 1 1 [.int .i64 qd] rfl rfl ?c1 ?c2 ?c3 ?c4 ?c5 ?_))
       case c1=>exact aK _ [.int .i64 qd] _ _ zg
       case c2=>intro u hu;simp at hu;subst hu;rfl
       case c3=>unfold maxLen;omega
       case c4=>omega
       case c5=>simp;omega
       intro v' w1 hown' hgrow _;have HB1:=zh ((show Below (w.heap.size+1) (w.alloc (.cells #[.int .i64 e.op,.int .i64 e.num,.int .i64 e.den,.int .i64 e.dim,.string e.name,.slice (some ⟨b,off,none⟩) e.args.length cap] 51)) _ from by have:=HB.out;(exact ag)).grown hgrow zp (fun k hk=>(HO.out.lt k hk).1));have HO1:=zh hown';clear hown' hgrow
       go_wp2_with fail
       go_roundw
       case rel=>exact⟨k+1,HKL.out,by go_num,zh (fun j hj=>by
        by_cases ej:j=k
        ·subst ej;unfold pG;rw [HXE.out,HQ.out]
        ·exact hno.out j ze),HB1.out,by rw [HNX.out,map_append];simpa [fI]using HO1.out⟩
       case measure=>simp [intOf];have:=HKL.out;omega
      ·have hq1:(qc !=0)=true:=by simpa using hqc
       have HQC:=zh hqc;clear hqc
       go_wp2_with (go_at_call 111;refine(HCL.out _ (World.Grows.trans HG.out (.of_below ag)) (.of_below ag)).mono ?_;rintro e' w' ⟨rfl,bs,d,rfl⟩)
       go_returns
       exact kN (HBK.out hno.out HQC.out) (World.Grows.trans HG.out (.of_below ag))
   ·obtain rfl:k=e.args.length:=by omega
    have hd:=HOK.out hno.out;have hdl:(fI env e e.args.length).length=e.args.length:=by simp [fI]
    obtain⟨-,⟨_,h0⟩|⟨g,gc,cu,rfl,hbg,-⟩⟩:=hown
    ·omega
    have hres:=JW e.op (fI env e e.args.length) (w.heap.size+1) g gc wr HOP.out.2.1 HOP.out.2.2 (by rw [hdl];exact HOP.out.1) (fun y hy=>by
     obtain⟨t,ht,rfl⟩:=mem_map.1 hy;rw [take_length]at ht;obtain⟨j,hj,rfl⟩:=mem_iff_getElem.1 ht;have:=HDM.out j hj (hno.out j hj);unfold Ex.arg at this;rw [getD_eq_getElem?_getD,getElem?_eq_getElem hj]at this
     exact this) (by rw [hdl];exact HO.out)
    rw [hdl]at hres;obtain⟨R,hR⟩:∃R,ax e.op (fI env e e.args.length)=R:=⟨_,rfl⟩;rw [hR]at hres hd;have HD:=zh hd;unfold gq at hres;clear hB hG hR hd hdl;by_cases hR0:R=0
    ·subst hR0;have HRS:=zh hres;clear hres
     go_wp2_with (go_at_call 139;refine(HRS.out).mono ?_;rintro e' w' ⟨⟨m,rfl,-⟩,bs,d,rfl⟩)
     go_returns
     exact kN (by rw [HD.out];simp) (World.Grows.trans HG.out (.of_below ag))
    ·rw [decide_eq_true hR0]at hres;have HRS:=zh hres;have HR0:=zh hR0;clear hres hR0
     go_wp2_with (go_at_call 139;refine(HRS.out).mono ?_;rintro e' w' ⟨⟨m,rfl,hm⟩,bs,d,rfl⟩;obtain rfl:=hm HR0.out;clear hm)
     go_returns
     exact kN (by rw [HD.out,if_neg HR0.out]) (World.Grows.trans HG.out (.of_below ag))
theorem Ci(l:List (ByteArray × Int)):(List.range l.length).any (fun k=>!decide (1<=bdD l k/\bdD l k<=4))=!gm l:=by
 induction l with
 |nil=>rfl
 |cons p r ih=>
  rw [length_cons,range_succ_eq_map,any_cons,any_map];unfold gm at ih ⊢;rw [all_cons,Bool.not_and,<-ih];rfl
theorem gW{e:Ex}(h:cZ e=true):aN e=true:=by
 unfold cZ at h;simp only [Bool.and_eq_true]at h;first|exact h.2|exact h.1.2|exact h.1
theorem nD{env:List (ByteArray × Int)}{e:Ex}(h:cZ e=false\/gm env=false):aT env e=(0,1):=by
 unfold aT;rw [if_neg];rintro⟨h1,h2⟩;rcases h with h|h
 ·rw [h]at h1;cases h1
 ·rw [h]at h2;cases h2
theorem lq{env:List (ByteArray × Int)}{e:Ex}(h1:cZ e=true)(h2:gm env=true):aT env e=aD env e:=by
 unfold aT;rw [if_pos ⟨h1,h2⟩]
theorem oK(S:Nat->Prop)(env:List (ByteArray × Int))(e:Ex)(v ve:Value)(w:World)(h:aC S w e v)(hbig:e.size<=2305843009213693952)(ht:Tab w)(hv:aW w ve env) :
 Calls prog 67 #[exV e v,ve] w (jl (aT env e) w):=by
 have HR:=zh h;have HV:=zh hv;have HT:=zh ht;have hrng:=h.rng;obtain⟨a,cap,rfl⟩:=h.form0
 have HVE:Hid (∀w',w.Grows w'->Calls prog 108 #[exV e (.slice a e.args.length cap)] w' fun r w''=>r= .returned (.bool (cZ e))/\w'.Grows w''):=
  zh (fun w' hg=>mQ S e _ w' (zh (HR.out.grows hg)) (zh hbig) (zh (HT.out.grows hg)))
 have HCB:Hid (∀w',w.Grows w'->Calls prog 109 #[ve,.func (.func 110) #[] #[]] w' fun r w''=>r= .returned (.bool (!gm env))/\w'.Grows w''):=
  zh (fun w' hg=>by
   have:=nR 110 #[] IP env ve (fun k=>!decide (1<=bdD env k/\bdD env k<=4)) w' (HV.out.grows hg) (zh (fun k hk w2 h2=>Li _ _ w2));rw [Ci]at this
   exact this)
 obtain⟨-,ae,ce,rfl,-⟩:=hv;unfold exV at HVE
 cases hve:cZ e with
 |false=>
  have HF:=zh (nD (env:=env) (.inl hve));rw [hve]at HVE;clear h ht hve
  go_enter func67,ntmps67
  go_wp2_with (go_at_call 108;refine(HVE.out _ (.of_below ag)).mono ?_;rintro e' w' ⟨rfl,bs,d,rfl⟩)
  go_returns
  exact kN HF.out (.of_below ag)
 |true=>
  rw [hve]at HVE
  cases hde:gm env with
  |false=>
   have HF:=zh (nD (e:=e) (.inr hde));rw [hde]at HCB;clear h ht hve hde
   go_enter func67,ntmps67
   go_wp2_with (first
    |(go_at_call 108;refine(HVE.out _ (.of_below ag)).mono ?_;rintro e' w' ⟨rfl,bs,d,rfl⟩)
    |(go_at_call 109;refine(HCB.out _ (.of_below ag)).mono ?_;rintro e' w' ⟨rfl,bs2,d2,rfl⟩))
   go_returns
   exact kN HF.out (.of_below ag)
  |true=>
   have HF:=zh (lq hve hde);rw [hde]at HCB
   have HI:Hid (∀w',w.Grows w'->Calls prog 111 #[exV e (.slice a e.args.length cap),.slice ae env.length ce] w' (jl (aD env e) w')):=
    zh (fun w' hg=>Bz S env hde e.size e (Nat.le_refl _) (gW hve) _ _ w' (HR.out.grows hg) (HV.out.grows hg))
   unfold jl exV at HI;clear h ht hve hde;rw [HF.out];generalize aD env e=q at *
   go_enter func67,ntmps67
   go_wp2_with (first
    |(go_at_call 108;refine(HVE.out _ (.of_below ag)).mono ?_;rintro e' w' ⟨rfl,bs,d,rfl⟩)
    |(go_at_call 109;refine(HCB.out _ (.of_below ag)).mono ?_;rintro e' w' ⟨rfl,bs2,d2,rfl⟩)
    |(go_at_call 111;refine(HI.out _ (.of_below ag)).mono ?_;rintro e' w' ⟨rfl,bs3,d3,rfl⟩))
   go_returns
   exact kN rfl (.of_below ag)
theorem rH(env:List (ByteArray × Int))(e:Ex)(a:Option Addr)(cap:Nat)(ve:Value)(w:World)(hv:aW w ve env)(ho:e.op=1\/e.op=3):(Calls prog 119 #[exV e (.slice a e.args.length cap),ve] w (jl (aD env e) w)):=by
 obtain⟨-,ae,ce,rfl,-⟩:=hv;have HF:=zh (iK env e);unfold fA at HF;rcases ho with ho|ho
 ·go_enter func119,ntmps119
  go_wp2_with fail
  go_returns
  exact kN (by rw [HF.out,if_pos ho]) (.of_below ag)
 ·go_enter func119,ntmps119
  exact Qz
theorem Bw(env:List (ByteArray × Int))(e:Ex)(a:Option Addr)(cap:Nat)(ve:Value)(w:World)(hv:aW w ve env)(ho:e.op=2):(Calls prog 119 #[exV e (.slice a e.args.length cap),ve] w (jl (aD env e) w)):=by
 have HV:=zh hv;obtain⟨hl1000,ae,ce,rfl,-⟩:=hv;have HF:Hid (aD env e=eH env e.name):=zh (by rw [iK];unfold fA;rw [if_neg ze,if_neg ze,if_pos ho]);have HI:=zh (gM e.name);unfold eH at HF;have p1:(e.op==1)=false:=by rw [ho];rfl
 have p2:(e.op==2)=true:=by rw [ho];rfl
 have p3:(e.op==3)=false:=by rw [ho];rfl
 clear ho;by_cases hd:bV e.name.toList=0
 ·rw [if_neg ze]at HF;rw [hd]at HI;clear hd
  go_enter func119,ntmps119
  go_wp2_with (go_at_call 49;refine(HI.out _).mono ?_;rintro e' w' ⟨rfl,rfl⟩)
  go_loopw [8] (fun v8 wr=>∃k:Nat,k<=env.length/\v8= .int .i64 ((env.length:Int)-1-k)/\Hid (∀j,j<env.length->env.length<=j+k->bdN env j≠e.name)/\Below (w.heap.size+1) ((w.alloc (.cells #[.int .i64 e.op,.int .i64 e.num,.int .i64 e.den,.int .i64 e.dim,.string e.name,.slice a e.args.length cap] 51))) wr) (fun v8 _=>(intOf v8+1).toNat)
  case atStart=>exact⟨0,by omega,by simp,zh (fun j hj _=>by omega),.refl _ _⟩
  case round=>
   obtain⟨k,hk,rfl,hno,hB⟩:=hrel;have HB:=zh hB;have hG:w.Grows wr:=.of_below ((((Below.refl _ _).alloc (Nat.le_refl _) _)).trans (hB.mono ze));have HG:=zh hG
   have hbox:wr.cell? ⟨w.heap.size,4,none⟩=some (.string e.name):=by
    rw [hB.cell (p:=⟨w.heap.size,4,none⟩) zg,World.cell?_alloc_at _ _ _ _ rfl];rfl
   by_cases hlt:k<env.length
   ·obtain⟨-,a',c',hvv,hx⟩:=HV.out.grows hG;simp only [Value.slice.injEq,true_and]at hvv;obtain⟨rfl,rfl⟩:=hvv;rcases hx with h0|⟨b,off,rfl,hbw,hx⟩
    ·omega
    obtain⟨i,hi⟩:∃i:Nat,(env.length:Int)-1-k=i:=⟨env.length-1-k,by omega⟩;have hii:i<env.length:=by omega
    obtain⟨x0,x1⟩:=hx i hii;have d1:(i:Int)<(env.length:Int):=by omega
    have d0:(0:Int)<=(i:Int):=by omega
    rw [hi];have HIX:=zh (And.intro hi (And.intro hii hlt));have HSM:=zh (fun he hl=>jG env e.name i (ByteArray.empty,0) hii he hl);clear hx hi hii hlt hB hG;obtain⟨nk,hnk⟩:∃nk,bdN env i=nk:=⟨_,rfl⟩;obtain⟨dk,hdk⟩:∃dk,bdD env i=dk:=⟨_,rfl⟩;rw [hnk]at x0;rw [hdk]at x1;have HNK:=zh hnk;have HDK:=zh hdk;clear hnk hdk;by_cases he:nk=e.name
    ·have he2:(nk.toList==e.name.toList)=true:=by rw [he];simp
     have HE:=zh he;clear he
     go_wp2_with fail
     go_region
     go_wp2_with fail
     go_returns
     exact kN (by
      have:=HSM.out (by show bdN env i=e.name;rw [HNK.out];exact HE.out) (fun j h1 h2=>hno.out j h2 (by have:=HIX.out.1;omega));rw [HF.out,this];show(bdD env i,(0:Int))=_
      rw [HDK.out]) (World.Grows.trans HG.out (.of_below ag))
    ·have he2:(nk.toList==e.name.toList)=false:=by
      rw [beq_eq_false_iff_ne];exact fun h=>he (toList_inj h)
     have HE:=zh he;clear he
     go_wp2_with fail
     go_region
     go_wp2_with fail
     go_roundw
     case rel=>exact⟨k+1,HIX.out.2.2,by have:=HIX.out.1;first|(congr 1;omega)|(simp;omega),zh (fun j hj hjk=>by
      by_cases ej:j=i
      ·subst ej;rw [HNK.out];exact HE.out
      ·exact hno.out j hj (by have:=HIX.out.1;omega)),by have:=HB.out;(exact ag)⟩
     case measure=>first|(simp [intOf];done)|(simp [intOf];have:=HIX.out.2.2;omega)|(simp [intOf];have:=HIX.out.1;omega)
   ·obtain rfl:k=env.length:=by omega
    have hz:(env.length:Int)-1-env.length= -1:=by omega
    rw [hz];clear hz hB hG
    go_wp2_with fail
    go_returns
    exact kN (by
     have:=jH env e.name (ByteArray.empty,0) (fun j hj=>hno.out j hj ze)
     rw [HF.out,this]) (World.Grows.trans HG.out (.of_below ag))
 ·rw [if_pos hd]at HF;rw [decide_eq_true hd]at HI;clear hd;generalize bV e.name.toList=D at *
  go_enter func119,ntmps119
  go_wp2_with (go_at_call 49;refine(HI.out _).mono ?_;rintro e' w' ⟨rfl,rfl⟩)
  go_returns
  exact kN HF.out (.of_below ag)
theorem Bv(S:Nat->Prop)(env:List (ByteArray × Int))(hE:gm env=true)(n:Nat):∀(e:Ex),e.size<=n->aN e=true->∀(v ve:Value) (w:World),aC S w e v->aW w ve env->
 Calls prog 119 #[exV e v,ve] w (jl (aD env e) w):=by
 induction n with
 |zero=>intro e he;have:=e.size_pos;omega
 |succ n ih=>
  intro e he hf v ve w h hv;have HR:=zh h;have HV:=zh hv;have hrng:=h.rng;obtain⟨a,cap,rfl⟩:=h.form0;by_cases h1:e.op=1
  ·exact rH env e a cap ve w hv (.inl h1)
  by_cases h2:e.op=2
  ·exact Bw env e a cap ve w hv h2
  by_cases h3:e.op=3
  ·exact rH env e a cap ve w hv (.inr h3)
  obtain⟨hal,ho4,ho21,hfs⟩:=qH hf h1 h2 h3;have hn3:e.args.length<=3/\1<=e.args.length:=by unfold bi at hal;(repeat' split at hal)<;>omega
  have HOK:=zh (D9 env e h1 h2 h3);have HBAD:=zh (yP env e h1 h2 h3);have HOP:=zh (And.intro hal (And.intro ho4 ho21))
  have IH:Hid (∀k,k<e.args.length->∀ak ck w',w.Grows w'->aC S w' (e.arg k) (.slice ak (e.arg k).args.length ck)->Calls prog 119 #[exV (e.arg k) (.slice ak (e.arg k).args.length ck),ve] w' (jl (aD env (e.arg k)) w')):=
   zh (fun k hk ak ck w' hg hr=>by
    have hsm:=e.size_arg k hk
    exact ih (e.arg k) ze (gQ hfs k hk) _ ve w' hr (HV.out.grows hg))
  have HDM:Hid (∀k,k<e.args.length->pG env (e.arg k)=0->1<=BA env (e.arg k)):=zh (fun k hk hc=>(qD hE (e.arg k) (gQ hfs k hk) hc).1);unfold jl at IH;obtain⟨-,ae,ce,rfl,-⟩:=hv;have p1:(e.op==1)=false:=by simpa using h1
  have p2:(e.op==2)=false:=by simpa using h2
  have p3:(e.op==3)=false:=by simpa using h3
  clear h ih hE hf hfs hal ho4 ho21 he h1 h2 h3;obtain⟨i0,hi,hz0,hz1,hz2⟩:=info_parts O5
  go_enter func119,ntmps119
  go_wp2_with fail
  go_loopw [9,10] (fun v8 v38 wr=>∃k:Nat,k<=e.args.length/\v38= .int .i64 k/\Hid (∀j,j<k->pG env (e.arg j)=0)/\Below (w.heap.size+1) (w.alloc (.cells #[.int .i64 e.op,.int .i64 e.num,.int .i64 e.den,.int .i64 e.dim,.string e.name,.slice a e.args.length cap] 51)) wr/\wr.ownsRow (w.heap.size+1) 3 1 v8 k ((fI env e k).map (Value.int .i64))) (fun _ v38 _=>e.args.length-(intOf v38).toNat)
  case atStart=>exact⟨0,by omega,rfl,zh (fun j hj=>by omega),.refl _ _,World.ownsRow_nil _ _ _ _⟩
  case round=>
   obtain⟨k,hk,rfl,hno,hB,hown⟩:=hrel;have hsW:w.heap.size+1<=wr.heap.size:=by have:=hB.size;simpa using this
   have hbox:wr.cell? ⟨w.heap.size,0,none⟩=some (.int .i64 e.op):=by
    rw [hB.cell (p:=⟨w.heap.size,0,none⟩) zg,World.cell?_alloc_at _ _ _ _ rfl];rfl
   have hbox5:wr.cell? ⟨w.heap.size,5,none⟩=some (.slice a e.args.length cap):=by
    rw [hB.cell (p:=⟨w.heap.size,5,none⟩) zg,World.cell?_alloc_at _ _ _ _ rfl];rfl
   have hG:w.Grows wr:=.of_below ((((Below.refl _ _).alloc (Nat.le_refl _) _)).trans (hB.mono ze));have HB:=zh hB;have HO:=zh hown;have HG:=zh hG;by_cases hlt:k<e.args.length
   ·have hRk:=HR.out.grows hG
    cases hRk with
    |mk _ _ _ vs hr hc hs=>
     rcases hc with h0|⟨b,off,rfl,-,hbw,hx⟩
     ·omega
     ·have hR:=hs k hlt;obtain⟨x0,x1,x2,x3,x4,x5⟩:=hx k hlt;obtain⟨ak,ck,hvk⟩:=hR.form0;rw [hvk]at x5 hR;have HRK:=zh hR;have hcall:=fun w' hg hg2=>IH.out k hlt ak ck w' hg (HRK.out.grows hg2);have HNX:=zh (uQ env e k hlt);have HKL:=zh hlt;have HBK:=zh (fun hj hb=>HBAD.out k hlt hj hb);have d1:(k:Int)<(e.args.length:Int):=by omega
      clear hx hs hr hvk hG hB hown hR;unfold exV at hcall;obtain⟨x,hxe⟩:∃x,e.arg k=x:=⟨_,rfl⟩;rw [hxe]at hcall x0 x1 x2 x3 x4 x5 HNX HBK;have HXE:=zh hxe;clear hxe;have HCL:=zh hcall;clear hcall;obtain⟨q,hq⟩:∃q,aD env x=q:=⟨_,rfl⟩;unfold pG at HBK;unfold BA at HNX;rw [hq]at HCL HBK HNX;have HQ:=zh hq;clear hq;obtain⟨qd,qc⟩:=q;dsimp only at HCL HBK HNX;by_cases hqc:qc=0
      ·subst hqc
       go_wp2_with (first
        |(go_at_call 119;refine(HCL.out _ (World.Grows.trans HG.out (.of_below ag)) (.of_below ag)).mono ?_;rintro e' w' ⟨rfl,bs,d,rfl⟩)
        |(at_builtin;refine wpList_append_own _ rfl _ _ 24 rfl (w.heap.size+1) 3 i0 (.int .i64 0) 1 8 underlying24 hi hz0 hz1 hz2 rfl zo _ _ _ rfl ((bL HO.out ⟨bs,d,rfl⟩).alloc _) ⟨wr.heap.size+bs.size,0,none⟩ 1 1 [.int .i64 qd] rfl rfl ?c1 ?c2 ?c3 ?c4 ?c5 ?_))
       case c1=>exact aK _ [.int .i64 qd] _ _ zg
       case c2=>intro u hu;simp at hu;subst hu;rfl
       case c3=>unfold maxLen;omega
       case c4=>omega
       case c5=>simp;omega
       intro v' w1 hown' hgrow _;have HB1:=zh ((show Below (w.heap.size+1) (w.alloc (.cells #[.int .i64 e.op,.int .i64 e.num,.int .i64 e.den,.int .i64 e.dim,.string e.name,.slice (some ⟨b,off,none⟩) e.args.length cap] 51)) _ from by have:=HB.out;(exact ag)).grown hgrow zp (fun k hk=>(HO.out.lt k hk).1));have HO1:=zh hown';clear hown' hgrow
       go_wp2_with fail
       go_roundw
       case rel=>exact⟨k+1,HKL.out,by go_num,zh (fun j hj=>by
        by_cases ej:j=k
        ·subst ej;unfold pG;rw [HXE.out,HQ.out]
        ·exact hno.out j ze),HB1.out,by rw [HNX.out,map_append];simpa [fI]using HO1.out⟩
       case measure=>simp [intOf];have:=HKL.out;omega
      ·have hq1:(qc !=0)=true:=by simpa using hqc
       have HQC:=zh hqc;clear hqc
       go_wp2_with (go_at_call 119;refine(HCL.out _ (World.Grows.trans HG.out (.of_below ag)) (.of_below ag)).mono ?_;rintro e' w' ⟨rfl,bs,d,rfl⟩)
       go_returns
       exact kN (HBK.out hno.out HQC.out) (World.Grows.trans HG.out (.of_below ag))
   ·obtain rfl:k=e.args.length:=by omega
    have hd:=HOK.out hno.out;have hdl:(fI env e e.args.length).length=e.args.length:=by simp [fI]
    obtain⟨-,⟨_,h0⟩|⟨g,gc,cu,rfl,hbg,-⟩⟩:=hown
    ·omega
    have hres:=tO e.op (fI env e e.args.length) (w.heap.size+1) g gc wr HOP.out.2.1 HOP.out.2.2 (by rw [hdl];exact HOP.out.1) (fun y hy=>by
     obtain⟨t,ht,rfl⟩:=mem_map.1 hy;rw [take_length]at ht;obtain⟨j,hj,rfl⟩:=mem_iff_getElem.1 ht;have:=HDM.out j hj (hno.out j hj);unfold Ex.arg at this;rw [getD_eq_getElem?_getD,getElem?_eq_getElem hj]at this
     exact this) (by rw [hdl];exact HO.out)
    rw [hdl]at hres;obtain⟨R,hR⟩:∃R,ax e.op (fI env e e.args.length)=R:=⟨_,rfl⟩;rw [hR]at hres hd;have HD:=zh hd;unfold fM at hres;clear hB hG hR hd hdl;by_cases hR0:R=0
    ·subst hR0;have HRS:=zh hres;clear hres
     go_wp2_with (go_at_call 148;refine(HRS.out).mono ?_;rintro e' w' ⟨rfl,bs,d,rfl⟩)
     go_returns
     exact kN (by rw [HD.out];simp) (World.Grows.trans HG.out (.of_below ag))
    ·have hR1:(R==0)=false:=by simpa using hR0
     have HRS:=zh hres;have HR0:=zh hR0;clear hres hR0
     go_wp2_with (go_at_call 148;refine(HRS.out).mono ?_;rintro e' w' ⟨rfl,bs,d,rfl⟩)
     go_returns
     exact kN (by rw [HD.out,if_neg HR0.out]) (World.Grows.trans HG.out (.of_below ag))
theorem oJ(S:Nat->Prop)(env:List (ByteArray × Int))(e:Ex)(v ve:Value)(w:World)(h:aC S w e v)(hbig:e.size<=2305843009213693952)(hv:aW w ve env) :
 Calls prog 69 #[exV e v,ve] w (jl (aT env e) w):=by
 have HR:=zh h;have HV:=zh hv;have hrng:=h.rng;obtain⟨a,cap,rfl⟩:=h.form0
 have HVE:Hid (∀w',w.Grows w'->Calls prog 35 #[exV e (.slice a e.args.length cap)] w' fun r w''=>r= .returned (.bool (cZ e))/\w'.Grows w''):=
  zh (fun w' hg=>kE S e _ w' (zh (HR.out.grows hg)) (zh hbig))
 have HDA:=zh (Ci env);obtain⟨hl1000,ae,ce,rfl,-⟩:=hv;unfold exV at HVE
 cases hve:cZ e with
 |false=>
  have HF:=zh (nD (env:=env) (.inl hve));rw [hve]at HVE;clear h hve
  go_enter func69,ntmps69
  go_wp2_with (go_at_call 35;refine(HVE.out _ (.of_below ag)).mono ?_;rintro e' w' ⟨rfl,bs,d,rfl⟩)
  go_returns
  exact kN HF.out (.of_below ag)
 |true=>
  rw [hve]at HVE;have HNO:=zh (fun h=>nD (env:=env) (e:=e) (.inr h));have HYES:=zh (fun h=>lq (env:=env) hve h)
  have HI:Hid (gm env=true->∀w',w.Grows w'->Calls prog 119 #[exV e (.slice a e.args.length cap),.slice ae env.length ce] w' (jl (aD env e) w')):=
   zh (fun hde w' hg=>Bv S env hde e.size e (Nat.le_refl _) (gW hve) _ _ w' (HR.out.grows hg) (HV.out.grows hg))
  unfold jl exV at HI;clear h hve
  go_enter func69,ntmps69
  go_wp2_with (go_at_call 35;refine(HVE.out _ (.of_below ag)).mono ?_;rintro e' w' ⟨rfl,bs,d,rfl⟩)
  go_loopw [6] (fun v6 wr=>∃k:Nat,k<=env.length/\v6= .int .i64 k/\Hid (∀j,j<k->1<=bdD env j/\bdD env j<=4)/\Below (w.heap.size+1) ((w.alloc (.cells #[.int .i64 e.op,.int .i64 e.num,.int .i64 e.den,.int .i64 e.dim,.string e.name,.slice a e.args.length cap] 51))) wr) (fun v6 _=>env.length-(intOf v6).toNat)
  case atStart=>exact⟨0,by omega,rfl,zh (fun j hj=>by omega),by(exact ag)⟩
  case round=>
   obtain⟨k,hk,rfl,hno,hB⟩:=hrel;have HB:=zh hB;have hG:w.Grows wr:=.of_below ((((Below.refl _ _).alloc (Nat.le_refl _) _)).trans (hB.mono ze));have HG:=zh hG;by_cases hlt:k<env.length
   ·obtain⟨-,a',c',hvv,hx⟩:=HV.out.grows hG;simp only [Value.slice.injEq,true_and]at hvv;obtain⟨rfl,rfl⟩:=hvv;rcases hx with h0|⟨b,off,rfl,hbw,hx⟩
    ·omega
    obtain⟨x0,x1⟩:=hx k hlt;have d1:(k:Int)<(env.length:Int):=by omega
    have HKL:=zh hlt;clear hx hB hG hlt;obtain⟨dk,hdk⟩:∃dk,bdD env k=dk:=⟨_,rfl⟩;rw [hdk]at x1;have HDK:=zh hdk;clear hdk;by_cases hc:1<=dk/\dk<=4
    ·obtain⟨hc1,hc2⟩:=hc
     go_wp2_with fail
     go_roundw
     case rel=>exact⟨k+1,HKL.out,by go_num,zh (fun j hj=>by
      by_cases ej:j=k
      ·subst ej;rw [HDK.out];exact⟨hc1,hc2⟩
      ·exact hno.out j ze),by have:=HB.out;(exact ag)⟩
     case measure=>simp [intOf];have:=HKL.out;omega
    ·have HC:=zh hc
     have HBAD:Hid (aT env e=(0,1)):=zh (HNO.out (by
      have:=HDA.out;rw [Bool.eq_false_iff];intro h;rw [h]at this;have h2:=(any_eq_false.1 this) k (mem_range.2 HKL.out);rw [HDK.out,decide_eq_false HC.out]at h2
      simp at h2))
     by_cases h1:dk<1
     ·clear hc
      go_wp2_with fail
      go_returns
      exact kN HBAD.out (World.Grows.trans HG.out (.of_below ag))
     ·have h2:dk > 4:=by omega
      clear hc
      go_wp2_with fail
      go_returns
      exact kN HBAD.out (World.Grows.trans HG.out (.of_below ag))
   ·obtain rfl:k=env.length:=by omega
    have hde:gm env=true:=by
     have:=HDA.out;rw [show(List.range env.length).any (fun k=>!decide (1<=bdD env k/\bdD env k<=4))=false from any_eq_false.2 fun j hj=>by simp [hno.out j (mem_range.1 hj)]]at this;simpa using this.symm
    have hbx:∀j u,(#[Value.int .i64 e.op,.int .i64 e.num,.int .i64 e.den,.int .i64 e.dim,.string e.name,.slice a e.args.length cap]:Array Value)[j]? =some u->wr.cell? ⟨w.heap.size,j,none⟩=some u:=fun j u hu=>by
     rw [hB.cell (p:=⟨w.heap.size,j,none⟩) zg,World.cell?_alloc_at _ _ _ _ rfl];exact hu
    have y0:=hbx 0 _ rfl;have y1:=hbx 1 _ rfl;have y2:=hbx 2 _ rfl;have y3:=hbx 3 _ rfl;have y4:=hbx 4 _ rfl;have y5:=hbx 5 _ rfl;have HI2:=zh (HI.out hde wr hG);have HY:=zh (HYES.out hde);clear hde hbx hB hG;obtain⟨q,hq⟩:∃q,aD env e=q:=⟨_,rfl⟩;rw [hq]at HI2;have HQ:=zh hq;clear hq
    go_wp2_with (go_at_call 119;refine(HI2.out).mono ?_;rintro e' w' ⟨rfl,bs3,d3,rfl⟩)
    go_returns
    exact kN (by rw [HY.out,HQ.out]) (World.Grows.trans HG.out (.of_below ag))
end Go.Proofs.YtlheailebbngiaaGreatDoor
