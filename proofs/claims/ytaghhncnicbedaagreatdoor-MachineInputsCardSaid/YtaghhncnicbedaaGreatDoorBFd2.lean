import Derived.Test.YtaghhncnicbedaaGreatDoorBTab
import Derived.Test.YtaghhncnicbedaaGreatDoorFrAllB
import Derived.Test.YtaghhncnicbedaaGreatDoorBShelf4
import Derived.Test.YtaghhncnicbedaaGreatDoorBTop
import Derived.Test.YtaghhncnicbedaaGreatDoorBK
import Derived.Lib.ItoaLen
import Derived.Sort.OwnSortedInts
import Derived.RangeFuncNested
import Derived.RangeFuncBound
import Derived.RangeFuncCalls
import Derived.RangeFuncLeaves
import Derived.RangeFuncBox
import Derived.Shelf.Abstract
import Derived.Shelf.RegionOpen
import Derived.WalkKit
import Derived.OwnWalkIn
import Derived.TacticsInMore
import Derived.LoopNIn
import Derived.LoopIn
import Derived.Maps.AppendAt
set_option linter.all false
set_option maxHeartbeats 16000000
set_option maxRecDepth 1000000
namespace Go.Proofs.YtaghhncnicbedaaGreatDoor
open Go.RowKit
def FdPost(n d m:Int)(w:World)(e:Ending)(w':World):Prop:=∃s,e= .returned (.tuple #[.string s,.bool (decOk n d m)])∧(decOk n d m=true→s.data.toList=dec2T n d m)∧w.Grows w'
theorem FdPost.no{n d m:Int}{w w':World}(h:decOk n d m=false)(hw:w.Grows w'):FdPost n d m w (.returned (.tuple #[.string ⟨#[]⟩,.bool false])) w':=
 ⟨⟨#[]⟩,by rw [h],fun k=>(by rw [h]at k;cases k),hw⟩
theorem FdPost.yes{n d m:Int}{w w':World}{s:ByteArray}(h:decOk n d m=true)(hs:s.data.toList=dec2T n d m)(hw:w.Grows w'):FdPost n d m w (.returned (.tuple #[.string s,.bool true])) w':=
 ⟨s,by rw [h],fun _=>hs,hw⟩
def FdAt(n d:Int)(k:Nat)(l:List Int)(r:Int)(s:ByteArray):Prop:=
 fdig d 4 (n % d)=(fdig d (4-k) r).map (l++ ·)∧l.length=k∧s.data.toList=Lib.decDigits (n / d).toNat++dotL l
theorem dotL_snoc{l:List Int}(h:l≠[])(x:Int):dotL (l++[x])=dotL l++[dgB x]:=by
 unfold dotL
 rw [if_neg h,if_neg (by simp)]
 simp
theorem dotL_one(x:Int):dotL [x]= [46,dgB x]:=by unfold dotL;rw [if_neg (by simp)];rfl
theorem dec_dg{x:Int}(h0:0≤x)(h1:x≤9):Lib.decDigits x.toNat= [dgB x]:=by
 rw [Lib.decDigits,dif_pos (by omega)];rfl
theorem app_list(a b:ByteArray):(a++b).data.toList=a.data.toList++b.data.toList:=by
 rw [ByteArray.data_append,Array.toList_append]
theorem fdig_more{d:Int}{f:Nat}{r:Int}(h:0<r):fdig d (f+1) r=(fdig d f (r*10 % d)).map fun l=>r*10 / d::l:=by
 rw [fdig,if_neg (by omega)]
theorem FdAt.first{n d r:Int}{s:ByteArray}(h:FdAt n d 0 [] r s)(hr:0<r)(h0:0≤r*10 / d)(h1:r*10 / d≤9):FdAt n d 1 [r*10 / d] (r*10 % d) (s++⟨#[46]⟩++⟨(Lib.decDigits (r*10 / d).toNat).toArray⟩):=by
 obtain⟨a,-,c⟩:=h
 refine⟨?_,rfl, ?_⟩
 ·rw [a,show 4-0=3+1 by rfl,fdig_more hr]
  cases fdig d 3 (r*10 % d)<;>rfl
 ·rw [app_list,app_list,c,dec_dg h0 h1,dotL_one]
  simp [dotL]
theorem FdAt.more{n d r:Int}{s:ByteArray}{k:Nat}{l:List Int}(h:FdAt n d k l r s)(hk:0<k)(hk4:k<4)(hr:0<r)(h0:0≤r*10 / d)(h1:r*10 / d≤9) :
 FdAt n d (k+1) (l++[r*10 / d]) (r*10 % d) (s++⟨(Lib.decDigits (r*10 / d).toNat).toArray⟩):=by
 obtain⟨a,b,c⟩:=h
 refine⟨?_,by simp [b], ?_⟩
 ·rw [a,show 4-k=(4-(k+1))+1 by omega,fdig_more hr]
  cases fdig d (4-(k+1)) (r*10 % d)<;>simp
 ·rw [app_list,c,dec_dg h0 h1,dotL_snoc (by intro e;rw [e]at b;simp at b;omega),List.append_assoc]
theorem FdAt.none4{n d r:Int}{s:ByteArray}{l:List Int}(h:FdAt n d 4 l r s)(hr:0<r):fdig d 4 (n % d)=none:=by
 rw [h.1];show(fdig d 0 r).map _=none;rw [fdig,if_neg (by omega)];rfl
theorem FdAt.some{n d r:Int}{s:ByteArray}{k:Nat}{l:List Int}(h:FdAt n d k l r s)(hr:r≤0):fdig d 4 (n % d)=some l:=by
 rw [h.1]
 have:fdig d (4-k) r=Option.some []:=by
  cases 4-k with
  |zero=>rw [fdig,if_pos hr]
  |succ f=>rw [fdig,if_pos hr]
 rw [this];simp
theorem dec_cmp{s:ByteArray}{n d m:Int}{l:List Int}(h1:1≤d)(h2:d≤10000)(h3:0≤n)(h4:n≤1000000000000000)(hf:fdig d 4 (n % d)=some l)(hs:s.data.toList=Lib.decDigits (n / d).toNat++dotL l++sufL m) :
 (decF s.data.toList=none∧decOk n d m=false)∨∃a b c,decF s.data.toList=some (a,b,c)∧((a=n∧b=d∧c=m∧decOk n d m=true∧s.data.toList=dec2T n d m)∨(a≠n∧decOk n d m=false)∨(b≠d∧decOk n d m=false)∨(c≠m∧decOk n d m=false)):=by
 have hr:=dec2_read (m:=m) h1 h2 h3 h4 hf
 rw [←hs]at hr
 cases hd:decF s.data.toList with
 |none=>
  left
  refine⟨rfl, ?_⟩
  rw [Bool.eq_false_iff];intro k
  have:=hr.2 k
  rw [hd]at this;cases this
 |some t=>
  right
  obtain⟨a,b,c⟩:=t
  refine⟨a,b,c,rfl, ?_⟩
  by_cases e1:a=n
  ·by_cases e2:b=d
   ·by_cases e3:c=m
    ·left
     refine⟨e1,e2,e3,hr.1 (by rw [hd,e1,e2,e3]), ?_⟩
     unfold dec2T;rw [hf];exact hs
    ·right;right;right
     refine⟨e3, ?_⟩
     rw [Bool.eq_false_iff];intro k
     have:=hr.2 k
     rw [hd]at this
     simp only [Option.some.injEq,Prod.mk.injEq]at this
     exact e3 this.2.2
   ·right;right;left
    refine⟨e2, ?_⟩
    rw [Bool.eq_false_iff];intro k
    have:=hr.2 k
    rw [hd]at this
    simp only [Option.some.injEq,Prod.mk.injEq]at this
    exact e2 this.2.1
  ·right;left
   refine⟨e1, ?_⟩
   rw [Bool.eq_false_iff];intro k
   have:=hr.2 k
   rw [hd]at this
   simp only [Option.some.injEq,Prod.mk.injEq]at this
   exact e1 this.1
theorem FormatDecimal2_any(n d m:Int)(w:World)(h1:I64 n)(h2:I64 d)(h3:I64 m)(ht:Tab w):Calls Tryz.prog 230 #[.agg #[.int .i64 n,.int .i64 d],.int .i64 m] w (FdPost n d m w):=by
 unfold I64 at h1 h2 h3
 by_cases c1:d<1
 ·exact bz23
 by_cases c2:10000<d
 ·exact bz23
 by_cases c3:n<0
 ·exact bz23
 by_cases c4:(1000000000000000:Int)<n
 ·exact bz23
 have d0:1≤d:=by omega
 have d1:d≤10000:=by omega
 have n0:0≤n:=by omega
 have n1:n≤1000000000000000:=by omega
 clear c1 c2 c3 c4
 have hq0:0≤n / d:=Int.ediv_nonneg n0 (by omega)
 have hq1:n / d≤n:=Int.ediv_le_self _ n0
 have hr0:0≤n % d:=Int.emod_nonneg _ (by omega)
 have hr1:n % d<d:=Int.emod_lt_of_pos _ (by omega)
 have et:n.tdiv d=n / d:=Int.tdiv_eq_ediv_of_nonneg n0
 have em:n.tmod d=n % d:=Int.tmod_eq_emod_of_nonneg n0
 have dz:(d==0)=false:=by simp;omega
 have HT:=Lib.hid ht
 have hi:Lib.itoa (n / d)=Lib.decDigits (n / d).toNat:=by unfold Lib.itoa;rw [if_neg (by omega)]
 have HI:Hid (∀w,Tab w→Calls Tryz.prog 234 #[.int .i64 (n / d)] w fun e w'=>e= .returned (.string ⟨(Lib.decDigits (n / d).toNat).toArray⟩)∧w.Grows w'):=Lib.hid (fun w h=>by
  have:=Itoa_any (n / d) (by omega) (by omega) w h
  rwa [hi]at this)
 have HS0:Hid (FdAt n d 0 [] (n % d) ⟨(Lib.decDigits (n / d).toNat).toArray⟩):=Lib.hid ⟨by show _=(fdig d 4 (n % d)).map _;simp,rfl,by simp [dotL]⟩
 have HZ0:Hid ((⟨(Lib.decDigits (n / d).toNat).toArray⟩:ByteArray).size≤20):=Lib.hid (by
  show(Lib.decDigits (n / d).toNat).toArray.size≤20
  rw [List.size_toArray,Lib.decDigits_length]
  exact Lib.nDigits_le20 _ (by omega))
 clear hi ht
 generalize(⟨(Lib.decDigits (n / d).toNat).toArray⟩:ByteArray)=s0 at *
 go_enter Tryz.func230,Tryz.ntmps230
 go_wp2_with (go_at_call 234;(with_reducible refine(HI.out _ (HT.out.alloc _)).mono ?_);rintro e w' ⟨rfl,bs,dr,rfl⟩)
 go_loopw [6,7,8] (fun v6 v7 v8 wr=>∃k:Nat,∃l:List Int,∃r:Int,∃s:ByteArray,k≤4∧v8= .int .i64 k∧v7= .int .i64 r∧v6= .string s∧0≤r∧r<d∧(s.size:Int)≤30+10*k∧Hid (FdAt n d k l r s)∧
  World.Grows (w.alloc (.cells #[.int .i64 n,.int .i64 d] 39)) wr) (fun _ _ v8 _=>5-(intOf v8).toNat)
 case atStart=>exact⟨0,[],_,_,by omega,rfl,rfl,rfl,hr0,hr1,by have:=HZ0.out;omega,HS0,.of_below belB⟩
 case round=>
  obtain⟨k,l,r,s,hk,rfl,rfl,rfl,r0,r1,hsz,HF,bs3,dr3,rfl⟩:=hrel
  clear HI
  by_cases hp:0<r
  ·have x0:0≤r*10 / d:=Int.ediv_nonneg (by omega) (by omega)
   have x1:r*10 / d≤9:=by
    have:r*10 / d<10:=Int.ediv_lt_of_lt_mul (by omega) (by omega)
    omega
   have x2:0≤r*10 % d:=Int.emod_nonneg _ (by omega)
   have x3:r*10 % d<d:=Int.emod_lt_of_pos _ (by omega)
   have x4:(r*10).tdiv d=r*10 / d:=Int.tdiv_eq_ediv_of_nonneg (by omega)
   have x5:(r*10).tmod d=r*10 % d:=Int.tmod_eq_emod_of_nonneg (by omega)
   have HX:Hid _:=Lib.hid (fun w=>Itoa_digit (r*10 / d) x0 x1 w)
   have HXB:=Lib.hid (And.intro x0 x1)
   obtain⟨s9,hs9⟩:∃s9,(⟨(Lib.decDigits (r*10 / d).toNat).toArray⟩:ByteArray)=s9:=⟨_,rfl⟩
   have hz9:s9.size=1:=by rw [←hs9,dec_dg x0 x1];rfl
   rw [hs9]at HX
   have HS9:=Lib.hid hs9
   clear hs9
   by_cases k0:k=0
   ·subst k0
    have hl:l= []:=List.eq_nil_of_length_eq_zero HF.out.2.1
    subst hl
    go_wp2_with (go_at_call 234;(with_reducible refine(HX.out _).mono ?_);rintro e w' ⟨rfl,rfl⟩)
    go_roundw
    case rel=>exact⟨1,_,_,_,by omega,rfl,rfl,rfl,x2,x3,by
     rw [ByteArray.size_append,ByteArray.size_append,hz9]
     show((s.size+1+1:Nat):Int)≤_
     simp at hsz ⊢;omega,Lib.hid (by rw [←HS9.out];exact HF.out.first hp HXB.out.1 HXB.out.2),.of_below belB⟩
    case measure=>simp [intOf]
   ·by_cases k4:k=4
    ·subst k4
     have HN:=Lib.hid (dec2_none (m:=m) d0 d1 n0 n1 (HF.out.none4 hp))
     go_wp2_with fail
     go_returns
     exact FdPost.no HN.out (.of_below belB)
    ·have kz:((k:Int)==0)=false:=by simp;omega
     have k44:((k:Int)==4)=false:=by simp;omega
     go_wp2_with (go_at_call 234;(with_reducible refine(HX.out _).mono ?_);rintro e w' ⟨rfl,rfl⟩)
     go_roundw
     case rel=>exact⟨k+1,_,_,_,by omega,by go_num,rfl,rfl,x2,x3,by
      rw [ByteArray.size_append,hz9];omega,Lib.hid (by rw [←HS9.out];exact HF.out.more (by omega) (by omega) hp HXB.out.1 HXB.out.2),.of_below belB⟩
     case measure=>simp [intOf];omega
  ·clear HS0 HZ0
   have hsz2:(s.size:Int)≤70:=by omega
   by_cases m3:m=3
   ·subst m3
    have HDEC:=Lib.hid (dec_cmp (m:=3) (s:=s++⟨#[100]⟩) d0 d1 n0 n1 (HF.out.some (by omega)) (by rw [app_list,HF.out.2.2];try rfl))
    have HD:Hid _:=Lib.hid (fun w=>Decimal2_any (s++⟨#[100]⟩) w (by rw [ByteArray.size_append];unfold maxLen;show s.size+1≤_;omega))
    clear HF
    rcases HDEC.out with ⟨hn,hno⟩|⟨a,b,c,hs,⟨rfl,rfl,rfl,hy,ht⟩|⟨h1,hno⟩|⟨h1,hno⟩|⟨h1,hno⟩⟩
    ·exact bz35
    ·exact bz17
    ·exact bz26
    ·exact bz29
    ·rw [hs]at HD
     simp only [decFV]at HD
     have HO:=Lib.hid hno
     have q1:(c==3)=false:=by simpa using h1
     exact bz8
   ·by_cases m4:m=4
    ·subst m4
     have HDEC:=Lib.hid (dec_cmp (m:=4) (s:=s++⟨#[109]⟩) d0 d1 n0 n1 (HF.out.some (by omega)) (by rw [app_list,HF.out.2.2];try rfl))
     have HD:Hid _:=Lib.hid (fun w=>Decimal2_any (s++⟨#[109]⟩) w (by rw [ByteArray.size_append];unfold maxLen;show s.size+1≤_;omega))
     clear HF
     rcases HDEC.out with ⟨hn,hno⟩|⟨a,b,c,hs,⟨rfl,rfl,rfl,hy,ht⟩|⟨h1,hno⟩|⟨h1,hno⟩|⟨h1,hno⟩⟩
     ·exact bz35
     ·exact bz17
     ·exact bz26
     ·exact bz29
     ·rw [hs]at HD
      simp only [decFV]at HD
      have HO:=Lib.hid hno
      have q1:(c==4)=false:=by simpa using h1
      exact bz8
    ·have y3:(m==3)=false:=by simpa using m3
     have y4:(m==4)=false:=by simpa using m4
     have hsuf:sufL m= []:=by unfold sufL;rw [if_neg m3,if_neg m4]
     have hap:s.data.toList=s.data.toList++sufL m:=by rw [hsuf,List.append_nil]
     have HAP:=Lib.hid hap
     clear m3 m4 hsuf hap
     have HDEC:=Lib.hid (dec_cmp (m:=m) (s:=s) d0 d1 n0 n1 (HF.out.some (by omega)) (by rw [HAP.out,HF.out.2.2];try rfl))
     have HD:Hid _:=Lib.hid (fun w=>Decimal2_any (s) w (by unfold maxLen;omega))
     clear HF
     rcases HDEC.out with ⟨hn,hno⟩|⟨a,b,c,hs,⟨rfl,rfl,rfl,hy,ht⟩|⟨h1,hno⟩|⟨h1,hno⟩|⟨h1,hno⟩⟩
     ·exact bz35
     ·exact bz17
     ·exact bz26
     ·exact bz29
     ·rw [hs]at HD
      simp only [decFV]at HD
      have HO:=Lib.hid hno
      have q1:(c==m)=false:=by simpa using h1
      exact bz8
def nodeB(e:Ex):Bool:=decide ((e.args.length:Int)=argsN e.op)&&
 (if e.op=1 then decOk e.num e.den e.dim&&e.name.toList.isEmpty
  else if e.op=2 then decide (e.num=0)&&decide (e.den=0)&&decide (e.dim=0)&&nameB e.name
  else if e.op=3 then decide (e.dim=0)&&e.name.toList.isEmpty&&decide (e.den=1)&&decide (1≤e.num)&&decide (e.num≤45)
  else decide (e.num=0)&&decide (e.den=0)&&decide (e.dim=0)&&e.name.toList.isEmpty)
theorem formed_node(e:Ex):formedB e=(nodeB e&&formedsB e.args):=by
 rw [formedB_eq]
 unfold nodeB
 by_cases hl:(e.args.length:Int)=argsN e.op
 ·rw [decide_eq_true hl,Bool.true_and,Bool.true_and]
  have nil (h:e.op=1∨e.op=2∨e.op=3):formedsB e.args=true:=by
   have:e.args= []:=by
    have h0:argsN e.op=0:=by unfold argsN;rw [if_pos (by omega)]
    exact List.eq_nil_of_length_eq_zero (by omega)
   rw [this];rfl
  by_cases o1:e.op=1
  ·rw [if_pos o1,if_pos o1,nil (.inl o1),Bool.and_true]
  ·rw [if_neg o1,if_neg o1]
   by_cases o2:e.op=2
   ·rw [if_pos o2,if_pos o2,nil (.inr (.inl o2)),Bool.and_true]
   ·rw [if_neg o2,if_neg o2]
    by_cases o3:e.op=3
    ·rw [if_pos o3,if_pos o3,nil (.inr (.inr o3)),Bool.and_true]
    ·rw [if_neg o3,if_neg o3,Bool.and_comm]
 ·rw [decide_eq_false hl];rfl
theorem formeds_any(l:List Ex):formedsB l=!(List.range l.length).any fun k=>!formedB (l.getD k default):=by
 induction l with
 |nil=>rfl
 |cons e r ih=>
  rw [formedsB,ih,List.length_cons,List.range_succ_eq_map,List.any_cons,List.any_map]
  simp only [List.getD_cons_zero,Bool.not_or,Bool.not_not]
  congr 1
theorem node2_len(e:Ex)(a:Option Addr)(cap:Nat)(w:World)(hr:ExRng e)(hne:¬(e.args.length:Int)=argsN e.op):(Calls Tryz.prog 220 #[exV e (.slice a e.args.length cap)] w fun r w'=>r= .returned (.bool (nodeB e))∧w.Grows w'):=by
 have HF:Hid (nodeB e=false):=Lib.hid (by unfold nodeB;rw [decide_eq_false hne,Bool.false_and])
 obtain⟨on,od⟩:=hr.num
 obtain⟨pn,pd⟩:=hr.den
 have hsz:=hr.name
 have hi:=Lib.hid (And.intro hr.num (And.intro hr.den hr.dim))
 clear hr
 have h1:((e.args.length:Int)!=argsN e.op)=true:=by simpa using hne
 clear hne
 go_enter Tryz.func220,Tryz.ntmps220
 go_wp2_with fail
 go_quiet ((go_at_call 229;exact Calls.quiet_eq (arity2_any _ _)))
 exact bz9
theorem node2_lit(e:Ex)(a:Option Addr)(cap:Nat)(w:World)(hr:ExRng e)(ht:Tab w)(hle:(e.args.length:Int)=argsN e.op)(ho:e.op=1):(Calls Tryz.prog 220 #[exV e (.slice a e.args.length cap)] w fun r w'=>r= .returned (.bool (nodeB e))∧w.Grows w'):=by
 have HF:Hid (nodeB e=(decOk e.num e.den e.dim&&e.name.toList.isEmpty)):=Lib.hid (by unfold nodeB;rw [decide_eq_true hle,Bool.true_and,if_pos ho])
 obtain⟨on,od⟩:=hr.num
 obtain⟨pn,pd⟩:=hr.den
 have hsz:=hr.name
 have hi:=Lib.hid (And.intro hr.num (And.intro hr.den hr.dim))
 clear hr
 have HT:=Lib.hid ht
 clear ht
 have h1:((e.args.length:Int)!=argsN 1)=false:=by rw [ho]at hle;simpa using hle
 clear hle
 cases hd:decOk e.num e.den e.dim
 all_goals
  have HD:Hid _:=Lib.hid (fun w (ht:Tab w)=>FormatDecimal2_any e.num e.den e.dim w hi.out.1 hi.out.2.1 hi.out.2.2 ht)
  unfold FdPost at HD
  rw [hd]at HD HF
  clear hd
  go_enter Tryz.func220,Tryz.ntmps220
  go_wp2_with fail
  go_quiet ((go_at_call 229;exact Calls.quiet_eq (arity2_any _ _)))
  go_wp2_with (go_at_call 230;refine(HD.out _ ((HT.out.alloc _).drewN _)).mono ?_;rintro e' w' ⟨s,rfl,-,bs,d,rfl⟩)
  all_goals
   go_returns
   exact⟨ret_bool (by rw [HF.out];simp [*]),.of_below belB⟩
theorem node2_name(e:Ex)(a:Option Addr)(cap:Nat)(w:World)(hr:ExRng e)(hle:(e.args.length:Int)=argsN e.op)(ho:e.op=2):(Calls Tryz.prog 220 #[exV e (.slice a e.args.length cap)] w fun r w'=>r= .returned (.bool (nodeB e))∧w.Grows w'):=by
 have HF:Hid (nodeB e=(decide (e.num=0)&&decide (e.den=0)&&decide (e.dim=0)&&nameB e.name)):=Lib.hid (by unfold nodeB;rw [decide_eq_true hle,Bool.true_and,if_neg (by omega),if_pos ho])
 obtain⟨on,od⟩:=hr.num
 obtain⟨pn,pd⟩:=hr.den
 have hsz:=hr.name
 have hi:=Lib.hid (And.intro hr.num (And.intro hr.den hr.dim))
 clear hr
 have h1:((e.args.length:Int)!=argsN 2)=false:=by rw [ho]at hle;simpa using hle
 clear hle
 have HM:=Lib.hid (show e.name.size≤maxLen by unfold maxLen;omega)
 go_enter Tryz.func220,Tryz.ntmps220
 go_wp2_with fail
 go_quiet ((go_at_call 229;exact Calls.quiet_eq (arity2_any _ _)))
 go_wp2_with (go_at_call 231;refine(isName2_any _ _ HM.out).mono ?_;rintro e' w' ⟨rfl,rfl⟩)
 all_goals
  go_returns
  exact⟨ret_bool (by rw [HF.out];first|(simp [*];done)|(simp [*];rfl)),.of_below belB⟩
theorem node2_best(e:Ex)(a:Option Addr)(cap:Nat)(w:World)(hr:ExRng e)(hle:(e.args.length:Int)=argsN e.op)(ho:e.op=3):(Calls Tryz.prog 220 #[exV e (.slice a e.args.length cap)] w fun r w'=>r= .returned (.bool (nodeB e))∧w.Grows w'):=by
 have HF:Hid (nodeB e=(decide (e.dim=0)&&e.name.toList.isEmpty&&decide (e.den=1)&&decide (1≤e.num)&&decide (e.num≤45))):=Lib.hid (by unfold nodeB;rw [decide_eq_true hle,Bool.true_and,if_neg (by omega),if_neg (by omega),if_pos ho])
 obtain⟨on,od⟩:=hr.num
 obtain⟨pn,pd⟩:=hr.den
 have hsz:=hr.name
 have hi:=Lib.hid (And.intro hr.num (And.intro hr.den hr.dim))
 clear hr
 have h1:((e.args.length:Int)!=argsN 3)=false:=by rw [ho]at hle;simpa using hle
 clear hle
 go_enter Tryz.func220,Tryz.ntmps220
 go_wp2_with fail
 go_quiet ((go_at_call 229;exact Calls.quiet_eq (arity2_any _ _)))
 go_wp2_with fail
 all_goals
  go_returns
  exact⟨ret_bool (by rw [HF.out];first|(simp [*];done)|(simp [*];rfl)|(simp [*];intros;omega)),.of_below belB⟩
theorem node2_op(e:Ex)(a:Option Addr)(cap:Nat)(w:World)(hr:ExRng e)(hle:(e.args.length:Int)=argsN e.op)(o1:¬e.op=1)(o2:¬e.op=2)(o3:¬e.op=3):(Calls Tryz.prog 220 #[exV e (.slice a e.args.length cap)] w fun r w'=>r= .returned (.bool (nodeB e))∧w.Grows w'):=by
 have HF:Hid (nodeB e=(decide (e.num=0)&&decide (e.den=0)&&decide (e.dim=0)&&e.name.toList.isEmpty)):=Lib.hid (by unfold nodeB;rw [decide_eq_true hle,Bool.true_and,if_neg o1,if_neg o2,if_neg o3])
 obtain⟨on,od⟩:=hr.num
 obtain⟨pn,pd⟩:=hr.den
 have hsz:=hr.name
 have hi:=Lib.hid (And.intro hr.num (And.intro hr.den hr.dim))
 clear hr
 have h1:((e.args.length:Int)!=argsN e.op)=false:=by simpa using hle
 have p1:(e.op==1)=false:=by simpa using o1
 have p2:(e.op==2)=false:=by simpa using o2
 have p3:(e.op==3)=false:=by simpa using o3
 clear hle o1 o2 o3
 go_enter Tryz.func220,Tryz.ntmps220
 go_wp2_with fail
 go_quiet ((go_at_call 229;exact Calls.quiet_eq (arity2_any _ _)))
 go_wp2_with fail
 all_goals
  go_returns
  exact⟨ret_bool (by rw [HF.out];simp [*]),.of_below belB⟩
theorem node2_any(e:Ex)(a:Option Addr)(cap:Nat)(w:World)(hr:ExRng e)(ht:Tab w):(Calls Tryz.prog 220 #[exV e (.slice a e.args.length cap)] w fun r w'=>r= .returned (.bool (nodeB e))∧w.Grows w'):=by
 by_cases hle:(e.args.length:Int)=argsN e.op
 ·by_cases o1:e.op=1
  ·exact node2_lit e a cap w hr ht hle o1
  ·by_cases o2:e.op=2
   ·exact node2_name e a cap w hr hle o2
   ·by_cases o3:e.op=3
    ·exact node2_best e a cap w hr hle o3
    ·exact node2_op e a cap w hr hle o1 o2 o3
 ·exact node2_len e a cap w hr hle
theorem form_clos:∀args w,(callFunc 221 args).run Tryz.prog w= .ok (.enter 221 args) w:=enters_of Tryz.func221 (by kernel_rfl) rfl
theorem form2_walk(S:Nat→Prop)(n:Nat):∀(e:Ex),e.size≤n→∀(v:Value) (w:World),RepE S w e v→Tab w→
 Calls Tryz.prog 203 #[exV e v] w fun r w'=>r= .returned (.bool (formedB e))∧w.Grows w':=by
 induction n with
 |zero=>intro e he;have:=e.size_pos;omega
 |succ n ih=>
  intro e he v w h ht
  have HR:=Lib.hid h
  have HT:=Lib.hid ht
  have HN:Hid (_):=Lib.hid (fun a cap w (ht:Tab w)=>node2_any e a cap w h.rng ht)
  have hany:=formeds_any e.args
  have hfn:=formed_node e
  obtain⟨a,cap,rfl⟩:=h.form0
  have HC:Hid (∀w',w.Grows w'→Calls Tryz.prog 198 #[.slice a e.args.length cap,.func (.func 221) #[] #[]] w' fun r w''=>r= .returned (.bool (!formedsB e.args))∧w'.Grows w''):=Lib.hid (fun w' hg=>by
   have:=containsE_any S 221 #[] form_clos e (.slice a e.args.length cap) (fun k=>!formedB (e.arg k)) w' (HR.out.grows hg) (Lib.hid (fun k hk ak ck w1 hg1 hR1=>by
    have hsm:=e.size_arg k hk
    have IH:=Lib.hid (fun w2 h1 h2=>ih (e.arg k) (by omega) (.slice ak (e.arg k).args.length ck) w2 h1 h2)
    have hT1:=Lib.hid ((HT.out.grows hg).grows hg1)
    have HR1:=Lib.hid hR1
    dsimp only
    generalize formedB (e.arg k)=q at *
    clear hany hfn HN HR HT hR1 ih hg hg1
    generalize e.arg k=x at *
    show Calls Tryz.prog 221 #[exV x (.slice ak x.args.length ck)] w1 _
    go_enter Tryz.func221,Tryz.ntmps221
    go_wp2_with (go_at_call 203;refine(IH.out _ (HR1.out.alloc _) (hT1.out.alloc _)).mono ?_;rintro e' w' ⟨rfl,bs,d,rfl⟩)
    go_returns
    exact⟨ret_bool rfl,.of_below belB⟩))
   rw [show(List.range e.args.length).any (fun k=>!formedB (e.arg k))=!formedsB e.args by rw [hany,Bool.not_not];rfl]at this
   exact this)
  clear hany ih h ht
  generalize formedsB e.args=q at *
  generalize nodeB e=p at *
  have HF:=Lib.hid hfn
  clear hfn
  cases p
  ·go_enter Tryz.func203,Tryz.ntmps203
   go_wp2_with (go_at_call 220;refine(HN.out _ _ _ (HT.out.alloc _)).mono ?_;rintro e' w' ⟨rfl,bs,d,rfl⟩)
   go_returns
   exact⟨ret_bool (by rw [HF.out];rfl),.of_below belB⟩
  ·go_enter Tryz.func203,Tryz.ntmps203
   go_wp2_with (first|(go_at_call 220;refine(HN.out _ _ _ (HT.out.alloc _)).mono ?_;rintro e' w' ⟨rfl,bs,d,rfl⟩)|(go_at_call 198;refine(HC.out _ (.of_below belB)).mono ?_;rintro e' w' ⟨rfl,bs2,d2,rfl⟩))
   go_returns
   exact⟨ret_bool (by rw [HF.out];simp),.of_below belB⟩
theorem form2_any(S:Nat→Prop)(e:Ex)(v:Value)(w:World)(h:RepE S w e v)(ht:Tab w):Calls Tryz.prog 203 #[exV e v] w fun r w'=>r= .returned (.bool (formedB e))∧w.Grows w':=form2_walk S e.size e (Nat.le_refl _) v w h ht
theorem ValidExpr2_any(S:Nat→Prop)(e:Ex)(v:Value)(w:World)(h:Hid (RepE S w e v))(hbig:Hid (e.size≤2305843009213693952))(ht:Hid (Tab w)):Calls Tryz.prog 183 #[exV e v] w fun r w'=>r= .returned (.bool (validB e))∧w.Grows w':=by
 obtain⟨a,cap,hv⟩:=h.out.form0
 subst hv
 by_cases c1:(e.depth:Int)≤10
 ·by_cases c2:(e.size:Int)≤60
  ·go_enter Tryz.func183,Tryz.ntmps183
   go_wp2_with ((first|(go_at_call 201;refine(Depth2_walk S e.size e (Nat.le_refl _) _ _ (h.out.alloc _) hbig).mono ?_;rintro r w' ⟨rfl,bs,d,rfl⟩)|(go_at_call 202;refine(Size2_walk S e.size e (Nat.le_refl _) _ _ ((h.out.alloc _).grow _ _) hbig).mono ?_;rintro r w' ⟨rfl,bs2,d2,rfl⟩)|(go_at_call 203;refine(form2_any S e _ _ ((h.out.alloc _).grow _ _) ((ht.out.alloc _).grow _ _)).mono ?_;rintro r w' ⟨rfl,bs3,d3,rfl⟩)))
   exact bz41
  ·go_enter Tryz.func183,Tryz.ntmps183
   go_wp2_with ((first|(go_at_call 201;refine(Depth2_walk S e.size e (Nat.le_refl _) _ _ (h.out.alloc _) hbig).mono ?_;rintro r w' ⟨rfl,bs,d,rfl⟩)|(go_at_call 202;refine(Size2_walk S e.size e (Nat.le_refl _) _ _ ((h.out.alloc _).grow _ _) hbig).mono ?_;rintro r w' ⟨rfl,bs2,d2,rfl⟩)|(go_at_call 203;refine(form2_any S e _ _ ((h.out.alloc _).grow _ _) ((ht.out.alloc _).grow _ _)).mono ?_;rintro r w' ⟨rfl,bs3,d3,rfl⟩)))
   exact bz46
 ·go_enter Tryz.func183,Tryz.ntmps183
  go_wp2_with ((first|(go_at_call 201;refine(Depth2_walk S e.size e (Nat.le_refl _) _ _ (h.out.alloc _) hbig).mono ?_;rintro r w' ⟨rfl,bs,d,rfl⟩)|(go_at_call 202;refine(Size2_walk S e.size e (Nat.le_refl _) _ _ ((h.out.alloc _).grow _ _) hbig).mono ?_;rintro r w' ⟨rfl,bs2,d2,rfl⟩)|(go_at_call 203;refine(form2_any S e _ _ ((h.out.alloc _).grow _ _) ((ht.out.alloc _).grow _ _)).mono ?_;rintro r w' ⟨rfl,bs3,d3,rfl⟩)))
  exact bz44
def vwV(v:Vw)(y:Value):Value:=.agg #[.int .i64 v.age,.int .i64 v.year,.int .i64 v.children,.int .i64 v.insured,.int .i64 v.worked,.int .i64 v.voluntary,.int .i64 v.service,.int .i64 v.equated,.int .i64 v.raising,.int .i64 v.resident,.int .i64 v.bn,.int .i64 v.bd,y]
structure VwRng(v:Vw):Prop where
 base:I64 v.bn∧I64 v.bd
def Vw.ds(v:Vw):List Int:=[v.insured,v.worked,v.voluntary,v.service,v.equated,v.raising,v.resident]
theorem days_any(v:Vw)(y:Value)(w:World)(hy:∃a n c,y= .slice a n c):Calls Tryz.prog 66 #[vwV v y] w fun r w'=>r= .returned (.agg #[.int .i64 v.insured,.int .i64 v.worked,.int .i64 v.voluntary,.int .i64 v.service,.int .i64 v.equated,.int .i64 v.raising,.int .i64 v.resident])∧w.Grows w':=by
 obtain⟨a,n,c,rfl⟩:=hy
 obtain⟨age,year,children,insured,worked,voluntary,service,equated,raising,resident,bn,bd,years⟩:=v
 show Calls Tryz.prog 66 #[.agg #[.int .i64 age,.int .i64 year,.int .i64 children,.int .i64 insured,.int .i64 worked,.int .i64 voluntary,.int .i64 service,.int .i64 equated,.int .i64 raising,.int .i64 resident,.int .i64 bn,.int .i64 bd,.slice a n c]] w _
 dsimp only
 go_enter Tryz.func66,Tryz.ntmps66
 exact bz36
end Go.Proofs.YtaghhncnicbedaaGreatDoor
namespace Go.Proofs.YtaghhncnicbedaaGreatDoor
open Go.RowKit Go.Shelf Go.Sort Go.Lib
attribute [local go_sem] Oper.semAt_some
def YrLies(n₀:Nat)(W:World)(v:Value)(l:List Int):Prop:=
 l.length≤1000∧∃a cap,v= .slice a l.length cap∧(l.length=0∨∃b off,a=some ⟨b,off,none⟩∧b<n₀∧∀i,i<l.length→W.cell? ⟨b,off+i,none⟩=some (.int .i64 (l.getD i 0)))
theorem YrLies.below{n₀:Nat}{W W':World}{v:Value}{l:List Int}(h:YrLies n₀ W v l)(hb:Below n₀ W W'):YrLies n₀ W' v l:=by
 obtain⟨h0,a,cap,hv,h1⟩:=h
 refine⟨h0,a,cap,hv,h1.imp id ?_⟩
 rintro⟨b,off,ha,hlt,hc⟩
 exact⟨b,off,ha,hlt,fun i hi=>(hb.cell (p:=⟨b,off+i,none⟩) hlt).trans (hc i hi)⟩
theorem YrAt.lies{w:World}{v:Value}{l:List Int}(h:YrAt w v l):YrLies w.heap.size w v l:=h
theorem take_snocI(l:List Int)(k:Nat)(hk:k<l.length):l.take (k+1)=l.take k++[l.getD k 0]:=by
 exact bz54
theorem valI1_in(F:Fence)(n:Nat)(hf:F.fn 146)(hro:F.round=none)(hn:1≤n)(l Bs n₀:Nat)(x:List Int)(v:Value)(J Jx:List Int→World→Prop)
 (hY:∀pre (i:Int) W,J pre W→pre.length<x.length→YieldAt F (n-1) Tryz.prog l #[.int .i64 i] W fun e W'=>
  (e= .returned (.bool true)∧J (pre++[i]) W'∧Below n₀ W W')∨(e= .returned (.bool false)∧Jx (pre++[i]) W'))
 (W:World) (hBs:W.cell? ⟨Bs,0,none⟩=some v) (hBl:Bs<n₀) (hL:YrLies n₀ W v x) (h0:J [] W) :
 CallsIn F n Tryz.prog 146 #[.func (.yield l) #[] #[],.pointer (some ⟨Bs,0,none⟩)] W fun e W'=>(∃v,e= .returned v)∧
  ((∃ys,ys=x∧J ys W')∨(∃pre,(∃k,k<x.length∧pre=x.take (k+1))∧Jx pre W')):=by
 have HL:=Lib.hid hL
 obtain⟨h1000,a,cap,rfl,-⟩:=hL
 refine callsIn_of_wp Tryz.func146 rfl hf ?_ hro
 simp only [Tryz.ntmps146,List.size_toArray,List.length_cons,List.length_nil,Nat.reduceAdd,Nat.reduceSub,Array.replicate_succ,Array.replicate_zero,List.push_toArray,List.append_toArray,List.nil_append,List.cons_append]
 gi_wp2
 gi_loopw [7] (fun vi wr=>∃k:Nat,k≤x.length∧vi= .int .i64 k∧J (x.take k) wr∧Below n₀ W wr) (fun vi _=>x.length-(intOf vi).toNat)
 case atStart=>exact⟨0,Nat.zero_le _,rfl,h0,Below.refl _ _⟩
 case round=>
  obtain⟨k,hk,rfl,hJs,hnx⟩:=hrel
  by_cases hlt:k<x.length
  ·have hLr:=HL.out.below hnx
   obtain⟨-,a',cap',hv,hx⟩:=hLr
   simp only [Value.slice.injEq,true_and]at hv
   obtain⟨rfl,rfl⟩:=hv
   rcases hx with hx|⟨b,off,rfl,hb,hx⟩
   ·omega
   have q0:=hx k hlt
   obtain⟨fn,tmps,assign,body,hy,hR⟩:=hY _ (x.getD k 0) wr hJs (by rw [List.length_take];omega)
   have HS:=Lib.hid (take_snocI x k hlt)
   generalize x.getD k 0=z0 at *
   have d1:(k:Int)<(x.length:Int):=by omega
   have hlen1:(x.length:Int)≤1000:=by omega
   clear hx hBs h0
   gi_wp2
   refine hR.mono ?_
   rintro e W3 (⟨rfl,hJ3,hk3⟩|⟨rfl,hJx3⟩)
   ·gi_wp2
    go_roundw
    case rel=>exact⟨k+1,by omega,by go_num,by rw [HS.out];exact hJ3,hnx.trans hk3⟩
    case measure=>simp [intOf];omega
   ·gi_wp2
    refine bodyPost_ret (results_none rfl _ _ _) rfl ?_
    exact⟨⟨_,rfl⟩,.inr ⟨_,⟨k,hlt,HS.out.symm⟩,hJx3⟩⟩
  ·obtain rfl:k=x.length:=by omega
   gi_wp2
   go_end0
   exact⟨⟨_,rfl⟩,.inl ⟨_,List.take_length,hJs⟩⟩
theorem valI_in(F:Fence)(n:Nat)(hf:F.fn 102)(hro:F.round=none)(a:Option Addr)(len cap:Nat)(w:World) :
 CallsIn F n Tryz.prog 102 #[.slice a len cap] w fun e w'=>e= .returned (.func (.func 146) #[] #[.pointer (some ⟨w.heap.size,0,none⟩)])∧w'=w.alloc (.cells #[.slice a len cap] 22):=by
 refine callsIn_of_wp Tryz.func102 rfl hf ?_ hro
 simp only [Tryz.ntmps102,List.size_toArray,List.length_cons,List.length_nil,Nat.reduceAdd,Nat.reduceSub,Array.replicate_succ,Array.replicate_zero,List.push_toArray,List.append_toArray,List.nil_append,List.cons_append]
 gi_wp2
 go_ret
 exact⟨rfl,rfl⟩
theorem valI_stops(F:Fence)(n:Nat)(hf:F.fn 146)(hro:F.round=none)(hn:1≤n)(Bs n₀:Nat)(v:Value)(x:List Int)(w:World)(hBs:Bs<n₀)(hn₀:n₀≤w.heap.size)
 (hc:w.cell? ⟨Bs,0,none⟩=some v) (hL:YrLies n₀ w v x) :
 SeqStopsK F n Tryz.prog 146 #[.pointer (some ⟨Bs,0,none⟩)] (fun i:Int=>#[Value.int .i64 i]) (Below n₀) (fun ys=>ys=x) (fun pre=>∃k,k<x.length∧pre=x.take (k+1)) x.length w:=fun l J Jx W hW _ _ hY h0=>
 valI1_in F n hf hro hn l Bs n₀ x v J Jx hY W ((hW.cell (p:=⟨Bs,0,none⟩) (by show Bs<w.heap.size;omega)).trans hc) hBs (hL.below (hW.mono hn₀)) h0
theorem infoY:(Tryz.prog.info? 3).map (fun i=>(i.zero,i.size,i.bytes))=some (some (.int .i64 0),1,8):=by kernel_rfl
theorem appI_in(x:List Int)(v:Value)(Bs:Nat)(w:World)(hb:Bs<w.heap.size)(hc0:w.cell? ⟨Bs,0,none⟩=some v)(hL:YrAt w v x) :
 CallsIn Fence.wide 5 Tryz.prog 188 #[.slice none 0 0,.func (.func 146) #[] #[.pointer (some ⟨Bs,0,none⟩)]] w fun e W'=>
  ∃v',e= .returned v'∧W'.ownsRow w.heap.size 3 1 v' x.length (x.map (Value.int .i64))∧Below w.heap.size w W':=by
 obtain⟨i0,hi,hz0,hz1,hz2⟩:=info_parts infoY
 have h1000:=hL.1
 refine callsIn_of_wp_marks Tryz.func188 rfl trivial ?_ rfl
 simp only [Tryz.ntmps188,List.size_toArray,List.length_cons,List.length_nil,Nat.reduceAdd,Nat.reduceSub,Array.replicate_succ,Array.replicate_zero,List.push_toArray,List.append_toArray,List.nil_append,List.cons_append]
 gi_wp2
 have bO:=Boxed.new w 22 (.slice none 0 0)
 have hB0:Below w.heap.size w (w.alloc (.cells #[.slice none 0 0] 22)):=(Below.refl _ w).alloc (Nat.le_refl _) _
 refine wpIn_rangeFunc_ownG (F:=Fence.wide) rfl (by omega) (gf:=146) (lb:=#[.pointer (some ⟨Bs,0,none⟩)]) rfl trivial (enters_of Tryz.func146 (by kernel_rfl) rfl)
  (valI_stops Fence.wide 4 trivial rfl (by omega) Bs w.heap.size v x _ hb (by simp) ((hB0.cell (p:=⟨Bs,0,none⟩) hb).trans hc0) (hL.lies.below hB0)) belowK_t (belowK_b (by simp)) (Below.refl _ _) (fun _=>rfl)
  (fun pre W=>(∃v,Boxed W w.heap.size 22 v∧W.ownsRow w.heap.size 3 1 v pre.length (pre.map (Value.int .i64))∧True)∧Below w.heap.size w W)
  (fun _ _ _=>False)
  (OwnFrom.and (Own.from (holdsRow_own w.heap.size w.heap.size 22 3 1 (fun pre:List Int=>pre.length) (fun pre=>pre.map (Value.int .i64)) (fun _ _=>True)) _) (ownFrom_below (Nat.le_refl _) (by simp)))
  (fun _ _ _ _ _ hs _ _=>hs)
  ⟨⟨_,bO,World.ownsRow_nil _ _ _ _,trivial⟩,hB0⟩
  (fun z=>{tmps:=#[.slice none 0 0,.func (.func 146) #[] #[.pointer (some ⟨Bs,0,none⟩)],.pointer (some ⟨w.heap.size,0,none⟩),undef,.slice none 0 0,.int .i64 z,.func (.func 146) #[] #[.pointer (some ⟨Bs,0,none⟩)],.int .i64 z,undef,undef,undef,undef,undef],defers:=[]}) ?assign ?body ?done ?stop
 case assign=>
  intro l z W K hK
  gi_wp2
  exact hK
 case body=>
  rintro l pre z W ⟨⟨v2,hv,hrow,-⟩,hB⟩ hlt
  have hc:=hv.cell
  gi_wp2_with (gi_at_builtin;refine wpListIn_append_own _ rfl _ _ 22 rfl w.heap.size 3 i0 (.int .i64 0) 1 8 Tryz.underlying22 hi hz0 hz1 hz2 rfl (by decide) _ _ _ rfl (hrow.alloc _) ⟨W.heap.size,0,none⟩ 1 1 [.int .i64 z] rfl rfl (cell_one_new _ _ _) (by simp [Value.oneCell']) (by unfold maxLen;omega) (by omega) (by have:=hB.size;simp;omega) ?_;intro v' w1 hown' hgrow _;obtain⟨g',cap',rfl⟩:=ownsRow_succ hown';obtain⟨hv1,hv2,hr2,hk2,hb2⟩:=hv.appended (by decide) hrow hB.size (Nat.le_refl _) hown' hgrow;have hc1:=hv1.cell;have hf1:=hv1.frozen)
  exact⟨hk2.from _,hb2,⟨_,hv2,by simpa using hr2,trivial⟩,hB.trans hb2⟩
 case done=>
  rintro D ys W hD rfl ⟨⟨v2,hv,hrow,-⟩,hB⟩ hK
  have hc:=hv.cell
  gi_wp2
  refine⟨by simp,.inl ⟨_,_,rfl,run_takeDeferred hK, ?_⟩⟩
  exact⟨_,results_tmp rfl _ _ _,v2,rfl,ownsRow_putObj hrow _ hK rfl,hB.trans (belowK_b (w:=w) (Nat.le_refl _) W D _ _ (by simp at hD;omega) hK rfl rfl)⟩
 case stop=>
  rintro D c pre W _ _ h _
  exact h.elim
theorem ownsRow_unpackY{w:World}{base g n cap:Nat}{e:TypeId}{zs:List Int}(h:w.ownsRow base e 1 (.slice (some ⟨g,0,none⟩) n cap) n (zs.map (Value.int .i64))) :
 ∃cur,zs.length=n∧base≤g∧w.heap[g]? =some (.cells cur e (0,0))∧n≤cap∧cap≤maxLen∧cur.size=cap*1∧cur.toList.take n=zs.map (Value.int .i64):=by
 obtain⟨h0,h1|⟨g',cap',cur,hv,hb,hg,h2,h3,h4,h5⟩⟩:=h
 ·cases h1.1
 ·simp only [Value.slice.injEq,Option.some.injEq,Addr.mk.injEq,and_true,true_and]at hv
  obtain⟨rfl,rfl⟩:=hv
  exact⟨cur,by simpa using h0,hb,hg,h2,h3,h4,by simpa using h5⟩
theorem sort_rowY{base g cap:Nat}{zs:List Int}{w:World}(h:w.ownsRow base 3 1 (.slice (some ⟨g,0,none⟩) zs.length cap) zs.length (zs.map (Value.int .i64)))(hl:zs.length≤1000) :
 Calls Tryz.prog 145 #[.slice (some ⟨g,0,none⟩) zs.length cap] w fun e w'=>e= .returned (.tuple #[])∧w.grownBy w' (some g)∧
  w'.ownsRow base 3 1 (.slice (some ⟨g,0,none⟩) zs.length cap) zs.length ((zs.mergeSort fun x y=>decide (x≤y)).map (Value.int .i64)):=by
 obtain⟨cur,-,hb,hg,h2,h3,h4,h5⟩:=ownsRow_unpackY h
 refine(Tryz.slices_Sort_int g 0 cap zs w (holds_of_blockI hg h5) (Array.getElem?_eq_some_iff.1 hg).1 (by omega)).mono ?_
 rintro e w' ⟨rfl,n,os,rfl⟩
 exact⟨rfl,grownBy_sortedI _,ownsRow_sortedI (by simp) hb hg h2 h3 h4⟩
end Go.Proofs.YtaghhncnicbedaaGreatDoor
namespace Go.Proofs.YtaghhncnicbedaaGreatDoor
open Go.RowKit Go.Sort Go.Lib
theorem YrAt.of_row{w:World}{base:Nat}{v:Value}{l:List Int}(h:w.ownsRow base 3 1 v l.length (l.map (Value.int .i64)))(hl:l.length≤1000):YrAt w v l:=by
 obtain⟨-,⟨rfl,h0⟩|⟨g,cap,cur,rfl,hb,hg,h2,h3,h4,h5⟩⟩:=id h
 ·exact⟨by omega,none,0,by rw [h0],.inl h0⟩
 ·refine⟨by omega,_,cap,rfl,.inr ⟨g,0,rfl,(Array.getElem?_eq_some_iff.1 hg).1,fun i hi=>?_⟩⟩
  rw [Nat.zero_add,h.cellAt i (by omega),List.getElem?_map,List.getElem?_eq_getElem hi,List.getD_eq_getElem?_getD,List.getElem?_eq_getElem hi]
  rfl
def SrtPost(x:List Int)(w:World)(e:Ending)(w':World):Prop:=∃(a:Option Addr) (cap:Nat) (ss:List Int),e= .returned (.slice a ss.length cap)∧ss.length≤cap∧ss.Perm x∧ss.Pairwise (·≤·)∧YrAt w' (.slice a ss.length cap) ss∧w.Grows w'
def ColPost(x:List Int)(w:World)(e:Ending)(w':World):Prop:=∃v',e= .returned v'∧w'.ownsRow w.heap.size 3 1 v' x.length (x.map (Value.int .i64))∧Below w.heap.size w w'
theorem collect_any(x:List Int)(v:Value)(Bs:Nat)(w:World)(hb:Bs<w.heap.size)(hc0:w.cell? ⟨Bs,0,none⟩=some v)(hL:YrAt w v x) :
 Calls Tryz.prog 144 #[.func (.func 146) #[] #[.pointer (some ⟨Bs,0,none⟩)]] w (ColPost x w):=by
 have HA:=Lib.hid (callsIn_wide.1 (appI_in x v Bs w hb hc0 hL))
 clear hc0 hL
 go_enter Tryz.func144,Tryz.ntmps144
 go_wp2_with (go_at_call 188;refine HA.out.mono ?_;rintro e' w' ⟨v',rfl,hown,hbel⟩)
 go_returns
 exact⟨_,rfl,hown,hbel⟩
theorem sort_pair(l:List Int):(l.mergeSort fun x y=>decide (x≤y)).Pairwise (·≤·):=by
 have:=List.pairwise_mergeSort (le:=fun x y:Int=>decide (x≤y)) (by intro a b c h1 h2;simp at *;omega) (by intro a b;simp;omega) l
 exact this.imp fun h=>by simpa using h
theorem below_row{w w1 w2:World}{g:Nat}(h:Below w.heap.size w w1)(hg:w1.grownBy w2 (some g))(hle:w.heap.size≤g):Below w.heap.size w w2:=h.grown hg h.size (fun k hk=>by cases hk;exact hle)
theorem sorted_any(x:List Int)(v:Value)(Bs:Nat)(w:World)(hb:Bs<w.heap.size)(hc0:w.cell? ⟨Bs,0,none⟩=some v)(hL:YrAt w v x) :
 Calls Tryz.prog 101 #[.func (.func 146) #[] #[.pointer (some ⟨Bs,0,none⟩)]] w (SrtPost x w):=by
 have HC:=Lib.hid (collect_any x v Bs w hb hc0 hL)
 have h1000:=hL.1
 clear hc0 hL
 go_enter Tryz.func101,Tryz.ntmps101
 go_wp2_with (go_at_call 144;refine HC.out.mono ?_;rintro e' w' ⟨v',rfl,hown,hbel⟩;have HO:=Lib.hid hown;have HB:=Lib.hid hbel;obtain⟨hl0,⟨rfl,hz⟩|⟨g,cap,cur,rfl,hbg,hg,h2,h3,h4,h5⟩⟩:=hown;clear hbel)
 ·obtain rfl:x= []:=List.eq_nil_of_length_eq_zero hz
  go_wp2_with (go_at_call 145;refine(Tryz.slices_Sort_int_none none 0 _).mono ?_;rintro e2 w2 ⟨rfl,rfl⟩)
  go_returns
  exact⟨none,0,[],rfl,Nat.le_refl _,.refl _,.nil,⟨by simp,none,0,rfl,.inl rfl⟩,.of_below HB.out⟩
 ·have HS:=Lib.hid (sort_rowY (zs:=x) HO.out h1000)
  have HH:=Lib.hid (And.intro hbg h2)
  clear hg h2 h3 h4 h5 hl0
  go_wp2_with (go_at_call 145;refine(HS.out).mono ?_;rintro e2 w2 ⟨rfl,hg2,hown2⟩)
  go_returns
  have hlen:(x.mergeSort fun x y=>decide (x≤y)).length=x.length:=by simp
  refine⟨some ⟨g,0,none⟩,cap,x.mergeSort fun x y=>decide (x≤y),by rw [hlen];rfl,by rw [hlen];exact HH.out.2,List.mergeSort_perm _ _,sort_pair x, ?_,.of_below (below_row HB.out hg2 HH.out.1)⟩
  have ho:=hown2
  rw [←hlen]at ho
  exact YrAt.of_row ho (by rw [hlen];exact h1000)
theorem dropK{ss:List Int}{m j:Nat}:(ss.drop m).getD j 0=ss.getD (m+j) 0:=by
 rw [List.getD_eq_getElem?_getD,List.getElem?_drop,←List.getD_eq_getElem?_getD]
end Go.Proofs.YtaghhncnicbedaaGreatDoor
namespace Go.Proofs.YtaghhncnicbedaaGreatDoor
def EnvG(env:List (ByteArray × Int)):Prop:=∀p∈env,inpD p.1.toList=0∧nameB p.1=true∧1≤p.2∧p.2≤4∧lastN env p.1=some p.2
theorem EnvG.nil:EnvG []:=fun p hp=>by cases hp
theorem mkD_dvd{n d:Int}(h2:1≤d)(he:mkE n d=0):mkD n d ∣ d:=by
 unfold mkE lowE at he
 unfold mkD lowD
 rw [if_neg (by omega)]at he ⊢
 split at he<;>rename_i hc
 ·simp at he
 rw [if_neg hc]
 obtain⟨b,rfl⟩:=Int.eq_ofNat_of_zero_le (show 0≤d by omega)
 rw [Int.natAbs_natCast]
 exact Int.natCast_dvd_natCast.2 (Nat.div_dvd_of_dvd (Nat.gcd_dvd_right _ _))
theorem mkN_le{n d:Int}(h1:0≤n)(h2:1≤d):mkN n d≤n:=by
 unfold mkN lowN
 rw [if_neg (by omega),decide_eq_false (by omega),decide_eq_false (by omega)]
 split
 ·omega
 ·have:=Nat.div_le_self n.natAbs (Nat.gcd n.natAbs d.natAbs)
  simp only [bne_self_eq_false,Bool.false_eq_true,if_false]
  omega
theorem lit_ok{n d m:Int}(h1:0≤n)(h2:n≤1000000)(h3:1≤d)(h4:d ∣ 10000)(h5:2≤m∧m≤4):decOk (mkN n d) (mkD n d) m=true:=by
 have hd:d≤10000:=Int.le_of_dvd (by omega) h4
 have he:=mkE_small h1 (by omega) h3 (by omega)
 have hv:=mk_vfrac (show d≠0 by omega) he
 have hb:=vfrac_bd hv
 have hn:=mkN_nonneg h1 h3
 have hl:=mkN_le h1 h3
 have hdv:mkD n d ∣ 10000:=Int.dvd_trans (mkD_dvd h3 he) h4
 have hq:mkN n d / mkD n d≤mkN n d:=Int.ediv_le_self _ hn
 unfold decOk
 rw [hv,decide_eq_true hn,decide_eq_true (Int.emod_eq_zero_of_dvd hdv),decide_eq_true h5.1,decide_eq_true h5.2,decide_eq_true (by omega)]
 rfl
theorem num_ok(zs:List Int)(p:Nat){m:Int}(h5:2≤m∧m≤4):decOk (numN zs p) (numD zs p) m=true:=by
 have h1:=nextV_bd zs p 4000 (by omega)
 have h2:=nextV_bd zs (p+1) 7 (by omega)
 unfold numN numD
 refine lit_ok h1.1 (by omega) ?_ ?_ h5
 all_goals
  generalize nextV zs (p+1) 7=i at *
  rcases(show i=0∨i=1∨i=2∨i=3∨i=4∨i=5∨i=6 by omega)with rfl|rfl|rfl|rfl|rfl|rfl|rfl<;>decide
theorem inp_names:∀p∈inpN,nameB p.1=true∧inpD p.1.toList=p.2:=by decide+kernel
theorem name_in{env:List (ByteArray × Int)}(hE:EnvG env){dim:Int}(hd:2≤dim){s:ByteArray}(h:s∈allNames env dim):nameB s=true∧inferN env s=(dim,0):=by
 unfold allNames namesOf at h
 rcases List.mem_append.1 h with h|h
 ·obtain⟨p,hp,rfl⟩:=List.mem_map.1 h
  obtain⟨hp,hq⟩:=List.mem_filter.1 hp
  have hq:=of_decide_eq_true hq
  obtain⟨h1,h2⟩:=inp_names p hp
  refine⟨h1, ?_⟩
  unfold inferN
  rw [if_pos (by omega),h2,hq]
 ·obtain⟨p,hp,rfl⟩:=List.mem_map.1 h
  obtain⟨hp,hq⟩:=List.mem_filter.1 hp
  have hq:=of_decide_eq_true hq
  obtain⟨h1,h2,h3,h4,h5⟩:=hE p hp
  refine⟨h2, ?_⟩
  unfold inferN
  rw [if_neg (by omega),h5,hq]
def TypedE(env:List (ByteArray × Int))(dim:Int)(e:Ex):Prop:=formedB e=true∧inferF env e=(dim,0)
theorem leafN_typed(zs:List Int){env:List (ByteArray × Int)}(hE:EnvG env)(p:Nat){dim:Int}(h1:2≤dim)(h2:dim≤4):TypedE env dim (leafN zs env p dim).1:=by
 have hb:=nextV_bd zs p ((allNames env dim).length+3) (by omega)
 unfold leafN
 split<;>rename_i hc
 ·have hm:((allNames env dim).getD (nextV zs p ((allNames env dim).length+3)).toNat ByteArray.empty)∈allNames env dim:=by
   have hlt:(nextV zs p ((allNames env dim).length+3)).toNat<(allNames env dim).length:=by omega
   rw [List.getD_eq_getElem?_getD,List.getElem?_eq_getElem hlt]
   exact List.getElem_mem _
  obtain⟨g1,g2⟩:=name_in hE h1 hm
  generalize(allNames env dim).getD (nextV zs p ((allNames env dim).length+3)).toNat ByteArray.empty=nm at g1 g2 ⊢
  refine⟨?_, ?_⟩
  ·rw [formedB_eq]
   simp [Ex.op,Ex.args,Ex.name,Ex.num,Ex.den,Ex.dim,argsN,g1]
  ·rw [inferF_eq]
   unfold infNode
   exact g2
 ·split<;>rename_i hc2
  ·have h5:=nextV_bd zs (p+1) 5 (by omega)
   obtain⟨rfl,-⟩:=hc2
   refine⟨?_,by rw [inferF_eq];rfl⟩
   rw [formedB_eq]
   have e:ByteArray.empty.toList.isEmpty=true:=by decide+kernel
   simp [Ex.op,Ex.args,Ex.name,Ex.num,Ex.den,Ex.dim,argsN,e]
   exact⟨decide_eq_true (by omega),decide_eq_true (by omega)⟩
  ·refine⟨?_,by rw [inferF_eq];rfl⟩
   have:=num_ok zs (p+1) ⟨h1,h2⟩
   rw [formedB_eq]
   simp [Ex.op,Ex.args,Ex.name,Ex.num,Ex.den,Ex.dim,argsN,this]
def TypedL(env:List (ByteArray × Int))(ds:List Int)(l:List Ex):Prop:=formedsB l=true∧infersF env l=(ds,0)∧l.length=ds.length
theorem TypedL.nil(env:List (ByteArray × Int)):TypedL env [] []:=⟨rfl,rfl,rfl⟩
theorem TypedL.cons{env:List (ByteArray × Int)}{d:Int}{ds:List Int}{e:Ex}{l:List Ex}(h:TypedE env d e)(g:TypedL env ds l):TypedL env (d::ds) (e::l):=by
 refine⟨by rw [formedsB,h.1,g.1];rfl, ?_,by simp [g.2.2]⟩
 rw [infersF,h.2,g.2.1];simp
theorem node_typed{env:List (ByteArray × Int)}{op dim:Int}{ds:List Int}{l:List Ex}(g:TypedL env ds l)(h4:4≤op)(ha:(ds.length:Int)=argsN op)(hr:resD op ds=dim)(hd:dim≠0):TypedE env dim (.mk op 0 0 0 ByteArray.empty l):=by
 refine⟨?_, ?_⟩
 ·rw [formedB_eq]
  show(decide ((l.length:Int)=argsN op)&&_)=true
  rw [decide_eq_true (by rw [g.2.2];exact ha),Bool.true_and]
  show(if op=1 then _ else _)=true
  rw [if_neg (by omega),if_neg (by show ¬op=2;omega),if_neg (by show ¬op=3;omega)]
  show(formedsB l&&_)=true
  have e:ByteArray.empty.toList.isEmpty=true:=by decide+kernel
  rw [g.1];simp [Ex.num,Ex.den,Ex.dim,Ex.name,e]
 ·rw [inferF_eq]
  show infNode op 0 _ (infersF env l)=_
  rw [g.2.1]
  unfold infNode
  rw [if_neg (by omega),if_neg (by omega),if_neg (by omega),if_neg (by simp)]
  show(if resD op ds=0 then _ else _)=_
  rw [hr,if_neg hd]
theorem leafF_typed(zs:List Int){env:List (ByteArray × Int)}(hE:EnvG env)(p:Nat)(left:Int){dim:Int}(h1:1≤dim)(h2:dim≤4):TypedE env dim (leafF zs env dim p left).1:=by
 unfold leafF
 split<;>rename_i hc
 ·subst hc
  have a:=nextV_bd zs p 3 (by omega)
  have b:=nextV_bd zs (p+1) 6 (by omega)
  generalize nextV zs p 3=x at *
  generalize nextV zs (p+1) 6=o at *
  refine node_typed (ds:=[2+x,2+x]) (.cons (leafN_typed zs hE _ (by omega) (by omega)) (.cons (leafN_typed zs hE _ (by omega) (by omega)) (.nil _))) (by omega) ?_ ?_ (by omega)
  ·unfold argsN;rw [if_neg (by omega),if_neg (by omega),if_pos (by omega)];rfl
  ·rw [res_cmp _ _ ⟨by omega,by omega⟩,if_pos ⟨rfl,by omega⟩]
 ·exact leafN_typed zs hE p (by omega) h2
def prodT(dim:Int):Option (Int × List Int × Nat)→Prop
 |none=>True
 |some t=>4≤t.1∧(t.2.1.length:Int)=argsN t.1∧resD t.1 t.2.1=dim∧∀d∈t.2.1,1≤d∧d≤4
theorem prodT_ite{dim:Int}{c:Prop}[Decidable c]{a b:Option (Int × List Int × Nat)}(ha:c→prodT dim a)(hb:¬c→prodT dim b):prodT dim (if c then a else b):=by
 split<;>rename_i h
 ·exact ha h
 ·exact hb h
theorem prodF_typed(zs:List Int)(p:Nat){dim:Int}(h1:1≤dim)(h2:dim≤4):prodT dim (prodF zs p dim):=by
 have a:=nextV_bd zs p 14 (by omega)
 have b:=nextV_bd zs (p+1) 3 (by omega)
 have c:=nextV_bd zs (p+2) 6 (by omega)
 unfold prodF
 generalize nextV zs p 14=x at *
 generalize nextV zs (p+1) 3=y at *
 generalize nextV zs (p+2) 6=z at *
 rcases(show dim=1∨dim=2∨dim=3∨dim=4 by omega)with rfl|rfl|rfl|rfl
 all_goals
  repeat' (first|refine prodT_ite (fun _=>?_) (fun _=>?_))
  all_goals first
   |trivial
   |(exfalso;omega)
   |(refine⟨by show(4:Int)≤_;omega, ?_, ?_, ?_⟩
     ·show((_:List Int).length:Int)=argsN _
      unfold argsN
      (repeat' split)<;>first|rfl|(exfalso;omega)|(simp;done)
     ·unfold resD
      simp
      try omega
     ·intro d hd
      simp at hd
      omega)
theorem nodeF_typed{env:List (ByteArray × Int)}{E:Int→Nat→Int→Ex × Nat × Int}(hE:∀d p left,1≤d→d≤4→TypedE env d (E d p left).1)(ds:List Int):(∀d∈ds,1≤d∧d≤4)→∀p left,TypedL env ds (nodeF E ds p left).1:=by
 induction ds with
 |nil=>intro _ p left;exact .nil _
 |cons d ds ih=>
  intro h p left
  have hd:=h d (by simp)
  exact .cons (hE d p left hd.1 hd.2) (ih (fun x hx=>h x (by simp [hx])) _ _)
theorem exprF_typed(zs:List Int){env:List (ByteArray × Int)}(hE:EnvG env)(n:Nat):∀(dim:Int) (p:Nat) (left:Int),1≤dim→dim≤4→TypedE env dim (exprF zs env n dim p left).1:=by
 induction n with
 |zero=>intro dim p left h1 h2;exact leafF_typed zs hE p left h1 h2
 |succ n ih=>
  intro dim p left h1 h2
  by_cases hl:left≤0
  ·rw [exprF_leaf zs env _ dim p left (.inr hl)]
   exact leafF_typed zs hE p left h1 h2
  ·have hp:=prodF_typed zs p h1 h2
   cases hq:prodF zs p dim with
   |none=>
    rw [exprF_none zs env n dim p left (by omega) hq]
    exact leafF_typed zs hE _ _ h1 h2
   |some t=>
    obtain⟨op,ds,q⟩:=t
    rw [hq]at hp
    obtain⟨g1,g2,g3,g4⟩:=hp
    rw [exprF_some zs env n dim p left (by omega) hq]
    exact node_typed (nodeF_typed (fun d p left a b=>ih d p left a b) ds g4 q (left-2)) g1 g2 g3 (by omega)
theorem leafN_depth(zs:List Int)(env:List (ByteArray × Int))(p:Nat)(dim:Int):(leafN zs env p dim).1.depth=1:=by
 unfold leafN
 split
 ·simp [Ex.depth,Ex.depths]
 ·split<;>simp [Ex.depth,Ex.depths]
theorem leafF_depth(zs:List Int)(env:List (ByteArray × Int))(dim:Int)(p:Nat)(left:Int):(leafF zs env dim p left).1.depth≤2:=by
 unfold leafF
 split
 ·simp [Ex.depth,Ex.depths,leafN_depth]
 ·simp [leafN_depth]
theorem topF_typed(zs:List Int){env:List (ByteArray × Int)}(hE:EnvG env){dim:Int}(h1:1≤dim)(h2:dim≤4):TypedE env dim (topF zs env dim)∧validB (topF zs env dim)=true:=by
 unfold topF
 split<;>rename_i hv
 ·exact⟨exprF_typed zs hE 5 dim 0 24 h1 h2,hv⟩
 ·have ht:=leafF_typed zs hE (exprF zs env 5 dim 0 24).2.1 0 h1 h2
  refine⟨ht, ?_⟩
  have a:=leafF_depth zs env dim (exprF zs env 5 dim 0 24).2.1 0
  have b:=leafF_size zs env dim (exprF zs env 5 dim 0 24).2.1 0
  unfold validB
  rw [ht.1,decide_eq_true (by omega),decide_eq_true (by omega)]
  rfl
end Go.Proofs.YtaghhncnicbedaaGreatDoor
