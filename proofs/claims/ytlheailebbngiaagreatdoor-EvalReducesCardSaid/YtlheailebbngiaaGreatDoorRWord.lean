import Derived.Test.YtlheailebbngiaaGreatDoorRWide
set_option linter.all false
set_option maxHeartbeats 16000000
set_option maxRecDepth 1000000
namespace Go.Proofs.YtlheailebbngiaaGreatDoor
open Tryz List
open Go.RowKit

def uA(c:Int):Bool:=decide (97<=c)&&decide (c<=122)
def oD(c:Int):Bool:=decide (48<=c)&&decide (c<=57)

theorem iR(c:Int)(w:World):Calls prog 165 #[.int .u8 c] w fun e w'=>e= .returned (.bool (uA c))/\w=w':=by
 by_cases c1:97<=c
 ·by_cases c2:c<=122
  ·go_enter func165,ntmps165
   go_wp2
   go_returns
   exact⟨au (by simp [uA,c1,c2]),rfl⟩
  ·go_enter func165,ntmps165
   exact MH
 ·go_enter func165,ntmps165
  exact MH
theorem oC(c:Int)(w:World):Calls prog 166 #[.int .u8 c] w fun e w'=>e= .returned (.bool (oD c))/\w=w':=by
 by_cases c1:48<=c
 ·by_cases c2:c<=57
  ·go_enter func166,ntmps166
   go_wp2
   go_returns
   exact⟨au (by simp [oD,c1,c2]),rfl⟩
  ·go_enter func166,ntmps166
   exact MG
 ·go_enter func166,ntmps166
  exact MG
def bi(op:Int):Int:=if 1<=op/\op<=3 then 0 else if 4<=op/\op<=6 then 1 else if 7<=op/\op<=20 then 2 else if op=21 then 3 else -1
theorem mX(op:Int)(w:World):Calls prog 104 #[.int .i64 op] w fun e w'=>e= .returned (.int .i64 (bi op))/\w=w':=by
 by_cases c1:op<1
 ·exact JU
 ·by_cases c2:op<=3
  ·exact JU
  ·by_cases c3:op<=6
   ·exact JU
   ·by_cases c4:op<=20
    ·exact JU
    ·by_cases c5:op=21
     ·subst c5
      go_enter func104,ntmps104
      go_wp2
      go_returns
      exact⟨ret_int (by simp [bi]),rfl⟩
     ·exact JU
def byt(s:ByteArray)(i:Nat):Int:=if h:i<s.size then(s[i].toNat:Int)else 0
theorem uZ(s:ByteArray)(i:Nat)(h:i<s.size):byt s i=(s[i].toNat:Int):=by simp [byt,h]
def jd(i:Nat)(c:Int):Bool:=uA c || (i !=0&&(oD c || decide (c=95)))
def isWord(s:ByteArray):Bool:=decide (∀i,i<s.size->jd i (byt s i)=true)&&decide (1<=s.size)&&decide (s.size<=12)
theorem nC(s:ByteArray)(k:Nat)(h:k<s.size)(hc:jd k (s[k].toNat:Int)=false):isWord s=false:=by
 have:¬∀i,i<s.size->jd i (byt s i)=true:=fun f=>by have:=f k h;rw [uZ s k h,hc]at this;cases this
 simp only [isWord,decide_eq_false this,Bool.false_and]
theorem oo(s:ByteArray)(h:∀i,i<s.size->jd i (byt s i)=true):isWord s=(decide (1<=s.size)&&decide (s.size<=12)):=by
 simp only [isWord,decide_eq_true h,Bool.true_and]
theorem EG(s:ByteArray)(w:World)(hs:s.size<=maxLen):Calls prog 126 #[.string s] w fun e w'=>e= .returned (.bool (isWord s))/\w=w':=by
 unfold maxLen at hs
 go_enter func126,ntmps126
 go_wp2
 go_loop [3] (fun i=>∃k:Nat,k<=s.size/\i= .int .i64 k/\∀j,j<k->jd j (byt s j)=true) (fun i=>s.size-(intOf i).toNat)
 case atStart=>exact⟨0,Nat.zero_le _,rfl,fun j hj=>absurd hj (Nat.not_lt_zero _)⟩
 case round=>
  obtain⟨k,hk,rfl,hall⟩:=hrel;by_cases hk2:k<s.size
  ·cases hL:uA (s[k].toNat:Int)
   ·by_cases h0:k=0
    ·subst h0
     go_wp2_with ((go_at_call 165;(with_reducible refine(iR _ _).mono ?_);rintro e w' ⟨rfl,rfl⟩;simp only [hL]))
     go_ret
     exact⟨au (nC s 0 hk2 (by simp [jd,hL])).symm,rfl⟩
    ·cases hD:oD (s[k].toNat:Int)
     ·by_cases hU:(s[k].toNat:Int)=95
      ·go_wp2_with (first|((go_at_call 165;(with_reducible refine(iR _ _).mono ?_);rintro e w' ⟨rfl,rfl⟩;simp only [hL]))|((go_at_call 166;(with_reducible refine(oC _ _).mono ?_);rintro e w' ⟨rfl,rfl⟩;simp only [hD])))
       go_round
       case rel=>exact⟨k+1,by omega,by go_num,fun i hi=>by
        by_cases e:i=k
        ·subst e;rw [uZ s i hk2];simp [jd,hL,hD,hU,h0]
        ·exact hall i ze⟩
       case measure=>simp [intOf];omega
      ·go_wp2_with (first|((go_at_call 165;(with_reducible refine(iR _ _).mono ?_);rintro e w' ⟨rfl,rfl⟩;simp only [hL]))|((go_at_call 166;(with_reducible refine(oC _ _).mono ?_);rintro e w' ⟨rfl,rfl⟩;simp only [hD])))
       all_goals first
        |(go_ret
          exact⟨au (nC s k hk2 (by simp [jd,hL,hD,hU])).symm,rfl⟩)
        |(exfalso;simp_all)
     ·go_wp2_with (first|((go_at_call 165;(with_reducible refine(iR _ _).mono ?_);rintro e w' ⟨rfl,rfl⟩;simp only [hL]))|((go_at_call 166;(with_reducible refine(oC _ _).mono ?_);rintro e w' ⟨rfl,rfl⟩;simp only [hD])))
      go_round
      case rel=>exact⟨k+1,by omega,by go_num,fun i hi=>by
       by_cases e:i=k
       ·subst e;rw [uZ s i hk2];simp [jd,hL,hD,h0]
       ·exact hall i ze⟩
      case measure=>simp [intOf];omega
   ·go_wp2_with ((go_at_call 165;(with_reducible refine(iR _ _).mono ?_);rintro e w' ⟨rfl,rfl⟩;simp only [hL]))
    go_round
    case rel=>exact⟨k+1,by omega,by go_num,fun i hi=>by
     by_cases e:i=k
     ·subst e;rw [uZ s i hk2];simp [jd,hL]
     ·exact hall i ze⟩
    case measure=>simp [intOf];omega
  ·have:k=s.size:=by omega
   subst this;by_cases h1:1<=s.size
   ·go_wp2
    go_ret
    exact⟨au (by rw [oo s hall];simp [h1];omega),rfl⟩
   ·go_wp2
    go_ret
    exact⟨au (by rw [oo s hall];simp [h1]),rfl⟩
def Rj:List (List UInt8):=[[97,110,100],[98,101,115,116],[98,121],[99,114,101,100,105,116],[99,117,114,114,101,110,99,121],[101,108,115,101],[102,108,111,111,114],[102,114,111,109],[103,114,97,110,116],[105,102],[105,110,100,101,120],[108,101,116],[108,105,109,105,116],[109,97,120],[109,105,110],[110,111,116],[111,114],[112,97,121],[114,101,100,117,99,101],[114,111,117,110,100],[115,116,97,116,117,116,101],[116,104,101,110]
 ]
def NN(s:ByteArray):Bool:=Rj.contains s.toList
theorem Bh(s:ByteArray)(w:World):Calls prog 127 #[.string s] w fun e w'=>e= .returned (.bool (NN s))/\w=w':=by
 go_enter func127,ntmps127
 exact QD
def fe(s:ByteArray):Bool:=isWord s&&!NN s
theorem vE(s:ByteArray)(w:World)(hs:s.size<=maxLen):Calls prog 89 #[.string s] w fun e w'=>e= .returned (.bool (fe s))/\w=w':=by
 cases hW:isWord s<;>
 ·go_enter func89,ntmps89
  go_wp2_with (first|(go_at_call 126;(with_reducible refine(EG _ _ zv).mono ?_);rintro e w' ⟨rfl,rfl⟩;simp only [hW])|(go_at_call 127;(with_reducible refine(Bh _ _).mono ?_);rintro e w' ⟨rfl,rfl⟩))
  go_returns
  exact⟨au (by simp [fe,hW]),rfl⟩

def oU:ByteArray:=⟨#[48,49,50,51,52,53,54,55,56,57]⟩
def uR:Nat->Int->Nat->ByteArray->ByteArray
 |0,_,_,s=>s
 |f+1,n,l,s=>if 0<n\/s.size<l then uR f (n / 10) l (oU.extract (n % 10).toNat (n % 10+1).toNat++s)else s
def kC(n:Int)(l:Nat):ByteArray:=uR (n.toNat+l) n l ByteArray.empty
theorem Iq(f:Nat)(n:Int)(l:Nat)(s:ByteArray)(h:¬(0<n\/s.size<l)):uR f n l s=s:=by
 cases f with
 |zero=>rfl
 |succ f=>simp only [uR,if_neg h]
theorem FE(f:Nat)(n:Int)(l:Nat)(s:ByteArray)(h:0<n\/s.size<l)(hf:n.toNat+(l-s.size)<=f) :
 uR f n l s=uR (f-1) (n / 10) l (oU.extract (n % 10).toNat (n % 10+1).toNat++s):=by
 cases f with
 |zero=>omega
 |succ f=>simp only [uR,if_pos h];rfl
theorem wy:oU.size=10:=rfl
theorem ww(m:Int)(s:ByteArray):(oU.extract (m % 10).toNat (m % 10+1).toNat++s).size=s.size+1:=by
 rw [ByteArray.size_append,ByteArray.size_extract,wy];omega
theorem xD:∀(f:Nat) (n:Int) (l:Nat) (s:ByteArray),0<=n->(uR f n l s).size<=s.size+n.toNat+(l-s.size)
 |0,_,_,_,_=>by simp only [uR];omega
 |f+1,n,l,s,h=>by
  simp only [uR]
  split
  ·have:=xD f (n / 10) l (oU.extract (n % 10).toNat (n % 10+1).toNat++s) ze;rw [ww]at this;omega
  ·omega
theorem qM(n:Int)(l:Nat)(h:0<=n):(kC n l).size<=n.toNat+l:=by
 have:=xD (n.toNat+l) n l ByteArray.empty h;have e:ByteArray.empty.size=0:=rfl;unfold kC;omega
theorem Ck(n:Int)(l:Nat)(w:World)(h0:0<=n)(h1:n<=9223372036854775807)(hl:l<=4):Calls prog 193 #[.int .i64 n,.int .i64 l] w fun e w'=>e= .returned (.string (kC n l))/\w=w':=by
 go_enter func193,ntmps193
 go_wp2
 go_loop [0,5] (fun a b=>∃m:Int,∃s:ByteArray,∃f:Nat,0<=m/\(s.size:Int)+m<=9223372036854775807/\a= .int .i64 m/\b= .string s/\m.toNat+(l-s.size)<=f/\Hid (uR f m l s=kC n l)) (fun a b=>(intOf a).toNat+(l-(match b with| .string s=>s.size|_=>0)))
 case atStart=>exact⟨n,_,n.toNat+l,h0,by show((0:Nat):Int)+n<=_;omega,rfl,rfl,by omega,zh rfl⟩
 case round=>
  obtain⟨m,s,f,hm0,hm1,rfl,rfl,hf,hg⟩:=hrel;have hr:0<=m % 10/\m % 10<10:=by omega
  have hpc:Hid (_):=zh (ww m s);by_cases hp:0<m
  ·go_wp2
   go_round
   case rel=>exact⟨m / 10,_,f-1,by omega,by rw [show({data:=#[48,49,50,51,52,53,54,55,56,57]}:ByteArray)=oU from rfl,hpc.out];omega,rfl,rfl,by rw [show({data:=#[48,49,50,51,52,53,54,55,56,57]}:ByteArray)=oU from rfl,hpc.out];omega,zh (by rw [<-hg.out,FE f m l s (.inl hp) hf];rfl)⟩
   case measure=>
    exact QA
  ·by_cases hq:s.size<l
   ·go_wp2
    go_round
    case rel=>exact⟨m / 10,_,f-1,by omega,by rw [show({data:=#[48,49,50,51,52,53,54,55,56,57]}:ByteArray)=oU from rfl,hpc.out];omega,rfl,rfl,by rw [show({data:=#[48,49,50,51,52,53,54,55,56,57]}:ByteArray)=oU from rfl,hpc.out];omega,zh (by rw [<-hg.out,FE f m l s (.inr hq) hf];rfl)⟩
    case measure=>
     exact QA
   ·go_wp2
    go_returns
    exact⟨by rw [<-hg.out,Iq f m l s ze];rfl,rfl⟩

theorem ES{a b:ByteArray}(h:a=b):Ending.returned (.string a)= .returned (.string b):=by rw [h]
def xu(n d:Int):ByteArray:=
 if az n d=true then
  if n<0 then(if d=1 then⟨#[45]⟩++kC (aI n) 1 else⟨#[45]⟩++kC (aI n) 1++⟨#[47]⟩++kC d 1)
  else(if d=1 then kC (aI n) 1 else kC (aI n) 1++⟨#[47]⟩++kC d 1)
 else⟨#[]⟩
theorem rQ(n:Int)(w:World)(h0:0<=n)(h1:n<=9223372036854775807):Calls prog 193 #[.int .i64 n,.int .i64 1] w fun e w'=>e= .returned (.string (kC n 1))/\w=w':=
 Ck n 1 w h0 h1 ze
theorem KI(n d:Int)(h:az n d=false):xu n d=⟨#[]⟩:=by simp [xu,h]
theorem gN(n d:Int)(w:World)(h1:-9223372036854775808<=n)(h2:n<=9223372036854775807)(h3:-9223372036854775808<=d)(h4:d<=9223372036854775807):Calls prog 155 #[.agg #[.int .i64 n,.int .i64 d]] w fun e w'=>e= .returned (.string (xu n d))/\w.Grows w':=by
 cases hv:az n d
 ·go_enter func155,ntmps155
  go_wp2_with ((first|(go_at_call 60;(with_reducible refine(cK _ _ _ ze ze ze ze).mono ?_);rintro e w' ⟨rfl,bs,dr,rfl⟩;simp only [hv])|(go_at_call 91;(with_reducible refine(fP _ _ ze ze).mono ?_);rintro e w' ⟨rfl,rfl⟩)|(go_at_call 193;(with_reducible refine(rQ _ _ ze ze).mono ?_);rintro e w' ⟨rfl,rfl⟩)))
  go_returns
  exact⟨ES (KI n d hv).symm,.of_below ag⟩
 ·have⟨b1,b2,b3,b4⟩:=aF hv;have a0:0<=aI n:=by unfold aI;omega
  have a1:aI n<=1000000000000000:=by unfold aI;omega
  have e1:IntKind.i64.wrap (aI n)=aI n:=IntWalk.i64_in _ ze;have z1:((kC (aI n) 1).size:Int)<=1000000000000001:=by have:=qM (aI n) 1 a0;omega
  have z2:((kC d 1).size:Int)<=1000000001:=by have:=qM d 1 ze;omega
  by_cases cn:n<0
  ·exact Q3
  ·exact Q3

def kR:Nat->Int->Int->ByteArray->ByteArray
 |0,_,_,s=>s
 |f+1,r,k,s=>if 0<r then kR f (r % k) (k / 10) (s++oU.extract (r / k).toNat (r / k+1).toNat)else s
def dL(n d m:Int):Bool:=az n d&&decide (0<=n)&&decide (10000 % d=0)&&decide (2<=m)&&decide (m<=4)&&decide (n / d<=999999999)
def je(n d:Int):Int:=(n-n / d*d)*(10000 / d)
def xN(m:Int):ByteArray:=if m=2 then⟨#[]⟩else if m=3 then⟨#[100]⟩else⟨#[109]⟩
def rZ(n d m:Int):ByteArray:=
 (if 0<je n d then kR 4 (je n d) 1000 (kC (n / d) 1++⟨#[46]⟩)else kC (n / d) 1)++xN m
theorem nz{a b:ByteArray}{p q:Bool}(h:a=b)(g:p=q):Ending.returned (.tuple #[.string a,.bool p])= .returned (.tuple #[.string b,.bool q]):=by rw [h,g]
def Cn(n d m:Int):Value:=.tuple #[.string (if dL n d m=true then rZ n d m else⟨#[]⟩),.bool (dL n d m)]
theorem Ow{n d m:Int}(h:dL n d m=false):Cn n d m= .tuple #[.string ⟨#[]⟩,.bool false]:=by simp [Cn,h]
theorem KX{n d m:Int}(h:dL n d m=true):Cn n d m= .tuple #[.string (rZ n d m),.bool true]:=by simp [Cn,h]
theorem qY(n d m:Int)(w:World)(h1:-9223372036854775808<=n)(h2:n<=9223372036854775807)(h3:-9223372036854775808<=d)(h4:d<=9223372036854775807)(h:dL n d m=false):Calls prog 121 #[.agg #[.int .i64 n,.int .i64 d],.int .i64 m] w fun e w'=>e= .returned (Cn n d m)/\w.Grows w':=by
 cases hv:az n d
 ·have hq:Hid True:=zh trivial;exact rz4
 ·have⟨b1,b2,b3,b4⟩:=aF hv;have hq:Hid True:=zh trivial;by_cases c1:n<0
  ·exact rz4
  ·by_cases c2:10000 % d=0
   ·by_cases c3:m<2
    ·exact rz4
    ·by_cases c4:4<m
     ·exact rz4
     ·by_cases c5:n / d<=999999999
      ·exfalso;simp [dL,hv,c2]at h;omega
      ·exact rz4
   ·exact rz4
theorem BO(q:Int)(h0:0<=q)(h1:q<=999999999):xu q 1=kC q 1:=by
 have hv:az q 1=true:=oP ze zg;have ha:aI q=q:=jQ h0;simp [xu,hv,ha];intro h;omega
theorem MQ(n d:Int)(h0:0<=n)(h1:1<=d)(h2:10000 % d=0):0<=n / d/\0<=n / d*d/\n / d*d<=n/\n-n / d*d<d/\0<=10000 / d/\10000 / d<=10000/\0<=je n d/\je n d<10000:=by
 have a1:0<=n / d:=Int.ediv_nonneg h0 ze;have a2:0<=n % d:=Int.emod_nonneg _ ze;have a3:n % d<d:=Int.emod_lt_of_pos _ ze;have a4:d*(n / d)+n % d=n:=Int.mul_ediv_add_emod n d;rw [Int.mul_comm]at a4;have a5:0<=10000 / d:=Int.ediv_nonneg ze ze;have a6:10000 / d<=10000:=Int.ediv_le_self _ ze;have a7:d*(10000 / d)+10000 % d=10000:=Int.mul_ediv_add_emod 10000 d;have a8:n-n / d*d=n % d:=by omega
 have a9:0<=n / d*d:=Int.mul_nonneg a1 ze;refine⟨a1,a9,by omega,by omega,a5,a6, ?_, ?_⟩
 ·unfold je;rw [a8];exact Int.mul_nonneg a2 a5
 ·unfold je;rw [a8]
  have a10:0<10000 / d:=by
   rcases Int.lt_or_eq_of_le a5 with h|h
   ·exact h
   ·rw [<-h]at a7;omega
  have:=Int.mul_lt_mul_of_pos_right a3 a10;omega
theorem qN(f:Nat)(r k:Int)(s:ByteArray)(h:¬0<r):kR f r k s=s:=by cases f<;>simp [kR,h]
theorem Ab(f:Nat)(r k:Int)(s:ByteArray)(h:0<r):kR (f+1) r k s=kR f (r % k) (k / 10) (s++oU.extract (r / k).toNat (r / k+1).toNat):=by simp [kR,h]
theorem sI(s:ByteArray)(x:Int)(h0:0<=x)(h1:x<10):(s++(⟨#[48,49,50,51,52,53,54,55,56,57]⟩:ByteArray).extract x.toNat (x+1).toNat).size=s.size+1:=by
 show(s++oU.extract _ _).size=_;rw [ByteArray.size_append,ByteArray.size_extract,wy];omega
theorem Ch(s:ByteArray):(s++(⟨#[46]⟩:ByteArray)).size=s.size+1:=by rw [ByteArray.size_append];rfl
theorem uU{n d m r k:Int}{j:Nat}{s:ByteArray}(hp:0<je n d)(g:kR j r k s=kR 4 (je n d) 1000 (kC (n / d) 1++⟨#[46]⟩))(g6:kR j r k s=s):s++xN m=rZ n d m:=by
 unfold rZ;rw [if_pos hp,<-g,g6]
theorem oF{n d m r k:Int}{j:Nat}{s:ByteArray}(hp:¬0<je n d)(g:kR j r k s=kR 4 (je n d) 1000 (kC (n / d) 1))(g6:kR j r k s=s):s++xN m=rZ n d m:=by
 unfold rZ;rw [if_neg hp,<-g6,g,qN _ _ _ _ hp]
theorem pW(n d m:Int)(w:World)(h1:-9223372036854775808<=n)(h2:n<=9223372036854775807)(h3:-9223372036854775808<=d)(h4:d<=9223372036854775807)(h:dL n d m=true):Calls prog 121 #[.agg #[.int .i64 n,.int .i64 d],.int .i64 m] w fun e w'=>e= .returned (Cn n d m)/\w.Grows w':=by
 rw [KX h];simp only [dL,Bool.and_eq_true,decide_eq_true_eq]at h;obtain⟨⟨⟨⟨⟨hv,c1⟩,c2⟩,c3⟩,c4⟩,c5⟩:=h;have⟨b1,b2,b3,b4⟩:=aF hv;have⟨r1,r2,r3,r4,r5,r6,r7,r8⟩:=MQ n d c1 b1 c2;have hR:Hid (_):=zh (show je n d=(n-n / d*d)*(10000 / d)from rfl);unfold je at r7 r8;have hq:=zh (BO (n / d) r1 c5);have z:=qM (n / d) 1 r1;have z1:((kC (n / d) 1).size:Int)<=1000000000:=by omega
 clear z
 go_enter func121,ntmps121
 by_cases hp:0<(n-n / d*d)*(10000 / d)
 ·have HP:=zh (show 0<je n d from hp)
  go_wp2_with ((first|(go_at_call 60;(with_reducible refine(cK _ _ _ ze ze ze ze).mono ?_);rintro e w' ⟨rfl,bs,dr,rfl⟩;simp only [hv])|(go_at_call 155;(with_reducible refine(gN _ _ _ ze ze ze ze).mono ?_);rintro e w' ⟨rfl,bs2,dr2,rfl⟩;simp only [hq.out])))
  go_quiet (fail)
  go_wp2_with fail
  go_loopw [7,8,9] (fun v7 v8 v9 wr=>∃j:Nat,∃r k:Int,∃s:ByteArray,v7= .string s/\v8= .int .i64 r/\v9= .int .i64 k/\0<=r/\((s.size:Int)<=1000000010-j)/\
   ((j=4/\k=1000/\r<10000)\/(j=3/\k=100/\r<1000)\/(j=2/\k=10/\r<100)\/(j=1/\k=1/\r<10)\/(j=0/\k=0/\r=0))/\
   Hid (kR j r k s=kR 4 (je n d) 1000 (kC (n / d) 1++⟨#[46]⟩))/\World.Grows (w.alloc (.cells #[.int .i64 n,.int .i64 d] 23)) wr) (fun _ _ v9 _=>(intOf v9).toNat)
  case atStart=>exact⟨4,_,_,_,rfl,rfl,rfl,by omega,by first|(rw [Ch];omega)|omega,.inl ⟨rfl,rfl,by omega⟩,zh (by rw [hR.out]),.of_below ag⟩
  case round=>
   obtain⟨j,r,k,s,rfl,rfl,rfl,g1,g2,g3,g4,bs3,dr3,rfl⟩:=hrel;by_cases g0:0<r
   ·exact rz6
   ·have G6:=zh (qN j r k s g0);obtain rfl|rfl|rfl:m=2\/m=3\/m=4:=by omega
    ·go_wp2_with fail
     go_returns
     exact⟨nz (show s++xN 2=rZ n d 2 from uU zX g4.out G6.out) rfl,.of_below ag⟩
    ·go_wp2_with fail
     go_returns
     exact⟨nz (show s++xN 3=rZ n d 3 from uU zX g4.out G6.out) rfl,.of_below ag⟩
    ·go_wp2_with fail
     go_returns
     exact⟨nz (show s++xN 4=rZ n d 4 from uU zX g4.out G6.out) rfl,.of_below ag⟩
 ·have HP:=zh (show ¬0<je n d from hp)
  go_wp2_with ((first|(go_at_call 60;(with_reducible refine(cK _ _ _ ze ze ze ze).mono ?_);rintro e w' ⟨rfl,bs,dr,rfl⟩;simp only [hv])|(go_at_call 155;(with_reducible refine(gN _ _ _ ze ze ze ze).mono ?_);rintro e w' ⟨rfl,bs2,dr2,rfl⟩;simp only [hq.out])))
  go_quiet (fail)
  go_wp2_with fail
  go_loopw [7,8,9] (fun v7 v8 v9 wr=>∃j:Nat,∃r k:Int,∃s:ByteArray,v7= .string s/\v8= .int .i64 r/\v9= .int .i64 k/\0<=r/\((s.size:Int)<=1000000010-j)/\
   ((j=4/\k=1000/\r<10000)\/(j=3/\k=100/\r<1000)\/(j=2/\k=10/\r<100)\/(j=1/\k=1/\r<10)\/(j=0/\k=0/\r=0))/\
   Hid (kR j r k s=kR 4 (je n d) 1000 (kC (n / d) 1))/\World.Grows (w.alloc (.cells #[.int .i64 n,.int .i64 d] 23)) wr) (fun _ _ v9 _=>(intOf v9).toNat)
  case atStart=>exact⟨4,_,_,_,rfl,rfl,rfl,by omega,by first|(rw [Ch];omega)|omega,.inl ⟨rfl,rfl,by omega⟩,zh (by rw [hR.out]),.of_below ag⟩
  case round=>
   obtain⟨j,r,k,s,rfl,rfl,rfl,g1,g2,g3,g4,bs3,dr3,rfl⟩:=hrel;by_cases g0:0<r
   ·exact rz6
   ·have G6:=zh (qN j r k s g0);obtain rfl|rfl|rfl:m=2\/m=3\/m=4:=by omega
    ·go_wp2_with fail
     go_returns
     exact⟨nz (show s++xN 2=rZ n d 2 from oF zX g4.out G6.out) rfl,.of_below ag⟩
    ·go_wp2_with fail
     go_returns
     exact⟨nz (show s++xN 3=rZ n d 3 from oF zX g4.out G6.out) rfl,.of_below ag⟩
    ·go_wp2_with fail
     go_returns
     exact⟨nz (show s++xN 4=rZ n d 4 from oF zX g4.out G6.out) rfl,.of_below ag⟩
theorem pX(n d m:Int)(w:World)(h1:-9223372036854775808<=n)(h2:n<=9223372036854775807)(h3:-9223372036854775808<=d)(h4:d<=9223372036854775807):Calls prog 121 #[.agg #[.int .i64 n,.int .i64 d],.int .i64 m] w fun e w'=>e= .returned (Cn n d m)/\w.Grows w':=by
 cases h:dL n d m
 ·exact qY n d m w h1 h2 h3 h4 h
 ·exact pW n d m w h1 h2 h3 h4 h

theorem Calls.quiet_eq{P:Program}{f:FuncId}{args:Array Value}{w:World}{n:Nat}{v:Value}
 (h:Calls P f args (w.drewN n) fun e w'=>e= .returned v/\w.drewN n=w'):Calls P f args (w.drewN n) fun e w''=>e= .returned v/\∃m,w''=w.drewN m:=
 h.mono fun _ _ ⟨he,hm⟩=>⟨he,n,hm.symm⟩
theorem aC.form0{S:Nat->Prop}{w:World}{e:Ex}{v:Value}(h:aC S w e v):∃a cap,v= .slice a e.args.length cap:=by cases h;exact⟨_,_,rfl⟩
mutual
def aN:Ex->Bool
 | .mk o n d m s l=>decide ((l.length:Int)=bi o)&&
  (if o=1 then dL n d m&&s.toList.isEmpty
   else if o=2 then decide (n=0)&&decide (d=0)&&decide (m=0)&&fe s
   else if o=3 then decide (m=0)&&s.toList.isEmpty&&decide (d=1)&&decide (1<=n)&&decide (n<=45)
   else aZ l&&(decide (n=0)&&decide (d=0)&&decide (m=0)&&s.toList.isEmpty))
def aZ:List Ex->Bool
 | []=>true
 |e::r=>aN e&&aZ r
end
theorem eX(e:Ex):aN e=(decide ((e.args.length:Int)=bi e.op)&&
 (if e.op=1 then dL e.num e.den e.dim&&e.name.toList.isEmpty
  else if e.op=2 then decide (e.num=0)&&decide (e.den=0)&&decide (e.dim=0)&&fe e.name
  else if e.op=3 then decide (e.dim=0)&&e.name.toList.isEmpty&&decide (e.den=1)&&decide (1<=e.num)&&decide (e.num<=45)
  else aZ e.args&&(decide (e.num=0)&&decide (e.den=0)&&decide (e.dim=0)&&e.name.toList.isEmpty))):=by
 cases e;rw [aN];rfl
theorem vO(l:List Ex)(k:Nat)(h:k<l.length):aZ (l.take (k+1))=(aZ (l.take k)&&aN (l.getD k default)):=by
 induction l generalizing k with
 |nil=>simp at h
 |cons e r ih=>
  cases k with
  |zero=>simp [aZ]
  |succ k=>simp only [take_succ_cons,aZ,getD_cons_succ];rw [ih k zI,Bool.and_assoc]
theorem rJ(l:List Ex)(k:Nat)(h:k<l.length)(hf:aN (l.getD k default)=false):aZ l=false:=by
 induction l generalizing k with
 |nil=>simp at h
 |cons e r ih=>
  cases k with
  |zero=>simp only [getD_cons_zero]at hf;simp [aZ,hf]
  |succ k=>simp only [getD_cons_succ]at hf;simp [aZ,ih k zI hf]

theorem Eg
 (S:Nat->Prop) (e:Ex) (v:Value) (w:World) (h:aC S w e v)
 (hne:¬(e.args.length:Int)=bi e.op):(Calls prog 71 #[exV e v] w fun r w'=>r= .returned (.bool (aN e))/\w.Grows w'):=by
 have HF:Hid (aN e=false):=zh (by rw [eX,decide_eq_false hne,Bool.false_and]);have hr:=h.rng;obtain⟨a,cap,hv⟩:∃a cap,v= .slice a e.args.length cap:=by cases h;exact⟨_,_,rfl⟩
 subst hv;clear h;obtain⟨on,od⟩:=hr.num;obtain⟨pn,pd⟩:=hr.den;have hsz:=hr.name;clear hr;have h1:((e.args.length:Int)!=bi e.op)=true:=by simpa using hne
 clear hne
 go_enter func71,ntmps71
 go_wp2_with fail
 go_quiet ((go_at_call 104;exact Calls.quiet_eq (mX _ _)))
 go_wp2_with fail
 go_returns
 exact⟨au HF.out.symm,.of_below ag⟩
theorem Ef
 (S:Nat->Prop) (e:Ex) (v:Value) (w:World) (h:aC S w e v)
 (hle:(e.args.length:Int)=bi e.op) (ho:e.op=1):(Calls prog 71 #[exV e v] w fun r w'=>r= .returned (.bool (aN e))/\w.Grows w'):=by
 have HF:Hid (aN e=(dL e.num e.den e.dim&&e.name.toList.isEmpty)):=zh (by rw [eX,decide_eq_true hle,Bool.true_and,if_pos ho]);have hr:=h.rng;obtain⟨a,cap,hv⟩:∃a cap,v= .slice a e.args.length cap:=by cases h;exact⟨_,_,rfl⟩
 subst hv;clear h;obtain⟨on,od⟩:=hr.num;obtain⟨pn,pd⟩:=hr.den;have hsz:=hr.name;clear hr;have h1:((e.args.length:Int)!=bi 1)=false:=by rw [ho]at hle;simpa using hle
 clear hle
 go_enter func71,ntmps71
 go_wp2_with fail
 go_quiet ((go_at_call 104;exact Calls.quiet_eq (mX _ _)))
 go_wp2_with (go_at_call 121;refine(pX _ _ _ _ ze ze ze ze).mono ?_;rintro e' w' ⟨rfl,bs,d,rfl⟩;simp only [Cn])
 all_goals
  go_returns
  exact⟨au (by rw [HF.out];simp [*]),.of_below ag⟩
theorem BU
 (S:Nat->Prop) (e:Ex) (v:Value) (w:World) (h:aC S w e v)
 (hle:(e.args.length:Int)=bi e.op) (ho:e.op=2):(Calls prog 71 #[exV e v] w fun r w'=>r= .returned (.bool (aN e))/\w.Grows w'):=by
 have HF:Hid (aN e=(decide (e.num=0)&&decide (e.den=0)&&decide (e.dim=0)&&fe e.name)):=zh (by rw [eX,decide_eq_true hle,Bool.true_and,if_neg ze,if_pos ho]);have hr:=h.rng;obtain⟨a,cap,hv⟩:∃a cap,v= .slice a e.args.length cap:=by cases h;exact⟨_,_,rfl⟩
 subst hv;clear h;obtain⟨on,od⟩:=hr.num;obtain⟨pn,pd⟩:=hr.den;have hsz:=hr.name;clear hr;have h1:((e.args.length:Int)!=bi 2)=false:=by rw [ho]at hle;simpa using hle
 clear hle;have hm:e.name.size<=maxLen:=by unfold maxLen;omega
 have HM:=zh hm;clear hm
 go_enter func71,ntmps71
 go_wp2_with fail
 go_quiet ((go_at_call 104;exact Calls.quiet_eq (mX _ _)))
 go_wp2_with (go_at_call 89;refine(vE _ _ HM.out).mono ?_;rintro e' w' ⟨rfl,rfl⟩)
 all_goals
  go_returns
  exact⟨au (by rw [HF.out];simp [*]),.of_below ag⟩
theorem BX
 (S:Nat->Prop) (e:Ex) (v:Value) (w:World) (h:aC S w e v)
 (hle:(e.args.length:Int)=bi e.op) (ho:e.op=3):(Calls prog 71 #[exV e v] w fun r w'=>r= .returned (.bool (aN e))/\w.Grows w'):=by
 have HF:Hid (aN e=(decide (e.dim=0)&&e.name.toList.isEmpty&&decide (e.den=1)&&decide (1<=e.num)&&decide (e.num<=45))):=zh (by rw [eX,decide_eq_true hle,Bool.true_and,if_neg ze,if_neg ze,if_pos ho]);have hr:=h.rng;obtain⟨a,cap,hv⟩:∃a cap,v= .slice a e.args.length cap:=by cases h;exact⟨_,_,rfl⟩
 subst hv;clear h;obtain⟨on,od⟩:=hr.num;obtain⟨pn,pd⟩:=hr.den;have hsz:=hr.name;clear hr;have h1:((e.args.length:Int)!=bi 3)=false:=by rw [ho]at hle;simpa using hle
 clear hle
 go_enter func71,ntmps71
 go_wp2_with fail
 go_quiet ((go_at_call 104;exact Calls.quiet_eq (mX _ _)))
 go_wp2_with fail
 all_goals
  go_returns
  exact⟨au (by rw [HF.out];first|(simp [*];done)|(simp [*];intros;omega)),.of_below ag⟩
def fT(e:Ex)(k:Nat):Bool:=aZ (e.args.take k)
theorem NV(e:Ex):fT e 0=true:=rfl
theorem NW(e:Ex)(k:Nat)(h:k<e.args.length)(h1:fT e k=true)(h2:aN (e.arg k)=true):fT e (k+1)=true:=by
 unfold fT at *;rw [vO _ _ h,h1,Bool.true_and];exact h2
theorem BQ(S:Nat->Prop)(n:Nat):∀(e:Ex),e.size<=n->∀(v:Value) (w:World),aC S w e v->(Calls prog 71 #[exV e v] w fun r w'=>r= .returned (.bool (aN e))/\w.Grows w'):=by
 induction n with
 |zero=>intro e he;have:=e.size_pos;omega
 |succ n ih=>
  intro e he v w h;by_cases hle:(e.args.length:Int)=bi e.op
  ·by_cases o1:e.op=1
   ·exact Ef S e v w h hle o1
   ·by_cases o2:e.op=2
    ·exact BU S e v w h hle o2
    ·by_cases o3:e.op=3
     ·exact BX S e v w h hle o3
     ·have HF:Hid (aN e=(aZ e.args&&(decide (e.num=0)&&decide (e.den=0)&&decide (e.dim=0)&&e.name.toList.isEmpty))):=zh (by rw [eX,decide_eq_true hle,Bool.true_and,if_neg o1,if_neg o2,if_neg o3]);have IH:=zh ih;clear ih;have h1:((e.args.length:Int)!=bi e.op)=false:=by simpa using hle
      have p1:(e.op==1)=false:=by simpa using o1
      have p2:(e.op==2)=false:=by simpa using o2
      have p3:(e.op==3)=false:=by simpa using o3
      clear hle o1 o2 o3
      cases h with
      |mk _ a cap vs hr hc hs=>
       have hlen:=hr.len;have Hs:=zh hs;have He:=zh he;have Hc:=zh hc;clear hr hs he hc;generalize hz:(decide (e.num=0)&&decide (e.den=0)&&decide (e.dim=0)&&e.name.toList.isEmpty)=z at HF;have HZ:=zh hz;clear hz
       go_enter func71,ntmps71
       go_wp2_with fail
       go_quiet ((go_at_call 104;exact Calls.quiet_eq (mX _ _)))
       go_wp2_with fail
       all_goals
        go_loopw [6] (fun v6 wr=>∃k:Nat,k<=e.args.length/\v6= .int .i64 k/\Hid (fT e k=true)/\
         ∃x1 x2 x3:Int,World.Grows (w.alloc (.cells #[.int .i64 e.op,.int .i64 x1,.int .i64 x2,.int .i64 x3,.string e.name,.slice a e.args.length cap] 51)) wr) (fun v6 _=>e.args.length-(intOf v6).toNat)
        case atStart=>exact⟨0,by omega,rfl,zh (NV e),_,_,_,.of_below ag⟩
        case round=>
         obtain⟨k,hk,rfl,HT,x1,x2,x3,bs,d,rfl⟩:=hrel;by_cases hlt:k<e.args.length
         ·rcases Hc.out with h0|⟨b,off,rfl,hS,hbw,hx⟩
          ·omega
          ·obtain⟨y0,y1,y2,y3,y4,y5⟩:=hx k hlt;clear hx;have hlt1:(k:Int)<(e.args.length:Int):=by omega
           have HA:=zh (e.size_arg k hlt);cases hb:aN (e.arg k)
           ·have HB:=zh hb;clear hb
            go_wp2_with fail
            refine(IH.out (e.arg k) zL (vs k) _ (((Hs.out k hlt).alloc _).grow _ _)).mono ?_;rintro r w' ⟨rfl,bs2,d2,rfl⟩;simp only [HB.out]
            go_wp2_with fail
            go_returns
            exact⟨au (by rw [HF.out,rJ _ k hlt HB.out,Bool.false_and]),.of_below ag⟩
           ·have HB:=zh hb;clear hb
            go_wp2_with fail
            refine(IH.out (e.arg k) zL (vs k) _ (((Hs.out k hlt).alloc _).grow _ _)).mono ?_;rintro r w' ⟨rfl,bs2,d2,rfl⟩;simp only [HB.out]
            go_wp2_with fail
            go_roundw
            case rel=>exact⟨k+1,by omega,by go_num,zh (NW e k hlt HT.out HB.out),x1,x2,x3,.of_below ag⟩
            case measure=>simp [intOf];omega
         ·obtain rfl:k=e.args.length:=by omega
          have HT2:Hid (aZ e.args=true):=zh (by have:=HT.out;unfold fT at this;rw [take_length]at this;exact this);clear HT
          go_wp2_with fail
          go_returns
          exact⟨au (by rw [HF.out,HT2.out,Bool.true_and,<-HZ.out];simp [*]),.of_below ag⟩
  ·exact Eg S e v w h hle

theorem ow(S:Nat->Prop)(e:Ex)(v:Value)(w:World)(h:aC S w e v):(Calls prog 71 #[exV e v] w fun r w'=>r= .returned (.bool (aN e))/\w.Grows w'):=BQ S e.size e (Nat.le_refl _) v w h
def cZ(e:Ex):Bool:=decide (e.depth<=10)&&decide (e.size<=60)&&aN e
theorem kE(S:Nat->Prop)(e:Ex)(v:Value)(w:World)(h:Hid (aC S w e v))(hbig:Hid (e.size<=2305843009213693952)):Calls prog 35 #[exV e v] w fun r w'=>r= .returned (.bool (cZ e))/\w.Grows w':=by
 obtain⟨a,cap,hv⟩:=h.out.form0;subst hv;by_cases c1:(e.depth:Int)<=10
 ·by_cases c2:(e.size:Int)<=60
  ·go_enter func35,ntmps35
   go_wp2_with ((first|(go_at_call 32;refine(oM S e.size e (Nat.le_refl _) _ _ (h.out.alloc _) hbig).mono ?_;rintro r w' ⟨rfl,bs,d,rfl⟩)|(go_at_call 33;refine(qW S e.size e (Nat.le_refl _) _ _ ((h.out.alloc _).grow _ _) hbig).mono ?_;rintro r w' ⟨rfl,bs2,d2,rfl⟩)|(go_at_call 71;refine(ow S e _ _ ((h.out.alloc _).grow _ _)).mono ?_;rintro r w' ⟨rfl,bs3,d3,rfl⟩)))
   exact QK
  ·go_enter func35,ntmps35
   go_wp2_with ((first|(go_at_call 32;refine(oM S e.size e (Nat.le_refl _) _ _ (h.out.alloc _) hbig).mono ?_;rintro r w' ⟨rfl,bs,d,rfl⟩)|(go_at_call 33;refine(qW S e.size e (Nat.le_refl _) _ _ ((h.out.alloc _).grow _ _) hbig).mono ?_;rintro r w' ⟨rfl,bs2,d2,rfl⟩)|(go_at_call 71;refine(ow S e _ _ ((h.out.alloc _).grow _ _)).mono ?_;rintro r w' ⟨rfl,bs3,d3,rfl⟩)))
   exact QH
 ·go_enter func35,ntmps35
  go_wp2_with ((first|(go_at_call 32;refine(oM S e.size e (Nat.le_refl _) _ _ (h.out.alloc _) hbig).mono ?_;rintro r w' ⟨rfl,bs,d,rfl⟩)|(go_at_call 33;refine(qW S e.size e (Nat.le_refl _) _ _ ((h.out.alloc _).grow _ _) hbig).mono ?_;rintro r w' ⟨rfl,bs2,d2,rfl⟩)|(go_at_call 71;refine(ow S e _ _ ((h.out.alloc _).grow _ _)).mono ?_;rintro r w' ⟨rfl,bs3,d3,rfl⟩)))
  exact QJ
def CQ(n:Nat)(p:Nat->Bool)(r:Int):Prop:=(r= -1/\∀k,k<n->p k=false)\/∃k:Nat,k<n/\r=k/\p k=true
theorem CQ.any{n:Nat}{p:Nat->Bool}{r:Int}(h:CQ n p r):decide (0<=r)=(List.range n).any p:=by
 rcases h with ⟨rfl,h⟩|⟨k,hk,rfl,hp⟩
 ·symm;rw [show decide ((0:Int)<=-1)=false by decide,Bool.eq_false_iff];intro hc;obtain⟨k,hk,hp⟩:=any_eq_true.1 hc;rw [h k (mem_range.1 hk)]at hp;cases hp
 ·rw [decide_eq_true (show(0:Int)<=k by omega)];symm;exact any_eq_true.2 ⟨k,mem_range.2 hk,hp⟩
def Pf(S:Nat->Prop)(g:FuncId)(lb:Array Value)(e:Ex)(p:Nat->Bool)(w:World):Prop:=
 ∀k,k<e.args.length->∀a c w',w.Grows w'->aC S w' (e.arg k) (.slice a (e.arg k).args.length c)->Calls prog g (#[exV (e.arg k) (.slice a (e.arg k).args.length c)]++lb) w' fun r w''=>r= .returned (.bool (p k))/\w'.Grows w''
theorem aC.grows{S:Nat->Prop}{w w':World}{e:Ex}{v:Value}(h:aC S w e v)(hg:w.Grows w'):aC S w' e v:=by
 obtain⟨bs,d,rfl⟩:=hg;exact h.grow bs d
theorem Ku(S:Nat->Prop)(g:FuncId)(lb:Array Value)(eg:∀args w,(callFunc g args).run prog w= .ok (.enter g args) w)(e:Ex)(v:Value)(p:Nat->Bool)(w:World)(h:aC S w e v)(hp:Hid (Pf S g lb e p w)) :
 Calls prog 156 #[v,.func (.func g) #[] lb] w fun r w'=>(∃z,r= .returned (.int .i64 z)/\CQ e.args.length p z)/\w.Grows w':=by
 cases h with
 |mk _ a cap vs hr hc hs=>
  have hlen:=hr.len;have Hs:=zh hs;have Hc:=zh hc;clear hr hs hc
  go_enter func156,ntmps156
  go_wp2_with fail
  go_loopw [5,8] (fun _ v8 wr=>∃k:Nat,k<=e.args.length/\v8= .int .i64 k/\Hid (∀j,j<k->p j=false)/\w.Grows wr) (fun _ v8 _=>e.args.length-(intOf v8).toNat)
  case atStart=>exact⟨0,by omega,rfl,zh (fun j hj=>by omega),.refl _⟩
  case round=>
   obtain⟨k,hk,rfl,hno,hgr⟩:=hrel;have HG:=zh hgr;obtain⟨bs,d,rfl⟩:=hgr;by_cases hlt2:k<e.args.length
   ·rcases Hc.out with h0|⟨b,off,rfl,hg,hbw,hx⟩
    ·omega
    ·obtain⟨x0,x1,x2,x3,x4,x5⟩:=hx k hlt2;clear hx;have hR:=Hs.out k hlt2;obtain⟨ak,ck,hvk⟩:=hR.form0;rw [hvk]at x5 hR;have d1:(k:Int)<(e.args.length:Int):=by omega
     have hcall:=hp.out k hlt2 ak ck _ HG.out (hR.grow bs d);have HLT:=zh hlt2;clear hR hvk
     cases hq:p k with
     |true=>
      rw [hq]at hcall;have HQ:=zh hq;clear hq;have HCL:=zh hcall;clear hcall
      go_wp2_with (go_at_fn g;refine HCL.out.mono ?_;rintro e' w' ⟨rfl,bs2,d2,rfl⟩)
      go_returns
      exact⟨⟨_,rfl,.inr ⟨k,HLT.out,rfl,HQ.out⟩⟩,.of_below ag⟩
     |false=>
      rw [hq]at hcall;have HQ:=zh hq;clear hq;have HCL:=zh hcall;clear hcall
      go_wp2_with (go_at_fn g;refine HCL.out.mono ?_;rintro e' w' ⟨rfl,bs2,d2,rfl⟩)
      go_roundw
      case rel=>exact⟨k+1,by omega,by go_num,zh (fun j hj=>by
       by_cases ej:j=k
       ·subst ej;exact HQ.out
       ·exact hno.out j ze),.of_below ag⟩
      case measure=>simp [intOf];omega
   ·obtain rfl:k=e.args.length:=by omega
    go_wp2_with fail
    go_returns
    exact⟨⟨_,rfl,.inl ⟨rfl,hno.out⟩⟩,.of_below ag⟩
theorem nQ(S:Nat->Prop)(g:FuncId)(lb:Array Value)(eg:∀args w,(callFunc g args).run prog w= .ok (.enter g args) w)(e:Ex)(v:Value)(p:Nat->Bool)(w:World)(h:aC S w e v)(hp:Hid (Pf S g lb e p w)) :
 Calls prog 122 #[v,.func (.func g) #[] lb] w fun r w'=>r= .returned (.bool ((List.range e.args.length).any p))/\w.Grows w':=by
 have HI:=zh (Ku S g lb eg e v p w h hp);obtain⟨a,cap,rfl⟩:=h.form0;clear h hp;generalize hX:(List.range e.args.length).any p=X;have HX:=zh hX;clear hX
 go_enter func122,ntmps122
 go_wp2_with (go_at_call 156;refine HI.out.mono ?_;rintro e' w' ⟨⟨z,rfl,hz⟩,bs2,d2,rfl⟩;have HZ:=zh hz.any;clear hz)
 go_returns
 exact⟨au zW,.of_below ag⟩
theorem oH(S:Nat->Prop)(n:Nat):∀(e:Ex),e.size<=n->∀(v:Value) (w:World),aC S w e v->Hid (e.size<=2305843009213693952)->
 Calls prog 135 #[exV e v] w fun r w'=>r= .returned (.int .i64 (e.size:Nat))/\w.Grows w':=by
 induction n with
 |zero=>intro e he;have:=e.size_pos;omega
 |succ n ih=>
  intro e he v w h hbig;have IH:=zh ih;clear ih
  cases h with
  |mk _ a cap vs hr hc hs=>
   have hlen:=hr.len;have Hs:=zh hs;have He:=zh he;have Hc:=zh hc;clear hr hs he hc
   go_enter func135,ntmps135
   go_wp2_with fail
   go_loopw [3,9] (fun v3 v4 wr=>∃k:Nat,k<=e.args.length/\v3= .int .i64 (szT e k)/\v4= .int .i64 k/\
    World.Grows (w.alloc (.cells #[.int .i64 e.op,.int .i64 e.num,.int .i64 e.den,.int .i64 e.dim,.string e.name,.slice a e.args.length cap] 51)) wr) (fun _ v4 _=>e.args.length-(intOf v4).toNat)
   case atStart=>exact⟨0,by omega,by rw [Au],rfl,.refl _⟩
   case round=>
    obtain⟨k,hk,rfl,rfl,bs,d,rfl⟩:=hrel;have hb:=JH e k;have hb0:1<=szT e k:=hb.1;have hb1:szT e k<=2305843009213693952:=by have:=hbig.out;omega
    clear hb;by_cases hlt:k<e.args.length
    ·rcases Hc.out with h0|⟨b,off,rfl,hS,hbw,hx⟩
     ·omega
     ·obtain⟨x0,x1,x2,x3,x4,x5⟩:=hx k hlt;clear hx;have hR:=Hs.out k hlt;obtain⟨ak,ck,hvk⟩:=hR.form0;rw [hvk]at x5 hR;have HR:=zh hR;clear hR hvk;have hlt1:(k:Int)<(e.args.length:Int):=by omega
      have HN:=zh (Av e k hlt);have HA:=zh (e.size_arg k hlt);have hs1:((e.arg k).size:Int)<=2305843009213693952:=by have:=hbig.out;have:=HA.out;omega
      go_wp2_with fail
      refine(IH.out (e.arg k) zL (.slice ak _ ck) _ (((HR.out.alloc _).grow _ _).alloc _) yo).mono ?_;rintro r w' ⟨rfl,bs2,d2,rfl⟩
      go_wp2_with fail
      go_roundw
      case rel=>exact⟨k+1,by omega,by rw [HN.out],by go_num,.of_below ag⟩
      case measure=>simp [intOf];omega
    ·have HN:=zh (EK e k ze);obtain rfl:k=e.args.length:=by omega
     go_wp2_with fail
     go_returns
     exact⟨ret_int HN.out,.of_below ag⟩

theorem mW(S:Nat->Prop)(n:Nat):∀(e:Ex),e.size<=n->∀(v:Value) (w:World),aC S w e v->Hid (e.size<=2305843009213693952)->
 Calls prog 134 #[exV e v] w fun r w'=>r= .returned (.int .i64 (e.depth:Nat))/\w.Grows w':=by
 induction n with
 |zero=>intro e he;have:=e.size_pos;omega
 |succ n ih=>
  intro e he v w h hbig;have IH:=zh ih;clear ih
  cases h with
  |mk _ a cap vs hr hc hs=>
   have hlen:=hr.len;have Hs:=zh hs;have He:=zh he;have Hc:=zh hc;clear hr hs he hc
   go_enter func134,ntmps134
   go_wp2_with fail
   go_loopw [3,9] (fun v3 v4 wr=>∃k:Nat,k<=e.args.length/\v3= .int .i64 (dpT e k)/\v4= .int .i64 k/\
    World.Grows (w.alloc (.cells #[.int .i64 e.op,.int .i64 e.num,.int .i64 e.den,.int .i64 e.dim,.string e.name,.slice a e.args.length cap] 51)) wr) (fun _ v4 _=>e.args.length-(intOf v4).toNat)
   case atStart=>exact⟨0,by omega,by rw [Cf],rfl,.refl _⟩
   case round=>
    obtain⟨k,hk,rfl,rfl,bs,d,rfl⟩:=hrel;have hb:=KS e k;have hb0:0<=dpT e k:=hb.1;have hb1:dpT e k<=2305843009213693952:=by have:=hbig.out;omega
    clear hb;by_cases hlt:k<e.args.length
    ·rcases Hc.out with h0|⟨b,off,rfl,hS,hbw,hx⟩
     ·omega
     ·obtain⟨x0,x1,x2,x3,x4,x5⟩:=hx k hlt;clear hx;have hR:=Hs.out k hlt;obtain⟨ak,ck,hvk⟩:=hR.form0;rw [hvk]at x5 hR;have HR:=zh hR;clear hR hvk;have hlt1:(k:Int)<(e.args.length:Int):=by omega
      have HN:=zh (Cg e k hlt);have HA:=zh (e.size_arg k hlt);have hs1:((e.arg k).depth:Int)<=2305843009213693952:=by have:=hbig.out;have:=HA.out;have:=(e.arg k).depth_size;omega
      go_wp2_with fail
      refine(IH.out (e.arg k) zL (.slice ak _ ck) _ (((HR.out.alloc _).grow _ _).alloc _) yo).mono ?_;rintro r w' ⟨rfl,bs2,d2,rfl⟩
      go_wp2_with fail
      go_roundw
      case rel=>exact⟨k+1,by omega,by rw [HN.out],by go_num,.of_below ag⟩
      case measure=>simp [intOf];omega
    ·have HN:=zh (FD e k ze);obtain rfl:k=e.args.length:=by omega
     go_wp2_with fail
     go_returns
     exact⟨ret_int HN.out,.of_below ag⟩
end Go.Proofs.YtlheailebbngiaaGreatDoor
