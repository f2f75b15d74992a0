import Derived.Test.YthionhbjmheimaaDoorLWide
import Derived.Test.YthionhbjmheimaaDoorLK
set_option linter.all false
set_option maxHeartbeats 16000000
set_option maxRecDepth 1000000
namespace Go.Proofs.YthionhbjmheimaaDoor
open Go.RowKit

def lowc(c:Int):Bool:=decide (97≤c)&&decide (c≤122)
def digc(c:Int):Bool:=decide (48≤c)&&decide (c≤57)

theorem letter1_any(c:Int)(w:World):Calls Tryd.prog 77 #[.int .u8 c] w fun e w'=>e= .returned (.bool (lowc c))∧w=w':=by
 by_cases c1:97≤c
 ·by_cases c2:c≤122
  ·go_enter Tryd.func77,Tryd.ntmps77
   go_wp2
   go_returns
   exact⟨ret_bool (by simp [lowc,c1,c2]),rfl⟩
  ·exact lz37
 ·exact lz37
theorem digit1_any(c:Int)(w:World):Calls Tryd.prog 78 #[.int .u8 c] w fun e w'=>e= .returned (.bool (digc c))∧w=w':=by
 by_cases c1:48≤c
 ·by_cases c2:c≤57
  ·go_enter Tryd.func78,Tryd.ntmps78
   go_wp2
   go_returns
   exact⟨ret_bool (by simp [digc,c1,c2]),rfl⟩
  ·exact lz38
 ·exact lz38
def argsN(op:Int):Int:=if 1≤op∧op≤3 then 0 else if 4≤op∧op≤6 then 1 else if 7≤op∧op≤20 then 2 else if op=21 then 3 else -1
theorem Args_any(op:Int)(w:World):Calls Tryd.prog 72 #[.int .i64 op] w fun e w'=>e= .returned (.int .i64 (argsN op))∧w=w':=by
 by_cases c1:op<1
 ·exact lz10
 ·by_cases c2:op≤3
  ·exact lz10
  ·by_cases c3:op≤6
   ·exact lz10
   ·by_cases c4:op≤20
    ·exact lz10
    ·by_cases c5:op=21
     ·subst c5
      go_enter Tryd.func72,Tryd.ntmps72
      go_wp2
      go_returns
      exact⟨ret_int (by simp [argsN]),rfl⟩
     ·exact lz10
def byt(s:ByteArray)(i:Nat):Int:=if h:i<s.size then(s[i].toNat:Int)else 0
theorem byt_eq(s:ByteArray)(i:Nat)(h:i<s.size):byt s i=(s[i].toNat:Int):=by simp [byt,h]
def wordC(i:Nat)(c:Int):Bool:=lowc c || (i !=0&&(digc c || decide (c=95)))
def isWord(s:ByteArray):Bool:=decide (∀i,i<s.size→wordC i (byt s i)=true)&&decide (1≤s.size)&&decide (s.size≤12)
theorem isWord_no(s:ByteArray)(k:Nat)(h:k<s.size)(hc:wordC k (s[k].toNat:Int)=false):isWord s=false:=by
 have:¬∀i,i<s.size→wordC i (byt s i)=true:=fun f=>by have:=f k h;rw [byt_eq s k h,hc]at this;cases this
 simp only [isWord,decide_eq_false this,Bool.false_and]
theorem isWord_all(s:ByteArray)(h:∀i,i<s.size→wordC i (byt s i)=true):isWord s=(decide (1≤s.size)&&decide (s.size≤12)):=by
 simp only [isWord,decide_eq_true h,Bool.true_and]
theorem IsWord_any(s:ByteArray)(w:World)(hs:s.size≤maxLen):Calls Tryd.prog 65 #[.string s] w fun e w'=>e= .returned (.bool (isWord s))∧w=w':=by
 unfold maxLen at hs
 go_enter Tryd.func65,Tryd.ntmps65
 go_wp2
 go_loop [3] (fun i=>∃k:Nat,k≤s.size∧i= .int .i64 k∧∀j,j<k→wordC j (byt s j)=true) (fun i=>s.size-(intOf i).toNat)
 case atStart=>exact⟨0,Nat.zero_le _,rfl,fun j hj=>absurd hj (Nat.not_lt_zero _)⟩
 case round=>
  obtain⟨k,hk,rfl,hall⟩:=hrel
  by_cases hk2:k<s.size
  ·cases hL:lowc (s[k].toNat:Int)
   ·by_cases h0:k=0
    ·subst h0
     go_wp2_with ((go_at_call 77;(with_reducible refine(letter1_any _ _).mono ?_);rintro e w' ⟨rfl,rfl⟩;simp only [hL]))
     go_ret
     exact⟨ret_bool (isWord_no s 0 hk2 (by simp [wordC,hL])).symm,rfl⟩
    ·cases hD:digc (s[k].toNat:Int)
     ·by_cases hU:(s[k].toNat:Int)=95
      ·go_wp2_with (first|((go_at_call 77;(with_reducible refine(letter1_any _ _).mono ?_);rintro e w' ⟨rfl,rfl⟩;simp only [hL]))|((go_at_call 78;(with_reducible refine(digit1_any _ _).mono ?_);rintro e w' ⟨rfl,rfl⟩;simp only [hD])))
       go_round
       case rel=>exact⟨k+1,by omega,by go_num,fun i hi=>by
        by_cases e:i=k
        ·subst e;rw [byt_eq s i hk2];simp [wordC,hL,hD,hU,h0]
        ·exact hall i (by omega)⟩
       case measure=>simp [intOf];omega
      ·go_wp2_with (first|((go_at_call 77;(with_reducible refine(letter1_any _ _).mono ?_);rintro e w' ⟨rfl,rfl⟩;simp only [hL]))|((go_at_call 78;(with_reducible refine(digit1_any _ _).mono ?_);rintro e w' ⟨rfl,rfl⟩;simp only [hD])))
       all_goals first
        |(go_ret
          exact⟨ret_bool (isWord_no s k hk2 (by simp [wordC,hL,hD,hU])).symm,rfl⟩)
        |(exfalso;simp_all)
     ·go_wp2_with (first|((go_at_call 77;(with_reducible refine(letter1_any _ _).mono ?_);rintro e w' ⟨rfl,rfl⟩;simp only [hL]))|((go_at_call 78;(with_reducible refine(digit1_any _ _).mono ?_);rintro e w' ⟨rfl,rfl⟩;simp only [hD])))
      go_round
      case rel=>exact⟨k+1,by omega,by go_num,fun i hi=>by
       by_cases e:i=k
       ·subst e;rw [byt_eq s i hk2];simp [wordC,hL,hD,h0]
       ·exact hall i (by omega)⟩
      case measure=>simp [intOf];omega
   ·go_wp2_with ((go_at_call 77;(with_reducible refine(letter1_any _ _).mono ?_);rintro e w' ⟨rfl,rfl⟩;simp only [hL]))
    go_round
    case rel=>exact⟨k+1,by omega,by go_num,fun i hi=>by
     by_cases e:i=k
     ·subst e;rw [byt_eq s i hk2];simp [wordC,hL]
     ·exact hall i (by omega)⟩
    case measure=>simp [intOf];omega
  ·have:k=s.size:=by omega
   subst this
   by_cases h1:1≤s.size
   ·go_wp2
    go_ret
    exact⟨ret_bool (by rw [isWord_all s hall];simp [h1];omega),rfl⟩
   ·go_wp2
    go_ret
    exact⟨ret_bool (by rw [isWord_all s hall];simp [h1]),rfl⟩
def keyL:List (List UInt8):=[[97,110,100],[98,101,115,116],[98,121],[99,114,101,100,105,116],[99,117,114,114,101,110,99,121],[101,108,115,101],[102,108,111,111,114],[102,114,111,109],[103,114,97,110,116],[105,102],[105,110,100,101,120],[108,101,116],[108,105,109,105,116],[109,97,120],[109,105,110],[110,111,116],[111,114],[112,97,121],[114,101,100,117,99,101],[114,111,117,110,100],[115,116,97,116,117,116,101],[116,104,101,110]
 ]
def keyB(s:ByteArray):Bool:=keyL.contains s.toList
theorem keyword_any(s:ByteArray)(w:World):Calls Tryd.prog 66 #[.string s] w fun e w'=>e= .returned (.bool (keyB s))∧w=w':=by
 go_enter Tryd.func66,Tryd.ntmps66
 go_wp2
 all_goals first
  |(exfalso;simp_all;done)
  |(go_returns
    exact⟨ret_bool (by simp_all [keyB,keyL]),rfl⟩)

def nameB(s:ByteArray):Bool:=isWord s&&!keyB s
theorem IsName_any(s:ByteArray)(w:World)(hs:s.size≤maxLen):Calls Tryd.prog 45 #[.string s] w fun e w'=>e= .returned (.bool (nameB s))∧w=w':=by
 cases hW:isWord s<;>
 ·go_enter Tryd.func45,Tryd.ntmps45
  go_wp2_with (first|(go_at_call 65;(with_reducible refine(IsWord_any _ _ (by assumption)).mono ?_);rintro e w' ⟨rfl,rfl⟩;simp only [hW])|(go_at_call 66;(with_reducible refine(keyword_any _ _).mono ?_);rintro e w' ⟨rfl,rfl⟩))
  go_returns
  exact⟨ret_bool (by simp [nameB,hW]),rfl⟩

def tenS:ByteArray:=⟨#[48,49,50,51,52,53,54,55,56,57]⟩
def digG:Nat→Int→Nat→ByteArray→ByteArray
 |0,_,_,s=>s
 |f+1,n,l,s=>if 0<n∨s.size<l then digG f (n / 10) l (tenS.extract (n % 10).toNat (n % 10+1).toNat++s)else s
def digS(n:Int)(l:Nat):ByteArray:=digG (n.toNat+l) n l ByteArray.empty
theorem digG_stop(f:Nat)(n:Int)(l:Nat)(s:ByteArray)(h:¬(0<n∨s.size<l)):digG f n l s=s:=by
 cases f with
 |zero=>rfl
 |succ f=>simp only [digG,if_neg h]
theorem digG_go(f:Nat)(n:Int)(l:Nat)(s:ByteArray)(h:0<n∨s.size<l)(hf:n.toNat+(l-s.size)≤f) :
 digG f n l s=digG (f-1) (n / 10) l (tenS.extract (n % 10).toNat (n % 10+1).toNat++s):=by
 cases f with
 |zero=>omega
 |succ f=>simp only [digG,if_pos h];rfl
theorem tenS_size:tenS.size=10:=rfl
theorem ten_piece(m:Int)(s:ByteArray):(tenS.extract (m % 10).toNat (m % 10+1).toNat++s).size=s.size+1:=by
 rw [ByteArray.size_append,ByteArray.size_extract,tenS_size];omega
theorem digG_size:∀(f:Nat) (n:Int) (l:Nat) (s:ByteArray),0≤n→(digG f n l s).size≤s.size+n.toNat+(l-s.size)
 |0,_,_,_,_=>by simp only [digG];omega
 |f+1,n,l,s,h=>by
  simp only [digG]
  split
  ·have:=digG_size f (n / 10) l (tenS.extract (n % 10).toNat (n % 10+1).toNat++s) (by omega)
   rw [ten_piece]at this
   omega
  ·omega
theorem digS_size(n:Int)(l:Nat)(h:0≤n):(digS n l).size≤n.toNat+l:=by
 have:=digG_size (n.toNat+l) n l ByteArray.empty h
 have e:ByteArray.empty.size=0:=rfl
 unfold digS;omega
theorem digits1_any(n:Int)(l:Nat)(w:World)(h0:0≤n)(h1:n≤9223372036854775807)(hl:l≤4):Calls Tryd.prog 38 #[.int .i64 n,.int .i64 l] w fun e w'=>e= .returned (.string (digS n l))∧w=w':=by
 go_enter Tryd.func38,Tryd.ntmps38
 go_wp2
 go_loop [0,5] (fun a b=>∃m:Int,∃s:ByteArray,∃f:Nat,0≤m∧(s.size:Int)+m≤9223372036854775807∧a= .int .i64 m∧b= .string s∧m.toNat+(l-s.size)≤f∧Hid (digG f m l s=digS n l)) (fun a b=>(intOf a).toNat+(l-(match b with| .string s=>s.size|_=>0)))
 case atStart=>exact⟨n,_,n.toNat+l,h0,by show((0:Nat):Int)+n≤_;omega,rfl,rfl,by omega,Lib.hid rfl⟩
 case round=>
  obtain⟨m,s,f,hm0,hm1,rfl,rfl,hf,hg⟩:=hrel
  have hr:0≤m % 10∧m % 10<10:=by omega
  have hpc:Hid (_):=Lib.hid (ten_piece m s)
  by_cases hp:0<m
  ·go_wp2
   go_round
   case rel=>exact⟨m / 10,_,f-1,by omega,by rw [show({data:=#[48,49,50,51,52,53,54,55,56,57]}:ByteArray)=tenS from rfl,hpc.out];omega,rfl,rfl,by rw [show({data:=#[48,49,50,51,52,53,54,55,56,57]}:ByteArray)=tenS from rfl,hpc.out];omega,Lib.hid (by rw [←hg.out,digG_go f m l s (.inl hp) hf];rfl)⟩
   case measure=>
    exact lz34
  ·by_cases hq:s.size<l
   ·go_wp2
    go_round
    case rel=>exact⟨m / 10,_,f-1,by omega,by rw [show({data:=#[48,49,50,51,52,53,54,55,56,57]}:ByteArray)=tenS from rfl,hpc.out];omega,rfl,rfl,by rw [show({data:=#[48,49,50,51,52,53,54,55,56,57]}:ByteArray)=tenS from rfl,hpc.out];omega,Lib.hid (by rw [←hg.out,digG_go f m l s (.inr hq) hf];rfl)⟩
    case measure=>
     exact lz34
   ·go_wp2
    go_returns
    exact⟨by rw [←hg.out,digG_stop f m l s (by omega)];rfl,rfl⟩

theorem ret_str{a b:ByteArray}(h:a=b):Ending.returned (.string a)= .returned (.string b):=by rw [h]
def fracS(n d:Int):ByteArray:=
 if vfrac n d=true then
  if n<0 then(if d=1 then⟨#[45]⟩++digS (absI n) 1 else⟨#[45]⟩++digS (absI n) 1++⟨#[47]⟩++digS d 1)
  else(if d=1 then digS (absI n) 1 else digS (absI n) 1++⟨#[47]⟩++digS d 1)
 else⟨#[]⟩
theorem digits1_one(n:Int)(w:World)(h0:0≤n)(h1:n≤9223372036854775807):Calls Tryd.prog 38 #[.int .i64 n,.int .i64 1] w fun e w'=>e= .returned (.string (digS n 1))∧w=w':=
 digits1_any n 1 w h0 h1 (by omega)
theorem fracS_no(n d:Int)(h:vfrac n d=false):fracS n d=⟨#[]⟩:=by simp [fracS,h]
theorem FormatFraction_any(n d:Int)(w:World)(h1:-9223372036854775808≤n)(h2:n≤9223372036854775807)(h3:-9223372036854775808≤d)(h4:d≤9223372036854775807):Calls Tryd.prog 20 #[.agg #[.int .i64 n,.int .i64 d]] w fun e w'=>e= .returned (.string (fracS n d))∧w.Grows w':=by
 cases hv:vfrac n d
 ·go_enter Tryd.func20,Tryd.ntmps20
  go_wp2_with ((first|(go_at_call 37;(with_reducible refine(Valid1_any _ _ _ (by omega) (by omega) (by omega) (by omega)).mono ?_);rintro e w' ⟨rfl,bs,dr,rfl⟩;simp only [hv])|(go_at_call 31;(with_reducible refine(size1_any _ _ (by omega) (by omega)).mono ?_);rintro e w' ⟨rfl,rfl⟩)|(go_at_call 38;(with_reducible refine(digits1_one _ _ (by omega) (by omega)).mono ?_);rintro e w' ⟨rfl,rfl⟩)))
  go_returns
  exact⟨ret_str (fracS_no n d hv).symm,.of_below belB⟩
 ·have⟨b1,b2,b3,b4⟩:=vfrac_bd hv
  have a0:0≤absI n:=by unfold absI;omega
  have a1:absI n≤1000000000000000:=by unfold absI;omega
  have e1:IntKind.i64.wrap (absI n)=absI n:=IntWalk.i64_in _ (by omega)
  have z1:((digS (absI n) 1).size:Int)≤1000000000000001:=by have:=digS_size (absI n) 1 a0;omega
  have z2:((digS d 1).size:Int)≤1000000001:=by have:=digS_size d 1 (by omega);omega
  by_cases cn:n<0
  ·exact lz7
  ·exact lz7

def decG:Nat→Int→Int→ByteArray→ByteArray
 |0,_,_,s=>s
 |f+1,r,k,s=>if 0<r then decG f (r % k) (k / 10) (s++tenS.extract (r / k).toNat (r / k+1).toNat)else s
def decOk(n d m:Int):Bool:=vfrac n d&&decide (0≤n)&&decide (10000 % d=0)&&decide (2≤m)&&decide (m≤4)&&decide (n / d≤999999999)
def restI(n d:Int):Int:=(n-n / d*d)*(10000 / d)
def sufS(m:Int):ByteArray:=if m=2 then⟨#[]⟩else if m=3 then⟨#[100]⟩else⟨#[109]⟩
def decS(n d m:Int):ByteArray:=
 (if 0<restI n d then decG 4 (restI n d) 1000 (digS (n / d) 1++⟨#[46]⟩)else digS (n / d) 1)++sufS m
theorem ret_dec{a b:ByteArray}{p q:Bool}(h:a=b)(g:p=q):Ending.returned (.tuple #[.string a,.bool p])= .returned (.tuple #[.string b,.bool q]):=by rw [h,g]
def decV(n d m:Int):Value:=.tuple #[.string (if decOk n d m=true then decS n d m else⟨#[]⟩),.bool (decOk n d m)]
theorem decV_no{n d m:Int}(h:decOk n d m=false):decV n d m= .tuple #[.string ⟨#[]⟩,.bool false]:=by simp [decV,h]
theorem decV_yes{n d m:Int}(h:decOk n d m=true):decV n d m= .tuple #[.string (decS n d m),.bool true]:=by simp [decV,h]
theorem FormatDecimal_no(n d m:Int)(w:World)(h1:-9223372036854775808≤n)(h2:n≤9223372036854775807)(h3:-9223372036854775808≤d)(h4:d≤9223372036854775807)(h:decOk n d m=false):Calls Tryd.prog 73 #[.agg #[.int .i64 n,.int .i64 d],.int .i64 m] w fun e w'=>e= .returned (decV n d m)∧w.Grows w':=by
 cases hv:vfrac n d
 ·have hq:Hid True:=Lib.hid trivial
  exact lz2
 ·have⟨b1,b2,b3,b4⟩:=vfrac_bd hv
  have hq:Hid True:=Lib.hid trivial
  by_cases c1:n<0
  ·exact lz2
  ·by_cases c2:10000 % d=0
   ·by_cases c3:m<2
    ·exact lz2
    ·by_cases c4:4<m
     ·exact lz2
     ·by_cases c5:n / d≤999999999
      ·exfalso;simp [decOk,hv,c2]at h;omega
      ·exact lz2
   ·exact lz2
theorem fracS_whole(q:Int)(h0:0≤q)(h1:q≤999999999):fracS q 1=digS q 1:=by
 have hv:vfrac q 1=true:=vfrac_of (by omega) (by simp)
 have ha:absI q=q:=absI_of_nonneg h0
 simp [fracS,hv,ha];intro h;omega
theorem rest_bd(n d:Int)(h0:0≤n)(h1:1≤d)(h2:10000 % d=0):0≤n / d∧0≤n / d*d∧n / d*d≤n∧n-n / d*d<d∧0≤10000 / d∧10000 / d≤10000∧0≤restI n d∧restI n d<10000:=by
 have a1:0≤n / d:=Int.ediv_nonneg h0 (by omega)
 have a2:0≤n % d:=Int.emod_nonneg _ (by omega)
 have a3:n % d<d:=Int.emod_lt_of_pos _ (by omega)
 have a4:d*(n / d)+n % d=n:=Int.mul_ediv_add_emod n d
 rw [Int.mul_comm]at a4
 have a5:0≤10000 / d:=Int.ediv_nonneg (by omega) (by omega)
 have a6:10000 / d≤10000:=Int.ediv_le_self _ (by omega)
 have a7:d*(10000 / d)+10000 % d=10000:=Int.mul_ediv_add_emod 10000 d
 have a8:n-n / d*d=n % d:=by omega
 have a9:0≤n / d*d:=Int.mul_nonneg a1 (by omega)
 refine⟨a1,a9,by omega,by omega,a5,a6, ?_, ?_⟩
 ·unfold restI;rw [a8];exact Int.mul_nonneg a2 a5
 ·unfold restI;rw [a8]
  have a10:0<10000 / d:=by
   rcases Int.lt_or_eq_of_le a5 with h|h
   ·exact h
   ·rw [←h]at a7;omega
  have:=Int.mul_lt_mul_of_pos_right a3 a10
  omega
theorem decG_stop(f:Nat)(r k:Int)(s:ByteArray)(h:¬0<r):decG f r k s=s:=by cases f<;>simp [decG,h]
theorem decG_go(f:Nat)(r k:Int)(s:ByteArray)(h:0<r):decG (f+1) r k s=decG f (r % k) (k / 10) (s++tenS.extract (r / k).toNat (r / k+1).toNat):=by simp [decG,h]
theorem ten_app(s:ByteArray)(x:Int)(h0:0≤x)(h1:x<10):(s++(⟨#[48,49,50,51,52,53,54,55,56,57]⟩:ByteArray).extract x.toNat (x+1).toNat).size=s.size+1:=by
 show(s++tenS.extract _ _).size=_
 rw [ByteArray.size_append,ByteArray.size_extract,tenS_size];omega
theorem dot_size(s:ByteArray):(s++(⟨#[46]⟩:ByteArray)).size=s.size+1:=by rw [ByteArray.size_append];rfl
theorem decS_dot{n d m r k:Int}{j:Nat}{s:ByteArray}(hp:0<restI n d)(g:decG j r k s=decG 4 (restI n d) 1000 (digS (n / d) 1++⟨#[46]⟩))(g6:decG j r k s=s):s++sufS m=decS n d m:=by
 unfold decS
 rw [if_pos hp,←g,g6]
theorem decS_whole{n d m r k:Int}{j:Nat}{s:ByteArray}(hp:¬0<restI n d)(g:decG j r k s=decG 4 (restI n d) 1000 (digS (n / d) 1))(g6:decG j r k s=s):s++sufS m=decS n d m:=by
 unfold decS
 rw [if_neg hp,←g6,g,decG_stop _ _ _ _ hp]
theorem FormatDecimal_yes(n d m:Int)(w:World)(h1:-9223372036854775808≤n)(h2:n≤9223372036854775807)(h3:-9223372036854775808≤d)(h4:d≤9223372036854775807)(h:decOk n d m=true):Calls Tryd.prog 73 #[.agg #[.int .i64 n,.int .i64 d],.int .i64 m] w fun e w'=>e= .returned (decV n d m)∧w.Grows w':=by
 rw [decV_yes h]
 simp only [decOk,Bool.and_eq_true,decide_eq_true_eq]at h
 obtain⟨⟨⟨⟨⟨hv,c1⟩,c2⟩,c3⟩,c4⟩,c5⟩:=h
 have⟨b1,b2,b3,b4⟩:=vfrac_bd hv
 have⟨r1,r2,r3,r4,r5,r6,r7,r8⟩:=rest_bd n d c1 b1 c2
 have hR:Hid (_):=Lib.hid (show restI n d=(n-n / d*d)*(10000 / d)from rfl)
 unfold restI at r7 r8
 have hq:=Lib.hid (fracS_whole (n / d) r1 c5)
 have z:=digS_size (n / d) 1 r1
 have z1:((digS (n / d) 1).size:Int)≤1000000000:=by omega
 clear z
 go_enter Tryd.func73,Tryd.ntmps73
 by_cases hp:0<(n-n / d*d)*(10000 / d)
 ·have HP:=Lib.hid (show 0<restI n d from hp)
  go_wp2_with ((first|(go_at_call 37;(with_reducible refine(Valid1_any _ _ _ (by omega) (by omega) (by omega) (by omega)).mono ?_);rintro e w' ⟨rfl,bs,dr,rfl⟩;simp only [hv])|(go_at_call 20;(with_reducible refine(FormatFraction_any _ _ _ (by omega) (by omega) (by omega) (by omega)).mono ?_);rintro e w' ⟨rfl,bs2,dr2,rfl⟩;simp only [hq.out])))
  go_quiet (fail)
  go_wp2_with fail
  go_loopw [7,8,9] (fun v7 v8 v9 wr=>∃j:Nat,∃r k:Int,∃s:ByteArray,v7= .string s∧v8= .int .i64 r∧v9= .int .i64 k∧0≤r∧((s.size:Int)≤1000000010-j)∧
   ((j=4∧k=1000∧r<10000)∨(j=3∧k=100∧r<1000)∨(j=2∧k=10∧r<100)∨(j=1∧k=1∧r<10)∨(j=0∧k=0∧r=0))∧
   Hid (decG j r k s=decG 4 (restI n d) 1000 (digS (n / d) 1++⟨#[46]⟩))∧World.Grows (w.alloc (.cells #[.int .i64 n,.int .i64 d] 29)) wr) (fun _ _ v9 _=>(intOf v9).toNat)
  case atStart=>exact⟨4,_,_,_,rfl,rfl,rfl,by omega,by first|(rw [dot_size];omega)|omega,.inl ⟨rfl,rfl,by omega⟩,Lib.hid (by rw [hR.out]),.of_below belB⟩
  case round=>
   obtain⟨j,r,k,s,rfl,rfl,rfl,g1,g2,g3,g4,bs3,dr3,rfl⟩:=hrel
   by_cases g0:0<r
   ·exact lz4
   ·have G6:=Lib.hid (decG_stop j r k s g0)
    obtain rfl|rfl|rfl:m=2∨m=3∨m=4:=by omega
    ·go_wp2_with fail
     go_returns
     exact⟨ret_dec (show s++sufS 2=decS n d 2 from decS_dot (by have:=HP.out;omega) g4.out G6.out) rfl,.of_below belB⟩
    ·go_wp2_with fail
     go_returns
     exact⟨ret_dec (show s++sufS 3=decS n d 3 from decS_dot (by have:=HP.out;omega) g4.out G6.out) rfl,.of_below belB⟩
    ·go_wp2_with fail
     go_returns
     exact⟨ret_dec (show s++sufS 4=decS n d 4 from decS_dot (by have:=HP.out;omega) g4.out G6.out) rfl,.of_below belB⟩
 ·have HP:=Lib.hid (show ¬0<restI n d from hp)
  go_wp2_with ((first|(go_at_call 37;(with_reducible refine(Valid1_any _ _ _ (by omega) (by omega) (by omega) (by omega)).mono ?_);rintro e w' ⟨rfl,bs,dr,rfl⟩;simp only [hv])|(go_at_call 20;(with_reducible refine(FormatFraction_any _ _ _ (by omega) (by omega) (by omega) (by omega)).mono ?_);rintro e w' ⟨rfl,bs2,dr2,rfl⟩;simp only [hq.out])))
  go_quiet (fail)
  go_wp2_with fail
  go_loopw [7,8,9] (fun v7 v8 v9 wr=>∃j:Nat,∃r k:Int,∃s:ByteArray,v7= .string s∧v8= .int .i64 r∧v9= .int .i64 k∧0≤r∧((s.size:Int)≤1000000010-j)∧
   ((j=4∧k=1000∧r<10000)∨(j=3∧k=100∧r<1000)∨(j=2∧k=10∧r<100)∨(j=1∧k=1∧r<10)∨(j=0∧k=0∧r=0))∧
   Hid (decG j r k s=decG 4 (restI n d) 1000 (digS (n / d) 1))∧World.Grows (w.alloc (.cells #[.int .i64 n,.int .i64 d] 29)) wr) (fun _ _ v9 _=>(intOf v9).toNat)
  case atStart=>exact⟨4,_,_,_,rfl,rfl,rfl,by omega,by first|(rw [dot_size];omega)|omega,.inl ⟨rfl,rfl,by omega⟩,Lib.hid (by rw [hR.out]),.of_below belB⟩
  case round=>
   obtain⟨j,r,k,s,rfl,rfl,rfl,g1,g2,g3,g4,bs3,dr3,rfl⟩:=hrel
   by_cases g0:0<r
   ·exact lz4
   ·have G6:=Lib.hid (decG_stop j r k s g0)
    obtain rfl|rfl|rfl:m=2∨m=3∨m=4:=by omega
    ·go_wp2_with fail
     go_returns
     exact⟨ret_dec (show s++sufS 2=decS n d 2 from decS_whole (by have:=HP.out;omega) g4.out G6.out) rfl,.of_below belB⟩
    ·go_wp2_with fail
     go_returns
     exact⟨ret_dec (show s++sufS 3=decS n d 3 from decS_whole (by have:=HP.out;omega) g4.out G6.out) rfl,.of_below belB⟩
    ·go_wp2_with fail
     go_returns
     exact⟨ret_dec (show s++sufS 4=decS n d 4 from decS_whole (by have:=HP.out;omega) g4.out G6.out) rfl,.of_below belB⟩
theorem FormatDecimal_any(n d m:Int)(w:World)(h1:-9223372036854775808≤n)(h2:n≤9223372036854775807)(h3:-9223372036854775808≤d)(h4:d≤9223372036854775807):Calls Tryd.prog 73 #[.agg #[.int .i64 n,.int .i64 d],.int .i64 m] w fun e w'=>e= .returned (decV n d m)∧w.Grows w':=by
 cases h:decOk n d m
 ·exact FormatDecimal_no n d m w h1 h2 h3 h4 h
 ·exact FormatDecimal_yes n d m w h1 h2 h3 h4 h

theorem Calls.quiet_eq{P:Program}{f:FuncId}{args:Array Value}{w:World}{n:Nat}{v:Value}
 (h:Calls P f args (w.drewN n) fun e w'=>e= .returned v∧w.drewN n=w'):Calls P f args (w.drewN n) fun e w''=>e= .returned v∧∃m,w''=w.drewN m:=
 h.mono fun _ _ ⟨he,hm⟩=>⟨he,n,hm.symm⟩
theorem RepE.form0{S:Nat→Prop}{w:World}{e:Ex}{v:Value}(h:RepE S w e v):∃a cap,v= .slice a e.args.length cap:=by cases h;exact⟨_,_,rfl⟩
mutual
def formedB:Ex→Bool
 | .mk o n d m s l=>decide ((l.length:Int)=argsN o)&&
  (if o=1 then decOk n d m&&s.toList.isEmpty
   else if o=2 then decide (n=0)&&decide (d=0)&&decide (m=0)&&nameB s
   else if o=3 then decide (m=0)&&s.toList.isEmpty&&decide (d=1)&&decide (1≤n)&&decide (n≤45)
   else formedsB l&&(decide (n=0)&&decide (d=0)&&decide (m=0)&&s.toList.isEmpty))
def formedsB:List Ex→Bool
 | []=>true
 |e::r=>formedB e&&formedsB r
end
theorem formedB_eq(e:Ex):formedB e=(decide ((e.args.length:Int)=argsN e.op)&&
 (if e.op=1 then decOk e.num e.den e.dim&&e.name.toList.isEmpty
  else if e.op=2 then decide (e.num=0)&&decide (e.den=0)&&decide (e.dim=0)&&nameB e.name
  else if e.op=3 then decide (e.dim=0)&&e.name.toList.isEmpty&&decide (e.den=1)&&decide (1≤e.num)&&decide (e.num≤45)
  else formedsB e.args&&(decide (e.num=0)&&decide (e.den=0)&&decide (e.dim=0)&&e.name.toList.isEmpty))):=by
 cases e;rw [formedB];rfl
theorem formedsB_take(l:List Ex)(k:Nat)(h:k<l.length):formedsB (l.take (k+1))=(formedsB (l.take k)&&formedB (l.getD k default)):=by
 induction l generalizing k with
 |nil=>simp at h
 |cons e r ih=>
  cases k with
  |zero=>simp [formedsB]
  |succ k=>simp only [List.take_succ_cons,formedsB,List.getD_cons_succ];rw [ih k (by simpa using h),Bool.and_assoc]
theorem formedsB_no(l:List Ex)(k:Nat)(h:k<l.length)(hf:formedB (l.getD k default)=false):formedsB l=false:=by
 induction l generalizing k with
 |nil=>simp at h
 |cons e r ih=>
  cases k with
  |zero=>simp only [List.getD_cons_zero]at hf;simp [formedsB,hf]
  |succ k=>simp only [List.getD_cons_succ]at hf;simp [formedsB,ih k (by simpa using h) hf]

theorem formed_len
 (S:Nat→Prop) (e:Ex) (v:Value) (w:World) (h:RepE S w e v)
 (hne:¬(e.args.length:Int)=argsN e.op):(Calls Tryd.prog 56 #[exV e v] w fun r w'=>r= .returned (.bool (formedB e))∧w.Grows w'):=by
 have HF:Hid (formedB e=false):=Lib.hid (by rw [formedB_eq,decide_eq_false hne,Bool.false_and])
 have hr:=h.rng
 obtain⟨a,cap,hv⟩:∃a cap,v= .slice a e.args.length cap:=by cases h;exact⟨_,_,rfl⟩
 subst hv
 clear h
 obtain⟨on,od⟩:=hr.num
 obtain⟨pn,pd⟩:=hr.den
 have hsz:=hr.name
 clear hr
 have h1:((e.args.length:Int)!=argsN e.op)=true:=by simpa using hne
 clear hne
 go_enter Tryd.func56,Tryd.ntmps56
 go_wp2_with fail
 go_quiet ((go_at_call 72;exact Calls.quiet_eq (Args_any _ _)))
 go_wp2_with fail
 go_returns
 exact⟨ret_bool HF.out.symm,.of_below belB⟩
theorem formed_lit
 (S:Nat→Prop) (e:Ex) (v:Value) (w:World) (h:RepE S w e v)
 (hle:(e.args.length:Int)=argsN e.op) (ho:e.op=1):(Calls Tryd.prog 56 #[exV e v] w fun r w'=>r= .returned (.bool (formedB e))∧w.Grows w'):=by
 have HF:Hid (formedB e=(decOk e.num e.den e.dim&&e.name.toList.isEmpty)):=Lib.hid (by rw [formedB_eq,decide_eq_true hle,Bool.true_and,if_pos ho])
 have hr:=h.rng
 obtain⟨a,cap,hv⟩:∃a cap,v= .slice a e.args.length cap:=by cases h;exact⟨_,_,rfl⟩
 subst hv
 clear h
 obtain⟨on,od⟩:=hr.num
 obtain⟨pn,pd⟩:=hr.den
 have hsz:=hr.name
 clear hr
 have h1:((e.args.length:Int)!=argsN 1)=false:=by rw [ho]at hle;simpa using hle
 clear hle
 go_enter Tryd.func56,Tryd.ntmps56
 go_wp2_with fail
 go_quiet ((go_at_call 72;exact Calls.quiet_eq (Args_any _ _)))
 go_wp2_with (go_at_call 73;refine(FormatDecimal_any _ _ _ _ (by omega) (by omega) (by omega) (by omega)).mono ?_;rintro e' w' ⟨rfl,bs,d,rfl⟩;simp only [decV])
 all_goals
  go_returns
  exact⟨ret_bool (by rw [HF.out];simp [*]),.of_below belB⟩
theorem formed_name
 (S:Nat→Prop) (e:Ex) (v:Value) (w:World) (h:RepE S w e v)
 (hle:(e.args.length:Int)=argsN e.op) (ho:e.op=2):(Calls Tryd.prog 56 #[exV e v] w fun r w'=>r= .returned (.bool (formedB e))∧w.Grows w'):=by
 have HF:Hid (formedB e=(decide (e.num=0)&&decide (e.den=0)&&decide (e.dim=0)&&nameB e.name)):=Lib.hid (by rw [formedB_eq,decide_eq_true hle,Bool.true_and,if_neg (by omega),if_pos ho])
 have hr:=h.rng
 obtain⟨a,cap,hv⟩:∃a cap,v= .slice a e.args.length cap:=by cases h;exact⟨_,_,rfl⟩
 subst hv
 clear h
 obtain⟨on,od⟩:=hr.num
 obtain⟨pn,pd⟩:=hr.den
 have hsz:=hr.name
 clear hr
 have h1:((e.args.length:Int)!=argsN 2)=false:=by rw [ho]at hle;simpa using hle
 clear hle
 have hm:e.name.size≤maxLen:=by unfold maxLen;omega
 have HM:=Lib.hid hm
 clear hm
 go_enter Tryd.func56,Tryd.ntmps56
 go_wp2_with fail
 go_quiet ((go_at_call 72;exact Calls.quiet_eq (Args_any _ _)))
 go_wp2_with (go_at_call 45;refine(IsName_any _ _ HM.out).mono ?_;rintro e' w' ⟨rfl,rfl⟩)
 all_goals
  go_returns
  exact⟨ret_bool (by rw [HF.out];simp [*]),.of_below belB⟩
theorem formed_best
 (S:Nat→Prop) (e:Ex) (v:Value) (w:World) (h:RepE S w e v)
 (hle:(e.args.length:Int)=argsN e.op) (ho:e.op=3):(Calls Tryd.prog 56 #[exV e v] w fun r w'=>r= .returned (.bool (formedB e))∧w.Grows w'):=by
 have HF:Hid (formedB e=(decide (e.dim=0)&&e.name.toList.isEmpty&&decide (e.den=1)&&decide (1≤e.num)&&decide (e.num≤45))):=Lib.hid (by rw [formedB_eq,decide_eq_true hle,Bool.true_and,if_neg (by omega),if_neg (by omega),if_pos ho])
 have hr:=h.rng
 obtain⟨a,cap,hv⟩:∃a cap,v= .slice a e.args.length cap:=by cases h;exact⟨_,_,rfl⟩
 subst hv
 clear h
 obtain⟨on,od⟩:=hr.num
 obtain⟨pn,pd⟩:=hr.den
 have hsz:=hr.name
 clear hr
 have h1:((e.args.length:Int)!=argsN 3)=false:=by rw [ho]at hle;simpa using hle
 clear hle
 go_enter Tryd.func56,Tryd.ntmps56
 go_wp2_with fail
 go_quiet ((go_at_call 72;exact Calls.quiet_eq (Args_any _ _)))
 go_wp2_with fail
 all_goals
  go_returns
  exact⟨ret_bool (by rw [HF.out];first|(simp [*];done)|(simp [*];intros;omega)),.of_below belB⟩
def fT(e:Ex)(k:Nat):Bool:=formedsB (e.args.take k)
theorem fT_zero(e:Ex):fT e 0=true:=rfl
theorem fT_succ(e:Ex)(k:Nat)(h:k<e.args.length)(h1:fT e k=true)(h2:formedB (e.arg k)=true):fT e (k+1)=true:=by
 unfold fT at *;rw [formedsB_take _ _ h,h1,Bool.true_and];exact h2
theorem formed_walk(S:Nat→Prop)(n:Nat):∀(e:Ex),e.size≤n→∀(v:Value) (w:World),RepE S w e v→(Calls Tryd.prog 56 #[exV e v] w fun r w'=>r= .returned (.bool (formedB e))∧w.Grows w'):=by
 induction n with
 |zero=>intro e he;have:=e.size_pos;omega
 |succ n ih=>
  intro e he v w h
  by_cases hle:(e.args.length:Int)=argsN e.op
  ·by_cases o1:e.op=1
   ·exact formed_lit S e v w h hle o1
   ·by_cases o2:e.op=2
    ·exact formed_name S e v w h hle o2
    ·by_cases o3:e.op=3
     ·exact formed_best S e v w h hle o3
     ·have HF:Hid (formedB e=(formedsB e.args&&(decide (e.num=0)&&decide (e.den=0)&&decide (e.dim=0)&&e.name.toList.isEmpty))):=Lib.hid (by rw [formedB_eq,decide_eq_true hle,Bool.true_and,if_neg o1,if_neg o2,if_neg o3])
      have IH:=Lib.hid ih
      clear ih
      have h1:((e.args.length:Int)!=argsN e.op)=false:=by simpa using hle
      have p1:(e.op==1)=false:=by simpa using o1
      have p2:(e.op==2)=false:=by simpa using o2
      have p3:(e.op==3)=false:=by simpa using o3
      clear hle o1 o2 o3
      cases h with
      |mk _ a cap vs hr hc hs=>
       have hlen:=hr.len
       have Hs:=Lib.hid hs
       have He:=Lib.hid he
       have Hc:=Lib.hid hc
       clear hr hs he hc
       generalize hz:(decide (e.num=0)&&decide (e.den=0)&&decide (e.dim=0)&&e.name.toList.isEmpty)=z at HF
       have HZ:=Lib.hid hz
       clear hz
       go_enter Tryd.func56,Tryd.ntmps56
       go_wp2_with fail
       go_quiet ((go_at_call 72;exact Calls.quiet_eq (Args_any _ _)))
       go_wp2_with fail
       all_goals
        go_loopw [6] (fun v6 wr=>∃k:Nat,k≤e.args.length∧v6= .int .i64 k∧Hid (fT e k=true)∧
         ∃x1 x2 x3:Int,World.Grows (w.alloc (.cells #[.int .i64 e.op,.int .i64 x1,.int .i64 x2,.int .i64 x3,.string e.name,.slice a e.args.length cap] 63)) wr) (fun v6 _=>e.args.length-(intOf v6).toNat)
        case atStart=>exact⟨0,by omega,rfl,Lib.hid (fT_zero e),_,_,_,.of_below belB⟩
        case round=>
         obtain⟨k,hk,rfl,HT,x1,x2,x3,bs,d,rfl⟩:=hrel
         by_cases hlt:k<e.args.length
         ·rcases Hc.out with h0|⟨b,off,rfl,hS,hbw,hx⟩
          ·omega
          ·obtain⟨y0,y1,y2,y3,y4,y5⟩:=hx k hlt
           clear hx
           have hlt1:(k:Int)<(e.args.length:Int):=by omega
           have HA:=Lib.hid (e.size_arg k hlt)
           cases hb:formedB (e.arg k)
           ·have HB:=Lib.hid hb
            clear hb
            go_wp2_with fail
            refine(IH.out (e.arg k) (by have:=He.out;have:=HA.out;omega) (vs k) _ (((Hs.out k hlt).alloc _).grow _ _)).mono ?_
            rintro r w' ⟨rfl,bs2,d2,rfl⟩
            simp only [HB.out]
            go_wp2_with fail
            go_returns
            exact⟨ret_bool (by rw [HF.out,formedsB_no _ k hlt HB.out,Bool.false_and]),.of_below belB⟩
           ·have HB:=Lib.hid hb
            clear hb
            go_wp2_with fail
            refine(IH.out (e.arg k) (by have:=He.out;have:=HA.out;omega) (vs k) _ (((Hs.out k hlt).alloc _).grow _ _)).mono ?_
            rintro r w' ⟨rfl,bs2,d2,rfl⟩
            simp only [HB.out]
            go_wp2_with fail
            go_roundw
            case rel=>exact⟨k+1,by omega,by go_num,Lib.hid (fT_succ e k hlt HT.out HB.out),x1,x2,x3,.of_below belB⟩
            case measure=>simp [intOf];omega
         ·obtain rfl:k=e.args.length:=by omega
          have HT2:Hid (formedsB e.args=true):=Lib.hid (by have:=HT.out;unfold fT at this;rw [List.take_length]at this;exact this)
          clear HT
          go_wp2_with fail
          go_returns
          exact⟨ret_bool (by rw [HF.out,HT2.out,Bool.true_and,←HZ.out];simp [*]),.of_below belB⟩
  ·exact formed_len S e v w h hle

theorem formed_any(S:Nat→Prop)(e:Ex)(v:Value)(w:World)(h:RepE S w e v):(Calls Tryd.prog 56 #[exV e v] w fun r w'=>r= .returned (.bool (formedB e))∧w.Grows w'):=formed_walk S e.size e (Nat.le_refl _) v w h
def validB(e:Ex):Bool:=decide (e.depth≤10)&&decide (e.size≤60)&&formedB e
theorem ValidExpr_any(S:Nat→Prop)(e:Ex)(v:Value)(w:World)(h:Hid (RepE S w e v))(hbig:Hid (e.size≤2305843009213693952)):Calls Tryd.prog 33 #[exV e v] w fun r w'=>r= .returned (.bool (validB e))∧w.Grows w':=by
 obtain⟨a,cap,hv⟩:=h.out.form0
 subst hv
 by_cases c1:(e.depth:Int)≤10
 ·by_cases c2:(e.size:Int)≤60
  ·go_enter Tryd.func33,Tryd.ntmps33
   go_wp2_with ((first|(go_at_call 54;refine(Depth_walk S e.size e (Nat.le_refl _) _ _ (h.out.alloc _) hbig).mono ?_;rintro r w' ⟨rfl,bs,d,rfl⟩)|(go_at_call 55;refine(Size_walk S e.size e (Nat.le_refl _) _ _ ((h.out.alloc _).grow _ _) hbig).mono ?_;rintro r w' ⟨rfl,bs2,d2,rfl⟩)|(go_at_call 56;refine(formed_any S e _ _ ((h.out.alloc _).grow _ _)).mono ?_;rintro r w' ⟨rfl,bs3,d3,rfl⟩)))
   go_returns
   exact⟨ret_bool (by unfold validB;rw [decide_eq_true (by omega),decide_eq_true (by omega)];rfl),.of_below belB⟩
  ·go_enter Tryd.func33,Tryd.ntmps33
   go_wp2_with ((first|(go_at_call 54;refine(Depth_walk S e.size e (Nat.le_refl _) _ _ (h.out.alloc _) hbig).mono ?_;rintro r w' ⟨rfl,bs,d,rfl⟩)|(go_at_call 55;refine(Size_walk S e.size e (Nat.le_refl _) _ _ ((h.out.alloc _).grow _ _) hbig).mono ?_;rintro r w' ⟨rfl,bs2,d2,rfl⟩)|(go_at_call 56;refine(formed_any S e _ _ ((h.out.alloc _).grow _ _)).mono ?_;rintro r w' ⟨rfl,bs3,d3,rfl⟩)))
   go_returns
   exact⟨ret_bool (by unfold validB;rw [decide_eq_false (show ¬e.size≤60 by omega)];simp),.of_below belB⟩
 ·go_enter Tryd.func33,Tryd.ntmps33
  go_wp2_with ((first|(go_at_call 54;refine(Depth_walk S e.size e (Nat.le_refl _) _ _ (h.out.alloc _) hbig).mono ?_;rintro r w' ⟨rfl,bs,d,rfl⟩)|(go_at_call 55;refine(Size_walk S e.size e (Nat.le_refl _) _ _ ((h.out.alloc _).grow _ _) hbig).mono ?_;rintro r w' ⟨rfl,bs2,d2,rfl⟩)|(go_at_call 56;refine(formed_any S e _ _ ((h.out.alloc _).grow _ _)).mono ?_;rintro r w' ⟨rfl,bs3,d3,rfl⟩)))
  go_returns
  exact⟨ret_bool (by unfold validB;rw [decide_eq_false (show ¬e.depth≤10 by omega)];simp),.of_below belB⟩
def IdxE(n:Nat)(p:Nat→Bool)(r:Int):Prop:=(r= -1∧∀k,k<n→p k=false)∨∃k:Nat,k<n∧r=k∧p k=true
theorem IdxE.any{n:Nat}{p:Nat→Bool}{r:Int}(h:IdxE n p r):decide (0≤r)=(List.range n).any p:=by
 rcases h with ⟨rfl,h⟩|⟨k,hk,rfl,hp⟩
 ·symm
  rw [show decide ((0:Int)≤-1)=false by decide,Bool.eq_false_iff]
  intro hc
  obtain⟨k,hk,hp⟩:=List.any_eq_true.1 hc
  rw [h k (List.mem_range.1 hk)]at hp;cases hp
 ·rw [decide_eq_true (show(0:Int)≤k by omega)]
  symm
  exact List.any_eq_true.2 ⟨k,List.mem_range.2 hk,hp⟩
theorem RepE.grows{S:Nat→Prop}{w w':World}{e:Ex}{v:Value}(h:RepE S w e v)(hg:w.Grows w'):RepE S w' e v:=by
 obtain⟨bs,d,rfl⟩:=hg;exact h.grow bs d
end Go.Proofs.YthionhbjmheimaaDoor
