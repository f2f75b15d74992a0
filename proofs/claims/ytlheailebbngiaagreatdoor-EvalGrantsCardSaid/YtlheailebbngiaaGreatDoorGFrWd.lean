import Derived.Test.YtlheailebbngiaaGreatDoorGWide
import Derived.Shelf.Spec.BitsCarry
set_option linter.all false
set_option maxHeartbeats 16000000
set_option maxRecDepth 1000000
namespace Go.Proofs.YtlheailebbngiaaGreatDoor
open Tryz List
open Go.RowKit

theorem iC(a b:Nat)(w:World)(h1:a<18446744073709551616)(h2:b<18446744073709551616) :
 Calls prog 183 #[.int .u64 a,.int .u64 b] w fun e w'=>e= .returned (.agg #[.int .u64 (hiW (a*b)),.int .u64 (loW (a*b))])/\w.Grows w':=by
 have H:Hid (∀w,Calls prog 133 #[.int .u64 a,.int .u64 b] w fun e w'=>e= .returned (.tuple #[.int .u64 (hiW (a*b)),.int .u64 (loW (a*b))])/\w'=w):=bits_Mul64 a b h1 h2;generalize a*b=n at *
 go_enter func183,ntmps183
 go_wp2_with fail
 refine(H.out _).mono ?_;rintro e w' ⟨rfl,rfl⟩;clear H
 go_wp2_with fail
 go_returns
 exact⟨rfl,.of_below af⟩
theorem wY(x y c:Nat)(hc:c<=1)(w:World):(callFunc 208 #[.int .u64 x,.int .u64 y,.int .u64 c]).run prog w=
 .ok (.value (.tuple #[.int .u64 (((x+y+c) % 18446744073709551616:Nat):Int),.int .u64 (((x+y+c) / 18446744073709551616:Nat):Int)])) w:=by
 rw [run_callFunc_extern func208 zf zf zf (e:=add64Entry) zf,run_add64 x y c ze ze ze ze];simp only [Result.andThen]
 congr 5<;>omega
theorem pX(x y b:Nat)(hb:b<=1)(w:World):(callFunc 209 #[.int .u64 x,.int .u64 y,.int .u64 b]).run prog w=
 .ok (.value (.tuple #[.int .u64 (((x+18446744073709551616-y-b) % 18446744073709551616:Nat):Int),.int .u64 ((if x<y+b then 1 else 0:Nat):Int)])) w:=by
 rw [run_callFunc_extern func209 zf zf zf (e:=sub64Entry) zf,run_sub64 x y b hb];rfl
def hiN(n:Nat):Nat:=n / 18446744073709551616
def loN(n:Nat):Nat:=n % 18446744073709551616
theorem Ik(a b:Nat)(h:a+b<340282366920938463463374607431768211456) :
 (loN a+loN b+0) % 18446744073709551616=loN (a+b)/\(loN a+loN b+0) / 18446744073709551616<=1/\(hiN a+hiN b+(loN a+loN b+0) / 18446744073709551616) % 18446744073709551616=hiN (a+b):=by
 unfold loN hiN;omega
theorem vQ(a b:Nat)(h:b<=a)(ha:a<340282366920938463463374607431768211456) :
 (loN a+18446744073709551616-loN b-0) % 18446744073709551616=loN (a-b)/\(if loN a<loN b+0 then 1 else 0)<=1/\(hiN a+18446744073709551616-hiN b-(if loN a<loN b+0 then 1 else 0)) % 18446744073709551616=hiN (a-b):=by
 unfold loN hiN;split<;>omega
theorem FL(a b:Nat)(w:World)(h:a+b<340282366920938463463374607431768211456) :
 Calls prog 185 #[.agg #[.int .u64 (hiW a),.int .u64 (loW a)],.agg #[.int .u64 (hiW b),.int .u64 (loW b)]] w fun e w'=>e= .returned (.agg #[.int .u64 (hiW (a+b)),.int .u64 (loW (a+b))])/\w.Grows w':=by
 obtain⟨e1,e2,e3⟩:=Ik a b h;obtain⟨c,hc⟩:∃c,(loN a+loN b+0) / 18446744073709551616=c:=⟨_,rfl⟩
 have ha:∀w,(callFunc 208 #[.int .u64 (loW a),.int .u64 (loW b),.int .u64 0]).run prog w= .ok (.value (.tuple #[.int .u64 (loW (a+b)),.int .u64 (c:Int)])) w:=by
  intro w;have:=wY (loN a) (loN b) 0 ze w;rw [e1,hc]at this;exact this
 have hb:∀w,(callFunc 208 #[.int .u64 (hiW a),.int .u64 (hiW b),.int .u64 (c:Int)]).run prog w= .ok (.value (.tuple #[.int .u64 (hiW (a+b)),.int .u64 ((hiN a+hiN b+c) / 18446744073709551616:Nat)])) w:=by
  intro w;have:=wY (hiN a) (hiN b) c ze w;rw [<-hc,e3,hc]at this;exact this
 generalize(((hiN a+hiN b+c) / 18446744073709551616:Nat):Int)=z at *;generalize(c:Int)=c' at *;clear e1 e2 e3 hc h;generalize hiW a=A at *;generalize hiW b=B at *;generalize loW a=La at *;generalize loW b=Lb at *;generalize hiW (a+b)=S at *;generalize loW (a+b)=T at *
 go_enter func185,ntmps185
 go_wp2_with fail
 go_returns
 exact⟨rfl,.of_below af⟩
theorem tO(a b:Nat)(w:World)(h:b<=a)(h2:a<340282366920938463463374607431768211456) :
 Calls prog 186 #[.agg #[.int .u64 (hiW a),.int .u64 (loW a)],.agg #[.int .u64 (hiW b),.int .u64 (loW b)]] w fun e w'=>e= .returned (.agg #[.int .u64 (hiW (a-b)),.int .u64 (loW (a-b))])/\w.Grows w':=by
 obtain⟨e1,e2,e3⟩:=vQ a b h h2;obtain⟨c,hc⟩:∃c,(if loN a<loN b+0 then 1 else 0)=c:=⟨_,rfl⟩
 have ha:∀w,(callFunc 209 #[.int .u64 (loW a),.int .u64 (loW b),.int .u64 0]).run prog w= .ok (.value (.tuple #[.int .u64 (loW (a-b)),.int .u64 (c:Int)])) w:=by
  intro w;have:=pX (loN a) (loN b) 0 ze w;rw [e1,hc]at this;exact this
 have hb:∀w,(callFunc 209 #[.int .u64 (hiW a),.int .u64 (hiW b),.int .u64 (c:Int)]).run prog w= .ok (.value (.tuple #[.int .u64 (hiW (a-b)),.int .u64 ((if hiN a<hiN b+c then 1 else 0:Nat):Int)])) w:=by
  intro w;have:=pX (hiN a) (hiN b) c ze w;rw [<-hc,e3,hc]at this;exact this
 generalize((if hiN a<hiN b+c then 1 else 0:Nat):Int)=z at *;generalize(c:Int)=c' at *;clear e1 e2 e3 hc h h2;generalize hiW a=A at *;generalize hiW b=B at *;generalize loW a=La at *;generalize loW b=Lb at *;generalize hiW (a-b)=S at *;generalize loW (a-b)=T at *
 go_enter func186,ntmps186
 go_wp2_with fail
 go_returns
 exact⟨rfl,.of_below af⟩
theorem JZ(a b:Nat)(h:b<=a)(ha:a<340282366920938463463374607431768211456):IntKind.u64.wrap (IntKind.u64.wrap (hiW a-hiW b)-((if loN a<loN b+0 then 1 else 0:Nat):Int))=hiW (a-b):=by
 simp only [IntKind.wrap_u64];unfold hiW loN
 split<;>omega
theorem tQ(a b:Nat)(w:World)(h:b<=a)(h2:a<340282366920938463463374607431768211456) :
 Calls prog 191 #[.agg #[.int .u64 (hiW a),.int .u64 (loW a)],.agg #[.int .u64 (hiW b),.int .u64 (loW b)]] w fun e w'=>e= .returned (.agg #[.int .u64 (hiW (a-b)),.int .u64 (loW (a-b))])/\w.Grows w':=by
 have hp:=JZ a b h h2;obtain⟨e1,e2,e3⟩:=vQ a b h h2;obtain⟨c,hc⟩:∃c,(if loN a<loN b+0 then 1 else 0)=c:=⟨_,rfl⟩
 have ha:∀w,(callFunc 209 #[.int .u64 (loW a),.int .u64 (loW b),.int .u64 0]).run prog w= .ok (.value (.tuple #[.int .u64 (loW (a-b)),.int .u64 (c:Int)])) w:=by
  intro w;have:=pX (loN a) (loN b) 0 ze w;rw [e1,hc]at this;exact this
 rw [hc]at hp;generalize(c:Int)=c' at *;clear e1 e2 e3 hc h h2;generalize hiW a=A at *;generalize hiW b=B at *;generalize loW a=La at *;generalize loW b=Lb at *;generalize hiW (a-b)=S at *;generalize loW (a-b)=T at *
 go_enter func191,ntmps191
 go_wp2_with fail
 go_returns
 exact⟨rfl,.of_below af⟩
def nA(ah al bh bl:Int):Bool:=decide (ah<bh) || ((ah==bh)&&decide (al<bl))
theorem kC(a b:Nat):nA (hiW a) (loW a) (hiW b) (loW b)=decide (a<b):=by
 unfold nA;rw [Bool.eq_iff_iff];simp only [Bool.or_eq_true,Bool.and_eq_true,decide_eq_true_eq,beq_iff_eq];unfold hiW loW;omega
theorem ww(ah al bh bl:Int)(w:World) :
 Calls prog 102 #[.agg #[.int .u64 ah,.int .u64 al],.agg #[.int .u64 bh,.int .u64 bl]] w fun e w'=>e= .returned (.bool (nA ah al bh bl))/\w.Grows w':=by
 by_cases c1:ah<bh
 ·go_enter func102,ntmps102
  go_wp2_with fail
  go_returns
  exact⟨au (by simp [nA,c1]),.of_below af⟩
 ·by_cases c2:ah=bh
  ·subst c2
   go_enter func102,ntmps102
   go_wp2_with fail
   go_returns
   exact⟨au (by simp [nA]),.of_below af⟩
  ·have c3:(ah==bh)=false:=by simpa using c2
   go_enter func102,ntmps102
   go_wp2_with fail
   go_returns
   exact⟨au (by simp [nA,c1,c3]),.of_below af⟩
theorem qj(ah al bh bl:Int)(w:World) :
 Calls prog 184 #[.agg #[.int .u64 ah,.int .u64 al],.agg #[.int .u64 bh,.int .u64 bl]] w fun e w'=>e= .returned (.bool (nA ah al bh bl))/\w.Grows w':=by
 by_cases c1:ah<bh
 ·go_enter func184,ntmps184
  go_wp2_with fail
  go_returns
  exact⟨au (by simp [nA,c1]),.of_below af⟩
 ·by_cases c2:ah=bh
  ·subst c2
   go_enter func184,ntmps184
   go_wp2_with fail
   go_returns
   exact⟨au (by simp [nA]),.of_below af⟩
  ·have c3:(ah==bh)=false:=by simpa using c2
   go_enter func184,ntmps184
   go_wp2_with fail
   go_returns
   exact⟨au (by simp [nA,c1,c3]),.of_below af⟩
theorem CP(H L d q r Q:Int)(w:World)(a1:(d==0)=false)(a2:1<=d)(h0:0<=H)
 (a3:IntKind.u64.wrap (H.tdiv d)=Q)
 (HD:Hid (∀w,Calls prog 167 #[.int .u64 (H % d),.int .u64 L,.int .u64 d] w fun e w'=>e= .returned (.tuple #[.int .u64 q,.int .u64 r])/\w.Grows w')) :
 Calls prog 188 #[.agg #[.int .u64 H,.int .u64 L],.int .u64 d] w fun e w'=>e= .returned (.agg #[.int .u64 Q,.int .u64 q])/\w.Grows w':=by
 go_enter func188,ntmps188
 go_wp2_with fail
 go_region
 go_wp2_with fail
 refine(HD.out _).mono ?_;rintro e w' ⟨rfl,bs,dr,rfl⟩;clear HD
 go_wp2_with fail
 go_returns
 exact⟨rfl,.of_below af⟩
theorem FO(n d:Nat)(w:World)(h1:n<340282366920938463463374607431768211456)(h2:d<18446744073709551616)(h0:0<d) :
 Calls prog 188 #[.agg #[.int .u64 (hiW n),.int .u64 (loW n)],.int .u64 d] w fun e w'=>e= .returned (.agg #[.int .u64 (hiW (n / d)),.int .u64 (loW (n / d))])/\w.Grows w':=by
 obtain⟨e1,e2,e3⟩:=tF n d h0 h2;have hh:=Dx n h1;refine CP _ _ _ _ (lW n d) _ w zp ze hh.1 ?_ ?_
 ·have:(hiW n).tdiv d=((n / 18446744073709551616 / d:Nat):Int):=by
   rw [Int.tdiv_eq_ediv_of_nonneg hh.1];unfold hiW;simp
  rw [this,<-e1];have h3:n / d<=n:=Nat.div_le_self _ _;unfold hiW;generalize n / d=m at *;exact IntWalk.u64_in _ ze
 ·intro w;have:=qQ (n / 18446744073709551616 % d) (n % 18446744073709551616) d w (Nat.mod_lt _ h0) (Nat.mod_lt _ ze) h2;rw [<-e2,<-e3]at this;simpa [hiW,loW,lW]using this
theorem Js(H L d q r:Int)(w:World)(a1:(d==0)=false)(a2:1<=d)(h0:0<=H)
 (HD:Hid (∀w,Calls prog 167 #[.int .u64 (H % d),.int .u64 L,.int .u64 d] w fun e w'=>e= .returned (.tuple #[.int .u64 q,.int .u64 r])/\w.Grows w')) :
 Calls prog 187 #[.int .u64 H,.int .u64 L,.int .u64 d] w fun e w'=>e= .returned (.int .u64 r)/\w.Grows w':=by
 go_enter func187,ntmps187
 go_wp2_with fail
 refine(HD.out _).mono ?_;rintro e w' ⟨rfl,bs,dr,rfl⟩;clear HD
 go_wp2_with fail
 go_returns
 exact⟨rfl,.of_below af⟩
theorem IB(n d:Nat)(w:World)(h1:n<340282366920938463463374607431768211456)(h2:d<18446744073709551616)(h0:0<d) :
 Calls prog 187 #[.int .u64 (hiW n),.int .u64 (loW n),.int .u64 d] w fun e w'=>e= .returned (.int .u64 (lW n d))/\w.Grows w':=by
 obtain⟨e1,e2,e3⟩:=tF n d h0 h2;have hh:=Dx n h1;refine Js _ _ _ (loW (n / d)) _ w zp ze hh.1 ?_;intro w;have:=qQ (n / 18446744073709551616 % d) (n % 18446744073709551616) d w (Nat.mod_lt _ h0) (Nat.mod_lt _ ze) h2;rw [<-e2,<-e3]at this;simpa [hiW,loW,lW]using this
def jo(neg:Bool)(h l k d:Int):Value:=if(h !=0)=true\/1000000000000000<l\/(k !=0)=true\/1000000000<d then .tuple #[.agg #[.int .i64 0,.int .i64 0],.int .i64 2]else .tuple #[.agg #[.int .i64 (if neg then -l else l),.int .i64 d],.int .i64 0]
theorem lS(neg:Bool)(h l k d:Int)(w:World)(hl0:0<=l)(hd0:0<=d) :
 Calls prog 99 #[.bool neg,.agg #[.int .u64 h,.int .u64 l],.agg #[.int .u64 k,.int .u64 d]] w fun e w'=>e= .returned (jo neg h l k d)/\w.Grows w':=by
 by_cases c1:(h !=0)=true
 ·go_enter func99,ntmps99
  go_wp2_with fail
  go_returns
  exact⟨by rw [jo,if_pos (.inl c1)],.of_below af⟩
 ·have c1':(h !=0)=false:=by simpa using c1
  by_cases c2:(1000000000000000:Int)<l
  ·clear c1
   go_enter func99,ntmps99
   go_wp2_with fail
   go_returns
   exact⟨by rw [jo,if_pos (.inr (.inl c2))],.of_below af⟩
  ·have c2':decide ((1000000000000000:Int)<l)=false:=by simpa using c2
   by_cases c3:(k !=0)=true
   ·clear c1
    go_enter func99,ntmps99
    go_wp2_with fail
    go_returns
    exact⟨by rw [jo,if_pos (.inr (.inr (.inl c3)))],.of_below af⟩
   ·have c3':(k !=0)=false:=by simpa using c3
    by_cases c4:(1000000000:Int)<d
    ·clear c1 c3
     go_enter func99,ntmps99
     go_wp2_with fail
     go_returns
     exact⟨by rw [jo,if_pos (.inr (.inr (.inr c4)))],.of_below af⟩
    ·have c4':decide ((1000000000:Int)<d)=false:=by simpa using c4
     have Hn:=zh (show ¬((h !=0)=true\/1000000000000000<l\/(k !=0)=true\/1000000000<d)by
      rintro(x|x|x|x)
      ·exact c1 x
      ·exact c2 x
      ·exact c3 x
      ·exact c4 x)
     clear c1 c3;cases neg
     ·go_enter func99,ntmps99
      go_wp2_with fail
      go_returns
      exact⟨by rw [jo,if_neg Hn.out];rfl,.of_below af⟩
     ·go_enter func99,ntmps99
      go_wp2_with fail
      go_returns
      exact⟨by rw [jo,if_neg Hn.out];rfl,.of_below af⟩
def frV(r:Int × Int × Int):Value:=.tuple #[.agg #[.int .i64 r.1,.int .i64 r.2.1],.int .i64 r.2.2]
theorem Ch(n d:Int)(w:World)(h1:-9223372036854775808<=n)(h2:n<=9223372036854775807)(h3:-9223372036854775808<=d)(h4:d<=9223372036854775807) :
 Calls prog 149 #[.agg #[.int .i64 n,.int .i64 d]] w fun e w'=>e= .returned (frV (iW n d))/\w.Grows w':=by
 have hv:=zh (fun w=>cB n d w h1 h2 h3 h4);generalize hx:aA n d=b at *;cases b
 focus
  have HR:=zh (show iW n d=(0,0,1)by unfold iW;rw [hx];rfl)
 rotate_left
 focus
  have HR:=zh (show iW n d=(-n,d,0)by unfold iW;rw [hx];rfl);obtain⟨k1,k2,k3,k4⟩:=aF hx
 rotate_left
 all_goals
  clear hx
  go_enter func149,ntmps149
  go_wp2_with fail
  refine(hv.out _).mono ?_;rintro e w' ⟨rfl,bs,dr,rfl⟩;clear hv
  go_wp2_with fail
  go_returns
  exact⟨by rw [HR.out];rfl,.of_below af⟩
theorem Cg(n d:Int)(w:World)(h1:-9223372036854775808<=n)(h2:n<=9223372036854775807)(h3:-9223372036854775808<=d)(h4:d<=9223372036854775807) :
 Calls prog 142 #[.agg #[.int .i64 n,.int .i64 d]] w fun e w'=>e= .returned (frV (iW n d))/\w.Grows w':=by
 have hv:=zh (fun w=>dS n d w h1 h2 h3 h4);generalize hx:aA n d=b at *;cases b
 focus
  have HR:=zh (show iW n d=(0,0,1)by unfold iW;rw [hx];rfl)
 rotate_left
 focus
  have HR:=zh (show iW n d=(-n,d,0)by unfold iW;rw [hx];rfl);obtain⟨k1,k2,k3,k4⟩:=aF hx
 rotate_left
 all_goals
  clear hx
  go_enter func142,ntmps142
  go_wp2_with fail
  refine(hv.out _).mono ?_;rintro e w' ⟨rfl,bs,dr,rfl⟩;clear hv
  go_wp2_with fail
  go_returns
  exact⟨by rw [HR.out];rfl,.of_below af⟩
theorem o9(a b:Nat):jY a b=(Nat.gcd a b:Nat):=by unfold jY;simp
theorem r9(b:Bool)(p q:Nat):jo b (hiW p) (loW p) (hiW q) (loW q)=frV (if 1000000000000000<p\/1000000000<q then(0,0,2)else(if b then -(p:Int)else p,q,0)):=by
 unfold jo hiW loW;by_cases c:1000000000000000<p\/1000000000<q
 ·rw [if_pos c,if_pos (by
   by_cases ha:p / 18446744073709551616=0
   ·by_cases hb:q / 18446744073709551616=0
    ·omega
    ·right;right;left;simp;omega
   ·left;simp;omega)]
  rfl
 ·have ha:p / 18446744073709551616=0:=by omega
  have hb:q / 18446744073709551616=0:=by omega
  have hc:p % 18446744073709551616=p:=by omega
  have hd:q % 18446744073709551616=q:=by omega
  rw [if_neg c,if_neg (by rw [ha,hb,hc,hd];simp;omega),hc,hd];rfl
theorem gW{a g:Int}(h0:0<=a)(h1:a<18446744073709551616)(hg:1<=g):IntKind.u64.wrap (a.tdiv g)=a / g:=by
 rw [Int.tdiv_eq_ediv_of_nonneg h0];have h2:=Int.ediv_nonneg h0 (show 0<=g by omega);have h3:a / g<=a:=Int.ediv_le_self g h0;exact IntWalk.u64_in _ ze
theorem tq(neg:Bool)(a b c d g h H L K M n1 n2 n3:Int)(w:World)(g0:(g==0)=false)(h0:(h==0)=false)(g1:1<=g)(hh1:1<=h)
 (a0:0<=a) (b0:0<=b) (c0:0<=c) (d0:0<=d) (a1:a<18446744073709551616) (b1:b<18446744073709551616) (c1:c<18446744073709551616) (d1:d<18446744073709551616)
 (G1:Hid (∀w,Calls prog 94 #[.int .u64 a,.int .u64 d] w fun e w'=>e= .returned (.int .u64 g)/\w.Grows w'))
 (G2:Hid (∀w,Calls prog 94 #[.int .u64 c,.int .u64 b] w fun e w'=>e= .returned (.int .u64 h)/\w.Grows w'))
 (T1:Hid (∀w,Calls prog 183 #[.int .u64 (a / g),.int .u64 (c / h)] w fun e w'=>e= .returned (.agg #[.int .u64 H,.int .u64 L])/\w.Grows w'))
 (T2:Hid (∀w,Calls prog 183 #[.int .u64 (b / h),.int .u64 (d / g)] w fun e w'=>e= .returned (.agg #[.int .u64 K,.int .u64 M])/\w.Grows w'))
 (W:Hid (∀w,Calls prog 99 #[.bool neg,.agg #[.int .u64 H,.int .u64 L],.agg #[.int .u64 K,.int .u64 M]] w fun e w'=>e= .returned (.tuple #[.agg #[.int .i64 n1,.int .i64 n2],.int .i64 n3])/\w.Grows w')) :
 Calls prog 189 #[.bool neg,.int .u64 a,.int .u64 b,.int .u64 c,.int .u64 d] w fun e w'=>e= .returned (.tuple #[.agg #[.int .i64 n1,.int .i64 n2],.int .i64 n3])/\w.Grows w':=by
 go_enter func189,ntmps189
 go_wp2_with (first|(go_at_call 94;(with_reducible refine(G1.out _).mono ?_);rintro e w' ⟨rfl,bs,dr,rfl⟩;clear G1)|(go_at_call 94;(with_reducible refine(G2.out _).mono ?_);rintro e w' ⟨rfl,bs2,dr2,rfl⟩;clear G2))
 have gz:¬g=0:=by omega
 have hz:¬h=0:=by omega
 refine TG.begin 19 (fun _=>True) zf zf trivial (fun hS=>?_);refine TG.tkB 0 hS ?_;refine TG.tkB 1 hS ?_;refine TG.tkB 2 hS ?_;refine TG.takeV (i:=3) (v:=.int .u64 (a / g)) rfl zf zf zf zo (fun _ _ _ h=>h) rfl hS ?_ ?_
 focus
  intro wS hSw
  go_simp
  exact gW a0 a1 g1
 (try simp only [nS])
 refine TG.tkB 4 hS ?_;refine TG.tkB 5 hS ?_;refine TG.takeV (i:=6) (v:=.int .u64 (c / h)) rfl zf zf zf zo (fun _ _ _ h=>h) rfl hS ?_ ?_
 focus
  intro wS hSw
  go_simp
  exact gW c0 c1 hh1
 (try simp only [nS])
 refine TG.tkB 8 hS ?_;refine TG.tkB 9 hS ?_;refine TG.takeV (i:=10) (v:=.int .u64 (b / h)) rfl zf zf zf zo (fun _ _ _ h=>h) rfl hS ?_ ?_
 focus
  intro wS hSw
  go_simp
  exact gW b0 b1 hh1
 (try simp only [nS])
 refine TG.tkB 11 hS ?_;refine TG.tkB 12 hS ?_;refine TG.takeV (i:=13) (v:=.int .u64 (d / g)) rfl zf zf zf zo (fun _ _ _ h=>h) rfl hS ?_ ?_
 focus
  intro wS hSw
  go_simp
  exact gW d0 d1 g1
 (try simp only [nS])
 refine TG.one (i:=7) zf rfl (fun K1 hK1=>?_)
 go_simp
 go_at_call 183
 refine(T1.out _).mono ?_;rintro e' wA ⟨rfl,b7,d7,rfl⟩;refine TG.go hK1 trivial (fun hS=>?_);clear hK1 K1 T1
 (try simp only [nS])
 refine TG.one (i:=14) zf rfl (fun K1 hK1=>?_)
 go_simp
 go_at_call 183
 refine(T2.out _).mono ?_;rintro e' wA ⟨rfl,b8,d8,rfl⟩;refine TG.go hK1 trivial (fun hS=>?_);clear hK1 K1 T2
 (try simp only [nS])
 refine TG.one (i:=15) zf rfl (fun K1 hK1=>?_)
 go_simp
 go_at_call 99
 refine(W.out _).mono ?_;rintro e' wA ⟨rfl,b9,d9,rfl⟩;refine TG.go hK1 trivial (fun hS=>?_);clear hK1 K1 W
 (try simp only [nS])
 refine TG.tkB 16 hS ?_;refine TG.tkB 17 hS ?_;refine TG.one (i:=18) zf rfl (fun K1 hK1=>?_)
 go_simp
 refine TG.go hK1 trivial (fun hS=>?_);clear hK1 K1
 (try simp only [nS])
 refine TG.one (i:=19) zf rfl (fun K1 hK1=>?_)
 go_simp
 refine hK1 _ _ (fun h=>absurd rfl h) (TG.done zf ?_);clear hK1 K1 hS
 (try simp only [nS])
 go_wp2_with fail
 go_returns
 exact⟨rfl,.of_below af⟩
theorem vT(d m k n:Nat):d / Nat.gcd m d*(k / Nat.gcd n k)=ik d m k n:=by
 unfold ik;rw [Nat.gcd_comm m d,Nat.gcd_comm n k]
theorem fG(a b:Nat):(a:Int) / (b:Int)=((a / b:Nat):Int):=by simp
theorem nD(neg:Bool)(n d m k:Nat)(w:World)(h1:n<18446744073709551616)(h2:d<18446744073709551616)(h3:m<18446744073709551616)(h4:k<18446744073709551616)(hd:0<d)(hk:0<k) :
 Calls prog 189 #[.bool neg,.int .u64 n,.int .u64 d,.int .u64 m,.int .u64 k] w fun e w'=>e= .returned (frV (nL neg n d m k))/\w.Grows w':=by
 have g1:0<Nat.gcd n k:=Nat.gcd_pos_of_pos_right _ hk;have g2:0<Nat.gcd m d:=Nat.gcd_pos_of_pos_right _ hd;have b1:n / Nat.gcd n k<=n:=Nat.div_le_self _ _;have b2:m / Nat.gcd m d<=m:=Nat.div_le_self _ _;have b3:d / Nat.gcd m d<=d:=Nat.div_le_self _ _;have b4:k / Nat.gcd n k<=k:=Nat.div_le_self _ _
 refine tq neg n d m k (Nat.gcd n k:Nat) (Nat.gcd m d:Nat) (hiW (ik n k m d)) (loW (ik n k m d)) (hiW (ik d m k n)) (loW (ik d m k n)) _ _ _ w
  zp zp ze ze ze ze ze ze ze ze ze ze
  (fun w=>?_) (fun w=>?_) (fun w=>?_) (fun w=>?_) (fun w=>?_)
 ·have:=mf n k w ze ze ze ze;rw [o9]at this;exact Calls.quietD this
 ·have:=mf m d w ze ze ze ze;rw [o9]at this;exact Calls.quietD this
 ·rw [fG,fG];exact iC _ _ w ze ze
 ·rw [fG,fG,<-vT];exact iC _ _ w ze ze
 ·have:=lS neg (hiW (ik n k m d)) (loW (ik n k m d)) (hiW (ik d m k n)) (loW (ik d m k n)) w (qh _).1 (qh _).1;rw [r9]at this;exact this
end Go.Proofs.YtlheailebbngiaaGreatDoor
