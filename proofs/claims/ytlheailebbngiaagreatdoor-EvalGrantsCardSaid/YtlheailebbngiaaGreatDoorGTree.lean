import Derived.Test.YtlheailebbngiaaGreatDoorGWide
set_option linter.all false
set_option maxHeartbeats 16000000
set_option maxRecDepth 1000000
namespace Go.Proofs.YtlheailebbngiaaGreatDoor
open Tryz List
open Go.RowKit

inductive Ex where
 |mk (op num den dim:Int) (name:ByteArray) (args:List Ex)
namespace Ex
def op:Ex->Int|mk o _ _ _ _ _=>o
def num:Ex->Int|mk _ n _ _ _ _=>n
def den:Ex->Int|mk _ _ d _ _ _=>d
def dim:Ex->Int|mk _ _ _ d _ _=>d
def name:Ex->ByteArray|mk _ _ _ _ s _=>s
def args:Ex->List Ex|mk _ _ _ _ _ l=>l
instance:Inhabited Ex:=⟨mk 0 0 0 0 ByteArray.empty []⟩
def arg(e:Ex)(i:Nat):Ex:=e.args.getD i default
mutual
def size:Ex->Nat
 |mk _ _ _ _ _ l=>sizes l+1
def sizes:List Ex->Nat
 | []=>0
 |e::r=>size e+sizes r
end
mutual
def depth:Ex->Nat
 |mk _ _ _ _ _ l=>depths l+1
def depths:List Ex->Nat
 | []=>0
 |e::r=>max (depth e) (depths r)
end
theorem size_eq(e:Ex):e.size=sizes e.args+1:=by cases e;rw [size];rfl
theorem depth_eq(e:Ex):e.depth=depths e.args+1:=by cases e;rw [depth];rfl
theorem oL(a b:List Ex):sizes (a++b)=sizes a+sizes b:=by
 induction a with
 |nil=>simp [sizes]
 |cons e r ih=>simp only [cons_append,sizes,ih];omega
theorem vo(a b:List Ex):depths (a++b)=max (depths a) (depths b):=by
 induction a with
 |nil=>simp [depths]
 |cons e r ih=>simp only [cons_append,depths,ih];omega
theorem size_pos(e:Ex):1<=e.size:=by rw [size_eq];omega
theorem FC(l:List Ex)(i:Nat)(h:i<l.length):(l.getD i default).size<=sizes l:=by
 induction l generalizing i with
 |nil=>simp at h
 |cons e r ih=>
  cases i with
  |zero=>simp [sizes]
  |succ i=>have:=ih i zI;simp only [getD_cons_succ,sizes];omega
theorem size_arg(e:Ex)(i:Nat)(h:i<e.args.length):(e.arg i).size<e.size:=by
 have:=FC e.args i h;rw [size_eq e];unfold arg;omega
mutual
theorem depth_size:∀e:Ex,e.depth<=e.size
 |mk _ _ _ _ _ l=>by rw [depth,size];have:=depths_sizes l;omega
theorem depths_sizes:∀l:List Ex,depths l<=sizes l
 | []=>by simp [depths,sizes]
 |e::r=>by rw [depths,sizes];have:=depth_size e;have:=depths_sizes r;omega
end
theorem vO(l:List Ex)(k:Nat)(h:k<l.length):l.take (k+1)=l.take k++[l.getD k default]:=by
 rw [take_succ_eq_append_getElem h,getD_eq_getElem?_getD,getElem?_eq_getElem h];rfl
theorem sizes_take(e:Ex)(k:Nat)(h:k<e.args.length):sizes (e.args.take (k+1))=sizes (e.args.take k)+(e.arg k).size:=by
 rw [vO _ _ h,oL];simp [sizes,arg]
theorem depths_take(e:Ex)(k:Nat)(h:k<e.args.length):depths (e.args.take (k+1))=max (depths (e.args.take k)) (e.arg k).depth:=by
 rw [vO _ _ h,vo];simp [depths,arg]
theorem sizes_take_le(e:Ex)(k:Nat):sizes (e.args.take k)<=sizes e.args:=by
 conv=>rhs;rw [<-take_append_drop k e.args]
 rw [oL];omega
end Ex

structure Ll(w:World)(b o:Nat)(e:Ex)(v:Value):Prop where
 c0:w.cell? ⟨b,o,none⟩=some (.int .i64 e.op)
 c1:w.cell? ⟨b,o+1,none⟩=some (.int .i64 e.num)
 c2:w.cell? ⟨b,o+2,none⟩=some (.int .i64 e.den)
 c3:w.cell? ⟨b,o+3,none⟩=some (.int .i64 e.dim)
 c4:w.cell? ⟨b,o+4,none⟩=some (.string e.name)
 c5:w.cell? ⟨b,o+5,none⟩=some v

def I64(z:Int):Prop:=-9223372036854775808<=z/\z<=9223372036854775807
structure kP(e:Ex):Prop where
 op:I64 e.op
 num:I64 e.num
 den:I64 e.den
 dim:I64 e.dim
 len:e.args.length<=140737488355328
 name:e.name.size<=140737488355328

inductive aC(S:Nat->Prop)(w:World):Ex->Value->Prop
 |mk (e:Ex) (a:Option Addr) (cap:Nat) (vs:Nat->Value) (hr:kP e)
  (hc:e.args.length=0\/∃b off,a=some ⟨b,off,none⟩/\S b/\b<w.heap.size/\∀i,i<e.args.length->Ll w b (off+i*6) (e.arg i) (vs i))
  (hs:∀i,i<e.args.length->aC S w (e.arg i) (vs i)):aC S w e (.slice a e.args.length cap)

theorem Ll.same{w w':World}{b o:Nat}{e:Ex}{v:Value}(h:Ll w b o e v)(hw:∀o,w'.cell? ⟨b,o,none⟩=w.cell? ⟨b,o,none⟩):Ll w' b o e v:=
 ⟨by rw [hw];exact h.c0,by rw [hw];exact h.c1,by rw [hw];exact h.c2,by rw [hw];exact h.c3,by rw [hw];exact h.c4,by rw [hw];exact h.c5⟩

theorem aC.keep{S:Nat->Prop}{w w':World}{e:Ex}{v:Value}(h:aC S w e v)(hsz:w.heap.size<=w'.heap.size)(hw:∀b o,S b->b<w.heap.size->w'.cell? ⟨b,o,none⟩=w.cell? ⟨b,o,none⟩):aC S w' e v:=by
 induction h with
 |mk e a cap vs hr hc hs ih=>
  refine .mk e a cap vs hr (hc.imp id ?_) ih;rintro⟨b,off,ha,hS,hb,hx⟩;exact⟨b,off,ha,hS,by omega,fun i hi=>(hx i hi).same fun o=>hw b o hS hb⟩
theorem aC.grow{S:Nat->Prop}{w:World}{e:Ex}{v:Value}(h:aC S w e v)(bs:Array Obj)(d:Nat):aC S (w.grow bs d) e v:=
 h.keep zg fun b o _ hb=>World.cell?_grow _ _ _ hb
theorem aC.alloc{S:Nat->Prop}{w:World}{e:Ex}{v:Value}(h:aC S w e v)(o:Obj):aC S (w.alloc o) e v:=
 h.keep zg fun b i _ hb=>World.cell?_alloc_lt w o ⟨b,i,none⟩ hb
theorem aC.mono{S S':Nat->Prop}{w:World}{e:Ex}{v:Value}(h:aC S w e v)(hS:∀b,S b->S' b):aC S' w e v:=by
 induction h with
 |mk e a cap vs hr hc hs ih=>
  refine .mk e a cap vs hr (hc.imp id ?_) ih;rintro⟨b,off,ha,hb,hx⟩;exact⟨b,off,ha,hS b hb,hx⟩
theorem aC.rng{S:Nat->Prop}{w:World}{e:Ex}{v:Value}(h:aC S w e v):kP e:=by cases h;assumption

abbrev exV(e:Ex)(v:Value):Value:=.agg #[.int .i64 e.op,.int .i64 e.num,.int .i64 e.den,.int .i64 e.dim,.string e.name,v]

def szT(e:Ex)(k:Nat):Int:=(1+Ex.sizes (e.args.take k):Nat)
def dpT(e:Ex)(k:Nat):Int:=(Ex.depths (e.args.take k):Nat)
theorem Aa(e:Ex):szT e 0=1:=by simp [szT,Ex.sizes]
theorem Ab(e:Ex)(k:Nat)(h:k<e.args.length):szT e (k+1)=szT e k+((e.arg k).size:Int):=by unfold szT;rw [Ex.sizes_take e k h];omega
theorem Jg(e:Ex)(k:Nat):1<=szT e k/\szT e k<=e.size:=by unfold szT;have:=Ex.sizes_take_le e k;rw [e.size_eq];omega
theorem Em(e:Ex)(k:Nat)(h:e.args.length<=k):szT e k=e.size:=by unfold szT;rw [take_of_length_le h,e.size_eq];omega
theorem BC(e:Ex):dpT e 0=0:=by simp [dpT,Ex.depths]
theorem BD(e:Ex)(k:Nat)(h:k<e.args.length):dpT e (k+1)=max (dpT e k) ((e.arg k).depth:Int):=by unfold dpT;rw [Ex.depths_take e k h];omega
theorem Ko(e:Ex)(k:Nat):0<=dpT e k/\dpT e k<=e.size:=by
 unfold dpT;have:=Ex.depths_sizes (e.args.take k);have:=Ex.sizes_take_le e k;rw [e.size_eq];omega
theorem EU(e:Ex)(k:Nat)(h:e.args.length<=k):dpT e k+1=e.depth:=by unfold dpT;rw [take_of_length_le h,e.depth_eq];omega

theorem qN(S:Nat->Prop)(n:Nat):∀(e:Ex),e.size<=n->∀(v:Value) (w:World),aC S w e v->Hid (e.size<=2305843009213693952)->
 Calls prog 33 #[exV e v] w fun r w'=>r= .returned (.int .i64 (e.size:Nat))/\w.Grows w':=by
 induction n with
 |zero=>intro e he;have:=e.size_pos;omega
 |succ n ih=>
  intro e he v w h hbig;have IH:=zh ih;clear ih
  cases h with
  |mk _ a cap vs hr hc hs=>
   have hlen:=hr.len;have Hs:=zh hs;have He:=zh he;have Hc:=zh hc;clear hr hs he hc
   go_enter func33,ntmps33
   go_wp2_with fail
   go_loopw [3,4] (fun v3 v4 wr=>∃k:Nat,k<=e.args.length/\v3= .int .i64 (szT e k)/\v4= .int .i64 k/\
    World.Grows (w.alloc (.cells #[.int .i64 e.op,.int .i64 e.num,.int .i64 e.den,.int .i64 e.dim,.string e.name,.slice a e.args.length cap] 51)) wr) (fun _ v4 _=>e.args.length-(intOf v4).toNat)
   case atStart=>exact⟨0,by omega,by rw [Aa],rfl,.refl _⟩
   case round=>
    obtain⟨k,hk,rfl,rfl,bs,d,rfl⟩:=hrel;have hb:=Jg e k;have hb0:1<=szT e k:=hb.1;have hb1:szT e k<=2305843009213693952:=by have:=hbig.out;omega
    clear hb;by_cases hlt:k<e.args.length
    ·rcases Hc.out with h0|⟨b,off,rfl,hS,hbw,hx⟩
     ·omega
     ·obtain⟨x0,x1,x2,x3,x4,x5⟩:=hx k hlt;clear hx;have hlt1:(k:Int)<(e.args.length:Int):=by omega
      have HN:=zh (Ab e k hlt);have HA:=zh (e.size_arg k hlt);have hs1:((e.arg k).size:Int)<=2305843009213693952:=by have:=hbig.out;have:=HA.out;omega
      go_wp2_with fail
      refine(IH.out (e.arg k) zL (vs k) _ (((Hs.out k hlt).alloc _).grow _ _) yj).mono ?_;rintro r w' ⟨rfl,bs2,d2,rfl⟩
      go_wp2_with fail
      go_roundw
      case rel=>exact⟨k+1,by omega,by rw [HN.out],by go_num,.of_below af⟩
      case measure=>simp [intOf];omega
    ·have HN:=zh (Em e k ze);obtain rfl:k=e.args.length:=by omega
     go_wp2_with fail
     go_returns
     exact⟨ret_int HN.out,.of_below af⟩

theorem oC(S:Nat->Prop)(n:Nat):∀(e:Ex),e.size<=n->∀(v:Value) (w:World),aC S w e v->Hid (e.size<=2305843009213693952)->
 Calls prog 32 #[exV e v] w fun r w'=>r= .returned (.int .i64 (e.depth:Nat))/\w.Grows w':=by
 induction n with
 |zero=>intro e he;have:=e.size_pos;omega
 |succ n ih=>
  intro e he v w h hbig;have IH:=zh ih;clear ih
  cases h with
  |mk _ a cap vs hr hc hs=>
   have hlen:=hr.len;have Hs:=zh hs;have He:=zh he;have Hc:=zh hc;clear hr hs he hc
   go_enter func32,ntmps32
   go_wp2_with fail
   go_loopw [3,4] (fun v3 v4 wr=>∃k:Nat,k<=e.args.length/\v3= .int .i64 (dpT e k)/\v4= .int .i64 k/\
    World.Grows (w.alloc (.cells #[.int .i64 e.op,.int .i64 e.num,.int .i64 e.den,.int .i64 e.dim,.string e.name,.slice a e.args.length cap] 51)) wr) (fun _ v4 _=>e.args.length-(intOf v4).toNat)
   case atStart=>exact⟨0,by omega,by rw [BC],rfl,.refl _⟩
   case round=>
    obtain⟨k,hk,rfl,rfl,bs,d,rfl⟩:=hrel;have hb:=Ko e k;have hb0:0<=dpT e k:=hb.1;have hb1:dpT e k<=2305843009213693952:=by have:=hbig.out;omega
    clear hb;by_cases hlt:k<e.args.length
    ·rcases Hc.out with h0|⟨b,off,rfl,hS,hbw,hx⟩
     ·omega
     ·obtain⟨x0,x1,x2,x3,x4,x5⟩:=hx k hlt;clear hx;have hlt1:(k:Int)<(e.args.length:Int):=by omega
      have HN:=zh (BD e k hlt);have HA:=zh (e.size_arg k hlt);have hs1:((e.arg k).depth:Int)<=2305843009213693952:=by have:=hbig.out;have:=HA.out;have:=(e.arg k).depth_size;omega
      go_wp2_with fail
      refine(IH.out (e.arg k) zL (vs k) _ (((Hs.out k hlt).alloc _).grow _ _) yj).mono ?_;rintro r w' ⟨rfl,bs2,d2,rfl⟩
      go_wp2_with fail
      go_roundw
      case rel=>exact⟨k+1,by omega,by rw [HN.out],by go_num,.of_below af⟩
      case measure=>simp [intOf];omega
    ·have HN:=zh (EU e k ze);obtain rfl:k=e.args.length:=by omega
     go_wp2_with fail
     go_returns
     exact⟨ret_int HN.out,.of_below af⟩
open Go.RowKit

def tZ(c:Int):Bool:=decide (97<=c)&&decide (c<=122)
def nW(c:Int):Bool:=decide (48<=c)&&decide (c<=57)

theorem iO(c:Int)(w:World):Calls prog 165 #[.int .u8 c] w fun e w'=>e= .returned (.bool (tZ c))/\w=w':=by
 by_cases c1:97<=c
 ·by_cases c2:c<=122
  ·go_enter func165,ntmps165
   go_wp2
   go_returns
   exact⟨au (by simp [tZ,c1,c2]),rfl⟩
  ·go_enter func165,ntmps165
   exact Nq
 ·go_enter func165,ntmps165
  exact Nq
theorem nV(c:Int)(w:World):Calls prog 166 #[.int .u8 c] w fun e w'=>e= .returned (.bool (nW c))/\w=w':=by
 by_cases c1:48<=c
 ·by_cases c2:c<=57
  ·go_enter func166,ntmps166
   go_wp2
   go_returns
   exact⟨au (by simp [nW,c1,c2]),rfl⟩
  ·go_enter func166,ntmps166
   exact Np
 ·go_enter func166,ntmps166
  exact Np
def aX(op:Int):Int:=if 1<=op/\op<=3 then 0 else if 4<=op/\op<=6 then 1 else if 7<=op/\op<=20 then 2 else if op=21 then 3 else -1
theorem mJ(op:Int)(w:World):Calls prog 104 #[.int .i64 op] w fun e w'=>e= .returned (.int .i64 (aX op))/\w=w':=by
 by_cases c1:op<1
 ·exact J7
 ·by_cases c2:op<=3
  ·exact J7
  ·by_cases c3:op<=6
   ·exact J7
   ·by_cases c4:op<=20
    ·exact J7
    ·by_cases c5:op=21
     ·subst c5
      go_enter func104,ntmps104
      go_wp2
      go_returns
      exact⟨ret_int (by simp [aX]),rfl⟩
     ·exact J7
def byt(s:ByteArray)(i:Nat):Int:=if h:i<s.size then(s[i].toNat:Int)else 0
theorem uL(s:ByteArray)(i:Nat)(h:i<s.size):byt s i=(s[i].toNat:Int):=by simp [byt,h]
def jb(i:Nat)(c:Int):Bool:=tZ c || (i !=0&&(nW c || decide (c=95)))
def isWord(s:ByteArray):Bool:=decide (∀i,i<s.size->jb i (byt s i)=true)&&decide (1<=s.size)&&decide (s.size<=12)
theorem mV(s:ByteArray)(k:Nat)(h:k<s.size)(hc:jb k (s[k].toNat:Int)=false):isWord s=false:=by
 have:¬∀i,i<s.size->jb i (byt s i)=true:=fun f=>by have:=f k h;rw [uL s k h,hc]at this;cases this
 simp only [isWord,decide_eq_false this,Bool.false_and]
theorem nP(s:ByteArray)(h:∀i,i<s.size->jb i (byt s i)=true):isWord s=(decide (1<=s.size)&&decide (s.size<=12)):=by
 simp only [isWord,decide_eq_true h,Bool.true_and]
theorem Eh(s:ByteArray)(w:World)(hs:s.size<=maxLen):Calls prog 126 #[.string s] w fun e w'=>e= .returned (.bool (isWord s))/\w=w':=by
 unfold maxLen at hs
 go_enter func126,ntmps126
 go_wp2
 go_loop [3] (fun i=>∃k:Nat,k<=s.size/\i= .int .i64 k/\∀j,j<k->jb j (byt s j)=true) (fun i=>s.size-(intOf i).toNat)
 case atStart=>exact⟨0,Nat.zero_le _,rfl,fun j hj=>absurd hj (Nat.not_lt_zero _)⟩
 case round=>
  obtain⟨k,hk,rfl,hall⟩:=hrel;by_cases hk2:k<s.size
  ·cases hL:tZ (s[k].toNat:Int)
   ·by_cases h0:k=0
    ·subst h0
     go_wp2_with ((go_at_call 165;(with_reducible refine(iO _ _).mono ?_);rintro e w' ⟨rfl,rfl⟩;simp only [hL]))
     go_ret
     exact⟨au (mV s 0 hk2 (by simp [jb,hL])).symm,rfl⟩
    ·cases hD:nW (s[k].toNat:Int)
     ·by_cases hU:(s[k].toNat:Int)=95
      ·go_wp2_with (first|((go_at_call 165;(with_reducible refine(iO _ _).mono ?_);rintro e w' ⟨rfl,rfl⟩;simp only [hL]))|((go_at_call 166;(with_reducible refine(nV _ _).mono ?_);rintro e w' ⟨rfl,rfl⟩;simp only [hD])))
       go_round
       case rel=>exact⟨k+1,by omega,by go_num,fun i hi=>by
        by_cases e:i=k
        ·subst e;rw [uL s i hk2];simp [jb,hL,hD,hU,h0]
        ·exact hall i ze⟩
       case measure=>simp [intOf];omega
      ·go_wp2_with (first|((go_at_call 165;(with_reducible refine(iO _ _).mono ?_);rintro e w' ⟨rfl,rfl⟩;simp only [hL]))|((go_at_call 166;(with_reducible refine(nV _ _).mono ?_);rintro e w' ⟨rfl,rfl⟩;simp only [hD])))
       all_goals first
        |(go_ret
          exact⟨au (mV s k hk2 (by simp [jb,hL,hD,hU])).symm,rfl⟩)
        |(exfalso;simp_all)
     ·go_wp2_with (first|((go_at_call 165;(with_reducible refine(iO _ _).mono ?_);rintro e w' ⟨rfl,rfl⟩;simp only [hL]))|((go_at_call 166;(with_reducible refine(nV _ _).mono ?_);rintro e w' ⟨rfl,rfl⟩;simp only [hD])))
      go_round
      case rel=>exact⟨k+1,by omega,by go_num,fun i hi=>by
       by_cases e:i=k
       ·subst e;rw [uL s i hk2];simp [jb,hL,hD,h0]
       ·exact hall i ze⟩
      case measure=>simp [intOf];omega
   ·go_wp2_with ((go_at_call 165;(with_reducible refine(iO _ _).mono ?_);rintro e w' ⟨rfl,rfl⟩;simp only [hL]))
    go_round
    case rel=>exact⟨k+1,by omega,by go_num,fun i hi=>by
     by_cases e:i=k
     ·subst e;rw [uL s i hk2];simp [jb,hL]
     ·exact hall i ze⟩
    case measure=>simp [intOf];omega
  ·have:k=s.size:=by omega
   subst this;by_cases h1:1<=s.size
   ·go_wp2
    go_ret
    exact⟨au (by rw [nP s hall];simp [h1];omega),rfl⟩
   ·go_wp2
    go_ret
    exact⟨au (by rw [nP s hall];simp [h1]),rfl⟩
def Qf:List (List UInt8):=[[97,110,100],[98,101,115,116],[98,121],[99,114,101,100,105,116],[99,117,114,114,101,110,99,121],[101,108,115,101],[102,108,111,111,114],[102,114,111,109],[103,114,97,110,116],[105,102],[105,110,100,101,120],[108,101,116],[108,105,109,105,116],[109,97,120],[109,105,110],[110,111,116],[111,114],[112,97,121],[114,101,100,117,99,101],[114,111,117,110,100],[115,116,97,116,117,116,101],[116,104,101,110]
 ]
def Nk(s:ByteArray):Bool:=Qf.contains s.toList
theorem AC(s:ByteArray)(w:World):Calls prog 127 #[.string s] w fun e w'=>e= .returned (.bool (Nk s))/\w=w':=by
 go_enter func127,ntmps127
 exact Ql
def eY(s:ByteArray):Bool:=isWord s&&!Nk s
theorem uQ(s:ByteArray)(w:World)(hs:s.size<=maxLen):Calls prog 89 #[.string s] w fun e w'=>e= .returned (.bool (eY s))/\w=w':=by
 cases hW:isWord s<;>
 ·go_enter func89,ntmps89
  go_wp2_with (first|(go_at_call 126;(with_reducible refine(Eh _ _ zv).mono ?_);rintro e w' ⟨rfl,rfl⟩;simp only [hW])|(go_at_call 127;(with_reducible refine(AC _ _).mono ?_);rintro e w' ⟨rfl,rfl⟩))
  go_returns
  exact⟨au (by simp [eY,hW]),rfl⟩

def oJ:ByteArray:=⟨#[48,49,50,51,52,53,54,55,56,57]⟩
def uE:Nat->Int->Nat->ByteArray->ByteArray
 |0,_,_,s=>s
 |f+1,n,l,s=>if 0<n\/s.size<l then uE f (n / 10) l (oJ.extract (n % 10).toNat (n % 10+1).toNat++s)else s
def kg(n:Int)(l:Nat):ByteArray:=uE (n.toNat+l) n l ByteArray.empty
theorem G5(f:Nat)(n:Int)(l:Nat)(s:ByteArray)(h:¬(0<n\/s.size<l)):uE f n l s=s:=by
 cases f with
 |zero=>rfl
 |succ f=>simp only [uE,if_neg h]
theorem EW(f:Nat)(n:Int)(l:Nat)(s:ByteArray)(h:0<n\/s.size<l)(hf:n.toNat+(l-s.size)<=f) :
 uE f n l s=uE (f-1) (n / 10) l (oJ.extract (n % 10).toNat (n % 10+1).toNat++s):=by
 cases f with
 |zero=>omega
 |succ f=>simp only [uE,if_pos h];rfl
theorem vN:oJ.size=10:=rfl
theorem vM(m:Int)(s:ByteArray):(oJ.extract (m % 10).toNat (m % 10+1).toNat++s).size=s.size+1:=by
 rw [ByteArray.size_append,ByteArray.size_extract,vN];omega
theorem wV:∀(f:Nat) (n:Int) (l:Nat) (s:ByteArray),0<=n->(uE f n l s).size<=s.size+n.toNat+(l-s.size)
 |0,_,_,_,_=>by simp only [uE];omega
 |f+1,n,l,s,h=>by
  simp only [uE]
  split
  ·have:=wV f (n / 10) l (oJ.extract (n % 10).toNat (n % 10+1).toNat++s) ze;rw [vM]at this;omega
  ·omega
theorem qF(n:Int)(l:Nat)(h:0<=n):(kg n l).size<=n.toNat+l:=by
 have:=wV (n.toNat+l) n l ByteArray.empty h;have e:ByteArray.empty.size=0:=rfl;unfold kg;omega
theorem BI(n:Int)(l:Nat)(w:World)(h0:0<=n)(h1:n<=9223372036854775807)(hl:l<=4):Calls prog 193 #[.int .i64 n,.int .i64 l] w fun e w'=>e= .returned (.string (kg n l))/\w=w':=by
 go_enter func193,ntmps193
 go_wp2
 go_loop [0,5] (fun a b=>∃m:Int,∃s:ByteArray,∃f:Nat,0<=m/\(s.size:Int)+m<=9223372036854775807/\a= .int .i64 m/\b= .string s/\m.toNat+(l-s.size)<=f/\Hid (uE f m l s=kg n l)) (fun a b=>(intOf a).toNat+(l-(match b with| .string s=>s.size|_=>0)))
 case atStart=>exact⟨n,_,n.toNat+l,h0,by show((0:Nat):Int)+n<=_;omega,rfl,rfl,by omega,zh rfl⟩
 case round=>
  obtain⟨m,s,f,hm0,hm1,rfl,rfl,hf,hg⟩:=hrel;have hr:0<=m % 10/\m % 10<10:=by omega
  have hpc:Hid (_):=zh (vM m s);by_cases hp:0<m
  ·go_wp2
   go_round
   case rel=>exact⟨m / 10,_,f-1,by omega,by rw [show({data:=#[48,49,50,51,52,53,54,55,56,57]}:ByteArray)=oJ from rfl,hpc.out];omega,rfl,rfl,by rw [show({data:=#[48,49,50,51,52,53,54,55,56,57]}:ByteArray)=oJ from rfl,hpc.out];omega,zh (by rw [<-hg.out,EW f m l s (.inl hp) hf];rfl)⟩
   case measure=>
    exact Qi
  ·by_cases hq:s.size<l
   ·go_wp2
    go_round
    case rel=>exact⟨m / 10,_,f-1,by omega,by rw [show({data:=#[48,49,50,51,52,53,54,55,56,57]}:ByteArray)=oJ from rfl,hpc.out];omega,rfl,rfl,by rw [show({data:=#[48,49,50,51,52,53,54,55,56,57]}:ByteArray)=oJ from rfl,hpc.out];omega,zh (by rw [<-hg.out,EW f m l s (.inr hq) hf];rfl)⟩
    case measure=>
     exact Qi
   ·go_wp2
    go_returns
    exact⟨by rw [<-hg.out,G5 f m l s ze];rfl,rfl⟩

theorem Ev{a b:ByteArray}(h:a=b):Ending.returned (.string a)= .returned (.string b):=by rw [h]
def wL(n d:Int):ByteArray:=
 if aA n d=true then
  if n<0 then(if d=1 then⟨#[45]⟩++kg (aH n) 1 else⟨#[45]⟩++kg (aH n) 1++⟨#[47]⟩++kg d 1)
  else(if d=1 then kg (aH n) 1 else kg (aH n) 1++⟨#[47]⟩++kg d 1)
 else⟨#[]⟩
theorem rC(n:Int)(w:World)(h0:0<=n)(h1:n<=9223372036854775807):Calls prog 193 #[.int .i64 n,.int .i64 1] w fun e w'=>e= .returned (.string (kg n 1))/\w=w':=
 BI n 1 w h0 h1 ze
theorem Ke(n d:Int)(h:aA n d=false):wL n d=⟨#[]⟩:=by simp [wL,h]
theorem gK(n d:Int)(w:World)(h1:-9223372036854775808<=n)(h2:n<=9223372036854775807)(h3:-9223372036854775808<=d)(h4:d<=9223372036854775807):Calls prog 155 #[.agg #[.int .i64 n,.int .i64 d]] w fun e w'=>e= .returned (.string (wL n d))/\w.Grows w':=by
 cases hv:aA n d
 ·go_enter func155,ntmps155
  go_wp2_with ((first|(go_at_call 60;(with_reducible refine(cB _ _ _ ze ze ze ze).mono ?_);rintro e w' ⟨rfl,bs,dr,rfl⟩;simp only [hv])|(go_at_call 91;(with_reducible refine(fM _ _ ze ze).mono ?_);rintro e w' ⟨rfl,rfl⟩)|(go_at_call 193;(with_reducible refine(rC _ _ ze ze).mono ?_);rintro e w' ⟨rfl,rfl⟩)))
  go_returns
  exact⟨Ev (Ke n d hv).symm,.of_below af⟩
 ·have⟨b1,b2,b3,b4⟩:=aF hv;have a0:0<=aH n:=by unfold aH;omega
  have a1:aH n<=1000000000000000:=by unfold aH;omega
  have e1:IntKind.i64.wrap (aH n)=aH n:=IntWalk.i64_in _ ze;have z1:((kg (aH n) 1).size:Int)<=1000000000000001:=by have:=qF (aH n) 1 a0;omega
  have z2:((kg d 1).size:Int)<=1000000001:=by have:=qF d 1 ze;omega
  by_cases cn:n<0
  ·exact QK
  ·exact QK

def kL:Nat->Int->Int->ByteArray->ByteArray
 |0,_,_,s=>s
 |f+1,r,k,s=>if 0<r then kL f (r % k) (k / 10) (s++oJ.extract (r / k).toNat (r / k+1).toNat)else s
def dI(n d m:Int):Bool:=aA n d&&decide (0<=n)&&decide (10000 % d=0)&&decide (2<=m)&&decide (m<=4)&&decide (n / d<=999999999)
def jc(n d:Int):Int:=(n-n / d*d)*(10000 / d)
def xu(m:Int):ByteArray:=if m=2 then⟨#[]⟩else if m=3 then⟨#[100]⟩else⟨#[109]⟩
def rO(n d m:Int):ByteArray:=
 (if 0<jc n d then kL 4 (jc n d) 1000 (kg (n / d) 1++⟨#[46]⟩)else kg (n / d) 1)++xu m
theorem mR{a b:ByteArray}{p q:Bool}(h:a=b)(g:p=q):Ending.returned (.tuple #[.string a,.bool p])= .returned (.tuple #[.string b,.bool q]):=by rw [h,g]
def BK(n d m:Int):Value:=.tuple #[.string (if dI n d m=true then rO n d m else⟨#[]⟩),.bool (dI n d m)]
theorem NY{n d m:Int}(h:dI n d m=false):BK n d m= .tuple #[.string ⟨#[]⟩,.bool false]:=by simp [BK,h]
theorem KA{n d m:Int}(h:dI n d m=true):BK n d m= .tuple #[.string (rO n d m),.bool true]:=by simp [BK,h]
theorem qP(n d m:Int)(w:World)(h1:-9223372036854775808<=n)(h2:n<=9223372036854775807)(h3:-9223372036854775808<=d)(h4:d<=9223372036854775807)(h:dI n d m=false):Calls prog 121 #[.agg #[.int .i64 n,.int .i64 d],.int .i64 m] w fun e w'=>e= .returned (BK n d m)/\w.Grows w':=by
 cases hv:aA n d
 ·have hq:Hid True:=zh trivial;exact gz4
 ·have⟨b1,b2,b3,b4⟩:=aF hv;have hq:Hid True:=zh trivial;by_cases c1:n<0
  ·exact gz4
  ·by_cases c2:10000 % d=0
   ·by_cases c3:m<2
    ·exact gz4
    ·by_cases c4:4<m
     ·exact gz4
     ·by_cases c5:n / d<=999999999
      ·exfalso;simp [dI,hv,c2]at h;omega
      ·exact gz4
   ·exact gz4
theorem Bn(q:Int)(h0:0<=q)(h1:q<=999999999):wL q 1=kg q 1:=by
 have hv:aA q 1=true:=oG ze zg;have ha:aH q=q:=jL h0;simp [wL,hv,ha];intro h;omega
theorem Mi(n d:Int)(h0:0<=n)(h1:1<=d)(h2:10000 % d=0):0<=n / d/\0<=n / d*d/\n / d*d<=n/\n-n / d*d<d/\0<=10000 / d/\10000 / d<=10000/\0<=jc n d/\jc n d<10000:=by
 have a1:0<=n / d:=Int.ediv_nonneg h0 ze;have a2:0<=n % d:=Int.emod_nonneg _ ze;have a3:n % d<d:=Int.emod_lt_of_pos _ ze;have a4:d*(n / d)+n % d=n:=Int.mul_ediv_add_emod n d;rw [Int.mul_comm]at a4;have a5:0<=10000 / d:=Int.ediv_nonneg ze ze;have a6:10000 / d<=10000:=Int.ediv_le_self _ ze;have a7:d*(10000 / d)+10000 % d=10000:=Int.mul_ediv_add_emod 10000 d;have a8:n-n / d*d=n % d:=by omega
 have a9:0<=n / d*d:=Int.mul_nonneg a1 ze;refine⟨a1,a9,by omega,by omega,a5,a6, ?_, ?_⟩
 ·unfold jc;rw [a8];exact Int.mul_nonneg a2 a5
 ·unfold jc;rw [a8]
  have a10:0<10000 / d:=by
   rcases Int.lt_or_eq_of_le a5 with h|h
   ·exact h
   ·rw [<-h]at a7;omega
  have:=Int.mul_lt_mul_of_pos_right a3 a10;omega
theorem qG(f:Nat)(r k:Int)(s:ByteArray)(h:¬0<r):kL f r k s=s:=by cases f<;>simp [kL,h]
theorem xY(f:Nat)(r k:Int)(s:ByteArray)(h:0<r):kL (f+1) r k s=kL f (r % k) (k / 10) (s++oJ.extract (r / k).toNat (r / k+1).toNat):=by simp [kL,h]
theorem rX(s:ByteArray)(x:Int)(h0:0<=x)(h1:x<10):(s++(⟨#[48,49,50,51,52,53,54,55,56,57]⟩:ByteArray).extract x.toNat (x+1).toNat).size=s.size+1:=by
 show(s++oJ.extract _ _).size=_;rw [ByteArray.size_append,ByteArray.size_extract,vN];omega
theorem BF(s:ByteArray):(s++(⟨#[46]⟩:ByteArray)).size=s.size+1:=by rw [ByteArray.size_append];rfl
theorem uH{n d m r k:Int}{j:Nat}{s:ByteArray}(hp:0<jc n d)(g:kL j r k s=kL 4 (jc n d) 1000 (kg (n / d) 1++⟨#[46]⟩))(g6:kL j r k s=s):s++xu m=rO n d m:=by
 unfold rO;rw [if_pos hp,<-g,g6]
theorem nX{n d m r k:Int}{j:Nat}{s:ByteArray}(hp:¬0<jc n d)(g:kL j r k s=kL 4 (jc n d) 1000 (kg (n / d) 1))(g6:kL j r k s=s):s++xu m=rO n d m:=by
 unfold rO;rw [if_neg hp,<-g6,g,qG _ _ _ _ hp]
theorem pK(n d m:Int)(w:World)(h1:-9223372036854775808<=n)(h2:n<=9223372036854775807)(h3:-9223372036854775808<=d)(h4:d<=9223372036854775807)(h:dI n d m=true):Calls prog 121 #[.agg #[.int .i64 n,.int .i64 d],.int .i64 m] w fun e w'=>e= .returned (BK n d m)/\w.Grows w':=by
 rw [KA h];simp only [dI,Bool.and_eq_true,decide_eq_true_eq]at h;obtain⟨⟨⟨⟨⟨hv,c1⟩,c2⟩,c3⟩,c4⟩,c5⟩:=h;have⟨b1,b2,b3,b4⟩:=aF hv;have⟨r1,r2,r3,r4,r5,r6,r7,r8⟩:=Mi n d c1 b1 c2;have hR:Hid (_):=zh (show jc n d=(n-n / d*d)*(10000 / d)from rfl);unfold jc at r7 r8;have hq:=zh (Bn (n / d) r1 c5);have z:=qF (n / d) 1 r1;have z1:((kg (n / d) 1).size:Int)<=1000000000:=by omega
 clear z
 go_enter func121,ntmps121
 by_cases hp:0<(n-n / d*d)*(10000 / d)
 ·have HP:=zh (show 0<jc n d from hp)
  go_wp2_with ((first|(go_at_call 60;(with_reducible refine(cB _ _ _ ze ze ze ze).mono ?_);rintro e w' ⟨rfl,bs,dr,rfl⟩;simp only [hv])|(go_at_call 155;(with_reducible refine(gK _ _ _ ze ze ze ze).mono ?_);rintro e w' ⟨rfl,bs2,dr2,rfl⟩;simp only [hq.out])))
  go_quiet (fail)
  go_wp2_with fail
  go_loopw [7,8,9] (fun v7 v8 v9 wr=>∃j:Nat,∃r k:Int,∃s:ByteArray,v7= .string s/\v8= .int .i64 r/\v9= .int .i64 k/\0<=r/\((s.size:Int)<=1000000010-j)/\
   ((j=4/\k=1000/\r<10000)\/(j=3/\k=100/\r<1000)\/(j=2/\k=10/\r<100)\/(j=1/\k=1/\r<10)\/(j=0/\k=0/\r=0))/\
   Hid (kL j r k s=kL 4 (jc n d) 1000 (kg (n / d) 1++⟨#[46]⟩))/\World.Grows (w.alloc (.cells #[.int .i64 n,.int .i64 d] 23)) wr) (fun _ _ v9 _=>(intOf v9).toNat)
  case atStart=>exact⟨4,_,_,_,rfl,rfl,rfl,by omega,by first|(rw [BF];omega)|omega,.inl ⟨rfl,rfl,by omega⟩,zh (by rw [hR.out]),.of_below af⟩
  case round=>
   obtain⟨j,r,k,s,rfl,rfl,rfl,g1,g2,g3,g4,bs3,dr3,rfl⟩:=hrel;by_cases g0:0<r
   ·exact gz6
   ·have G6:=zh (qG j r k s g0);obtain rfl|rfl|rfl:m=2\/m=3\/m=4:=by omega
    ·go_wp2_with fail
     go_returns
     exact⟨mR (show s++xu 2=rO n d 2 from uH zW g4.out G6.out) rfl,.of_below af⟩
    ·go_wp2_with fail
     go_returns
     exact⟨mR (show s++xu 3=rO n d 3 from uH zW g4.out G6.out) rfl,.of_below af⟩
    ·go_wp2_with fail
     go_returns
     exact⟨mR (show s++xu 4=rO n d 4 from uH zW g4.out G6.out) rfl,.of_below af⟩
 ·have HP:=zh (show ¬0<jc n d from hp)
  go_wp2_with ((first|(go_at_call 60;(with_reducible refine(cB _ _ _ ze ze ze ze).mono ?_);rintro e w' ⟨rfl,bs,dr,rfl⟩;simp only [hv])|(go_at_call 155;(with_reducible refine(gK _ _ _ ze ze ze ze).mono ?_);rintro e w' ⟨rfl,bs2,dr2,rfl⟩;simp only [hq.out])))
  go_quiet (fail)
  go_wp2_with fail
  go_loopw [7,8,9] (fun v7 v8 v9 wr=>∃j:Nat,∃r k:Int,∃s:ByteArray,v7= .string s/\v8= .int .i64 r/\v9= .int .i64 k/\0<=r/\((s.size:Int)<=1000000010-j)/\
   ((j=4/\k=1000/\r<10000)\/(j=3/\k=100/\r<1000)\/(j=2/\k=10/\r<100)\/(j=1/\k=1/\r<10)\/(j=0/\k=0/\r=0))/\
   Hid (kL j r k s=kL 4 (jc n d) 1000 (kg (n / d) 1))/\World.Grows (w.alloc (.cells #[.int .i64 n,.int .i64 d] 23)) wr) (fun _ _ v9 _=>(intOf v9).toNat)
  case atStart=>exact⟨4,_,_,_,rfl,rfl,rfl,by omega,by first|(rw [BF];omega)|omega,.inl ⟨rfl,rfl,by omega⟩,zh (by rw [hR.out]),.of_below af⟩
  case round=>
   obtain⟨j,r,k,s,rfl,rfl,rfl,g1,g2,g3,g4,bs3,dr3,rfl⟩:=hrel;by_cases g0:0<r
   ·exact gz6
   ·have G6:=zh (qG j r k s g0);obtain rfl|rfl|rfl:m=2\/m=3\/m=4:=by omega
    ·go_wp2_with fail
     go_returns
     exact⟨mR (show s++xu 2=rO n d 2 from nX zW g4.out G6.out) rfl,.of_below af⟩
    ·go_wp2_with fail
     go_returns
     exact⟨mR (show s++xu 3=rO n d 3 from nX zW g4.out G6.out) rfl,.of_below af⟩
    ·go_wp2_with fail
     go_returns
     exact⟨mR (show s++xu 4=rO n d 4 from nX zW g4.out G6.out) rfl,.of_below af⟩
theorem pM(n d m:Int)(w:World)(h1:-9223372036854775808<=n)(h2:n<=9223372036854775807)(h3:-9223372036854775808<=d)(h4:d<=9223372036854775807):Calls prog 121 #[.agg #[.int .i64 n,.int .i64 d],.int .i64 m] w fun e w'=>e= .returned (BK n d m)/\w.Grows w':=by
 cases h:dI n d m
 ·exact qP n d m w h1 h2 h3 h4 h
 ·exact pK n d m w h1 h2 h3 h4 h

theorem Calls.quiet_eq{P:Program}{f:FuncId}{args:Array Value}{w:World}{n:Nat}{v:Value}
 (h:Calls P f args (w.drewN n) fun e w'=>e= .returned v/\w.drewN n=w'):Calls P f args (w.drewN n) fun e w''=>e= .returned v/\∃m,w''=w.drewN m:=
 h.mono fun _ _ ⟨he,hm⟩=>⟨he,n,hm.symm⟩
theorem aC.form0{S:Nat->Prop}{w:World}{e:Ex}{v:Value}(h:aC S w e v):∃a cap,v= .slice a e.args.length cap:=by cases h;exact⟨_,_,rfl⟩
mutual
def aL:Ex->Bool
 | .mk o n d m s l=>decide ((l.length:Int)=aX o)&&
  (if o=1 then dI n d m&&s.toList.isEmpty
   else if o=2 then decide (n=0)&&decide (d=0)&&decide (m=0)&&eY s
   else if o=3 then decide (m=0)&&s.toList.isEmpty&&decide (d=1)&&decide (1<=n)&&decide (n<=45)
   else aV l&&(decide (n=0)&&decide (d=0)&&decide (m=0)&&s.toList.isEmpty))
def aV:List Ex->Bool
 | []=>true
 |e::r=>aL e&&aV r
end
theorem eT(e:Ex):aL e=(decide ((e.args.length:Int)=aX e.op)&&
 (if e.op=1 then dI e.num e.den e.dim&&e.name.toList.isEmpty
  else if e.op=2 then decide (e.num=0)&&decide (e.den=0)&&decide (e.dim=0)&&eY e.name
  else if e.op=3 then decide (e.dim=0)&&e.name.toList.isEmpty&&decide (e.den=1)&&decide (1<=e.num)&&decide (e.num<=45)
  else aV e.args&&(decide (e.num=0)&&decide (e.den=0)&&decide (e.dim=0)&&e.name.toList.isEmpty))):=by
 cases e;rw [aL];rfl
theorem uZ(l:List Ex)(k:Nat)(h:k<l.length):aV (l.take (k+1))=(aV (l.take k)&&aL (l.getD k default)):=by
 induction l generalizing k with
 |nil=>simp at h
 |cons e r ih=>
  cases k with
  |zero=>simp [aV]
  |succ k=>simp only [take_succ_cons,aV,getD_cons_succ];rw [ih k zI,Bool.and_assoc]
theorem q9(l:List Ex)(k:Nat)(h:k<l.length)(hf:aL (l.getD k default)=false):aV l=false:=by
 induction l generalizing k with
 |nil=>simp at h
 |cons e r ih=>
  cases k with
  |zero=>simp only [getD_cons_zero]at hf;simp [aV,hf]
  |succ k=>simp only [getD_cons_succ]at hf;simp [aV,ih k zI hf]

theorem DI
 (S:Nat->Prop) (e:Ex) (v:Value) (w:World) (h:aC S w e v)
 (hne:¬(e.args.length:Int)=aX e.op):(Calls prog 71 #[exV e v] w fun r w'=>r= .returned (.bool (aL e))/\w.Grows w'):=by
 have HF:Hid (aL e=false):=zh (by rw [eT,decide_eq_false hne,Bool.false_and]);have hr:=h.rng;obtain⟨a,cap,hv⟩:∃a cap,v= .slice a e.args.length cap:=by cases h;exact⟨_,_,rfl⟩
 subst hv;clear h;obtain⟨on,od⟩:=hr.num;obtain⟨pn,pd⟩:=hr.den;have hsz:=hr.name;clear hr;have h1:((e.args.length:Int)!=aX e.op)=true:=by simpa using hne
 clear hne
 go_enter func71,ntmps71
 go_wp2_with fail
 go_quiet ((go_at_call 104;exact Calls.quiet_eq (mJ _ _)))
 go_wp2_with fail
 go_returns
 exact⟨au HF.out.symm,.of_below af⟩
theorem DF
 (S:Nat->Prop) (e:Ex) (v:Value) (w:World) (h:aC S w e v)
 (hle:(e.args.length:Int)=aX e.op) (ho:e.op=1):(Calls prog 71 #[exV e v] w fun r w'=>r= .returned (.bool (aL e))/\w.Grows w'):=by
 have HF:Hid (aL e=(dI e.num e.den e.dim&&e.name.toList.isEmpty)):=zh (by rw [eT,decide_eq_true hle,Bool.true_and,if_pos ho]);have hr:=h.rng;obtain⟨a,cap,hv⟩:∃a cap,v= .slice a e.args.length cap:=by cases h;exact⟨_,_,rfl⟩
 subst hv;clear h;obtain⟨on,od⟩:=hr.num;obtain⟨pn,pd⟩:=hr.den;have hsz:=hr.name;clear hr;have h1:((e.args.length:Int)!=aX 1)=false:=by rw [ho]at hle;simpa using hle
 clear hle
 go_enter func71,ntmps71
 go_wp2_with fail
 go_quiet ((go_at_call 104;exact Calls.quiet_eq (mJ _ _)))
 go_wp2_with (go_at_call 121;refine(pM _ _ _ _ ze ze ze ze).mono ?_;rintro e' w' ⟨rfl,bs,d,rfl⟩;simp only [BK])
 all_goals
  go_returns
  exact⟨au (by rw [HF.out];simp [*]),.of_below af⟩
theorem Br
 (S:Nat->Prop) (e:Ex) (v:Value) (w:World) (h:aC S w e v)
 (hle:(e.args.length:Int)=aX e.op) (ho:e.op=2):(Calls prog 71 #[exV e v] w fun r w'=>r= .returned (.bool (aL e))/\w.Grows w'):=by
 have HF:Hid (aL e=(decide (e.num=0)&&decide (e.den=0)&&decide (e.dim=0)&&eY e.name)):=zh (by rw [eT,decide_eq_true hle,Bool.true_and,if_neg ze,if_pos ho]);have hr:=h.rng;obtain⟨a,cap,hv⟩:∃a cap,v= .slice a e.args.length cap:=by cases h;exact⟨_,_,rfl⟩
 subst hv;clear h;obtain⟨on,od⟩:=hr.num;obtain⟨pn,pd⟩:=hr.den;have hsz:=hr.name;clear hr;have h1:((e.args.length:Int)!=aX 2)=false:=by rw [ho]at hle;simpa using hle
 clear hle;have hm:e.name.size<=maxLen:=by unfold maxLen;omega
 have HM:=zh hm;clear hm
 go_enter func71,ntmps71
 go_wp2_with fail
 go_quiet ((go_at_call 104;exact Calls.quiet_eq (mJ _ _)))
 go_wp2_with (go_at_call 89;refine(uQ _ _ HM.out).mono ?_;rintro e' w' ⟨rfl,rfl⟩)
 all_goals
  go_returns
  exact⟨au (by rw [HF.out];simp [*]),.of_below af⟩
theorem Bu
 (S:Nat->Prop) (e:Ex) (v:Value) (w:World) (h:aC S w e v)
 (hle:(e.args.length:Int)=aX e.op) (ho:e.op=3):(Calls prog 71 #[exV e v] w fun r w'=>r= .returned (.bool (aL e))/\w.Grows w'):=by
 have HF:Hid (aL e=(decide (e.dim=0)&&e.name.toList.isEmpty&&decide (e.den=1)&&decide (1<=e.num)&&decide (e.num<=45))):=zh (by rw [eT,decide_eq_true hle,Bool.true_and,if_neg ze,if_neg ze,if_pos ho]);have hr:=h.rng;obtain⟨a,cap,hv⟩:∃a cap,v= .slice a e.args.length cap:=by cases h;exact⟨_,_,rfl⟩
 subst hv;clear h;obtain⟨on,od⟩:=hr.num;obtain⟨pn,pd⟩:=hr.den;have hsz:=hr.name;clear hr;have h1:((e.args.length:Int)!=aX 3)=false:=by rw [ho]at hle;simpa using hle
 clear hle
 go_enter func71,ntmps71
 go_wp2_with fail
 go_quiet ((go_at_call 104;exact Calls.quiet_eq (mJ _ _)))
 go_wp2_with fail
 all_goals
  go_returns
  exact⟨au (by rw [HF.out];first|(simp [*];done)|(simp [*];intros;omega)),.of_below af⟩
def fT(e:Ex)(k:Nat):Bool:=aV (e.args.take k)
theorem Nz(e:Ex):fT e 0=true:=rfl
theorem NA(e:Ex)(k:Nat)(h:k<e.args.length)(h1:fT e k=true)(h2:aL (e.arg k)=true):fT e (k+1)=true:=by
 unfold fT at *;rw [uZ _ _ h,h1,Bool.true_and];exact h2
theorem Bp(S:Nat->Prop)(n:Nat):∀(e:Ex),e.size<=n->∀(v:Value) (w:World),aC S w e v->(Calls prog 71 #[exV e v] w fun r w'=>r= .returned (.bool (aL e))/\w.Grows w'):=by
 induction n with
 |zero=>intro e he;have:=e.size_pos;omega
 |succ n ih=>
  intro e he v w h;by_cases hle:(e.args.length:Int)=aX e.op
  ·by_cases o1:e.op=1
   ·exact DF S e v w h hle o1
   ·by_cases o2:e.op=2
    ·exact Br S e v w h hle o2
    ·by_cases o3:e.op=3
     ·exact Bu S e v w h hle o3
     ·have HF:Hid (aL e=(aV e.args&&(decide (e.num=0)&&decide (e.den=0)&&decide (e.dim=0)&&e.name.toList.isEmpty))):=zh (by rw [eT,decide_eq_true hle,Bool.true_and,if_neg o1,if_neg o2,if_neg o3]);have IH:=zh ih;clear ih;have h1:((e.args.length:Int)!=aX e.op)=false:=by simpa using hle
      have p1:(e.op==1)=false:=by simpa using o1
      have p2:(e.op==2)=false:=by simpa using o2
      have p3:(e.op==3)=false:=by simpa using o3
      clear hle o1 o2 o3
      cases h with
      |mk _ a cap vs hr hc hs=>
       have hlen:=hr.len;have Hs:=zh hs;have He:=zh he;have Hc:=zh hc;clear hr hs he hc;generalize hz:(decide (e.num=0)&&decide (e.den=0)&&decide (e.dim=0)&&e.name.toList.isEmpty)=z at HF;have HZ:=zh hz;clear hz
       go_enter func71,ntmps71
       go_wp2_with fail
       go_quiet ((go_at_call 104;exact Calls.quiet_eq (mJ _ _)))
       go_wp2_with fail
       all_goals
        go_loopw [6] (fun v6 wr=>∃k:Nat,k<=e.args.length/\v6= .int .i64 k/\Hid (fT e k=true)/\
         ∃x1 x2 x3:Int,World.Grows (w.alloc (.cells #[.int .i64 e.op,.int .i64 x1,.int .i64 x2,.int .i64 x3,.string e.name,.slice a e.args.length cap] 51)) wr) (fun v6 _=>e.args.length-(intOf v6).toNat)
        case atStart=>exact⟨0,by omega,rfl,zh (Nz e),_,_,_,.of_below af⟩
        case round=>
         obtain⟨k,hk,rfl,HT,x1,x2,x3,bs,d,rfl⟩:=hrel;by_cases hlt:k<e.args.length
         ·rcases Hc.out with h0|⟨b,off,rfl,hS,hbw,hx⟩
          ·omega
          ·obtain⟨y0,y1,y2,y3,y4,y5⟩:=hx k hlt;clear hx;have hlt1:(k:Int)<(e.args.length:Int):=by omega
           have HA:=zh (e.size_arg k hlt);cases hb:aL (e.arg k)
           ·have HB:=zh hb;clear hb
            go_wp2_with fail
            refine(IH.out (e.arg k) zL (vs k) _ (((Hs.out k hlt).alloc _).grow _ _)).mono ?_;rintro r w' ⟨rfl,bs2,d2,rfl⟩;simp only [HB.out]
            go_wp2_with fail
            go_returns
            exact⟨au (by rw [HF.out,q9 _ k hlt HB.out,Bool.false_and]),.of_below af⟩
           ·have HB:=zh hb;clear hb
            go_wp2_with fail
            refine(IH.out (e.arg k) zL (vs k) _ (((Hs.out k hlt).alloc _).grow _ _)).mono ?_;rintro r w' ⟨rfl,bs2,d2,rfl⟩;simp only [HB.out]
            go_wp2_with fail
            go_roundw
            case rel=>exact⟨k+1,by omega,by go_num,zh (NA e k hlt HT.out HB.out),x1,x2,x3,.of_below af⟩
            case measure=>simp [intOf];omega
         ·obtain rfl:k=e.args.length:=by omega
          have HT2:Hid (aV e.args=true):=zh (by have:=HT.out;unfold fT at this;rw [take_length]at this;exact this);clear HT
          go_wp2_with fail
          go_returns
          exact⟨au (by rw [HF.out,HT2.out,Bool.true_and,<-HZ.out];simp [*]),.of_below af⟩
  ·exact DI S e v w h hle

theorem nT(S:Nat->Prop)(e:Ex)(v:Value)(w:World)(h:aC S w e v):(Calls prog 71 #[exV e v] w fun r w'=>r= .returned (.bool (aL e))/\w.Grows w'):=Bp S e.size e (Nat.le_refl _) v w h
def cK(e:Ex):Bool:=decide (e.depth<=10)&&decide (e.size<=60)&&aL e
theorem ku(S:Nat->Prop)(e:Ex)(v:Value)(w:World)(h:Hid (aC S w e v))(hbig:Hid (e.size<=2305843009213693952)):Calls prog 35 #[exV e v] w fun r w'=>r= .returned (.bool (cK e))/\w.Grows w':=by
 obtain⟨a,cap,hv⟩:=h.out.form0;subst hv;by_cases c1:(e.depth:Int)<=10
 ·by_cases c2:(e.size:Int)<=60
  ·go_enter func35,ntmps35
   go_wp2_with ((first|(go_at_call 32;refine(oC S e.size e (Nat.le_refl _) _ _ (h.out.alloc _) hbig).mono ?_;rintro r w' ⟨rfl,bs,d,rfl⟩)|(go_at_call 33;refine(qN S e.size e (Nat.le_refl _) _ _ ((h.out.alloc _).grow _ _) hbig).mono ?_;rintro r w' ⟨rfl,bs2,d2,rfl⟩)|(go_at_call 71;refine(nT S e _ _ ((h.out.alloc _).grow _ _)).mono ?_;rintro r w' ⟨rfl,bs3,d3,rfl⟩)))
   exact Qt
  ·go_enter func35,ntmps35
   go_wp2_with ((first|(go_at_call 32;refine(oC S e.size e (Nat.le_refl _) _ _ (h.out.alloc _) hbig).mono ?_;rintro r w' ⟨rfl,bs,d,rfl⟩)|(go_at_call 33;refine(qN S e.size e (Nat.le_refl _) _ _ ((h.out.alloc _).grow _ _) hbig).mono ?_;rintro r w' ⟨rfl,bs2,d2,rfl⟩)|(go_at_call 71;refine(nT S e _ _ ((h.out.alloc _).grow _ _)).mono ?_;rintro r w' ⟨rfl,bs3,d3,rfl⟩)))
   exact Qp
 ·go_enter func35,ntmps35
  go_wp2_with ((first|(go_at_call 32;refine(oC S e.size e (Nat.le_refl _) _ _ (h.out.alloc _) hbig).mono ?_;rintro r w' ⟨rfl,bs,d,rfl⟩)|(go_at_call 33;refine(qN S e.size e (Nat.le_refl _) _ _ ((h.out.alloc _).grow _ _) hbig).mono ?_;rintro r w' ⟨rfl,bs2,d2,rfl⟩)|(go_at_call 71;refine(nT S e _ _ ((h.out.alloc _).grow _ _)).mono ?_;rintro r w' ⟨rfl,bs3,d3,rfl⟩)))
  exact Qs
end Go.Proofs.YtlheailebbngiaaGreatDoor
