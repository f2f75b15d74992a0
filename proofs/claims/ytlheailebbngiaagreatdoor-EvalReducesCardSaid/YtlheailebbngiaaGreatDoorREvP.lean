import Derived.Test.YtlheailebbngiaaGreatDoorRFrP
import Derived.Test.YtlheailebbngiaaGreatDoorRNames
set_option linter.all false
set_option maxHeartbeats 16000000
set_option maxRecDepth 1000000
namespace Go.Proofs.YtlheailebbngiaaGreatDoor
open Tryz List

structure Val where
 dim:Int
 yes:Bool
 n:Int
 d:Int
namespace Val
def zero:Val:=⟨0,false,0,0⟩
def num(m n d:Int):Val:=⟨m,false,n,d⟩
def truth(b:Bool):Val:=⟨1,b,0,0⟩
def ok(x:Val):Bool:=if x.dim=1 then decide (x.n=0/\x.d=0)else decide (2<=x.dim/\x.dim<=4)&&!x.yes&&az x.n x.d
end Val
structure Vw where
 age:Int
 year:Int
 children:Int
 insured:Int
 worked:Int
 voluntary:Int
 service:Int
 equated:Int
 raising:Int
 resident:Int
 bn:Int
 bd:Int
 years:List Int
def bI(l:List Int):Bool:=decide (l.length<=200)&&l.all fun x=>decide (0<=x/\x<=1000000000000)
def eD(z:Int):Bool:=decide (0<=z/\z<=73049)
def Vw.ok(v:Vw):Bool:=decide (0<=v.age/\v.age<=199/\1900<=v.year/\v.year<=2099/\0<=v.children/\v.children<=99)&&
 (eD v.insured&&eD v.worked&&eD v.voluntary&&eD v.service&&eD v.equated&&eD v.raising&&eD v.resident)&&
 (az v.bn v.bd&&decide (0<=v.bn/\v.bn<=1000000000000*v.bd))&&bI v.years
def Vw.numF(v:Vw)(s:List UInt8):Int × Int:=
 if s= [98,97,115,101]then(v.bn,v.bd)
 else if s= [97,103,101]then(v.age,1)else if s= [121,101,97,114]then(v.year,1)else if s= [99,104,105,108,100,114,101,110]then(v.children,1)
 else if s= [105,110,115,117,114,101,100]then(v.insured,1)else if s= [119,111,114,107,101,100]then(v.worked,1)else if s= [118,111,108,117,110,116,97,114,121]then(v.voluntary,1)
 else if s= [115,101,114,118,105,99,101]then(v.service,1)else if s= [101,113,117,97,116,101,100]then(v.equated,1)else if s= [114,97,105,115,105,110,103]then(v.raising,1)
 else if s= [114,101,115,105,100,101,110,116]then(v.resident,1)else(0,1)
def dF(v:Vw)(s:ByteArray):Option Val:=if bV s.toList=0\/v.ok=false then none else some (.num (bV s.toList) (v.numF s.toList).1 (v.numF s.toList).2)

def pq(x:Int):List Int->List Int
 | []=>[x]
 |y::r=>if x<=y then y::pq x r else x::y::r
def kJ(l:List Int):List Int:=l.foldl (fun a x=>pq x a) []
def nU(l:List Int)(n:Int):Int:=((kJ l).take n.toNat).sum
def gU(l:List Int)(n:Int):Int × Int × Int:=if n<1\/45<n\/bI l=false then(0,0,1)else(mkN (nU l n) n,mkD (nU l n) n,mkE (nU l n) n)

def dP{α:Type}(env:List (ByteArray × α))(s:ByteArray):Option α:=(env.reverse.find? fun p=>decide (p.1=s)).map Prod.snd

def ax(op:Int)(d:List Int):Int:=
 let a:=d.getD 0 0;let b:=d.getD 1 0;let c:=d.getD 2 0
 if op=5 then(if a=1 then 1 else 0)
 else if op=4\/op=6 then(if a≠1 then a else 0)
 else if op=7\/op=8\/op=19\/op=20 then(if a=b/\a≠1 then a else 0)
 else if op=9 then(if a=2/\b≠1 then b else if b=2/\a≠1 then a else 0)
 else if op=10 then(if b=2/\a≠1 then a else if a=b/\a≠1 then 2 else 0)
 else if op=17\/op=18 then(if a=1/\b=1 then 1 else 0)
 else if op=21 then(if a=1/\b=c then b else 0)
 else if a=b/\a≠1 then 1 else 0
def eH(env:List (ByteArray × Int))(s:ByteArray):Int × Int:=
 if bV s.toList≠0 then(bV s.toList,0)else match dP env s with|some m=>(m,0)|none=>(0,5)
def fA(op m:Int)(nm:Int × Int)(r:List Int × Int):Int × Int:=
 if op=1 then(m,0)else if op=3 then(4,0)else if op=2 then nm
 else if r.2≠0 then(0,r.2)else if ax op r.1=0 then(0,6)else(ax op r.1,0)
mutual
def aD(env:List (ByteArray × Int)):Ex->Int × Int
 | .mk op _ _ m s l=>fA op m (eH env s) (bf env l)
def bf(env:List (ByteArray × Int)):List Ex->List Int × Int
 | []=>([],0)
 |e::r=>if(aD env e).2≠0 then([],(aD env e).2)else if(bf env r).2≠0 then([],(bf env r).2)else((aD env e).1::(bf env r).1,0)
end

def eQ(m:Int)(r:Int × Int × Int):Val × Int:=if r.2.2=0 then(.num m r.1 r.2.1,0)else(.zero,r.2.2)
def r9(op c:Int):Bool:=if op=11 then decide (c<0)else if op=12 then decide (c<=0)else if op=13 then decide (c=0)else if op=14 then decide (c≠0)else if op=15 then decide (c > 0)else decide (c≥0)
def op1(op:Int)(a:Val):Val × Int:=if op=5 then(.truth (!a.yes),0)else if op=6 then eQ a.dim ((eO a.n a.d).1,1,(eO a.n a.d).2)else eQ a.dim (iZ a.n a.d)
def op2(op:Int)(a b:Val):Val × Int:=
 if op=7 then eQ a.dim (jW a.n a.d b.n b.d)else if op=8 then eQ a.dim (l6 a.n a.d b.n b.d)
 else if op=9 then eQ (ax 9 [a.dim,b.dim]) (lQ a.n a.d b.n b.d)else if op=10 then eQ (ax 10 [a.dim,b.dim]) (lS a.n a.d b.n b.d)
 else if op=19 then(if gJ a.n a.d b.n b.d<=0 then .num a.dim a.n a.d else .num a.dim b.n b.d,0)
 else if op=20 then(if 0<=gJ a.n a.d b.n b.d then .num a.dim a.n a.d else .num a.dim b.n b.d,0)
 else(.truth (r9 op (gJ a.n a.d b.n b.d)),0)
def jY(v:Vw)(env:List (ByteArray × Val))(s:ByteArray):Val × Int:=
 match dF v s with
 |some x=>(x,0)
 |none=>match dP env s with|some x=>(x,0)|none=>(.zero,5)
def eG(v:Vw)(op n d m:Int)(nm:Val × Int)(rs:List (Val × Int)):Val × Int:=
 let r0:=rs.getD 0 (.zero,0);let r1:=rs.getD 1 (.zero,0);let r2:=rs.getD 2 (.zero,0)
 if op=1 then(.num m n d,0)else if op=2 then nm else if op=3 then eQ 4 (gU v.years n)
 else if r0.2≠0 then(.zero,r0.2)
 else if op=17 then(if r0.1.yes=true then r1 else r0)else if op=18 then(if r0.1.yes=true then r0 else r1)
 else if op=21 then(if r0.1.yes=true then r1 else r2)
 else if op<=6 then op1 op r0.1
 else if r1.2≠0 then(.zero,r1.2)else op2 op r0.1 r1.1
mutual
def ai(v:Vw)(env:List (ByteArray × Val)):Ex->Val × Int
 | .mk op n d m s l=>eG v op n d m (jY v env s) (gu v env l)
def gu(v:Vw)(env:List (ByteArray × Val)):List Ex->List (Val × Int)
 | []=>[]
 |e::r=>ai v env e::gu v env r
end
theorem iK(env:List (ByteArray × Int))(e:Ex):aD env e=fA e.op e.dim (eH env e.name) (bf env e.args):=by cases e;rw [aD];rfl
theorem dR(v:Vw)(env:List (ByteArray × Val))(e:Ex):ai v env e=eG v e.op e.num e.den e.dim (jY v env e.name) (gu v env e.args):=by cases e;rw [ai];rfl
def aR(env:List (ByteArray × Val)):List (ByteArray × Int):=env.map fun p=>(p.1,p.2.dim)

theorem Val.num_ok{m n d:Int}(hm:2<=m/\m<=4)(h:az n d=true):(Val.num m n d).ok=true:=by
 unfold Val.ok Val.num;rw [if_neg (show ¬m=1 by omega)];show(decide (2<=m/\m<=4)&&!false&&az n d)=true;rw [h,decide_eq_true hm];rfl
def okR(m:Int)(r:Val × Int):Prop:=(r.2=0/\r.1.ok=true/\r.1.dim=m)\/(r.1= .zero/\(r.2=2\/r.2=3))
theorem kZ{m:Int}{r:Int × Int × Int}(hm:2<=m/\m<=4)(h:okF r):okR m (eQ m r):=by
 unfold eQ;rcases h with ⟨h1,h2⟩|⟨-,-,h3⟩
 ·rw [if_pos h1];refine .inl ⟨rfl, ?_,rfl⟩;exact Val.num_ok hm h2
 ·rw [if_neg ze];exact .inr ⟨rfl,h3⟩
theorem wK(b:Bool):okR 1 (.truth b,0):=.inl ⟨rfl,by simp [Val.ok,Val.truth],rfl⟩
theorem Val.ok_num{x:Val}(h:x.ok=true)(hd:x.dim≠1):2<=x.dim/\x.dim<=4/\x.yes=false/\az x.n x.d=true:=by
 unfold Val.ok at h;rw [if_neg hd]at h;simp only [Bool.and_eq_true,decide_eq_true_eq,Bool.not_eq_true']at h;exact⟨h.1.1.1,h.1.1.2,h.1.2,h.2⟩
theorem Val.ok_dim{x:Val}(h:x.ok=true):1<=x.dim/\x.dim<=4:=by
 by_cases hd:x.dim=1
 ·omega
 ·have:=Val.ok_num h hd;omega
theorem lY{n:Int}(h1:-1000000000000000<=n)(h2:n<=1000000000000000):az n 1=true:=oP ⟨by omega,by omega,h1,h2⟩ zg
theorem uM{n d:Int}(h:az n d=true):-1000000000000000<=n / d/\n / d<=1000000000000000:=by
 have:=aF h;constructor
 ·rw [Int.le_ediv_iff_mul_le ze];omega
 ·have h3:n / d<1000000000000001:=Int.ediv_lt_of_lt_mul ze ze;omega
theorem NA{n d:Int}(h:az n d=true):okF (iZ n d):=by
 unfold iZ;rw [if_pos h];exact .inl ⟨rfl,by rw [vZ];exact h⟩
theorem KJ{n d:Int}(h:az n d=true):okF ((eO n d).1,1,(eO n d).2):=by
 unfold eO;rw [if_pos h];have:=uM h;exact .inl ⟨rfl,lY this.1 this.2⟩
theorem P9{op:Int}{x:Val}(h:x.ok=true)(h4:4<=op)(h6:op<=6)(hr:ax op [x.dim]≠0):okR (ax op [x.dim]) (op1 op x):=by
 obtain rfl|rfl|rfl:op=4\/op=5\/op=6:=by omega
 all_goals simp only [ax,getD_cons_zero,op1]at hr ⊢
 ·simp at hr ⊢;have:=Val.ok_num h hr.1;rw [if_neg hr.1];exact kZ ⟨this.1,this.2.1⟩ (NA this.2.2.2)
 ·simp at hr ⊢;rw [if_pos hr];exact wK _
 ·simp at hr ⊢;have:=Val.ok_num h hr.1;rw [if_neg hr.1];exact kZ ⟨this.1,this.2.1⟩ (KJ this.2.2.2)
theorem xR(a b:Int):ax 9 [a,b]=if a=2/\b≠1 then b else if b=2/\a≠1 then a else 0:=rfl
theorem xS(a b:Int):ax 10 [a,b]=if b=2/\a≠1 then a else if a=b/\a≠1 then 2 else 0:=rfl
theorem sK{op:Int}(a b:Int)(h:op=7\/op=8\/op=19\/op=20):ax op [a,b]=if a=b/\a≠1 then a else 0:=by
 rcases h with rfl|rfl|rfl|rfl<;>rfl
theorem sJ{op:Int}(a b:Int)(h:11<=op/\op<=16):ax op [a,b]=if a=b/\a≠1 then 1 else 0:=by
 obtain rfl|rfl|rfl|rfl|rfl|rfl:op=11\/op=12\/op=13\/op=14\/op=15\/op=16:=by omega
 all_goals rfl
theorem P7{op:Int}{x y:Val}(h:x.ok=true)(g:y.ok=true)(h4:7<=op)(h6:op<=20)(h17:op≠17)(h18:op≠18)(hr:ax op [x.dim,y.dim]≠0):okR (ax op [x.dim,y.dim]) (op2 op x y):=by
 by_cases c:op=9
 ·subst c;show okR _ (eQ (ax 9 [x.dim,y.dim]) (lQ x.n x.d y.n y.d))
  have hx:x.dim≠1/\y.dim≠1/\(ax 9 [x.dim,y.dim]=x.dim\/ax 9 [x.dim,y.dim]=y.dim):=by
   rw [xR]at hr ⊢;exact QN
  have h1:=Val.ok_num h hx.1;have h2:=Val.ok_num g hx.2.1;exact kZ ze (NC h1.2.2.2 h2.2.2.2)
 ·by_cases c':op=10
  ·subst c';show okR _ (eQ (ax 10 [x.dim,y.dim]) (lS x.n x.d y.n y.d))
   have hx:x.dim≠1/\y.dim≠1/\(ax 10 [x.dim,y.dim]=x.dim\/ax 10 [x.dim,y.dim]=2):=by
    rw [xS]at hr ⊢;exact QN
   have h1:=Val.ok_num h hx.1;have h2:=Val.ok_num g hx.2.1;exact kZ ze (Oo h1.2.2.2 h2.2.2.2)
  ·have hx:x.dim=y.dim/\x.dim≠1:=by
    by_cases c3:11<=op/\op<=16
    ·rw [sJ _ _ c3]at hr
     split at hr<;>rename_i c1
     ·exact c1
     ·exact absurd rfl hr
    ·rw [sK _ _ ze]at hr
     split at hr<;>rename_i c1
     ·exact c1
     ·exact absurd rfl hr
   have h1:=Val.ok_num h hx.2;have h2:=Val.ok_num g ze;by_cases c3:11<=op/\op<=16
   ·rw [sJ _ _ c3,if_pos hx];unfold op2;rw [if_neg ze,if_neg ze,if_neg ze,if_neg ze,if_neg ze,if_neg ze];exact wK _
   ·rw [sK _ _ ze,if_pos hx];obtain rfl|rfl|rfl|rfl:op=7\/op=8\/op=19\/op=20:=by omega
    ·exact kZ ze (FP h1.2.2.2 h2.2.2.2)
    ·exact kZ ze (MB h1.2.2.2 h2.2.2.2)
    ·show okR _ (if gJ x.n x.d y.n y.d<=0 then .num x.dim x.n x.d else .num x.dim y.n y.d,0);exact QI
    ·show okR _ (if 0<=gJ x.n x.d y.n y.d then .num x.dim x.n x.d else .num x.dim y.n y.d,0);exact QI
theorem okR.bad{m:Int}{r:Val × Int}(h:okR m r)(hr:r.2≠0):r.1= .zero/\(r.2=2\/r.2=3):=by
 rcases h with h|h
 ·exact absurd h.1 hr
 ·exact h
theorem okR.good{m:Int}{r:Val × Int}(h:okR m r)(hr:r.2=0):r.1.ok=true/\r.1.dim=m:=by
 rcases h with h|h
 ·exact h.2
 ·omega
theorem Nw(v:Vw){op n d m:Int}{nm:Val × Int}{ds:List Int}{rs:List (Val × Int)}(h4:4<=op)(h21:op<=21)(hl:(ds.length:Int)=bi op)
 (hr:∀i,i<ds.length->okR (ds.getD i 0) (rs.getD i (.zero,0))) (hres:ax op ds≠0):okR (ax op ds) (eG v op n d m nm rs):=by
 have hn:0<ds.length:=by unfold bi at hl;(repeat' split at hl)<;>omega
 have r0:=hr 0 hn;unfold eG;rw [if_neg ze,if_neg ze,if_neg ze];by_cases e0:(rs.getD 0 (Val.zero,0)).2≠0
 ·rw [if_pos e0];exact .inr ⟨rfl,(r0.bad e0).2⟩
 rw [if_neg e0];have g0:=r0.good ze;by_cases h6:op<=6
 ·have hl1:ds.length=1:=by unfold bi at hl;rw [if_neg ze,if_pos ze]at hl;omega
  obtain⟨a,rfl⟩:∃a,ds= [a]:=length_eq_one_iff.1 hl1;rw [if_neg ze,if_neg ze,if_neg ze,if_pos h6];have ha:(rs.getD 0 (Val.zero,0)).1.dim=a:=g0.2;rw [<-ha]at hres ⊢;exact P9 g0.1 h4 h6 hres
 by_cases h20:op<=20
 ·have hl1:ds.length=2:=by unfold bi at hl;rw [if_neg ze,if_neg ze,if_pos ze]at hl;omega
  obtain⟨a,b,rfl⟩:∃a b,ds= [a,b]:=by
   match ds,hl1 with
   | [a,b],_=>exact⟨a,b,rfl⟩
  have r1:=hr 1 zg;have ha:(rs.getD 0 (Val.zero,0)).1.dim=a:=g0.2;have hb:okR b (rs.getD 1 (Val.zero,0)):=r1;by_cases h17:op=17
  ·subst h17
   have hab:a=1/\b=1:=by
    have e:ax 17 [a,b]=if a=1/\b=1 then 1 else 0:=rfl
    rw [e]at hres
    split at hres<;>rename_i c1
    ·exact c1
    ·exact absurd rfl hres
   obtain⟨rfl,rfl⟩:=hab;rw [if_pos rfl]
   split
   ·exact hb
   ·exact r0
  by_cases h18:op=18
  ·subst h18
   have hab:a=1/\b=1:=by
    have e:ax 18 [a,b]=if a=1/\b=1 then 1 else 0:=rfl
    rw [e]at hres
    split at hres<;>rename_i c1
    ·exact c1
    ·exact absurd rfl hres
   obtain⟨rfl,rfl⟩:=hab;rw [if_neg ze,if_pos rfl]
   split
   ·exact r0
   ·exact hb
  rw [if_neg h17,if_neg h18,if_neg ze,if_neg h6];by_cases e1:(rs.getD 1 (Val.zero,0)).2≠0
  ·rw [if_pos e1];exact .inr ⟨rfl,(hb.bad e1).2⟩
  rw [if_neg e1];have g1:=hb.good ze;rw [<-ha,<-g1.2]at hres ⊢;exact P7 g0.1 g1.1 ze h20 h17 h18 hres
 ·obtain rfl:op=21:=by omega
  have hl1:ds.length=3:=by simp [bi]at hl;omega
  obtain⟨a,b,c,rfl⟩:∃a b c,ds= [a,b,c]:=by
   match ds,hl1 with
   | [a,b,c],_=>exact⟨a,b,c,rfl⟩
  have hb:okR b (rs.getD 1 (Val.zero,0)):=hr 1 zg;have hc:okR c (rs.getD 2 (Val.zero,0)):=hr 2 zg;have e:ax 21 [a,b,c]=if a=1/\b=c then b else 0:=rfl
  rw [e]at hres ⊢
  split at hres<;>rename_i c1
  ·obtain⟨rfl,rfl⟩:=c1;rw [if_pos (⟨rfl,rfl⟩:(1:Int)=1/\b=b),if_neg ze,if_neg ze,if_pos rfl]
   split
   ·exact hb
   ·exact hc
  ·exact absurd rfl hres
theorem Vw.ok_bd{v:Vw}(h:v.ok=true):(0<=v.age/\v.age<=199/\1900<=v.year/\v.year<=2099/\0<=v.children/\v.children<=99)/\
 (0<=v.insured/\v.insured<=73049/\0<=v.worked/\v.worked<=73049/\0<=v.voluntary/\v.voluntary<=73049/\0<=v.service/\v.service<=73049/\0<=v.equated/\v.equated<=73049/\0<=v.raising/\v.raising<=73049/\0<=v.resident/\v.resident<=73049)/\
 az v.bn v.bd=true/\(0<=v.bn/\v.bn<=1000000000000*v.bd)/\bI v.years=true:=by
 unfold Vw.ok at h;obtain⟨h,e⟩:=Bool.and_eq_true_iff.1 h;obtain⟨h,cd⟩:=Bool.and_eq_true_iff.1 h;obtain⟨a,b⟩:=Bool.and_eq_true_iff.1 h;obtain⟨c,d⟩:=Bool.and_eq_true_iff.1 cd;have k:∀z,eD z=true->0<=z/\z<=73049:=fun z hz=>of_decide_eq_true hz;repeat rw [Bool.and_eq_true]at b
 obtain⟨⟨⟨⟨⟨⟨b1,b2⟩,b3⟩,b4⟩,b5⟩,b6⟩,b7⟩:=b;have b1:=k _ b1;have b2:=k _ b2;have b3:=k _ b3;have b4:=k _ b4;have b5:=k _ b5;have b6:=k _ b6;have b7:=k _ b7;exact⟨of_decide_eq_true a,⟨b1.1,b1.2,b2.1,b2.2,b3.1,b3.2,b4.1,b4.2,b5.1,b5.2,b6.1,b6.2,b7.1,b7.2⟩,c,of_decide_eq_true d,e⟩
theorem Km{c:Prop}[Decidable c]{a b:Int × Int}(ha:az a.1 a.2=true)(hb:az b.1 b.2=true):az (if c then a else b).1 (if c then a else b).2=true:=by
 by_cases h:c
 ·rw [if_pos h];exact ha
 ·rw [if_neg h];exact hb
theorem Vw.numF_ok{v:Vw}(h:v.ok=true)(s:List UInt8):az (v.numF s).1 (v.numF s).2=true:=by
 obtain⟨a,b,c,-,-⟩:=Vw.ok_bd h;unfold Vw.numF;refine Km c ?_;repeat refine Km (lY (by show _<=(_:Int);omega) (by show(_:Int)<=_;omega)) ?_
 exact lY ze ze
theorem Fg(s:List UInt8):bV s=0\/(2<=bV s/\bV s<=4):=by
 unfold bV
 (repeat' split)<;>simp
theorem Bl{v:Vw}{s:ByteArray}{x:Val}(h:dF v s=some x):x.ok=true/\x.dim=bV s.toList/\bV s.toList≠0:=by
 unfold dF at h
 split at h<;>rename_i hc
 ·cases h
 ·simp only [not_or,Bool.not_eq_false]at hc;cases h;have:=Fg s.toList;exact⟨Val.num_ok ze (Vw.numF_ok hc.2 _),rfl,hc.1⟩
theorem Bn{v:Vw}(hv:v.ok=true){s:ByteArray}(h:dF v s=none):bV s.toList=0:=by
 unfold dF at h
 split at h<;>rename_i hc
 ·rcases hc with hc|hc
  ·exact hc
  ·rw [hv]at hc;cases hc
 ·cases h
theorem DY(env:List (ByteArray × Val))(s:ByteArray):dP (aR env) s=(dP env s).map Val.dim:=by
 unfold dP aR;rw [<-map_reverse,find?_map];simp only [Option.map_map];rfl
theorem Hd{env:List (ByteArray × Val)}{s:ByteArray}{x:Val}(h:dP env s=some x):∃p∈env,p.2=x:=by
 exact QL
theorem Fa{v:Vw}(hv:v.ok=true){env:List (ByteArray × Val)}(hE:∀p∈env,p.2.ok=true){s:ByteArray}(h:(eH (aR env) s).2=0):okR (eH (aR env) s).1 (jY v env s):=by
 unfold eH at h ⊢;unfold jY
 cases hi:dF v s with
 |some x=>
  obtain⟨h1,h2,h3⟩:=Bl hi;rw [if_pos h3];exact .inl ⟨rfl,h1,h2⟩
 |none=>
  have h0:=Bn hv hi;rw [if_neg (by simpa using h0),DY]at h ⊢
  cases hx:dP env s with
  |some x=>
   obtain⟨p,hp,rfl⟩:=Hd hx;exact .inl ⟨rfl,hE p hp,rfl⟩
  |none=>rw [hx]at h;simp at h
theorem O0{n d:Int}(h:d≠0):okF (mkN n d,mkD n d,mkE n d):=by
 unfold mkN mkD mkE;rw [if_neg h,if_neg h,if_neg h];rcases uB n.natAbs d.natAbs with e|e
 ·exact .inl ⟨e,Kh _ ze e⟩
 ·have h3:=Ff (decide (n<0)!=decide (d<0)) (show kK n.natAbs d.natAbs≠0 by omega);exact .inr ⟨h3.1,h3.2,.inl e⟩
theorem OE{l:List Int}{n:Int}(h1:1<=n)(h2:n<=45)(h:bI l=true):okF (gU l n):=by
 unfold gU;rw [if_neg (by simp [h];omega)];exact O0 ze
theorem Co{n d m:Int}(h:dL n d m=true):az n d=true/\2<=m/\m<=4:=by
 simp only [dL,Bool.and_eq_true,decide_eq_true_eq]at h;exact⟨h.1.1.1.1.1,h.1.1.2,h.1.2⟩
theorem D8(env:List (ByteArray × Int))(l:List Ex)(h:(bf env l).2=0):(bf env l).1.length=l.length:=by
 induction l with
 |nil=>simp [bf]
 |cons e r ih=>
  rw [bf]at h ⊢
  split at h<;>rename_i c1
  ·exact absurd h c1
  ·split at h<;>rename_i c2
   ·exact absurd h c2
   ·rw [if_neg c1,if_neg c2];simp [ih ze]
mutual
theorem lZ{v:Vw}(hv:v.ok=true){env:List (ByteArray × Val)}(hE:∀p∈env,p.2.ok=true):∀e:Ex,aN e=true->(aD (aR env) e).2=0->okR (aD (aR env) e).1 (ai v env e)
 | .mk op n d m s l=>by
   intro hf hi;rw [aN,Bool.and_eq_true,decide_eq_true_eq]at hf;rw [aD]at hi ⊢;rw [ai];obtain⟨ha,hf⟩:=hf;unfold fA at hi ⊢;by_cases c1:op=1
   ·subst c1;rw [if_pos rfl]at hf;simp only [Bool.and_eq_true]at hf;have:=Co hf.1;exact .inl ⟨rfl,Val.num_ok this.2 this.1,rfl⟩
   rw [if_neg c1]at hi hf ⊢;by_cases c2:op=2
   ·subst c2;exact Fa hv hE hi
   rw [if_neg c2]at hf;by_cases c3:op=3
   ·subst c3;rw [if_pos rfl]at hf;simp only [Bool.and_eq_true,decide_eq_true_eq]at hf;show okR 4 (eQ 4 (gU v.years n));exact kZ ze (OE hf.1.2 hf.2 (Vw.ok_bd hv).2.2.2.2)
   rw [if_neg c3]at hf;rw [if_neg c3,if_neg c2]at hi ⊢;simp only [Bool.and_eq_true]at hf
   split at hi<;>rename_i c4
   ·exact absurd hi c4
   rw [if_neg c4]
   split at hi<;>rename_i c5
   ·simp at hi
   rw [if_neg c5];have hlen:=D8 (aR env) l ze;have hop:4<=op/\op<=21:=by unfold bi at ha;(repeat' split at ha)<;>omega
   exact Nw v hop.1 hop.2 (by rw [hlen];exact ha) (fun i hi=>wm hv hE l hf.1 ze i ze) c5
theorem wm{v:Vw}(hv:v.ok=true){env:List (ByteArray × Val)}(hE:∀p∈env,p.2.ok=true):∀l:List Ex,aZ l=true->(bf (aR env) l).2=0->
 ∀i,i<l.length->okR ((bf (aR env) l).1.getD i 0) ((gu v env l).getD i (.zero,0))
 | []=>by intro _ _ i hi;simp at hi
 |e::r=>by
  intro hf h i hi;rw [aZ,Bool.and_eq_true]at hf;rw [bf]at h ⊢;rw [gu]
  split at h<;>rename_i c1
  ·exact absurd h c1
  split at h<;>rename_i c2
  ·exact absurd h c2
  rw [if_neg c1,if_neg c2]
  cases i with
  |zero=>exact lZ hv hE e hf.1 ze
  |succ i=>exact wm hv hE r hf.2 ze i (by simpa using hi)
end
mutual
def bT(s:ByteArray):Ex->Bool
 | .mk op _ _ _ nm l=>(decide (op=2)&&decide (nm=s)) || dS s l
def dS(s:ByteArray):List Ex->Bool
 | []=>false
 |e::r=>bT s e || dS s r
end
theorem Ba(s:ByteArray)(e:Ex):bT s e=((decide (e.op=2)&&decide (e.name=s)) || dS s e.args):=by cases e;rw [bT];rfl
theorem A9(s:ByteArray)(l:List Ex)(k:Nat)(h:k<l.length):dS s (l.take (k+1))=(dS s (l.take k) || bT s (l.getD k default)):=by
 induction l generalizing k with
 |nil=>simp at h
 |cons e r ih=>
  cases k with
  |zero=>simp [dS]
  |succ k=>simp only [take_succ_cons,dS,getD_cons_succ];rw [ih k zI,Bool.or_assoc]
theorem uu(s:ByteArray)(l:List Ex)(k:Nat)(h:k<l.length)(hf:bT s (l.getD k default)=true):dS s l=true:=by
 induction l generalizing k with
 |nil=>simp at h
 |cons e r ih=>
  cases k with
  |zero=>simp only [getD_cons_zero]at hf;simp [dS,hf]
  |succ k=>simp only [getD_cons_succ]at hf;simp [dS,ih k zI hf]
def jD(e:Ex)(ls:List (ByteArray × Ex))(i:Nat)(u:List Nat):Bool:=
 bT (ls.getD i default).1 e || u.any fun k=>bT (ls.getD i default).1 (ls.getD k default).2
def bQ(e:Ex)(ls:List (ByteArray × Ex)):Nat->List Nat
 |0=>[]
 |f+1=>if jD e ls (ls.length-(f+1)) (bQ e ls f)then(ls.length-(f+1))::bQ e ls f else bQ e ls f
def aA(e:Ex)(ls:List (ByteArray × Ex)):List Nat:=bQ e ls ls.length
theorem fO{e:Ex}{ls:List (ByteArray × Ex)}:∀(f:Nat),f<=ls.length->∀i∈bQ e ls f,ls.length-f<=i/\i<ls.length
 |0,_,i,h=>by simp [bQ]at h
 |f+1,hf,i,h=>by
  rw [bQ]at h
  split at h
  ·rcases mem_cons.1 h with rfl|h
   ·omega
   ·have:=fO f ze i h;omega
  ·have:=fO f ze i h;omega
theorem qi{e:Ex}{ls:List (ByteArray × Ex)}:∀(f:Nat),f<=ls.length->(bQ e ls f).Pairwise (· < ·)
 |0,_=>by simp [bQ]
 |f+1,hf=>by
  rw [bQ]
  split
  ·exact pairwise_cons.2 ⟨fun i hi=>by have:=fO f ze i hi;omega,qi f ze⟩
  ·exact qi f ze
theorem jh{e:Ex}{ls:List (ByteArray × Ex)}:∀(f:Nat),(bQ e ls f).length<=f
 |0=>by simp [bQ]
 |f+1=>by
  rw [bQ];have:=jh (e:=e) (ls:=ls) f
  split<;>simp<;>omega
theorem jy{e:Ex}{ls:List (ByteArray × Ex)}(f:Nat)(hf:f+1<=ls.length):(bQ e ls (f+1)).contains (ls.length-(f+1))=jD e ls (ls.length-(f+1)) (bQ e ls f):=by
 rw [bQ]
 split<;>rename_i h
 ·simp [h]
 ·rw [Bool.eq_false_iff.2 h];rw [Bool.eq_false_iff];intro hc;have:=fO f ze _ (contains_iff_mem.1 hc);omega
theorem kI{e:Ex}{ls:List (ByteArray × Ex)}{i:Nat}:∀(f g:Nat),f+g<=ls.length->ls.length-f<=i->i<ls.length->(i∈bQ e ls (f+g)↔i∈bQ e ls f)
 |f,0,_,_,_=>Iff.rfl
 |f,g+1,h,h1,h2=>by
  have ih:=kI (e:=e) f g ze h1 h2;show i∈bQ e ls (f+g+1)↔_;rw [bQ]
  split
  ·rw [mem_cons,ih];constructor
   ·rintro(h3|h3)
    ·omega
    ·exact h3
   ·exact .inr
  ·exact ih
def gm(env:List (ByteArray × Int)):Bool:=env.all fun p=>decide (1<=p.2/\p.2<=4)
def aT(env:List (ByteArray × Int))(e:Ex):Int × Int:=if cZ e=true/\gm env=true then aD env e else(0,1)
open Go.RowKit
abbrev bdN(l:List (ByteArray × Int))(i:Nat):ByteArray:=(l.getD i (ByteArray.empty,0)).1
abbrev bdD(l:List (ByteArray × Int))(i:Nat):Int:=(l.getD i (ByteArray.empty,0)).2
def aW(w:World)(v:Value)(l:List (ByteArray × Int)):Prop:=
 l.length<=1000/\∃a cap,v= .slice a l.length cap/\(l.length=0\/∃b off,a=some ⟨b,off,none⟩/\b<w.heap.size/\∀i,i<l.length->w.cell? ⟨b,off+i*2,none⟩=some (.string (bdN l i))/\w.cell? ⟨b,off+i*2+1,none⟩=some (.int .i64 (bdD l i)))
theorem aW.below{w w':World}{v:Value}{l:List (ByteArray × Int)}{n:Nat}(h:aW w v l)(hn:w.heap.size<=n)(hb:Below n w w'):aW w' v l:=by
 obtain⟨h0,a,cap,hv,h1⟩:=h;refine⟨h0,a,cap,hv,h1.imp id ?_⟩;rintro⟨b,off,ha,hlt,hc⟩;refine⟨b,off,ha,Nat.lt_of_lt_of_le hlt hb.size,fun i hi=>?_⟩;rw [hb.cell (p:=⟨b,off+i*2,none⟩) (Nat.lt_of_lt_of_le hlt hn),hb.cell (p:=⟨b,off+i*2+1,none⟩) (Nat.lt_of_lt_of_le hlt hn)];exact hc i hi
theorem aW.grows{w w':World}{v:Value}{l:List (ByteArray × Int)}(h:aW w v l)(hg:w.Grows w'):aW w' v l:=h.below (Nat.le_refl _) hg.below
theorem aW.grow{w:World}{v:Value}{l:List (ByteArray × Int)}(h:aW w v l)(bs:Array Obj)(d:Nat):aW (w.grow bs d) v l:=h.grows ⟨bs,d,rfl⟩
theorem aW.alloc{w:World}{v:Value}{l:List (ByteArray × Int)}(h:aW w v l)(o:Obj):aW (w.alloc o) v l:=h.below (Nat.le_refl _) ((Below.refl _ _).alloc (Nat.le_refl _) _)
def Pg(g:FuncId)(lb:Array Value)(l:List (ByteArray × Int))(p:Nat->Bool)(w:World):Prop:=
 ∀k,k<l.length->∀w',w.Grows w'->Calls prog g (#[.agg #[.string (bdN l k),.int .i64 (bdD l k)]]++lb) w' fun r w''=>r= .returned (.bool (p k))/\w'.Grows w''
theorem Kw(g:FuncId)(lb:Array Value)(eg:∀args w,(callFunc g args).run prog w= .ok (.enter g args) w)(l:List (ByteArray × Int))(v:Value)(p:Nat->Bool)(w:World)(h:aW w v l)(hp:Hid (Pg g lb l p w)) :
 Calls prog 137 #[v,.func (.func g) #[] lb] w fun r w'=>(∃z,r= .returned (.int .i64 z)/\CQ l.length p z)/\w.Grows w':=by
 obtain⟨hlen,a,cap,rfl,hc⟩:=h;have Hc:=zh hc;clear hc
 go_enter func137,ntmps137
 go_wp2_with fail
 go_loopw [5,8] (fun _ v8 wr=>∃k:Nat,k<=l.length/\v8= .int .i64 k/\Hid (∀j,j<k->p j=false)/\w.Grows wr) (fun _ v8 _=>l.length-(intOf v8).toNat)
 case atStart=>exact⟨0,by omega,rfl,zh (fun j hj=>by omega),.refl _⟩
 case round=>
  obtain⟨k,hk,rfl,hno,hgr⟩:=hrel;have HG:=zh hgr;by_cases hlt2:k<l.length
  ·rcases Hc.out with h0|⟨b,off,rfl,hbw,hx⟩
   ·omega
   ·obtain⟨x0,x1⟩:=hx k hlt2;have y0:wr.cell? ⟨b,off+k*2,none⟩=some (.string (bdN l k)):=by rw [hgr.below.cell (p:=⟨b,off+k*2,none⟩) hbw];exact x0
    have y1:wr.cell? ⟨b,off+k*2+1,none⟩=some (.int .i64 (bdD l k)):=by rw [hgr.below.cell (p:=⟨b,off+k*2+1,none⟩) hbw];exact x1
    clear hx x0 x1;have d1:(k:Int)<(l.length:Int):=by omega
    have hcall:=hp.out k hlt2 _ hgr;generalize bdN l k=nk at *;generalize bdD l k=dk at *;have HLT:=zh hlt2;clear hgr
    cases hq:p k with
    |true=>
     rw [hq]at hcall;have HQ:=zh hq;clear hq;have HCL:=zh hcall;clear hcall
     go_wp2_with (go_at_fn g;refine HCL.out.mono ?_;rintro e' w' ⟨rfl,hg2⟩;have HG2:=zh hg2;clear hg2)
     go_returns
     exact⟨⟨_,rfl,.inr ⟨k,HLT.out,rfl,HQ.out⟩⟩,World.Grows.trans HG.out HG2.out⟩
    |false=>
     rw [hq]at hcall;have HQ:=zh hq;clear hq;have HCL:=zh hcall;clear hcall
     go_wp2_with (go_at_fn g;refine HCL.out.mono ?_;rintro e' w' ⟨rfl,hg2⟩;have HG2:=zh hg2;clear hg2)
     go_roundw
     case rel=>exact⟨k+1,by omega,by go_num,zh (fun j hj=>by
      by_cases ej:j=k
      ·subst ej;exact HQ.out
      ·exact hno.out j ze),World.Grows.trans HG.out HG2.out⟩
     case measure=>simp [intOf];omega
  ·obtain rfl:k=l.length:=by omega
   clear hgr
   go_wp2_with fail
   go_returns
   exact⟨⟨_,rfl,.inl ⟨rfl,hno.out⟩⟩,HG.out⟩
theorem nR(g:FuncId)(lb:Array Value)(eg:∀args w,(callFunc g args).run prog w= .ok (.enter g args) w)(l:List (ByteArray × Int))(v:Value)(p:Nat->Bool)(w:World)(h:aW w v l)(hp:Hid (Pg g lb l p w)) :
 Calls prog 109 #[v,.func (.func g) #[] lb] w fun r w'=>r= .returned (.bool ((List.range l.length).any p))/\w.Grows w':=by
 have HI:=zh (Kw g lb eg l v p w h hp);obtain⟨-,a,cap,rfl,-⟩:=h;clear hp;generalize hX:(List.range l.length).any p=X;have HX:=zh hX;clear hX
 go_enter func109,ntmps109
 go_wp2_with (go_at_call 137;refine HI.out.mono ?_;rintro e' w' ⟨⟨z,rfl,hz⟩,bs2,d2,rfl⟩;have HZ:=zh hz.any;clear hz)
 go_returns
 exact⟨au zW,.of_below ag⟩
theorem IP:∀args w,(callFunc 110 args).run prog w= .ok (.enter 110 args) w:=enters_of func110 zf rfl
theorem Li(n:ByteArray)(d:Int)(w:World):Calls prog 110 #[.agg #[.string n,.int .i64 d]] w fun r w'=>r= .returned (.bool (!decide (1<=d/\d<=4)))/\w.Grows w':=by
 by_cases h1:d<1
 ·go_enter func110,ntmps110
  exact Gf
 ·by_cases h2:d > 4
  ·go_enter func110,ntmps110
   exact Gf
  ·go_enter func110,ntmps110
   exact Gf
open Go.RowKit Go.Shelf
attribute [local go_sem] Oper.semAt_some
def iU(n k:Nat):List (Fin n):=(finRange n).reverse.take k
theorem gK(n k:Nat)(i:Fin n)(hk:k<n)(hi:n-1-k=i.1):iU n (k+1)=iU n k++[i]:=by
 have hl:k<(finRange n).reverse.length:=by simpa using hk
 unfold iU;rw [take_succ_eq_append_getElem hl]
 congr 2
 apply Fin.ext;rw [getElem_reverse];simp;omega
theorem pR(n k:Nat)(hk:k<=n):(iU n k).length=k:=by simp [iU,hk]
theorem jr{n k:Nat}(i:Fin n)(hk:n<=i.1+k):i∈iU n k:=by
 unfold iU;have hl:n-1-i.1<(finRange n).reverse.length:=by simp;omega
 have he:(finRange n).reverse[n-1-i.1]=i:=by
  apply Fin.ext;rw [getElem_reverse];simp;omega
 rw [mem_take_iff_getElem];exact⟨n-1-i.1,by simp;omega,he⟩
abbrev oN:=List (ByteArray × Int)
def oN.el(x:oN)(i:Nat):Value:=.agg #[.string (bdN x i),.int .i64 (bdD x i)]
def oN.Lies(x:oN)(n₀:Nat)(W:World)(v:Value)(n:Nat):Prop:=
 n<=1000/\∃a cap,v= .slice a n cap/\(n=0\/∃b off,a=some ⟨b,off,none⟩/\b<n₀/\∀i,i<n->W.cell? ⟨b,off+i*2,none⟩=some (.string (bdN x i))/\W.cell? ⟨b,off+i*2+1,none⟩=some (.int .i64 (bdD x i)))
theorem oN.Lies.below{x:oN}{n₀ n:Nat}{W W':World}{v:Value}(h:oN.Lies x n₀ W v n)(hb:Below n₀ W W'):oN.Lies x n₀ W' v n:=by
 obtain⟨h0,a,cap,hv,h1⟩:=h;refine⟨h0,a,cap,hv,h1.imp id ?_⟩;rintro⟨b,off,ha,hlt,hc⟩;refine⟨b,off,ha,hlt,fun i hi=>?_⟩;rw [hb.cell (p:=⟨b,off+i*2,none⟩) hlt,hb.cell (p:=⟨b,off+i*2+1,none⟩) hlt];exact hc i hi
theorem aW.lies{W:World}{v:Value}{l:List (ByteArray × Int)}(h:aW W v l):oN.Lies l W.heap.size W v l.length:=h
theorem IR(F:Fence)(n:Nat)(hf:F.fn 207)(hro:F.round=none)(hn:1<=n)(l Bs n₀ len:Nat)(x:oN)(v:Value)(J Jx:List (Fin len)->World->Prop)
 (hY:∀pre (i:Fin len) W,J pre W->pre.length<len->YieldAt F (n-1) prog l #[.int .i64 ((i.1:Nat):Int),x.el i.1] W fun e W'=>
  (e= .returned (.bool true)/\J (pre++[i]) W'/\Below n₀ W W')\/(e= .returned (.bool false)/\Jx (pre++[i]) W'))
 (W:World) (hBs:W.cell? ⟨Bs,0,none⟩=some v) (hBl:Bs<n₀) (hL:x.Lies n₀ W v len) (h0:J [] W) :
 CallsIn F n prog 207 #[.func (.yield l) #[] #[],.pointer (some ⟨Bs,0,none⟩)] W fun e W'=>(∃v,e= .returned v)/\
  ((∃ys,ys=iU len len/\J ys W')\/(∃pre,(∃k,k<len/\pre=iU len (k+1))/\Jx pre W')):=by
 have HL:=zh hL;obtain⟨h1000,a,cap,rfl,-⟩:=hL;refine callsIn_of_wp func207 rfl hf ?_ hro;simp only [ntmps207,size_toArray,length_cons,length_nil,Nat.reduceAdd,Nat.reduceSub,Array.replicate_succ,Array.replicate_zero,push_toArray,append_toArray,nil_append,cons_append]
 gi_wp2
 gi_loopw [3] (fun vi wr=>∃k:Nat,k<=len/\vi= .int .i64 ((len:Int)-1-k)/\J (iU len k) wr/\Below n₀ W wr) (fun vi _=>(intOf vi+1).toNat)
 case atStart=>exact⟨0,Nat.zero_le _,by simp,h0,Below.refl _ _⟩
 case round=>
  obtain⟨k,hk,rfl,hJs,hnx⟩:=hrel;by_cases hlt:k<len
  ·have hcs:=(hnx.cell (p:=⟨Bs,0,none⟩) hBl).trans hBs;have hLr:=HL.out.below hnx;obtain⟨-,a',cap',hv,hx⟩:=hLr;simp only [Value.slice.injEq,true_and]at hv;obtain⟨rfl,rfl⟩:=hv;rcases hx with hx|⟨b,off,rfl,hb,hx⟩
   ·omega
   obtain⟨i,hi⟩:∃i:Nat,(len:Int)-1-k=i:=⟨len-1-k,by omega⟩;have hii:i<len:=by omega
   have hik:len-1-k=i:=by omega
   obtain⟨q0,q1⟩:=hx i hii;obtain⟨fn,tmps,assign,body,hy,hR⟩:=hY _ ⟨i,hii⟩ wr hJs (by rw [pR _ _ hk];exact hlt);simp only at hy;unfold oN.el at hy;unfold bdN at hy q0;unfold bdD at hy q1;generalize(x.getD i (ByteArray.empty,0)).1=z0 at *;generalize(x.getD i (ByteArray.empty,0)).2=z1 at *;have d1:(i:Int)<(len:Int):=by omega
   have d0:(0:Int)<=(i:Int):=by omega
   have hlen1:(len:Int)<=1000:=by omega
   rw [hi];have HI:=zh hi;have HIK:=zh hik;clear hx hi hik hBs h0
   gi_wp2
   refine hR.mono ?_;rintro e W3 (⟨rfl,hJ3,hk3⟩|⟨rfl,hJx3⟩)
   ·gi_wp2
    go_roundw
    case rel=>exact⟨k+1,by omega,by have:=HI.out;first|(congr 1;omega)|(simp;omega),by rw [gK _ _ ⟨i,hii⟩ hlt HIK.out];exact hJ3,hnx.trans hk3⟩
    case measure=>first|(simp [intOf];done)|(simp [intOf];omega)
   ·gi_wp2
    refine bodyPost_ret (results_none rfl _ _ _) rfl ?_;exact⟨⟨_,rfl⟩,.inr ⟨_,⟨k,hlt,by rw [gK _ _ ⟨i,hii⟩ hlt HIK.out]⟩,hJx3⟩⟩
  ·obtain rfl:k=len:=by omega
   have hz:(k:Int)-1-k= -1:=by omega
   rw [hz];clear hz
   gi_wp2
   go_end0
   exact⟨⟨_,rfl⟩,.inl ⟨_,rfl,hJs⟩⟩
theorem Lj(F:Fence)(n:Nat)(hf:F.fn 181)(hro:F.round=none)(a:Option Addr)(len cap:Nat)(w:World) :
 CallsIn F n prog 181 #[.slice a len cap] w fun e w'=>e= .returned (.func (.func 207) #[] #[.pointer (some ⟨w.heap.size,0,none⟩)])/\w'=w.alloc (.cells #[.slice a len cap] 54):=by
 refine callsIn_of_wp func181 rfl hf ?_ hro;simp only [ntmps181,size_toArray,length_cons,length_nil,Nat.reduceAdd,Nat.reduceSub,Array.replicate_succ,Array.replicate_zero,push_toArray,append_toArray,nil_append,cons_append]
 gi_wp2
 go_ret
 exact⟨rfl,rfl⟩
theorem Cy(F:Fence)(n:Nat)(hf:F.fn 207)(hro:F.round=none)(hn:1<=n)(Bs n₀:Nat)(v:Value)(x:oN)(len:Nat)(w:World)(hBs:Bs<n₀)(hn₀:n₀<=w.heap.size)
 (hc:w.cell? ⟨Bs,0,none⟩=some v) (hL:x.Lies n₀ w v len) :
 SeqStopsK F n prog 207 #[.pointer (some ⟨Bs,0,none⟩)] (fun i:Fin len=>#[Value.int .i64 ((i.1:Nat):Int),x.el i.1]) (Below n₀) (fun ys=>ys=iU len len)
  (fun pre=>∃k,k<len/\pre=iU len (k+1)) len w:=fun l J Jx W hW _ _ hY h0=>
 IR F n hf hro hn l Bs n₀ len x v J Jx hY W ((hW.cell (p:=⟨Bs,0,none⟩) (by show Bs<w.heap.size;omega)).trans hc) hBs (hL.below (hW.mono hn₀)) h0
open Go.RowKit Go.Shelf
attribute [local go_sem] Oper.semAt_some
abbrev lD:=List (ByteArray × Val)
abbrev stN(l:List (ByteArray × Val))(i:Nat):ByteArray:=(l.getD i (ByteArray.empty,Val.zero)).1
abbrev stV(l:List (ByteArray × Val))(i:Nat):Val:=(l.getD i (ByteArray.empty,Val.zero)).2
structure Ag(W:World)(b o:Nat)(n:ByteArray)(x:Val):Prop where
 p0:W.cell? ⟨b,o,none⟩=some (.string n)
 p1:W.cell? ⟨b,o+1,none⟩=some (.int .i64 x.dim)
 p2:W.cell? ⟨b,o+2,none⟩=some (.bool x.yes)
 p3:W.cell? ⟨b,o+3,none⟩=some (.int .i64 x.n)
 p4:W.cell? ⟨b,o+4,none⟩=some (.int .i64 x.d)
theorem Ag.same{W W':World}{b o:Nat}{n:ByteArray}{x:Val}(h:Ag W b o n x)(hw:∀o,W'.cell? ⟨b,o,none⟩=W.cell? ⟨b,o,none⟩):Ag W' b o n x:=
 ⟨by rw [hw];exact h.p0,by rw [hw];exact h.p1,by rw [hw];exact h.p2,by rw [hw];exact h.p3,by rw [hw];exact h.p4⟩
def lD.el(x:lD)(i:Nat):Value:=.agg #[.string (stN x i),.int .i64 (stV x i).dim,.bool (stV x i).yes,.int .i64 (stV x i).n,.int .i64 (stV x i).d]
def lD.Lies(x:lD)(n₀:Nat)(W:World)(v:Value)(n:Nat):Prop:=
 n<=1000/\∃a cap,v= .slice a n cap/\(n=0\/∃b off,a=some ⟨b,off,none⟩/\b<n₀/\∀i,i<n->Ag W b (off+i*5) (stN x i) (stV x i))
theorem lD.Lies.below{x:lD}{n₀ n:Nat}{W W':World}{v:Value}(h:lD.Lies x n₀ W v n)(hb:Below n₀ W W'):lD.Lies x n₀ W' v n:=by
 obtain⟨h0,a,cap,hv,h1⟩:=h;refine⟨h0,a,cap,hv,h1.imp id ?_⟩;rintro⟨b,off,ha,hlt,hc⟩;exact⟨b,off,ha,hlt,fun i hi=>(hc i hi).same fun o=>hb.cell (p:=⟨b,o,none⟩) hlt⟩
theorem IQ(F:Fence)(n:Nat)(hf:F.fn 182)(hro:F.round=none)(hn:1<=n)(l Bs n₀ len:Nat)(x:lD)(v:Value)(J Jx:List (Fin len)->World->Prop)
 (hY:∀pre (i:Fin len) W,J pre W->pre.length<len->YieldAt F (n-1) prog l #[.int .i64 ((i.1:Nat):Int),x.el i.1] W fun e W'=>
  (e= .returned (.bool true)/\J (pre++[i]) W'/\Below n₀ W W')\/(e= .returned (.bool false)/\Jx (pre++[i]) W'))
 (W:World) (hBs:W.cell? ⟨Bs,0,none⟩=some v) (hBl:Bs<n₀) (hL:x.Lies n₀ W v len) (h0:J [] W) :
 CallsIn F n prog 182 #[.func (.yield l) #[] #[],.pointer (some ⟨Bs,0,none⟩)] W fun e W'=>(∃v,e= .returned v)/\
  ((∃ys,ys=iU len len/\J ys W')\/(∃pre,(∃k,k<len/\pre=iU len (k+1))/\Jx pre W')):=by
 have HL:=zh hL;obtain⟨h1000,a,cap,rfl,-⟩:=hL;refine callsIn_of_wp func182 rfl hf ?_ hro;simp only [ntmps182,size_toArray,length_cons,length_nil,Nat.reduceAdd,Nat.reduceSub,Array.replicate_succ,Array.replicate_zero,push_toArray,append_toArray,nil_append,cons_append]
 gi_wp2
 gi_loopw [3] (fun vi wr=>∃k:Nat,k<=len/\vi= .int .i64 ((len:Int)-1-k)/\J (iU len k) wr/\Below n₀ W wr) (fun vi _=>(intOf vi+1).toNat)
 case atStart=>exact⟨0,Nat.zero_le _,by simp,h0,Below.refl _ _⟩
 case round=>
  obtain⟨k,hk,rfl,hJs,hnx⟩:=hrel;by_cases hlt:k<len
  ·have hcs:=(hnx.cell (p:=⟨Bs,0,none⟩) hBl).trans hBs;have hLr:=HL.out.below hnx;obtain⟨-,a',cap',hv,hx⟩:=hLr;simp only [Value.slice.injEq,true_and]at hv;obtain⟨rfl,rfl⟩:=hv;rcases hx with hx|⟨b,off,rfl,hb,hx⟩
   ·omega
   obtain⟨i,hi⟩:∃i:Nat,(len:Int)-1-k=i:=⟨len-1-k,by omega⟩;have hii:i<len:=by omega
   have hik:len-1-k=i:=by omega
   obtain⟨q0,q1,q2,q3,q4⟩:=hx i hii;obtain⟨fn,tmps,assign,body,hy,hR⟩:=hY _ ⟨i,hii⟩ wr hJs (by rw [pR _ _ hk];exact hlt);simp only at hy;unfold lD.el at hy;generalize stN x i=z0 at *;generalize stV x i=zz at *;obtain⟨z1,z2,z3,z4⟩:=zz;dsimp only at hy q1 q2 q3 q4;have d1:(i:Int)<(len:Int):=by omega
   have d0:(0:Int)<=(i:Int):=by omega
   have hlen1:(len:Int)<=1000:=by omega
   rw [hi];have HI:=zh hi;have HIK:=zh hik;clear hx hi hik hBs h0
   gi_wp2
   refine hR.mono ?_;rintro e W3 (⟨rfl,hJ3,hk3⟩|⟨rfl,hJx3⟩)
   ·gi_wp2
    go_roundw
    case rel=>exact⟨k+1,by omega,by have:=HI.out;first|(congr 1;omega)|(simp;omega),by rw [gK _ _ ⟨i,hii⟩ hlt HIK.out];exact hJ3,hnx.trans hk3⟩
    case measure=>first|(simp [intOf];done)|(simp [intOf];omega)
   ·gi_wp2
    refine bodyPost_ret (results_none rfl _ _ _) rfl ?_;exact⟨⟨_,rfl⟩,.inr ⟨_,⟨k,hlt,by rw [gK _ _ ⟨i,hii⟩ hlt HIK.out]⟩,hJx3⟩⟩
  ·obtain rfl:k=len:=by omega
   have hz:(k:Int)-1-k= -1:=by omega
   rw [hz];clear hz
   gi_wp2
   go_end0
   exact⟨⟨_,rfl⟩,.inl ⟨_,rfl,hJs⟩⟩
theorem Cx(F:Fence)(n:Nat)(hf:F.fn 140)(hro:F.round=none)(a:Option Addr)(len cap:Nat)(w:World) :
 CallsIn F n prog 140 #[.slice a len cap] w fun e w'=>e= .returned (.func (.func 182) #[] #[.pointer (some ⟨w.heap.size,0,none⟩)])/\w'=w.alloc (.cells #[.slice a len cap] 47):=by
 refine callsIn_of_wp func140 rfl hf ?_ hro;simp only [ntmps140,size_toArray,length_cons,length_nil,Nat.reduceAdd,Nat.reduceSub,Array.replicate_succ,Array.replicate_zero,push_toArray,append_toArray,nil_append,cons_append]
 gi_wp2
 go_ret
 exact⟨rfl,rfl⟩
theorem rR(F:Fence)(n:Nat)(hf:F.fn 182)(hro:F.round=none)(hn:1<=n)(Bs n₀:Nat)(v:Value)(x:lD)(len:Nat)(w:World)(hBs:Bs<n₀)(hn₀:n₀<=w.heap.size)
 (hc:w.cell? ⟨Bs,0,none⟩=some v) (hL:x.Lies n₀ w v len) :
 SeqStopsK F n prog 182 #[.pointer (some ⟨Bs,0,none⟩)] (fun i:Fin len=>#[Value.int .i64 ((i.1:Nat):Int),x.el i.1]) (Below n₀) (fun ys=>ys=iU len len)
  (fun pre=>∃k,k<len/\pre=iU len (k+1)) len w:=fun l J Jx W hW _ _ hY h0=>
 IQ F n hf hro hn l Bs n₀ len x v J Jx hY W ((hW.cell (p:=⟨Bs,0,none⟩) (by show Bs<w.heap.size;omega)).trans hc) hBs (hL.below (hW.mono hn₀)) h0
def frI(r:Int × Int):Value:=.tuple #[.int .i64 r.1,.int .i64 r.2]
theorem uL{n d:Int}(h:1<=d):n / d=n.tdiv d\/n / d=n.tdiv d-1:=by
 rw [<-qJ h];split<;>simp
theorem EH(n d:Int)(w:World)(h1:-9223372036854775808<=n)(h2:n<=9223372036854775807)(h3:-9223372036854775808<=d)(h4:d<=9223372036854775807) :
 Calls prog 141 #[.agg #[.int .i64 n,.int .i64 d]] w fun e w'=>e= .returned (frI (eO n d))/\w.Grows w':=by
 have hv:=zh (fun w=>dU n d w h1 h2 h3 h4);generalize hx:az n d=b at *;cases b
 ·have HR:=zh (show eO n d=(0,1)by unfold eO;rw [hx];rfl);clear hx
  go_enter func141,ntmps141
  go_wp2_with fail
  refine(hv.out _).mono ?_;rintro e w' ⟨rfl,bs,dr,rfl⟩;clear hv
  go_wp2_with fail
  go_returns
  exact⟨by rw [HR.out];rfl,.of_below ag⟩
 ·have HR:=zh (show eO n d=(n / d,0)by unfold eO;rw [hx];rfl);obtain⟨k1,k2,k3,k4⟩:=aF hx;have hf:=uM hx;have HF:=zh (qJ (n:=n) k1);have hft:=uL (n:=n) k1;have hq1:-1000000000000001<=n.tdiv d:=by omega
  have hq2:n.tdiv d<=1000000000000001:=by omega
  have d0:(d==0)=false:=by simp;omega
  clear hx hf hft;have e1:IntKind.i64.wrap (n.tdiv d)=n.tdiv d:=IntWalk.i64_in _ ze;generalize n / d=z at *;by_cases c:n.tmod d<0
  focus
   have HZ:=zh (show z=n.tdiv d-1 by rw [<-HF.out,if_pos c])
  rotate_left
  focus
   have HZ:=zh (show z=n.tdiv d by rw [<-HF.out,if_neg c])
  rotate_left
  all_goals
   clear HF
   go_enter func141,ntmps141
   go_wp2_with fail
   refine(hv.out _).mono ?_;rintro e w' ⟨rfl,bs,dr,rfl⟩;clear hv
   go_wp2_with fail
   go_returns
   exact⟨by rw [HR.out,HZ.out];rfl,.of_below ag⟩
theorem EI(n d:Int)(w:World)(h1:-9223372036854775808<=n)(h2:n<=9223372036854775807)(h3:-9223372036854775808<=d)(h4:d<=9223372036854775807) :
 Calls prog 150 #[.agg #[.int .i64 n,.int .i64 d]] w fun e w'=>e= .returned (frI (eO n d))/\w.Grows w':=by
 have hv:=zh (fun w=>cK n d w h1 h2 h3 h4);generalize hx:az n d=b at *;cases b
 ·have HR:=zh (show eO n d=(0,1)by unfold eO;rw [hx];rfl);clear hx
  go_enter func150,ntmps150
  go_wp2_with fail
  refine(hv.out _).mono ?_;rintro e w' ⟨rfl,bs,dr,rfl⟩;clear hv
  go_wp2_with fail
  go_returns
  exact⟨by rw [HR.out];rfl,.of_below ag⟩
 ·have HR:=zh (show eO n d=(n / d,0)by unfold eO;rw [hx];rfl);obtain⟨k1,k2,k3,k4⟩:=aF hx;have hf:=uM hx;have HF:=zh (H9 (n:=n) k1);have hft:=uL (n:=n) k1;have hq1:-1000000000000001<=n.tdiv d:=by omega
  have hq2:n.tdiv d<=1000000000000001:=by omega
  have d0:(d==0)=false:=by simp;omega
  clear hx hf hft;have e1:IntKind.i64.wrap (n.tdiv d)=n.tdiv d:=IntWalk.i64_in _ ze;generalize n / d=z at *
  have hp1:n.tdiv d*d<=2000000000000000/\-2000000000000000<=n.tdiv d*d:=by
   have e5:=Int.mul_tdiv_add_tmod n d;have hb:=Int.tmod_lt_of_pos n (show 0<d by omega);have hc:=Int.tmod_lt_of_pos (-n) (show 0<d by omega);rw [Int.neg_tmod]at hc;rw [Int.mul_comm]at e5;omega
  have hp2:=hp1.1;have hp3:=hp1.2;clear hp1;by_cases c:n<n.tdiv d*d
  focus
   have HZ:=zh (show z=n.tdiv d-1 by rw [<-HF.out,if_pos c])
  rotate_left
  focus
   have HZ:=zh (show z=n.tdiv d by rw [<-HF.out,if_neg c])
  rotate_left
  all_goals
   clear HF
   go_enter func150,ntmps150
   go_wp2_with fail
   refine(hv.out _).mono ?_;rintro e w' ⟨rfl,bs,dr,rfl⟩;clear hv
   go_wp2_with fail
   go_returns
   exact⟨by rw [HR.out,HZ.out];rfl,.of_below ag⟩
def OA(s p q:Bool):Int:=if s then(if q then -1 else if p then 1 else 0)else(if p then -1 else if q then 1 else 0)
theorem IC(an ad bn bd xh xl yh yl:Int)(s p q:Bool)(w:World)(hs1:decide (an<0)=s)(hs2:decide (bn<0)=s)
 (V1:Hid (∀w,Calls prog 55 #[.agg #[.int .i64 an,.int .i64 ad]] w fun e w'=>e= .returned (.bool true)/\w.Grows w')) (V2:Hid (∀w,Calls prog 55 #[.agg #[.int .i64 bn,.int .i64 bd]] w fun e w'=>e= .returned (.bool true)/\w.Grows w'))
 (Z:Hid (∀n,I64 n->∀w,Calls prog 95 #[.int .i64 n] w fun e w'=>e= .returned (.int .u64 (aI n))/\w=w')) (I1:I64 an) (I2:I64 ad) (I3:I64 bn) (I4:I64 bd)
 (T1:Hid (∀w,Calls prog 183 #[.int .u64 (aI an),.int .u64 (aI bd)] w fun e w'=>e= .returned (.agg #[.int .u64 xh,.int .u64 xl])/\w.Grows w')) (T2:Hid (∀w,Calls prog 183 #[.int .u64 (aI bn),.int .u64 (aI ad)] w fun e w'=>e= .returned (.agg #[.int .u64 yh,.int .u64 yl])/\w.Grows w'))
 (L1:Hid (∀w,Calls prog 184 #[.agg #[.int .u64 xh,.int .u64 xl],.agg #[.int .u64 yh,.int .u64 yl]] w fun e w'=>e= .returned (.bool p)/\w.Grows w')) (L2:Hid (∀w,Calls prog 184 #[.agg #[.int .u64 yh,.int .u64 yl],.agg #[.int .u64 xh,.int .u64 xl]] w fun e w'=>e= .returned (.bool q)/\w.Grows w'))
 :Calls prog 143 #[.agg #[.int .i64 an,.int .i64 ad],.agg #[.int .i64 bn,.int .i64 bd]] w fun e w'=>e= .returned (frI (OA s p q,0))/\w.Grows w':=by
 cases s<;>
 ·go_enter func143,ntmps143
  go_wp2_with (first|(go_at_call 55;(with_reducible refine(V1.out _).mono ?_);rintro e w' ⟨rfl,bs,dr,rfl⟩)|(go_at_call 55;(with_reducible refine(V2.out _).mono ?_);rintro e w' ⟨rfl,bs2,dr2,rfl⟩))
  clear V1 V2;obtain⟨W,hW⟩:∃W,(((w.alloc (.cells #[.int .i64 an,.int .i64 ad] 23)).alloc (.cells #[.int .i64 bn,.int .i64 bd] 23)).grow (bs++bs2) dr2)=W:=⟨_,rfl⟩;have x0:W.cell? ⟨w.heap.size,0,none⟩=some (.int .i64 an):=by rw [<-hW];simp [go_sem]
  have x1:W.cell? ⟨w.heap.size,1,none⟩=some (.int .i64 ad):=by rw [<-hW];simp [go_sem]
  have x2:W.cell? ⟨w.heap.size+1,0,none⟩=some (.int .i64 bn):=by rw [<-hW];simp [go_sem]
  have x3:W.cell? ⟨w.heap.size+1,1,none⟩=some (.int .i64 bd):=by rw [<-hW];simp [go_sem]
  have hbw:Below w.heap.size w W:=by rw [<-hW];(exact ag)
  have hz0:w.heap.size<W.heap.size:=by rw [<-hW];simp;omega
  have hz1:w.heap.size+1<W.heap.size:=by rw [<-hW];simp;omega
  rw [hW];clear hW;apply iX 16 (14,6,.cells #[.int .u64 0,.int .u64 0] 164) (15,7,.cells #[.int .u64 0,.int .u64 0] 164) zf zf
  case hrx=>
   intro o ho ρ w;obtain rfl:=Option.some.inj ho;simp [go_sem]
  case hry=>
   intro o ho ρ w;obtain rfl:=Option.some.inj ho;simp [go_sem]
  case h1=>
   intro bs d;simp only [take_succ_cons,take_zero,map_cons,map_nil,Oper.mask];repeat(go_big_quiet_step ((first|(go_at_call 95;(with_reducible exact Calls.quietMS (Z.out _ zv _)))|(go_at_call 183;first|(with_reducible exact Calls.quietM (T1.out _))|(with_reducible exact Calls.quietM (T2.out _))))))
   exact wpQuiet_nil rfl
  all_goals
   intro gb1 gd1 gb2 gd2 gb gd;simp only [drop_succ_cons,drop_zero,Act.put,setIfInBounds_toArray,set_cons_zero,set_cons_succ]
  all_goals
   clear T1 T2 Z;cases p<;>cases q
  all_goals
   go_wp2_with (first|(go_at_call 184;(with_reducible refine(L1.out _).mono ?_);rintro e w' ⟨rfl,bs3,dr3,rfl⟩)|(go_at_call 184;(with_reducible refine(L2.out _).mono ?_);rintro e w' ⟨rfl,bs4,dr4,rfl⟩))
   go_returns
   exact⟨rfl,.of_below ag⟩
theorem OB(an ad bn bd:Int)(p q:Bool)(w:World)(hpq:(p&&q)=false)
 (V1:Hid (∀w,Calls prog 55 #[.agg #[.int .i64 an,.int .i64 ad]] w fun e w'=>e= .returned (.bool p)/\w.Grows w')) (V2:Hid (∀w,Calls prog 55 #[.agg #[.int .i64 bn,.int .i64 bd]] w fun e w'=>e= .returned (.bool q)/\w.Grows w'))
 :Calls prog 143 #[.agg #[.int .i64 an,.int .i64 ad],.agg #[.int .i64 bn,.int .i64 bd]] w fun e w'=>e= .returned (frI (0,1))/\w.Grows w':=by
 cases p<;>cases q
 all_goals first
  |(exfalso;simp at hpq;done)
  |(clear hpq
    go_enter func143,ntmps143
    go_wp2_with (first|(go_at_call 55;(with_reducible refine(V1.out _).mono ?_);rintro e w' ⟨rfl,bs,dr,rfl⟩)|(go_at_call 55;(with_reducible refine(V2.out _).mono ?_);rintro e w' ⟨rfl,bs2,dr2,rfl⟩))
    go_returns
    exact⟨rfl,.of_below ag⟩)
theorem IB(an ad bn bd r:Int)(w:World)(hd:decide (an<0)≠decide (bn<0))(hr:Hid (r=if an<0 then -1 else 1))
 (V1:Hid (∀w,Calls prog 55 #[.agg #[.int .i64 an,.int .i64 ad]] w fun e w'=>e= .returned (.bool true)/\w.Grows w')) (V2:Hid (∀w,Calls prog 55 #[.agg #[.int .i64 bn,.int .i64 bd]] w fun e w'=>e= .returned (.bool true)/\w.Grows w'))
 :Calls prog 143 #[.agg #[.int .i64 an,.int .i64 ad],.agg #[.int .i64 bn,.int .i64 bd]] w fun e w'=>e= .returned (frI (r,0))/\w.Grows w':=by
 by_cases c:an<0
 focus
  have d1:decide (an<0)=true:=by simpa using c
  have d2:decide (bn<0)=false:=by simp [c]at hd;simpa using hd
  have HR:=zh (show r= -1 by rw [hr.out,if_pos c])
 rotate_left
 focus
  have d1:decide (an<0)=false:=by simpa using c
  have d2:decide (bn<0)=true:=by simp [c]at hd;simpa using hd
  have HR:=zh (show r=1 by rw [hr.out,if_neg c])
 rotate_left
 all_goals
  clear hd c hr
  go_enter func143,ntmps143
  go_wp2_with (first|(go_at_call 55;(with_reducible refine(V1.out _).mono ?_);rintro e w' ⟨rfl,bs,dr,rfl⟩)|(go_at_call 55;(with_reducible refine(V2.out _).mono ?_);rintro e w' ⟨rfl,bs2,dr2,rfl⟩))
  go_returns
  exact⟨by rw [HR.out];rfl,.of_below ag⟩
theorem xG{an ad bn bd:Int}(h1:1<=ad)(h2:1<=bd)(h:decide (an<0)=decide (bn<0)) :
 gJ an ad bn bd=OA (decide (an<0)) (decide (an.natAbs*bd.natAbs<bn.natAbs*ad.natAbs)) (decide (bn.natAbs*ad.natAbs<an.natAbs*bd.natAbs)):=by
 rw [Lc h1 h2 h];unfold OA;by_cases c:an<0<;>simp [c]
theorem ng{F:FuncId}(T:∀(a b:Nat) (w:World),a<18446744073709551616->b<18446744073709551616->Calls prog F #[.int .u64 a,.int .u64 b] w fun e w'=>e= .returned (.agg #[.int .u64 (hiW (a*b)),.int .u64 (loW (a*b))])/\w.Grows w')
 {a b:Int} (ha:I64 a) (hb:I64 b) (w:World):Calls prog F #[.int .u64 (aI a),.int .u64 (aI b)] w fun e w'=>e= .returned (.agg #[.int .u64 (hiW (a.natAbs*b.natAbs)),.int .u64 (loW (a.natAbs*b.natAbs))])/\w.Grows w':=by
 unfold I64 at ha hb;exact T a.natAbs b.natAbs w ze ze
def iV(a b c d:Int):Prop:=I64 a/\I64 b/\I64 c/\I64 d
theorem pY(an ad bn bd:Int)(w:World)(hi:iV an ad bn bd) :
 Calls prog 143 #[.agg #[.int .i64 an,.int .i64 ad],.agg #[.int .i64 bn,.int .i64 bd]] w fun e w'=>e= .returned (frI (fJ an ad bn bd))/\w.Grows w':=by
 obtain⟨i1,i2,i3,i4⟩:=hi;have V1:=zh (fun w=>dU an ad w i1.1 i1.2 i2.1 i2.2);have V2:=zh (fun w=>dU bn bd w i3.1 i3.2 i4.1 i4.2);by_cases hv:(az an ad&&az bn bd)=true
 ·have hva:=(Bool.and_eq_true_iff.1 hv).1;have hvb:=(Bool.and_eq_true_iff.1 hv).2;rw [show fJ an ad bn bd=(gJ an ad bn bd,0)by unfold fJ;rw [if_pos hv]];rw [hva]at V1;rw [hvb]at V2;have b1:=aF hva;have b2:=aF hvb;by_cases hs:decide (an<0)=decide (bn<0)
  ·rw [xG b1.1 b2.1 hs];refine IC an ad bn bd _ _ _ _ _ _ _ w rfl hs.symm V1 V2 (fun n h w=>iH n w h.1 h.2) i1 i2 i3 i4 (ng iE i1 i4) (ng iE i3 i2) ?_ ?_
   ·intro w;have:=qB (hiW (an.natAbs*bd.natAbs)) (loW (an.natAbs*bd.natAbs)) (hiW (bn.natAbs*ad.natAbs)) (loW (bn.natAbs*ad.natAbs)) w;rwa [kH]at this
   ·intro w;have:=qB (hiW (bn.natAbs*ad.natAbs)) (loW (bn.natAbs*ad.natAbs)) (hiW (an.natAbs*bd.natAbs)) (loW (an.natAbs*bd.natAbs)) w;rwa [kH]at this
  ·rw [Cu b1.1 b2.1 hs];exact IB an ad bn bd _ w hs (zh rfl) V1 V2
 ·rw [show fJ an ad bn bd=(0,1)by unfold fJ;rw [if_neg hv]];exact OB an ad bn bd _ _ w (Bool.eq_false_iff.2 hv) V1 V2
theorem yQ{op m:Int}{a b:Int × Int}{r:List Int × Int}(h:op≠2):fA op m a r=fA op m b r:=by
 unfold fA;by_cases c:op=1
 ·rw [if_pos c,if_pos c]
 ·rw [if_neg c,if_neg c];by_cases c3:op=3
  ·rw [if_pos c3,if_pos c3]
  ·rw [if_neg c3,if_neg c3,if_neg h,if_neg h]
end Go.Proofs.YtlheailebbngiaaGreatDoor
