import Derived.Test.YtcfpoofhokbhlaaGreatDoorVForm
import Derived.Test.YtcfpoofhokbhlaaGreatDoorVGen
set_option linter.all false
set_option maxHeartbeats 16000000
set_option maxRecDepth 1000000
namespace Go.Proofs.YtcfpoofhokbhlaaGreatDoor
open Tryz List

structure Val where
 dim:Int
 yes:Bool
 n:Int
 d:Int
namespace Val
def zero:Val:=⟨0,false,0,0⟩
def num(m n d:Int):Val:=⟨m,false,n,d⟩
def truth(b:Bool):Val:=⟨1,b,0,0⟩
def ok(x:Val):Bool:=if x.dim=1 then decide (x.n=0/\x.d=0)else decide (2<=x.dim/\x.dim<=4)&&!x.yes&&ay x.n x.d
end Val
structure Vw where
 age:Int
 year:Int
 children:Int
 insured:Int
 worked:Int
 voluntary:Int
 service:Int
 equated:Int
 raising:Int
 resident:Int
 bn:Int
 bd:Int
 years:List Int
def bD(l:List Int):Bool:=decide (l.length<=200)&&l.all fun x=>decide (0<=x/\x<=1000000000000)
def ed(z:Int):Bool:=decide (0<=z/\z<=73049)
def Vw.ok(v:Vw):Bool:=decide (0<=v.age/\v.age<=199/\1900<=v.year/\v.year<=2099/\0<=v.children/\v.children<=99)&&
 (ed v.insured&&ed v.worked&&ed v.voluntary&&ed v.service&&ed v.equated&&ed v.raising&&ed v.resident)&&
 (ay v.bn v.bd&&decide (0<=v.bn/\v.bn<=1000000000000*v.bd))&&bD v.years
def Vw.numF(v:Vw)(s:List UInt8):Int × Int:=
 if s= [98,97,115,101]then(v.bn,v.bd)
 else if s= [97,103,101]then(v.age,1)else if s= [121,101,97,114]then(v.year,1)else if s= [99,104,105,108,100,114,101,110]then(v.children,1)
 else if s= [105,110,115,117,114,101,100]then(v.insured,1)else if s= [119,111,114,107,101,100]then(v.worked,1)else if s= [118,111,108,117,110,116,97,114,121]then(v.voluntary,1)
 else if s= [115,101,114,118,105,99,101]then(v.service,1)else if s= [101,113,117,97,116,101,100]then(v.equated,1)else if s= [114,97,105,115,105,110,103]then(v.raising,1)
 else if s= [114,101,115,105,100,101,110,116]then(v.resident,1)else(0,1)
def dF(v:Vw)(s:ByteArray):Option Val:=if bQ s.toList=0\/v.ok=false then none else some (.num (bQ s.toList) (v.numF s.toList).1 (v.numF s.toList).2)

def o7(x:Int):List Int->List Int
 | []=>[x]
 |y::r=>if x<=y then y::o7 x r else x::y::r
def kG(l:List Int):List Int:=l.foldl (fun a x=>o7 x a) []
def nN(l:List Int)(n:Int):Int:=((kG l).take n.toNat).sum
def gQ(l:List Int)(n:Int):Int × Int × Int:=if n<1\/45<n\/bD l=false then(0,0,1)else(mkN (nN l n) n,mkD (nN l n) n,mkE (nN l n) n)

def dK{α:Type}(env:List (ByteArray × α))(s:ByteArray):Option α:=(env.reverse.find? fun p=>decide (p.1=s)).map Prod.snd

def av(op:Int)(d:List Int):Int:=
 let a:=d.getD 0 0;let b:=d.getD 1 0;let c:=d.getD 2 0
 if op=5 then(if a=1 then 1 else 0)
 else if op=4\/op=6 then(if a≠1 then a else 0)
 else if op=7\/op=8\/op=19\/op=20 then(if a=b/\a≠1 then a else 0)
 else if op=9 then(if a=2/\b≠1 then b else if b=2/\a≠1 then a else 0)
 else if op=10 then(if b=2/\a≠1 then a else if a=b/\a≠1 then 2 else 0)
 else if op=17\/op=18 then(if a=1/\b=1 then 1 else 0)
 else if op=21 then(if a=1/\b=c then b else 0)
 else if a=b/\a≠1 then 1 else 0
def eu(env:List (ByteArray × Int))(s:ByteArray):Int × Int:=
 if bQ s.toList≠0 then(bQ s.toList,0)else match dK env s with|some m=>(m,0)|none=>(0,5)
def fw(op m:Int)(nm:Int × Int)(r:List Int × Int):Int × Int:=
 if op=1 then(m,0)else if op=3 then(4,0)else if op=2 then nm
 else if r.2≠0 then(0,r.2)else if av op r.1=0 then(0,6)else(av op r.1,0)
mutual
def aD(env:List (ByteArray × Int)):Ex->Int × Int
 | .mk op _ _ m s l=>fw op m (eu env s) (aW env l)
def aW(env:List (ByteArray × Int)):List Ex->List Int × Int
 | []=>([],0)
 |e::r=>if(aD env e).2≠0 then([],(aD env e).2)else if(aW env r).2≠0 then([],(aW env r).2)else((aD env e).1::(aW env r).1,0)
end

def eT(m:Int)(r:Int × Int × Int):Val × Int:=if r.2.2=0 then(.num m r.1 r.2.1,0)else(.zero,r.2.2)
def rZ(op c:Int):Bool:=if op=11 then decide (c<0)else if op=12 then decide (c<=0)else if op=13 then decide (c=0)else if op=14 then decide (c≠0)else if op=15 then decide (c > 0)else decide (c≥0)
def op1(op:Int)(a:Val):Val × Int:=if op=5 then(.truth (!a.yes),0)else if op=6 then eT a.dim ((eD a.n a.d).1,1,(eD a.n a.d).2)else eT a.dim (iW a.n a.d)
def op2(op:Int)(a b:Val):Val × Int:=
 if op=7 then eT a.dim (jT a.n a.d b.n b.d)else if op=8 then eT a.dim (lX a.n a.d b.n b.d)
 else if op=9 then eT (av 9 [a.dim,b.dim]) (lL a.n a.d b.n b.d)else if op=10 then eT (av 10 [a.dim,b.dim]) (lM a.n a.d b.n b.d)
 else if op=19 then(if iy a.n a.d b.n b.d<=0 then .num a.dim a.n a.d else .num a.dim b.n b.d,0)
 else if op=20 then(if 0<=iy a.n a.d b.n b.d then .num a.dim a.n a.d else .num a.dim b.n b.d,0)
 else(.truth (rZ op (iy a.n a.d b.n b.d)),0)
def jU(v:Vw)(env:List (ByteArray × Val))(s:ByteArray):Val × Int:=
 match dF v s with
 |some x=>(x,0)
 |none=>match dK env s with|some x=>(x,0)|none=>(.zero,5)
def eG(v:Vw)(op n d m:Int)(nm:Val × Int)(rs:List (Val × Int)):Val × Int:=
 let r0:=rs.getD 0 (.zero,0);let r1:=rs.getD 1 (.zero,0);let r2:=rs.getD 2 (.zero,0)
 if op=1 then(.num m n d,0)else if op=2 then nm else if op=3 then eT 4 (gQ v.years n)
 else if r0.2≠0 then(.zero,r0.2)
 else if op=17 then(if r0.1.yes=true then r1 else r0)else if op=18 then(if r0.1.yes=true then r0 else r1)
 else if op=21 then(if r0.1.yes=true then r1 else r2)
 else if op<=6 then op1 op r0.1
 else if r1.2≠0 then(.zero,r1.2)else op2 op r0.1 r1.1
mutual
def aj(v:Vw)(env:List (ByteArray × Val)):Ex->Val × Int
 | .mk op n d m s l=>eG v op n d m (jU v env s) (gB v env l)
def gB(v:Vw)(env:List (ByteArray × Val)):List Ex->List (Val × Int)
 | []=>[]
 |e::r=>aj v env e::gB v env r
end
theorem iI(env:List (ByteArray × Int))(e:Ex):aD env e=fw e.op e.dim (eu env e.name) (aW env e.args):=by cases e;rw [aD];rfl
theorem dX(v:Vw)(env:List (ByteArray × Val))(e:Ex):aj v env e=eG v e.op e.num e.den e.dim (jU v env e.name) (gB v env e.args):=by cases e;rw [aj];rfl
def aS(env:List (ByteArray × Val)):List (ByteArray × Int):=env.map fun p=>(p.1,p.2.dim)

theorem Val.num_ok{m n d:Int}(hm:2<=m/\m<=4)(h:ay n d=true):(Val.num m n d).ok=true:=by
 unfold Val.ok Val.num;rw [if_neg (show ¬m=1 by omega)];show(decide (2<=m/\m<=4)&&!false&&ay n d)=true;rw [h,decide_eq_true hm];rfl
def okR(m:Int)(r:Val × Int):Prop:=(r.2=0/\r.1.ok=true/\r.1.dim=m)\/(r.1= .zero/\(r.2=2\/r.2=3))
theorem kW{m:Int}{r:Int × Int × Int}(hm:2<=m/\m<=4)(h:okF r):okR m (eT m r):=by
 unfold eT;rcases h with ⟨h1,h2⟩|⟨-,-,h3⟩
 ·rw [if_pos h1];refine .inl ⟨rfl, ?_,rfl⟩;exact Val.num_ok hm h2
 ·rw [if_neg ze];exact .inr ⟨rfl,h3⟩
theorem wG(b:Bool):okR 1 (.truth b,0):=.inl ⟨rfl,by simp [Val.ok,Val.truth],rfl⟩
theorem Val.ok_num{x:Val}(h:x.ok=true)(hd:x.dim≠1):2<=x.dim/\x.dim<=4/\x.yes=false/\ay x.n x.d=true:=by
 unfold Val.ok at h;rw [if_neg hd]at h;simp only [Bool.and_eq_true,decide_eq_true_eq,Bool.not_eq_true']at h;exact⟨h.1.1.1,h.1.1.2,h.1.2,h.2⟩
theorem Val.ok_dim{x:Val}(h:x.ok=true):1<=x.dim/\x.dim<=4:=by
 by_cases hd:x.dim=1
 ·omega
 ·have:=Val.ok_num h hd;omega
theorem lV{n:Int}(h1:-1000000000000000<=n)(h2:n<=1000000000000000):ay n 1=true:=oK ⟨by omega,by omega,h1,h2⟩ zg
theorem uO{n d:Int}(h:ay n d=true):-1000000000000000<=n / d/\n / d<=1000000000000000:=by
 have:=aC h;constructor
 ·rw [Int.le_ediv_iff_mul_le ze];omega
 ·have h3:n / d<1000000000000001:=Int.ediv_lt_of_lt_mul ze ze;omega
theorem OB{n d:Int}(h:ay n d=true):okF (iW n d):=by
 unfold iW;rw [if_pos h];exact .inl ⟨rfl,by rw [vW];exact h⟩
theorem LU{n d:Int}(h:ay n d=true):okF ((eD n d).1,1,(eD n d).2):=by
 unfold eD;rw [if_pos h];have:=uO h;exact .inl ⟨rfl,lV this.1 this.2⟩
theorem QW{op:Int}{x:Val}(h:x.ok=true)(h4:4<=op)(h6:op<=6)(hr:av op [x.dim]≠0):okR (av op [x.dim]) (op1 op x):=by
 obtain rfl|rfl|rfl:op=4\/op=5\/op=6:=by omega
 all_goals simp only [av,getD_cons_zero,op1]at hr ⊢
 ·simp at hr ⊢;have:=Val.ok_num h hr.1;rw [if_neg hr.1];exact kW ⟨this.1,this.2.1⟩ (OB this.2.2.2)
 ·simp at hr ⊢;rw [if_pos hr];exact wG _
 ·simp at hr ⊢;have:=Val.ok_num h hr.1;rw [if_neg hr.1];exact kW ⟨this.1,this.2.1⟩ (LU this.2.2.2)
theorem Ad(a b:Int):av 9 [a,b]=if a=2/\b≠1 then b else if b=2/\a≠1 then a else 0:=rfl
theorem Ae(a b:Int):av 10 [a,b]=if b=2/\a≠1 then a else if a=b/\a≠1 then 2 else 0:=rfl
theorem sI{op:Int}(a b:Int)(h:op=7\/op=8\/op=19\/op=20):av op [a,b]=if a=b/\a≠1 then a else 0:=by
 rcases h with rfl|rfl|rfl|rfl<;>rfl
theorem sH{op:Int}(a b:Int)(h:11<=op/\op<=16):av op [a,b]=if a=b/\a≠1 then 1 else 0:=by
 obtain rfl|rfl|rfl|rfl|rfl|rfl:op=11\/op=12\/op=13\/op=14\/op=15\/op=16:=by omega
 all_goals rfl
theorem QU{op:Int}{x y:Val}(h:x.ok=true)(g:y.ok=true)(h4:7<=op)(h6:op<=20)(h17:op≠17)(h18:op≠18)(hr:av op [x.dim,y.dim]≠0):okR (av op [x.dim,y.dim]) (op2 op x y):=by
 by_cases c:op=9
 ·subst c;show okR _ (eT (av 9 [x.dim,y.dim]) (lL x.n x.d y.n y.d))
  have hx:x.dim≠1/\y.dim≠1/\(av 9 [x.dim,y.dim]=x.dim\/av 9 [x.dim,y.dim]=y.dim):=by
   rw [Ad]at hr ⊢;exact RD
  have h1:=Val.ok_num h hx.1;have h2:=Val.ok_num g hx.2.1;exact kW ze (OD h1.2.2.2 h2.2.2.2)
 ·by_cases c':op=10
  ·subst c';show okR _ (eT (av 10 [x.dim,y.dim]) (lM x.n x.d y.n y.d))
   have hx:x.dim≠1/\y.dim≠1/\(av 10 [x.dim,y.dim]=x.dim\/av 10 [x.dim,y.dim]=2):=by
    rw [Ae]at hr ⊢;exact RD
   have h1:=Val.ok_num h hx.1;have h2:=Val.ok_num g hx.2.1;exact kW ze (Pv h1.2.2.2 h2.2.2.2)
  ·have hx:x.dim=y.dim/\x.dim≠1:=by
    by_cases c3:11<=op/\op<=16
    ·rw [sH _ _ c3]at hr
     split at hr<;>rename_i c1
     ·exact c1
     ·exact absurd rfl hr
    ·rw [sI _ _ ze]at hr
     split at hr<;>rename_i c1
     ·exact c1
     ·exact absurd rfl hr
   have h1:=Val.ok_num h hx.2;have h2:=Val.ok_num g ze;by_cases c3:11<=op/\op<=16
   ·rw [sH _ _ c3,if_pos hx];unfold op2;rw [if_neg ze,if_neg ze,if_neg ze,if_neg ze,if_neg ze,if_neg ze];exact wG _
   ·rw [sI _ _ ze,if_pos hx];obtain rfl|rfl|rfl|rfl:op=7\/op=8\/op=19\/op=20:=by omega
    ·exact kW ze (Gw h1.2.2.2 h2.2.2.2)
    ·exact kW ze (ND h1.2.2.2 h2.2.2.2)
    ·show okR _ (if iy x.n x.d y.n y.d<=0 then .num x.dim x.n x.d else .num x.dim y.n y.d,0);exact Rv
    ·show okR _ (if 0<=iy x.n x.d y.n y.d then .num x.dim x.n x.d else .num x.dim y.n y.d,0);exact Rv
theorem okR.bad{m:Int}{r:Val × Int}(h:okR m r)(hr:r.2≠0):r.1= .zero/\(r.2=2\/r.2=3):=by
 rcases h with h|h
 ·exact absurd h.1 hr
 ·exact h
theorem okR.good{m:Int}{r:Val × Int}(h:okR m r)(hr:r.2=0):r.1.ok=true/\r.1.dim=m:=by
 rcases h with h|h
 ·exact h.2
 ·omega
theorem Ox(v:Vw){op n d m:Int}{nm:Val × Int}{ds:List Int}{rs:List (Val × Int)}(h4:4<=op)(h21:op<=21)(hl:(ds.length:Int)=aU op)
 (hr:∀i,i<ds.length->okR (ds.getD i 0) (rs.getD i (.zero,0))) (hres:av op ds≠0):okR (av op ds) (eG v op n d m nm rs):=by
 have hn:0<ds.length:=by unfold aU at hl;(repeat' split at hl)<;>omega
 have r0:=hr 0 hn;unfold eG;rw [if_neg ze,if_neg ze,if_neg ze];by_cases e0:(rs.getD 0 (Val.zero,0)).2≠0
 ·rw [if_pos e0];exact .inr ⟨rfl,(r0.bad e0).2⟩
 rw [if_neg e0];have g0:=r0.good ze;by_cases h6:op<=6
 ·have hl1:ds.length=1:=by unfold aU at hl;rw [if_neg ze,if_pos ze]at hl;omega
  obtain⟨a,rfl⟩:∃a,ds= [a]:=length_eq_one_iff.1 hl1;rw [if_neg ze,if_neg ze,if_neg ze,if_pos h6];have ha:(rs.getD 0 (Val.zero,0)).1.dim=a:=g0.2;rw [<-ha]at hres ⊢;exact QW g0.1 h4 h6 hres
 by_cases h20:op<=20
 ·have hl1:ds.length=2:=by unfold aU at hl;rw [if_neg ze,if_neg ze,if_pos ze]at hl;omega
  obtain⟨a,b,rfl⟩:∃a b,ds= [a,b]:=by
   match ds,hl1 with
   | [a,b],_=>exact⟨a,b,rfl⟩
  have r1:=hr 1 zg;have ha:(rs.getD 0 (Val.zero,0)).1.dim=a:=g0.2;have hb:okR b (rs.getD 1 (Val.zero,0)):=r1;by_cases h17:op=17
  ·subst h17
   have hab:a=1/\b=1:=by
    have e:av 17 [a,b]=if a=1/\b=1 then 1 else 0:=rfl
    rw [e]at hres
    split at hres<;>rename_i c1
    ·exact c1
    ·exact absurd rfl hres
   obtain⟨rfl,rfl⟩:=hab;rw [if_pos rfl]
   split
   ·exact hb
   ·exact r0
  by_cases h18:op=18
  ·subst h18
   have hab:a=1/\b=1:=by
    have e:av 18 [a,b]=if a=1/\b=1 then 1 else 0:=rfl
    rw [e]at hres
    split at hres<;>rename_i c1
    ·exact c1
    ·exact absurd rfl hres
   obtain⟨rfl,rfl⟩:=hab;rw [if_neg ze,if_pos rfl]
   split
   ·exact r0
   ·exact hb
  rw [if_neg h17,if_neg h18,if_neg ze,if_neg h6];by_cases e1:(rs.getD 1 (Val.zero,0)).2≠0
  ·rw [if_pos e1];exact .inr ⟨rfl,(hb.bad e1).2⟩
  rw [if_neg e1];have g1:=hb.good ze;rw [<-ha,<-g1.2]at hres ⊢;exact QU g0.1 g1.1 ze h20 h17 h18 hres
 ·obtain rfl:op=21:=by omega
  have hl1:ds.length=3:=by simp [aU]at hl;omega
  obtain⟨a,b,c,rfl⟩:∃a b c,ds= [a,b,c]:=by
   match ds,hl1 with
   | [a,b,c],_=>exact⟨a,b,c,rfl⟩
  have hb:okR b (rs.getD 1 (Val.zero,0)):=hr 1 zg;have hc:okR c (rs.getD 2 (Val.zero,0)):=hr 2 zg;have e:av 21 [a,b,c]=if a=1/\b=c then b else 0:=rfl
  rw [e]at hres ⊢
  split at hres<;>rename_i c1
  ·obtain⟨rfl,rfl⟩:=c1;rw [if_pos (⟨rfl,rfl⟩:(1:Int)=1/\b=b),if_neg ze,if_neg ze,if_pos rfl]
   split
   ·exact hb
   ·exact hc
  ·exact absurd rfl hres
theorem Vw.ok_bd{v:Vw}(h:v.ok=true):(0<=v.age/\v.age<=199/\1900<=v.year/\v.year<=2099/\0<=v.children/\v.children<=99)/\
 (0<=v.insured/\v.insured<=73049/\0<=v.worked/\v.worked<=73049/\0<=v.voluntary/\v.voluntary<=73049/\0<=v.service/\v.service<=73049/\0<=v.equated/\v.equated<=73049/\0<=v.raising/\v.raising<=73049/\0<=v.resident/\v.resident<=73049)/\
 ay v.bn v.bd=true/\(0<=v.bn/\v.bn<=1000000000000*v.bd)/\bD v.years=true:=by
 unfold Vw.ok at h;obtain⟨h,e⟩:=Bool.and_eq_true_iff.1 h;obtain⟨h,cd⟩:=Bool.and_eq_true_iff.1 h;obtain⟨a,b⟩:=Bool.and_eq_true_iff.1 h;obtain⟨c,d⟩:=Bool.and_eq_true_iff.1 cd;have k:∀z,ed z=true->0<=z/\z<=73049:=fun z hz=>of_decide_eq_true hz;repeat rw [Bool.and_eq_true]at b
 obtain⟨⟨⟨⟨⟨⟨b1,b2⟩,b3⟩,b4⟩,b5⟩,b6⟩,b7⟩:=b;have b1:=k _ b1;have b2:=k _ b2;have b3:=k _ b3;have b4:=k _ b4;have b5:=k _ b5;have b6:=k _ b6;have b7:=k _ b7;exact⟨of_decide_eq_true a,⟨b1.1,b1.2,b2.1,b2.2,b3.1,b3.2,b4.1,b4.2,b5.1,b5.2,b6.1,b6.2,b7.1,b7.2⟩,c,of_decide_eq_true d,e⟩
theorem Lm{c:Prop}[Decidable c]{a b:Int × Int}(ha:ay a.1 a.2=true)(hb:ay b.1 b.2=true):ay (if c then a else b).1 (if c then a else b).2=true:=by
 by_cases h:c
 ·rw [if_pos h];exact ha
 ·rw [if_neg h];exact hb
theorem Vw.numF_ok{v:Vw}(h:v.ok=true)(s:List UInt8):ay (v.numF s).1 (v.numF s).2=true:=by
 obtain⟨a,b,c,-,-⟩:=Vw.ok_bd h;unfold Vw.numF;refine Lm c ?_;repeat refine Lm (lV (by show _<=(_:Int);omega) (by show(_:Int)<=_;omega)) ?_
 exact lV ze ze
theorem F6(s:List UInt8):bQ s=0\/(2<=bQ s/\bQ s<=4):=by
 unfold bQ
 (repeat' split)<;>simp
theorem BU{v:Vw}{s:ByteArray}{x:Val}(h:dF v s=some x):x.ok=true/\x.dim=bQ s.toList/\bQ s.toList≠0:=by
 unfold dF at h
 split at h<;>rename_i hc
 ·cases h
 ·simp only [not_or,Bool.not_eq_false]at hc;cases h;have:=F6 s.toList;exact⟨Val.num_ok ze (Vw.numF_ok hc.2 _),rfl,hc.1⟩
theorem BV{v:Vw}(hv:v.ok=true){s:ByteArray}(h:dF v s=none):bQ s.toList=0:=by
 unfold dF at h
 split at h<;>rename_i hc
 ·rcases hc with hc|hc
  ·exact hc
  ·rw [hv]at hc;cases hc
 ·cases h
theorem EE(env:List (ByteArray × Val))(s:ByteArray):dK (aS env) s=(dK env s).map Val.dim:=by
 unfold dK aS;rw [<-map_reverse,find?_map];simp only [Option.map_map];rfl
theorem IQ{env:List (ByteArray × Val)}{s:ByteArray}{x:Val}(h:dK env s=some x):∃p∈env,p.2=x:=by
 exact Rz
theorem FZ{v:Vw}(hv:v.ok=true){env:List (ByteArray × Val)}(hE:∀p∈env,p.2.ok=true){s:ByteArray}(h:(eu (aS env) s).2=0):okR (eu (aS env) s).1 (jU v env s):=by
 unfold eu at h ⊢;unfold jU
 cases hi:dF v s with
 |some x=>
  obtain⟨h1,h2,h3⟩:=BU hi;rw [if_pos h3];exact .inl ⟨rfl,h1,h2⟩
 |none=>
  have h0:=BV hv hi;rw [if_neg yG,EE]at h ⊢
  cases hx:dK env s with
  |some x=>
   obtain⟨p,hp,rfl⟩:=IQ hx;exact .inl ⟨rfl,hE p hp,rfl⟩
  |none=>rw [hx]at h;simp at h
theorem P5{n d:Int}(h:d≠0):okF (mkN n d,mkD n d,mkE n d):=by
 unfold mkN mkD mkE;rw [if_neg h,if_neg h,if_neg h];rcases uD n.natAbs d.natAbs with e|e
 ·exact .inl ⟨e,Le _ ze e⟩
 ·have h3:=F5 (decide (n<0)!=decide (d<0)) (show kJ n.natAbs d.natAbs≠0 by omega);exact .inr ⟨h3.1,h3.2,.inl e⟩
theorem PN{l:List Int}{n:Int}(h1:1<=n)(h2:n<=45)(h:bD l=true):okF (gQ l n):=by
 unfold gQ;rw [if_neg (by simp [h];omega)];exact P5 ze
theorem CZ{n d m:Int}(h:dG n d m=true):ay n d=true/\2<=m/\m<=4:=by
 simp only [dG,Bool.and_eq_true,decide_eq_true_eq]at h;exact⟨h.1.1.1.1.1,h.1.1.2,h.1.2⟩
theorem EI(env:List (ByteArray × Int))(l:List Ex)(h:(aW env l).2=0):(aW env l).1.length=l.length:=by
 induction l with
 |nil=>simp [aW]
 |cons e r ih=>
  rw [aW]at h ⊢
  split at h<;>rename_i c1
  ·exact absurd h c1
  ·split at h<;>rename_i c2
   ·exact absurd h c2
   ·rw [if_neg c1,if_neg c2];simp [ih ze]
mutual
theorem lW{v:Vw}(hv:v.ok=true){env:List (ByteArray × Val)}(hE:∀p∈env,p.2.ok=true):∀e:Ex,aN e=true->(aD (aS env) e).2=0->okR (aD (aS env) e).1 (aj v env e)
 | .mk op n d m s l=>by
   intro hf hi;rw [aN,Bool.and_eq_true,decide_eq_true_eq]at hf;rw [aD]at hi ⊢;rw [aj];obtain⟨ha,hf⟩:=hf;unfold fw at hi ⊢;by_cases c1:op=1
   ·subst c1;rw [if_pos rfl]at hf;simp only [Bool.and_eq_true]at hf;have:=CZ hf.1;exact .inl ⟨rfl,Val.num_ok this.2 this.1,rfl⟩
   rw [if_neg c1]at hi hf ⊢;by_cases c2:op=2
   ·subst c2;exact FZ hv hE hi
   rw [if_neg c2]at hf;by_cases c3:op=3
   ·subst c3;rw [if_pos rfl]at hf;simp only [Bool.and_eq_true,decide_eq_true_eq]at hf;show okR 4 (eT 4 (gQ v.years n));exact kW ze (PN hf.1.2 hf.2 (Vw.ok_bd hv).2.2.2.2)
   rw [if_neg c3]at hf;rw [if_neg c3,if_neg c2]at hi ⊢;simp only [Bool.and_eq_true]at hf
   split at hi<;>rename_i c4
   ·exact absurd hi c4
   rw [if_neg c4]
   split at hi<;>rename_i c5
   ·simp at hi
   rw [if_neg c5];have hlen:=EI (aS env) l ze;have hop:4<=op/\op<=21:=by unfold aU at ha;(repeat' split at ha)<;>omega
   exact Ox v hop.1 hop.2 (by rw [hlen];exact ha) (fun i hi=>vY hv hE l hf.1 ze i ze) c5
theorem vY{v:Vw}(hv:v.ok=true){env:List (ByteArray × Val)}(hE:∀p∈env,p.2.ok=true):∀l:List Ex,aX l=true->(aW (aS env) l).2=0->
 ∀i,i<l.length->okR ((aW (aS env) l).1.getD i 0) ((gB v env l).getD i (.zero,0))
 | []=>by intro _ _ i hi;simp at hi
 |e::r=>by
  intro hf h i hi;rw [aX,Bool.and_eq_true]at hf;rw [aW]at h ⊢;rw [gB]
  split at h<;>rename_i c1
  ·exact absurd h c1
  split at h<;>rename_i c2
  ·exact absurd h c2
  rw [if_neg c1,if_neg c2]
  cases i with
  |zero=>exact lW hv hE e hf.1 ze
  |succ i=>exact vY hv hE r hf.2 ze i yo
end
def gm(env:List (ByteArray × Int)):Bool:=env.all fun p=>decide (1<=p.2/\p.2<=4)
def aR(env:List (ByteArray × Int))(e:Ex):Int × Int:=if cB e=true/\gm env=true then aD env e else(0,1)
mutual
def lZ:Ex->Bool
 | .mk o _ _ _ _ l=>!(o==1)&&sJ l
def sJ:List Ex->Bool
 | []=>true
 |e::r=>lZ e&&sJ r
end
theorem ug:∀{l:List Ex},sJ l=true->∀k,k<l.length->lZ (l.getD k default)=true
 | [],_,_,hk=>absurd hk (Nat.not_lt_zero _)
 |e::r,h,k,hk=>by
  rw [sJ,Bool.and_eq_true]at h
  cases k with
  |zero=>exact h.1
  |succ k=>exact ug h.2 k yp
theorem Ih{e:Ex}(h:lZ e=true)(k:Nat)(hk:k<e.args.length):lZ (e.arg k)=true:=by
 obtain⟨o,n,d,m,s,l⟩:=e;rw [lZ,Bool.and_eq_true]at h;exact ug h.2 k hk
theorem K8{e:Ex}(h:lZ e=true):e.op≠1:=by
 obtain⟨o,n,d,m,s,l⟩:=e;rw [lZ,Bool.and_eq_true]at h;intro h1;have h2:o=1:=h1;have h3:=h.1;rw [h2]at h3;exact absurd h3 zo
open Go.RowKit
abbrev bdN(l:List (ByteArray × Int))(i:Nat):ByteArray:=(l.getD i (ByteArray.empty,0)).1
abbrev bdD(l:List (ByteArray × Int))(i:Nat):Int:=(l.getD i (ByteArray.empty,0)).2
def aT(w:World)(v:Value)(l:List (ByteArray × Int)):Prop:=
 l.length<=1000/\∃a cap,v= .slice a l.length cap/\(l.length=0\/∃b off,a=some ⟨b,off,none⟩/\b<w.heap.size/\∀i,i<l.length->w.cell? ⟨b,off+i*2,none⟩=some (.string (bdN l i))/\w.cell? ⟨b,off+i*2+1,none⟩=some (.int .i64 (bdD l i)))
theorem aT.below{w w':World}{v:Value}{l:List (ByteArray × Int)}{n:Nat}(h:aT w v l)(hn:w.heap.size<=n)(hb:Below n w w'):aT w' v l:=by
 obtain⟨h0,a,cap,hv,h1⟩:=h;refine⟨h0,a,cap,hv,h1.imp id ?_⟩;rintro⟨b,off,ha,hlt,hc⟩;refine⟨b,off,ha,Nat.lt_of_lt_of_le hlt hb.size,fun i hi=>?_⟩;rw [hb.cell (p:=⟨b,off+i*2,none⟩) (Nat.lt_of_lt_of_le hlt hn),hb.cell (p:=⟨b,off+i*2+1,none⟩) (Nat.lt_of_lt_of_le hlt hn)];exact hc i hi
theorem aT.grows{w w':World}{v:Value}{l:List (ByteArray × Int)}(h:aT w v l)(hg:w.Grows w'):aT w' v l:=h.below (Nat.le_refl _) hg.below
theorem aT.grow{w:World}{v:Value}{l:List (ByteArray × Int)}(h:aT w v l)(bs:Array Obj)(d:Nat):aT (w.grow bs d) v l:=h.grows ⟨bs,d,rfl⟩
theorem aT.alloc{w:World}{v:Value}{l:List (ByteArray × Int)}(h:aT w v l)(o:Obj):aT (w.alloc o) v l:=h.below (Nat.le_refl _) ((Below.refl _ _).alloc (Nat.le_refl _) _)
def Qe(g:FuncId)(lb:Array Value)(l:List (ByteArray × Int))(p:Nat->Bool)(w:World):Prop:=
 ∀k,k<l.length->∀w',w.Grows w'->Calls prog g (#[.agg #[.string (bdN l k),.int .i64 (bdD l k)]]++lb) w' fun r w''=>r= .returned (.bool (p k))/\w'.Grows w''
theorem LD(g:FuncId)(lb:Array Value)(eg:∀args w,(callFunc g args).run prog w= .ok (.enter g args) w)(l:List (ByteArray × Int))(v:Value)(p:Nat->Bool)(w:World)(h:aT w v l)(hp:Hid (Qe g lb l p w)) :
 Calls prog 141 #[v,.func (.func g) #[] lb] w fun r w'=>(∃z,r= .returned (.int .i64 z)/\Dw l.length p z)/\w.Grows w':=by
 obtain⟨hlen,a,cap,rfl,hc⟩:=h;have Hc:=yq hc;clear hc
 go_enter func141,ntmps141
 go_wp2_with fail
 go_loopw [5,8] (fun _ v8 wr=>∃k:Nat,k<=l.length/\v8= .int .i64 k/\Hid (∀j,j<k->p j=false)/\w.Grows wr) (fun _ v8 _=>l.length-(intOf v8).toNat)
 case atStart=>exact⟨0,by omega,rfl,yq (fun j hj=>by omega),.refl _⟩
 case round=>
  obtain⟨k,hk,rfl,hno,hgr⟩:=hrel;have HG:=yq hgr;by_cases hlt2:k<l.length
  ·rcases Hc.out with h0|⟨b,off,rfl,hbw,hx⟩
   ·omega
   ·obtain⟨x0,x1⟩:=hx k hlt2;have y0:wr.cell? ⟨b,off+k*2,none⟩=some (.string (bdN l k)):=by rw [hgr.below.cell (p:=⟨b,off+k*2,none⟩) hbw];exact x0
    have y1:wr.cell? ⟨b,off+k*2+1,none⟩=some (.int .i64 (bdD l k)):=by rw [hgr.below.cell (p:=⟨b,off+k*2+1,none⟩) hbw];exact x1
    clear hx x0 x1;have d1:(k:Int)<(l.length:Int):=by omega
    have hcall:=hp.out k hlt2 _ hgr;generalize bdN l k=nk at *;generalize bdD l k=dk at *;have HLT:=yq hlt2;clear hgr
    cases hq:p k with
    |true=>
     rw [hq]at hcall;have HQ:=yq hq;clear hq;have HCL:=yq hcall;clear hcall
     go_wp2_with (go_at_fn g;refine HCL.out.mono ?_;rintro e' w' ⟨rfl,hg2⟩;have HG2:=yq hg2;clear hg2)
     go_returns
     exact⟨⟨_,rfl,.inr ⟨k,HLT.out,rfl,HQ.out⟩⟩,World.Grows.trans HG.out HG2.out⟩
    |false=>
     rw [hq]at hcall;have HQ:=yq hq;clear hq;have HCL:=yq hcall;clear hcall
     go_wp2_with (go_at_fn g;refine HCL.out.mono ?_;rintro e' w' ⟨rfl,hg2⟩;have HG2:=yq hg2;clear hg2)
     go_roundw
     case rel=>exact⟨k+1,by omega,by go_num,yq (fun j hj=>by
      by_cases ej:j=k
      ·subst ej;exact HQ.out
      ·exact hno.out j ze),World.Grows.trans HG.out HG2.out⟩
     case measure=>simp [intOf];omega
  ·obtain rfl:k=l.length:=by omega
   clear hgr
   go_wp2_with fail
   go_returns
   exact⟨⟨_,rfl,.inl ⟨rfl,hno.out⟩⟩,HG.out⟩
theorem nM(g:FuncId)(lb:Array Value)(eg:∀args w,(callFunc g args).run prog w= .ok (.enter g args) w)(l:List (ByteArray × Int))(v:Value)(p:Nat->Bool)(w:World)(h:aT w v l)(hp:Hid (Qe g lb l p w)) :
 Calls prog 116 #[v,.func (.func g) #[] lb] w fun r w'=>r= .returned (.bool ((List.range l.length).any p))/\w.Grows w':=by
 have HI:=yq (LD g lb eg l v p w h hp);obtain⟨-,a,cap,rfl,-⟩:=h;clear hp;generalize hX:(List.range l.length).any p=X;have HX:=yq hX;clear hX
 go_enter func116,ntmps116
 go_wp2_with (go_at_call 141;refine HI.out.mono ?_;rintro e' w' ⟨⟨z,rfl,hz⟩,bs2,d2,rfl⟩;have HZ:=yq hz.any;clear hz)
 go_returns
 exact⟨au zV,.of_below af⟩
theorem JE:∀args w,(callFunc 142 args).run prog w= .ok (.enter 142 args) w:=enters_of func142 zf rfl
theorem Mx(n:ByteArray)(d:Int)(w:World):Calls prog 142 #[.agg #[.string n,.int .i64 d]] w fun r w'=>r= .returned (.bool (!decide (1<=d/\d<=4)))/\w.Grows w':=by
 by_cases h1:d<1
 ·go_enter func142,ntmps142
  exact GJ
 ·by_cases h2:d > 4
  ·go_enter func142,ntmps142
   exact GJ
  ·go_enter func142,ntmps142
   exact GJ
open Go.RowKit Go.Shelf
attribute [local go_sem] Oper.semAt_some
def iR(n k:Nat):List (Fin n):=(finRange n).reverse.take k
theorem gH(n k:Nat)(i:Fin n)(hk:k<n)(hi:n-1-k=i.1):iR n (k+1)=iR n k++[i]:=by
 have hl:k<(finRange n).reverse.length:=by simpa using hk
 unfold iR;rw [take_succ_eq_append_getElem hl]
 congr 2
 apply Fin.ext;rw [getElem_reverse];simp;omega
theorem pM(n k:Nat)(hk:k<=n):(iR n k).length=k:=by simp [iR,hk]
theorem jm{n k:Nat}(i:Fin n)(hk:n<=i.1+k):i∈iR n k:=by
 unfold iR;have hl:n-1-i.1<(finRange n).reverse.length:=by simp;omega
 have he:(finRange n).reverse[n-1-i.1]=i:=by
  apply Fin.ext;rw [getElem_reverse];simp;omega
 rw [mem_take_iff_getElem];exact⟨n-1-i.1,by simp;omega,he⟩
abbrev oI:=List (ByteArray × Int)
def oI.el(x:oI)(i:Nat):Value:=.agg #[.string (bdN x i),.int .i64 (bdD x i)]
def oI.Lies(x:oI)(n₀:Nat)(W:World)(v:Value)(n:Nat):Prop:=
 n<=1000/\∃a cap,v= .slice a n cap/\(n=0\/∃b off,a=some ⟨b,off,none⟩/\b<n₀/\∀i,i<n->W.cell? ⟨b,off+i*2,none⟩=some (.string (bdN x i))/\W.cell? ⟨b,off+i*2+1,none⟩=some (.int .i64 (bdD x i)))
theorem oI.Lies.below{x:oI}{n₀ n:Nat}{W W':World}{v:Value}(h:oI.Lies x n₀ W v n)(hb:Below n₀ W W'):oI.Lies x n₀ W' v n:=by
 obtain⟨h0,a,cap,hv,h1⟩:=h;refine⟨h0,a,cap,hv,h1.imp id ?_⟩;rintro⟨b,off,ha,hlt,hc⟩;refine⟨b,off,ha,hlt,fun i hi=>?_⟩;rw [hb.cell (p:=⟨b,off+i*2,none⟩) hlt,hb.cell (p:=⟨b,off+i*2+1,none⟩) hlt];exact hc i hi
theorem aT.lies{W:World}{v:Value}{l:List (ByteArray × Int)}(h:aT W v l):oI.Lies l W.heap.size W v l.length:=h
theorem JG(F:Fence)(n:Nat)(hf:F.fn 183)(hro:F.round=none)(hn:1<=n)(l Bs n₀ len:Nat)(x:oI)(v:Value)(J Jx:List (Fin len)->World->Prop)
 (hY:∀pre (i:Fin len) W,J pre W->pre.length<len->YieldAt F (n-1) prog l #[.int .i64 ((i.1:Nat):Int),x.el i.1] W fun e W'=>
  (e= .returned (.bool true)/\J (pre++[i]) W'/\Below n₀ W W')\/(e= .returned (.bool false)/\Jx (pre++[i]) W'))
 (W:World) (hBs:W.cell? ⟨Bs,0,none⟩=some v) (hBl:Bs<n₀) (hL:x.Lies n₀ W v len) (h0:J [] W) :
 CallsIn F n prog 183 #[.func (.yield l) #[] #[],.pointer (some ⟨Bs,0,none⟩)] W fun e W'=>(∃v,e= .returned v)/\
  ((∃ys,ys=iR len len/\J ys W')\/(∃pre,(∃k,k<len/\pre=iR len (k+1))/\Jx pre W')):=by
 have HL:=yq hL;obtain⟨h1000,a,cap,rfl,-⟩:=hL;refine callsIn_of_wp func183 rfl hf ?_ hro;simp only [ntmps183,size_toArray,length_cons,length_nil,Nat.reduceAdd,Nat.reduceSub,Array.replicate_succ,Array.replicate_zero,push_toArray,append_toArray,nil_append,cons_append]
 gi_wp2
 gi_loopw [3] (fun vi wr=>∃k:Nat,k<=len/\vi= .int .i64 ((len:Int)-1-k)/\J (iR len k) wr/\Below n₀ W wr) (fun vi _=>(intOf vi+1).toNat)
 case atStart=>exact⟨0,Nat.zero_le _,by simp,h0,Below.refl _ _⟩
 case round=>
  obtain⟨k,hk,rfl,hJs,hnx⟩:=hrel;by_cases hlt:k<len
  ·have hcs:=(hnx.cell (p:=⟨Bs,0,none⟩) hBl).trans hBs;have hLr:=HL.out.below hnx;obtain⟨-,a',cap',hv,hx⟩:=hLr;simp only [Value.slice.injEq,true_and]at hv;obtain⟨rfl,rfl⟩:=hv;rcases hx with hx|⟨b,off,rfl,hb,hx⟩
   ·omega
   obtain⟨i,hi⟩:∃i:Nat,(len:Int)-1-k=i:=⟨len-1-k,by omega⟩;have hii:i<len:=by omega
   have hik:len-1-k=i:=by omega
   obtain⟨q0,q1⟩:=hx i hii;obtain⟨fn,tmps,assign,body,hy,hR⟩:=hY _ ⟨i,hii⟩ wr hJs (by rw [pM _ _ hk];exact hlt);simp only at hy;unfold oI.el at hy;unfold bdN at hy q0;unfold bdD at hy q1;generalize(x.getD i (ByteArray.empty,0)).1=z0 at *;generalize(x.getD i (ByteArray.empty,0)).2=z1 at *;have d1:(i:Int)<(len:Int):=by omega
   have d0:(0:Int)<=(i:Int):=by omega
   have hlen1:(len:Int)<=1000:=by omega
   rw [hi];have HI:=yq hi;have HIK:=yq hik;clear hx hi hik hBs h0
   gi_wp2
   refine hR.mono ?_;rintro e W3 (⟨rfl,hJ3,hk3⟩|⟨rfl,hJx3⟩)
   ·gi_wp2
    go_roundw
    case rel=>exact⟨k+1,by omega,by have:=HI.out;first|(congr 1;omega)|(simp;omega),by rw [gH _ _ ⟨i,hii⟩ hlt HIK.out];exact hJ3,hnx.trans hk3⟩
    case measure=>first|(simp [intOf];done)|(simp [intOf];omega)
   ·gi_wp2
    refine bodyPost_ret (results_none rfl _ _ _) rfl ?_;exact⟨⟨_,rfl⟩,.inr ⟨_,⟨k,hlt,by rw [gH _ _ ⟨i,hii⟩ hlt HIK.out]⟩,hJx3⟩⟩
  ·obtain rfl:k=len:=by omega
   have hz:(k:Int)-1-k= -1:=by omega
   rw [hz];clear hz
   gi_wp2
   go_end0
   exact⟨⟨_,rfl⟩,.inl ⟨_,rfl,hJs⟩⟩
theorem MB(F:Fence)(n:Nat)(hf:F.fn 169)(hro:F.round=none)(a:Option Addr)(len cap:Nat)(w:World) :
 CallsIn F n prog 169 #[.slice a len cap] w fun e w'=>e= .returned (.func (.func 183) #[] #[.pointer (some ⟨w.heap.size,0,none⟩)])/\w'=w.alloc (.cells #[.slice a len cap] 65):=by
 refine callsIn_of_wp func169 rfl hf ?_ hro;simp only [ntmps169,size_toArray,length_cons,length_nil,Nat.reduceAdd,Nat.reduceSub,Array.replicate_succ,Array.replicate_zero,push_toArray,append_toArray,nil_append,cons_append]
 gi_wp2
 go_ret
 exact⟨rfl,rfl⟩
theorem Dj(F:Fence)(n:Nat)(hf:F.fn 183)(hro:F.round=none)(hn:1<=n)(Bs n₀:Nat)(v:Value)(x:oI)(len:Nat)(w:World)(hBs:Bs<n₀)(hn₀:n₀<=w.heap.size)
 (hc:w.cell? ⟨Bs,0,none⟩=some v) (hL:x.Lies n₀ w v len) :
 SeqStopsK F n prog 183 #[.pointer (some ⟨Bs,0,none⟩)] (fun i:Fin len=>#[Value.int .i64 ((i.1:Nat):Int),x.el i.1]) (Below n₀) (fun ys=>ys=iR len len)
  (fun pre=>∃k,k<len/\pre=iR len (k+1)) len w:=fun l J Jx W hW _ _ hY h0=>
 JG F n hf hro hn l Bs n₀ len x v J Jx hY W ((hW.cell (p:=⟨Bs,0,none⟩) yT).trans hc) hBs (hL.below (hW.mono hn₀)) h0
mutual
def bN(s:ByteArray):Ex->Bool
 | .mk op _ _ _ nm l=>(decide (op=2)&&decide (nm=s)) || dM s l
def dM(s:ByteArray):List Ex->Bool
 | []=>false
 |e::r=>bN s e || dM s r
end
theorem BK(s:ByteArray)(e:Ex):bN s e=((decide (e.op=2)&&decide (e.name=s)) || dM s e.args):=by cases e;rw [bN];rfl
theorem BJ(s:ByteArray)(l:List Ex)(k:Nat)(h:k<l.length):dM s (l.take (k+1))=(dM s (l.take k) || bN s (l.getD k default)):=by
 induction l generalizing k with
 |nil=>simp at h
 |cons e r ih=>
  cases k with
  |zero=>simp [dM]
  |succ k=>simp only [take_succ_cons,dM,getD_cons_succ];rw [ih k zF,Bool.or_assoc]
theorem En(s:ByteArray)(l:List Ex)(k:Nat)(h:k<l.length)(hf:bN s (l.getD k default)=true):dM s l=true:=by
 induction l generalizing k with
 |nil=>simp at h
 |cons e r ih=>
  cases k with
  |zero=>simp only [getD_cons_zero]at hf;simp [dM,hf]
  |succ k=>simp only [getD_cons_succ]at hf;simp [dM,ih k zF hf]
def jA(e:Ex)(ls:List (ByteArray × Ex))(i:Nat)(u:List Nat):Bool:=
 bN (ls.getD i default).1 e || u.any fun k=>bN (ls.getD i default).1 (ls.getD k default).2
def bJ(e:Ex)(ls:List (ByteArray × Ex)):Nat->List Nat
 |0=>[]
 |f+1=>if jA e ls (ls.length-(f+1)) (bJ e ls f)then(ls.length-(f+1))::bJ e ls f else bJ e ls f
def az(e:Ex)(ls:List (ByteArray × Ex)):List Nat:=bJ e ls ls.length
theorem fM{e:Ex}{ls:List (ByteArray × Ex)}:∀(f:Nat),f<=ls.length->∀i∈bJ e ls f,ls.length-f<=i/\i<ls.length
 |0,_,i,h=>by simp [bJ]at h
 |f+1,hf,i,h=>by
  rw [bJ]at h
  split at h
  ·rcases mem_cons.1 h with rfl|h
   ·omega
   ·have:=fM f ze i h;omega
  ·have:=fM f ze i h;omega
theorem qh{e:Ex}{ls:List (ByteArray × Ex)}:∀(f:Nat),f<=ls.length->(bJ e ls f).Pairwise (· < ·)
 |0,_=>by simp [bJ]
 |f+1,hf=>by
  rw [bJ]
  split
  ·exact pairwise_cons.2 ⟨fun i hi=>by have:=fM f ze i hi;omega,qh f ze⟩
  ·exact qh f ze
theorem jg{e:Ex}{ls:List (ByteArray × Ex)}:∀(f:Nat),(bJ e ls f).length<=f
 |0=>by simp [bJ]
 |f+1=>by
  rw [bJ];have:=jg (e:=e) (ls:=ls) f
  split<;>simp<;>omega
theorem jr{e:Ex}{ls:List (ByteArray × Ex)}(f:Nat)(hf:f+1<=ls.length):(bJ e ls (f+1)).contains (ls.length-(f+1))=jA e ls (ls.length-(f+1)) (bJ e ls f):=by
 rw [bJ]
 split<;>rename_i h
 ·simp [h]
 ·rw [Bool.eq_false_iff.2 h];rw [Bool.eq_false_iff];intro hc;have:=fM f ze _ (contains_iff_mem.1 hc);omega
theorem kF{e:Ex}{ls:List (ByteArray × Ex)}{i:Nat}:∀(f g:Nat),f+g<=ls.length->ls.length-f<=i->i<ls.length->(i∈bJ e ls (f+g)↔i∈bJ e ls f)
 |f,0,_,_,_=>Iff.rfl
 |f,g+1,h,h1,h2=>by
  have ih:=kF (e:=e) f g ze h1 h2;show i∈bJ e ls (f+g+1)↔_;rw [bJ]
  split
  ·rw [mem_cons,ih];constructor
   ·rintro(h3|h3)
    ·omega
    ·exact h3
   ·exact .inr
  ·exact ih
open Go.RowKit Go.Shelf
attribute [local go_sem] Oper.semAt_some
abbrev lu:=List (ByteArray × Val)
abbrev stN(l:List (ByteArray × Val))(i:Nat):ByteArray:=(l.getD i (ByteArray.empty,Val.zero)).1
abbrev stV(l:List (ByteArray × Val))(i:Nat):Val:=(l.getD i (ByteArray.empty,Val.zero)).2
structure AU(W:World)(b o:Nat)(n:ByteArray)(x:Val):Prop where
 p0:W.cell? ⟨b,o,none⟩=some (.string n)
 p1:W.cell? ⟨b,o+1,none⟩=some (.int .i64 x.dim)
 p2:W.cell? ⟨b,o+2,none⟩=some (.bool x.yes)
 p3:W.cell? ⟨b,o+3,none⟩=some (.int .i64 x.n)
 p4:W.cell? ⟨b,o+4,none⟩=some (.int .i64 x.d)
theorem AU.same{W W':World}{b o:Nat}{n:ByteArray}{x:Val}(h:AU W b o n x)(hw:∀o,W'.cell? ⟨b,o,none⟩=W.cell? ⟨b,o,none⟩):AU W' b o n x:=
 ⟨by rw [hw];exact h.p0,by rw [hw];exact h.p1,by rw [hw];exact h.p2,by rw [hw];exact h.p3,by rw [hw];exact h.p4⟩
def lu.el(x:lu)(i:Nat):Value:=.agg #[.string (stN x i),.int .i64 (stV x i).dim,.bool (stV x i).yes,.int .i64 (stV x i).n,.int .i64 (stV x i).d]
def lu.Lies(x:lu)(n₀:Nat)(W:World)(v:Value)(n:Nat):Prop:=
 n<=1000/\∃a cap,v= .slice a n cap/\(n=0\/∃b off,a=some ⟨b,off,none⟩/\b<n₀/\∀i,i<n->AU W b (off+i*5) (stN x i) (stV x i))
theorem lu.Lies.below{x:lu}{n₀ n:Nat}{W W':World}{v:Value}(h:lu.Lies x n₀ W v n)(hb:Below n₀ W W'):lu.Lies x n₀ W' v n:=by
 obtain⟨h0,a,cap,hv,h1⟩:=h;refine⟨h0,a,cap,hv,h1.imp id ?_⟩;rintro⟨b,off,ha,hlt,hc⟩;exact⟨b,off,ha,hlt,fun i hi=>(hc i hi).same fun o=>hb.cell (p:=⟨b,o,none⟩) hlt⟩
theorem JF(F:Fence)(n:Nat)(hf:F.fn 145)(hro:F.round=none)(hn:1<=n)(l Bs n₀ len:Nat)(x:lu)(v:Value)(J Jx:List (Fin len)->World->Prop)
 (hY:∀pre (i:Fin len) W,J pre W->pre.length<len->YieldAt F (n-1) prog l #[.int .i64 ((i.1:Nat):Int),x.el i.1] W fun e W'=>
  (e= .returned (.bool true)/\J (pre++[i]) W'/\Below n₀ W W')\/(e= .returned (.bool false)/\Jx (pre++[i]) W'))
 (W:World) (hBs:W.cell? ⟨Bs,0,none⟩=some v) (hBl:Bs<n₀) (hL:x.Lies n₀ W v len) (h0:J [] W) :
 CallsIn F n prog 145 #[.func (.yield l) #[] #[],.pointer (some ⟨Bs,0,none⟩)] W fun e W'=>(∃v,e= .returned v)/\
  ((∃ys,ys=iR len len/\J ys W')\/(∃pre,(∃k,k<len/\pre=iR len (k+1))/\Jx pre W')):=by
 have HL:=yq hL;obtain⟨h1000,a,cap,rfl,-⟩:=hL;refine callsIn_of_wp func145 rfl hf ?_ hro;simp only [ntmps145,size_toArray,length_cons,length_nil,Nat.reduceAdd,Nat.reduceSub,Array.replicate_succ,Array.replicate_zero,push_toArray,append_toArray,nil_append,cons_append]
 gi_wp2
 gi_loopw [3] (fun vi wr=>∃k:Nat,k<=len/\vi= .int .i64 ((len:Int)-1-k)/\J (iR len k) wr/\Below n₀ W wr) (fun vi _=>(intOf vi+1).toNat)
 case atStart=>exact⟨0,Nat.zero_le _,by simp,h0,Below.refl _ _⟩
 case round=>
  obtain⟨k,hk,rfl,hJs,hnx⟩:=hrel;by_cases hlt:k<len
  ·have hcs:=(hnx.cell (p:=⟨Bs,0,none⟩) hBl).trans hBs;have hLr:=HL.out.below hnx;obtain⟨-,a',cap',hv,hx⟩:=hLr;simp only [Value.slice.injEq,true_and]at hv;obtain⟨rfl,rfl⟩:=hv;rcases hx with hx|⟨b,off,rfl,hb,hx⟩
   ·omega
   obtain⟨i,hi⟩:∃i:Nat,(len:Int)-1-k=i:=⟨len-1-k,by omega⟩;have hii:i<len:=by omega
   have hik:len-1-k=i:=by omega
   obtain⟨q0,q1,q2,q3,q4⟩:=hx i hii;obtain⟨fn,tmps,assign,body,hy,hR⟩:=hY _ ⟨i,hii⟩ wr hJs (by rw [pM _ _ hk];exact hlt);simp only at hy;unfold lu.el at hy;generalize stN x i=z0 at *;generalize stV x i=zz at *;obtain⟨z1,z2,z3,z4⟩:=zz;dsimp only at hy q1 q2 q3 q4;have d1:(i:Int)<(len:Int):=by omega
   have d0:(0:Int)<=(i:Int):=by omega
   have hlen1:(len:Int)<=1000:=by omega
   rw [hi];have HI:=yq hi;have HIK:=yq hik;clear hx hi hik hBs h0
   gi_wp2
   refine hR.mono ?_;rintro e W3 (⟨rfl,hJ3,hk3⟩|⟨rfl,hJx3⟩)
   ·gi_wp2
    go_roundw
    case rel=>exact⟨k+1,by omega,by have:=HI.out;first|(congr 1;omega)|(simp;omega),by rw [gH _ _ ⟨i,hii⟩ hlt HIK.out];exact hJ3,hnx.trans hk3⟩
    case measure=>first|(simp [intOf];done)|(simp [intOf];omega)
   ·gi_wp2
    refine bodyPost_ret (results_none rfl _ _ _) rfl ?_;exact⟨⟨_,rfl⟩,.inr ⟨_,⟨k,hlt,by rw [gH _ _ ⟨i,hii⟩ hlt HIK.out]⟩,hJx3⟩⟩
  ·obtain rfl:k=len:=by omega
   have hz:(k:Int)-1-k= -1:=by omega
   rw [hz];clear hz
   gi_wp2
   go_end0
   exact⟨⟨_,rfl⟩,.inl ⟨_,rfl,hJs⟩⟩
theorem Di(F:Fence)(n:Nat)(hf:F.fn 124)(hro:F.round=none)(a:Option Addr)(len cap:Nat)(w:World) :
 CallsIn F n prog 124 #[.slice a len cap] w fun e w'=>e= .returned (.func (.func 145) #[] #[.pointer (some ⟨w.heap.size,0,none⟩)])/\w'=w.alloc (.cells #[.slice a len cap] 44):=by
 refine callsIn_of_wp func124 rfl hf ?_ hro;simp only [ntmps124,size_toArray,length_cons,length_nil,Nat.reduceAdd,Nat.reduceSub,Array.replicate_succ,Array.replicate_zero,push_toArray,append_toArray,nil_append,cons_append]
 gi_wp2
 go_ret
 exact⟨rfl,rfl⟩
theorem rQ(F:Fence)(n:Nat)(hf:F.fn 145)(hro:F.round=none)(hn:1<=n)(Bs n₀:Nat)(v:Value)(x:lu)(len:Nat)(w:World)(hBs:Bs<n₀)(hn₀:n₀<=w.heap.size)
 (hc:w.cell? ⟨Bs,0,none⟩=some v) (hL:x.Lies n₀ w v len) :
 SeqStopsK F n prog 145 #[.pointer (some ⟨Bs,0,none⟩)] (fun i:Fin len=>#[Value.int .i64 ((i.1:Nat):Int),x.el i.1]) (Below n₀) (fun ys=>ys=iR len len)
  (fun pre=>∃k,k<len/\pre=iR len (k+1)) len w:=fun l J Jx W hW _ _ hY h0=>
 JF F n hf hro hn l Bs n₀ len x v J Jx hY W ((hW.cell (p:=⟨Bs,0,none⟩) yT).trans hc) hBs (hL.below (hW.mono hn₀)) h0
def bI(w:World)(v:Value)(l:List Int):Prop:=
 l.length<=1000/\∃a cap,v= .slice a l.length cap/\(l.length=0\/∃b off,a=some ⟨b,off,none⟩/\b<w.heap.size/\∀i,i<l.length->w.cell? ⟨b,off+i,none⟩=some (.int .i64 (l.getD i 0)))
theorem bI.below{w w':World}{v:Value}{l:List Int}{n:Nat}(h:bI w v l)(hn:w.heap.size<=n)(hb:Below n w w'):bI w' v l:=by
 obtain⟨h0,a,cap,hv,h1⟩:=h;refine⟨h0,a,cap,hv,h1.imp id ?_⟩;rintro⟨b,off,ha,hlt,hc⟩;refine⟨b,off,ha,Nat.lt_of_lt_of_le hlt hb.size,fun i hi=>?_⟩;rw [hb.cell (p:=⟨b,off+i,none⟩) (Nat.lt_of_lt_of_le hlt hn)];exact hc i hi
theorem bI.grows{w w':World}{v:Value}{l:List Int}(h:bI w v l)(hg:w.Grows w'):bI w' v l:=h.below (Nat.le_refl _) hg.below
theorem bI.grow{w:World}{v:Value}{l:List Int}(h:bI w v l)(bs:Array Obj)(d:Nat):bI (w.grow bs d) v l:=h.grows ⟨bs,d,rfl⟩
theorem bI.alloc{w:World}{v:Value}{l:List Int}(h:bI w v l)(o:Obj):bI (w.alloc o) v l:=h.below (Nat.le_refl _) ((Below.refl _ _).alloc (Nat.le_refl _) _)
theorem pY(l:List Int):(List.range l.length).any (fun k=>!decide (0<=l.getD k 0/\l.getD k 0<=1000000000000))=!l.all fun x=>decide (0<=x/\x<=1000000000000):=by
 induction l with
 |nil=>rfl
 |cons p r ih=>
  rw [length_cons,range_succ_eq_map,any_cons,any_map,all_cons,Bool.not_and,<-ih];rfl
theorem GD{l:List Int}{k:Nat}(hk:k<l.length)(hb:¬(0<=l.getD k 0/\l.getD k 0<=1000000000000)):bD l=false:=by
 unfold bD
 have:(l.all fun x=>decide (0<=x/\x<=1000000000000))=false:=by
  have h:=pY l;rw [show(List.range l.length).any (fun k=>!decide (0<=l.getD k 0/\l.getD k 0<=1000000000000))=true from any_eq_true.2 ⟨k,mem_range.2 hk,by rw [decide_eq_false hb];rfl⟩]at h;simpa using h.symm
 rw [this,Bool.and_false]
theorem DD{l:List Int}(hn:l.length<=200)(hg:∀k,k<l.length->0<=l.getD k 0/\l.getD k 0<=1000000000000):bD l=true:=by
 unfold bD;have h:=pY l;rw [show(List.range l.length).any (fun k=>!decide (0<=l.getD k 0/\l.getD k 0<=1000000000000))=false from any_eq_false.2 fun k hk=>by rw [decide_eq_true (hg k (mem_range.1 hk))];simp]at h;rw [decide_eq_true hn,Bool.true_and];simpa using h.symm
def Qc(g:FuncId)(lb:Array Value)(l:List Int)(p:Nat->Bool)(w:World):Prop:=
 ∀k,k<l.length->∀w',w.Grows w'->Calls prog g (#[.int .i64 (l.getD k 0)]++lb) w' fun r w''=>r= .returned (.bool (p k))/\w'.Grows w''
theorem LA(g:FuncId)(lb:Array Value)(eg:∀args w,(callFunc g args).run prog w= .ok (.enter g args) w)(l:List Int)(v:Value)(p:Nat->Bool)(w:World)(h:bI w v l)(hp:Hid (Qc g lb l p w)) :
 Calls prog 139 #[v,.func (.func g) #[] lb] w fun r w'=>(∃z,r= .returned (.int .i64 z)/\Dw l.length p z)/\w.Grows w':=by
 obtain⟨hlen,a,cap,rfl,hc⟩:=h;have Hc:=yq hc;clear hc
 go_enter func139,ntmps139
 go_wp2_with fail
 go_loopw [5,8] (fun _ v8 wr=>∃k:Nat,k<=l.length/\v8= .int .i64 k/\Hid (∀j,j<k->p j=false)/\w.Grows wr) (fun _ v8 _=>l.length-(intOf v8).toNat)
 case atStart=>exact⟨0,by omega,rfl,yq (fun j hj=>by omega),.refl _⟩
 case round=>
  obtain⟨k,hk,rfl,hno,hgr⟩:=hrel;have HG:=yq hgr;by_cases hlt2:k<l.length
  ·rcases Hc.out with h0|⟨b,off,rfl,hbw,hx⟩
   ·omega
   ·have y0:wr.cell? ⟨b,off+k,none⟩=some (.int .i64 (l.getD k 0)):=by rw [hgr.below.cell (p:=⟨b,off+k,none⟩) hbw];exact hx k hlt2
    clear hx;have d1:(k:Int)<(l.length:Int):=by omega
    have hcall:=hp.out k hlt2 _ hgr;generalize l.getD k 0=dk at *;have HLT:=yq hlt2;clear hgr
    cases hq:p k with
    |true=>
     rw [hq]at hcall;have HQ:=yq hq;clear hq;have HCL:=yq hcall;clear hcall
     go_wp2_with (go_at_fn g;refine HCL.out.mono ?_;rintro e' w' ⟨rfl,hg2⟩;have HG2:=yq hg2;clear hg2)
     go_returns
     exact⟨⟨_,rfl,.inr ⟨k,HLT.out,rfl,HQ.out⟩⟩,World.Grows.trans HG.out HG2.out⟩
    |false=>
     rw [hq]at hcall;have HQ:=yq hq;clear hq;have HCL:=yq hcall;clear hcall
     go_wp2_with (go_at_fn g;refine HCL.out.mono ?_;rintro e' w' ⟨rfl,hg2⟩;have HG2:=yq hg2;clear hg2)
     go_roundw
     case rel=>exact⟨k+1,by omega,by go_num,yq (fun j hj=>by
      by_cases ej:j=k
      ·subst ej;exact HQ.out
      ·exact hno.out j ze),World.Grows.trans HG.out HG2.out⟩
     case measure=>simp [intOf];omega
  ·obtain rfl:k=l.length:=by omega
   clear hgr
   go_wp2_with fail
   go_returns
   exact⟨⟨_,rfl,.inl ⟨rfl,hno.out⟩⟩,HG.out⟩
theorem vO(g:FuncId)(lb:Array Value)(eg:∀args w,(callFunc g args).run prog w= .ok (.enter g args) w)(l:List Int)(v:Value)(p:Nat->Bool)(w:World)(h:bI w v l)(hp:Hid (Qc g lb l p w)) :
 Calls prog 112 #[v,.func (.func g) #[] lb] w fun r w'=>r= .returned (.bool ((List.range l.length).any p))/\w.Grows w':=by
 have HI:=yq (LA g lb eg l v p w h hp);obtain⟨-,a,cap,rfl,-⟩:=h;clear hp;generalize hX:(List.range l.length).any p=X;have HX:=yq hX;clear hX
 go_enter func112,ntmps112
 go_wp2_with (go_at_call 139;refine HI.out.mono ?_;rintro e' w' ⟨⟨z,rfl,hz⟩,bs2,d2,rfl⟩;have HZ:=yq hz.any;clear hz)
 go_returns
 exact⟨au zV,.of_below af⟩
theorem JD:∀args w,(callFunc 113 args).run prog w= .ok (.enter 113 args) w:=enters_of func113 zf rfl
theorem Mw(d:Int)(w:World):Calls prog 113 #[.int .i64 d] w fun r w'=>r= .returned (.bool (!decide (0<=d/\d<=1000000000000)))/\w.Grows w':=by
 by_cases h1:d<0
 ·go_enter func113,ntmps113
  exact GJ
 ·by_cases h2:d > 1000000000000
  ·go_enter func113,ntmps113
   exact GJ
  ·go_enter func113,ntmps113
   exact GJ
theorem gW(l:List Int)(v:Value)(w:World)(h:bI w v l):Calls prog 82 #[v] w fun r w'=>r= .returned (.bool (bD l))/\w.Grows w':=by
 have HV:=yq h
 have HCB:Hid (∀w',w.Grows w'->Calls prog 112 #[v,.func (.func 113) #[] #[]] w' fun r w''=>r= .returned (.bool (!l.all fun x=>decide (0<=x/\x<=1000000000000)))/\w'.Grows w''):=
  yq (fun w' hg=>by
   have:=vO 113 #[] JD l v (fun k=>!decide (0<=l.getD k 0/\l.getD k 0<=1000000000000)) w' (HV.out.grows hg) (yq (fun k hk w2 h2=>Mw _ w2));rw [pY]at this
   exact this)
 obtain⟨h1000,a,cap,rfl,-⟩:=h;have HF:Hid (bD l=(decide (l.length<=200)&&l.all fun x=>decide (0<=x/\x<=1000000000000))):=yq rfl;generalize(l.all fun x=>decide (0<=x/\x<=1000000000000))=Q at HCB HF;by_cases hn:(l.length:Int)<=200
 ·cases Q
  all_goals
   go_enter func82,ntmps82
   go_wp2_with (go_at_call 112;refine gvq (HCB.out _ (.of_below af)) ?_;intro bs2 d2)
   go_returns
   exact⟨au (by rw [HF.out];simp;try omega),.of_below af⟩
 ·go_enter func82,ntmps82
  go_wp2_with fail
  go_returns
  exact⟨au (by rw [HF.out,decide_eq_false ze];rfl),.of_below af⟩
theorem mH(l:List Int)(v:Value)(w:World)(h:bI w v l):Calls prog 29 #[v] w fun r w'=>r= .returned (.bool (bD l))/\w=w':=by
 obtain⟨h1000,a,cap,rfl,hc⟩:=h;have Hc:=yq hc;clear hc;have HBAD:=yq (fun k hk hb=>GD (l:=l) (k:=k) hk hb);have HGOOD:=yq (fun hn hg=>DD (l:=l) hn hg);by_cases hn:(l.length:Int)<=200
 ·go_enter func29,ntmps29
  go_wp2_with fail
  go_loopw [3] (fun v3 wr=>∃k:Nat,k<=l.length/\v3= .int .i64 k/\Hid (∀j,j<k->0<=l.getD j 0/\l.getD j 0<=1000000000000)/\w=wr) (fun v3 _=>l.length-(intOf v3).toNat)
  case atStart=>exact⟨0,by omega,rfl,yq (fun j hj=>by omega),rfl⟩
  case round=>
   obtain⟨k,hk,rfl,hno,rfl⟩:=hrel;by_cases hlt:k<l.length
   ·rcases Hc.out with h0|⟨b,off,rfl,hbw,hx⟩
    ·omega
    have x0:=hx k hlt;have d1:(k:Int)<(l.length:Int):=by omega
    have HKL:=yq hlt;clear hx hlt;obtain⟨dk,hdk⟩:∃dk,l.getD k 0=dk:=⟨_,rfl⟩;rw [hdk]at x0;have HDK:=yq hdk;clear hdk;by_cases h1:dk<0
    ·exact Rt
    ·by_cases h2:dk > 1000000000000
     ·exact Rt
     ·go_wp2_with fail
      go_roundw
      case rel=>exact⟨k+1,HKL.out,by go_num,yq (fun j hj=>by
       by_cases ej:j=k
       ·subst ej;rw [HDK.out];omega
       ·exact hno.out j ze),zI⟩
      case measure=>simp [intOf];have:=HKL.out;omega
   ·obtain rfl:k=l.length:=by omega
    go_wp2_with fail
    go_returns
    exact⟨au (HGOOD.out ze hno.out).symm,zI⟩
 ·go_enter func29,ntmps29
  go_wp2_with fail
  go_returns
  exact⟨au (by unfold bD;rw [decide_eq_false ze];rfl),zI⟩
def vT(l:List Int):Prop:=l.Pairwise fun a b=>b<=a
theorem wT(x:Int)(l:List Int):(o7 x l).Perm (x::l):=by
 induction l with
 |nil=>exact List.Perm.refl _
 |cons y r ih=>
  unfold o7
  split
  ·exact(ih.cons y).trans (List.Perm.swap x y r)
  ·exact List.Perm.refl _
theorem IV{x:Int}{l:List Int}(h:vT l):vT (o7 x l):=by
 induction l with
 |nil=>simp [o7,vT]
 |cons y r ih=>
  obtain⟨h1,h2⟩:=pairwise_cons.1 h;unfold o7
  split<;>rename_i hc
  ·refine pairwise_cons.2 ⟨fun z hz=>?_,ih h2⟩;rcases mem_cons.1 ((wT x r).mem_iff.1 hz)with rfl|hz
   ·exact hc
   ·exact h1 z hz
  ·refine pairwise_cons.2 ⟨fun z hz=>?_,h⟩;rcases mem_cons.1 hz with rfl|hz
   ·omega
   ·have:=h1 z hz;omega
theorem Qa(l:List Int):∀a:List Int,vT a->vT (l.foldl (fun a x=>o7 x a) a)/\(l.foldl (fun a x=>o7 x a) a).Perm (a++l):=by
 induction l with
 |nil=>intro a h;exact⟨h,by simp⟩
 |cons x r ih=>
  intro a h;obtain⟨h1,h2⟩:=ih _ (IV (x:=x) h);refine⟨h1,h2.trans ?_⟩;exact((wT x a).append_right r).trans perm_middle.symm
theorem tN(l:List Int):vT (kG l):=(Qa l [] List.Pairwise.nil).1
theorem kU(l:List Int):(kG l).Perm l:=(Qa l [] List.Pairwise.nil).2
theorem Jm{a b:List Int}(ha:vT a)(hb:vT b)(h:a.Perm b):a=b:=
 List.Perm.eq_of_pairwise (le:=fun x y:Int=>y<=x) (fun x y _ _ h1 h2=>by omega) ha hb h
theorem FJ(a b:List Int):(a++b).sum=a.sum+b.sum:=by
 induction a with
 |nil=>simp
 |cons x r ih=>simp only [cons_append,sum_cons,ih];omega
theorem NC(a:List Int):a.reverse.sum=a.sum:=by
 induction a with
 |nil=>rfl
 |cons x r ih=>simp only [reverse_cons,FJ,ih,sum_cons,sum_nil];omega
theorem Jy{ss l:List Int}(hp:ss.Perm l)(hs:ss.Pairwise (·<=·))(n:Nat):(ss.drop (ss.length-n)).sum=((kG l).take n).sum:=by
 have e:ss.reverse=kG l:=Jm (pairwise_reverse.2 hs) (tN l) ((reverse_perm ss).trans (hp.trans (kU l).symm));rw [<-e,take_reverse,NC]
theorem Ld{n d:Int}(h1:0<=n)(h2:1<=d)(he:mkE n d=0):mkN n d*d=n*mkD n d:=by
 have hg:0<Nat.gcd n.natAbs d.natAbs:=Nat.gcd_pos_of_pos_right _ ze;unfold mkE at he;unfold mkN mkD;rw [if_neg ze]at he ⊢;rw [if_neg ze];unfold kJ at he;unfold jZ l8
 split at he<;>rename_i hc
 ·simp at he
 rw [if_neg hc,if_neg hc,decide_eq_false ze,decide_eq_false ze];simp only [bne_self_eq_false,Bool.false_eq_true,if_false];obtain⟨a,rfl⟩:=Int.eq_ofNat_of_zero_le h1;obtain⟨b,rfl⟩:=Int.eq_ofNat_of_zero_le (show 0<=d by omega);simp only [Int.natAbs_natCast]at hg ⊢;rw [<-Int.natCast_mul,<-Int.natCast_mul]
 congr 1
 obtain⟨p,hp⟩:=Nat.gcd_dvd_left a b;obtain⟨q,hq⟩:=Nat.gcd_dvd_right a b;generalize Nat.gcd a b=g at *;subst hp hq;rw [Nat.mul_div_cancel_left _ hg,Nat.mul_div_cancel_left _ hg,Nat.mul_left_comm,Nat.mul_comm g p,Nat.mul_assoc,Nat.mul_comm p];rw [Nat.mul_comm q p,Nat.mul_left_comm]
theorem BI{n d:Int}(h:d≠0)(he:mkE n d=0):ay (mkN n d) (mkD n d)=true:=by
 rcases P5 h (n:=n)with ⟨_,h2⟩|⟨_,_,h3⟩
 ·exact h2
 ·simp only [he]at h3;omega
theorem wR{x:Int}:∀(l:List Int) (at_:Nat),vT l->at_<=l.length->(at_=0\/x<=l.getD (at_-1) 0)->(∀j,at_<=j->j<l.length->l.getD j 0<x)->o7 x l=l.take at_++x::l.drop at_
 | [],at_,_,h,_,_=>by simp [o7]
 |y::r,0,_,_,_,h=>by
  have:=h 0 ze zg;unfold o7;simp at this;rw [if_neg ze];simp
 |y::r,a+1,hd,hl,h1,h2=>by
  obtain⟨g1,g2⟩:=pairwise_cons.1 hd
  have hle:x<=y:=by
   rcases h1 with h1|h1
   ·omega
   ·rcases Nat.eq_zero_or_pos a with rfl|ha
    ·simpa using h1
    ·have hm:(y::r).getD a 0∈r:=by
      obtain⟨b,rfl⟩:∃b,a=b+1:=⟨a-1,by omega⟩;rw [length_cons]at hl;rw [getD_cons_succ,getD_eq_getElem?_getD,getElem?_eq_getElem (show b<r.length by omega)];exact getElem_mem _
     have:=g1 _ hm;simp only [Nat.add_sub_cancel]at h1;omega
  unfold o7;rw [if_pos hle,take_succ_cons,drop_succ_cons,cons_append]
  congr 1
  refine wR r a g2 (by simpa using hl) ?_ (fun j hj hjl=>?_)
  ·rcases Nat.eq_zero_or_pos a with rfl|ha
   ·exact .inl rfl
   ·right;rcases h1 with h1|h1
    ·omega
    ·obtain⟨b,rfl⟩:∃b,a=b+1:=⟨a-1,by omega⟩;simpa using h1
  ·have:=h2 (j+1) ze (by simpa using hjl);simpa using this
abbrev iO(l:List Int)(k:Nat):List Int:=kG (l.take k)
theorem DZ(l:List Int)(k:Nat)(hk:k<l.length):iO l (k+1)=o7 (l.getD k 0) (iO l k):=by
 unfold iO kG;rw [take_succ_eq_append_getElem hk,foldl_append,getD_eq_getElem?_getD,getElem?_eq_getElem hk];rfl
theorem wC(l:List Int)(k:Nat)(hk:k<=l.length):(iO l k).length=k:=by
 have:=(kU (l.take k)).length_eq;rw [this,length_take];omega
theorem D5(l:List Int)(k:Nat):vT (iO l k):=tN _
theorem mV(l:List Int):iO l l.length=kG l:=by unfold iO;rw [take_length]
theorem Bq(l:List Int)(k at_:Nat)(hk:k<l.length)(ha:at_<=k)(h1:at_=0\/l.getD k 0<=(iO l k).getD (at_-1) 0)(h2:∀j,at_<=j->j<k->(iO l k).getD j 0<l.getD k 0) :
 iO l (k+1)=(iO l k).take at_++l.getD k 0::(iO l k).drop at_:=by
 have hn:=wC l k ze;rw [DZ l k hk];exact wR _ _ (D5 l k) ze h1 (fun j hj hjl=>h2 j hj ze)
abbrev kT(l:List Int)(j:Nat):Int:=(l.take j).sum
theorem ww(l:List Int)(j:Nat)(hj:j<l.length):kT l (j+1)=kT l j+l.getD j 0:=by
 unfold kT;rw [take_succ_eq_append_getElem hj,FJ,getD_eq_getElem?_getD,getElem?_eq_getElem hj];simp
theorem kD{l:List Int}(h:bD l=true):l.length<=200/\∀x∈l,0<=x/\x<=1000000000000:=by
 unfold bD at h;simp only [Bool.and_eq_true,decide_eq_true_eq,all_eq_true]at h;exact h
theorem KH{l:List Int}(h:∀x∈l,0<=x/\x<=1000000000000):0<=l.sum/\l.sum<=1000000000000*l.length:=by
 induction l with
 |nil=>simp
 |cons x r ih=>
  have h1:=h x zg;have h2:=ih (fun y hy=>h y (by simp [hy]));rw [sum_cons,length_cons]
  push_cast
  omega
theorem FK{l s:List Int}(h:bD l=true)(hp:s.Perm l)(j:Nat):0<=kT s j/\kT s j<=200000000000000:=by
 have hm:=kD h;have:=KH (l:=s.take j) (fun x hx=>hm.2 x (hp.mem_iff.1 (mem_of_mem_take hx)))
 have hl:(s.take j).length<=200:=by
  have:=hp.length_eq;rw [length_take];omega
 unfold kT;omega
theorem Gi{l s:List Int}(h:bD l=true)(hp:s.Perm l)(j:Nat):0<=s.getD j 0/\s.getD j 0<=1000000000000:=by
 rw [getD_eq_getElem?_getD]
 cases hx:s[j]? with
 |none=>simp
 |some y=>exact(kD h).2 y (hp.mem_iff.1 (List.mem_of_getElem? hx))
def gG(v:Vw)(env:List (ByteArray × Val))(e:Ex):Val × Int:=
 if v.ok=false\/(env.any fun p=>!p.2.ok)=true\/cB e=false then(.zero,1)
 else if(aD (aS env) e).2≠0 then(.zero,(aD (aS env) e).2)
 else if(aj v env e).2≠0 then(.zero,(aj v env e).2)else aj v env e
theorem uP{v:Vw}{env:List (ByteArray × Val)}{e:Ex}(hv:v.ok=true)(hE:∀p∈env,p.2.ok=true)(he:cB e=true)(hi:(aD (aS env) e).2=0) :
 gG v env e=aj v env e/\okR (aD (aS env) e).1 (aj v env e):=by
 have hf:aN e=true:=by
  unfold cB at he;simp only [Bool.and_eq_true]at he;exact he.2
 have h:=lW hv hE e hf hi;refine⟨?_,h⟩;unfold gG
 rw [if_neg (by
  rintro(h1|h1|h1)
  ·rw [hv]at h1;cases h1
  ·obtain⟨p,hp,h2⟩:=any_eq_true.1 h1;rw [hE p hp]at h2;cases h2
  ·rw [he]at h1;cases h1),if_neg ze]
 split<;>rename_i hc
 ·have:=h.bad hc;rw [<-this.1]
 ·rfl
theorem Aq{op m:Int}{a b:Int × Int}{r:List Int × Int}(h:op≠2):fw op m a r=fw op m b r:=by
 unfold fw;by_cases c:op=1
 ·rw [if_pos c,if_pos c]
 ·rw [if_neg c,if_neg c];by_cases c3:op=3
  ·rw [if_pos c3,if_pos c3]
  ·rw [if_neg c3,if_neg c3,if_neg h,if_neg h]
theorem wI{n d:Int}(h1:0<=n)(h2:n<=1000000000000000)(h3:1<=d)(h4:d<=1000000000):mkE n d=0:=by
 unfold mkE kJ;rw [if_neg ze,if_neg];have a:=Nat.div_le_self n.natAbs (Nat.gcd n.natAbs d.natAbs);have b:=Nat.div_le_self d.natAbs (Nat.gcd n.natAbs d.natAbs);omega
structure VwR where
 age:Int
 year:Int
 children:Int
 base:Int
 den:Int
 days:List Int
 years:List Int
def VwR.d(R:VwR)(i:Nat):Int:=if i<R.days.length then pick (R.days.getD i 0) 20000 else 0
def nJ(R:VwR):Vw:=⟨pick R.age 110,1900+pick R.year 200,pick R.children 8,R.d 0,R.d 1,R.d 2,R.d 3,R.d 4,R.d 5,R.d 6,mkN (pick R.base 1000000) (pick R.den 12+1),mkD (pick R.base 1000000) (pick R.den 12+1),(R.years.take 20).map fun z=>pick z 5000000⟩
theorem VwR.d_bd(R:VwR)(i:Nat):0<=R.d i/\R.d i<20000:=by
 unfold VwR.d
 split
 ·exact cZ _ 20000 ze
 ·omega
theorem IP{a b d n:Int}(h0:0<=a)(hb:0<=b)(hd:1<=d)(h:a*d=n*b)(hn:n<=1000000000000):a<=1000000000000*b:=by
 have h1:a*1<=a*d:=Int.mul_le_mul_of_nonneg_left hd h0;have h2:n*b<=1000000000000*b:=Int.mul_le_mul_of_nonneg_right hn hb;omega
theorem uu{n d:Int}(h1:0<=n)(h2:1<=d):0<=mkN n d:=by
 unfold mkN jZ;rw [if_neg ze,decide_eq_false ze,decide_eq_false ze]
 split
 ·omega
 ·simp only [bne_self_eq_false,Bool.false_eq_true,if_false];exact Int.natCast_nonneg _
theorem Kc(R:VwR):(nJ R).ok=true:=by
 have a:=cZ R.age 110 ze;have b:=cZ R.year 200 ze;have c:=cZ R.children 8 ze;have n:=cZ R.base 1000000 ze;have d:=cZ R.den 12 ze;have e:=wI n.1 ze (show 1<=pick R.den 12+1 by omega) ze;have v:=BI (show pick R.den 12+1≠0 by omega) e;have m:=Ld n.1 (show 1<=pick R.den 12+1 by omega) e;have nn:=uu n.1 (show 1<=pick R.den 12+1 by omega);have vb:=aC v;have le:=IP nn ze (show 1<=pick R.den 12+1 by omega) m ze
 have dd:∀i,ed (R.d i)=true:=fun i=>by
  have:=R.d_bd i;unfold ed;exact decide_eq_true ze
 have yy:bD ((R.years.take 20).map fun z=>pick z 5000000)=true:=by
  unfold bD;rw [decide_eq_true (by rw [length_map,length_take];omega),Bool.true_and,all_eq_true];intro x hx;obtain⟨z,-,rfl⟩:=mem_map.1 hx;have:=cZ z 5000000 ze;exact decide_eq_true ze
 unfold Vw.ok nJ;dsimp only;rw [decide_eq_true ⟨by omega,by omega,by omega,by omega,by omega,by omega⟩,dd,dd,dd,dd,dd,dd,dd,v,decide_eq_true ⟨nn,le⟩,yy];rfl
theorem GK(R:VwR):(nJ R).years.length<=20:=by
 show((R.years.take 20).map fun z=>pick z 5000000).length<=20;rw [length_map,length_take];omega
end Go.Proofs.YtcfpoofhokbhlaaGreatDoor
