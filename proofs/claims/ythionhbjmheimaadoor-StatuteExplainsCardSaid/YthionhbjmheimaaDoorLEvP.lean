import Derived.Test.YthionhbjmheimaaDoorLFrP
import Derived.Test.YthionhbjmheimaaDoorLNames
import Derived.Test.YthionhbjmheimaaDoorLK
import Derived.RangeFuncNested
import Derived.RangeFuncBound
import Derived.RangeFuncCalls
import Derived.RangeFuncLeaves
import Derived.Shelf.Abstract
import Derived.Shelf.RegionOpen
import Derived.WalkKit
import Derived.OwnWalkIn
import Derived.TacticsInMore
import Derived.LoopNIn
import Derived.LoopIn
set_option linter.all false
set_option maxHeartbeats 16000000
set_option maxRecDepth 1000000
namespace Go.Proofs.YthionhbjmheimaaDoor

structure Val where
 dim:Int
 yes:Bool
 n:Int
 d:Int
namespace Val
def zero:Val:=⟨0,false,0,0⟩
def num(m n d:Int):Val:=⟨m,false,n,d⟩
def truth(b:Bool):Val:=⟨1,b,0,0⟩
def ok(x:Val):Bool:=if x.dim=1 then decide (x.n=0∧x.d=0)else decide (2≤x.dim∧x.dim≤4)&&!x.yes&&vfrac x.n x.d
end Val
structure Vw where
 age:Int
 year:Int
 children:Int
 insured:Int
 worked:Int
 voluntary:Int
 service:Int
 equated:Int
 raising:Int
 resident:Int
 bn:Int
 bd:Int
 years:List Int
def yearsOk(l:List Int):Bool:=decide (l.length≤200)&&l.all fun x=>decide (0≤x∧x≤1000000000000)
def daysOk(z:Int):Bool:=decide (0≤z∧z≤73049)
def Vw.ok(v:Vw):Bool:=decide (0≤v.age∧v.age≤199∧1900≤v.year∧v.year≤2099∧0≤v.children∧v.children≤99)&&
 (daysOk v.insured&&daysOk v.worked&&daysOk v.voluntary&&daysOk v.service&&daysOk v.equated&&daysOk v.raising&&daysOk v.resident)&&
 (vfrac v.bn v.bd&&decide (0≤v.bn∧v.bn≤1000000000000*v.bd))&&yearsOk v.years
def Vw.numF(v:Vw)(s:List UInt8):Int × Int:=
 if s= [98,97,115,101]then(v.bn,v.bd)
 else if s= [97,103,101]then(v.age,1)else if s= [121,101,97,114]then(v.year,1)else if s= [99,104,105,108,100,114,101,110]then(v.children,1)
 else if s= [105,110,115,117,114,101,100]then(v.insured,1)else if s= [119,111,114,107,101,100]then(v.worked,1)else if s= [118,111,108,117,110,116,97,114,121]then(v.voluntary,1)
 else if s= [115,101,114,118,105,99,101]then(v.service,1)else if s= [101,113,117,97,116,101,100]then(v.equated,1)else if s= [114,97,105,115,105,110,103]then(v.raising,1)
 else if s= [114,101,115,105,100,101,110,116]then(v.resident,1)else(0,1)
def inputV(v:Vw)(s:ByteArray):Option Val:=if inpD s.toList=0∨v.ok=false then none else some (.num (inpD s.toList) (v.numF s.toList).1 (v.numF s.toList).2)

def insD(x:Int):List Int→List Int
 | []=>[x]
 |y::r=>if x≤y then y::insD x r else x::y::r
def sortD(l:List Int):List Int:=l.foldl (fun a x=>insD x a) []
def bestS(l:List Int)(n:Int):Int:=((sortD l).take n.toNat).sum
def bestF(l:List Int)(n:Int):Int × Int × Int:=if n<1∨45<n∨yearsOk l=false then(0,0,1)else(mkN (bestS l n) n,mkD (bestS l n) n,mkE (bestS l n) n)

def lastN{α:Type}(env:List (ByteArray × α))(s:ByteArray):Option α:=(env.reverse.find? fun p=>decide (p.1=s)).map Prod.snd

def resD(op:Int)(d:List Int):Int:=
 let a:=d.getD 0 0;let b:=d.getD 1 0;let c:=d.getD 2 0
 if op=5 then(if a=1 then 1 else 0)
 else if op=4∨op=6 then(if a≠1 then a else 0)
 else if op=7∨op=8∨op=19∨op=20 then(if a=b∧a≠1 then a else 0)
 else if op=9 then(if a=2∧b≠1 then b else if b=2∧a≠1 then a else 0)
 else if op=10 then(if b=2∧a≠1 then a else if a=b∧a≠1 then 2 else 0)
 else if op=17∨op=18 then(if a=1∧b=1 then 1 else 0)
 else if op=21 then(if a=1∧b=c then b else 0)
 else if a=b∧a≠1 then 1 else 0
def inferN(env:List (ByteArray × Int))(s:ByteArray):Int × Int:=
 if inpD s.toList≠0 then(inpD s.toList,0)else match lastN env s with|some m=>(m,0)|none=>(0,5)
def infNode(op m:Int)(nm:Int × Int)(r:List Int × Int):Int × Int:=
 if op=1 then(m,0)else if op=3 then(4,0)else if op=2 then nm
 else if r.2≠0 then(0,r.2)else if resD op r.1=0 then(0,6)else(resD op r.1,0)
mutual
def inferF(env:List (ByteArray × Int)):Ex→Int × Int
 | .mk op _ _ m s l=>infNode op m (inferN env s) (infersF env l)
def infersF(env:List (ByteArray × Int)):List Ex→List Int × Int
 | []=>([],0)
 |e::r=>if(inferF env e).2≠0 then([],(inferF env e).2)else if(infersF env r).2≠0 then([],(infersF env r).2)else((inferF env e).1::(infersF env r).1,0)
end

def numR(m:Int)(r:Int × Int × Int):Val × Int:=if r.2.2=0 then(.num m r.1 r.2.1,0)else(.zero,r.2.2)
def cmpB(op c:Int):Bool:=if op=11 then decide (c<0)else if op=12 then decide (c≤0)else if op=13 then decide (c=0)else if op=14 then decide (c≠0)else if op=15 then decide (c > 0)else decide (c≥0)
def op1(op:Int)(a:Val):Val × Int:=if op=5 then(.truth (!a.yes),0)else if op=6 then numR a.dim ((floorF a.n a.d).1,1,(floorF a.n a.d).2)else numR a.dim (negF a.n a.d)
def op2(op:Int)(a b:Val):Val × Int:=
 if op=7 then numR a.dim (addF a.n a.d b.n b.d)else if op=8 then numR a.dim (subF a.n a.d b.n b.d)
 else if op=9 then numR (resD 9 [a.dim,b.dim]) (mulF a.n a.d b.n b.d)else if op=10 then numR (resD 10 [a.dim,b.dim]) (divF a.n a.d b.n b.d)
 else if op=19 then(if cmpI a.n a.d b.n b.d≤0 then .num a.dim a.n a.d else .num a.dim b.n b.d,0)
 else if op=20 then(if 0≤cmpI a.n a.d b.n b.d then .num a.dim a.n a.d else .num a.dim b.n b.d,0)
 else(.truth (cmpB op (cmpI a.n a.d b.n b.d)),0)
def nameF(v:Vw)(env:List (ByteArray × Val))(s:ByteArray):Val × Int:=
 match inputV v s with
 |some x=>(x,0)
 |none=>match lastN env s with|some x=>(x,0)|none=>(.zero,5)
def valNode(v:Vw)(op n d m:Int)(nm:Val × Int)(rs:List (Val × Int)):Val × Int:=
 let r0:=rs.getD 0 (.zero,0);let r1:=rs.getD 1 (.zero,0);let r2:=rs.getD 2 (.zero,0)
 if op=1 then(.num m n d,0)else if op=2 then nm else if op=3 then numR 4 (bestF v.years n)
 else if r0.2≠0 then(.zero,r0.2)
 else if op=17 then(if r0.1.yes=true then r1 else r0)else if op=18 then(if r0.1.yes=true then r0 else r1)
 else if op=21 then(if r0.1.yes=true then r1 else r2)
 else if op≤6 then op1 op r0.1
 else if r1.2≠0 then(.zero,r1.2)else op2 op r0.1 r1.1
mutual
def valueF(v:Vw)(env:List (ByteArray × Val)):Ex→Val × Int
 | .mk op n d m s l=>valNode v op n d m (nameF v env s) (valuesF v env l)
def valuesF(v:Vw)(env:List (ByteArray × Val)):List Ex→List (Val × Int)
 | []=>[]
 |e::r=>valueF v env e::valuesF v env r
end
theorem inferF_eq(env:List (ByteArray × Int))(e:Ex):inferF env e=infNode e.op e.dim (inferN env e.name) (infersF env e.args):=by cases e;rw [inferF];rfl
theorem valueF_eq(v:Vw)(env:List (ByteArray × Val))(e:Ex):valueF v env e=valNode v e.op e.num e.den e.dim (nameF v env e.name) (valuesF v env e.args):=by cases e;rw [valueF];rfl
def dimsOf(env:List (ByteArray × Val)):List (ByteArray × Int):=env.map fun p=>(p.1,p.2.dim)

theorem Val.num_ok{m n d:Int}(hm:2≤m∧m≤4)(h:vfrac n d=true):(Val.num m n d).ok=true:=by
 unfold Val.ok Val.num
 rw [if_neg (show ¬m=1 by omega)]
 show(decide (2≤m∧m≤4)&&!false&&vfrac n d)=true
 rw [h,decide_eq_true hm];rfl
def okR(m:Int)(r:Val × Int):Prop:=(r.2=0∧r.1.ok=true∧r.1.dim=m)∨(r.1= .zero∧(r.2=2∨r.2=3))
theorem okR_num{m:Int}{r:Int × Int × Int}(hm:2≤m∧m≤4)(h:okF r):okR m (numR m r):=by
 unfold numR
 rcases h with ⟨h1,h2⟩|⟨-,-,h3⟩
 ·rw [if_pos h1]
  refine .inl ⟨rfl, ?_,rfl⟩
  exact Val.num_ok hm h2
 ·rw [if_neg (by omega)]
  exact .inr ⟨rfl,h3⟩
theorem okR_truth(b:Bool):okR 1 (.truth b,0):=.inl ⟨rfl,by simp [Val.ok,Val.truth],rfl⟩
theorem Val.ok_num{x:Val}(h:x.ok=true)(hd:x.dim≠1):2≤x.dim∧x.dim≤4∧x.yes=false∧vfrac x.n x.d=true:=by
 unfold Val.ok at h
 rw [if_neg hd]at h
 simp only [Bool.and_eq_true,decide_eq_true_eq,Bool.not_eq_true']at h
 exact⟨h.1.1.1,h.1.1.2,h.1.2,h.2⟩
theorem Val.ok_dim{x:Val}(h:x.ok=true):1≤x.dim∧x.dim≤4:=by
 by_cases hd:x.dim=1
 ·omega
 ·have:=Val.ok_num h hd;omega
theorem vfrac_whole{n:Int}(h1:-1000000000000000≤n)(h2:n≤1000000000000000):vfrac n 1=true:=vfrac_of ⟨by omega,by omega,h1,h2⟩ (by simp)
theorem floor_bd{n d:Int}(h:vfrac n d=true):-1000000000000000≤n / d∧n / d≤1000000000000000:=by
 have:=vfrac_bd h
 constructor
 ·rw [Int.le_ediv_iff_mul_le (by omega)]
  omega
 ·have h3:n / d<1000000000000001:=Int.ediv_lt_of_lt_mul (by omega) (by omega)
  omega
theorem negF_ok{n d:Int}(h:vfrac n d=true):okF (negF n d):=by
 unfold negF;rw [if_pos h];exact .inl ⟨rfl,by rw [vfrac_neg];exact h⟩
theorem floor_ok{n d:Int}(h:vfrac n d=true):okF ((floorF n d).1,1,(floorF n d).2):=by
 unfold floorF;rw [if_pos h];have:=floor_bd h;exact .inl ⟨rfl,vfrac_whole this.1 this.2⟩
theorem op1_ok{op:Int}{x:Val}(h:x.ok=true)(h4:4≤op)(h6:op≤6)(hr:resD op [x.dim]≠0):okR (resD op [x.dim]) (op1 op x):=by
 obtain rfl|rfl|rfl:op=4∨op=5∨op=6:=by omega
 all_goals simp only [resD,List.getD_cons_zero,op1]at hr ⊢
 ·simp at hr ⊢
  have:=Val.ok_num h hr.1
  rw [if_neg hr.1]
  exact okR_num ⟨this.1,this.2.1⟩ (negF_ok this.2.2.2)
 ·simp at hr ⊢
  rw [if_pos hr];exact okR_truth _
 ·simp at hr ⊢
  have:=Val.ok_num h hr.1
  rw [if_neg hr.1]
  exact okR_num ⟨this.1,this.2.1⟩ (floor_ok this.2.2.2)
theorem res_mul(a b:Int):resD 9 [a,b]=if a=2∧b≠1 then b else if b=2∧a≠1 then a else 0:=rfl
theorem res_div(a b:Int):resD 10 [a,b]=if b=2∧a≠1 then a else if a=b∧a≠1 then 2 else 0:=rfl
theorem res_add{op:Int}(a b:Int)(h:op=7∨op=8∨op=19∨op=20):resD op [a,b]=if a=b∧a≠1 then a else 0:=by
 rcases h with rfl|rfl|rfl|rfl<;>rfl
theorem res_cmp{op:Int}(a b:Int)(h:11≤op∧op≤16):resD op [a,b]=if a=b∧a≠1 then 1 else 0:=by
 obtain rfl|rfl|rfl|rfl|rfl|rfl:op=11∨op=12∨op=13∨op=14∨op=15∨op=16:=by omega
 all_goals rfl
theorem op2_ok{op:Int}{x y:Val}(h:x.ok=true)(g:y.ok=true)(h4:7≤op)(h6:op≤20)(h17:op≠17)(h18:op≠18)(hr:resD op [x.dim,y.dim]≠0):okR (resD op [x.dim,y.dim]) (op2 op x y):=by
 by_cases c:op=9
 ·subst c
  show okR _ (numR (resD 9 [x.dim,y.dim]) (mulF x.n x.d y.n y.d))
  have hx:x.dim≠1∧y.dim≠1∧(resD 9 [x.dim,y.dim]=x.dim∨resD 9 [x.dim,y.dim]=y.dim):=by
   rw [res_mul]at hr ⊢
   exact lz24
  have h1:=Val.ok_num h hx.1
  have h2:=Val.ok_num g hx.2.1
  exact okR_num (by omega) (mulF_ok h1.2.2.2 h2.2.2.2)
 ·by_cases c':op=10
  ·subst c'
   show okR _ (numR (resD 10 [x.dim,y.dim]) (divF x.n x.d y.n y.d))
   have hx:x.dim≠1∧y.dim≠1∧(resD 10 [x.dim,y.dim]=x.dim∨resD 10 [x.dim,y.dim]=2):=by
    rw [res_div]at hr ⊢
    exact lz24
   have h1:=Val.ok_num h hx.1
   have h2:=Val.ok_num g hx.2.1
   exact okR_num (by omega) (divF_ok h1.2.2.2 h2.2.2.2)
  ·have hx:x.dim=y.dim∧x.dim≠1:=by
    by_cases c3:11≤op∧op≤16
    ·rw [res_cmp _ _ c3]at hr
     split at hr<;>rename_i c1
     ·exact c1
     ·exact absurd rfl hr
    ·rw [res_add _ _ (by omega)]at hr
     split at hr<;>rename_i c1
     ·exact c1
     ·exact absurd rfl hr
   have h1:=Val.ok_num h hx.2
   have h2:=Val.ok_num g (by omega)
   by_cases c3:11≤op∧op≤16
   ·rw [res_cmp _ _ c3,if_pos hx]
    unfold op2
    rw [if_neg (by omega),if_neg (by omega),if_neg (by omega),if_neg (by omega),if_neg (by omega),if_neg (by omega)]
    exact okR_truth _
   ·rw [res_add _ _ (by omega),if_pos hx]
    obtain rfl|rfl|rfl|rfl:op=7∨op=8∨op=19∨op=20:=by omega
    ·exact okR_num (by omega) (addF_ok h1.2.2.2 h2.2.2.2)
    ·exact okR_num (by omega) (subF_ok h1.2.2.2 h2.2.2.2)
    ·show okR _ (if cmpI x.n x.d y.n y.d≤0 then .num x.dim x.n x.d else .num x.dim y.n y.d,0)
     exact lz28
    ·show okR _ (if 0≤cmpI x.n x.d y.n y.d then .num x.dim x.n x.d else .num x.dim y.n y.d,0)
     exact lz28
theorem okR.bad{m:Int}{r:Val × Int}(h:okR m r)(hr:r.2≠0):r.1= .zero∧(r.2=2∨r.2=3):=by
 rcases h with h|h
 ·exact absurd h.1 hr
 ·exact h
theorem okR.good{m:Int}{r:Val × Int}(h:okR m r)(hr:r.2=0):r.1.ok=true∧r.1.dim=m:=by
 rcases h with h|h
 ·exact h.2
 ·omega
theorem node_ok(v:Vw){op n d m:Int}{nm:Val × Int}{ds:List Int}{rs:List (Val × Int)}(h4:4≤op)(h21:op≤21)(hl:(ds.length:Int)=argsN op)
 (hr:∀i,i<ds.length→okR (ds.getD i 0) (rs.getD i (.zero,0))) (hres:resD op ds≠0):okR (resD op ds) (valNode v op n d m nm rs):=by
 have hn:0<ds.length:=by unfold argsN at hl;(repeat' split at hl)<;>omega
 have r0:=hr 0 hn
 unfold valNode
 rw [if_neg (by omega),if_neg (by omega),if_neg (by omega)]
 by_cases e0:(rs.getD 0 (Val.zero,0)).2≠0
 ·rw [if_pos e0]
  exact .inr ⟨rfl,(r0.bad e0).2⟩
 rw [if_neg e0]
 have g0:=r0.good (by omega)
 by_cases h6:op≤6
 ·have hl1:ds.length=1:=by unfold argsN at hl;rw [if_neg (by omega),if_pos (by omega)]at hl;omega
  obtain⟨a,rfl⟩:∃a,ds= [a]:=List.length_eq_one_iff.1 hl1
  rw [if_neg (by omega),if_neg (by omega),if_neg (by omega),if_pos h6]
  have ha:(rs.getD 0 (Val.zero,0)).1.dim=a:=g0.2
  rw [←ha]at hres ⊢
  exact op1_ok g0.1 h4 h6 hres
 by_cases h20:op≤20
 ·have hl1:ds.length=2:=by unfold argsN at hl;rw [if_neg (by omega),if_neg (by omega),if_pos (by omega)]at hl;omega
  obtain⟨a,b,rfl⟩:∃a b,ds= [a,b]:=by
   match ds,hl1 with
   | [a,b],_=>exact⟨a,b,rfl⟩
  have r1:=hr 1 (by simp)
  have ha:(rs.getD 0 (Val.zero,0)).1.dim=a:=g0.2
  have hb:okR b (rs.getD 1 (Val.zero,0)):=r1
  by_cases h17:op=17
  ·subst h17
   have hab:a=1∧b=1:=by
    have e:resD 17 [a,b]=if a=1∧b=1 then 1 else 0:=rfl
    rw [e]at hres
    split at hres<;>rename_i c1
    ·exact c1
    ·exact absurd rfl hres
   obtain⟨rfl,rfl⟩:=hab
   rw [if_pos rfl]
   split
   ·exact hb
   ·exact r0
  by_cases h18:op=18
  ·subst h18
   have hab:a=1∧b=1:=by
    have e:resD 18 [a,b]=if a=1∧b=1 then 1 else 0:=rfl
    rw [e]at hres
    split at hres<;>rename_i c1
    ·exact c1
    ·exact absurd rfl hres
   obtain⟨rfl,rfl⟩:=hab
   rw [if_neg (by omega),if_pos rfl]
   split
   ·exact r0
   ·exact hb
  rw [if_neg h17,if_neg h18,if_neg (by omega),if_neg h6]
  by_cases e1:(rs.getD 1 (Val.zero,0)).2≠0
  ·rw [if_pos e1]
   exact .inr ⟨rfl,(hb.bad e1).2⟩
  rw [if_neg e1]
  have g1:=hb.good (by omega)
  rw [←ha,←g1.2]at hres ⊢
  exact op2_ok g0.1 g1.1 (by omega) h20 h17 h18 hres
 ·obtain rfl:op=21:=by omega
  have hl1:ds.length=3:=by simp [argsN]at hl;omega
  obtain⟨a,b,c,rfl⟩:∃a b c,ds= [a,b,c]:=by
   match ds,hl1 with
   | [a,b,c],_=>exact⟨a,b,c,rfl⟩
  have hb:okR b (rs.getD 1 (Val.zero,0)):=hr 1 (by simp)
  have hc:okR c (rs.getD 2 (Val.zero,0)):=hr 2 (by simp)
  have e:resD 21 [a,b,c]=if a=1∧b=c then b else 0:=rfl
  rw [e]at hres ⊢
  split at hres<;>rename_i c1
  ·obtain⟨rfl,rfl⟩:=c1
   rw [if_pos (⟨rfl,rfl⟩:(1:Int)=1∧b=b),if_neg (by omega),if_neg (by omega),if_pos rfl]
   split
   ·exact hb
   ·exact hc
  ·exact absurd rfl hres
theorem Vw.ok_bd{v:Vw}(h:v.ok=true):(0≤v.age∧v.age≤199∧1900≤v.year∧v.year≤2099∧0≤v.children∧v.children≤99)∧
 (0≤v.insured∧v.insured≤73049∧0≤v.worked∧v.worked≤73049∧0≤v.voluntary∧v.voluntary≤73049∧0≤v.service∧v.service≤73049∧0≤v.equated∧v.equated≤73049∧0≤v.raising∧v.raising≤73049∧0≤v.resident∧v.resident≤73049)∧
 vfrac v.bn v.bd=true∧(0≤v.bn∧v.bn≤1000000000000*v.bd)∧yearsOk v.years=true:=by
 unfold Vw.ok at h
 obtain⟨h,e⟩:=Bool.and_eq_true_iff.1 h
 obtain⟨h,cd⟩:=Bool.and_eq_true_iff.1 h
 obtain⟨a,b⟩:=Bool.and_eq_true_iff.1 h
 obtain⟨c,d⟩:=Bool.and_eq_true_iff.1 cd
 have k:∀z,daysOk z=true→0≤z∧z≤73049:=fun z hz=>of_decide_eq_true hz
 repeat rw [Bool.and_eq_true]at b
 obtain⟨⟨⟨⟨⟨⟨b1,b2⟩,b3⟩,b4⟩,b5⟩,b6⟩,b7⟩:=b
 have b1:=k _ b1
 have b2:=k _ b2
 have b3:=k _ b3
 have b4:=k _ b4
 have b5:=k _ b5
 have b6:=k _ b6
 have b7:=k _ b7
 exact⟨of_decide_eq_true a,⟨b1.1,b1.2,b2.1,b2.2,b3.1,b3.2,b4.1,b4.2,b5.1,b5.2,b6.1,b6.2,b7.1,b7.2⟩,c,of_decide_eq_true d,e⟩
theorem ite_ok{c:Prop}[Decidable c]{a b:Int × Int}(ha:vfrac a.1 a.2=true)(hb:vfrac b.1 b.2=true):vfrac (if c then a else b).1 (if c then a else b).2=true:=by
 by_cases h:c
 ·rw [if_pos h];exact ha
 ·rw [if_neg h];exact hb
theorem Vw.numF_ok{v:Vw}(h:v.ok=true)(s:List UInt8):vfrac (v.numF s).1 (v.numF s).2=true:=by
 obtain⟨a,b,c,-,-⟩:=Vw.ok_bd h
 unfold Vw.numF
 refine ite_ok c ?_
 repeat refine ite_ok (vfrac_whole (by show _≤(_:Int);omega) (by show(_:Int)≤_;omega)) ?_
 exact vfrac_whole (by omega) (by omega)
theorem inpD_bd(s:List UInt8):inpD s=0∨(2≤inpD s∧inpD s≤4):=by
 unfold inpD
 (repeat' split)<;>simp
theorem inputV_some{v:Vw}{s:ByteArray}{x:Val}(h:inputV v s=some x):x.ok=true∧x.dim=inpD s.toList∧inpD s.toList≠0:=by
 unfold inputV at h
 split at h<;>rename_i hc
 ·cases h
 ·simp only [not_or,Bool.not_eq_false]at hc
  cases h
  have:=inpD_bd s.toList
  exact⟨Val.num_ok (by omega) (Vw.numF_ok hc.2 _),rfl,hc.1⟩
theorem inputV_none{v:Vw}(hv:v.ok=true){s:ByteArray}(h:inputV v s=none):inpD s.toList=0:=by
 unfold inputV at h
 split at h<;>rename_i hc
 ·rcases hc with hc|hc
  ·exact hc
  ·rw [hv]at hc;cases hc
 ·cases h
theorem lastN_dims(env:List (ByteArray × Val))(s:ByteArray):lastN (dimsOf env) s=(lastN env s).map Val.dim:=by
 unfold lastN dimsOf
 rw [←List.map_reverse,List.find?_map]
 simp only [Option.map_map]
 rfl
theorem lastN_mem{env:List (ByteArray × Val)}{s:ByteArray}{x:Val}(h:lastN env s=some x):∃p∈env,p.2=x:=by
 exact lz26
theorem name_ok{v:Vw}(hv:v.ok=true){env:List (ByteArray × Val)}(hE:∀p∈env,p.2.ok=true){s:ByteArray}(h:(inferN (dimsOf env) s).2=0):okR (inferN (dimsOf env) s).1 (nameF v env s):=by
 unfold inferN at h ⊢
 unfold nameF
 cases hi:inputV v s with
 |some x=>
  obtain⟨h1,h2,h3⟩:=inputV_some hi
  rw [if_pos h3]
  exact .inl ⟨rfl,h1,h2⟩
 |none=>
  have h0:=inputV_none hv hi
  rw [if_neg (by simpa using h0),lastN_dims]at h ⊢
  cases hx:lastN env s with
  |some x=>
   obtain⟨p,hp,rfl⟩:=lastN_mem hx
   exact .inl ⟨rfl,hE p hp,rfl⟩
  |none=>rw [hx]at h;simp at h
theorem mk_ok{n d:Int}(h:d≠0):okF (mkN n d,mkD n d,mkE n d):=by
 unfold mkN mkD mkE
 rw [if_neg h,if_neg h,if_neg h]
 rcases lowE_cases n.natAbs d.natAbs with e|e
 ·exact .inl ⟨e,low_ok _ (by omega) e⟩
 ·have h3:=low_bad (decide (n<0)!=decide (d<0)) (show lowE n.natAbs d.natAbs≠0 by omega)
  exact .inr ⟨h3.1,h3.2,.inl e⟩
theorem best_ok{l:List Int}{n:Int}(h1:1≤n)(h2:n≤45)(h:yearsOk l=true):okF (bestF l n):=by
 unfold bestF
 rw [if_neg (by simp [h];omega)]
 exact mk_ok (by omega)
theorem decOk_bd{n d m:Int}(h:decOk n d m=true):vfrac n d=true∧2≤m∧m≤4:=by
 simp only [decOk,Bool.and_eq_true,decide_eq_true_eq]at h
 exact⟨h.1.1.1.1.1,h.1.1.2,h.1.2⟩
theorem infers_len(env:List (ByteArray × Int))(l:List Ex)(h:(infersF env l).2=0):(infersF env l).1.length=l.length:=by
 induction l with
 |nil=>simp [infersF]
 |cons e r ih=>
  rw [infersF]at h ⊢
  split at h<;>rename_i c1
  ·exact absurd h c1
  ·split at h<;>rename_i c2
   ·exact absurd h c2
   ·rw [if_neg c1,if_neg c2]
    simp [ih (by omega)]
mutual
theorem value_ok{v:Vw}(hv:v.ok=true){env:List (ByteArray × Val)}(hE:∀p∈env,p.2.ok=true):∀e:Ex,formedB e=true→(inferF (dimsOf env) e).2=0→okR (inferF (dimsOf env) e).1 (valueF v env e)
 | .mk op n d m s l=>by
   intro hf hi
   rw [formedB,Bool.and_eq_true,decide_eq_true_eq]at hf
   rw [inferF]at hi ⊢
   rw [valueF]
   obtain⟨ha,hf⟩:=hf
   unfold infNode at hi ⊢
   by_cases c1:op=1
   ·subst c1
    rw [if_pos rfl]at hf
    simp only [Bool.and_eq_true]at hf
    have:=decOk_bd hf.1
    exact .inl ⟨rfl,Val.num_ok this.2 this.1,rfl⟩
   rw [if_neg c1]at hi hf ⊢
   by_cases c2:op=2
   ·subst c2
    exact name_ok hv hE hi
   rw [if_neg c2]at hf
   by_cases c3:op=3
   ·subst c3
    rw [if_pos rfl]at hf
    simp only [Bool.and_eq_true,decide_eq_true_eq]at hf
    show okR 4 (numR 4 (bestF v.years n))
    exact okR_num (by omega) (best_ok hf.1.2 hf.2 (Vw.ok_bd hv).2.2.2.2)
   rw [if_neg c3]at hf
   rw [if_neg c3,if_neg c2]at hi ⊢
   simp only [Bool.and_eq_true]at hf
   split at hi<;>rename_i c4
   ·exact absurd hi c4
   rw [if_neg c4]
   split at hi<;>rename_i c5
   ·simp at hi
   rw [if_neg c5]
   have hlen:=infers_len (dimsOf env) l (by omega)
   have hop:4≤op∧op≤21:=by unfold argsN at ha;(repeat' split at ha)<;>omega
   exact node_ok v hop.1 hop.2 (by rw [hlen];exact ha) (fun i hi=>values_ok hv hE l hf.1 (by omega) i (by omega)) c5
theorem values_ok{v:Vw}(hv:v.ok=true){env:List (ByteArray × Val)}(hE:∀p∈env,p.2.ok=true):∀l:List Ex,formedsB l=true→(infersF (dimsOf env) l).2=0→
 ∀i,i<l.length→okR ((infersF (dimsOf env) l).1.getD i 0) ((valuesF v env l).getD i (.zero,0))
 | []=>by intro _ _ i hi;simp at hi
 |e::r=>by
  intro hf h i hi
  rw [formedsB,Bool.and_eq_true]at hf
  rw [infersF]at h ⊢
  rw [valuesF]
  split at h<;>rename_i c1
  ·exact absurd h c1
  split at h<;>rename_i c2
  ·exact absurd h c2
  rw [if_neg c1,if_neg c2]
  cases i with
  |zero=>exact value_ok hv hE e hf.1 (by omega)
  |succ i=>exact values_ok hv hE r hf.2 (by omega) i (by simpa using hi)
end
end Go.Proofs.YthionhbjmheimaaDoor
namespace Go.Proofs.YthionhbjmheimaaDoor
def dimsOk(env:List (ByteArray × Int)):Bool:=env.all fun p=>decide (1≤p.2∧p.2≤4)
def inferE(env:List (ByteArray × Int))(e:Ex):Int × Int:=if validB e=true∧dimsOk env=true then inferF env e else(0,1)
mutual
def mentB(s:ByteArray):Ex→Bool
 | .mk op _ _ _ nm l=>(decide (op=2)&&decide (nm=s)) || mentsB s l
def mentsB(s:ByteArray):List Ex→Bool
 | []=>false
 |e::r=>mentB s e || mentsB s r
end
theorem mentB_eq(s:ByteArray)(e:Ex):mentB s e=((decide (e.op=2)&&decide (e.name=s)) || mentsB s e.args):=by cases e;rw [mentB];rfl
theorem mentsB_take(s:ByteArray)(l:List Ex)(k:Nat)(h:k<l.length):mentsB s (l.take (k+1))=(mentsB s (l.take k) || mentB s (l.getD k default)):=by
 induction l generalizing k with
 |nil=>simp at h
 |cons e r ih=>
  cases k with
  |zero=>simp [mentsB]
  |succ k=>simp only [List.take_succ_cons,mentsB,List.getD_cons_succ];rw [ih k (by simpa using h),Bool.or_assoc]
theorem mentsB_yes(s:ByteArray)(l:List Ex)(k:Nat)(h:k<l.length)(hf:mentB s (l.getD k default)=true):mentsB s l=true:=by
 induction l generalizing k with
 |nil=>simp at h
 |cons e r ih=>
  cases k with
  |zero=>simp only [List.getD_cons_zero]at hf;simp [mentsB,hf]
  |succ k=>simp only [List.getD_cons_succ]at hf;simp [mentsB,ih k (by simpa using h) hf]
def needB(e:Ex)(ls:List (ByteArray × Ex))(i:Nat)(u:List Nat):Bool:=
 mentB (ls.getD i default).1 e || u.any fun k=>mentB (ls.getD i default).1 (ls.getD k default).2
def usesG(e:Ex)(ls:List (ByteArray × Ex)):Nat→List Nat
 |0=>[]
 |f+1=>if needB e ls (ls.length-(f+1)) (usesG e ls f)then(ls.length-(f+1))::usesG e ls f else usesG e ls f
def usesL(e:Ex)(ls:List (ByteArray × Ex)):List Nat:=usesG e ls ls.length
theorem usesG_mem{e:Ex}{ls:List (ByteArray × Ex)}:∀(f:Nat),f≤ls.length→∀i∈usesG e ls f,ls.length-f≤i∧i<ls.length
 |0,_,i,h=>by simp [usesG]at h
 |f+1,hf,i,h=>by
  rw [usesG]at h
  split at h
  ·rcases List.mem_cons.1 h with rfl|h
   ·omega
   ·have:=usesG_mem f (by omega) i h;omega
  ·have:=usesG_mem f (by omega) i h;omega
theorem usesG_asc{e:Ex}{ls:List (ByteArray × Ex)}:∀(f:Nat),f≤ls.length→(usesG e ls f).Pairwise (· < ·)
 |0,_=>by simp [usesG]
 |f+1,hf=>by
  rw [usesG]
  split
  ·exact List.pairwise_cons.2 ⟨fun i hi=>by have:=usesG_mem f (by omega) i hi;omega,usesG_asc f (by omega)⟩
  ·exact usesG_asc f (by omega)
theorem usesG_length{e:Ex}{ls:List (ByteArray × Ex)}:∀(f:Nat),(usesG e ls f).length≤f
 |0=>by simp [usesG]
 |f+1=>by
  rw [usesG]
  have:=usesG_length (e:=e) (ls:=ls) f
  split<;>simp<;>omega
theorem usesG_contains{e:Ex}{ls:List (ByteArray × Ex)}(f:Nat)(hf:f+1≤ls.length):(usesG e ls (f+1)).contains (ls.length-(f+1))=needB e ls (ls.length-(f+1)) (usesG e ls f):=by
 rw [usesG]
 split<;>rename_i h
 ·simp [h]
 ·rw [Bool.eq_false_iff.2 h]
  rw [Bool.eq_false_iff]
  intro hc
  have:=usesG_mem f (by omega) _ (List.contains_iff_mem.1 hc)
  omega
theorem usesG_sub{e:Ex}{ls:List (ByteArray × Ex)}{i:Nat}:∀(f g:Nat),f+g≤ls.length→ls.length-f≤i→i<ls.length→(i∈usesG e ls (f+g)↔i∈usesG e ls f)
 |f,0,_,_,_=>Iff.rfl
 |f,g+1,h,h1,h2=>by
  have ih:=usesG_sub (e:=e) f g (by omega) h1 h2
  show i∈usesG e ls (f+g+1)↔_
  rw [usesG]
  split
  ·rw [List.mem_cons,ih]
   constructor
   ·rintro(h3|h3)
    ·omega
    ·exact h3
   ·exact .inr
  ·exact ih
theorem infNode_name{op m:Int}{a b:Int × Int}{r:List Int × Int}(h:op≠2):infNode op m a r=infNode op m b r:=by
 unfold infNode
 by_cases c:op=1
 ·rw [if_pos c,if_pos c]
 ·rw [if_neg c,if_neg c]
  by_cases c3:op=3
  ·rw [if_pos c3,if_pos c3]
  ·rw [if_neg c3,if_neg c3,if_neg h,if_neg h]
def exprF'(v:Vw)(env:List (ByteArray × Val))(e:Ex):Val × Int:=
 if v.ok=false∨(env.any fun p=>!p.2.ok)=true∨validB e=false then(.zero,1)
 else if(inferF (dimsOf env) e).2≠0 then(.zero,(inferF (dimsOf env) e).2)
 else if(valueF v env e).2≠0 then(.zero,(valueF v env e).2)else valueF v env e
theorem expr_typed{v:Vw}{env:List (ByteArray × Val)}{e:Ex}(hv:v.ok=true)(hE:∀p∈env,p.2.ok=true)(he:validB e=true)(hi:(inferF (dimsOf env) e).2=0) :
 exprF' v env e=valueF v env e∧okR (inferF (dimsOf env) e).1 (valueF v env e):=by
 have hf:formedB e=true:=by
  unfold validB at he;simp only [Bool.and_eq_true]at he;exact he.2
 have h:=value_ok hv hE e hf hi
 refine⟨?_,h⟩
 unfold exprF'
 rw [if_neg (by
  rintro(h1|h1|h1)
  ·rw [hv]at h1;cases h1
  ·obtain⟨p,hp,h2⟩:=List.any_eq_true.1 h1
   rw [hE p hp]at h2;cases h2
  ·rw [he]at h1;cases h1),if_neg (by omega)]
 split<;>rename_i hc
 ·have:=h.bad hc
  rw [←this.1]
 ·rfl
def Desc(l:List Int):Prop:=l.Pairwise fun a b=>b≤a
theorem insD_perm(x:Int)(l:List Int):(insD x l).Perm (x::l):=by
 induction l with
 |nil=>exact List.Perm.refl _
 |cons y r ih=>
  unfold insD
  split
  ·exact(ih.cons y).trans (List.Perm.swap x y r)
  ·exact List.Perm.refl _
theorem insD_desc{x:Int}{l:List Int}(h:Desc l):Desc (insD x l):=by
 induction l with
 |nil=>simp [insD,Desc]
 |cons y r ih=>
  obtain⟨h1,h2⟩:=List.pairwise_cons.1 h
  unfold insD
  split<;>rename_i hc
  ·refine List.pairwise_cons.2 ⟨fun z hz=>?_,ih h2⟩
   rcases List.mem_cons.1 ((insD_perm x r).mem_iff.1 hz)with rfl|hz
   ·exact hc
   ·exact h1 z hz
  ·refine List.pairwise_cons.2 ⟨fun z hz=>?_,h⟩
   rcases List.mem_cons.1 hz with rfl|hz
   ·omega
   ·have:=h1 z hz;omega
theorem foldD(l:List Int):∀a:List Int,Desc a→Desc (l.foldl (fun a x=>insD x a) a)∧(l.foldl (fun a x=>insD x a) a).Perm (a++l):=by
 induction l with
 |nil=>intro a h;exact⟨h,by simp⟩
 |cons x r ih=>
  intro a h
  obtain⟨h1,h2⟩:=ih _ (insD_desc (x:=x) h)
  refine⟨h1,h2.trans ?_⟩
  exact((insD_perm x a).append_right r).trans List.perm_middle.symm
theorem sortD_desc(l:List Int):Desc (sortD l):=(foldD l [] List.Pairwise.nil).1
theorem sortD_perm(l:List Int):(sortD l).Perm l:=(foldD l [] List.Pairwise.nil).2
theorem sum_app(a b:List Int):(a++b).sum=a.sum+b.sum:=by
 induction a with
 |nil=>simp
 |cons x r ih=>simp only [List.cons_append,List.sum_cons,ih];omega
theorem mk_vfrac{n d:Int}(h:d≠0)(he:mkE n d=0):vfrac (mkN n d) (mkD n d)=true:=by
 rcases mk_ok h (n:=n)with ⟨_,h2⟩|⟨_,_,h3⟩
 ·exact h2
 ·simp only [he]at h3;omega
theorem ins_split{x:Int}:∀(l:List Int) (at_:Nat),Desc l→at_≤l.length→(at_=0∨x≤l.getD (at_-1) 0)→(∀j,at_≤j→j<l.length→l.getD j 0<x)→insD x l=l.take at_++x::l.drop at_
 | [],at_,_,h,_,_=>by simp [insD]
 |y::r,0,_,_,_,h=>by
  have:=h 0 (by omega) (by simp)
  unfold insD
  simp at this
  rw [if_neg (by omega)]
  simp
 |y::r,a+1,hd,hl,h1,h2=>by
  obtain⟨g1,g2⟩:=List.pairwise_cons.1 hd
  have hle:x≤y:=by
   rcases h1 with h1|h1
   ·omega
   ·rcases Nat.eq_zero_or_pos a with rfl|ha
    ·simpa using h1
    ·have hm:(y::r).getD a 0∈r:=by
      obtain⟨b,rfl⟩:∃b,a=b+1:=⟨a-1,by omega⟩
      rw [List.length_cons]at hl
      rw [List.getD_cons_succ,List.getD_eq_getElem?_getD,List.getElem?_eq_getElem (show b<r.length by omega)]
      exact List.getElem_mem _
     have:=g1 _ hm
     simp only [Nat.add_sub_cancel]at h1
     omega
  unfold insD
  rw [if_pos hle,List.take_succ_cons,List.drop_succ_cons,List.cons_append]
  congr 1
  refine ins_split r a g2 (by simpa using hl) ?_ (fun j hj hjl=>?_)
  ·rcases Nat.eq_zero_or_pos a with rfl|ha
   ·exact .inl rfl
   ·right
    rcases h1 with h1|h1
    ·omega
    ·obtain⟨b,rfl⟩:∃b,a=b+1:=⟨a-1,by omega⟩
     simpa using h1
  ·have:=h2 (j+1) (by omega) (by simpa using hjl)
   simpa using this
abbrev sortK(l:List Int)(k:Nat):List Int:=sortD (l.take k)
theorem sortK_succ(l:List Int)(k:Nat)(hk:k<l.length):sortK l (k+1)=insD (l.getD k 0) (sortK l k):=by
 unfold sortK sortD
 rw [List.take_succ_eq_append_getElem hk,List.foldl_append,List.getD_eq_getElem?_getD,List.getElem?_eq_getElem hk]
 rfl
theorem sortK_len(l:List Int)(k:Nat)(hk:k≤l.length):(sortK l k).length=k:=by
 have:=(sortD_perm (l.take k)).length_eq
 rw [this,List.length_take];omega
theorem sortK_desc(l:List Int)(k:Nat):Desc (sortK l k):=sortD_desc _
theorem sortK_all(l:List Int):sortK l l.length=sortD l:=by unfold sortK;rw [List.take_length]
theorem sortK_split(l:List Int)(k at_:Nat)(hk:k<l.length)(ha:at_≤k)(h1:at_=0∨l.getD k 0≤(sortK l k).getD (at_-1) 0)(h2:∀j,at_≤j→j<k→(sortK l k).getD j 0<l.getD k 0) :
 sortK l (k+1)=(sortK l k).take at_++l.getD k 0::(sortK l k).drop at_:=by
 have hn:=sortK_len l k (by omega)
 rw [sortK_succ l k hk]
 exact ins_split _ _ (sortK_desc l k) (by omega) h1 (fun j hj hjl=>h2 j hj (by omega))
abbrev sumK(l:List Int)(j:Nat):Int:=(l.take j).sum
theorem sumK_succ(l:List Int)(j:Nat)(hj:j<l.length):sumK l (j+1)=sumK l j+l.getD j 0:=by
 unfold sumK
 rw [List.take_succ_eq_append_getElem hj,sum_app,List.getD_eq_getElem?_getD,List.getElem?_eq_getElem hj]
 simp
theorem years_mem{l:List Int}(h:yearsOk l=true):l.length≤200∧∀x∈l,0≤x∧x≤1000000000000:=by
 unfold yearsOk at h
 simp only [Bool.and_eq_true,decide_eq_true_eq,List.all_eq_true]at h
 exact h
theorem sum_bd{l:List Int}(h:∀x∈l,0≤x∧x≤1000000000000):0≤l.sum∧l.sum≤1000000000000*l.length:=by
 induction l with
 |nil=>simp
 |cons x r ih=>
  have h1:=h x (by simp)
  have h2:=ih (fun y hy=>h y (by simp [hy]))
  rw [List.sum_cons,List.length_cons]
  push_cast
  omega
theorem sumK_bd{l s:List Int}(h:yearsOk l=true)(hp:s.Perm l)(j:Nat):0≤sumK s j∧sumK s j≤200000000000000:=by
 have hm:=years_mem h
 have:=sum_bd (l:=s.take j) (fun x hx=>hm.2 x (hp.mem_iff.1 (List.mem_of_mem_take hx)))
 have hl:(s.take j).length≤200:=by
  have:=hp.length_eq
  rw [List.length_take];omega
 unfold sumK
 omega
theorem getD_bd{l s:List Int}(h:yearsOk l=true)(hp:s.Perm l)(j:Nat):0≤s.getD j 0∧s.getD j 0≤1000000000000:=by
 rw [List.getD_eq_getElem?_getD]
 cases hx:s[j]? with
 |none=>simp
 |some y=>exact(years_mem h).2 y (hp.mem_iff.1 (List.mem_of_getElem? hx))
theorem mkE_small{n d:Int}(h1:0≤n)(h2:n≤1000000000000000)(h3:1≤d)(h4:d≤1000000000):mkE n d=0:=by
 exact lz20
structure VwR where
 age:Int
 year:Int
 children:Int
 base:Int
 den:Int
 days:List Int
 years:List Int
def VwR.d(R:VwR)(i:Nat):Int:=if i<R.days.length then pick (R.days.getD i 0) 20000 else 0
def viewP(R:VwR):Vw:=⟨pick R.age 110,1900+pick R.year 200,pick R.children 8,R.d 0,R.d 1,R.d 2,R.d 3,R.d 4,R.d 5,R.d 6,mkN (pick R.base 1000000) (pick R.den 12+1),mkD (pick R.base 1000000) (pick R.den 12+1),(R.years.take 20).map fun z=>pick z 5000000⟩
theorem mkN_nonneg{n d:Int}(h1:0≤n)(h2:1≤d):0≤mkN n d:=by
 unfold mkN lowN
 rw [if_neg (by omega),decide_eq_false (by omega),decide_eq_false (by omega)]
 split
 ·omega
 ·simp only [bne_self_eq_false,Bool.false_eq_true,if_false]
  exact Int.natCast_nonneg _
theorem viewP_len(R:VwR):(viewP R).years.length≤20:=by
 show((R.years.take 20).map fun z=>pick z 5000000).length≤20
 rw [List.length_map,List.length_take];omega
end Go.Proofs.YthionhbjmheimaaDoor
namespace Go.Proofs.YthionhbjmheimaaDoor
open Go.RowKit
abbrev bdN(l:List (ByteArray × Int))(i:Nat):ByteArray:=(l.getD i (ByteArray.empty,0)).1
abbrev bdD(l:List (ByteArray × Int))(i:Nat):Int:=(l.getD i (ByteArray.empty,0)).2
def BindAt(w:World)(v:Value)(l:List (ByteArray × Int)):Prop:=
 l.length≤1000∧∃a cap,v= .slice a l.length cap∧(l.length=0∨∃b off,a=some ⟨b,off,none⟩∧b<w.heap.size∧∀i,i<l.length→w.cell? ⟨b,off+i*2,none⟩=some (.string (bdN l i))∧w.cell? ⟨b,off+i*2+1,none⟩=some (.int .i64 (bdD l i)))
theorem BindAt.below{w w':World}{v:Value}{l:List (ByteArray × Int)}{n:Nat}(h:BindAt w v l)(hn:w.heap.size≤n)(hb:Below n w w'):BindAt w' v l:=by
 obtain⟨h0,a,cap,hv,h1⟩:=h
 refine⟨h0,a,cap,hv,h1.imp id ?_⟩
 rintro⟨b,off,ha,hlt,hc⟩
 refine⟨b,off,ha,Nat.lt_of_lt_of_le hlt hb.size,fun i hi=>?_⟩
 rw [hb.cell (p:=⟨b,off+i*2,none⟩) (Nat.lt_of_lt_of_le hlt hn),hb.cell (p:=⟨b,off+i*2+1,none⟩) (Nat.lt_of_lt_of_le hlt hn)]
 exact hc i hi
theorem BindAt.grows{w w':World}{v:Value}{l:List (ByteArray × Int)}(h:BindAt w v l)(hg:w.Grows w'):BindAt w' v l:=h.below (Nat.le_refl _) hg.below
theorem BindAt.grow{w:World}{v:Value}{l:List (ByteArray × Int)}(h:BindAt w v l)(bs:Array Obj)(d:Nat):BindAt (w.grow bs d) v l:=h.grows ⟨bs,d,rfl⟩
theorem BindAt.alloc{w:World}{v:Value}{l:List (ByteArray × Int)}(h:BindAt w v l)(o:Obj):BindAt (w.alloc o) v l:=h.below (Nat.le_refl _) ((Below.refl _ _).alloc (Nat.le_refl _) _)
end Go.Proofs.YthionhbjmheimaaDoor
namespace Go.Proofs.YthionhbjmheimaaDoor
open Go.RowKit Go.Shelf
attribute [local go_sem] Oper.semAt_some
abbrev BRow:=List (ByteArray × Int)
def BRow.Lies(x:BRow)(n₀:Nat)(W:World)(v:Value)(n:Nat):Prop:=
 n≤1000∧∃a cap,v= .slice a n cap∧(n=0∨∃b off,a=some ⟨b,off,none⟩∧b<n₀∧∀i,i<n→W.cell? ⟨b,off+i*2,none⟩=some (.string (bdN x i))∧W.cell? ⟨b,off+i*2+1,none⟩=some (.int .i64 (bdD x i)))
theorem BRow.Lies.below{x:BRow}{n₀ n:Nat}{W W':World}{v:Value}(h:BRow.Lies x n₀ W v n)(hb:Below n₀ W W'):BRow.Lies x n₀ W' v n:=by
 obtain⟨h0,a,cap,hv,h1⟩:=h
 refine⟨h0,a,cap,hv,h1.imp id ?_⟩
 rintro⟨b,off,ha,hlt,hc⟩
 refine⟨b,off,ha,hlt,fun i hi=>?_⟩
 rw [hb.cell (p:=⟨b,off+i*2,none⟩) hlt,hb.cell (p:=⟨b,off+i*2+1,none⟩) hlt]
 exact hc i hi
theorem BindAt.lies{W:World}{v:Value}{l:List (ByteArray × Int)}(h:BindAt W v l):BRow.Lies l W.heap.size W v l.length:=h
end Go.Proofs.YthionhbjmheimaaDoor
namespace Go.Proofs.YthionhbjmheimaaDoor
open Go.RowKit Go.Shelf
attribute [local go_sem] Oper.semAt_some
abbrev SRow:=List (ByteArray × Val)
abbrev stN(l:List (ByteArray × Val))(i:Nat):ByteArray:=(l.getD i (ByteArray.empty,Val.zero)).1
abbrev stV(l:List (ByteArray × Val))(i:Nat):Val:=(l.getD i (ByteArray.empty,Val.zero)).2
structure StepAt(W:World)(b o:Nat)(n:ByteArray)(x:Val):Prop where
 p0:W.cell? ⟨b,o,none⟩=some (.string n)
 p1:W.cell? ⟨b,o+1,none⟩=some (.int .i64 x.dim)
 p2:W.cell? ⟨b,o+2,none⟩=some (.bool x.yes)
 p3:W.cell? ⟨b,o+3,none⟩=some (.int .i64 x.n)
 p4:W.cell? ⟨b,o+4,none⟩=some (.int .i64 x.d)
theorem StepAt.same{W W':World}{b o:Nat}{n:ByteArray}{x:Val}(h:StepAt W b o n x)(hw:∀o,W'.cell? ⟨b,o,none⟩=W.cell? ⟨b,o,none⟩):StepAt W' b o n x:=
 ⟨by rw [hw];exact h.p0,by rw [hw];exact h.p1,by rw [hw];exact h.p2,by rw [hw];exact h.p3,by rw [hw];exact h.p4⟩
def SRow.Lies(x:SRow)(n₀:Nat)(W:World)(v:Value)(n:Nat):Prop:=
 n≤1000∧∃a cap,v= .slice a n cap∧(n=0∨∃b off,a=some ⟨b,off,none⟩∧b<n₀∧∀i,i<n→StepAt W b (off+i*5) (stN x i) (stV x i))
theorem SRow.Lies.below{x:SRow}{n₀ n:Nat}{W W':World}{v:Value}(h:SRow.Lies x n₀ W v n)(hb:Below n₀ W W'):SRow.Lies x n₀ W' v n:=by
 obtain⟨h0,a,cap,hv,h1⟩:=h
 refine⟨h0,a,cap,hv,h1.imp id ?_⟩
 rintro⟨b,off,ha,hlt,hc⟩
 exact⟨b,off,ha,hlt,fun i hi=>(hc i hi).same fun o=>hb.cell (p:=⟨b,o,none⟩) hlt⟩
end Go.Proofs.YthionhbjmheimaaDoor
namespace Go.Proofs.YthionhbjmheimaaDoor
open Go.RowKit
def YrAt(w:World)(v:Value)(l:List Int):Prop:=
 l.length≤1000∧∃a cap,v= .slice a l.length cap∧(l.length=0∨∃b off,a=some ⟨b,off,none⟩∧b<w.heap.size∧∀i,i<l.length→w.cell? ⟨b,off+i,none⟩=some (.int .i64 (l.getD i 0)))
theorem YrAt.below{w w':World}{v:Value}{l:List Int}{n:Nat}(h:YrAt w v l)(hn:w.heap.size≤n)(hb:Below n w w'):YrAt w' v l:=by
 obtain⟨h0,a,cap,hv,h1⟩:=h
 refine⟨h0,a,cap,hv,h1.imp id ?_⟩
 rintro⟨b,off,ha,hlt,hc⟩
 refine⟨b,off,ha,Nat.lt_of_lt_of_le hlt hb.size,fun i hi=>?_⟩
 rw [hb.cell (p:=⟨b,off+i,none⟩) (Nat.lt_of_lt_of_le hlt hn)]
 exact hc i hi
theorem YrAt.grows{w w':World}{v:Value}{l:List Int}(h:YrAt w v l)(hg:w.Grows w'):YrAt w' v l:=h.below (Nat.le_refl _) hg.below
theorem YrAt.grow{w:World}{v:Value}{l:List Int}(h:YrAt w v l)(bs:Array Obj)(d:Nat):YrAt (w.grow bs d) v l:=h.grows ⟨bs,d,rfl⟩
theorem YrAt.alloc{w:World}{v:Value}{l:List Int}(h:YrAt w v l)(o:Obj):YrAt (w.alloc o) v l:=h.below (Nat.le_refl _) ((Below.refl _ _).alloc (Nat.le_refl _) _)
theorem years_any(l:List Int):(List.range l.length).any (fun k=>!decide (0≤l.getD k 0∧l.getD k 0≤1000000000000))=!l.all fun x=>decide (0≤x∧x≤1000000000000):=by
 induction l with
 |nil=>rfl
 |cons p r ih=>
  rw [List.length_cons,List.range_succ_eq_map,List.any_cons,List.any_map,List.all_cons,Bool.not_and,←ih]
  rfl
theorem years_bad{l:List Int}{k:Nat}(hk:k<l.length)(hb:¬(0≤l.getD k 0∧l.getD k 0≤1000000000000)):yearsOk l=false:=by
 unfold yearsOk
 have:(l.all fun x=>decide (0≤x∧x≤1000000000000))=false:=by
  have h:=years_any l
  rw [show(List.range l.length).any (fun k=>!decide (0≤l.getD k 0∧l.getD k 0≤1000000000000))=true from List.any_eq_true.2 ⟨k,List.mem_range.2 hk,by rw [decide_eq_false hb];rfl⟩]at h
  simpa using h.symm
 rw [this,Bool.and_false]
theorem years_good{l:List Int}(hn:l.length≤200)(hg:∀k,k<l.length→0≤l.getD k 0∧l.getD k 0≤1000000000000):yearsOk l=true:=by
 unfold yearsOk
 have h:=years_any l
 rw [show(List.range l.length).any (fun k=>!decide (0≤l.getD k 0∧l.getD k 0≤1000000000000))=false from List.any_eq_false.2 fun k hk=>by rw [decide_eq_true (hg k (List.mem_range.1 hk))];simp]at h
 rw [decide_eq_true hn,Bool.true_and]
 simpa using h.symm
theorem amounts_any(l:List Int)(v:Value)(w:World)(h:YrAt w v l):Calls Tryd.prog 24 #[v] w fun r w'=>r= .returned (.bool (yearsOk l))∧w=w':=by
 obtain⟨h1000,a,cap,rfl,hc⟩:=h
 have Hc:=Lib.hid hc
 clear hc
 have HBAD:=Lib.hid (fun k hk hb=>years_bad (l:=l) (k:=k) hk hb)
 have HGOOD:=Lib.hid (fun hn hg=>years_good (l:=l) hn hg)
 by_cases hn:(l.length:Int)≤200
 ·go_enter Tryd.func24,Tryd.ntmps24
  go_wp2_with fail
  go_loopw [3] (fun v3 wr=>∃k:Nat,k≤l.length∧v3= .int .i64 k∧Hid (∀j,j<k→0≤l.getD j 0∧l.getD j 0≤1000000000000)∧w=wr) (fun v3 _=>l.length-(intOf v3).toNat)
  case atStart=>exact⟨0,by omega,rfl,Lib.hid (fun j hj=>by omega),rfl⟩
  case round=>
   obtain⟨k,hk,rfl,hno,rfl⟩:=hrel
   by_cases hlt:k<l.length
   ·rcases Hc.out with h0|⟨b,off,rfl,hbw,hx⟩
    ·omega
    have x0:=hx k hlt
    have d1:(k:Int)<(l.length:Int):=by omega
    have HKL:=Lib.hid hlt
    clear hx hlt
    obtain⟨dk,hdk⟩:∃dk,l.getD k 0=dk:=⟨_,rfl⟩
    rw [hdk]at x0
    have HDK:=Lib.hid hdk
    clear hdk
    by_cases h1:dk<0
    ·exact lz29
    ·by_cases h2:dk > 1000000000000
     ·exact lz29
     ·go_wp2_with fail
      go_roundw
      case rel=>exact⟨k+1,HKL.out,by go_num,Lib.hid (fun j hj=>by
       by_cases ej:j=k
       ·subst ej;rw [HDK.out];omega
       ·exact hno.out j (by omega)),(by first|rfl|trivial)⟩
      case measure=>simp [intOf];have:=HKL.out;omega
   ·obtain rfl:k=l.length:=by omega
    go_wp2_with fail
    go_returns
    exact⟨ret_bool (HGOOD.out (by omega) hno.out).symm,(by first|rfl|trivial)⟩
 ·go_enter Tryd.func24,Tryd.ntmps24
  go_wp2_with fail
  go_returns
  exact⟨ret_bool (by unfold yearsOk;rw [decide_eq_false (by omega)];rfl),(by first|rfl|trivial)⟩
def frI(r:Int × Int):Value:=.tuple #[.int .i64 r.1,.int .i64 r.2]
theorem floor_tdiv{n d:Int}(h:1≤d):n / d=n.tdiv d∨n / d=n.tdiv d-1:=by
 rw [←floor_mod h];split<;>simp
theorem Floor1_any(n d:Int)(w:World)(h1:-9223372036854775808≤n)(h2:n≤9223372036854775807)(h3:-9223372036854775808≤d)(h4:d≤9223372036854775807) :
 Calls Tryd.prog 81 #[.agg #[.int .i64 n,.int .i64 d]] w fun e w'=>e= .returned (frI (floorF n d))∧w.Grows w':=by
 have hv:=Lib.hid (fun w=>Valid1_any n d w h1 h2 h3 h4)
 generalize hx:vfrac n d=b at *
 cases b
 ·have HR:=Lib.hid (show floorF n d=(0,1)by unfold floorF;rw [hx];rfl)
  clear hx
  go_enter Tryd.func81,Tryd.ntmps81
  go_wp2_with fail
  refine(hv.out _).mono ?_
  rintro e w' ⟨rfl,bs,dr,rfl⟩
  clear hv
  go_wp2_with fail
  go_returns
  exact⟨by rw [HR.out];rfl,.of_below belB⟩
 ·have HR:=Lib.hid (show floorF n d=(n / d,0)by unfold floorF;rw [hx];rfl)
  obtain⟨k1,k2,k3,k4⟩:=vfrac_bd hx
  have hf:=floor_bd hx
  have HF:=Lib.hid (floor_mul (n:=n) k1)
  have hft:=floor_tdiv (n:=n) k1
  have hq1:-1000000000000001≤n.tdiv d:=by omega
  have hq2:n.tdiv d≤1000000000000001:=by omega
  have d0:(d==0)=false:=by simp;omega
  clear hx hf hft
  have e1:IntKind.i64.wrap (n.tdiv d)=n.tdiv d:=IntWalk.i64_in _ (by omega)
  generalize n / d=z at *
  have hp1:n.tdiv d*d≤2000000000000000∧-2000000000000000≤n.tdiv d*d:=by
   have e5:=Int.mul_tdiv_add_tmod n d
   have hb:=Int.tmod_lt_of_pos n (show 0<d by omega)
   have hc:=Int.tmod_lt_of_pos (-n) (show 0<d by omega)
   rw [Int.neg_tmod]at hc
   rw [Int.mul_comm]at e5
   omega
  have hp2:=hp1.1
  have hp3:=hp1.2
  clear hp1
  by_cases c:n<n.tdiv d*d
  focus
   have HZ:=Lib.hid (show z=n.tdiv d-1 by rw [←HF.out,if_pos c])
  rotate_left
  focus
   have HZ:=Lib.hid (show z=n.tdiv d by rw [←HF.out,if_neg c])
  rotate_left
  all_goals
   clear HF
   go_enter Tryd.func81,Tryd.ntmps81
   go_wp2_with fail
   refine(hv.out _).mono ?_
   rintro e w' ⟨rfl,bs,dr,rfl⟩
   clear hv
   go_wp2_with fail
   go_returns
   exact⟨by rw [HR.out,HZ.out];rfl,.of_below belB⟩
def cmpR(s p q:Bool):Int:=if s then(if q then -1 else if p then 1 else 0)else(if p then -1 else if q then 1 else 0)
theorem cmpR_same{an ad bn bd:Int}(h1:1≤ad)(h2:1≤bd)(h:decide (an<0)=decide (bn<0)) :
 cmpI an ad bn bd=cmpR (decide (an<0)) (decide (an.natAbs*bd.natAbs<bn.natAbs*ad.natAbs)) (decide (bn.natAbs*ad.natAbs<an.natAbs*bd.natAbs)):=by
 rw [cmp_same h1 h2 h]
 unfold cmpR
 by_cases c:an<0<;>simp [c]
def I64x4(a b c d:Int):Prop:=I64 a∧I64 b∧I64 c∧I64 d
theorem prd_ite{neg:Bool}{p q:Nat}:frV (if 1000000000000000<p∨1000000000<q then(0,0,2)else(if neg then -(p:Int)else p,q,0))=witV neg (hiW p) (loW p) (hiW q) (loW q):=(frV_wit neg p q).symm
theorem product1_core(neg:Bool)(a b c d g h H L K M:Int)(w:World)(g0:(g==0)=false)(h0:(h==0)=false)(g1:1≤g)(hh1:1≤h)(hl0:0≤L)(hm0:0≤M)
 (e1:IntKind.u64.wrap (a.tdiv g)=a / g) (e2:IntKind.u64.wrap (c.tdiv h)=c / h) (e3:IntKind.u64.wrap (b.tdiv h)=b / h) (e4:IntKind.u64.wrap (d.tdiv g)=d / g)
 (G1:Hid (∀w,Calls Tryd.prog 51 #[.int .u64 a,.int .u64 d] w fun e w'=>e= .returned (.int .u64 g)∧w.Grows w'))
 (G2:Hid (∀w,Calls Tryd.prog 51 #[.int .u64 c,.int .u64 b] w fun e w'=>e= .returned (.int .u64 h)∧w.Grows w'))
 (T1:Hid (∀w,Calls Tryd.prog 63 #[.int .u64 (a / g),.int .u64 (c / h)] w fun e w'=>e= .returned (.agg #[.int .u64 H,.int .u64 L])∧w.Grows w'))
 (T2:Hid (∀w,Calls Tryd.prog 63 #[.int .u64 (b / h),.int .u64 (d / g)] w fun e w'=>e= .returned (.agg #[.int .u64 K,.int .u64 M])∧w.Grows w')) :
 Calls Tryd.prog 92 #[.bool neg,.int .u64 a,.int .u64 b,.int .u64 c,.int .u64 d] w fun e w'=>e= .returned (witV neg H L K M)∧w.Grows w':=by
 by_cases c1:(H !=0)=true
 ·have HW:=Lib.hid (show witV neg H L K M= .tuple #[.agg #[.int .i64 0,.int .i64 0],.int .i64 2]by rw [witV,if_pos (.inl c1)])
  go_enter Tryd.func92,Tryd.ntmps92
  go_wp2_with (first|(go_at_call 51;(with_reducible refine(G1.out _).mono ?_);rintro e w' ⟨rfl,bs,dr,rfl⟩;clear G1)|(go_at_call 51;(with_reducible refine(G2.out _).mono ?_);rintro e w' ⟨rfl,bs2,dr2,rfl⟩;clear G2))
  have gz:¬g=0:=by omega
  have hz:¬h=0:=by omega
  generalize bs++bs2=B
  apply wp_region_made2b 16 (14,14,.cells #[.int .u64 0,.int .u64 0] 103) (15,15,.cells #[.int .u64 0,.int .u64 0] 103) (by kernel_rfl) (by kernel_rfl)
  case hrx=>
   intro o ho ρ w
   obtain rfl:=Option.some.inj ho
   simp [go_sem]
  case hry=>
   intro o ho ρ w
   obtain rfl:=Option.some.inj ho
   simp [go_sem]
  case h1=>
   intro bs d
   simp only [List.take_succ_cons,List.take_zero,List.map_cons,List.map_nil,Oper.mask]
   repeat(go_big_quiet_step ((go_at_call 63;first|(with_reducible exact Calls.quietM3 (T1.out _))|(with_reducible exact Calls.quietM3 (T2.out _)))))
   exact wpQuiet_nil rfl
  all_goals
   intro gb1 gd1 gb2 gd2 gb gd
   simp only [List.drop_succ_cons,List.drop_zero,Act.put,List.setIfInBounds_toArray,List.set_cons_zero,List.set_cons_succ,World.grow_grow,World.size_grow,World.size_alloc,Array.size_append]
  all_goals
   go_wp2_with fail
   go_returns
   exact⟨by rw [HW.out],.of_below belB⟩
 ·have c1':(H !=0)=false:=by simpa using c1
  by_cases c2:(1000000000000000:Int)<L
  ·have HW:=Lib.hid (show witV neg H L K M= .tuple #[.agg #[.int .i64 0,.int .i64 0],.int .i64 2]by rw [witV,if_pos (.inr (.inl c2))])
   clear c1
   go_enter Tryd.func92,Tryd.ntmps92
   go_wp2_with (first|(go_at_call 51;(with_reducible refine(G1.out _).mono ?_);rintro e w' ⟨rfl,bs,dr,rfl⟩;clear G1)|(go_at_call 51;(with_reducible refine(G2.out _).mono ?_);rintro e w' ⟨rfl,bs2,dr2,rfl⟩;clear G2))
   have gz:¬g=0:=by omega
   have hz:¬h=0:=by omega
   generalize bs++bs2=B
   apply wp_region_made2b 16 (14,14,.cells #[.int .u64 0,.int .u64 0] 103) (15,15,.cells #[.int .u64 0,.int .u64 0] 103) (by kernel_rfl) (by kernel_rfl)
   case hrx=>
    intro o ho ρ w
    obtain rfl:=Option.some.inj ho
    simp [go_sem]
   case hry=>
    intro o ho ρ w
    obtain rfl:=Option.some.inj ho
    simp [go_sem]
   case h1=>
    intro bs d
    simp only [List.take_succ_cons,List.take_zero,List.map_cons,List.map_nil,Oper.mask]
    repeat(go_big_quiet_step ((go_at_call 63;first|(with_reducible exact Calls.quietM3 (T1.out _))|(with_reducible exact Calls.quietM3 (T2.out _)))))
    exact wpQuiet_nil rfl
   all_goals
    intro gb1 gd1 gb2 gd2 gb gd
    simp only [List.drop_succ_cons,List.drop_zero,Act.put,List.setIfInBounds_toArray,List.set_cons_zero,List.set_cons_succ,World.grow_grow,World.size_grow,World.size_alloc,Array.size_append]
   all_goals
    go_wp2_with fail
    go_returns
    exact⟨by rw [HW.out],.of_below belB⟩
  ·have c2':decide ((1000000000000000:Int)<L)=false:=by simpa using c2
   by_cases c3:(K !=0)=true
   ·have HW:=Lib.hid (show witV neg H L K M= .tuple #[.agg #[.int .i64 0,.int .i64 0],.int .i64 2]by rw [witV,if_pos (.inr (.inr (.inl c3)))])
    clear c1
    go_enter Tryd.func92,Tryd.ntmps92
    go_wp2_with (first|(go_at_call 51;(with_reducible refine(G1.out _).mono ?_);rintro e w' ⟨rfl,bs,dr,rfl⟩;clear G1)|(go_at_call 51;(with_reducible refine(G2.out _).mono ?_);rintro e w' ⟨rfl,bs2,dr2,rfl⟩;clear G2))
    have gz:¬g=0:=by omega
    have hz:¬h=0:=by omega
    generalize bs++bs2=B
    apply wp_region_made2b 16 (14,14,.cells #[.int .u64 0,.int .u64 0] 103) (15,15,.cells #[.int .u64 0,.int .u64 0] 103) (by kernel_rfl) (by kernel_rfl)
    case hrx=>
     intro o ho ρ w
     obtain rfl:=Option.some.inj ho
     simp [go_sem]
    case hry=>
     intro o ho ρ w
     obtain rfl:=Option.some.inj ho
     simp [go_sem]
    case h1=>
     intro bs d
     simp only [List.take_succ_cons,List.take_zero,List.map_cons,List.map_nil,Oper.mask]
     repeat(go_big_quiet_step ((go_at_call 63;first|(with_reducible exact Calls.quietM3 (T1.out _))|(with_reducible exact Calls.quietM3 (T2.out _)))))
     exact wpQuiet_nil rfl
    all_goals
     intro gb1 gd1 gb2 gd2 gb gd
     simp only [List.drop_succ_cons,List.drop_zero,Act.put,List.setIfInBounds_toArray,List.set_cons_zero,List.set_cons_succ,World.grow_grow,World.size_grow,World.size_alloc,Array.size_append]
    all_goals
     go_wp2_with fail
     go_returns
     exact⟨by rw [HW.out],.of_below belB⟩
   ·have c3':(K !=0)=false:=by simpa using c3
    by_cases c4:(1000000000:Int)<M
    ·have HW:=Lib.hid (show witV neg H L K M= .tuple #[.agg #[.int .i64 0,.int .i64 0],.int .i64 2]by rw [witV,if_pos (.inr (.inr (.inr c4)))])
     clear c1 c3
     go_enter Tryd.func92,Tryd.ntmps92
     go_wp2_with (first|(go_at_call 51;(with_reducible refine(G1.out _).mono ?_);rintro e w' ⟨rfl,bs,dr,rfl⟩;clear G1)|(go_at_call 51;(with_reducible refine(G2.out _).mono ?_);rintro e w' ⟨rfl,bs2,dr2,rfl⟩;clear G2))
     have gz:¬g=0:=by omega
     have hz:¬h=0:=by omega
     generalize bs++bs2=B
     apply wp_region_made2b 16 (14,14,.cells #[.int .u64 0,.int .u64 0] 103) (15,15,.cells #[.int .u64 0,.int .u64 0] 103) (by kernel_rfl) (by kernel_rfl)
     case hrx=>
      intro o ho ρ w
      obtain rfl:=Option.some.inj ho
      simp [go_sem]
     case hry=>
      intro o ho ρ w
      obtain rfl:=Option.some.inj ho
      simp [go_sem]
     case h1=>
      intro bs d
      simp only [List.take_succ_cons,List.take_zero,List.map_cons,List.map_nil,Oper.mask]
      repeat(go_big_quiet_step ((go_at_call 63;first|(with_reducible exact Calls.quietM3 (T1.out _))|(with_reducible exact Calls.quietM3 (T2.out _)))))
      exact wpQuiet_nil rfl
     all_goals
      intro gb1 gd1 gb2 gd2 gb gd
      simp only [List.drop_succ_cons,List.drop_zero,Act.put,List.setIfInBounds_toArray,List.set_cons_zero,List.set_cons_succ,World.grow_grow,World.size_grow,World.size_alloc,Array.size_append]
     all_goals
      go_wp2_with fail
      go_returns
      exact⟨by rw [HW.out],.of_below belB⟩
    ·have c4':decide ((1000000000:Int)<M)=false:=by simpa using c4
     have HW:=Lib.hid (show witV neg H L K M= .tuple #[.agg #[.int .i64 (if neg then -L else L),.int .i64 M],.int .i64 0]by
      rw [witV,if_neg]
      rintro(x|x|x|x)
      ·exact c1 x
      ·exact c2 x
      ·exact c3 x
      ·exact c4 x)
     clear c1 c3
     cases neg
     all_goals
      go_enter Tryd.func92,Tryd.ntmps92
      go_wp2_with (first|(go_at_call 51;(with_reducible refine(G1.out _).mono ?_);rintro e w' ⟨rfl,bs,dr,rfl⟩;clear G1)|(go_at_call 51;(with_reducible refine(G2.out _).mono ?_);rintro e w' ⟨rfl,bs2,dr2,rfl⟩;clear G2))
      have gz:¬g=0:=by omega
      have hz:¬h=0:=by omega
      generalize bs++bs2=B
      apply wp_region_made2b 16 (14,14,.cells #[.int .u64 0,.int .u64 0] 103) (15,15,.cells #[.int .u64 0,.int .u64 0] 103) (by kernel_rfl) (by kernel_rfl)
      case hrx=>
       intro o ho ρ w
       obtain rfl:=Option.some.inj ho
       simp [go_sem]
      case hry=>
       intro o ho ρ w
       obtain rfl:=Option.some.inj ho
       simp [go_sem]
      case h1=>
       intro bs d
       simp only [List.take_succ_cons,List.take_zero,List.map_cons,List.map_nil,Oper.mask]
       repeat(go_big_quiet_step ((go_at_call 63;first|(with_reducible exact Calls.quietM3 (T1.out _))|(with_reducible exact Calls.quietM3 (T2.out _)))))
       exact wpQuiet_nil rfl
      all_goals
       intro gb1 gd1 gb2 gd2 gb gd
       simp only [List.drop_succ_cons,List.drop_zero,Act.put,List.setIfInBounds_toArray,List.set_cons_zero,List.set_cons_succ,World.grow_grow,World.size_grow,World.size_alloc,Array.size_append]
      all_goals
       go_wp2_with fail
       go_returns
       exact⟨by rw [HW.out];rfl,.of_below belB⟩
theorem product1_any(neg:Bool)(n d m k:Nat)(w:World)(h1:n<18446744073709551616)(h2:d<18446744073709551616)(h3:m<18446744073709551616)(h4:k<18446744073709551616)(hd:0<d)(hk:0<k) :
 Calls Tryd.prog 92 #[.bool neg,.int .u64 n,.int .u64 d,.int .u64 m,.int .u64 k] w fun e w'=>e= .returned (frV (prdF neg n d m k))∧w.Grows w':=by
 have g1:0<Nat.gcd n k:=Nat.gcd_pos_of_pos_right _ hk
 have g2:0<Nat.gcd m d:=Nat.gcd_pos_of_pos_right _ hd
 have b1:n / Nat.gcd n k≤n:=Nat.div_le_self _ _
 have b2:m / Nat.gcd m d≤m:=Nat.div_le_self _ _
 have b3:d / Nat.gcd m d≤d:=Nat.div_le_self _ _
 have b4:k / Nat.gcd n k≤k:=Nat.div_le_self _ _
 rw [show frV (prdF neg n d m k)=witV neg (hiW (prdX n k m d)) (loW (prdX n k m d)) (hiW (prdX d m k n)) (loW (prdX d m k n))from prd_ite]
 refine product1_core neg n d m k (Nat.gcd n k:Nat) (Nat.gcd m d:Nat) _ _ _ _ w
  (by simp;omega) (by simp;omega) (by omega) (by omega) (loW_bd _).1 (loW_bd _).1 (quo_u64 (by omega) (by omega) (by omega)) (quo_u64 (by omega) (by omega) (by omega)) (quo_u64 (by omega) (by omega) (by omega)) (quo_u64 (by omega) (by omega) (by omega))
  (fun w=>?_) (fun w=>?_) (fun w=>?_) (fun w=>?_)
 ·have:=gcd1_any n k w (by omega) (by omega) (by omega) (by omega)
  rw [gcdI_nat]at this
  exact Calls.quietD this
 ·have:=gcd1_any m d w (by omega) (by omega) (by omega) (by omega)
  rw [gcdI_nat]at this
  exact Calls.quietD this
 ·rw [ediv_nat,ediv_nat]
  exact times1_any _ _ w (by omega) (by omega)
 ·rw [ediv_nat,ediv_nat,←prdX_comm]
  exact times1_any _ _ w (by omega) (by omega)
def ordR(s p:Bool):Int:=if p==s then 1 else -1
theorem order1_core(an ad bn bd xh xl yh yl:Int)(s p:Bool)(w:World)(hne:¬(an=bn∧ad=bd))(hs1:decide (an<0)=s)(hs2:decide (bn<0)=s)
 (Z:Hid (∀n,I64 n→∀w,Calls Tryd.prog 31 #[.int .i64 n] w fun e w'=>e= .returned (.int .u64 (absI n))∧w=w')) (I1:I64 an) (I2:I64 ad) (I3:I64 bn) (I4:I64 bd)
 (T1:Hid (∀w,Calls Tryd.prog 63 #[.int .u64 (absI an),.int .u64 bd] w fun e w'=>e= .returned (.agg #[.int .u64 xh,.int .u64 xl])∧w.Grows w')) (T2:Hid (∀w,Calls Tryd.prog 63 #[.int .u64 (absI bn),.int .u64 ad] w fun e w'=>e= .returned (.agg #[.int .u64 yh,.int .u64 yl])∧w.Grows w')) (u1:IntKind.u64.wrap ad=ad) (u2:IntKind.u64.wrap bd=bd)
 (L1:Hid (∀w,Calls Tryd.prog 64 #[.agg #[.int .u64 xh,.int .u64 xl],.agg #[.int .u64 yh,.int .u64 yl]] w fun e w'=>e= .returned (.bool p)∧w.Grows w'))
 :Calls Tryd.prog 43 #[.agg #[.int .i64 an,.int .i64 ad],.agg #[.int .i64 bn,.int .i64 bd]] w fun e w'=>e= .returned (.int .i64 (ordR s p))∧w.Grows w':=by
 by_cases e1:an=bn
 focus
  have e2:ad≠bd:=fun h=>hne ⟨e1,h⟩
  have d2:(ad==bd)=false:=by simpa using e2
  clear hne
  subst e1
  go_enter Tryd.func43,Tryd.ntmps43
  go_wp2_with fail
  refine Code.abs fun W0 hW0=>?_
  have y0:W0.cell? ⟨w.heap.size,0,none⟩=some (.int .i64 an):=by rw [←hW0];simp [go_sem]
  have y1:W0.cell? ⟨w.heap.size,1,none⟩=some (.int .i64 ad):=by rw [←hW0];simp [go_sem]
  have y2:W0.cell? ⟨w.heap.size+1,0,none⟩=some (.int .i64 an):=by rw [←hW0];simp [go_sem]
 rotate_left
 focus
  have d1:(an==bn)=false:=by simpa using e1
  clear hne
  go_enter Tryd.func43,Tryd.ntmps43
  go_wp2_with fail
  refine Code.abs fun W0 hW0=>?_
  have y0:W0.cell? ⟨w.heap.size,0,none⟩=some (.int .i64 an):=by rw [←hW0];simp [go_sem]
  have y1:W0.cell? ⟨w.heap.size,1,none⟩=some (.int .i64 ad):=by rw [←hW0];simp [go_sem]
  have y2:W0.cell? ⟨w.heap.size+1,0,none⟩=some (.int .i64 bn):=by rw [←hW0];simp [go_sem]
 rotate_left
 all_goals
  have y3:W0.cell? ⟨w.heap.size+1,1,none⟩=some (.int .i64 bd):=by rw [←hW0];simp [go_sem]
  have hby:Below w.heap.size w W0:=by rw [←hW0];(exact belB)
  have hq0:w.heap.size<W0.heap.size:=by rw [←hW0];simp;try omega
  have hq1:w.heap.size+1<W0.heap.size:=by rw [←hW0];simp;try omega
  clear hW0
  apply wp_region_made2 16 (14,5,.cells #[.int .u64 0,.int .u64 0] 103) (15,6,.cells #[.int .u64 0,.int .u64 0] 103) (by kernel_rfl) (by kernel_rfl)
  case hrx=>
   intro o ho ρ w
   obtain rfl:=Option.some.inj ho
   simp [go_sem]
  case hry=>
   intro o ho ρ w
   obtain rfl:=Option.some.inj ho
   simp [go_sem]
  case h1=>
   intro bs d
   simp only [List.take_succ_cons,List.take_zero,List.map_cons,List.map_nil,Oper.mask]
   repeat(go_big_quiet_step ((first|(go_at_call 31;(with_reducible exact Calls.quietMS (Z.out _ (by assumption) _)))|(go_at_call 63;first|(with_reducible exact Calls.quietM (T1.out _))|(with_reducible exact Calls.quietM (T2.out _))))))
   exact wpQuiet_nil rfl
  all_goals
   intro gb1 gd1 gb2 gd2 gb gd
   simp only [List.drop_succ_cons,List.drop_zero,Act.put,List.setIfInBounds_toArray,List.set_cons_zero,List.set_cons_succ]
  focus
   clear T1 T2 Z
   go_wp2_with fail
   refine Code.abs fun W hW=>?_
   have x0:W.cell? ⟨w.heap.size,0,none⟩=some (.int .i64 an):=by rw [←hW];simp [go_sem,hq0,hq1,y0]
   have x1:W.cell? ⟨W0.heap.size+gb1.size,0,none⟩=some (.int .u64 xh):=by rw [←hW];simp [go_sem]
   have x2:W.cell? ⟨W0.heap.size+gb1.size,1,none⟩=some (.int .u64 xl):=by rw [←hW];simp [go_sem]
   have x3:W.cell? ⟨W0.heap.size+gb1.size+1+gb2.size,0,none⟩=some (.int .u64 yh):=by rw [←hW];simp [go_sem]
   have x4:W.cell? ⟨W0.heap.size+gb1.size+1+gb2.size,1,none⟩=some (.int .u64 yl):=by rw [←hW];simp [go_sem]
  rotate_left
  focus
   clear T1 T2 Z
   go_wp2_with fail
   refine Code.abs fun W hW=>?_
   have x0:W.cell? ⟨w.heap.size,0,none⟩=some (.int .i64 an):=by rw [←hW];simp [go_sem,hq0,hq1,y0]
   have x1:W.cell? ⟨W0.heap.size+gb1.size,0,none⟩=some (.int .u64 yh):=by rw [←hW];simp [go_sem]
   have x2:W.cell? ⟨W0.heap.size+gb1.size,1,none⟩=some (.int .u64 yl):=by rw [←hW];simp [go_sem]
   have x3:W.cell? ⟨W0.heap.size+gb1.size+1+gb2.size,0,none⟩=some (.int .u64 xh):=by rw [←hW];simp [go_sem]
   have x4:W.cell? ⟨W0.heap.size+gb1.size+1+gb2.size,1,none⟩=some (.int .u64 xl):=by rw [←hW];simp [go_sem]
  rotate_left
  all_goals
   have hbw:Below w.heap.size w W:=by rw [←hW];(exact belB)
   have hz0:w.heap.size<W.heap.size:=by rw [←hW];simp;omega
   have hz1:W0.heap.size+gb1.size+1+gb2.size<W.heap.size:=by rw [←hW];simp;omega
   have hz2:W0.heap.size+gb1.size<W.heap.size:=by omega
   clear hW
   refine wp_region_quietG (by kernel_rfl) (by kernel_rfl) ?_
   repeat(go_big_quiet_step ((go_at_call 64;exact Calls.quietG (L1.out _))))
   refine wpQuiet_nil ?_
   intro _ hw'
   obtain⟨⟨gb,gd⟩,hw''⟩:=hw'
   subst hw''
   cases s<;>cases p
   all_goals
    go_wp2_with fail
    go_returns
    exact⟨rfl,.of_below belB⟩
theorem times_nn{F:FuncId}(T:∀(a b:Nat) (w:World),a<18446744073709551616→b<18446744073709551616→Calls Tryd.prog F #[.int .u64 a,.int .u64 b] w fun e w'=>e= .returned (.agg #[.int .u64 (hiW (a*b)),.int .u64 (loW (a*b))])∧w.Grows w')
 {a b:Int} (ha:I64 a) (hb:0≤b) (hb2:b≤9223372036854775807) (w:World):Calls Tryd.prog F #[.int .u64 (absI a),.int .u64 b] w fun e w'=>e= .returned (.agg #[.int .u64 (hiW (a.natAbs*b.natAbs)),.int .u64 (loW (a.natAbs*b.natAbs))])∧w.Grows w':=by
 unfold I64 at ha
 have:=T a.natAbs b.natAbs w (by omega) (by omega)
 rwa [show((b.natAbs:Nat):Int)=b by omega]at this
theorem ordR_same{an ad bn bd:Int}(ha:vfrac an ad=true)(hb:vfrac bn bd=true)(hne:¬(an=bn∧ad=bd))(h:decide (an<0)=decide (bn<0)) :
 cmpI an ad bn bd=ordR (decide (an<0)) (decide (an.natAbs*bd.natAbs<bn.natAbs*ad.natAbs)):=by
 have b1:=vfrac_bd ha
 have b2:=vfrac_bd hb
 rw [cmpR_same b1.1 b2.1 h]
 have hx:an.natAbs*bd.natAbs≠bn.natAbs*ad.natAbs:=by
  intro hc
  apply hne
  refine frac_eq ha hb ?_
  have e1:=abs_mul (a:=an) b2.1
  have e2:=abs_mul (a:=bn) b1.1
  rw [e1,e2,hc]
  by_cases c:an<0
  ·have:bn<0:=by simpa [c]using h
   rw [if_pos c,if_pos this]
  ·have:¬bn<0:=by simpa [c]using h
   rw [if_neg c,if_neg this]
 unfold cmpR ordR
 generalize an.natAbs*bd.natAbs=X at *
 generalize bn.natAbs*ad.natAbs=Y at *
 by_cases c:an<0<;>by_cases d:X<Y<;>by_cases e:Y<X<;>simp [c,d,e]<;>omega
theorem order1_same(an ad:Int)(w:World):Calls Tryd.prog 43 #[.agg #[.int .i64 an,.int .i64 ad],.agg #[.int .i64 an,.int .i64 ad]] w fun e w'=>e= .returned (.int .i64 0)∧w.Grows w':=by
 go_enter Tryd.func43,Tryd.ntmps43
 exact lz13
theorem order1_diff(an ad bn bd r:Int)(w:World)(hd:decide (an<0)≠decide (bn<0))(hr:Hid (r=if an<0 then -1 else 1)):Calls Tryd.prog 43 #[.agg #[.int .i64 an,.int .i64 ad],.agg #[.int .i64 bn,.int .i64 bd]] w fun e w'=>e= .returned (.int .i64 r)∧w.Grows w':=by
 have d0:(an==bn)=false:=by
  rw [beq_eq_false_iff_ne];intro h;rw [h]at hd;exact hd rfl
 by_cases c:an<0
 ·have d1:decide (an<0)=true:=by simpa using c
  have d2:decide (bn<0)=false:=by simp [c]at hd;simpa using hd
  have HR:=Lib.hid (show r= -1 by rw [hr.out,if_pos c])
  exact lz30
 ·have d1:decide (an<0)=false:=by simpa using c
  have d2:decide (bn<0)=true:=by simp [c]at hd;simpa using hd
  have HR:=Lib.hid (show r=1 by rw [hr.out,if_neg c])
  exact lz30
theorem order1_any(an ad bn bd:Int)(w:World)(hva:vfrac an ad=true)(hvb:vfrac bn bd=true) :
 Calls Tryd.prog 43 #[.agg #[.int .i64 an,.int .i64 ad],.agg #[.int .i64 bn,.int .i64 bd]] w fun e w'=>e= .returned (.int .i64 (cmpI an ad bn bd))∧w.Grows w':=by
 have b1:=vfrac_bd hva
 have b2:=vfrac_bd hvb
 have i1:I64 an:=by unfold I64;omega
 have i2:I64 ad:=by unfold I64;omega
 have i3:I64 bn:=by unfold I64;omega
 have i4:I64 bd:=by unfold I64;omega
 by_cases he:an=bn∧ad=bd
 ·obtain⟨rfl,rfl⟩:=he
  rw [show cmpI an ad an ad=0 by unfold cmpI;rw [if_neg (by omega),if_neg (by omega)]]
  exact order1_same an ad w
 ·by_cases hs:decide (an<0)=decide (bn<0)
  ·rw [ordR_same hva hvb he hs]
   refine order1_core an ad bn bd _ _ _ _ _ _ w he rfl hs.symm (fun n h w=>size1_any n w h.1 h.2) i1 i2 i3 i4 (times_nn times1_any i1 (by omega) (by omega)) (times_nn times1_any i3 (by omega) (by omega)) (IntWalk.u64_in _ (by omega)) (IntWalk.u64_in _ (by omega)) ?_
   intro w;have:=less1_any (hiW (an.natAbs*bd.natAbs)) (loW (an.natAbs*bd.natAbs)) (hiW (bn.natAbs*ad.natAbs)) (loW (bn.natAbs*ad.natAbs)) w;rwa [wless_nat]at this
  ·rw [cmp_diff b1.1 b2.1 hs]
   exact order1_diff an ad bn bd _ w hs (Lib.hid rfl)
theorem cmp1_yes(an ad bn bd r:Int)(w:World)
 (V1:Hid (∀w,Calls Tryd.prog 37 #[.agg #[.int .i64 an,.int .i64 ad]] w fun e w'=>e= .returned (.bool true)∧w.Grows w')) (V2:Hid (∀w,Calls Tryd.prog 37 #[.agg #[.int .i64 bn,.int .i64 bd]] w fun e w'=>e= .returned (.bool true)∧w.Grows w'))
 (O:Hid (∀w,Calls Tryd.prog 43 #[.agg #[.int .i64 an,.int .i64 ad],.agg #[.int .i64 bn,.int .i64 bd]] w fun e w'=>e= .returned (.int .i64 r)∧w.Grows w'))
 :Calls Tryd.prog 23 #[.agg #[.int .i64 an,.int .i64 ad],.agg #[.int .i64 bn,.int .i64 bd]] w fun e w'=>e= .returned (frI (r,0))∧w.Grows w':=by
 go_enter Tryd.func23,Tryd.ntmps23
 go_wp2_with (first|(go_at_call 37;(with_reducible refine(V1.out _).mono ?_);rintro e w' ⟨rfl,bs,dr,rfl⟩)|(go_at_call 37;(with_reducible refine(V2.out _).mono ?_);rintro e w' ⟨rfl,bs2,dr2,rfl⟩)|(go_at_call 43;(with_reducible refine(O.out _).mono ?_);rintro e w' ⟨rfl,bs3,dr3,rfl⟩))
 go_returns
 exact⟨rfl,.of_below belB⟩
theorem cmp1_no(an ad bn bd:Int)(p q:Bool)(w:World)(hpq:(p&&q)=false)
 (V1:Hid (∀w,Calls Tryd.prog 37 #[.agg #[.int .i64 an,.int .i64 ad]] w fun e w'=>e= .returned (.bool p)∧w.Grows w')) (V2:Hid (∀w,Calls Tryd.prog 37 #[.agg #[.int .i64 bn,.int .i64 bd]] w fun e w'=>e= .returned (.bool q)∧w.Grows w'))
 :Calls Tryd.prog 23 #[.agg #[.int .i64 an,.int .i64 ad],.agg #[.int .i64 bn,.int .i64 bd]] w fun e w'=>e= .returned (frI (0,1))∧w.Grows w':=by
 have O:Hid True:=Lib.hid trivial
 cases p<;>cases q
 all_goals first
  |(exfalso;simp at hpq;done)
  |(clear hpq
    skip)
 all_goals
  go_enter Tryd.func23,Tryd.ntmps23
  go_wp2_with (first|(go_at_call 37;(with_reducible refine(V1.out _).mono ?_);rintro e w' ⟨rfl,bs,dr,rfl⟩)|(go_at_call 37;(with_reducible refine(V2.out _).mono ?_);rintro e w' ⟨rfl,bs2,dr2,rfl⟩)|(go_at_call 43;(with_reducible refine(O.out _).mono ?_);rintro e w' ⟨rfl,bs3,dr3,rfl⟩))
  go_returns
  exact⟨rfl,.of_below belB⟩
theorem Compare1_any(an ad bn bd:Int)(w:World)(hi:I64x4 an ad bn bd) :
 Calls Tryd.prog 23 #[.agg #[.int .i64 an,.int .i64 ad],.agg #[.int .i64 bn,.int .i64 bd]] w fun e w'=>e= .returned (frI (cmpF an ad bn bd))∧w.Grows w':=by
 obtain⟨i1,i2,i3,i4⟩:=hi
 have V1:=Lib.hid (fun w=>Valid1_any an ad w i1.1 i1.2 i2.1 i2.2)
 have V2:=Lib.hid (fun w=>Valid1_any bn bd w i3.1 i3.2 i4.1 i4.2)
 by_cases hv:(vfrac an ad&&vfrac bn bd)=true
 ·have hva:=(Bool.and_eq_true_iff.1 hv).1
  have hvb:=(Bool.and_eq_true_iff.1 hv).2
  rw [show cmpF an ad bn bd=(cmpI an ad bn bd,0)by unfold cmpF;rw [if_pos hv]]
  have O:=Lib.hid (fun w=>order1_any an ad bn bd w hva hvb)
  rw [hva]at V1
  rw [hvb]at V2
  exact cmp1_yes an ad bn bd _ w V1 V2 O
 ·rw [show cmpF an ad bn bd=(0,1)by unfold cmpF;rw [if_neg hv]]
  exact cmp1_no an ad bn bd _ _ w (Bool.eq_false_iff.2 hv) V1 V2
end Go.Proofs.YthionhbjmheimaaDoor
