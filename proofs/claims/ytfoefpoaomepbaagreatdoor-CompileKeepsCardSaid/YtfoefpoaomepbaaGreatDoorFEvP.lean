import Derived.Test.YtfoefpoaomepbaaGreatDoorFTk1
import Derived.Test.YtfoefpoaomepbaaGreatDoorFK
import Derived.RangeFuncNested
import Derived.RangeFuncBound
import Derived.RangeFuncCalls
import Derived.RangeFuncLeaves
import Derived.Shelf.Abstract
import Derived.Shelf.RegionOpen
import Derived.WalkKit
import Derived.OwnWalkIn
import Derived.TacticsInMore
import Derived.LoopNIn
import Derived.LoopIn
import Derived.Laws.Strings
set_option linter.all false
set_option maxHeartbeats 16000000
set_option maxRecDepth 1000000
namespace Go.Proofs.YtfoefpoaomepbaaGreatDoor

structure Val where
 dim:Int
 yes:Bool
 n:Int
 d:Int
namespace Val
def zero:Val:=⟨0,false,0,0⟩
def num(m n d:Int):Val:=⟨m,false,n,d⟩
def truth(b:Bool):Val:=⟨1,b,0,0⟩
def ok(x:Val):Bool:=if x.dim=1 then decide (x.n=0∧x.d=0)else decide (2≤x.dim∧x.dim≤4)&&!x.yes&&vfrac x.n x.d
end Val
structure Vw where
 age:Int
 year:Int
 children:Int
 insured:Int
 worked:Int
 voluntary:Int
 service:Int
 equated:Int
 raising:Int
 resident:Int
 bn:Int
 bd:Int
 years:List Int
def yearsOk(l:List Int):Bool:=decide (l.length≤200)&&l.all fun x=>decide (0≤x∧x≤1000000000000)
def daysOk(z:Int):Bool:=decide (0≤z∧z≤73049)
def Vw.ok(v:Vw):Bool:=decide (0≤v.age∧v.age≤199∧1900≤v.year∧v.year≤2099∧0≤v.children∧v.children≤99)&&
 (daysOk v.insured&&daysOk v.worked&&daysOk v.voluntary&&daysOk v.service&&daysOk v.equated&&daysOk v.raising&&daysOk v.resident)&&
 (vfrac v.bn v.bd&&decide (0≤v.bn∧v.bn≤1000000000000*v.bd))&&yearsOk v.years
def Vw.numF(v:Vw)(s:List UInt8):Int × Int:=
 if s= [98,97,115,101]then(v.bn,v.bd)
 else if s= [97,103,101]then(v.age,1)else if s= [121,101,97,114]then(v.year,1)else if s= [99,104,105,108,100,114,101,110]then(v.children,1)
 else if s= [105,110,115,117,114,101,100]then(v.insured,1)else if s= [119,111,114,107,101,100]then(v.worked,1)else if s= [118,111,108,117,110,116,97,114,121]then(v.voluntary,1)
 else if s= [115,101,114,118,105,99,101]then(v.service,1)else if s= [101,113,117,97,116,101,100]then(v.equated,1)else if s= [114,97,105,115,105,110,103]then(v.raising,1)
 else if s= [114,101,115,105,100,101,110,116]then(v.resident,1)else(0,1)
def inputV(v:Vw)(s:ByteArray):Option Val:=if inpD s.toList=0∨v.ok=false then none else some (.num (inpD s.toList) (v.numF s.toList).1 (v.numF s.toList).2)

def insD(x:Int):List Int→List Int
 | []=>[x]
 |y::r=>if x≤y then y::insD x r else x::y::r
def sortD(l:List Int):List Int:=l.foldl (fun a x=>insD x a) []
def bestS(l:List Int)(n:Int):Int:=((sortD l).take n.toNat).sum
def bestF(l:List Int)(n:Int):Int × Int × Int:=if n<1∨45<n∨yearsOk l=false then(0,0,1)else(mkN (bestS l n) n,mkD (bestS l n) n,mkE (bestS l n) n)

def lastN{α:Type}(env:List (ByteArray × α))(s:ByteArray):Option α:=(env.reverse.find? fun p=>decide (p.1=s)).map Prod.snd

def resD(op:Int)(d:List Int):Int:=
 let a:=d.getD 0 0;let b:=d.getD 1 0;let c:=d.getD 2 0
 if op=5 then(if a=1 then 1 else 0)
 else if op=4∨op=6 then(if a≠1 then a else 0)
 else if op=7∨op=8∨op=19∨op=20 then(if a=b∧a≠1 then a else 0)
 else if op=9 then(if a=2∧b≠1 then b else if b=2∧a≠1 then a else 0)
 else if op=10 then(if b=2∧a≠1 then a else if a=b∧a≠1 then 2 else 0)
 else if op=17∨op=18 then(if a=1∧b=1 then 1 else 0)
 else if op=21 then(if a=1∧b=c then b else 0)
 else if a=b∧a≠1 then 1 else 0
def inferN(env:List (ByteArray × Int))(s:ByteArray):Int × Int:=
 if inpD s.toList≠0 then(inpD s.toList,0)else match lastN env s with|some m=>(m,0)|none=>(0,5)
def infNode(op m:Int)(nm:Int × Int)(r:List Int × Int):Int × Int:=
 if op=1 then(m,0)else if op=3 then(4,0)else if op=2 then nm
 else if r.2≠0 then(0,r.2)else if resD op r.1=0 then(0,6)else(resD op r.1,0)
mutual
def inferF(env:List (ByteArray × Int)):Ex→Int × Int
 | .mk op _ _ m s l=>infNode op m (inferN env s) (infersF env l)
def infersF(env:List (ByteArray × Int)):List Ex→List Int × Int
 | []=>([],0)
 |e::r=>if(inferF env e).2≠0 then([],(inferF env e).2)else if(infersF env r).2≠0 then([],(infersF env r).2)else((inferF env e).1::(infersF env r).1,0)
end

def numR(m:Int)(r:Int × Int × Int):Val × Int:=if r.2.2=0 then(.num m r.1 r.2.1,0)else(.zero,r.2.2)
def cmpB(op c:Int):Bool:=if op=11 then decide (c<0)else if op=12 then decide (c≤0)else if op=13 then decide (c=0)else if op=14 then decide (c≠0)else if op=15 then decide (c > 0)else decide (c≥0)
def op1(op:Int)(a:Val):Val × Int:=if op=5 then(.truth (!a.yes),0)else if op=6 then numR a.dim ((floorF a.n a.d).1,1,(floorF a.n a.d).2)else numR a.dim (negF a.n a.d)
def op2(op:Int)(a b:Val):Val × Int:=
 if op=7 then numR a.dim (addF a.n a.d b.n b.d)else if op=8 then numR a.dim (subF a.n a.d b.n b.d)
 else if op=9 then numR (resD 9 [a.dim,b.dim]) (mulF a.n a.d b.n b.d)else if op=10 then numR (resD 10 [a.dim,b.dim]) (divF a.n a.d b.n b.d)
 else if op=19 then(if cmpI a.n a.d b.n b.d≤0 then .num a.dim a.n a.d else .num a.dim b.n b.d,0)
 else if op=20 then(if 0≤cmpI a.n a.d b.n b.d then .num a.dim a.n a.d else .num a.dim b.n b.d,0)
 else(.truth (cmpB op (cmpI a.n a.d b.n b.d)),0)
def nameF(v:Vw)(env:List (ByteArray × Val))(s:ByteArray):Val × Int:=
 match inputV v s with
 |some x=>(x,0)
 |none=>match lastN env s with|some x=>(x,0)|none=>(.zero,5)
def valNode(v:Vw)(op n d m:Int)(nm:Val × Int)(rs:List (Val × Int)):Val × Int:=
 let r0:=rs.getD 0 (.zero,0);let r1:=rs.getD 1 (.zero,0);let r2:=rs.getD 2 (.zero,0)
 if op=1 then(.num m n d,0)else if op=2 then nm else if op=3 then numR 4 (bestF v.years n)
 else if r0.2≠0 then(.zero,r0.2)
 else if op=17 then(if r0.1.yes=true then r1 else r0)else if op=18 then(if r0.1.yes=true then r0 else r1)
 else if op=21 then(if r0.1.yes=true then r1 else r2)
 else if op≤6 then op1 op r0.1
 else if r1.2≠0 then(.zero,r1.2)else op2 op r0.1 r1.1
mutual
def valueF(v:Vw)(env:List (ByteArray × Val)):Ex→Val × Int
 | .mk op n d m s l=>valNode v op n d m (nameF v env s) (valuesF v env l)
def valuesF(v:Vw)(env:List (ByteArray × Val)):List Ex→List (Val × Int)
 | []=>[]
 |e::r=>valueF v env e::valuesF v env r
end
theorem inferF_eq(env:List (ByteArray × Int))(e:Ex):inferF env e=infNode e.op e.dim (inferN env e.name) (infersF env e.args):=by cases e;rw [inferF];rfl
theorem valueF_eq(v:Vw)(env:List (ByteArray × Val))(e:Ex):valueF v env e=valNode v e.op e.num e.den e.dim (nameF v env e.name) (valuesF v env e.args):=by cases e;rw [valueF];rfl
def dimsOf(env:List (ByteArray × Val)):List (ByteArray × Int):=env.map fun p=>(p.1,p.2.dim)

theorem Val.num_ok{m n d:Int}(hm:2≤m∧m≤4)(h:vfrac n d=true):(Val.num m n d).ok=true:=by
 unfold Val.ok Val.num
 rw [if_neg (show ¬m=1 by omega)]
 show(decide (2≤m∧m≤4)&&!false&&vfrac n d)=true
 rw [h,decide_eq_true hm];rfl
def okR(m:Int)(r:Val × Int):Prop:=(r.2=0∧r.1.ok=true∧r.1.dim=m)∨(r.1= .zero∧(r.2=2∨r.2=3))
theorem okR_num{m:Int}{r:Int × Int × Int}(hm:2≤m∧m≤4)(h:okF r):okR m (numR m r):=by
 unfold numR
 rcases h with ⟨h1,h2⟩|⟨-,-,h3⟩
 ·rw [if_pos h1]
  refine .inl ⟨rfl, ?_,rfl⟩
  exact Val.num_ok hm h2
 ·rw [if_neg (by omega)]
  exact .inr ⟨rfl,h3⟩
theorem okR_truth(b:Bool):okR 1 (.truth b,0):=.inl ⟨rfl,by simp [Val.ok,Val.truth],rfl⟩
theorem Val.ok_num{x:Val}(h:x.ok=true)(hd:x.dim≠1):2≤x.dim∧x.dim≤4∧x.yes=false∧vfrac x.n x.d=true:=by
 unfold Val.ok at h
 rw [if_neg hd]at h
 simp only [Bool.and_eq_true,decide_eq_true_eq,Bool.not_eq_true']at h
 exact⟨h.1.1.1,h.1.1.2,h.1.2,h.2⟩
theorem Val.ok_dim{x:Val}(h:x.ok=true):1≤x.dim∧x.dim≤4:=by
 by_cases hd:x.dim=1
 ·omega
 ·have:=Val.ok_num h hd;omega
theorem vfrac_whole{n:Int}(h1:-1000000000000000≤n)(h2:n≤1000000000000000):vfrac n 1=true:=vfrac_of ⟨by omega,by omega,h1,h2⟩ (by simp)
theorem floor_bd{n d:Int}(h:vfrac n d=true):-1000000000000000≤n / d∧n / d≤1000000000000000:=by
 have:=vfrac_bd h
 constructor
 ·rw [Int.le_ediv_iff_mul_le (by omega)]
  omega
 ·have h3:n / d<1000000000000001:=Int.ediv_lt_of_lt_mul (by omega) (by omega)
  omega
theorem negF_ok{n d:Int}(h:vfrac n d=true):okF (negF n d):=by
 unfold negF;rw [if_pos h];exact .inl ⟨rfl,by rw [vfrac_neg];exact h⟩
theorem floor_ok{n d:Int}(h:vfrac n d=true):okF ((floorF n d).1,1,(floorF n d).2):=by
 unfold floorF;rw [if_pos h];have:=floor_bd h;exact .inl ⟨rfl,vfrac_whole this.1 this.2⟩
theorem op1_ok{op:Int}{x:Val}(h:x.ok=true)(h4:4≤op)(h6:op≤6)(hr:resD op [x.dim]≠0):okR (resD op [x.dim]) (op1 op x):=by
 obtain rfl|rfl|rfl:op=4∨op=5∨op=6:=by omega
 all_goals simp only [resD,List.getD_cons_zero,op1]at hr ⊢
 ·simp at hr ⊢
  have:=Val.ok_num h hr.1
  rw [if_neg hr.1]
  exact okR_num ⟨this.1,this.2.1⟩ (negF_ok this.2.2.2)
 ·simp at hr ⊢
  rw [if_pos hr];exact okR_truth _
 ·simp at hr ⊢
  have:=Val.ok_num h hr.1
  rw [if_neg hr.1]
  exact okR_num ⟨this.1,this.2.1⟩ (floor_ok this.2.2.2)
theorem res_mul(a b:Int):resD 9 [a,b]=if a=2∧b≠1 then b else if b=2∧a≠1 then a else 0:=rfl
theorem res_div(a b:Int):resD 10 [a,b]=if b=2∧a≠1 then a else if a=b∧a≠1 then 2 else 0:=rfl
theorem res_add{op:Int}(a b:Int)(h:op=7∨op=8∨op=19∨op=20):resD op [a,b]=if a=b∧a≠1 then a else 0:=by
 rcases h with rfl|rfl|rfl|rfl<;>rfl
theorem res_cmp{op:Int}(a b:Int)(h:11≤op∧op≤16):resD op [a,b]=if a=b∧a≠1 then 1 else 0:=by
 obtain rfl|rfl|rfl|rfl|rfl|rfl:op=11∨op=12∨op=13∨op=14∨op=15∨op=16:=by omega
 all_goals rfl
theorem op2_ok{op:Int}{x y:Val}(h:x.ok=true)(g:y.ok=true)(h4:7≤op)(h6:op≤20)(h17:op≠17)(h18:op≠18)(hr:resD op [x.dim,y.dim]≠0):okR (resD op [x.dim,y.dim]) (op2 op x y):=by
 by_cases c:op=9
 ·subst c
  show okR _ (numR (resD 9 [x.dim,y.dim]) (mulF x.n x.d y.n y.d))
  have hx:x.dim≠1∧y.dim≠1∧(resD 9 [x.dim,y.dim]=x.dim∨resD 9 [x.dim,y.dim]=y.dim):=by
   rw [res_mul]at hr ⊢
   exact fz54
  have h1:=Val.ok_num h hx.1
  have h2:=Val.ok_num g hx.2.1
  exact okR_num (by omega) (mulF_ok h1.2.2.2 h2.2.2.2)
 ·by_cases c':op=10
  ·subst c'
   show okR _ (numR (resD 10 [x.dim,y.dim]) (divF x.n x.d y.n y.d))
   have hx:x.dim≠1∧y.dim≠1∧(resD 10 [x.dim,y.dim]=x.dim∨resD 10 [x.dim,y.dim]=2):=by
    rw [res_div]at hr ⊢
    exact fz54
   have h1:=Val.ok_num h hx.1
   have h2:=Val.ok_num g hx.2.1
   exact okR_num (by omega) (divF_ok h1.2.2.2 h2.2.2.2)
  ·have hx:x.dim=y.dim∧x.dim≠1:=by
    by_cases c3:11≤op∧op≤16
    ·rw [res_cmp _ _ c3]at hr
     split at hr<;>rename_i c1
     ·exact c1
     ·exact absurd rfl hr
    ·rw [res_add _ _ (by omega)]at hr
     split at hr<;>rename_i c1
     ·exact c1
     ·exact absurd rfl hr
   have h1:=Val.ok_num h hx.2
   have h2:=Val.ok_num g (by omega)
   by_cases c3:11≤op∧op≤16
   ·rw [res_cmp _ _ c3,if_pos hx]
    unfold op2
    rw [if_neg (by omega),if_neg (by omega),if_neg (by omega),if_neg (by omega),if_neg (by omega),if_neg (by omega)]
    exact okR_truth _
   ·rw [res_add _ _ (by omega),if_pos hx]
    obtain rfl|rfl|rfl|rfl:op=7∨op=8∨op=19∨op=20:=by omega
    ·exact okR_num (by omega) (addF_ok h1.2.2.2 h2.2.2.2)
    ·exact okR_num (by omega) (subF_ok h1.2.2.2 h2.2.2.2)
    ·show okR _ (if cmpI x.n x.d y.n y.d≤0 then .num x.dim x.n x.d else .num x.dim y.n y.d,0)
     exact fz62
    ·show okR _ (if 0≤cmpI x.n x.d y.n y.d then .num x.dim x.n x.d else .num x.dim y.n y.d,0)
     exact fz62
theorem okR.bad{m:Int}{r:Val × Int}(h:okR m r)(hr:r.2≠0):r.1= .zero∧(r.2=2∨r.2=3):=by
 rcases h with h|h
 ·exact absurd h.1 hr
 ·exact h
theorem okR.good{m:Int}{r:Val × Int}(h:okR m r)(hr:r.2=0):r.1.ok=true∧r.1.dim=m:=by
 rcases h with h|h
 ·exact h.2
 ·omega
theorem node_ok(v:Vw){op n d m:Int}{nm:Val × Int}{ds:List Int}{rs:List (Val × Int)}(h4:4≤op)(h21:op≤21)(hl:(ds.length:Int)=argsN op)
 (hr:∀i,i<ds.length→okR (ds.getD i 0) (rs.getD i (.zero,0))) (hres:resD op ds≠0):okR (resD op ds) (valNode v op n d m nm rs):=by
 have hn:0<ds.length:=by unfold argsN at hl;(repeat' split at hl)<;>omega
 have r0:=hr 0 hn
 unfold valNode
 rw [if_neg (by omega),if_neg (by omega),if_neg (by omega)]
 by_cases e0:(rs.getD 0 (Val.zero,0)).2≠0
 ·rw [if_pos e0]
  exact .inr ⟨rfl,(r0.bad e0).2⟩
 rw [if_neg e0]
 have g0:=r0.good (by omega)
 by_cases h6:op≤6
 ·have hl1:ds.length=1:=by unfold argsN at hl;rw [if_neg (by omega),if_pos (by omega)]at hl;omega
  obtain⟨a,rfl⟩:∃a,ds= [a]:=List.length_eq_one_iff.1 hl1
  rw [if_neg (by omega),if_neg (by omega),if_neg (by omega),if_pos h6]
  have ha:(rs.getD 0 (Val.zero,0)).1.dim=a:=g0.2
  rw [←ha]at hres ⊢
  exact op1_ok g0.1 h4 h6 hres
 by_cases h20:op≤20
 ·have hl1:ds.length=2:=by unfold argsN at hl;rw [if_neg (by omega),if_neg (by omega),if_pos (by omega)]at hl;omega
  obtain⟨a,b,rfl⟩:∃a b,ds= [a,b]:=by
   match ds,hl1 with
   | [a,b],_=>exact⟨a,b,rfl⟩
  have r1:=hr 1 (by simp)
  have ha:(rs.getD 0 (Val.zero,0)).1.dim=a:=g0.2
  have hb:okR b (rs.getD 1 (Val.zero,0)):=r1
  by_cases h17:op=17
  ·subst h17
   have hab:a=1∧b=1:=by
    have e:resD 17 [a,b]=if a=1∧b=1 then 1 else 0:=rfl
    rw [e]at hres
    split at hres<;>rename_i c1
    ·exact c1
    ·exact absurd rfl hres
   obtain⟨rfl,rfl⟩:=hab
   rw [if_pos rfl]
   split
   ·exact hb
   ·exact r0
  by_cases h18:op=18
  ·subst h18
   have hab:a=1∧b=1:=by
    have e:resD 18 [a,b]=if a=1∧b=1 then 1 else 0:=rfl
    rw [e]at hres
    split at hres<;>rename_i c1
    ·exact c1
    ·exact absurd rfl hres
   obtain⟨rfl,rfl⟩:=hab
   rw [if_neg (by omega),if_pos rfl]
   split
   ·exact r0
   ·exact hb
  rw [if_neg h17,if_neg h18,if_neg (by omega),if_neg h6]
  by_cases e1:(rs.getD 1 (Val.zero,0)).2≠0
  ·rw [if_pos e1]
   exact .inr ⟨rfl,(hb.bad e1).2⟩
  rw [if_neg e1]
  have g1:=hb.good (by omega)
  rw [←ha,←g1.2]at hres ⊢
  exact op2_ok g0.1 g1.1 (by omega) h20 h17 h18 hres
 ·obtain rfl:op=21:=by omega
  have hl1:ds.length=3:=by simp [argsN]at hl;omega
  obtain⟨a,b,c,rfl⟩:∃a b c,ds= [a,b,c]:=by
   match ds,hl1 with
   | [a,b,c],_=>exact⟨a,b,c,rfl⟩
  have hb:okR b (rs.getD 1 (Val.zero,0)):=hr 1 (by simp)
  have hc:okR c (rs.getD 2 (Val.zero,0)):=hr 2 (by simp)
  have e:resD 21 [a,b,c]=if a=1∧b=c then b else 0:=rfl
  rw [e]at hres ⊢
  split at hres<;>rename_i c1
  ·obtain⟨rfl,rfl⟩:=c1
   rw [if_pos (⟨rfl,rfl⟩:(1:Int)=1∧b=b),if_neg (by omega),if_neg (by omega),if_pos rfl]
   split
   ·exact hb
   ·exact hc
  ·exact absurd rfl hres
theorem Vw.ok_bd{v:Vw}(h:v.ok=true):(0≤v.age∧v.age≤199∧1900≤v.year∧v.year≤2099∧0≤v.children∧v.children≤99)∧
 (0≤v.insured∧v.insured≤73049∧0≤v.worked∧v.worked≤73049∧0≤v.voluntary∧v.voluntary≤73049∧0≤v.service∧v.service≤73049∧0≤v.equated∧v.equated≤73049∧0≤v.raising∧v.raising≤73049∧0≤v.resident∧v.resident≤73049)∧
 vfrac v.bn v.bd=true∧(0≤v.bn∧v.bn≤1000000000000*v.bd)∧yearsOk v.years=true:=by
 unfold Vw.ok at h
 obtain⟨h,e⟩:=Bool.and_eq_true_iff.1 h
 obtain⟨h,cd⟩:=Bool.and_eq_true_iff.1 h
 obtain⟨a,b⟩:=Bool.and_eq_true_iff.1 h
 obtain⟨c,d⟩:=Bool.and_eq_true_iff.1 cd
 have k:∀z,daysOk z=true→0≤z∧z≤73049:=fun z hz=>of_decide_eq_true hz
 repeat rw [Bool.and_eq_true]at b
 obtain⟨⟨⟨⟨⟨⟨b1,b2⟩,b3⟩,b4⟩,b5⟩,b6⟩,b7⟩:=b
 have b1:=k _ b1
 have b2:=k _ b2
 have b3:=k _ b3
 have b4:=k _ b4
 have b5:=k _ b5
 have b6:=k _ b6
 have b7:=k _ b7
 exact⟨of_decide_eq_true a,⟨b1.1,b1.2,b2.1,b2.2,b3.1,b3.2,b4.1,b4.2,b5.1,b5.2,b6.1,b6.2,b7.1,b7.2⟩,c,of_decide_eq_true d,e⟩
theorem ite_ok{c:Prop}[Decidable c]{a b:Int × Int}(ha:vfrac a.1 a.2=true)(hb:vfrac b.1 b.2=true):vfrac (if c then a else b).1 (if c then a else b).2=true:=by
 by_cases h:c
 ·rw [if_pos h];exact ha
 ·rw [if_neg h];exact hb
theorem Vw.numF_ok{v:Vw}(h:v.ok=true)(s:List UInt8):vfrac (v.numF s).1 (v.numF s).2=true:=by
 obtain⟨a,b,c,-,-⟩:=Vw.ok_bd h
 unfold Vw.numF
 refine ite_ok c ?_
 repeat refine ite_ok (vfrac_whole (by show _≤(_:Int);omega) (by show(_:Int)≤_;omega)) ?_
 exact vfrac_whole (by omega) (by omega)
theorem inpD_bd(s:List UInt8):inpD s=0∨(2≤inpD s∧inpD s≤4):=by
 unfold inpD
 (repeat' split)<;>simp
theorem inputV_some{v:Vw}{s:ByteArray}{x:Val}(h:inputV v s=some x):x.ok=true∧x.dim=inpD s.toList∧inpD s.toList≠0:=by
 unfold inputV at h
 split at h<;>rename_i hc
 ·cases h
 ·simp only [not_or,Bool.not_eq_false]at hc
  cases h
  have:=inpD_bd s.toList
  exact⟨Val.num_ok (by omega) (Vw.numF_ok hc.2 _),rfl,hc.1⟩
theorem inputV_none{v:Vw}(hv:v.ok=true){s:ByteArray}(h:inputV v s=none):inpD s.toList=0:=by
 unfold inputV at h
 split at h<;>rename_i hc
 ·rcases hc with hc|hc
  ·exact hc
  ·rw [hv]at hc;cases hc
 ·cases h
theorem lastN_dims(env:List (ByteArray × Val))(s:ByteArray):lastN (dimsOf env) s=(lastN env s).map Val.dim:=by
 unfold lastN dimsOf
 rw [←List.map_reverse,List.find?_map]
 simp only [Option.map_map]
 rfl
theorem lastN_mem{env:List (ByteArray × Val)}{s:ByteArray}{x:Val}(h:lastN env s=some x):∃p∈env,p.2=x:=by
 exact fz57
theorem name_ok{v:Vw}(hv:v.ok=true){env:List (ByteArray × Val)}(hE:∀p∈env,p.2.ok=true){s:ByteArray}(h:(inferN (dimsOf env) s).2=0):okR (inferN (dimsOf env) s).1 (nameF v env s):=by
 unfold inferN at h ⊢
 unfold nameF
 cases hi:inputV v s with
 |some x=>
  obtain⟨h1,h2,h3⟩:=inputV_some hi
  rw [if_pos h3]
  exact .inl ⟨rfl,h1,h2⟩
 |none=>
  have h0:=inputV_none hv hi
  rw [if_neg (by simpa using h0),lastN_dims]at h ⊢
  cases hx:lastN env s with
  |some x=>
   obtain⟨p,hp,rfl⟩:=lastN_mem hx
   exact .inl ⟨rfl,hE p hp,rfl⟩
  |none=>rw [hx]at h;simp at h
theorem mk_ok{n d:Int}(h:d≠0):okF (mkN n d,mkD n d,mkE n d):=by
 unfold mkN mkD mkE
 rw [if_neg h,if_neg h,if_neg h]
 rcases lowE_cases n.natAbs d.natAbs with e|e
 ·exact .inl ⟨e,low_ok _ (by omega) e⟩
 ·have h3:=low_bad (decide (n<0)!=decide (d<0)) (show lowE n.natAbs d.natAbs≠0 by omega)
  exact .inr ⟨h3.1,h3.2,.inl e⟩
theorem best_ok{l:List Int}{n:Int}(h1:1≤n)(h2:n≤45)(h:yearsOk l=true):okF (bestF l n):=by
 unfold bestF
 rw [if_neg (by simp [h];omega)]
 exact mk_ok (by omega)
theorem decOk_bd{n d m:Int}(h:decOk n d m=true):vfrac n d=true∧2≤m∧m≤4:=by
 simp only [decOk,Bool.and_eq_true,decide_eq_true_eq]at h
 exact⟨h.1.1.1.1.1,h.1.1.2,h.1.2⟩
theorem infers_len(env:List (ByteArray × Int))(l:List Ex)(h:(infersF env l).2=0):(infersF env l).1.length=l.length:=by
 induction l with
 |nil=>simp [infersF]
 |cons e r ih=>
  rw [infersF]at h ⊢
  split at h<;>rename_i c1
  ·exact absurd h c1
  ·split at h<;>rename_i c2
   ·exact absurd h c2
   ·rw [if_neg c1,if_neg c2]
    simp [ih (by omega)]
mutual
theorem value_ok{v:Vw}(hv:v.ok=true){env:List (ByteArray × Val)}(hE:∀p∈env,p.2.ok=true):∀e:Ex,formedB e=true→(inferF (dimsOf env) e).2=0→okR (inferF (dimsOf env) e).1 (valueF v env e)
 | .mk op n d m s l=>by
   intro hf hi
   rw [formedB,Bool.and_eq_true,decide_eq_true_eq]at hf
   rw [inferF]at hi ⊢
   rw [valueF]
   obtain⟨ha,hf⟩:=hf
   unfold infNode at hi ⊢
   by_cases c1:op=1
   ·subst c1
    rw [if_pos rfl]at hf
    simp only [Bool.and_eq_true]at hf
    have:=decOk_bd hf.1
    exact .inl ⟨rfl,Val.num_ok this.2 this.1,rfl⟩
   rw [if_neg c1]at hi hf ⊢
   by_cases c2:op=2
   ·subst c2
    exact name_ok hv hE hi
   rw [if_neg c2]at hf
   by_cases c3:op=3
   ·subst c3
    rw [if_pos rfl]at hf
    simp only [Bool.and_eq_true,decide_eq_true_eq]at hf
    show okR 4 (numR 4 (bestF v.years n))
    exact okR_num (by omega) (best_ok hf.1.2 hf.2 (Vw.ok_bd hv).2.2.2.2)
   rw [if_neg c3]at hf
   rw [if_neg c3,if_neg c2]at hi ⊢
   simp only [Bool.and_eq_true]at hf
   split at hi<;>rename_i c4
   ·exact absurd hi c4
   rw [if_neg c4]
   split at hi<;>rename_i c5
   ·simp at hi
   rw [if_neg c5]
   have hlen:=infers_len (dimsOf env) l (by omega)
   have hop:4≤op∧op≤21:=by unfold argsN at ha;(repeat' split at ha)<;>omega
   exact node_ok v hop.1 hop.2 (by rw [hlen];exact ha) (fun i hi=>values_ok hv hE l hf.1 (by omega) i (by omega)) c5
theorem values_ok{v:Vw}(hv:v.ok=true){env:List (ByteArray × Val)}(hE:∀p∈env,p.2.ok=true):∀l:List Ex,formedsB l=true→(infersF (dimsOf env) l).2=0→
 ∀i,i<l.length→okR ((infersF (dimsOf env) l).1.getD i 0) ((valuesF v env l).getD i (.zero,0))
 | []=>by intro _ _ i hi;simp at hi
 |e::r=>by
  intro hf h i hi
  rw [formedsB,Bool.and_eq_true]at hf
  rw [infersF]at h ⊢
  rw [valuesF]
  split at h<;>rename_i c1
  ·exact absurd h c1
  split at h<;>rename_i c2
  ·exact absurd h c2
  rw [if_neg c1,if_neg c2]
  cases i with
  |zero=>exact value_ok hv hE e hf.1 (by omega)
  |succ i=>exact values_ok hv hE r hf.2 (by omega) i (by simpa using hi)
end
end Go.Proofs.YtfoefpoaomepbaaGreatDoor
namespace Go.Proofs.YtfoefpoaomepbaaGreatDoor
open Go.RowKit
abbrev bdN(l:List (ByteArray × Int))(i:Nat):ByteArray:=(l.getD i (ByteArray.empty,0)).1
abbrev bdD(l:List (ByteArray × Int))(i:Nat):Int:=(l.getD i (ByteArray.empty,0)).2
def BindAt(w:World)(v:Value)(l:List (ByteArray × Int)):Prop:=
 l.length≤1000∧∃a cap,v= .slice a l.length cap∧(l.length=0∨∃b off,a=some ⟨b,off,none⟩∧b<w.heap.size∧∀i,i<l.length→w.cell? ⟨b,off+i*2,none⟩=some (.string (bdN l i))∧w.cell? ⟨b,off+i*2+1,none⟩=some (.int .i64 (bdD l i)))
theorem BindAt.below{w w':World}{v:Value}{l:List (ByteArray × Int)}{n:Nat}(h:BindAt w v l)(hn:w.heap.size≤n)(hb:Below n w w'):BindAt w' v l:=by
 obtain⟨h0,a,cap,hv,h1⟩:=h
 refine⟨h0,a,cap,hv,h1.imp id ?_⟩
 rintro⟨b,off,ha,hlt,hc⟩
 refine⟨b,off,ha,Nat.lt_of_lt_of_le hlt hb.size,fun i hi=>?_⟩
 rw [hb.cell (p:=⟨b,off+i*2,none⟩) (Nat.lt_of_lt_of_le hlt hn),hb.cell (p:=⟨b,off+i*2+1,none⟩) (Nat.lt_of_lt_of_le hlt hn)]
 exact hc i hi
theorem BindAt.grows{w w':World}{v:Value}{l:List (ByteArray × Int)}(h:BindAt w v l)(hg:w.Grows w'):BindAt w' v l:=h.below (Nat.le_refl _) hg.below
theorem BindAt.grow{w:World}{v:Value}{l:List (ByteArray × Int)}(h:BindAt w v l)(bs:Array Obj)(d:Nat):BindAt (w.grow bs d) v l:=h.grows ⟨bs,d,rfl⟩
theorem BindAt.alloc{w:World}{v:Value}{l:List (ByteArray × Int)}(h:BindAt w v l)(o:Obj):BindAt (w.alloc o) v l:=h.below (Nat.le_refl _) ((Below.refl _ _).alloc (Nat.le_refl _) _)
def PredB(g:FuncId)(lb:Array Value)(l:List (ByteArray × Int))(p:Nat→Bool)(w:World):Prop:=
 ∀k,k<l.length→∀w',w.Grows w'→Calls Tryz.prog g (#[.agg #[.string (bdN l k),.int .i64 (bdD l k)]]++lb) w' fun r w''=>r= .returned (.bool (p k))∧w'.Grows w''
theorem idxB_any(g:FuncId)(lb:Array Value)(eg:∀args w,(callFunc g args).run Tryz.prog w= .ok (.enter g args) w)(l:List (ByteArray × Int))(v:Value)(p:Nat→Bool)(w:World)(h:BindAt w v l)(hp:Hid (PredB g lb l p w)) :
 Calls Tryz.prog 149 #[v,.func (.func g) #[] lb] w fun r w'=>(∃z,r= .returned (.int .i64 z)∧IdxE l.length p z)∧w.Grows w':=by
 obtain⟨hlen,a,cap,rfl,hc⟩:=h
 have Hc:=Lib.hid hc
 clear hc
 go_enter Tryz.func149,Tryz.ntmps149
 go_wp2_with fail
 go_loopw [5,8] (fun _ v8 wr=>∃k:Nat,k≤l.length∧v8= .int .i64 k∧Hid (∀j,j<k→p j=false)∧w.Grows wr) (fun _ v8 _=>l.length-(intOf v8).toNat)
 case atStart=>exact⟨0,by omega,rfl,Lib.hid (fun j hj=>by omega),.refl _⟩
 case round=>
  obtain⟨k,hk,rfl,hno,hgr⟩:=hrel
  have HG:=Lib.hid hgr
  by_cases hlt2:k<l.length
  ·rcases Hc.out with h0|⟨b,off,rfl,hbw,hx⟩
   ·omega
   ·obtain⟨x0,x1⟩:=hx k hlt2
    have y0:wr.cell? ⟨b,off+k*2,none⟩=some (.string (bdN l k)):=by rw [hgr.below.cell (p:=⟨b,off+k*2,none⟩) hbw];exact x0
    have y1:wr.cell? ⟨b,off+k*2+1,none⟩=some (.int .i64 (bdD l k)):=by rw [hgr.below.cell (p:=⟨b,off+k*2+1,none⟩) hbw];exact x1
    clear hx x0 x1
    have d1:(k:Int)<(l.length:Int):=by omega
    have hcall:=hp.out k hlt2 _ hgr
    generalize bdN l k=nk at *
    generalize bdD l k=dk at *
    have HLT:=Lib.hid hlt2
    clear hgr
    cases hq:p k with
    |true=>
     rw [hq]at hcall
     have HQ:=Lib.hid hq
     clear hq
     have HCL:=Lib.hid hcall
     clear hcall
     go_wp2_with (go_at_fn g;refine HCL.out.mono ?_;rintro e' w' ⟨rfl,hg2⟩;have HG2:=Lib.hid hg2;clear hg2)
     go_returns
     exact⟨⟨_,rfl,.inr ⟨k,HLT.out,rfl,HQ.out⟩⟩,World.Grows.trans HG.out HG2.out⟩
    |false=>
     rw [hq]at hcall
     have HQ:=Lib.hid hq
     clear hq
     have HCL:=Lib.hid hcall
     clear hcall
     go_wp2_with (go_at_fn g;refine HCL.out.mono ?_;rintro e' w' ⟨rfl,hg2⟩;have HG2:=Lib.hid hg2;clear hg2)
     go_roundw
     case rel=>exact⟨k+1,by omega,by go_num,Lib.hid (fun j hj=>by
      by_cases ej:j=k
      ·subst ej;exact HQ.out
      ·exact hno.out j (by omega)),World.Grows.trans HG.out HG2.out⟩
     case measure=>simp [intOf];omega
  ·obtain rfl:k=l.length:=by omega
   clear hgr
   go_wp2_with fail
   go_returns
   exact⟨⟨_,rfl,.inl ⟨rfl,hno.out⟩⟩,HG.out⟩
theorem containsB_any(g:FuncId)(lb:Array Value)(eg:∀args w,(callFunc g args).run Tryz.prog w= .ok (.enter g args) w)(l:List (ByteArray × Int))(v:Value)(p:Nat→Bool)(w:World)(h:BindAt w v l)(hp:Hid (PredB g lb l p w)) :
 Calls Tryz.prog 101 #[v,.func (.func g) #[] lb] w fun r w'=>r= .returned (.bool ((List.range l.length).any p))∧w.Grows w':=by
 have HI:=Lib.hid (idxB_any g lb eg l v p w h hp)
 obtain⟨-,a,cap,rfl,-⟩:=h
 clear hp
 generalize hX:(List.range l.length).any p=X
 have HX:=Lib.hid hX
 clear hX
 go_enter Tryz.func101,Tryz.ntmps101
 go_wp2_with (go_at_call 149;refine HI.out.mono ?_;rintro e' w' ⟨⟨z,rfl,hz⟩,bs2,d2,rfl⟩;have HZ:=Lib.hid hz.any;clear hz)
 go_returns
 exact⟨ret_bool (by rw [←HX.out,←HZ.out]),.of_below belB⟩
theorem badB_clos:∀args w,(callFunc 103 args).run Tryz.prog w= .ok (.enter 103 args) w:=enters_of Tryz.func103 (by kernel_rfl) rfl
theorem badB_one(n:ByteArray)(d:Int)(w:World):Calls Tryz.prog 103 #[.agg #[.string n,.int .i64 d]] w fun r w'=>r= .returned (.bool (!decide (1≤d∧d≤4)))∧w.Grows w':=by
 by_cases h1:d<1
 ·exact fz34
 ·by_cases h2:d > 4
  ·exact fz34
  ·exact fz34
end Go.Proofs.YtfoefpoaomepbaaGreatDoor
namespace Go.Proofs.YtfoefpoaomepbaaGreatDoor
open Go.RowKit Go.Shelf
attribute [local go_sem] Oper.semAt_some
def backs(n k:Nat):List (Fin n):=(List.finRange n).reverse.take k
theorem backs_succ(n k:Nat)(i:Fin n)(hk:k<n)(hi:n-1-k=i.1):backs n (k+1)=backs n k++[i]:=by
 have hl:k<(List.finRange n).reverse.length:=by simpa using hk
 unfold backs
 rw [List.take_succ_eq_append_getElem hl]
 congr 2
 apply Fin.ext
 rw [List.getElem_reverse]
 simp
 omega
theorem backs_length(n k:Nat)(hk:k≤n):(backs n k).length=k:=by simp [backs,hk]
theorem backs_mem{n k:Nat}(i:Fin n)(hk:n≤i.1+k):i∈backs n k:=by
 unfold backs
 have hl:n-1-i.1<(List.finRange n).reverse.length:=by simp;omega
 have he:(List.finRange n).reverse[n-1-i.1]=i:=by
  apply Fin.ext
  rw [List.getElem_reverse]
  simp
  omega
 rw [List.mem_take_iff_getElem]
 exact⟨n-1-i.1,by simp;omega,he⟩
abbrev BRow:=List (ByteArray × Int)
def BRow.el(x:BRow)(i:Nat):Value:=.agg #[.string (bdN x i),.int .i64 (bdD x i)]
def BRow.Lies(x:BRow)(n₀:Nat)(W:World)(v:Value)(n:Nat):Prop:=
 n≤1000∧∃a cap,v= .slice a n cap∧(n=0∨∃b off,a=some ⟨b,off,none⟩∧b<n₀∧∀i,i<n→W.cell? ⟨b,off+i*2,none⟩=some (.string (bdN x i))∧W.cell? ⟨b,off+i*2+1,none⟩=some (.int .i64 (bdD x i)))
theorem BRow.Lies.below{x:BRow}{n₀ n:Nat}{W W':World}{v:Value}(h:BRow.Lies x n₀ W v n)(hb:Below n₀ W W'):BRow.Lies x n₀ W' v n:=by
 obtain⟨h0,a,cap,hv,h1⟩:=h
 refine⟨h0,a,cap,hv,h1.imp id ?_⟩
 rintro⟨b,off,ha,hlt,hc⟩
 refine⟨b,off,ha,hlt,fun i hi=>?_⟩
 rw [hb.cell (p:=⟨b,off+i*2,none⟩) hlt,hb.cell (p:=⟨b,off+i*2+1,none⟩) hlt]
 exact hc i hi
theorem BindAt.lies{W:World}{v:Value}{l:List (ByteArray × Int)}(h:BindAt W v l):BRow.Lies l W.heap.size W v l.length:=h
theorem backB1_in(F:Fence)(n:Nat)(hf:F.fn 206)(hro:F.round=none)(hn:1≤n)(l Bs n₀ len:Nat)(x:BRow)(v:Value)(J Jx:List (Fin len)→World→Prop)
 (hY:∀pre (i:Fin len) W,J pre W→pre.length<len→YieldAt F (n-1) Tryz.prog l #[.int .i64 ((i.1:Nat):Int),x.el i.1] W fun e W'=>
  (e= .returned (.bool true)∧J (pre++[i]) W'∧Below n₀ W W')∨(e= .returned (.bool false)∧Jx (pre++[i]) W'))
 (W:World) (hBs:W.cell? ⟨Bs,0,none⟩=some v) (hBl:Bs<n₀) (hL:x.Lies n₀ W v len) (h0:J [] W) :
 CallsIn F n Tryz.prog 206 #[.func (.yield l) #[] #[],.pointer (some ⟨Bs,0,none⟩)] W fun e W'=>(∃v,e= .returned v)∧
  ((∃ys,ys=backs len len∧J ys W')∨(∃pre,(∃k,k<len∧pre=backs len (k+1))∧Jx pre W')):=by
 have HL:=Lib.hid hL
 obtain⟨h1000,a,cap,rfl,-⟩:=hL
 refine callsIn_of_wp Tryz.func206 rfl hf ?_ hro
 simp only [Tryz.ntmps206,List.size_toArray,List.length_cons,List.length_nil,Nat.reduceAdd,Nat.reduceSub,Array.replicate_succ,Array.replicate_zero,List.push_toArray,List.append_toArray,List.nil_append,List.cons_append]
 gi_wp2
 gi_loopw [3] (fun vi wr=>∃k:Nat,k≤len∧vi= .int .i64 ((len:Int)-1-k)∧J (backs len k) wr∧Below n₀ W wr) (fun vi _=>(intOf vi+1).toNat)
 case atStart=>exact⟨0,Nat.zero_le _,by simp,h0,Below.refl _ _⟩
 case round=>
  obtain⟨k,hk,rfl,hJs,hnx⟩:=hrel
  by_cases hlt:k<len
  ·have hcs:=(hnx.cell (p:=⟨Bs,0,none⟩) hBl).trans hBs
   have hLr:=HL.out.below hnx
   obtain⟨-,a',cap',hv,hx⟩:=hLr
   simp only [Value.slice.injEq,true_and]at hv
   obtain⟨rfl,rfl⟩:=hv
   rcases hx with hx|⟨b,off,rfl,hb,hx⟩
   ·omega
   obtain⟨i,hi⟩:∃i:Nat,(len:Int)-1-k=i:=⟨len-1-k,by omega⟩
   have hii:i<len:=by omega
   have hik:len-1-k=i:=by omega
   obtain⟨q0,q1⟩:=hx i hii
   obtain⟨fn,tmps,assign,body,hy,hR⟩:=hY _ ⟨i,hii⟩ wr hJs (by rw [backs_length _ _ hk];exact hlt)
   simp only at hy
   unfold BRow.el at hy
   unfold bdN at hy q0
   unfold bdD at hy q1
   generalize(x.getD i (ByteArray.empty,0)).1=z0 at *
   generalize(x.getD i (ByteArray.empty,0)).2=z1 at *
   have d1:(i:Int)<(len:Int):=by omega
   have d0:(0:Int)≤(i:Int):=by omega
   have hlen1:(len:Int)≤1000:=by omega
   rw [hi]
   have HI:=Lib.hid hi
   have HIK:=Lib.hid hik
   clear hx hi hik hBs h0
   gi_wp2
   refine hR.mono ?_
   rintro e W3 (⟨rfl,hJ3,hk3⟩|⟨rfl,hJx3⟩)
   ·gi_wp2
    go_roundw
    case rel=>exact⟨k+1,by omega,by have:=HI.out;first|(congr 1;omega)|(simp;omega),by rw [backs_succ _ _ ⟨i,hii⟩ hlt HIK.out];exact hJ3,hnx.trans hk3⟩
    case measure=>first|(simp [intOf];done)|(simp [intOf];omega)
   ·gi_wp2
    refine bodyPost_ret (results_none rfl _ _ _) rfl ?_
    exact⟨⟨_,rfl⟩,.inr ⟨_,⟨k,hlt,by rw [backs_succ _ _ ⟨i,hii⟩ hlt HIK.out]⟩,hJx3⟩⟩
  ·obtain rfl:k=len:=by omega
   have hz:(k:Int)-1-k= -1:=by omega
   rw [hz]
   clear hz
   gi_wp2
   go_end0
   exact⟨⟨_,rfl⟩,.inl ⟨_,rfl,hJs⟩⟩
theorem backB_in(F:Fence)(n:Nat)(hf:F.fn 190)(hro:F.round=none)(a:Option Addr)(len cap:Nat)(w:World) :
 CallsIn F n Tryz.prog 190 #[.slice a len cap] w fun e w'=>e= .returned (.func (.func 206) #[] #[.pointer (some ⟨w.heap.size,0,none⟩)])∧w'=w.alloc (.cells #[.slice a len cap] 52):=by
 refine callsIn_of_wp Tryz.func190 rfl hf ?_ hro
 simp only [Tryz.ntmps190,List.size_toArray,List.length_cons,List.length_nil,Nat.reduceAdd,Nat.reduceSub,Array.replicate_succ,Array.replicate_zero,List.push_toArray,List.append_toArray,List.nil_append,List.cons_append]
 gi_wp2
 go_ret
 exact⟨rfl,rfl⟩
theorem backB_stops(F:Fence)(n:Nat)(hf:F.fn 206)(hro:F.round=none)(hn:1≤n)(Bs n₀:Nat)(v:Value)(x:BRow)(len:Nat)(w:World)(hBs:Bs<n₀)(hn₀:n₀≤w.heap.size)
 (hc:w.cell? ⟨Bs,0,none⟩=some v) (hL:x.Lies n₀ w v len) :
 SeqStopsK F n Tryz.prog 206 #[.pointer (some ⟨Bs,0,none⟩)] (fun i:Fin len=>#[Value.int .i64 ((i.1:Nat):Int),x.el i.1]) (Below n₀) (fun ys=>ys=backs len len)
  (fun pre=>∃k,k<len∧pre=backs len (k+1)) len w:=fun l J Jx W hW _ _ hY h0=>
 backB1_in F n hf hro hn l Bs n₀ len x v J Jx hY W ((hW.cell (p:=⟨Bs,0,none⟩) (by show Bs<w.heap.size;omega)).trans hc) hBs (hL.below (hW.mono hn₀)) h0
end Go.Proofs.YtfoefpoaomepbaaGreatDoor
namespace Go.Proofs.YtfoefpoaomepbaaGreatDoor
open Go.RowKit Go.Shelf
attribute [local go_sem] Oper.semAt_some
abbrev SRow:=List (ByteArray × Val)
abbrev stN(l:List (ByteArray × Val))(i:Nat):ByteArray:=(l.getD i (ByteArray.empty,Val.zero)).1
abbrev stV(l:List (ByteArray × Val))(i:Nat):Val:=(l.getD i (ByteArray.empty,Val.zero)).2
structure StepAt(W:World)(b o:Nat)(n:ByteArray)(x:Val):Prop where
 p0:W.cell? ⟨b,o,none⟩=some (.string n)
 p1:W.cell? ⟨b,o+1,none⟩=some (.int .i64 x.dim)
 p2:W.cell? ⟨b,o+2,none⟩=some (.bool x.yes)
 p3:W.cell? ⟨b,o+3,none⟩=some (.int .i64 x.n)
 p4:W.cell? ⟨b,o+4,none⟩=some (.int .i64 x.d)
theorem StepAt.same{W W':World}{b o:Nat}{n:ByteArray}{x:Val}(h:StepAt W b o n x)(hw:∀o,W'.cell? ⟨b,o,none⟩=W.cell? ⟨b,o,none⟩):StepAt W' b o n x:=
 ⟨by rw [hw];exact h.p0,by rw [hw];exact h.p1,by rw [hw];exact h.p2,by rw [hw];exact h.p3,by rw [hw];exact h.p4⟩
def SRow.el(x:SRow)(i:Nat):Value:=.agg #[.string (stN x i),.int .i64 (stV x i).dim,.bool (stV x i).yes,.int .i64 (stV x i).n,.int .i64 (stV x i).d]
def SRow.Lies(x:SRow)(n₀:Nat)(W:World)(v:Value)(n:Nat):Prop:=
 n≤1000∧∃a cap,v= .slice a n cap∧(n=0∨∃b off,a=some ⟨b,off,none⟩∧b<n₀∧∀i,i<n→StepAt W b (off+i*5) (stN x i) (stV x i))
theorem SRow.Lies.below{x:SRow}{n₀ n:Nat}{W W':World}{v:Value}(h:SRow.Lies x n₀ W v n)(hb:Below n₀ W W'):SRow.Lies x n₀ W' v n:=by
 obtain⟨h0,a,cap,hv,h1⟩:=h
 refine⟨h0,a,cap,hv,h1.imp id ?_⟩
 rintro⟨b,off,ha,hlt,hc⟩
 exact⟨b,off,ha,hlt,fun i hi=>(hc i hi).same fun o=>hb.cell (p:=⟨b,o,none⟩) hlt⟩
end Go.Proofs.YtfoefpoaomepbaaGreatDoor
namespace Go.Proofs.YtfoefpoaomepbaaGreatDoor
open Go.RowKit
def YrAt(w:World)(v:Value)(l:List Int):Prop:=
 l.length≤1000∧∃a cap,v= .slice a l.length cap∧(l.length=0∨∃b off,a=some ⟨b,off,none⟩∧b<w.heap.size∧∀i,i<l.length→w.cell? ⟨b,off+i,none⟩=some (.int .i64 (l.getD i 0)))
theorem YrAt.below{w w':World}{v:Value}{l:List Int}{n:Nat}(h:YrAt w v l)(hn:w.heap.size≤n)(hb:Below n w w'):YrAt w' v l:=by
 obtain⟨h0,a,cap,hv,h1⟩:=h
 refine⟨h0,a,cap,hv,h1.imp id ?_⟩
 rintro⟨b,off,ha,hlt,hc⟩
 refine⟨b,off,ha,Nat.lt_of_lt_of_le hlt hb.size,fun i hi=>?_⟩
 rw [hb.cell (p:=⟨b,off+i,none⟩) (Nat.lt_of_lt_of_le hlt hn)]
 exact hc i hi
theorem YrAt.grows{w w':World}{v:Value}{l:List Int}(h:YrAt w v l)(hg:w.Grows w'):YrAt w' v l:=h.below (Nat.le_refl _) hg.below
theorem YrAt.grow{w:World}{v:Value}{l:List Int}(h:YrAt w v l)(bs:Array Obj)(d:Nat):YrAt (w.grow bs d) v l:=h.grows ⟨bs,d,rfl⟩
theorem YrAt.alloc{w:World}{v:Value}{l:List Int}(h:YrAt w v l)(o:Obj):YrAt (w.alloc o) v l:=h.below (Nat.le_refl _) ((Below.refl _ _).alloc (Nat.le_refl _) _)
theorem years_any(l:List Int):(List.range l.length).any (fun k=>!decide (0≤l.getD k 0∧l.getD k 0≤1000000000000))=!l.all fun x=>decide (0≤x∧x≤1000000000000):=by
 induction l with
 |nil=>rfl
 |cons p r ih=>
  rw [List.length_cons,List.range_succ_eq_map,List.any_cons,List.any_map,List.all_cons,Bool.not_and,←ih]
  rfl
theorem years_bad{l:List Int}{k:Nat}(hk:k<l.length)(hb:¬(0≤l.getD k 0∧l.getD k 0≤1000000000000)):yearsOk l=false:=by
 unfold yearsOk
 have:(l.all fun x=>decide (0≤x∧x≤1000000000000))=false:=by
  have h:=years_any l
  rw [show(List.range l.length).any (fun k=>!decide (0≤l.getD k 0∧l.getD k 0≤1000000000000))=true from List.any_eq_true.2 ⟨k,List.mem_range.2 hk,by rw [decide_eq_false hb];rfl⟩]at h
  simpa using h.symm
 rw [this,Bool.and_false]
theorem years_good{l:List Int}(hn:l.length≤200)(hg:∀k,k<l.length→0≤l.getD k 0∧l.getD k 0≤1000000000000):yearsOk l=true:=by
 unfold yearsOk
 have h:=years_any l
 rw [show(List.range l.length).any (fun k=>!decide (0≤l.getD k 0∧l.getD k 0≤1000000000000))=false from List.any_eq_false.2 fun k hk=>by rw [decide_eq_true (hg k (List.mem_range.1 hk))];simp]at h
 rw [decide_eq_true hn,Bool.true_and]
 simpa using h.symm
theorem amounts_any(l:List Int)(v:Value)(w:World)(h:YrAt w v l):Calls Tryz.prog 96 #[v] w fun r w'=>r= .returned (.bool (yearsOk l))∧w=w':=by
 obtain⟨h1000,a,cap,rfl,hc⟩:=h
 have Hc:=Lib.hid hc
 clear hc
 have HBAD:=Lib.hid (fun k hk hb=>years_bad (l:=l) (k:=k) hk hb)
 have HGOOD:=Lib.hid (fun hn hg=>years_good (l:=l) hn hg)
 by_cases hn:(l.length:Int)≤200
 ·go_enter Tryz.func96,Tryz.ntmps96
  go_wp2_with fail
  go_loopw [3] (fun v3 wr=>∃k:Nat,k≤l.length∧v3= .int .i64 k∧Hid (∀j,j<k→0≤l.getD j 0∧l.getD j 0≤1000000000000)∧w=wr) (fun v3 _=>l.length-(intOf v3).toNat)
  case atStart=>exact⟨0,by omega,rfl,Lib.hid (fun j hj=>by omega),rfl⟩
  case round=>
   obtain⟨k,hk,rfl,hno,rfl⟩:=hrel
   by_cases hlt:k<l.length
   ·rcases Hc.out with h0|⟨b,off,rfl,hbw,hx⟩
    ·omega
    have x0:=hx k hlt
    have d1:(k:Int)<(l.length:Int):=by omega
    have HKL:=Lib.hid hlt
    clear hx hlt
    obtain⟨dk,hdk⟩:∃dk,l.getD k 0=dk:=⟨_,rfl⟩
    rw [hdk]at x0
    have HDK:=Lib.hid hdk
    clear hdk
    by_cases h1:dk<0
    ·exact fz64
    ·by_cases h2:dk > 1000000000000
     ·exact fz64
     ·go_wp2_with fail
      go_roundw
      case rel=>exact⟨k+1,HKL.out,by go_num,Lib.hid (fun j hj=>by
       by_cases ej:j=k
       ·subst ej;rw [HDK.out];omega
       ·exact hno.out j (by omega)),(by first|rfl|trivial)⟩
      case measure=>simp [intOf];have:=HKL.out;omega
   ·obtain rfl:k=l.length:=by omega
    go_wp2_with fail
    go_returns
    exact⟨ret_bool (HGOOD.out (by omega) hno.out).symm,(by first|rfl|trivial)⟩
 ·go_enter Tryz.func96,Tryz.ntmps96
  go_wp2_with fail
  go_returns
  exact⟨ret_bool (by unfold yearsOk;rw [decide_eq_false (by omega)];rfl),(by first|rfl|trivial)⟩
theorem Input2_any(s:ByteArray)(w:World):Calls Tryz.prog 99 #[.string s] w fun e w'=>e= .returned (.tuple #[.int .i64 (inpD s.toList),.bool (decide (inpD s.toList≠0))])∧w=w':=by
 go_enter Tryz.func99,Tryz.ntmps99
 exact fz56
theorem ret_int{a b:Int}(h:a=b):Ending.returned (.int .i64 a)= .returned (.int .i64 b):=by rw [h]
def Res2P(r:Int)(w:World)(e:Ending)(w':World):Prop:=(∃m,e= .returned (.tuple #[.int .i64 m,.bool (decide (r≠0))])∧(r≠0→m=r))∧w.Grows w'
def Res5P(r:Int)(w:World)(e:Ending)(w':World):Prop:=e= .returned (.int .i64 r)∧w.Grows w'
theorem res2P{m r:Int}{q:Bool}{w w':World}(h1:q=decide (r≠0))(h2:r≠0→m=r)(hg:w.Grows w'):Res2P r w (.returned (.tuple #[.int .i64 m,.bool q])) w':=⟨⟨m,by rw [h1],h2⟩,hg⟩
theorem res5P{m r:Int}{w w':World}(h:m=r)(hg:w.Grows w'):Res5P r w (.returned (.int .i64 m)) w':=⟨by rw [h],hg⟩

theorem res2_4(x:Int)(b off cap:Nat)(w:World)(c0:w.cell? ⟨b,off,none⟩=some (.int .i64 x))(hX:1≤x):Calls Tryz.prog 151 #[.int .i64 4,.slice (some ⟨b,off,none⟩) 1 cap] w (Res2P (resD 4 [x]) w):=by
 have HR:Hid (resD 4 [x]=resD 4 [x]):=Lib.hid rfl
 generalize hR:resD 4 [x]=R at HR ⊢
 exact fz40
theorem res2_5(x:Int)(b off cap:Nat)(w:World)(c0:w.cell? ⟨b,off,none⟩=some (.int .i64 x))(hX:1≤x):Calls Tryz.prog 151 #[.int .i64 5,.slice (some ⟨b,off,none⟩) 1 cap] w (Res2P (resD 5 [x]) w):=by
 have HR:Hid (resD 5 [x]=resD 5 [x]):=Lib.hid rfl
 generalize hR:resD 5 [x]=R at HR ⊢
 exact fz40
theorem res2_6(x:Int)(b off cap:Nat)(w:World)(c0:w.cell? ⟨b,off,none⟩=some (.int .i64 x))(hX:1≤x):Calls Tryz.prog 151 #[.int .i64 6,.slice (some ⟨b,off,none⟩) 1 cap] w (Res2P (resD 6 [x]) w):=by
 have HR:Hid (resD 6 [x]=resD 6 [x]):=Lib.hid rfl
 generalize hR:resD 6 [x]=R at HR ⊢
 exact fz40
theorem res2_7(x y:Int)(b off cap:Nat)(w:World)(c0:w.cell? ⟨b,off,none⟩=some (.int .i64 x))(c1:w.cell? ⟨b,off+1,none⟩=some (.int .i64 y))(hX:1≤x∧1≤y):Calls Tryz.prog 151 #[.int .i64 7,.slice (some ⟨b,off,none⟩) 2 cap] w (Res2P (resD 7 [x,y]) w):=by
 have HR:Hid (resD 7 [x,y]=resD 7 [x,y]):=Lib.hid rfl
 generalize hR:resD 7 [x,y]=R at HR ⊢
 exact fz3
theorem res2_8(x y:Int)(b off cap:Nat)(w:World)(c0:w.cell? ⟨b,off,none⟩=some (.int .i64 x))(c1:w.cell? ⟨b,off+1,none⟩=some (.int .i64 y))(hX:1≤x∧1≤y):Calls Tryz.prog 151 #[.int .i64 8,.slice (some ⟨b,off,none⟩) 2 cap] w (Res2P (resD 8 [x,y]) w):=by
 have HR:Hid (resD 8 [x,y]=resD 8 [x,y]):=Lib.hid rfl
 generalize hR:resD 8 [x,y]=R at HR ⊢
 exact fz3
theorem res2_9(x y:Int)(b off cap:Nat)(w:World)(c0:w.cell? ⟨b,off,none⟩=some (.int .i64 x))(c1:w.cell? ⟨b,off+1,none⟩=some (.int .i64 y))(hX:1≤x∧1≤y):Calls Tryz.prog 151 #[.int .i64 9,.slice (some ⟨b,off,none⟩) 2 cap] w (Res2P (resD 9 [x,y]) w):=by
 have HR:Hid (resD 9 [x,y]=resD 9 [x,y]):=Lib.hid rfl
 generalize hR:resD 9 [x,y]=R at HR ⊢
 clear HR
 have HR:=Lib.hid hR
 have HX:=Lib.hid hX
 clear hR hX
 go_enter Tryz.func151,Tryz.ntmps151
 by_cases e1:x=2
 focus
  subst e1
 rotate_left
 focus
  have f1:(x==2)=false:=by simpa using e1
  have g1:(2==x)=false:=by simpa using fun h=>e1 h.symm
 rotate_left
 all_goals
  by_cases e2:y=2
  focus
   subst e2
  rotate_left
  focus
   have f2:(y==2)=false:=by simpa using e2
   have g2:(2==y)=false:=by simpa using fun h=>e2 h.symm
  rotate_left
  all_goals
   exact fz0
theorem res2_10(x y:Int)(b off cap:Nat)(w:World)(c0:w.cell? ⟨b,off,none⟩=some (.int .i64 x))(c1:w.cell? ⟨b,off+1,none⟩=some (.int .i64 y))(hX:1≤x∧1≤y):Calls Tryz.prog 151 #[.int .i64 10,.slice (some ⟨b,off,none⟩) 2 cap] w (Res2P (resD 10 [x,y]) w):=by
 have HR:Hid (resD 10 [x,y]=resD 10 [x,y]):=Lib.hid rfl
 generalize hR:resD 10 [x,y]=R at HR ⊢
 clear HR
 have HR:=Lib.hid hR
 have HX:=Lib.hid hX
 clear hR hX
 go_enter Tryz.func151,Tryz.ntmps151
 by_cases e1:y=2
 ·subst e1
  by_cases e2:x=2
  focus
   subst e2
  rotate_left
  focus
   have f2:(x==2)=false:=by simpa using e2
   have g2:(2==x)=false:=by simpa using fun h=>e2 h.symm
  rotate_left
  all_goals
   exact fz0
 ·have f1:(y==2)=false:=by simpa using e1
  have g1:(2==y)=false:=by simpa using fun h=>e1 h.symm
  by_cases e2:x=y
  focus
   subst e2
  rotate_left
  focus
   have f2:(x==y)=false:=by simpa using e2
   have g2:(y==x)=false:=by simpa using fun h=>e2 h.symm
  rotate_left
  all_goals
   exact fz0
theorem res2_11(x y:Int)(b off cap:Nat)(w:World)(c0:w.cell? ⟨b,off,none⟩=some (.int .i64 x))(c1:w.cell? ⟨b,off+1,none⟩=some (.int .i64 y))(hX:1≤x∧1≤y):Calls Tryz.prog 151 #[.int .i64 11,.slice (some ⟨b,off,none⟩) 2 cap] w (Res2P (resD 11 [x,y]) w):=by
 have HR:Hid (resD 11 [x,y]=resD 11 [x,y]):=Lib.hid rfl
 generalize hR:resD 11 [x,y]=R at HR ⊢
 exact fz3
theorem res2_12(x y:Int)(b off cap:Nat)(w:World)(c0:w.cell? ⟨b,off,none⟩=some (.int .i64 x))(c1:w.cell? ⟨b,off+1,none⟩=some (.int .i64 y))(hX:1≤x∧1≤y):Calls Tryz.prog 151 #[.int .i64 12,.slice (some ⟨b,off,none⟩) 2 cap] w (Res2P (resD 12 [x,y]) w):=by
 have HR:Hid (resD 12 [x,y]=resD 12 [x,y]):=Lib.hid rfl
 generalize hR:resD 12 [x,y]=R at HR ⊢
 exact fz3
theorem res2_13(x y:Int)(b off cap:Nat)(w:World)(c0:w.cell? ⟨b,off,none⟩=some (.int .i64 x))(c1:w.cell? ⟨b,off+1,none⟩=some (.int .i64 y))(hX:1≤x∧1≤y):Calls Tryz.prog 151 #[.int .i64 13,.slice (some ⟨b,off,none⟩) 2 cap] w (Res2P (resD 13 [x,y]) w):=by
 have HR:Hid (resD 13 [x,y]=resD 13 [x,y]):=Lib.hid rfl
 generalize hR:resD 13 [x,y]=R at HR ⊢
 exact fz3
theorem res2_14(x y:Int)(b off cap:Nat)(w:World)(c0:w.cell? ⟨b,off,none⟩=some (.int .i64 x))(c1:w.cell? ⟨b,off+1,none⟩=some (.int .i64 y))(hX:1≤x∧1≤y):Calls Tryz.prog 151 #[.int .i64 14,.slice (some ⟨b,off,none⟩) 2 cap] w (Res2P (resD 14 [x,y]) w):=by
 have HR:Hid (resD 14 [x,y]=resD 14 [x,y]):=Lib.hid rfl
 generalize hR:resD 14 [x,y]=R at HR ⊢
 exact fz3
theorem res2_15(x y:Int)(b off cap:Nat)(w:World)(c0:w.cell? ⟨b,off,none⟩=some (.int .i64 x))(c1:w.cell? ⟨b,off+1,none⟩=some (.int .i64 y))(hX:1≤x∧1≤y):Calls Tryz.prog 151 #[.int .i64 15,.slice (some ⟨b,off,none⟩) 2 cap] w (Res2P (resD 15 [x,y]) w):=by
 have HR:Hid (resD 15 [x,y]=resD 15 [x,y]):=Lib.hid rfl
 generalize hR:resD 15 [x,y]=R at HR ⊢
 exact fz3
theorem res2_16(x y:Int)(b off cap:Nat)(w:World)(c0:w.cell? ⟨b,off,none⟩=some (.int .i64 x))(c1:w.cell? ⟨b,off+1,none⟩=some (.int .i64 y))(hX:1≤x∧1≤y):Calls Tryz.prog 151 #[.int .i64 16,.slice (some ⟨b,off,none⟩) 2 cap] w (Res2P (resD 16 [x,y]) w):=by
 have HR:Hid (resD 16 [x,y]=resD 16 [x,y]):=Lib.hid rfl
 generalize hR:resD 16 [x,y]=R at HR ⊢
 exact fz3
theorem res2_17(x y:Int)(b off cap:Nat)(w:World)(c0:w.cell? ⟨b,off,none⟩=some (.int .i64 x))(c1:w.cell? ⟨b,off+1,none⟩=some (.int .i64 y))(hX:1≤x∧1≤y):Calls Tryz.prog 151 #[.int .i64 17,.slice (some ⟨b,off,none⟩) 2 cap] w (Res2P (resD 17 [x,y]) w):=by
 have HR:Hid (resD 17 [x,y]=resD 17 [x,y]):=Lib.hid rfl
 generalize hR:resD 17 [x,y]=R at HR ⊢
 exact fz21
theorem res2_18(x y:Int)(b off cap:Nat)(w:World)(c0:w.cell? ⟨b,off,none⟩=some (.int .i64 x))(c1:w.cell? ⟨b,off+1,none⟩=some (.int .i64 y))(hX:1≤x∧1≤y):Calls Tryz.prog 151 #[.int .i64 18,.slice (some ⟨b,off,none⟩) 2 cap] w (Res2P (resD 18 [x,y]) w):=by
 have HR:Hid (resD 18 [x,y]=resD 18 [x,y]):=Lib.hid rfl
 generalize hR:resD 18 [x,y]=R at HR ⊢
 exact fz21
theorem res2_19(x y:Int)(b off cap:Nat)(w:World)(c0:w.cell? ⟨b,off,none⟩=some (.int .i64 x))(c1:w.cell? ⟨b,off+1,none⟩=some (.int .i64 y))(hX:1≤x∧1≤y):Calls Tryz.prog 151 #[.int .i64 19,.slice (some ⟨b,off,none⟩) 2 cap] w (Res2P (resD 19 [x,y]) w):=by
 have HR:Hid (resD 19 [x,y]=resD 19 [x,y]):=Lib.hid rfl
 generalize hR:resD 19 [x,y]=R at HR ⊢
 exact fz3
theorem res2_20(x y:Int)(b off cap:Nat)(w:World)(c0:w.cell? ⟨b,off,none⟩=some (.int .i64 x))(c1:w.cell? ⟨b,off+1,none⟩=some (.int .i64 y))(hX:1≤x∧1≤y):Calls Tryz.prog 151 #[.int .i64 20,.slice (some ⟨b,off,none⟩) 2 cap] w (Res2P (resD 20 [x,y]) w):=by
 have HR:Hid (resD 20 [x,y]=resD 20 [x,y]):=Lib.hid rfl
 generalize hR:resD 20 [x,y]=R at HR ⊢
 exact fz3
theorem res2_21(x y z:Int)(b off cap:Nat)(w:World)(c0:w.cell? ⟨b,off,none⟩=some (.int .i64 x))(c1:w.cell? ⟨b,off+1,none⟩=some (.int .i64 y))(c2:w.cell? ⟨b,off+2,none⟩=some (.int .i64 z))(hX:1≤x∧1≤y∧1≤z):Calls Tryz.prog 151 #[.int .i64 21,.slice (some ⟨b,off,none⟩) 3 cap] w (Res2P (resD 21 [x,y,z]) w):=by
 have HR:Hid (resD 21 [x,y,z]=resD 21 [x,y,z]):=Lib.hid rfl
 generalize hR:resD 21 [x,y,z]=R at HR ⊢
 exact fz21
theorem res5_4(x:Int)(b off cap:Nat)(w:World)(c0:w.cell? ⟨b,off,none⟩=some (.int .i64 x))(hX:1≤x):Calls Tryz.prog 90 #[.int .i64 4,.slice (some ⟨b,off,none⟩) 1 cap] w (Res5P (resD 4 [x]) w):=by
 have HR:Hid (resD 4 [x]=resD 4 [x]):=Lib.hid rfl
 generalize hR:resD 4 [x]=R at HR ⊢
 exact fz41
theorem res5_5(x:Int)(b off cap:Nat)(w:World)(c0:w.cell? ⟨b,off,none⟩=some (.int .i64 x))(hX:1≤x):Calls Tryz.prog 90 #[.int .i64 5,.slice (some ⟨b,off,none⟩) 1 cap] w (Res5P (resD 5 [x]) w):=by
 have HR:Hid (resD 5 [x]=resD 5 [x]):=Lib.hid rfl
 generalize hR:resD 5 [x]=R at HR ⊢
 exact fz41
theorem res5_6(x:Int)(b off cap:Nat)(w:World)(c0:w.cell? ⟨b,off,none⟩=some (.int .i64 x))(hX:1≤x):Calls Tryz.prog 90 #[.int .i64 6,.slice (some ⟨b,off,none⟩) 1 cap] w (Res5P (resD 6 [x]) w):=by
 have HR:Hid (resD 6 [x]=resD 6 [x]):=Lib.hid rfl
 generalize hR:resD 6 [x]=R at HR ⊢
 exact fz41
theorem res5_7(x y:Int)(b off cap:Nat)(w:World)(c0:w.cell? ⟨b,off,none⟩=some (.int .i64 x))(c1:w.cell? ⟨b,off+1,none⟩=some (.int .i64 y))(hX:1≤x∧1≤y):Calls Tryz.prog 90 #[.int .i64 7,.slice (some ⟨b,off,none⟩) 2 cap] w (Res5P (resD 7 [x,y]) w):=by
 have HR:Hid (resD 7 [x,y]=resD 7 [x,y]):=Lib.hid rfl
 generalize hR:resD 7 [x,y]=R at HR ⊢
 exact fz4
theorem res5_8(x y:Int)(b off cap:Nat)(w:World)(c0:w.cell? ⟨b,off,none⟩=some (.int .i64 x))(c1:w.cell? ⟨b,off+1,none⟩=some (.int .i64 y))(hX:1≤x∧1≤y):Calls Tryz.prog 90 #[.int .i64 8,.slice (some ⟨b,off,none⟩) 2 cap] w (Res5P (resD 8 [x,y]) w):=by
 have HR:Hid (resD 8 [x,y]=resD 8 [x,y]):=Lib.hid rfl
 generalize hR:resD 8 [x,y]=R at HR ⊢
 exact fz4
theorem res5_9(x y:Int)(b off cap:Nat)(w:World)(c0:w.cell? ⟨b,off,none⟩=some (.int .i64 x))(c1:w.cell? ⟨b,off+1,none⟩=some (.int .i64 y))(hX:1≤x∧1≤y):Calls Tryz.prog 90 #[.int .i64 9,.slice (some ⟨b,off,none⟩) 2 cap] w (Res5P (resD 9 [x,y]) w):=by
 have HR:Hid (resD 9 [x,y]=resD 9 [x,y]):=Lib.hid rfl
 generalize hR:resD 9 [x,y]=R at HR ⊢
 clear HR
 have HR:=Lib.hid hR
 have HX:=Lib.hid hX
 clear hR hX
 go_enter Tryz.func90,Tryz.ntmps90
 by_cases e1:x=2
 focus
  subst e1
 rotate_left
 focus
  have f1:(x==2)=false:=by simpa using e1
  have g1:(2==x)=false:=by simpa using fun h=>e1 h.symm
 rotate_left
 all_goals
  by_cases e2:y=2
  focus
   subst e2
  rotate_left
  focus
   have f2:(y==2)=false:=by simpa using e2
   have g2:(2==y)=false:=by simpa using fun h=>e2 h.symm
  rotate_left
  all_goals
   exact fz1
theorem res5_10(x y:Int)(b off cap:Nat)(w:World)(c0:w.cell? ⟨b,off,none⟩=some (.int .i64 x))(c1:w.cell? ⟨b,off+1,none⟩=some (.int .i64 y))(hX:1≤x∧1≤y):Calls Tryz.prog 90 #[.int .i64 10,.slice (some ⟨b,off,none⟩) 2 cap] w (Res5P (resD 10 [x,y]) w):=by
 have HR:Hid (resD 10 [x,y]=resD 10 [x,y]):=Lib.hid rfl
 generalize hR:resD 10 [x,y]=R at HR ⊢
 clear HR
 have HR:=Lib.hid hR
 have HX:=Lib.hid hX
 clear hR hX
 go_enter Tryz.func90,Tryz.ntmps90
 by_cases e1:y=2
 ·subst e1
  by_cases e2:x=2
  focus
   subst e2
  rotate_left
  focus
   have f2:(x==2)=false:=by simpa using e2
   have g2:(2==x)=false:=by simpa using fun h=>e2 h.symm
  rotate_left
  all_goals
   exact fz1
 ·have f1:(y==2)=false:=by simpa using e1
  have g1:(2==y)=false:=by simpa using fun h=>e1 h.symm
  by_cases e2:x=y
  focus
   subst e2
  rotate_left
  focus
   have f2:(x==y)=false:=by simpa using e2
   have g2:(y==x)=false:=by simpa using fun h=>e2 h.symm
  rotate_left
  all_goals
   exact fz1
theorem res5_11(x y:Int)(b off cap:Nat)(w:World)(c0:w.cell? ⟨b,off,none⟩=some (.int .i64 x))(c1:w.cell? ⟨b,off+1,none⟩=some (.int .i64 y))(hX:1≤x∧1≤y):Calls Tryz.prog 90 #[.int .i64 11,.slice (some ⟨b,off,none⟩) 2 cap] w (Res5P (resD 11 [x,y]) w):=by
 have HR:Hid (resD 11 [x,y]=resD 11 [x,y]):=Lib.hid rfl
 generalize hR:resD 11 [x,y]=R at HR ⊢
 exact fz4
theorem res5_12(x y:Int)(b off cap:Nat)(w:World)(c0:w.cell? ⟨b,off,none⟩=some (.int .i64 x))(c1:w.cell? ⟨b,off+1,none⟩=some (.int .i64 y))(hX:1≤x∧1≤y):Calls Tryz.prog 90 #[.int .i64 12,.slice (some ⟨b,off,none⟩) 2 cap] w (Res5P (resD 12 [x,y]) w):=by
 have HR:Hid (resD 12 [x,y]=resD 12 [x,y]):=Lib.hid rfl
 generalize hR:resD 12 [x,y]=R at HR ⊢
 exact fz4
theorem res5_13(x y:Int)(b off cap:Nat)(w:World)(c0:w.cell? ⟨b,off,none⟩=some (.int .i64 x))(c1:w.cell? ⟨b,off+1,none⟩=some (.int .i64 y))(hX:1≤x∧1≤y):Calls Tryz.prog 90 #[.int .i64 13,.slice (some ⟨b,off,none⟩) 2 cap] w (Res5P (resD 13 [x,y]) w):=by
 have HR:Hid (resD 13 [x,y]=resD 13 [x,y]):=Lib.hid rfl
 generalize hR:resD 13 [x,y]=R at HR ⊢
 exact fz4
theorem res5_14(x y:Int)(b off cap:Nat)(w:World)(c0:w.cell? ⟨b,off,none⟩=some (.int .i64 x))(c1:w.cell? ⟨b,off+1,none⟩=some (.int .i64 y))(hX:1≤x∧1≤y):Calls Tryz.prog 90 #[.int .i64 14,.slice (some ⟨b,off,none⟩) 2 cap] w (Res5P (resD 14 [x,y]) w):=by
 have HR:Hid (resD 14 [x,y]=resD 14 [x,y]):=Lib.hid rfl
 generalize hR:resD 14 [x,y]=R at HR ⊢
 exact fz4
theorem res5_15(x y:Int)(b off cap:Nat)(w:World)(c0:w.cell? ⟨b,off,none⟩=some (.int .i64 x))(c1:w.cell? ⟨b,off+1,none⟩=some (.int .i64 y))(hX:1≤x∧1≤y):Calls Tryz.prog 90 #[.int .i64 15,.slice (some ⟨b,off,none⟩) 2 cap] w (Res5P (resD 15 [x,y]) w):=by
 have HR:Hid (resD 15 [x,y]=resD 15 [x,y]):=Lib.hid rfl
 generalize hR:resD 15 [x,y]=R at HR ⊢
 exact fz4
theorem res5_16(x y:Int)(b off cap:Nat)(w:World)(c0:w.cell? ⟨b,off,none⟩=some (.int .i64 x))(c1:w.cell? ⟨b,off+1,none⟩=some (.int .i64 y))(hX:1≤x∧1≤y):Calls Tryz.prog 90 #[.int .i64 16,.slice (some ⟨b,off,none⟩) 2 cap] w (Res5P (resD 16 [x,y]) w):=by
 have HR:Hid (resD 16 [x,y]=resD 16 [x,y]):=Lib.hid rfl
 generalize hR:resD 16 [x,y]=R at HR ⊢
 exact fz4
theorem res5_17(x y:Int)(b off cap:Nat)(w:World)(c0:w.cell? ⟨b,off,none⟩=some (.int .i64 x))(c1:w.cell? ⟨b,off+1,none⟩=some (.int .i64 y))(hX:1≤x∧1≤y):Calls Tryz.prog 90 #[.int .i64 17,.slice (some ⟨b,off,none⟩) 2 cap] w (Res5P (resD 17 [x,y]) w):=by
 have HR:Hid (resD 17 [x,y]=resD 17 [x,y]):=Lib.hid rfl
 generalize hR:resD 17 [x,y]=R at HR ⊢
 exact fz22
theorem res5_18(x y:Int)(b off cap:Nat)(w:World)(c0:w.cell? ⟨b,off,none⟩=some (.int .i64 x))(c1:w.cell? ⟨b,off+1,none⟩=some (.int .i64 y))(hX:1≤x∧1≤y):Calls Tryz.prog 90 #[.int .i64 18,.slice (some ⟨b,off,none⟩) 2 cap] w (Res5P (resD 18 [x,y]) w):=by
 have HR:Hid (resD 18 [x,y]=resD 18 [x,y]):=Lib.hid rfl
 generalize hR:resD 18 [x,y]=R at HR ⊢
 exact fz22
theorem res5_19(x y:Int)(b off cap:Nat)(w:World)(c0:w.cell? ⟨b,off,none⟩=some (.int .i64 x))(c1:w.cell? ⟨b,off+1,none⟩=some (.int .i64 y))(hX:1≤x∧1≤y):Calls Tryz.prog 90 #[.int .i64 19,.slice (some ⟨b,off,none⟩) 2 cap] w (Res5P (resD 19 [x,y]) w):=by
 have HR:Hid (resD 19 [x,y]=resD 19 [x,y]):=Lib.hid rfl
 generalize hR:resD 19 [x,y]=R at HR ⊢
 exact fz4
theorem res5_20(x y:Int)(b off cap:Nat)(w:World)(c0:w.cell? ⟨b,off,none⟩=some (.int .i64 x))(c1:w.cell? ⟨b,off+1,none⟩=some (.int .i64 y))(hX:1≤x∧1≤y):Calls Tryz.prog 90 #[.int .i64 20,.slice (some ⟨b,off,none⟩) 2 cap] w (Res5P (resD 20 [x,y]) w):=by
 have HR:Hid (resD 20 [x,y]=resD 20 [x,y]):=Lib.hid rfl
 generalize hR:resD 20 [x,y]=R at HR ⊢
 exact fz4
theorem res5_21(x y z:Int)(b off cap:Nat)(w:World)(c0:w.cell? ⟨b,off,none⟩=some (.int .i64 x))(c1:w.cell? ⟨b,off+1,none⟩=some (.int .i64 y))(c2:w.cell? ⟨b,off+2,none⟩=some (.int .i64 z))(hX:1≤x∧1≤y∧1≤z):Calls Tryz.prog 90 #[.int .i64 21,.slice (some ⟨b,off,none⟩) 3 cap] w (Res5P (resD 21 [x,y,z]) w):=by
 have HR:Hid (resD 21 [x,y,z]=resD 21 [x,y,z]):=Lib.hid rfl
 generalize hR:resD 21 [x,y,z]=R at HR ⊢
 exact fz22
end Go.Proofs.YtfoefpoaomepbaaGreatDoor
namespace Go.Proofs.YtfoefpoaomepbaaGreatDoor
def dimsOk(env:List (ByteArray × Int)):Bool:=env.all fun p=>decide (1≤p.2∧p.2≤4)
def inferE(env:List (ByteArray × Int))(e:Ex):Int × Int:=if validB e=true∧dimsOk env=true then inferF env e else(0,1)
mutual
def noLitB:Ex→Bool
 | .mk o _ _ _ _ l=>!(o==1)&&noLitsB l
def noLitsB:List Ex→Bool
 | []=>true
 |e::r=>noLitB e&&noLitsB r
end
theorem noLits_get:∀{l:List Ex},noLitsB l=true→∀k,k<l.length→noLitB (l.getD k default)=true
 | [],_,_,hk=>absurd hk (Nat.not_lt_zero _)
 |e::r,h,k,hk=>by
  rw [noLitsB,Bool.and_eq_true]at h
  cases k with
  |zero=>exact h.1
  |succ k=>exact noLits_get h.2 k (by simpa using hk)
theorem noLit_arg{e:Ex}(h:noLitB e=true)(k:Nat)(hk:k<e.args.length):noLitB (e.arg k)=true:=by
 obtain⟨o,n,d,m,s,l⟩:=e
 rw [noLitB,Bool.and_eq_true]at h
 exact noLits_get h.2 k hk
theorem noLit_op{e:Ex}(h:noLitB e=true):e.op≠1:=by
 obtain⟨o,n,d,m,s,l⟩:=e
 rw [noLitB,Bool.and_eq_true]at h
 intro h1
 have h2:o=1:=h1
 have h3:=h.1
 rw [h2]at h3
 exact absurd h3 (by decide)
end Go.Proofs.YtfoefpoaomepbaaGreatDoor
namespace Go.Proofs.YtfoefpoaomepbaaGreatDoor
open Go.RowKit
theorem resD_bd{op:Int}{d:List Int}(h:∀x∈d,1≤x∧x≤4)(hr:resD op d≠0):1≤resD op d∧resD op d≤4:=by
 have g:∀k,d.getD k 0=0∨(1≤d.getD k 0∧d.getD k 0≤4):=fun k=>by
  by_cases hk:k<d.length
  ·rw [List.getD_eq_getElem?_getD,List.getElem?_eq_getElem hk];exact .inr (h _ (List.getElem_mem hk))
  ·rw [List.getD_eq_getElem?_getD,List.getElem?_eq_none (by omega)];exact .inl rfl
 have g0:=g 0
 have g1:=g 1
 unfold resD at hr ⊢
 dsimp only at hr ⊢
 generalize d.getD 0 0=a at *
 generalize d.getD 1 0=b at *
 generalize d.getD 2 0=c at *
 clear h g
 (repeat' split)<;>(repeat' split at hr)<;>omega
theorem dimsOk_mem{env:List (ByteArray × Int)}(h:dimsOk env=true){p:ByteArray × Int}(hp:p∈env):1≤p.2∧p.2≤4:=by
 have:=List.all_eq_true.1 h p hp
 simpa using this
theorem lastN_in{α:Type}{env:List (ByteArray × α)}{s:ByteArray}{x:α}(h:lastN env s=some x):∃p∈env,p.2=x:=by
 exact fz57
mutual
theorem infer_dim{env:List (ByteArray × Int)}(hE:dimsOk env=true):∀e:Ex,formedB e=true→(inferF env e).2=0→1≤(inferF env e).1∧(inferF env e).1≤4
 | .mk op n d m s l=>by
   intro hf hi
   rw [formedB,Bool.and_eq_true,decide_eq_true_eq]at hf
   rw [inferF]at hi ⊢
   obtain⟨ha,hf⟩:=hf
   unfold infNode at hi ⊢
   by_cases c1:op=1
   ·subst c1
    rw [if_pos rfl]at hf
    simp only [Bool.and_eq_true]at hf
    have:=decOk_bd hf.1
    exact⟨by show 1≤m;omega,by show m≤4;omega⟩
   rw [if_neg c1]at hi hf ⊢
   by_cases c3:op=3
   ·rw [if_pos c3];exact⟨by show(1:Int)≤4;omega,by show(4:Int)≤4;omega⟩
   rw [if_neg c3]at hi ⊢
   by_cases c2:op=2
   ·rw [if_pos c2]at hi ⊢
    unfold inferN at hi ⊢
    by_cases cd:inpD s.toList≠0
    ·rw [if_pos cd]
     have:=inpD_bd s.toList
     exact⟨by show 1≤inpD s.toList;omega,by show inpD s.toList≤4;omega⟩
    ·rw [if_neg cd]at hi ⊢
     cases hl:lastN env s with
     |none=>rw [hl]at hi;simp at hi
     |some x=>
      obtain⟨p,hp,rfl⟩:=lastN_in hl
      exact dimsOk_mem hE hp
   rw [if_neg c2,if_neg c3]at hf
   rw [if_neg c2]at hi ⊢
   simp only [Bool.and_eq_true]at hf
   split at hi<;>rename_i c4
   ·exact absurd hi c4
   rw [if_neg c4]
   split at hi<;>rename_i c5
   ·simp at hi
   rw [if_neg c5]
   exact resD_bd (infers_dim hE l hf.1 (by omega)) c5
theorem infers_dim{env:List (ByteArray × Int)}(hE:dimsOk env=true):∀l:List Ex,formedsB l=true→(infersF env l).2=0→∀x∈(infersF env l).1,1≤x∧x≤4
 | []=>by intro _ _ x hx;simp [infersF]at hx
 |e::r=>by
  intro hf h x hx
  rw [formedsB,Bool.and_eq_true]at hf
  rw [infersF]at h hx
  split at h<;>rename_i c1
  ·exact absurd h c1
  split at h<;>rename_i c2
  ·exact absurd h c2
  rw [if_neg c1,if_neg c2]at hx
  rcases List.mem_cons.1 hx with rfl|hx
  ·exact infer_dim hE e hf.1 (by omega)
  ·exact infers_dim hE r hf.2 (by omega) x hx
end
theorem infers_bad(env:List (ByteArray × Int)):∀(l:List Ex) (k:Nat),k<l.length→(∀j,j<k→(inferF env (l.getD j default)).2=0)→(inferF env (l.getD k default)).2≠0→
 (infersF env l).2=(inferF env (l.getD k default)).2
 | [],k,hk,_,_=>by simp at hk
 |e::r,0,_,_,h=>by
  rw [infersF,if_pos (by simpa using h)];rfl
 |e::r,k+1,hk,hj,h=>by
  have h0:(inferF env e).2=0:=hj 0 (by omega)
  have hr:=infers_bad env r k (by simpa using hk) (fun j hjk=>hj (j+1) (by omega)) h
  have hne:(infersF env r).2≠0:=by rw [hr];exact h
  rw [infersF,if_neg (by omega),if_pos hne]
  exact hr
theorem infers_ok(env:List (ByteArray × Int)):∀l:List Ex,(∀j,j<l.length→(inferF env (l.getD j default)).2=0)→infersF env l=(l.map fun e=>(inferF env e).1,0)
 | [],_=>by rw [infersF];rfl
 |e::r,h=>by
  have h0:(inferF env e).2=0:=h 0 (by simp)
  have hr:=infers_ok env r (fun j hj=>h (j+1) (by simpa using hj))
  rw [infersF,if_neg (by omega),hr,if_neg (by simp)]
  rfl
theorem len1{d:List Int}(h:(d.length:Int)=1):∃x,d= [x]:=List.length_eq_one_iff.1 (by omega)
theorem len2{d:List Int}(h:(d.length:Int)=2):∃x y,d= [x,y]:=by
 match d,(show d.length=2 by omega)with
 | [a,b],_=>exact⟨a,b,rfl⟩
theorem len3{d:List Int}(h:(d.length:Int)=3):∃x y z,d= [x,y,z]:=by
 match d,(show d.length=3 by omega)with
 | [a,b,c],_=>exact⟨a,b,c,rfl⟩
theorem own_cell{w:World}{base g cap:Nat}{d:List Int}(h:w.ownsRow base 3 1 (.slice (some ⟨g,0,none⟩) d.length cap) d.length (d.map (Value.int .i64)))(k:Nat)(hk:k<d.length):w.cell? ⟨g,0+k,none⟩=some (.int .i64 (d.getD k 0)):=by
 have:=World.ownsRow.cells (g:=g) h rfl k (.int .i64 (d.getD k 0)) (by rw [List.getElem?_map,List.getD_eq_getElem?_getD,List.getElem?_eq_getElem hk];rfl)
 rw [addr_add]at this
 rw [Nat.zero_add];exact this
theorem res2_all(op:Int)(d:List Int)(base g cap:Nat)(w:World)(h4:4≤op)(h21:op≤21)(hl:(d.length:Int)=argsN op)(hx:∀x∈d,1≤x)(h:w.ownsRow base 3 1 (.slice (some ⟨g,0,none⟩) d.length cap) d.length (d.map (Value.int .i64))) :
 Calls Tryz.prog 151 #[.int .i64 op,.slice (some ⟨g,0,none⟩) d.length cap] w (Res2P (resD op d) w):=by
 have hc:=own_cell h
 clear h
 rcases(show op=4∨op=5∨op=6∨op=7∨op=8∨op=9∨op=10∨op=11∨op=12∨op=13∨op=14∨op=15∨op=16∨op=17∨op=18∨op=19∨op=20∨op=21 by omega)with rfl|rfl|rfl|rfl|rfl|rfl|rfl|rfl|rfl|rfl|rfl|rfl|rfl|rfl|rfl|rfl|rfl|rfl
 ·obtain⟨x,rfl⟩:=len1 (d:=d) (by rw [hl];rfl)
  exact res2_4 x g 0 cap w (hc 0 (by simp)) (hx _ (by simp))
 ·obtain⟨x,rfl⟩:=len1 (d:=d) (by rw [hl];rfl)
  exact res2_5 x g 0 cap w (hc 0 (by simp)) (hx _ (by simp))
 ·obtain⟨x,rfl⟩:=len1 (d:=d) (by rw [hl];rfl)
  exact res2_6 x g 0 cap w (hc 0 (by simp)) (hx _ (by simp))
 ·obtain⟨x,y,rfl⟩:=len2 (d:=d) (by rw [hl];rfl)
  exact res2_7 x y g 0 cap w (hc 0 (by simp)) (hc 1 (by simp)) ⟨hx _ (by simp),hx _ (by simp)⟩
 ·obtain⟨x,y,rfl⟩:=len2 (d:=d) (by rw [hl];rfl)
  exact res2_8 x y g 0 cap w (hc 0 (by simp)) (hc 1 (by simp)) ⟨hx _ (by simp),hx _ (by simp)⟩
 ·obtain⟨x,y,rfl⟩:=len2 (d:=d) (by rw [hl];rfl)
  exact res2_9 x y g 0 cap w (hc 0 (by simp)) (hc 1 (by simp)) ⟨hx _ (by simp),hx _ (by simp)⟩
 ·obtain⟨x,y,rfl⟩:=len2 (d:=d) (by rw [hl];rfl)
  exact res2_10 x y g 0 cap w (hc 0 (by simp)) (hc 1 (by simp)) ⟨hx _ (by simp),hx _ (by simp)⟩
 ·obtain⟨x,y,rfl⟩:=len2 (d:=d) (by rw [hl];rfl)
  exact res2_11 x y g 0 cap w (hc 0 (by simp)) (hc 1 (by simp)) ⟨hx _ (by simp),hx _ (by simp)⟩
 ·obtain⟨x,y,rfl⟩:=len2 (d:=d) (by rw [hl];rfl)
  exact res2_12 x y g 0 cap w (hc 0 (by simp)) (hc 1 (by simp)) ⟨hx _ (by simp),hx _ (by simp)⟩
 ·obtain⟨x,y,rfl⟩:=len2 (d:=d) (by rw [hl];rfl)
  exact res2_13 x y g 0 cap w (hc 0 (by simp)) (hc 1 (by simp)) ⟨hx _ (by simp),hx _ (by simp)⟩
 ·obtain⟨x,y,rfl⟩:=len2 (d:=d) (by rw [hl];rfl)
  exact res2_14 x y g 0 cap w (hc 0 (by simp)) (hc 1 (by simp)) ⟨hx _ (by simp),hx _ (by simp)⟩
 ·obtain⟨x,y,rfl⟩:=len2 (d:=d) (by rw [hl];rfl)
  exact res2_15 x y g 0 cap w (hc 0 (by simp)) (hc 1 (by simp)) ⟨hx _ (by simp),hx _ (by simp)⟩
 ·obtain⟨x,y,rfl⟩:=len2 (d:=d) (by rw [hl];rfl)
  exact res2_16 x y g 0 cap w (hc 0 (by simp)) (hc 1 (by simp)) ⟨hx _ (by simp),hx _ (by simp)⟩
 ·obtain⟨x,y,rfl⟩:=len2 (d:=d) (by rw [hl];rfl)
  exact res2_17 x y g 0 cap w (hc 0 (by simp)) (hc 1 (by simp)) ⟨hx _ (by simp),hx _ (by simp)⟩
 ·obtain⟨x,y,rfl⟩:=len2 (d:=d) (by rw [hl];rfl)
  exact res2_18 x y g 0 cap w (hc 0 (by simp)) (hc 1 (by simp)) ⟨hx _ (by simp),hx _ (by simp)⟩
 ·obtain⟨x,y,rfl⟩:=len2 (d:=d) (by rw [hl];rfl)
  exact res2_19 x y g 0 cap w (hc 0 (by simp)) (hc 1 (by simp)) ⟨hx _ (by simp),hx _ (by simp)⟩
 ·obtain⟨x,y,rfl⟩:=len2 (d:=d) (by rw [hl];rfl)
  exact res2_20 x y g 0 cap w (hc 0 (by simp)) (hc 1 (by simp)) ⟨hx _ (by simp),hx _ (by simp)⟩
 ·obtain⟨x,y,z,rfl⟩:=len3 (d:=d) (by rw [hl];rfl)
  exact res2_21 x y z g 0 cap w (hc 0 (by simp)) (hc 1 (by simp)) (hc 2 (by simp)) ⟨hx _ (by simp),hx _ (by simp),hx _ (by simp)⟩
theorem res5_all(op:Int)(d:List Int)(base g cap:Nat)(w:World)(h4:4≤op)(h21:op≤21)(hl:(d.length:Int)=argsN op)(hx:∀x∈d,1≤x)(h:w.ownsRow base 3 1 (.slice (some ⟨g,0,none⟩) d.length cap) d.length (d.map (Value.int .i64))) :
 Calls Tryz.prog 90 #[.int .i64 op,.slice (some ⟨g,0,none⟩) d.length cap] w (Res5P (resD op d) w):=by
 have hc:=own_cell h
 clear h
 rcases(show op=4∨op=5∨op=6∨op=7∨op=8∨op=9∨op=10∨op=11∨op=12∨op=13∨op=14∨op=15∨op=16∨op=17∨op=18∨op=19∨op=20∨op=21 by omega)with rfl|rfl|rfl|rfl|rfl|rfl|rfl|rfl|rfl|rfl|rfl|rfl|rfl|rfl|rfl|rfl|rfl|rfl
 ·obtain⟨x,rfl⟩:=len1 (d:=d) (by rw [hl];rfl)
  exact res5_4 x g 0 cap w (hc 0 (by simp)) (hx _ (by simp))
 ·obtain⟨x,rfl⟩:=len1 (d:=d) (by rw [hl];rfl)
  exact res5_5 x g 0 cap w (hc 0 (by simp)) (hx _ (by simp))
 ·obtain⟨x,rfl⟩:=len1 (d:=d) (by rw [hl];rfl)
  exact res5_6 x g 0 cap w (hc 0 (by simp)) (hx _ (by simp))
 ·obtain⟨x,y,rfl⟩:=len2 (d:=d) (by rw [hl];rfl)
  exact res5_7 x y g 0 cap w (hc 0 (by simp)) (hc 1 (by simp)) ⟨hx _ (by simp),hx _ (by simp)⟩
 ·obtain⟨x,y,rfl⟩:=len2 (d:=d) (by rw [hl];rfl)
  exact res5_8 x y g 0 cap w (hc 0 (by simp)) (hc 1 (by simp)) ⟨hx _ (by simp),hx _ (by simp)⟩
 ·obtain⟨x,y,rfl⟩:=len2 (d:=d) (by rw [hl];rfl)
  exact res5_9 x y g 0 cap w (hc 0 (by simp)) (hc 1 (by simp)) ⟨hx _ (by simp),hx _ (by simp)⟩
 ·obtain⟨x,y,rfl⟩:=len2 (d:=d) (by rw [hl];rfl)
  exact res5_10 x y g 0 cap w (hc 0 (by simp)) (hc 1 (by simp)) ⟨hx _ (by simp),hx _ (by simp)⟩
 ·obtain⟨x,y,rfl⟩:=len2 (d:=d) (by rw [hl];rfl)
  exact res5_11 x y g 0 cap w (hc 0 (by simp)) (hc 1 (by simp)) ⟨hx _ (by simp),hx _ (by simp)⟩
 ·obtain⟨x,y,rfl⟩:=len2 (d:=d) (by rw [hl];rfl)
  exact res5_12 x y g 0 cap w (hc 0 (by simp)) (hc 1 (by simp)) ⟨hx _ (by simp),hx _ (by simp)⟩
 ·obtain⟨x,y,rfl⟩:=len2 (d:=d) (by rw [hl];rfl)
  exact res5_13 x y g 0 cap w (hc 0 (by simp)) (hc 1 (by simp)) ⟨hx _ (by simp),hx _ (by simp)⟩
 ·obtain⟨x,y,rfl⟩:=len2 (d:=d) (by rw [hl];rfl)
  exact res5_14 x y g 0 cap w (hc 0 (by simp)) (hc 1 (by simp)) ⟨hx _ (by simp),hx _ (by simp)⟩
 ·obtain⟨x,y,rfl⟩:=len2 (d:=d) (by rw [hl];rfl)
  exact res5_15 x y g 0 cap w (hc 0 (by simp)) (hc 1 (by simp)) ⟨hx _ (by simp),hx _ (by simp)⟩
 ·obtain⟨x,y,rfl⟩:=len2 (d:=d) (by rw [hl];rfl)
  exact res5_16 x y g 0 cap w (hc 0 (by simp)) (hc 1 (by simp)) ⟨hx _ (by simp),hx _ (by simp)⟩
 ·obtain⟨x,y,rfl⟩:=len2 (d:=d) (by rw [hl];rfl)
  exact res5_17 x y g 0 cap w (hc 0 (by simp)) (hc 1 (by simp)) ⟨hx _ (by simp),hx _ (by simp)⟩
 ·obtain⟨x,y,rfl⟩:=len2 (d:=d) (by rw [hl];rfl)
  exact res5_18 x y g 0 cap w (hc 0 (by simp)) (hc 1 (by simp)) ⟨hx _ (by simp),hx _ (by simp)⟩
 ·obtain⟨x,y,rfl⟩:=len2 (d:=d) (by rw [hl];rfl)
  exact res5_19 x y g 0 cap w (hc 0 (by simp)) (hc 1 (by simp)) ⟨hx _ (by simp),hx _ (by simp)⟩
 ·obtain⟨x,y,rfl⟩:=len2 (d:=d) (by rw [hl];rfl)
  exact res5_20 x y g 0 cap w (hc 0 (by simp)) (hc 1 (by simp)) ⟨hx _ (by simp),hx _ (by simp)⟩
 ·obtain⟨x,y,z,rfl⟩:=len3 (d:=d) (by rw [hl];rfl)
  exact res5_21 x y z g 0 cap w (hc 0 (by simp)) (hc 1 (by simp)) (hc 2 (by simp)) ⟨hx _ (by simp),hx _ (by simp),hx _ (by simp)⟩
end Go.Proofs.YtfoefpoaomepbaaGreatDoor
namespace Go.Proofs.YtfoefpoaomepbaaGreatDoor
open Go.RowKit Go.Shelf
attribute [local go_sem] Oper.semAt_some
theorem toList_inj{a b:ByteArray}(h:a.toList=b.toList):a=b:=by
 rw [ByteArray.toList_eq,ByteArray.toList_eq]at h
 exact ByteArray.ext (Array.ext' h)
theorem lastN_some{α:Type}(env:List (ByteArray × α))(s:ByteArray)(i:Nat)(d:ByteArray × α)(hi:i<env.length)(he:(env.getD i d).1=s)(hl:∀j,i<j→j<env.length→(env.getD j d).1≠s):lastN env s=some (env.getD i d).2:=by
 have h1:env=env.take i++env.getD i d::env.drop (i+1):=by
  rw [List.getD_eq_getElem?_getD,List.getElem?_eq_getElem hi,Option.getD_some,List.getElem_cons_drop,List.take_append_drop]
 have h2:(env.drop (i+1)).reverse.find? (fun p=>decide (p.1=s))=none:=by
  rw [List.find?_eq_none]
  intro x hx
  obtain⟨k,hk,rfl⟩:=List.getElem_of_mem (List.mem_reverse.1 hx)
  have hk2:i+1+k<env.length:=by rw [List.length_drop]at hk;omega
  have:=hl (i+1+k) (by omega) hk2
  rw [List.getD_eq_getElem?_getD,List.getElem?_eq_getElem hk2,Option.getD_some]at this
  rw [List.getElem_drop]
  simpa using this
 unfold lastN
 generalize hz:env.getD i d=z at *
 rw [h1,List.reverse_append,List.reverse_cons,List.append_assoc,List.find?_append,h2]
 simp [he]
theorem lastN_none{α:Type}(env:List (ByteArray × α))(s:ByteArray)(d:ByteArray × α)(hl:∀j,j<env.length→(env.getD j d).1≠s):lastN env s=none:=by
 unfold lastN
 rw [Option.map_eq_none_iff,List.find?_eq_none]
 intro x hx
 obtain⟨k,hk,rfl⟩:=List.getElem_of_mem (List.mem_reverse.1 hx)
 have:=hl k hk
 rw [List.getD_eq_getElem?_getD,List.getElem?_eq_getElem hk,Option.getD_some]at this
 simpa using this
def lookV(env:List (ByteArray × Int))(s:ByteArray):Int × Bool:=if inpD s.toList≠0 then(inpD s.toList,true)else match lastN env s with|some m=>(m,true)|none=>(0,false)
theorem lookV_infer(env:List (ByteArray × Int))(s:ByteArray):inferN env s=if(lookV env s).2=true then((lookV env s).1,0)else(0,5):=by
 unfold inferN lookV
 by_cases h:inpD s.toList≠0
 ·rw [if_pos h,if_pos h];simp
 ·rw [if_neg h,if_neg h]
  cases lastN env s<;>simp
def LkP(env:List (ByteArray × Int))(s:ByteArray)(w:World)(e:Ending)(w':World):Prop:=e= .returned (.tuple #[.int .i64 (lookV env s).1,.bool (lookV env s).2])∧w.Grows w'
structure LkMem(B:Nat)(s:ByteArray)(m:Int)(q:Bool)(W:World):Prop where
 nm:W.heap[B]? =some (.cells #[.string s] 9 (0,0))
 res:W.heap[B+1]? =some (.cells #[.int .i64 m] 3 (0,0))
 ok:W.heap[B+2]? =some (.cells #[.bool q] 4 (0,0))
 size:B+4≤W.heap.size
theorem LkMem.own{B:Nat}{s:ByteArray}{m:Int}{q:Bool}{X Y:World}{row:Option Nat}(h:LkMem B s m q X)(hg:X.grownBy Y row)(hr:∀r,row=some r→∃o:Obj,X.heap[r]? =some o∧o.isCells=false):LkMem B s m q Y:=
 ⟨(grownBy_keeps_cells hg hr h.nm rfl).trans h.nm,(grownBy_keeps_cells hg hr h.res rfl).trans h.res,(grownBy_keeps_cells hg hr h.ok rfl).trans h.ok,Nat.le_trans h.size hg.size⟩
theorem LkMem.alloc{B:Nat}{s:ByteArray}{m:Int}{q:Bool}{X:World}(h:LkMem B s m q X)(o:Obj):LkMem B s m q (X.alloc o):=h.own (World.grownBy_alloc X o none) (fun r e=>by cases e)
def LkBody(B:Nat)(s:ByteArray)(L:List (ByteArray × Int))(w:World)(c:Code)(pre:List (Fin L.length))(W:World):Prop:=
 (c= .ret∧∃ini i,pre=ini++[i]∧(∀j∈ini,bdN L j.1≠s)∧bdN L i.1=s∧LkMem B s (bdD L i.1) true W)∧Below w.heap.size w W
theorem lookup_in(s:ByteArray)(L:List (ByteArray × Int))(v:Value)(w:World)(h:BindAt w v L)(hs:inpD s.toList≠0):Calls Tryz.prog 150 #[.string s,v] w (LkP L s w):=by
 obtain⟨-,a,cap,rfl,-⟩:=h
 have HF:Hid (lookV L s=(inpD s.toList,true)):=Lib.hid (by unfold lookV;rw [if_pos hs])
 have HI:Hid (∀w,Calls Tryz.prog 99 #[.string s] w fun e w'=>e= .returned (.tuple #[.int .i64 (inpD s.toList),.bool true])∧w=w'):=Lib.hid (fun w=>(Input2_any s w).mono (by rintro e w' ⟨rfl,rfl⟩;rw [decide_eq_true hs];exact⟨rfl,rfl⟩))
 clear hs
 generalize inpD s.toList=D at *
 go_enter Tryz.func150,Tryz.ntmps150
 go_wp2_with (go_at_call 99;refine(HI.out _).mono ?_;rintro e w' ⟨rfl,rfl⟩)
 go_returns
 unfold LkP
 rw [HF.out]
 exact⟨rfl,.of_below belB⟩
theorem lookup_no(s:ByteArray)(L:List (ByteArray × Int))(v:Value)(w:World)(h:BindAt w v L)(hs:inpD s.toList=0):Calls Tryz.prog 150 #[.string s,v] w (LkP L s w):=by
 have HV:=Lib.hid h
 obtain⟨-,a,cap,rfl,-⟩:=h
 have HS:Hid (lookV L s=match lastN L s with|some m=>(m,true)|none=>(0,false)):=Lib.hid (by unfold lookV;rw [if_neg (by omega)])
 have HI:Hid (∀w,Calls Tryz.prog 99 #[.string s] w fun e w'=>e= .returned (.tuple #[.int .i64 0,.bool false])∧w=w'):=Lib.hid (fun w=>(Input2_any s w).mono (by rintro e w' ⟨rfl,rfl⟩;rw [hs];exact⟨rfl,rfl⟩))
 clear hs
 refine(callsIn_wide (n:=6)).1 ?_
 refine callsIn_of_wp_marks Tryz.func150 rfl trivial ?_ rfl
 simp only [Tryz.ntmps150,List.size_toArray,List.length_cons,List.length_nil,Nat.reduceAdd,Nat.reduceSub,Array.replicate_succ,Array.replicate_zero,List.push_toArray,List.append_toArray,List.nil_append,List.cons_append]
 gi_wp2_with (first
  |(refine⟨trivial, ?_⟩;gi_at_call 99;refine(callsIn_wide.2 (HI.out _)).mono ?_;rintro e w' ⟨rfl,rfl⟩)
  |(refine⟨trivial, ?_⟩;gi_at_call 190;refine(backB_in Fence.wide _ trivial rfl _ _ _ _).mono ?_;rintro e w' ⟨rfl,rfl⟩))
 obtain⟨W0,hW0⟩:∃W0,(((w.alloc (.cells #[.string s] 9)).alloc (.cells #[.int .i64 0] 3)).alloc (.cells #[.bool false] 4)).alloc (.cells #[.slice a L.length cap] 52)=W0:=⟨_,rfl⟩
 have hsz:W0.heap.size=w.heap.size+4:=by rw [←hW0];simp
 have hB0:Below w.heap.size w W0:=by rw [←hW0];(exact belB)
 have hm0:LkMem w.heap.size s 0 false W0:=by rw [←hW0];exact⟨by(repeat(first|(rw [heap_alloc_if,if_pos (by simp;done)];done)|(rw [heap_alloc_if,if_neg (by simp;omega)])|(rw [heap_alloc_if,if_neg (by simp;done)]))),by(repeat(first|(rw [heap_alloc_if,if_pos (by simp;done)];done)|(rw [heap_alloc_if,if_neg (by simp;omega)])|(rw [heap_alloc_if,if_neg (by simp;done)]))),by(repeat(first|(rw [heap_alloc_if,if_pos (by simp;done)];done)|(rw [heap_alloc_if,if_neg (by simp;omega)])|(rw [heap_alloc_if,if_neg (by simp;done)]))),by simp⟩
 have hbk:W0.cell? ⟨w.heap.size+3,0,none⟩=some (.slice a L.length cap):=by rw [←hW0,World.cell?_alloc_at _ _ _ _ (by simp)];rfl
 rw [hW0]
 clear hW0
 have HB0:=Lib.hid hB0
 have HM0:=Lib.hid hm0
 have HVW:=Lib.hid (HV.out.below (Nat.le_refl _) hB0)
 refine wpIn_rangeFunc_ownH (F:=Fence.wide) rfl (by omega) (gf:=206) (lb:=#[.pointer (some ⟨w.heap.size+3,0,none⟩)]) rfl trivial (enters_of Tryz.func206 (by kernel_rfl) rfl)
  (backB_stops Fence.wide 5 trivial rfl (by omega) (w.heap.size+3) W0.heap.size (.slice a L.length cap) L L.length W0 (by omega) (Nat.le_refl _) hbk HVW.out.lies) belowK_t (belowK_b (Nat.le_refl _)) (Below.refl _ _) (fun _=>rfl)
  (fun pre W=>(LkMem w.heap.size s 0 false W∧∀j∈pre,bdN L j.1≠s)∧Below w.heap.size w W)
  (LkBody w.heap.size s L w)
  (OwnFrom.and (Own.from (fun s A B row hs hg hr=>⟨hs.1.own hg hr,hs.2⟩) _) (ownFrom_below (Nat.le_refl _) (by omega)))
  (fun c=>OwnFrom.and (Own.from (fun s A B row hs hg hr=>by obtain⟨h1,ini,i,h2,h3,h5,h4⟩:=hs;exact⟨h1,ini,i,h2,h3,h5,h4.own hg hr⟩) _) (ownFrom_below (Nat.le_refl _) (by omega)))
  ⟨⟨hm0,fun j hj=>by cases hj⟩,hB0⟩
  (fun i a' W=>∃Bx,w.heap.size+3<Bx∧W.heap[Bx]? =some (.cells #[.string (bdN L i.1),.int .i64 (bdD L i.1)] 106 (0,0))∧
   a'= {tmps:=#[.string s,.slice a L.length cap,.pointer (some ⟨w.heap.size,0,none⟩),undef,.pointer (some ⟨w.heap.size+1,0,none⟩),.pointer (some ⟨w.heap.size+1+1,0,none⟩),.int .i64 0,.bool false,undef,.pointer (some ⟨Bx,0,none⟩),.tuple #[.int .i64 0,.bool false],.string s,.tuple #[.int .i64 0,.bool false],.int .i64 0,.bool false,.bool false,undef,.slice a L.length cap,.func (.func 206) #[] #[.pointer (some ⟨w.heap.size+1+1+1,0,none⟩)],.int .i64 ((i.1:Nat):Int),BRow.el L i.1,undef,undef,undef,undef,undef,undef],defers:=[]})
  (fun i a' _ X Y row hs hg hr=>by obtain⟨Bx,h1,h2,h3⟩:=hs;exact⟨Bx,h1,(grownBy_keeps_cells hg (fun r e=>(hr r e).2) h2 rfl).trans h2,h3⟩)
  ?assign ?body ?done ?stop
 case assign=>
  rintro l pre i W K ⟨⟨hm,hpre⟩,hB1⟩ hK
  unfold BRow.el
  gi_wp2
  have hs1:=hm.size
  refine hK _ _ ((KeepsOthers.alloc _ _).from _) ((Below.refl _ W).alloc (by omega) _) ⟨⟨hm.alloc _,hpre⟩,hB1.alloc hB1.size _⟩ ⟨W.heap.size,by omega,heap_alloc_new _ _,rfl⟩
 case body=>
  rintro l pre i a' W hl ⟨r,hr⟩ ⟨⟨hm,hpre⟩,hB1⟩ ⟨Bx,hBx,hbx,rfl⟩ hlt
  have HM:=Lib.hid hm
  have HB1:=Lib.hid hB1
  have HP:=Lib.hid hpre
  have q0:W.cell? ⟨Bx,0,none⟩=some (.string (bdN L i.1)):=cell_of_row _ _ _ _ _ _ hbx
  have q1:W.cell? ⟨Bx,1,none⟩=some (.int .i64 (bdD L i.1)):=cell_of_row _ _ _ _ _ _ hbx
  have qn:W.cell? ⟨w.heap.size,0,none⟩=some (.string s):=cell_of_row _ _ _ _ _ _ hm.nm
  have r0:W.cell? ⟨w.heap.size+1,0,none⟩=some (.int .i64 0):=cell_of_row _ _ _ _ _ _ hm.res
  have rk:W.cell? ⟨w.heap.size+1+1,0,none⟩=some (.bool false):=cell_of_row _ _ _ _ _ _ hm.ok
  have rf:∀j,W.frozen? ⟨w.heap.size+1,j,none⟩=false:=fun j=>Joins.unfrozen_of_block hm.res j
  have rg:∀j,W.frozen? ⟨w.heap.size+1+1,j,none⟩=false:=fun j=>Joins.unfrozen_of_block hm.ok j
  unfold BRow.el
  generalize hN:bdN L i.1=nk at *
  generalize hD:bdD L i.1=dk at *
  have HN:=Lib.hid hN
  have HD:=Lib.hid hD
  clear hm hpre hB1 hbx hN hD
  by_cases he:nk=s
  ·have HE:=Lib.hid he
   have he2:(nk.toList==s.toList)=true:=by rw [he];simp
   clear he
   gi_wp2
   have hs1:=HM.out.size
   have hh:∀k,k≠w.heap.size+1→k≠w.heap.size+2→((W.setCell ⟨w.heap.size+1,0,none⟩ (.int .i64 dk)).setCell ⟨w.heap.size+2,0,none⟩ (.bool true)).heap[k]? =W.heap[k]?:=fun k hk hk2=>(Below.heap_setCell _ _ _ _ hk2).trans (Below.heap_setCell _ _ _ _ hk)
   have key:LkMem w.heap.size s dk true ((W.setCell ⟨w.heap.size+1,0,none⟩ (.int .i64 dk)).setCell ⟨w.heap.size+2,0,none⟩ (.bool true)):=by
    exact fz29
   have kf:KeepsFrom W0.heap.size W ((W.setCell ⟨w.heap.size+1,0,none⟩ (.int .i64 dk)).setCell ⟨w.heap.size+2,0,none⟩ (.bool true)):=⟨by simp,fun k o hBk hk _=>by
    rw [hh _ (by omega) (by omega)];exact hk⟩
   have bl:Below w.heap.size w ((W.setCell ⟨w.heap.size+1,0,none⟩ (.int .i64 dk)).setCell ⟨w.heap.size+2,0,none⟩ (.bool true)):=
    (HB1.out.setCell (by show w.heap.size≤w.heap.size+1;omega) _).setCell (by show w.heap.size≤w.heap.size+2;omega) _
   exact⟨kf,⟨rfl,pre,i,rfl,HP.out,by rw [HN.out];exact HE.out,by rw [HD.out];exact key⟩,bl⟩
  ·have HE:=Lib.hid he
   have he2:(nk.toList==s.toList)=false:=by
    rw [beq_eq_false_iff_ne];exact fun h=>he (toList_inj h)
   clear he
   gi_wp2
   refine⟨KeepsFrom.refl _ _,Below.refl _ _,⟨⟨HM.out,fun j hj=>?_⟩,HB1.out⟩⟩
   rcases List.mem_append.1 hj with h1|h1
   ·exact HP.out j h1
   ·obtain rfl:j=i:=by simpa using h1
    rw [HN.out];exact HE.out
 case done=>
  rintro D xs W hD rfl ⟨⟨hm,hpre⟩,hB1⟩ hK
  have HM:=Lib.hid hm
  have HB1:=Lib.hid hB1
  have HP:=Lib.hid hpre
  have r0:W.cell? ⟨w.heap.size+1,0,none⟩=some (.int .i64 0):=cell_of_row _ _ _ _ _ _ hm.res
  have rk:W.cell? ⟨w.heap.size+1+1,0,none⟩=some (.bool false):=cell_of_row _ _ _ _ _ _ hm.ok
  have rf:∀j,W.frozen? ⟨w.heap.size+1,j,none⟩=false:=fun j=>Joins.unfrozen_of_block hm.res j
  have rg:∀j,W.frozen? ⟨w.heap.size+1+1,j,none⟩=false:=fun j=>Joins.unfrozen_of_block hm.ok j
  clear hm hB1 hpre
  gi_wp2
  have hDW:=(Array.getElem?_eq_some_iff.1 hK).1
  have hs1:=HM.out.size
  have hh:∀k,k≠w.heap.size+1→k≠w.heap.size+2→((W.setCell ⟨w.heap.size+1,0,none⟩ (.int .i64 0)).setCell ⟨w.heap.size+2,0,none⟩ (.bool false)).heap[k]? =W.heap[k]?:=fun k hk hk2=>(Below.heap_setCell _ _ _ _ hk2).trans (Below.heap_setCell _ _ _ _ hk)
  have m2:LkMem w.heap.size s 0 false ((W.setCell ⟨w.heap.size+1,0,none⟩ (.int .i64 0)).setCell ⟨w.heap.size+2,0,none⟩ (.bool false)):=by
   exact fz29
  have bl:Below w.heap.size w ((W.setCell ⟨w.heap.size+1,0,none⟩ (.int .i64 0)).setCell ⟨w.heap.size+2,0,none⟩ (.bool false)):=
   (HB1.out.setCell (by show w.heap.size≤w.heap.size+1;omega) _).setCell (by show w.heap.size≤w.heap.size+2;omega) _
  have hK':((W.setCell ⟨w.heap.size+1,0,none⟩ (.int .i64 0)).setCell ⟨w.heap.size+2,0,none⟩ (.bool false)).heap[D]? =some (.deferred (some [])):=by rw [hh _ (by omega) (by omega)];exact hK
  refine⟨by simp,.inl ⟨_,_,rfl,run_takeDeferred hK', ?_⟩⟩
  have m3:=m2.own (grownBy_putObj' _ D (.deferred none)) (fun r e=>by cases e;exact⟨_,hK',rfl⟩)
  have bl3:=bl.trans (belowK_b (w:=w) (Nat.le_refl _) _ D _ (.deferred none) (by omega) hK' rfl rfl)
  show LeavesInM Fence.wide 6 Tryz.prog Tryz.f150 _ _ _ _ (((W.setCell ⟨w.heap.size+1,0,none⟩ (.int .i64 0)).setCell ⟨w.heap.size+2,0,none⟩ (.bool false)).putObj D (.deferred none))
  generalize(((W.setCell ⟨w.heap.size+1,0,none⟩ (.int .i64 0)).setCell ⟨w.heap.size+2,0,none⟩ (.bool false)).putObj D (.deferred none))=W9 at m3 bl3 ⊢
  have e0:W9.cell? ⟨w.heap.size+1,0,none⟩=some (.int .i64 0):=cell_of_row _ _ _ _ _ _ m3.res
  have ek:W9.cell? ⟨w.heap.size+1+1,0,none⟩=some (.bool false):=cell_of_row _ _ _ _ _ _ m3.ok
  have hn:lastN L s=none:=lastN_none L s (ByteArray.empty,0) fun j hj=>HP.out ⟨j,hj⟩ (backs_mem _ (by simp))
  refine⟨.tuple #[.int .i64 0,.bool false], ?_, ?_,.of_below bl3⟩
  ·simp [results,Tryz.f150,go_sem,e0,ek]
  ·rw [HS.out,hn]
 case stop=>
  rintro D c pre W hD ⟨k,hk,rfl⟩ ⟨⟨rfl,ini,i,hin,hini,hsi,hm1⟩,hB1⟩ hK
  have hm:=hm1.own (grownBy_putObj' W D (.deferred none)) (fun r e=>by cases e;exact⟨_,hK,rfl⟩)
  have bl3:=hB1.trans (belowK_b (w:=w) (Nat.le_refl _) W D _ (.deferred none) (by omega) hK rfl rfl)
  gi_wp2
  refine⟨by simp,.inl ⟨_,_,rfl,run_takeDeferred hK, ?_⟩⟩
  generalize W.putObj D (.deferred none)=W9 at hm bl3 ⊢
  have e0:W9.cell? ⟨w.heap.size+1,0,none⟩=some (.int .i64 (bdD L i.1)):=cell_of_row _ _ _ _ _ _ hm.res
  have ek:W9.cell? ⟨w.heap.size+1+1,0,none⟩=some (.bool true):=cell_of_row _ _ _ _ _ _ hm.ok
  have hii:L.length-1-k<L.length:=by omega
  rw [backs_succ _ _ ⟨L.length-1-k,hii⟩ hk rfl]at hin
  obtain⟨h1,h2⟩:=List.append_inj' hin rfl
  subst h1
  obtain rfl:(⟨L.length-1-k,hii⟩:Fin L.length)=i:=by simpa using h2
  have hn:lastN L s=some (bdD L (L.length-1-k)):=lastN_some L s (L.length-1-k) (ByteArray.empty,0) hii hsi fun j hj hjl=>hini ⟨j,hjl⟩ (backs_mem _ (by simp;omega))
  refine⟨.tuple #[.int .i64 (bdD L (L.length-1-k)),.bool true], ?_, ?_,.of_below bl3⟩
  ·simp [results,Tryz.f150,go_sem,e0,ek]
  ·rw [HS.out,hn]
theorem lookup_any(s:ByteArray)(L:List (ByteArray × Int))(v:Value)(w:World)(h:BindAt w v L):Calls Tryz.prog 150 #[.string s,v] w (LkP L s w):=by
 by_cases hs:inpD s.toList=0
 ·exact lookup_no s L v w h hs
 ·exact lookup_in s L v w h hs
end Go.Proofs.YtfoefpoaomepbaaGreatDoor
namespace Go.Proofs.YtfoefpoaomepbaaGreatDoor
structure Ins where
 op:Int
 a:Int
 n:Int
 d:Int
instance:Inhabited Ins:=⟨⟨0,0,0,0⟩⟩
def opF(op:Int):Int:=if op=6 then 4 else if op=7 then 5 else if op=8 then 6 else if 9≤op∧op≤18 then op-2 else if op=19 then 19 else if op=20 then 20 else 0
def ariF(op:Int):Nat:=if op=4∨op=5∨op=6 then 1 else 2
def inDs:List Int:=[2,2,2,3,3,3,3,3,3,3,4]
def wfF(m n i:Nat)(x:Ins):Bool:=
 if x.op=1 then decide (x.a=2∨x.a=3∨x.a=4)&&vfrac x.n x.d
 else if ¬(x.n=0∧x.d=0)then false
 else if x.op=2 then decide (0≤x.a∧x.a<11)
 else if x.op=3∨x.op=4 then decide (0≤x.a∧x.a<m)
 else if x.op=5 then decide (1≤x.a∧x.a≤45)
 else if x.op=21∨x.op=22 then decide ((i:Int)<x.a∧x.a≤n)
 else if x.op=23∨x.op=24 then decide (x.a=0)
 else decide (opF x.op≠0∧x.a=0)
section
variable (S : List (Option (List Int × List Bool))) (T : List (Option (List Int × List Int)))
def appA(x:Ins)(s:List Int × List Bool)(dims:List Int):Option ((List Int × List Bool) × List Int):=
 if x.op=1 then some ((s.1++[x.a],s.2),dims)
 else if x.op=2 then some ((s.1++[inDs.getD x.a.toNat 0],s.2),dims)
 else if x.op=5 then some ((s.1++[4],s.2),dims)
 else if x.op=23∨x.op=24 then some ((s.1++[1],s.2),dims)
 else if x.op=3 then(if s.2.getD x.a.toNat false=true then some ((s.1++[dims.getD x.a.toNat 0],s.2),dims)else none)
 else if x.op=4 then(if s.1= []then none else some ((s.1.dropLast,s.2.set x.a.toNat true),dims.set x.a.toNat (s.1.getLastD 0)))
 else if x.op=22 then(if s.1= []∨s.1.getLastD 0≠1 then none else some ((s.1.dropLast,s.2),dims))
 else if x.op=21 then some (s,dims)
 else if s.1.length<ariF (opF x.op)then none
 else if resD (opF x.op) (s.1.drop (s.1.length-ariF (opF x.op)))=0 then none
 else some ((s.1.take (s.1.length-ariF (opF x.op))++[resD (opF x.op) (s.1.drop (s.1.length-ariF (opF x.op)))],s.2),dims)
def putA(k:Nat)(s:List Int × List Bool):Option (List (Option (List Int × List Bool))):=
 match S.getD k none with
 |none=>some (S.set k (some s))
 |some t=>if t.1=s.1 then some (S.set k (some (t.1,List.zipWith (· && ·) t.2 s.2)))else none
def rndA(x:Ins)(i:Nat)(dims:List Int)(dep:Nat):Option (List (Option (List Int × List Bool)) × List Int × Nat):=
 match S.getD i none with
 |none=>none
 |some s=>match appA x s dims with
  |none=>none
  |some (s',dims')=>
   if 24<s'.1.length then none
   else match (if x.op=21 then some S else putA S (i+1) s')with
   |none=>none
   |some S1=>match (if x.op=21∨x.op=22 then putA S1 x.a.toNat s' else some S1)with
    |none=>none
    |some S2=>some (S2,dims',max dep s'.1.length)
def goA:List Ins→Nat→List (Option (List Int × List Bool))→List Int→Nat→Int × Int
 | [],i,S,_,dep=>match S.getD i none with
   |none=>((dep:Int),0)
   |some s=>if s.1= []then((dep:Int),0)else(0,8)
 |x::r,i,S,dims,dep=>match rndA S x i dims dep with
  |none=>(0,8)
  |some (S',dims',dep')=>goA r (i+1) S' dims' dep'
end

theorem getD_setI{α:Type}(l:List α)(k j:Nat)(a d:α):(l.set k a).getD j d=if k=j∧j<l.length then a else l.getD j d:=by
 simp only [List.getD_eq_getElem?_getD,List.getElem?_set]
 by_cases h:k=j
 ·subst h
  by_cases h2:k<l.length
  ·simp [h2]
  ·simp [h2,List.getElem?_eq_none (Nat.le_of_not_lt h2)]
 ·simp [h]
structure Agr(m:Nat)(D:Nat→Bool)(dims:List Int)(s:List Int × List Bool)(t:List Int × List Int):Prop where
 stk:t.1=s.1
 l1:s.2.length=12
 l2:t.2.length=m
 slot:∀k,k<m→t.2.getD k 0=if s.2.getD k false=true then dims.getD k 0 else 0
 pos:∀z∈s.1,1≤z
 dpos:∀k,k<m→s.2.getD k false=true→1≤dims.getD k 0
 done:∀k,s.2.getD k false=true→D k=true
def AgrO(m:Nat)(D:Nat→Bool)(dims:List Int):Option (List Int × List Bool)→Option (List Int × List Int)→Prop
 |none,none=>True
 |some s,some t=>Agr m D dims s t∧s.1.length≤24
 |_,_=>False
def AgrL(m:Nat)(D:Nat→Bool)(dims:List Int)(S:List (Option (List Int × List Bool)))(T:List (Option (List Int × List Int))):Prop:=
 S.length=T.length∧∀k,AgrO m D dims (S.getD k none) (T.getD k none)
section
variable {m : Nat} {D D' : Nat → Bool} {dims : List Int} {S S' : List (Option (List Int × List Bool))} {T : List (Option (List Int × List Int))} {x : Ins} {s s' : List Int × List Bool} {t : List Int × List Int}
theorem AgrL.both(h:AgrL m D dims S T)(i:Nat):(S.getD i none=none∧T.getD i none=none)∨∃s t,S.getD i none=some s∧T.getD i none=some t∧Agr m D dims s t∧s.1.length≤24:=by
 have:=h.2 i
 cases hs:S.getD i none<;>cases ht:T.getD i none<;>rw [hs,ht]at this
 ·exact .inl ⟨rfl,rfl⟩
 ·exact this.elim
 ·exact this.elim
 ·exact .inr ⟨_,_,rfl,rfl,this⟩
theorem Agr.mono{a:Nat}{z:Int}(h:Agr m D dims s t)(hD:∀k,D k=true→D' k=true)(ha:D a=false):Agr m D' (dims.set a z) s t:=by
 have hne:∀k,s.2.getD k false=true→a≠k:=fun k hk e=>by
  subst e;rw [h.done a hk]at ha;cases ha
 refine⟨h.stk,h.l1,h.l2,fun k hk=>?_,h.pos,fun k hk hb=>?_,fun k hb=>hD k (h.done k hb)⟩
 ·rw [h.slot k hk]
  split
  ·rename_i hb
   rw [getD_setI,if_neg (fun e=>hne k hb e.1)]
  ·rfl
 ·rw [getD_setI,if_neg (fun e=>hne k hb e.1)]
  exact h.dpos k hk hb
theorem AgrO.imp{D':Nat→Bool}{dims':List Int}{a:Option (List Int × List Bool)}{b:Option (List Int × List Int)}(h:AgrO m D dims a b)(hi:∀s t,Agr m D dims s t→Agr m D' dims' s t):AgrO m D' dims' a b:=by
 cases a<;>cases b<;>first|exact h|exact⟨hi _ _ h.1,h.2⟩
theorem Agr.push(h:Agr m D dims s t){z:Int}(hz:1≤z):Agr m D dims (s.1++[z],s.2) (t.1++[z],t.2):=
 ⟨by rw [h.stk],h.l1,h.l2,h.slot,fun y hy=>by rcases List.mem_append.1 hy with hy|hy;· exact h.pos y hy
                                              ·obtain rfl:y=z:=by simpa using hy
                                               exact hz,h.dpos,h.done⟩
theorem Agr.stack(h:Agr m D dims s t){l:List Int}(hl:∀z∈l,1≤z):Agr m D dims (l,s.2) (l,t.2):=⟨rfl,h.l1,h.l2,h.slot,hl,h.dpos,h.done⟩
end
section
variable {m : Nat} {D D' : Nat → Bool} {dims : List Int} {S : List (Option (List Int × List Bool))} {T : List (Option (List Int × List Int))} {x : Ins}
end
def SubS(s:List Int × List Bool):Option (List Int × List Bool)→Prop
 |none=>False
 |some t=>t.1=s.1∧∀k,t.2.getD k false=true→s.2.getD k false=true
structure Cert(l:List Ins)(m:Nat)(F:List (Option (List Int × List Bool)))(D:List Int):Prop where
 wf:∀i,i<l.length→wfF m l.length i (l.getD i default)=true
 m12:m≤12
 dlen:D.length=12
 zero:∃s,F.getD 0 none=some s∧s.1= []∧∀k,s.2.getD k false=false
 step:∀i,i<l.length→∃s s',F.getD i none=some s∧appA (l.getD i default) s D=some (s',D)∧s'.1.length≤24∧
  ((l.getD i default).op≠21→SubS s' (F.getD (i+1) none))∧((l.getD i default).op=21∨(l.getD i default).op=22→SubS s' (F.getD (l.getD i default).a.toNat none))
 last:∀s,F.getD l.length none=some s→s.1= []
theorem SubS.refl{S:List (Option (List Int × List Bool))}{j:Nat}{s:List Int × List Bool}(h:S.getD j none=some s):SubS s (S.getD j none):=by
 rw [h];exact⟨rfl,fun _ h=>h⟩
theorem SubS.trans{s t:List Int × List Bool}{o:Option (List Int × List Bool)}(h:t.1=s.1∧∀k,t.2.getD k false=true→s.2.getD k false=true)(g:SubS t o):SubS s o:=by
 cases o with
 |none=>exact g
 |some u=>exact⟨g.1.trans h.1,fun k hk=>h.2 k (g.2 k hk)⟩
section
variable {S S' : List (Option (List Int × List Bool))} {s : List Int × List Bool}
end
def inVal(v:Vw)(k:Nat):Val:=(inputV v (inpNm k)).getD .zero
def opV(op:Int)(l:List Val):Val × Int:=if op≤6 then op1 op (l.getD 0 .zero)else op2 op (l.getD 0 .zero) (l.getD 1 .zero)
def runF(l:List Ins)(sl:List ByteArray)(v:Vw):Nat→Nat→List Val→List Val→List (ByteArray × Val)→List (ByteArray × Val) × Int
 |0,_,_,_,st=>(st,0)
 |f+1,i,stk,slots,st=>
  if l.length≤i then(st,0)
  else if(l.getD i default).op=1 then runF l sl v f (i+1) (stk++[⟨(l.getD i default).a,false,(l.getD i default).n,(l.getD i default).d⟩]) slots st
  else if(l.getD i default).op=2 then runF l sl v f (i+1) (stk++[inVal v (l.getD i default).a.toNat]) slots st
  else if(l.getD i default).op=3 then runF l sl v f (i+1) (stk++[slots.getD (l.getD i default).a.toNat .zero]) slots st
  else if(l.getD i default).op=4 then runF l sl v f (i+1) stk.dropLast (slots.set (l.getD i default).a.toNat (stk.getLastD .zero)) (st++[(sl.getD (l.getD i default).a.toNat ByteArray.empty,stk.getLastD .zero)])
  else if(l.getD i default).op=5 then(if(bestF v.years (l.getD i default).a).2.2=0 then runF l sl v f (i+1) (stk++[.num 4 (bestF v.years (l.getD i default).a).1 (bestF v.years (l.getD i default).a).2.1]) slots st else([],(bestF v.years (l.getD i default).a).2.2))
  else if(l.getD i default).op=23∨(l.getD i default).op=24 then runF l sl v f (i+1) (stk++[.truth (decide ((l.getD i default).op=23))]) slots st
  else if(l.getD i default).op=21 then runF l sl v f (l.getD i default).a.toNat stk slots st
  else if(l.getD i default).op=22 then runF l sl v f (if(stk.getLastD .zero).yes=true then i+1 else(l.getD i default).a.toNat) stk.dropLast slots st
  else if(opV (opF (l.getD i default).op) (stk.drop (stk.length-ariF (opF (l.getD i default).op)))).2=0 then
   runF l sl v f (i+1) (stk.take (stk.length-ariF (opF (l.getD i default).op))++[(opV (opF (l.getD i default).op) (stk.drop (stk.length-ariF (opF (l.getD i default).op)))).1]) slots st
  else([],(opV (opF (l.getD i default).op) (stk.drop (stk.length-ariF (opF (l.getD i default).op)))).2)
structure Fits(D:List Int)(s:List Int × List Bool)(stk slots:List Val):Prop where
 dims:stk.map Val.dim=s.1
 ok:∀x∈stk,x.ok=true
 slot:∀k,s.2.getD k false=true→(slots.getD k .zero).ok=true∧(slots.getD k .zero).dim=D.getD k 0
def At(F:List (Option (List Int × List Bool)))(D:List Int)(i:Nat)(stk slots:List Val):Prop:=∃s,F.getD i none=some s∧Fits D s stk slots
theorem Fits.to{F:List (Option (List Int × List Bool))}{D:List Int}{s:List Int × List Bool}{stk slots:List Val}{i:Nat}(h:Fits D s stk slots)(g:SubS s (F.getD i none)):At F D i stk slots:=by
 cases e:F.getD i none with
 |none=>rw [e]at g;exact g.elim
 |some t=>
  rw [e]at g
  exact⟨t,e,h.dims.trans g.1.symm,h.ok,fun k hk=>h.slot k (g.2 k hk)⟩
section
variable {l : List Ins} {m : Nat} {F : List (Option (List Int × List Bool))} {D : List Int} {i : Nat} {stk slots : List Val} {s : List Int × List Bool}
theorem Fits.push(h:Fits D s stk slots){x:Val}(hx:x.ok=true):Fits D (s.1++[x.dim],s.2) (stk++[x]) slots:=
 ⟨by rw [List.map_append,h.dims];rfl,fun y hy=>by
  rcases List.mem_append.1 hy with hy|hy
  ·exact h.ok y hy
  ·obtain rfl:y=x:=by simpa using hy
   exact hx,h.slot⟩
theorem Fits.len(h:Fits D s stk slots):stk.length=s.1.length:=by rw [←h.dims,List.length_map]
theorem Cert.at(C:Cert l m F D)(hi:i<l.length)(h:At F D i stk slots):∃s s',Fits D s stk slots∧appA (l.getD i default) s D=some (s',D)∧s'.1.length≤24∧
 ((l.getD i default).op≠21→SubS s' (F.getD (i+1) none))∧((l.getD i default).op=21∨(l.getD i default).op=22→SubS s' (F.getD (l.getD i default).a.toNat none)):=by
 obtain⟨s,e,hf⟩:=h
 obtain⟨s0,s',e0,h1,h2,h3,h4⟩:=C.step i hi
 rw [e]at e0
 obtain rfl:=Option.some.inj e0
 exact⟨s,s',hf,h1,h2,h3,h4⟩
end
end Go.Proofs.YtfoefpoaomepbaaGreatDoor
