import Derived.Test.YtfoefpoaomepbaaGreatDoorTForm
import Derived.Test.YtfoefpoaomepbaaGreatDoorTGen
import Derived.Test.YtfoefpoaomepbaaGreatDoorTK
import Derived.RangeFuncNested
import Derived.RangeFuncBound
import Derived.RangeFuncCalls
import Derived.RangeFuncLeaves
import Derived.Shelf.Abstract
import Derived.Shelf.RegionOpen
import Derived.WalkKit
import Derived.OwnWalkIn
import Derived.TacticsInMore
import Derived.LoopNIn
import Derived.LoopIn
set_option linter.all false
set_option maxHeartbeats 16000000
set_option maxRecDepth 1000000
namespace Go.Proofs.YtfoefpoaomepbaaGreatDoor

structure Val where
 dim:Int
 yes:Bool
 n:Int
 d:Int
namespace Val
def zero:Val:=⟨0,false,0,0⟩
def num(m n d:Int):Val:=⟨m,false,n,d⟩
def truth(b:Bool):Val:=⟨1,b,0,0⟩
def ok(x:Val):Bool:=if x.dim=1 then decide (x.n=0∧x.d=0)else decide (2≤x.dim∧x.dim≤4)&&!x.yes&&vfrac x.n x.d
end Val
structure Vw where
 age:Int
 year:Int
 children:Int
 insured:Int
 worked:Int
 voluntary:Int
 service:Int
 equated:Int
 raising:Int
 resident:Int
 bn:Int
 bd:Int
 years:List Int
def yearsOk(l:List Int):Bool:=decide (l.length≤200)&&l.all fun x=>decide (0≤x∧x≤1000000000000)
def daysOk(z:Int):Bool:=decide (0≤z∧z≤73049)
def Vw.ok(v:Vw):Bool:=decide (0≤v.age∧v.age≤199∧1900≤v.year∧v.year≤2099∧0≤v.children∧v.children≤99)&&
 (daysOk v.insured&&daysOk v.worked&&daysOk v.voluntary&&daysOk v.service&&daysOk v.equated&&daysOk v.raising&&daysOk v.resident)&&
 (vfrac v.bn v.bd&&decide (0≤v.bn∧v.bn≤1000000000000*v.bd))&&yearsOk v.years
def Vw.numF(v:Vw)(s:List UInt8):Int × Int:=
 if s= [98,97,115,101]then(v.bn,v.bd)
 else if s= [97,103,101]then(v.age,1)else if s= [121,101,97,114]then(v.year,1)else if s= [99,104,105,108,100,114,101,110]then(v.children,1)
 else if s= [105,110,115,117,114,101,100]then(v.insured,1)else if s= [119,111,114,107,101,100]then(v.worked,1)else if s= [118,111,108,117,110,116,97,114,121]then(v.voluntary,1)
 else if s= [115,101,114,118,105,99,101]then(v.service,1)else if s= [101,113,117,97,116,101,100]then(v.equated,1)else if s= [114,97,105,115,105,110,103]then(v.raising,1)
 else if s= [114,101,115,105,100,101,110,116]then(v.resident,1)else(0,1)
def inputV(v:Vw)(s:ByteArray):Option Val:=if inpD s.toList=0∨v.ok=false then none else some (.num (inpD s.toList) (v.numF s.toList).1 (v.numF s.toList).2)

def insD(x:Int):List Int→List Int
 | []=>[x]
 |y::r=>if x≤y then y::insD x r else x::y::r
def sortD(l:List Int):List Int:=l.foldl (fun a x=>insD x a) []
def bestS(l:List Int)(n:Int):Int:=((sortD l).take n.toNat).sum
def bestF(l:List Int)(n:Int):Int × Int × Int:=if n<1∨45<n∨yearsOk l=false then(0,0,1)else(mkN (bestS l n) n,mkD (bestS l n) n,mkE (bestS l n) n)

def lastN{α:Type}(env:List (ByteArray × α))(s:ByteArray):Option α:=(env.reverse.find? fun p=>decide (p.1=s)).map Prod.snd

def resD(op:Int)(d:List Int):Int:=
 let a:=d.getD 0 0;let b:=d.getD 1 0;let c:=d.getD 2 0
 if op=5 then(if a=1 then 1 else 0)
 else if op=4∨op=6 then(if a≠1 then a else 0)
 else if op=7∨op=8∨op=19∨op=20 then(if a=b∧a≠1 then a else 0)
 else if op=9 then(if a=2∧b≠1 then b else if b=2∧a≠1 then a else 0)
 else if op=10 then(if b=2∧a≠1 then a else if a=b∧a≠1 then 2 else 0)
 else if op=17∨op=18 then(if a=1∧b=1 then 1 else 0)
 else if op=21 then(if a=1∧b=c then b else 0)
 else if a=b∧a≠1 then 1 else 0
def inferN(env:List (ByteArray × Int))(s:ByteArray):Int × Int:=
 if inpD s.toList≠0 then(inpD s.toList,0)else match lastN env s with|some m=>(m,0)|none=>(0,5)
def infNode(op m:Int)(nm:Int × Int)(r:List Int × Int):Int × Int:=
 if op=1 then(m,0)else if op=3 then(4,0)else if op=2 then nm
 else if r.2≠0 then(0,r.2)else if resD op r.1=0 then(0,6)else(resD op r.1,0)
mutual
def inferF(env:List (ByteArray × Int)):Ex→Int × Int
 | .mk op _ _ m s l=>infNode op m (inferN env s) (infersF env l)
def infersF(env:List (ByteArray × Int)):List Ex→List Int × Int
 | []=>([],0)
 |e::r=>if(inferF env e).2≠0 then([],(inferF env e).2)else if(infersF env r).2≠0 then([],(infersF env r).2)else((inferF env e).1::(infersF env r).1,0)
end

def numR(m:Int)(r:Int × Int × Int):Val × Int:=if r.2.2=0 then(.num m r.1 r.2.1,0)else(.zero,r.2.2)
def cmpB(op c:Int):Bool:=if op=11 then decide (c<0)else if op=12 then decide (c≤0)else if op=13 then decide (c=0)else if op=14 then decide (c≠0)else if op=15 then decide (c > 0)else decide (c≥0)
def op1(op:Int)(a:Val):Val × Int:=if op=5 then(.truth (!a.yes),0)else if op=6 then numR a.dim ((floorF a.n a.d).1,1,(floorF a.n a.d).2)else numR a.dim (negF a.n a.d)
def op2(op:Int)(a b:Val):Val × Int:=
 if op=7 then numR a.dim (addF a.n a.d b.n b.d)else if op=8 then numR a.dim (subF a.n a.d b.n b.d)
 else if op=9 then numR (resD 9 [a.dim,b.dim]) (mulF a.n a.d b.n b.d)else if op=10 then numR (resD 10 [a.dim,b.dim]) (divF a.n a.d b.n b.d)
 else if op=19 then(if cmpI a.n a.d b.n b.d≤0 then .num a.dim a.n a.d else .num a.dim b.n b.d,0)
 else if op=20 then(if 0≤cmpI a.n a.d b.n b.d then .num a.dim a.n a.d else .num a.dim b.n b.d,0)
 else(.truth (cmpB op (cmpI a.n a.d b.n b.d)),0)
def nameF(v:Vw)(env:List (ByteArray × Val))(s:ByteArray):Val × Int:=
 match inputV v s with
 |some x=>(x,0)
 |none=>match lastN env s with|some x=>(x,0)|none=>(.zero,5)
def valNode(v:Vw)(op n d m:Int)(nm:Val × Int)(rs:List (Val × Int)):Val × Int:=
 let r0:=rs.getD 0 (.zero,0);let r1:=rs.getD 1 (.zero,0);let r2:=rs.getD 2 (.zero,0)
 if op=1 then(.num m n d,0)else if op=2 then nm else if op=3 then numR 4 (bestF v.years n)
 else if r0.2≠0 then(.zero,r0.2)
 else if op=17 then(if r0.1.yes=true then r1 else r0)else if op=18 then(if r0.1.yes=true then r0 else r1)
 else if op=21 then(if r0.1.yes=true then r1 else r2)
 else if op≤6 then op1 op r0.1
 else if r1.2≠0 then(.zero,r1.2)else op2 op r0.1 r1.1
mutual
def valueF(v:Vw)(env:List (ByteArray × Val)):Ex→Val × Int
 | .mk op n d m s l=>valNode v op n d m (nameF v env s) (valuesF v env l)
def valuesF(v:Vw)(env:List (ByteArray × Val)):List Ex→List (Val × Int)
 | []=>[]
 |e::r=>valueF v env e::valuesF v env r
end
theorem inferF_eq(env:List (ByteArray × Int))(e:Ex):inferF env e=infNode e.op e.dim (inferN env e.name) (infersF env e.args):=by cases e;rw [inferF];rfl
def dimsOf(env:List (ByteArray × Val)):List (ByteArray × Int):=env.map fun p=>(p.1,p.2.dim)

theorem Val.num_ok{m n d:Int}(hm:2≤m∧m≤4)(h:vfrac n d=true):(Val.num m n d).ok=true:=by
 unfold Val.ok Val.num
 rw [if_neg (show ¬m=1 by omega)]
 show(decide (2≤m∧m≤4)&&!false&&vfrac n d)=true
 rw [h,decide_eq_true hm];rfl
def okR(m:Int)(r:Val × Int):Prop:=(r.2=0∧r.1.ok=true∧r.1.dim=m)∨(r.1= .zero∧(r.2=2∨r.2=3))
theorem okR_num{m:Int}{r:Int × Int × Int}(hm:2≤m∧m≤4)(h:okF r):okR m (numR m r):=by
 unfold numR
 rcases h with ⟨h1,h2⟩|⟨-,-,h3⟩
 ·rw [if_pos h1]
  refine .inl ⟨rfl, ?_,rfl⟩
  exact Val.num_ok hm h2
 ·rw [if_neg (by omega)]
  exact .inr ⟨rfl,h3⟩
theorem okR_truth(b:Bool):okR 1 (.truth b,0):=.inl ⟨rfl,by simp [Val.ok,Val.truth],rfl⟩
theorem Val.ok_num{x:Val}(h:x.ok=true)(hd:x.dim≠1):2≤x.dim∧x.dim≤4∧x.yes=false∧vfrac x.n x.d=true:=by
 unfold Val.ok at h
 rw [if_neg hd]at h
 simp only [Bool.and_eq_true,decide_eq_true_eq,Bool.not_eq_true']at h
 exact⟨h.1.1.1,h.1.1.2,h.1.2,h.2⟩
theorem vfrac_whole{n:Int}(h1:-1000000000000000≤n)(h2:n≤1000000000000000):vfrac n 1=true:=vfrac_of ⟨by omega,by omega,h1,h2⟩ (by simp)
theorem floor_bd{n d:Int}(h:vfrac n d=true):-1000000000000000≤n / d∧n / d≤1000000000000000:=by
 have:=vfrac_bd h
 constructor
 ·rw [Int.le_ediv_iff_mul_le (by omega)]
  omega
 ·have h3:n / d<1000000000000001:=Int.ediv_lt_of_lt_mul (by omega) (by omega)
  omega
theorem negF_ok{n d:Int}(h:vfrac n d=true):okF (negF n d):=by
 unfold negF;rw [if_pos h];exact .inl ⟨rfl,by rw [vfrac_neg];exact h⟩
theorem floor_ok{n d:Int}(h:vfrac n d=true):okF ((floorF n d).1,1,(floorF n d).2):=by
 unfold floorF;rw [if_pos h];have:=floor_bd h;exact .inl ⟨rfl,vfrac_whole this.1 this.2⟩
theorem op1_ok{op:Int}{x:Val}(h:x.ok=true)(h4:4≤op)(h6:op≤6)(hr:resD op [x.dim]≠0):okR (resD op [x.dim]) (op1 op x):=by
 obtain rfl|rfl|rfl:op=4∨op=5∨op=6:=by omega
 all_goals simp only [resD,List.getD_cons_zero,op1]at hr ⊢
 ·simp at hr ⊢
  have:=Val.ok_num h hr.1
  rw [if_neg hr.1]
  exact okR_num ⟨this.1,this.2.1⟩ (negF_ok this.2.2.2)
 ·simp at hr ⊢
  rw [if_pos hr];exact okR_truth _
 ·simp at hr ⊢
  have:=Val.ok_num h hr.1
  rw [if_neg hr.1]
  exact okR_num ⟨this.1,this.2.1⟩ (floor_ok this.2.2.2)
theorem res_mul(a b:Int):resD 9 [a,b]=if a=2∧b≠1 then b else if b=2∧a≠1 then a else 0:=rfl
theorem res_div(a b:Int):resD 10 [a,b]=if b=2∧a≠1 then a else if a=b∧a≠1 then 2 else 0:=rfl
theorem res_add{op:Int}(a b:Int)(h:op=7∨op=8∨op=19∨op=20):resD op [a,b]=if a=b∧a≠1 then a else 0:=by
 rcases h with rfl|rfl|rfl|rfl<;>rfl
theorem res_cmp{op:Int}(a b:Int)(h:11≤op∧op≤16):resD op [a,b]=if a=b∧a≠1 then 1 else 0:=by
 obtain rfl|rfl|rfl|rfl|rfl|rfl:op=11∨op=12∨op=13∨op=14∨op=15∨op=16:=by omega
 all_goals rfl
theorem op2_ok{op:Int}{x y:Val}(h:x.ok=true)(g:y.ok=true)(h4:7≤op)(h6:op≤20)(h17:op≠17)(h18:op≠18)(hr:resD op [x.dim,y.dim]≠0):okR (resD op [x.dim,y.dim]) (op2 op x y):=by
 by_cases c:op=9
 ·subst c
  show okR _ (numR (resD 9 [x.dim,y.dim]) (mulF x.n x.d y.n y.d))
  have hx:x.dim≠1∧y.dim≠1∧(resD 9 [x.dim,y.dim]=x.dim∨resD 9 [x.dim,y.dim]=y.dim):=by
   rw [res_mul]at hr ⊢
   exact tz45
  have h1:=Val.ok_num h hx.1
  have h2:=Val.ok_num g hx.2.1
  exact okR_num (by omega) (mulF_ok h1.2.2.2 h2.2.2.2)
 ·by_cases c':op=10
  ·subst c'
   show okR _ (numR (resD 10 [x.dim,y.dim]) (divF x.n x.d y.n y.d))
   have hx:x.dim≠1∧y.dim≠1∧(resD 10 [x.dim,y.dim]=x.dim∨resD 10 [x.dim,y.dim]=2):=by
    rw [res_div]at hr ⊢
    exact tz45
   have h1:=Val.ok_num h hx.1
   have h2:=Val.ok_num g hx.2.1
   exact okR_num (by omega) (divF_ok h1.2.2.2 h2.2.2.2)
  ·have hx:x.dim=y.dim∧x.dim≠1:=by
    by_cases c3:11≤op∧op≤16
    ·rw [res_cmp _ _ c3]at hr
     split at hr<;>rename_i c1
     ·exact c1
     ·exact absurd rfl hr
    ·rw [res_add _ _ (by omega)]at hr
     split at hr<;>rename_i c1
     ·exact c1
     ·exact absurd rfl hr
   have h1:=Val.ok_num h hx.2
   have h2:=Val.ok_num g (by omega)
   by_cases c3:11≤op∧op≤16
   ·rw [res_cmp _ _ c3,if_pos hx]
    unfold op2
    rw [if_neg (by omega),if_neg (by omega),if_neg (by omega),if_neg (by omega),if_neg (by omega),if_neg (by omega)]
    exact okR_truth _
   ·rw [res_add _ _ (by omega),if_pos hx]
    obtain rfl|rfl|rfl|rfl:op=7∨op=8∨op=19∨op=20:=by omega
    ·exact okR_num (by omega) (addF_ok h1.2.2.2 h2.2.2.2)
    ·exact okR_num (by omega) (subF_ok h1.2.2.2 h2.2.2.2)
    ·show okR _ (if cmpI x.n x.d y.n y.d≤0 then .num x.dim x.n x.d else .num x.dim y.n y.d,0)
     exact tz50
    ·show okR _ (if 0≤cmpI x.n x.d y.n y.d then .num x.dim x.n x.d else .num x.dim y.n y.d,0)
     exact tz50
theorem okR.bad{m:Int}{r:Val × Int}(h:okR m r)(hr:r.2≠0):r.1= .zero∧(r.2=2∨r.2=3):=by
 rcases h with h|h
 ·exact absurd h.1 hr
 ·exact h
theorem okR.good{m:Int}{r:Val × Int}(h:okR m r)(hr:r.2=0):r.1.ok=true∧r.1.dim=m:=by
 rcases h with h|h
 ·exact h.2
 ·omega
theorem node_ok(v:Vw){op n d m:Int}{nm:Val × Int}{ds:List Int}{rs:List (Val × Int)}(h4:4≤op)(h21:op≤21)(hl:(ds.length:Int)=argsN op)
 (hr:∀i,i<ds.length→okR (ds.getD i 0) (rs.getD i (.zero,0))) (hres:resD op ds≠0):okR (resD op ds) (valNode v op n d m nm rs):=by
 have hn:0<ds.length:=by unfold argsN at hl;(repeat' split at hl)<;>omega
 have r0:=hr 0 hn
 unfold valNode
 rw [if_neg (by omega),if_neg (by omega),if_neg (by omega)]
 by_cases e0:(rs.getD 0 (Val.zero,0)).2≠0
 ·rw [if_pos e0]
  exact .inr ⟨rfl,(r0.bad e0).2⟩
 rw [if_neg e0]
 have g0:=r0.good (by omega)
 by_cases h6:op≤6
 ·have hl1:ds.length=1:=by unfold argsN at hl;rw [if_neg (by omega),if_pos (by omega)]at hl;omega
  obtain⟨a,rfl⟩:∃a,ds= [a]:=List.length_eq_one_iff.1 hl1
  rw [if_neg (by omega),if_neg (by omega),if_neg (by omega),if_pos h6]
  have ha:(rs.getD 0 (Val.zero,0)).1.dim=a:=g0.2
  rw [←ha]at hres ⊢
  exact op1_ok g0.1 h4 h6 hres
 by_cases h20:op≤20
 ·have hl1:ds.length=2:=by unfold argsN at hl;rw [if_neg (by omega),if_neg (by omega),if_pos (by omega)]at hl;omega
  obtain⟨a,b,rfl⟩:∃a b,ds= [a,b]:=by
   match ds,hl1 with
   | [a,b],_=>exact⟨a,b,rfl⟩
  have r1:=hr 1 (by simp)
  have ha:(rs.getD 0 (Val.zero,0)).1.dim=a:=g0.2
  have hb:okR b (rs.getD 1 (Val.zero,0)):=r1
  by_cases h17:op=17
  ·subst h17
   have hab:a=1∧b=1:=by
    have e:resD 17 [a,b]=if a=1∧b=1 then 1 else 0:=rfl
    rw [e]at hres
    split at hres<;>rename_i c1
    ·exact c1
    ·exact absurd rfl hres
   obtain⟨rfl,rfl⟩:=hab
   rw [if_pos rfl]
   split
   ·exact hb
   ·exact r0
  by_cases h18:op=18
  ·subst h18
   have hab:a=1∧b=1:=by
    have e:resD 18 [a,b]=if a=1∧b=1 then 1 else 0:=rfl
    rw [e]at hres
    split at hres<;>rename_i c1
    ·exact c1
    ·exact absurd rfl hres
   obtain⟨rfl,rfl⟩:=hab
   rw [if_neg (by omega),if_pos rfl]
   split
   ·exact r0
   ·exact hb
  rw [if_neg h17,if_neg h18,if_neg (by omega),if_neg h6]
  by_cases e1:(rs.getD 1 (Val.zero,0)).2≠0
  ·rw [if_pos e1]
   exact .inr ⟨rfl,(hb.bad e1).2⟩
  rw [if_neg e1]
  have g1:=hb.good (by omega)
  rw [←ha,←g1.2]at hres ⊢
  exact op2_ok g0.1 g1.1 (by omega) h20 h17 h18 hres
 ·obtain rfl:op=21:=by omega
  have hl1:ds.length=3:=by simp [argsN]at hl;omega
  obtain⟨a,b,c,rfl⟩:∃a b c,ds= [a,b,c]:=by
   match ds,hl1 with
   | [a,b,c],_=>exact⟨a,b,c,rfl⟩
  have hb:okR b (rs.getD 1 (Val.zero,0)):=hr 1 (by simp)
  have hc:okR c (rs.getD 2 (Val.zero,0)):=hr 2 (by simp)
  have e:resD 21 [a,b,c]=if a=1∧b=c then b else 0:=rfl
  rw [e]at hres ⊢
  split at hres<;>rename_i c1
  ·obtain⟨rfl,rfl⟩:=c1
   rw [if_pos (⟨rfl,rfl⟩:(1:Int)=1∧b=b),if_neg (by omega),if_neg (by omega),if_pos rfl]
   split
   ·exact hb
   ·exact hc
  ·exact absurd rfl hres
theorem Vw.ok_bd{v:Vw}(h:v.ok=true):(0≤v.age∧v.age≤199∧1900≤v.year∧v.year≤2099∧0≤v.children∧v.children≤99)∧
 (0≤v.insured∧v.insured≤73049∧0≤v.worked∧v.worked≤73049∧0≤v.voluntary∧v.voluntary≤73049∧0≤v.service∧v.service≤73049∧0≤v.equated∧v.equated≤73049∧0≤v.raising∧v.raising≤73049∧0≤v.resident∧v.resident≤73049)∧
 vfrac v.bn v.bd=true∧(0≤v.bn∧v.bn≤1000000000000*v.bd)∧yearsOk v.years=true:=by
 unfold Vw.ok at h
 obtain⟨h,e⟩:=Bool.and_eq_true_iff.1 h
 obtain⟨h,cd⟩:=Bool.and_eq_true_iff.1 h
 obtain⟨a,b⟩:=Bool.and_eq_true_iff.1 h
 obtain⟨c,d⟩:=Bool.and_eq_true_iff.1 cd
 have k:∀z,daysOk z=true→0≤z∧z≤73049:=fun z hz=>of_decide_eq_true hz
 repeat rw [Bool.and_eq_true]at b
 obtain⟨⟨⟨⟨⟨⟨b1,b2⟩,b3⟩,b4⟩,b5⟩,b6⟩,b7⟩:=b
 have b1:=k _ b1
 have b2:=k _ b2
 have b3:=k _ b3
 have b4:=k _ b4
 have b5:=k _ b5
 have b6:=k _ b6
 have b7:=k _ b7
 exact⟨of_decide_eq_true a,⟨b1.1,b1.2,b2.1,b2.2,b3.1,b3.2,b4.1,b4.2,b5.1,b5.2,b6.1,b6.2,b7.1,b7.2⟩,c,of_decide_eq_true d,e⟩
theorem ite_ok{c:Prop}[Decidable c]{a b:Int × Int}(ha:vfrac a.1 a.2=true)(hb:vfrac b.1 b.2=true):vfrac (if c then a else b).1 (if c then a else b).2=true:=by
 by_cases h:c
 ·rw [if_pos h];exact ha
 ·rw [if_neg h];exact hb
theorem Vw.numF_ok{v:Vw}(h:v.ok=true)(s:List UInt8):vfrac (v.numF s).1 (v.numF s).2=true:=by
 obtain⟨a,b,c,-,-⟩:=Vw.ok_bd h
 unfold Vw.numF
 refine ite_ok c ?_
 repeat refine ite_ok (vfrac_whole (by show _≤(_:Int);omega) (by show(_:Int)≤_;omega)) ?_
 exact vfrac_whole (by omega) (by omega)
theorem inpD_bd(s:List UInt8):inpD s=0∨(2≤inpD s∧inpD s≤4):=by
 unfold inpD
 (repeat' split)<;>simp
theorem inputV_some{v:Vw}{s:ByteArray}{x:Val}(h:inputV v s=some x):x.ok=true∧x.dim=inpD s.toList∧inpD s.toList≠0:=by
 unfold inputV at h
 split at h<;>rename_i hc
 ·cases h
 ·simp only [not_or,Bool.not_eq_false]at hc
  cases h
  have:=inpD_bd s.toList
  exact⟨Val.num_ok (by omega) (Vw.numF_ok hc.2 _),rfl,hc.1⟩
theorem inputV_none{v:Vw}(hv:v.ok=true){s:ByteArray}(h:inputV v s=none):inpD s.toList=0:=by
 unfold inputV at h
 split at h<;>rename_i hc
 ·rcases hc with hc|hc
  ·exact hc
  ·rw [hv]at hc;cases hc
 ·cases h
theorem lastN_dims(env:List (ByteArray × Val))(s:ByteArray):lastN (dimsOf env) s=(lastN env s).map Val.dim:=by
 unfold lastN dimsOf
 rw [←List.map_reverse,List.find?_map]
 simp only [Option.map_map]
 rfl
theorem lastN_mem{env:List (ByteArray × Val)}{s:ByteArray}{x:Val}(h:lastN env s=some x):∃p∈env,p.2=x:=by
 exact tz47
theorem name_ok{v:Vw}(hv:v.ok=true){env:List (ByteArray × Val)}(hE:∀p∈env,p.2.ok=true){s:ByteArray}(h:(inferN (dimsOf env) s).2=0):okR (inferN (dimsOf env) s).1 (nameF v env s):=by
 unfold inferN at h ⊢
 unfold nameF
 cases hi:inputV v s with
 |some x=>
  obtain⟨h1,h2,h3⟩:=inputV_some hi
  rw [if_pos h3]
  exact .inl ⟨rfl,h1,h2⟩
 |none=>
  have h0:=inputV_none hv hi
  rw [if_neg (by simpa using h0),lastN_dims]at h ⊢
  cases hx:lastN env s with
  |some x=>
   obtain⟨p,hp,rfl⟩:=lastN_mem hx
   exact .inl ⟨rfl,hE p hp,rfl⟩
  |none=>rw [hx]at h;simp at h
theorem mk_ok{n d:Int}(h:d≠0):okF (mkN n d,mkD n d,mkE n d):=by
 unfold mkN mkD mkE
 rw [if_neg h,if_neg h,if_neg h]
 rcases lowE_cases n.natAbs d.natAbs with e|e
 ·exact .inl ⟨e,low_ok _ (by omega) e⟩
 ·have h3:=low_bad (decide (n<0)!=decide (d<0)) (show lowE n.natAbs d.natAbs≠0 by omega)
  exact .inr ⟨h3.1,h3.2,.inl e⟩
theorem best_ok{l:List Int}{n:Int}(h1:1≤n)(h2:n≤45)(h:yearsOk l=true):okF (bestF l n):=by
 unfold bestF
 rw [if_neg (by simp [h];omega)]
 exact mk_ok (by omega)
theorem decOk_bd{n d m:Int}(h:decOk n d m=true):vfrac n d=true∧2≤m∧m≤4:=by
 simp only [decOk,Bool.and_eq_true,decide_eq_true_eq]at h
 exact⟨h.1.1.1.1.1,h.1.1.2,h.1.2⟩
theorem infers_len(env:List (ByteArray × Int))(l:List Ex)(h:(infersF env l).2=0):(infersF env l).1.length=l.length:=by
 induction l with
 |nil=>simp [infersF]
 |cons e r ih=>
  rw [infersF]at h ⊢
  split at h<;>rename_i c1
  ·exact absurd h c1
  ·split at h<;>rename_i c2
   ·exact absurd h c2
   ·rw [if_neg c1,if_neg c2]
    simp [ih (by omega)]
mutual
theorem value_ok{v:Vw}(hv:v.ok=true){env:List (ByteArray × Val)}(hE:∀p∈env,p.2.ok=true):∀e:Ex,formedB e=true→(inferF (dimsOf env) e).2=0→okR (inferF (dimsOf env) e).1 (valueF v env e)
 | .mk op n d m s l=>by
   intro hf hi
   rw [formedB,Bool.and_eq_true,decide_eq_true_eq]at hf
   rw [inferF]at hi ⊢
   rw [valueF]
   obtain⟨ha,hf⟩:=hf
   unfold infNode at hi ⊢
   by_cases c1:op=1
   ·subst c1
    rw [if_pos rfl]at hf
    simp only [Bool.and_eq_true]at hf
    have:=decOk_bd hf.1
    exact .inl ⟨rfl,Val.num_ok this.2 this.1,rfl⟩
   rw [if_neg c1]at hi hf ⊢
   by_cases c2:op=2
   ·subst c2
    exact name_ok hv hE hi
   rw [if_neg c2]at hf
   by_cases c3:op=3
   ·subst c3
    rw [if_pos rfl]at hf
    simp only [Bool.and_eq_true,decide_eq_true_eq]at hf
    show okR 4 (numR 4 (bestF v.years n))
    exact okR_num (by omega) (best_ok hf.1.2 hf.2 (Vw.ok_bd hv).2.2.2.2)
   rw [if_neg c3]at hf
   rw [if_neg c3,if_neg c2]at hi ⊢
   simp only [Bool.and_eq_true]at hf
   split at hi<;>rename_i c4
   ·exact absurd hi c4
   rw [if_neg c4]
   split at hi<;>rename_i c5
   ·simp at hi
   rw [if_neg c5]
   have hlen:=infers_len (dimsOf env) l (by omega)
   have hop:4≤op∧op≤21:=by unfold argsN at ha;(repeat' split at ha)<;>omega
   exact node_ok v hop.1 hop.2 (by rw [hlen];exact ha) (fun i hi=>values_ok hv hE l hf.1 (by omega) i (by omega)) c5
theorem values_ok{v:Vw}(hv:v.ok=true){env:List (ByteArray × Val)}(hE:∀p∈env,p.2.ok=true):∀l:List Ex,formedsB l=true→(infersF (dimsOf env) l).2=0→
 ∀i,i<l.length→okR ((infersF (dimsOf env) l).1.getD i 0) ((valuesF v env l).getD i (.zero,0))
 | []=>by intro _ _ i hi;simp at hi
 |e::r=>by
  intro hf h i hi
  rw [formedsB,Bool.and_eq_true]at hf
  rw [infersF]at h ⊢
  rw [valuesF]
  split at h<;>rename_i c1
  ·exact absurd h c1
  split at h<;>rename_i c2
  ·exact absurd h c2
  rw [if_neg c1,if_neg c2]
  cases i with
  |zero=>exact value_ok hv hE e hf.1 (by omega)
  |succ i=>exact values_ok hv hE r hf.2 (by omega) i (by simpa using hi)
end
end Go.Proofs.YtfoefpoaomepbaaGreatDoor
namespace Go.Proofs.YtfoefpoaomepbaaGreatDoor
structure Ins where
 op:Int
 a:Int
 n:Int
 d:Int
instance:Inhabited Ins:=⟨⟨0,0,0,0⟩⟩
def opF(op:Int):Int:=if op=6 then 4 else if op=7 then 5 else if op=8 then 6 else if 9≤op∧op≤18 then op-2 else if op=19 then 19 else if op=20 then 20 else 0
def ariF(op:Int):Nat:=if op=4∨op=5∨op=6 then 1 else 2
def inDs:List Int:=[2,2,2,3,3,3,3,3,3,3,4]
def wfF(m n i:Nat)(x:Ins):Bool:=
 if x.op=1 then decide (x.a=2∨x.a=3∨x.a=4)&&vfrac x.n x.d
 else if ¬(x.n=0∧x.d=0)then false
 else if x.op=2 then decide (0≤x.a∧x.a<11)
 else if x.op=3∨x.op=4 then decide (0≤x.a∧x.a<m)
 else if x.op=5 then decide (1≤x.a∧x.a≤45)
 else if x.op=21∨x.op=22 then decide ((i:Int)<x.a∧x.a≤n)
 else if x.op=23∨x.op=24 then decide (x.a=0)
 else decide (opF x.op≠0∧x.a=0)
def wordsF(sl:List ByteArray):Bool:=decide (sl.length≤12)&&sl.all isWord&&decide sl.Nodup
section
variable (S : List (Option (List Int × List Bool))) (T : List (Option (List Int × List Int)))
def appA(x:Ins)(s:List Int × List Bool)(dims:List Int):Option ((List Int × List Bool) × List Int):=
 if x.op=1 then some ((s.1++[x.a],s.2),dims)
 else if x.op=2 then some ((s.1++[inDs.getD x.a.toNat 0],s.2),dims)
 else if x.op=5 then some ((s.1++[4],s.2),dims)
 else if x.op=23∨x.op=24 then some ((s.1++[1],s.2),dims)
 else if x.op=3 then(if s.2.getD x.a.toNat false=true then some ((s.1++[dims.getD x.a.toNat 0],s.2),dims)else none)
 else if x.op=4 then(if s.1= []then none else some ((s.1.dropLast,s.2.set x.a.toNat true),dims.set x.a.toNat (s.1.getLastD 0)))
 else if x.op=22 then(if s.1= []∨s.1.getLastD 0≠1 then none else some ((s.1.dropLast,s.2),dims))
 else if x.op=21 then some (s,dims)
 else if s.1.length<ariF (opF x.op)then none
 else if resD (opF x.op) (s.1.drop (s.1.length-ariF (opF x.op)))=0 then none
 else some ((s.1.take (s.1.length-ariF (opF x.op))++[resD (opF x.op) (s.1.drop (s.1.length-ariF (opF x.op)))],s.2),dims)
def putA(k:Nat)(s:List Int × List Bool):Option (List (Option (List Int × List Bool))):=
 match S.getD k none with
 |none=>some (S.set k (some s))
 |some t=>if t.1=s.1 then some (S.set k (some (t.1,List.zipWith (· && ·) t.2 s.2)))else none
def rndA(x:Ins)(i:Nat)(dims:List Int)(dep:Nat):Option (List (Option (List Int × List Bool)) × List Int × Nat):=
 match S.getD i none with
 |none=>none
 |some s=>match appA x s dims with
  |none=>none
  |some (s',dims')=>
   if 24<s'.1.length then none
   else match (if x.op=21 then some S else putA S (i+1) s')with
   |none=>none
   |some S1=>match (if x.op=21∨x.op=22 then putA S1 x.a.toNat s' else some S1)with
    |none=>none
    |some S2=>some (S2,dims',max dep s'.1.length)
def goA:List Ins→Nat→List (Option (List Int × List Bool))→List Int→Nat→Int × Int
 | [],i,S,_,dep=>match S.getD i none with
   |none=>((dep:Int),0)
   |some s=>if s.1= []then((dep:Int),0)else(0,8)
 |x::r,i,S,dims,dep=>match rndA S x i dims dep with
  |none=>(0,8)
  |some (S',dims',dep')=>goA r (i+1) S' dims' dep'
end

theorem getD_setI{α:Type}(l:List α)(k j:Nat)(a d:α):(l.set k a).getD j d=if k=j∧j<l.length then a else l.getD j d:=by
 simp only [List.getD_eq_getElem?_getD,List.getElem?_set]
 by_cases h:k=j
 ·subst h
  by_cases h2:k<l.length
  ·simp [h2]
  ·simp [h2,List.getElem?_eq_none (Nat.le_of_not_lt h2)]
 ·simp [h]
structure Agr(m:Nat)(D:Nat→Bool)(dims:List Int)(s:List Int × List Bool)(t:List Int × List Int):Prop where
 stk:t.1=s.1
 l1:s.2.length=12
 l2:t.2.length=m
 slot:∀k,k<m→t.2.getD k 0=if s.2.getD k false=true then dims.getD k 0 else 0
 pos:∀z∈s.1,1≤z
 dpos:∀k,k<m→s.2.getD k false=true→1≤dims.getD k 0
 done:∀k,s.2.getD k false=true→D k=true
def AgrO(m:Nat)(D:Nat→Bool)(dims:List Int):Option (List Int × List Bool)→Option (List Int × List Int)→Prop
 |none,none=>True
 |some s,some t=>Agr m D dims s t∧s.1.length≤24
 |_,_=>False
def AgrL(m:Nat)(D:Nat→Bool)(dims:List Int)(S:List (Option (List Int × List Bool)))(T:List (Option (List Int × List Int))):Prop:=
 S.length=T.length∧∀k,AgrO m D dims (S.getD k none) (T.getD k none)
section
variable {m : Nat} {D D' : Nat → Bool} {dims : List Int} {S S' : List (Option (List Int × List Bool))} {T : List (Option (List Int × List Int))} {x : Ins} {s s' : List Int × List Bool} {t : List Int × List Int}
theorem AgrL.both(h:AgrL m D dims S T)(i:Nat):(S.getD i none=none∧T.getD i none=none)∨∃s t,S.getD i none=some s∧T.getD i none=some t∧Agr m D dims s t∧s.1.length≤24:=by
 have:=h.2 i
 cases hs:S.getD i none<;>cases ht:T.getD i none<;>rw [hs,ht]at this
 ·exact .inl ⟨rfl,rfl⟩
 ·exact this.elim
 ·exact this.elim
 ·exact .inr ⟨_,_,rfl,rfl,this⟩
theorem Agr.mono{a:Nat}{z:Int}(h:Agr m D dims s t)(hD:∀k,D k=true→D' k=true)(ha:D a=false):Agr m D' (dims.set a z) s t:=by
 have hne:∀k,s.2.getD k false=true→a≠k:=fun k hk e=>by
  subst e;rw [h.done a hk]at ha;cases ha
 refine⟨h.stk,h.l1,h.l2,fun k hk=>?_,h.pos,fun k hk hb=>?_,fun k hb=>hD k (h.done k hb)⟩
 ·rw [h.slot k hk]
  split
  ·rename_i hb
   rw [getD_setI,if_neg (fun e=>hne k hb e.1)]
  ·rfl
 ·rw [getD_setI,if_neg (fun e=>hne k hb e.1)]
  exact h.dpos k hk hb
theorem AgrO.imp{D':Nat→Bool}{dims':List Int}{a:Option (List Int × List Bool)}{b:Option (List Int × List Int)}(h:AgrO m D dims a b)(hi:∀s t,Agr m D dims s t→Agr m D' dims' s t):AgrO m D' dims' a b:=by
 cases a<;>cases b<;>first|exact h|exact⟨hi _ _ h.1,h.2⟩
theorem Agr.push(h:Agr m D dims s t){z:Int}(hz:1≤z):Agr m D dims (s.1++[z],s.2) (t.1++[z],t.2):=
 ⟨by rw [h.stk],h.l1,h.l2,h.slot,fun y hy=>by rcases List.mem_append.1 hy with hy|hy;· exact h.pos y hy
                                              ·obtain rfl:y=z:=by simpa using hy
                                               exact hz,h.dpos,h.done⟩
theorem Agr.stack(h:Agr m D dims s t){l:List Int}(hl:∀z∈l,1≤z):Agr m D dims (l,s.2) (l,t.2):=⟨rfl,h.l1,h.l2,h.slot,hl,h.dpos,h.done⟩
end
section
variable {m : Nat} {D D' : Nat → Bool} {dims : List Int} {S : List (Option (List Int × List Bool))} {T : List (Option (List Int × List Int))} {x : Ins}
end
def SubS(s:List Int × List Bool):Option (List Int × List Bool)→Prop
 |none=>False
 |some t=>t.1=s.1∧∀k,t.2.getD k false=true→s.2.getD k false=true
structure Cert(l:List Ins)(m:Nat)(F:List (Option (List Int × List Bool)))(D:List Int):Prop where
 wf:∀i,i<l.length→wfF m l.length i (l.getD i default)=true
 m12:m≤12
 dlen:D.length=12
 zero:∃s,F.getD 0 none=some s∧s.1= []∧∀k,s.2.getD k false=false
 step:∀i,i<l.length→∃s s',F.getD i none=some s∧appA (l.getD i default) s D=some (s',D)∧s'.1.length≤24∧
  ((l.getD i default).op≠21→SubS s' (F.getD (i+1) none))∧((l.getD i default).op=21∨(l.getD i default).op=22→SubS s' (F.getD (l.getD i default).a.toNat none))
 last:∀s,F.getD l.length none=some s→s.1= []
theorem SubS.refl{S:List (Option (List Int × List Bool))}{j:Nat}{s:List Int × List Bool}(h:S.getD j none=some s):SubS s (S.getD j none):=by
 rw [h];exact⟨rfl,fun _ h=>h⟩
theorem SubS.trans{s t:List Int × List Bool}{o:Option (List Int × List Bool)}(h:t.1=s.1∧∀k,t.2.getD k false=true→s.2.getD k false=true)(g:SubS t o):SubS s o:=by
 cases o with
 |none=>exact g
 |some u=>exact⟨g.1.trans h.1,fun k hk=>h.2 k (g.2 k hk)⟩
section
variable {S S' : List (Option (List Int × List Bool))} {s : List Int × List Bool}
end
def inVal(v:Vw)(k:Nat):Val:=(inputV v (inpNm k)).getD .zero
def opV(op:Int)(l:List Val):Val × Int:=if op≤6 then op1 op (l.getD 0 .zero)else op2 op (l.getD 0 .zero) (l.getD 1 .zero)
def runF(l:List Ins)(sl:List ByteArray)(v:Vw):Nat→Nat→List Val→List Val→List (ByteArray × Val)→List (ByteArray × Val) × Int
 |0,_,_,_,st=>(st,0)
 |f+1,i,stk,slots,st=>
  if l.length≤i then(st,0)
  else if(l.getD i default).op=1 then runF l sl v f (i+1) (stk++[⟨(l.getD i default).a,false,(l.getD i default).n,(l.getD i default).d⟩]) slots st
  else if(l.getD i default).op=2 then runF l sl v f (i+1) (stk++[inVal v (l.getD i default).a.toNat]) slots st
  else if(l.getD i default).op=3 then runF l sl v f (i+1) (stk++[slots.getD (l.getD i default).a.toNat .zero]) slots st
  else if(l.getD i default).op=4 then runF l sl v f (i+1) stk.dropLast (slots.set (l.getD i default).a.toNat (stk.getLastD .zero)) (st++[(sl.getD (l.getD i default).a.toNat ByteArray.empty,stk.getLastD .zero)])
  else if(l.getD i default).op=5 then(if(bestF v.years (l.getD i default).a).2.2=0 then runF l sl v f (i+1) (stk++[.num 4 (bestF v.years (l.getD i default).a).1 (bestF v.years (l.getD i default).a).2.1]) slots st else([],(bestF v.years (l.getD i default).a).2.2))
  else if(l.getD i default).op=23∨(l.getD i default).op=24 then runF l sl v f (i+1) (stk++[.truth (decide ((l.getD i default).op=23))]) slots st
  else if(l.getD i default).op=21 then runF l sl v f (l.getD i default).a.toNat stk slots st
  else if(l.getD i default).op=22 then runF l sl v f (if(stk.getLastD .zero).yes=true then i+1 else(l.getD i default).a.toNat) stk.dropLast slots st
  else if(opV (opF (l.getD i default).op) (stk.drop (stk.length-ariF (opF (l.getD i default).op)))).2=0 then
   runF l sl v f (i+1) (stk.take (stk.length-ariF (opF (l.getD i default).op))++[(opV (opF (l.getD i default).op) (stk.drop (stk.length-ariF (opF (l.getD i default).op)))).1]) slots st
  else([],(opV (opF (l.getD i default).op) (stk.drop (stk.length-ariF (opF (l.getD i default).op)))).2)
structure Fits(D:List Int)(s:List Int × List Bool)(stk slots:List Val):Prop where
 dims:stk.map Val.dim=s.1
 ok:∀x∈stk,x.ok=true
 slot:∀k,s.2.getD k false=true→(slots.getD k .zero).ok=true∧(slots.getD k .zero).dim=D.getD k 0
def At(F:List (Option (List Int × List Bool)))(D:List Int)(i:Nat)(stk slots:List Val):Prop:=∃s,F.getD i none=some s∧Fits D s stk slots
theorem Fits.to{F:List (Option (List Int × List Bool))}{D:List Int}{s:List Int × List Bool}{stk slots:List Val}{i:Nat}(h:Fits D s stk slots)(g:SubS s (F.getD i none)):At F D i stk slots:=by
 cases e:F.getD i none with
 |none=>rw [e]at g;exact g.elim
 |some t=>
  rw [e]at g
  exact⟨t,e,h.dims.trans g.1.symm,h.ok,fun k hk=>h.slot k (g.2 k hk)⟩
section
variable {l : List Ins} {m : Nat} {F : List (Option (List Int × List Bool))} {D : List Int} {i : Nat} {stk slots : List Val} {s : List Int × List Bool}
theorem Fits.push(h:Fits D s stk slots){x:Val}(hx:x.ok=true):Fits D (s.1++[x.dim],s.2) (stk++[x]) slots:=
 ⟨by rw [List.map_append,h.dims];rfl,fun y hy=>by
  rcases List.mem_append.1 hy with hy|hy
  ·exact h.ok y hy
  ·obtain rfl:y=x:=by simpa using hy
   exact hx,h.slot⟩
theorem Fits.len(h:Fits D s stk slots):stk.length=s.1.length:=by rw [←h.dims,List.length_map]
theorem Cert.at(C:Cert l m F D)(hi:i<l.length)(h:At F D i stk slots):∃s s',Fits D s stk slots∧appA (l.getD i default) s D=some (s',D)∧s'.1.length≤24∧
 ((l.getD i default).op≠21→SubS s' (F.getD (i+1) none))∧((l.getD i default).op=21∨(l.getD i default).op=22→SubS s' (F.getD (l.getD i default).a.toNat none)):=by
 obtain⟨s,e,hf⟩:=h
 obtain⟨s0,s',e0,h1,h2,h3,h4⟩:=C.step i hi
 rw [e]at e0
 obtain rfl:=Option.some.inj e0
 exact⟨s,s',hf,h1,h2,h3,h4⟩
theorem wf_rest{n:Nat}{x:Ins}(h:wfF m n i x=true)(h1:x.op≠1):(x.n=0∧x.d=0)∧(x.op=2→0≤x.a∧x.a<11)∧(x.op=3∨x.op=4→0≤x.a∧x.a<m)∧(x.op=5→1≤x.a∧x.a≤45)∧
 (x.op=21∨x.op=22→(i:Int)<x.a∧x.a≤n)∧(x.op≠2→x.op≠3→x.op≠4→x.op≠5→x.op≠21→x.op≠22→x.op≠23→x.op≠24→opF x.op≠0):=by
 unfold wfF at h
 rw [if_neg h1]at h
 by_cases hz:¬(x.n=0∧x.d=0)
 ·rw [if_pos hz]at h;cases h
 rw [if_neg hz]at h
 refine⟨by omega,fun c=>?_,fun c=>?_,fun c=>?_,fun c=>?_,fun c2 c3 c4 c5 c21 c22 c23 c24=>?_⟩
 ·rw [if_pos c]at h;simpa using h
 ·rw [if_neg (by omega),if_pos c]at h;simpa using h
 ·rw [if_neg (by omega),if_neg (by omega),if_pos c]at h;simpa using h
 ·rw [if_neg (by omega),if_neg (by omega),if_neg (by omega),if_pos c]at h;simpa using h
 ·rw [if_neg (by omega),if_neg (by omega),if_neg (by omega),if_neg (by omega),if_neg (by omega)]at h
  simp only [decide_eq_true_eq]at h
  exact h.1
end
mutual
def mentB(s:ByteArray):Ex→Bool
 | .mk op _ _ _ nm l=>(decide (op=2)&&decide (nm=s)) || mentsB s l
def mentsB(s:ByteArray):List Ex→Bool
 | []=>false
 |e::r=>mentB s e || mentsB s r
end
theorem mentB_eq(s:ByteArray)(e:Ex):mentB s e=((decide (e.op=2)&&decide (e.name=s)) || mentsB s e.args):=by cases e;rw [mentB];rfl
def needB(e:Ex)(ls:List (ByteArray × Ex))(i:Nat)(u:List Nat):Bool:=
 mentB (ls.getD i default).1 e || u.any fun k=>mentB (ls.getD i default).1 (ls.getD k default).2
def usesG(e:Ex)(ls:List (ByteArray × Ex)):Nat→List Nat
 |0=>[]
 |f+1=>if needB e ls (ls.length-(f+1)) (usesG e ls f)then(ls.length-(f+1))::usesG e ls f else usesG e ls f
def usesL(e:Ex)(ls:List (ByteArray × Ex)):List Nat:=usesG e ls ls.length
theorem usesG_mem{e:Ex}{ls:List (ByteArray × Ex)}:∀(f:Nat),f≤ls.length→∀i∈usesG e ls f,ls.length-f≤i∧i<ls.length
 |0,_,i,h=>by simp [usesG]at h
 |f+1,hf,i,h=>by
  rw [usesG]at h
  split at h
  ·rcases List.mem_cons.1 h with rfl|h
   ·omega
   ·have:=usesG_mem f (by omega) i h;omega
  ·have:=usesG_mem f (by omega) i h;omega
theorem usesG_asc{e:Ex}{ls:List (ByteArray × Ex)}:∀(f:Nat),f≤ls.length→(usesG e ls f).Pairwise (· < ·)
 |0,_=>by simp [usesG]
 |f+1,hf=>by
  rw [usesG]
  split
  ·exact List.pairwise_cons.2 ⟨fun i hi=>by have:=usesG_mem f (by omega) i hi;omega,usesG_asc f (by omega)⟩
  ·exact usesG_asc f (by omega)
theorem usesG_length{e:Ex}{ls:List (ByteArray × Ex)}:∀(f:Nat),(usesG e ls f).length≤f
 |0=>by simp [usesG]
 |f+1=>by
  rw [usesG]
  have:=usesG_length (e:=e) (ls:=ls) f
  split<;>simp<;>omega
theorem usesG_contains{e:Ex}{ls:List (ByteArray × Ex)}(f:Nat)(hf:f+1≤ls.length):(usesG e ls (f+1)).contains (ls.length-(f+1))=needB e ls (ls.length-(f+1)) (usesG e ls f):=by
 rw [usesG]
 split<;>rename_i h
 ·simp [h]
 ·rw [Bool.eq_false_iff.2 h]
  rw [Bool.eq_false_iff]
  intro hc
  have:=usesG_mem f (by omega) _ (List.contains_iff_mem.1 hc)
  omega
theorem usesG_sub{e:Ex}{ls:List (ByteArray × Ex)}{i:Nat}:∀(f g:Nat),f+g≤ls.length→ls.length-f≤i→i<ls.length→(i∈usesG e ls (f+g)↔i∈usesG e ls f)
 |f,0,_,_,_=>Iff.rfl
 |f,g+1,h,h1,h2=>by
  have ih:=usesG_sub (e:=e) f g (by omega) h1 h2
  show i∈usesG e ls (f+g+1)↔_
  rw [usesG]
  split
  ·rw [List.mem_cons,ih]
   constructor
   ·rintro(h3|h3)
    ·omega
    ·exact h3
   ·exact .inr
  ·exact ih
def mopF(op:Int):Int:=if op=4 then 6 else if op=5 then 7 else if op=6 then 8 else if op=19 then 19 else if op=20 then 20 else op+2
def inpK(s:ByteArray):Option Nat:=inpN.findIdx? fun p=>decide (p.1=s)
def slK(sl:List ByteArray)(s:ByteArray):Nat:=(sl.findIdx? fun x=>decide (x=s)).getD 0
def nameI(κ:ByteArray→Nat)(s:ByteArray):Ins:=match inpK s with|some k=>⟨2,k,0,0⟩|none=>⟨3,κ s,0,0⟩
def seqC:List (Nat→List Ins)→Nat→List Ins
 | [],_=>[]
 |f::r,i=>f i++seqC r (i+(f i).length)
def brC(A B C:Nat→List Ins)(i:Nat):List Ins:=
 A i++⟨22,((i+(A i).length+1+(B (i+(A i).length+1)).length+1:Nat):Int),0,0⟩::(B (i+(A i).length+1)++
  ⟨21,((i+(A i).length+1+(B (i+(A i).length+1)).length+1+(C (i+(A i).length+1+(B (i+(A i).length+1)).length+1)).length:Nat):Int),0,0⟩::C (i+(A i).length+1+(B (i+(A i).length+1)).length+1))
def codeNode(κ:ByteArray→Nat)(op n d m:Int)(s:ByteArray)(fs:List (Nat→List Ins))(i:Nat):List Ins:=
 if op=1 then [⟨1,m,n,d⟩]else if op=2 then [nameI κ s]else if op=3 then [⟨5,n,0,0⟩]
 else if op=17 then brC (fs.getD 0 fun _=>[]) (fs.getD 1 fun _=>[]) (fun _=>[⟨24,0,0,0⟩]) i
 else if op=18 then brC (fs.getD 0 fun _=>[]) (fun _=>[⟨23,0,0,0⟩]) (fs.getD 1 fun _=>[]) i
 else if op=21 then brC (fs.getD 0 fun _=>[]) (fs.getD 1 fun _=>[]) (fs.getD 2 fun _=>[]) i
 else seqC fs i++[⟨mopF op,0,0,0⟩]
mutual
def codeF(κ:ByteArray→Nat):Ex→Nat→List Ins
 | .mk op n d m s l=>codeNode κ op n d m s (codesF κ l)
def codesF(κ:ByteArray→Nat):List Ex→List (Nat→List Ins)
 | []=>[]
 |e::r=>codeF κ e::codesF κ r
end
def Lies(l:List Ins)(i:Nat)(c:List Ins):Prop:=i+c.length≤l.length∧∀k,k<c.length→l.getD (i+k) default=c.getD k default
theorem Lies.left{l:List Ins}{i:Nat}{a b:List Ins}(h:Lies l i (a++b)):Lies l i a:=by
 obtain⟨h1,h2⟩:=h
 rw [List.length_append]at h1
 refine⟨by omega,fun k hk=>?_⟩
 rw [h2 k (by rw [List.length_append];omega)]
 simp [List.getD_eq_getElem?_getD,List.getElem?_append_left hk]
theorem Lies.right{l:List Ins}{i:Nat}{a b:List Ins}(h:Lies l i (a++b)):Lies l (i+a.length) b:=by
 obtain⟨h1,h2⟩:=h
 rw [List.length_append]at h1
 refine⟨by omega,fun k hk=>?_⟩
 have:=h2 (a.length+k) (by rw [List.length_append];omega)
 rw [Nat.add_assoc,this]
 simp [List.getD_eq_getElem?_getD,List.getElem?_append_right (Nat.le_add_right a.length k)]
theorem Lies.head{l:List Ins}{i:Nat}{x:Ins}{b:List Ins}(h:Lies l i (x::b)):i<l.length∧l.getD i default=x∧Lies l (i+1) b:=by
 have hl:=Lies.left (a:=[x]) (b:=b) h
 have hr:=Lies.right (a:=[x]) (b:=b) h
 obtain⟨h1,h2⟩:=hl
 have:=h2 0 (by simp)
 exact⟨by simp at h1;omega,this,hr⟩
section
variable (l : List Ins) (sl : List ByteArray) (v : Vw) (slots : List Val) (st : List (ByteArray × Val))
def To(i:Nat)(stk:List Val)(j:Nat)(stk':List Val):Prop:=∀f,l.length≤f+i→∃g,l.length≤g+j∧runF l sl v f i stk slots st=runF l sl v g j stk' slots st
def Errs(i:Nat)(stk:List Val)(c:Int):Prop:=∀f,l.length≤f+i→runF l sl v f i stk slots st=([],c)
def Gives(i:Nat)(stk:List Val)(j:Nat)(r:Val × Int):Prop:=if r.2=0 then To l sl v slots st i stk j (stk++[r.1])else Errs l sl v slots st i stk r.2
variable {l sl v slots st} {i j k : Nat} {stk s1 s2 : List Val} {c : Int}
theorem To.refl:To l sl v slots st i stk i stk:=fun f hf=>⟨f,hf,rfl⟩
theorem To.trans(h:To l sl v slots st i stk j s1)(g:To l sl v slots st j s1 k s2):To l sl v slots st i stk k s2:=fun f hf=>by
 obtain⟨f1,h1,e1⟩:=h f hf
 obtain⟨f2,h2,e2⟩:=g f1 h1
 exact⟨f2,h2,e1.trans e2⟩
theorem To.one{n:Nat}{s':List Val}(hi:i<l.length)(hn:i<n)(h:∀f,runF l sl v (f+1) i stk slots st=runF l sl v f n s' slots st):To l sl v slots st i stk n s':=fun f hf=>by
 cases f with
 |zero=>omega
 |succ f=>exact⟨f,by omega,h f⟩
theorem Errs.one(hi:i<l.length)(h:∀f,runF l sl v (f+1) i stk slots st=([],c)):Errs l sl v slots st i stk c:=fun f hf=>by
 cases f with
 |zero=>omega
 |succ f=>exact h f
end
theorem inpK_some{s:ByteArray}{k:Nat}(h:inpK s=some k):k<11∧inpNm k=s:=by
 unfold inpK at h
 obtain⟨h1,h2,-⟩:=List.findIdx?_eq_some_iff_getElem.1 h
 have hl:inpN.length=11:=rfl
 refine⟨by omega, ?_⟩
 have h3:(inpN[k]).1=s:=by simpa using h2
 unfold inpNm
 rw [List.getD_eq_getElem?_getD,List.getElem?_eq_getElem h1]
 exact h3
theorem inpK_none{s:ByteArray}(h:inpK s=none):inpD s.toList=0:=by
 have hne:∀p∈inpN,p.1≠s:=fun p hp=>by
  have:=List.findIdx?_eq_none_iff.1 h p hp
  simpa using this
 have back:∀t:List UInt8,s.toList=t→s=⟨t.toArray⟩:=fun t ht=>by
  apply ByteArray.ext
  rw [←ht,ByteArray.toList_eq]
 unfold inpD
 (repeat' split)<;>first
  |rfl
  |(exfalso
    rename_i hs
    rcases hs with hs|hs|hs|hs|hs|hs|hs<;>(obtain rfl:=back _ hs;exact absurd h (by decide+kernel)))
  |(exfalso
    rename_i hs
    rcases hs with hs|hs|hs<;>(obtain rfl:=back _ hs;exact absurd h (by decide+kernel)))
  |(exfalso
    rename_i hs
    obtain rfl:=back _ hs
    exact absurd h (by decide+kernel))
theorem formeds_all:∀{l:List Ex},formedsB l=true→∀a∈l,formedB a=true
 |e::r,h,a,ha=>by
  rw [formedsB,Bool.and_eq_true]at h
  rcases List.mem_cons.1 ha with rfl|ha
  ·exact h.1
  ·exact formeds_all h.2 a ha
theorem ments_of{s:ByteArray}:∀{l:List Ex} {a:Ex},a∈l→mentB s a=true→mentsB s l=true
 |e::r,a,ha,h=>by
  rw [mentsB,Bool.or_eq_true]
  rcases List.mem_cons.1 ha with rfl|ha
  ·exact .inl h
  ·exact .inr (ments_of ha h)
section
variable {v : Vw} {env : List (ByteArray × Val)} {κ : ByteArray → Nat} {sl : List ByteArray} {slots : List Val}
end
end Go.Proofs.YtfoefpoaomepbaaGreatDoor
namespace Go
theorem growsR{w w':World}(h:RowKit.Below w.heap.size w w':=by(try simp only [World.grow_grow,World.grow_drew,World.drew_grow,←Array.append_assoc]);repeat' (first|(with_reducible exact Go.RowKit.Below.fin)|(with_reducible exact Go.RowKit.Below.refl _ _)|(with_reducible assumption)|(with_reducible refine Go.RowKit.Below.peel ?_ ?_)|(with_reducible refine Go.RowKit.Below.grow ?_ ?_ _ _)|(with_reducible refine Go.RowKit.Below.alloc ?_ ?_ _)|(with_reducible refine Go.RowKit.Below.drewN ?_ _)|(with_reducible refine Go.RowKit.Below.drew ?_)|(with_reducible refine Go.RowKit.Below.setCell ?_ ?_ _)|go_size)):w.Grows w':=.of_below h
end Go
namespace Go.Proofs.YtfoefpoaomepbaaGreatDoor
open Go.RowKit
theorem World.Grows.grown{W w w':World}{row:Option Nat}(h:W.Grows w)(hg:w.grownBy w' row)(hr:∀k,row=some k→W.heap.size≤k):W.Grows w':=.of_below (Below.grown h.below hg h.below.size hr)
end Go.Proofs.YtfoefpoaomepbaaGreatDoor
namespace Go
section
variable {P : Program} {ops : Array Oper} {Q : Exit → Act → World → Prop} {S : World → Prop} {T : List Nat} {f : Nat} {oi : Oper} {v : Value} {listed : Array Bool} {a a' : Act} {w : World}
end
def Rel(Y:World)(row:Option Nat)(w:World):Prop:=Y.heap.size≤w.heap.size∧∀k,k<Y.heap.size→some k≠row→w.heap[k]? =Y.heap[k]?
section
variable {Y w w' : World} {row : Option Nat}
theorem Rel.refl(Y:World)(row:Option Nat):Rel Y row Y:=⟨Nat.le_refl _,fun _ _ _=>rfl⟩
theorem Rel.grows(h:Rel Y row w)(hg:w.Grows w'):Rel Y row w':=⟨Nat.le_trans h.1 hg.below.size,fun k h1 h2=>(hg.below.block k (Nat.lt_of_lt_of_le h1 h.1)).trans (h.2 k h1 h2)⟩
theorem Rel.grown(h:Rel Y row w)(hg:w.grownBy w' row):Rel Y row w':=⟨Nat.le_trans h.1 hg.size,fun k h1 h2=>(hg.block k (Nat.lt_of_lt_of_le h1 h.1) h2).trans (h.2 k h1 h2)⟩
theorem Rel.cell(h:Rel Y row w){b o:Nat}(hb:b<Y.heap.size)(hr:some b≠row):w.cell? ⟨b,o,none⟩=Y.cell? ⟨b,o,none⟩:=World.cell?_of_block (h.2 b hb hr)
end
end Go
namespace Go.Proofs.YtfoefpoaomepbaaGreatDoor
open Go.RowKit
theorem inputs2_any(w:World):Calls Tryz.prog 191 #[] w fun e w'=>e= .returned (.agg inpA)∧w.Grows w':=by
 go_enter Tryz.func191,Tryz.ntmps191
 go_wp2_with fail
 exact tz27
def InsAt(w:World)(v:Value)(l:List Ins):Prop:=
 l.length≤1000000∧∃a cap,v= .slice a l.length cap∧(l.length=0∨∃b off,a=some ⟨b,off,none⟩∧b<w.heap.size∧∀i,i<l.length→(I64 (l.getD i default).n∧I64 (l.getD i default).d)∧w.cell? ⟨b,off+i*4,none⟩=some (.int .i64 (l.getD i default).op)∧
  w.cell? ⟨b,off+i*4+1,none⟩=some (.int .i64 (l.getD i default).a)∧w.cell? ⟨b,off+i*4+2,none⟩=some (.int .i64 (l.getD i default).n)∧w.cell? ⟨b,off+i*4+3,none⟩=some (.int .i64 (l.getD i default).d))
def SlAt(w:World)(v:Value)(sl:List ByteArray):Prop:=
 sl.length≤1000000∧(∀s∈sl,s.size≤maxLen)∧∃a cap,sl.length≤cap∧v= .slice a sl.length cap∧(sl.length=0∨∃b off,a=some ⟨b,off,none⟩∧b<w.heap.size∧∀i,i<sl.length→w.cell? ⟨b,off+i,none⟩=some (.string (sl.getD i ByteArray.empty)))
theorem InsAt.grows{w w':World}{v:Value}{l:List Ins}(h:InsAt w v l)(hg:w.Grows w'):InsAt w' v l:=by
 obtain⟨h0,a,cap,hv,h1⟩:=h
 refine⟨h0,a,cap,hv,h1.imp id ?_⟩
 rintro⟨b,off,ha,hb,hc⟩
 have hs:=hg.below.size
 have e:∀o,w'.cell? ⟨b,o,none⟩=w.cell? ⟨b,o,none⟩:=fun o=>World.cell?_of_block (hg.below.block b hb)
 refine⟨b,off,ha,by omega,fun i hi=>?_⟩
 obtain⟨k0,k1,k2,k3,k4⟩:=hc i hi
 exact⟨k0,(e _).trans k1,(e _).trans k2,(e _).trans k3,(e _).trans k4⟩
theorem SlAt.grows{w w':World}{v:Value}{sl:List ByteArray}(h:SlAt w v sl)(hg:w.Grows w'):SlAt w' v sl:=by
 obtain⟨h0,h00,a,cap,hcp,hv,h1⟩:=h
 refine⟨h0,h00,a,cap,hcp,hv,h1.imp id ?_⟩
 rintro⟨b,off,ha,hb,hc⟩
 have hs:=hg.below.size
 exact tz61
end Go.Proofs.YtfoefpoaomepbaaGreatDoor
namespace Go.Proofs.YtfoefpoaomepbaaGreatDoor
theorem mk_vfrac{n d:Int}(h:d≠0)(he:mkE n d=0):vfrac (mkN n d) (mkD n d)=true:=by
 rcases mk_ok h (n:=n)with ⟨_,h2⟩|⟨_,_,h3⟩
 ·exact h2
 ·simp only [he]at h3;omega
def dimsOk(env:List (ByteArray × Int)):Bool:=env.all fun p=>decide (1≤p.2∧p.2≤4)
def inferE(env:List (ByteArray × Int))(e:Ex):Int × Int:=if validB e=true∧dimsOk env=true then inferF env e else(0,1)
mutual
def noLitB:Ex→Bool
 | .mk o _ _ _ _ l=>!(o==1)&&noLitsB l
def noLitsB:List Ex→Bool
 | []=>true
 |e::r=>noLitB e&&noLitsB r
end
theorem noLits_get:∀{l:List Ex},noLitsB l=true→∀k,k<l.length→noLitB (l.getD k default)=true
 | [],_,_,hk=>absurd hk (Nat.not_lt_zero _)
 |e::r,h,k,hk=>by
  rw [noLitsB,Bool.and_eq_true]at h
  cases k with
  |zero=>exact h.1
  |succ k=>exact noLits_get h.2 k (by simpa using hk)
theorem noLit_arg{e:Ex}(h:noLitB e=true)(k:Nat)(hk:k<e.args.length):noLitB (e.arg k)=true:=by
 obtain⟨o,n,d,m,s,l⟩:=e
 rw [noLitB,Bool.and_eq_true]at h
 exact noLits_get h.2 k hk
theorem noLit_op{e:Ex}(h:noLitB e=true):e.op≠1:=by
 obtain⟨o,n,d,m,s,l⟩:=e
 rw [noLitB,Bool.and_eq_true]at h
 intro h1
 have h2:o=1:=h1
 have h3:=h.1
 rw [h2]at h3
 exact absurd h3 (by decide)
theorem zip_self(s:List Bool):List.zipWith (· && ·) s s=s:=by
 induction s with
 |nil=>rfl
 |cons b r ih=>rw [List.zipWith_cons_cons,ih];simp
def Ver(sett:List Bool)(dims:List Int)(c:List Ins)(i:Nat)(t t':List Int):Prop:=
 ∀(S:List (Option (List Int × List Bool))) (dep:Nat),i+c.length<S.length→S.getD i none=some (t,sett)→(∀j,i<j→j<i+c.length→S.getD j none=none)→
  (S.getD (i+c.length) none=none∨S.getD (i+c.length) none=some (t',sett))→
  ∃S' dep',S'.length=S.length∧(∀j,i+c.length<j→S'.getD j none=S.getD j none)∧S'.getD (i+c.length) none=some (t',sett)∧∀r,goA (c++r) i S dims dep=goA r (i+c.length) S' dims dep'
section
variable {sett : List Bool} {dims : List Int} {i : Nat} {t t' t2 : List Int}
theorem putA_free{S:List (Option (List Int × List Bool))}{k:Nat}(h:S.getD k none=none∨S.getD k none=some (t,sett)):putA S k (t,sett)=some (S.set k (some (t,sett))):=by
 unfold putA
 rcases h with h|h
 ·rw [h]
 ·rw [h];simp only [if_true];rw [zip_self]
theorem Ver.one{x:Ins}(h:appA x (t,sett) dims=some ((t',sett),dims))(hl:t'.length≤24)(h1:x.op≠21)(h2:x.op≠22):Ver sett dims [x] i t t':=by
 intro S dep hi h0 _ hf
 have hp:=putA_free hf
 refine⟨S.set (i+1) (some (t',sett)),max dep t'.length,List.length_set ..,fun j hj=>?_, ?_,fun r=>?_⟩
 ·simp only [List.length_singleton]at hj
  rw [getD_setI,if_neg (by omega)]
 ·simp only [List.length_singleton]at hi ⊢
  rw [getD_setI,if_pos ⟨rfl,hi⟩]
 ·show goA (x::r) i S dims dep=_
  rw [goA]
  have e:rndA S x i dims dep=some (S.set (i+1) (some (t',sett)),dims,max dep t'.length):=by
   unfold rndA
   rw [h0]
   simp only [h]
   rw [if_neg (by show ¬24<t'.length;omega)]
   simp only [if_neg h1,if_neg (show ¬(x.op=21∨x.op=22)by omega)]
   simp only [List.length_singleton]at hp
   rw [hp]
  rw [e];rfl
theorem Ver.seq{a b:List Ins}(h:Ver sett dims a i t t')(g:Ver sett dims b (i+a.length) t' t2)(ha:a≠[])(hb:b≠[]):Ver sett dims (a++b) i t t2:=by
 intro S dep hi h0 hn hf
 have la:0<a.length:=List.length_pos_iff.2 ha
 have lb:0<b.length:=List.length_pos_iff.2 hb
 rw [List.length_append]at hi hn hf ⊢
 obtain⟨S1,d1,k1,k2,k3,k4⟩:=h S dep (by omega) h0 (fun j h1 h2=>hn j h1 (by omega)) (.inl (hn _ (by omega) (by omega)))
 obtain⟨S2,d2,q1,q2,q3,q4⟩:=g S1 d1 (by omega) k3 (fun j h1 h2=>by rw [k2 j h1];exact hn j (by omega) (by omega)) (by rw [k2 _ (by omega),Nat.add_assoc];exact hf)
 refine⟨S2,d2,by omega,fun j hj=>?_,by rw [←Nat.add_assoc];exact q3,fun r=>?_⟩
 ·rw [q2 j (by omega),k2 j (by omega)]
 ·rw [List.append_assoc,k4,q4,Nat.add_assoc]
end
section
variable {env : List (ByteArray × Int)} {κ : ByteArray → Nat} {sett : List Bool} {dims : List Int}
end
section
variable {sett : List Bool} {dims : List Int} {i k : Nat} {m : Int} {c : List Ins}
end
section
variable {l : List Ins} {sl : List ByteArray} {v : Vw} {slots : List Val} {st : List (ByteArray × Val)} {i k : Nat} {x : Val}
def Goes(l:List Ins)(sl:List ByteArray)(v:Vw)(slots:List Val)(st:List (ByteArray × Val))(i:Nat)(stk:List Val)(slots':List Val)(st':List (ByteArray × Val))(j:Nat):Prop:=
 ∀f,l.length≤f+i→∃g,l.length≤g+j∧runF l sl v f i stk slots st=runF l sl v g j [] slots' st'
end
def WfC(m n i:Nat)(c:List Ins):Prop:=∀k,k<c.length→wfF m n (i+k) (c.getD k default)=true
theorem WfC.nil{m n i:Nat}:WfC m n i []:=fun k hk=>by simp at hk
theorem WfC.app{m n i:Nat}{a b:List Ins}(ha:WfC m n i a)(hb:WfC m n (i+a.length) b):WfC m n i (a++b):=fun k hk=>by
 by_cases h:k<a.length
 ·have e:(a++b).getD k default=a.getD k default:=by simp [List.getD_eq_getElem?_getD,List.getElem?_append_left h]
  rw [e];exact ha k h
 ·have e:(a++b).getD k default=b.getD (k-a.length) default:=by simp [List.getD_eq_getElem?_getD,List.getElem?_append_right (Nat.le_of_not_lt h)]
  rw [List.length_append]at hk
  have:=hb (k-a.length) (by omega)
  rw [show i+a.length+(k-a.length)=i+k by omega]at this
  rw [e];exact this
theorem WfC.one{m n i:Nat}{x:Ins}(h:wfF m n i x=true):WfC m n i [x]:=fun k hk=>by
 obtain rfl:k=0:=by simp at hk;omega
 exact h
theorem WfC.cons{m n i:Nat}{x:Ins}{b:List Ins}(h:wfF m n i x=true)(hb:WfC m n (i+1) b):WfC m n i (x::b):=WfC.app (a:=[x]) (.one h) hb
structure Dfn where
 κ:ByteArray→Nat
 e:Ex
 k:Nat
 m:Int
 env:List (ByteArray × Int)
 ρ:List (ByteArray × Val)→List (ByteArray × Val):=id
def Dfn.code(d:Dfn)(i:Nat):List Ins:=codeF d.κ d.e i++[⟨4,(d.k:Int),0,0⟩]
def defsC:List Dfn→Nat→List Ins
 | [],_=>[]
 |d::r,i=>d.code i++defsC r (i+(d.code i).length)
def guardC(g:Nat→List Ins)(ds:List Dfn)(i:Nat):List Ins:=g i++⟨22,((i+(g i).length+1+(defsC ds (i+(g i).length+1)).length:Nat):Int),0,0⟩::defsC ds (i+(g i).length+1)
theorem infNode_name{op m:Int}{a b:Int × Int}{r:List Int × Int}(h:op≠2):infNode op m a r=infNode op m b r:=by
 unfold infNode
 by_cases c:op=1
 ·rw [if_pos c,if_pos c]
 ·rw [if_neg c,if_neg c]
  by_cases c3:op=3
  ·rw [if_pos c3,if_pos c3]
  ·rw [if_neg c3,if_neg c3,if_neg h,if_neg h]
end Go.Proofs.YtfoefpoaomepbaaGreatDoor
namespace Go.Proofs.YtfoefpoaomepbaaGreatDoor
open Go.RowKit
abbrev bdN(l:List (ByteArray × Int))(i:Nat):ByteArray:=(l.getD i (ByteArray.empty,0)).1
abbrev bdD(l:List (ByteArray × Int))(i:Nat):Int:=(l.getD i (ByteArray.empty,0)).2
def BindAt(w:World)(v:Value)(l:List (ByteArray × Int)):Prop:=
 l.length≤1000∧∃a cap,v= .slice a l.length cap∧(l.length=0∨∃b off,a=some ⟨b,off,none⟩∧b<w.heap.size∧∀i,i<l.length→w.cell? ⟨b,off+i*2,none⟩=some (.string (bdN l i))∧w.cell? ⟨b,off+i*2+1,none⟩=some (.int .i64 (bdD l i)))
theorem BindAt.below{w w':World}{v:Value}{l:List (ByteArray × Int)}{n:Nat}(h:BindAt w v l)(hn:w.heap.size≤n)(hb:Below n w w'):BindAt w' v l:=by
 obtain⟨h0,a,cap,hv,h1⟩:=h
 refine⟨h0,a,cap,hv,h1.imp id ?_⟩
 rintro⟨b,off,ha,hlt,hc⟩
 refine⟨b,off,ha,Nat.lt_of_lt_of_le hlt hb.size,fun i hi=>?_⟩
 rw [hb.cell (p:=⟨b,off+i*2,none⟩) (Nat.lt_of_lt_of_le hlt hn),hb.cell (p:=⟨b,off+i*2+1,none⟩) (Nat.lt_of_lt_of_le hlt hn)]
 exact hc i hi
theorem BindAt.grows{w w':World}{v:Value}{l:List (ByteArray × Int)}(h:BindAt w v l)(hg:w.Grows w'):BindAt w' v l:=h.below (Nat.le_refl _) hg.below
theorem BindAt.grow{w:World}{v:Value}{l:List (ByteArray × Int)}(h:BindAt w v l)(bs:Array Obj)(d:Nat):BindAt (w.grow bs d) v l:=h.grows ⟨bs,d,rfl⟩
theorem BindAt.alloc{w:World}{v:Value}{l:List (ByteArray × Int)}(h:BindAt w v l)(o:Obj):BindAt (w.alloc o) v l:=h.below (Nat.le_refl _) ((Below.refl _ _).alloc (Nat.le_refl _) _)
def PredB(g:FuncId)(lb:Array Value)(l:List (ByteArray × Int))(p:Nat→Bool)(w:World):Prop:=
 ∀k,k<l.length→∀w',w.Grows w'→Calls Tryz.prog g (#[.agg #[.string (bdN l k),.int .i64 (bdD l k)]]++lb) w' fun r w''=>r= .returned (.bool (p k))∧w'.Grows w''
theorem idxB_any(g:FuncId)(lb:Array Value)(eg:∀args w,(callFunc g args).run Tryz.prog w= .ok (.enter g args) w)(l:List (ByteArray × Int))(v:Value)(p:Nat→Bool)(w:World)(h:BindAt w v l)(hp:Hid (PredB g lb l p w)) :
 Calls Tryz.prog 149 #[v,.func (.func g) #[] lb] w fun r w'=>(∃z,r= .returned (.int .i64 z)∧IdxE l.length p z)∧w.Grows w':=by
 obtain⟨hlen,a,cap,rfl,hc⟩:=h
 have Hc:=Lib.hid hc
 clear hc
 go_enter Tryz.func149,Tryz.ntmps149
 go_wp2_with fail
 go_loopw [5,8] (fun _ v8 wr=>∃k:Nat,k≤l.length∧v8= .int .i64 k∧Hid (∀j,j<k→p j=false)∧w.Grows wr) (fun _ v8 _=>l.length-(intOf v8).toNat)
 case atStart=>exact⟨0,by omega,rfl,Lib.hid (fun j hj=>by omega),.refl _⟩
 case round=>
  obtain⟨k,hk,rfl,hno,hgr⟩:=hrel
  have HG:=Lib.hid hgr
  by_cases hlt2:k<l.length
  ·rcases Hc.out with h0|⟨b,off,rfl,hbw,hx⟩
   ·omega
   ·obtain⟨x0,x1⟩:=hx k hlt2
    have y0:wr.cell? ⟨b,off+k*2,none⟩=some (.string (bdN l k)):=by rw [hgr.below.cell (p:=⟨b,off+k*2,none⟩) hbw];exact x0
    have y1:wr.cell? ⟨b,off+k*2+1,none⟩=some (.int .i64 (bdD l k)):=by rw [hgr.below.cell (p:=⟨b,off+k*2+1,none⟩) hbw];exact x1
    clear hx x0 x1
    have d1:(k:Int)<(l.length:Int):=by omega
    have hcall:=hp.out k hlt2 _ hgr
    generalize bdN l k=nk at *
    generalize bdD l k=dk at *
    have HLT:=Lib.hid hlt2
    clear hgr
    cases hq:p k with
    |true=>
     rw [hq]at hcall
     have HQ:=Lib.hid hq
     clear hq
     have HCL:=Lib.hid hcall
     clear hcall
     go_wp2_with (go_at_fn g;refine HCL.out.mono ?_;rintro e' w' ⟨rfl,hg2⟩;have HG2:=Lib.hid hg2;clear hg2)
     go_returns
     exact⟨⟨_,rfl,.inr ⟨k,HLT.out,rfl,HQ.out⟩⟩,World.Grows.trans HG.out HG2.out⟩
    |false=>
     rw [hq]at hcall
     have HQ:=Lib.hid hq
     clear hq
     have HCL:=Lib.hid hcall
     clear hcall
     go_wp2_with (go_at_fn g;refine HCL.out.mono ?_;rintro e' w' ⟨rfl,hg2⟩;have HG2:=Lib.hid hg2;clear hg2)
     go_roundw
     case rel=>exact⟨k+1,by omega,by go_num,Lib.hid (fun j hj=>by
      by_cases ej:j=k
      ·subst ej;exact HQ.out
      ·exact hno.out j (by omega)),World.Grows.trans HG.out HG2.out⟩
     case measure=>simp [intOf];omega
  ·obtain rfl:k=l.length:=by omega
   clear hgr
   go_wp2_with fail
   go_returns
   exact⟨⟨_,rfl,.inl ⟨rfl,hno.out⟩⟩,HG.out⟩
theorem containsB_any(g:FuncId)(lb:Array Value)(eg:∀args w,(callFunc g args).run Tryz.prog w= .ok (.enter g args) w)(l:List (ByteArray × Int))(v:Value)(p:Nat→Bool)(w:World)(h:BindAt w v l)(hp:Hid (PredB g lb l p w)) :
 Calls Tryz.prog 101 #[v,.func (.func g) #[] lb] w fun r w'=>r= .returned (.bool ((List.range l.length).any p))∧w.Grows w':=by
 have HI:=Lib.hid (idxB_any g lb eg l v p w h hp)
 obtain⟨-,a,cap,rfl,-⟩:=h
 clear hp
 generalize hX:(List.range l.length).any p=X
 have HX:=Lib.hid hX
 clear hX
 go_enter Tryz.func101,Tryz.ntmps101
 go_wp2_with (go_at_call 149;refine HI.out.mono ?_;rintro e' w' ⟨⟨z,rfl,hz⟩,bs2,d2,rfl⟩;have HZ:=Lib.hid hz.any;clear hz)
 go_returns
 exact⟨ret_bool (by rw [←HX.out,←HZ.out]),.of_below belB⟩
theorem badB_clos:∀args w,(callFunc 103 args).run Tryz.prog w= .ok (.enter 103 args) w:=enters_of Tryz.func103 (by kernel_rfl) rfl
theorem badB_one(n:ByteArray)(d:Int)(w:World):Calls Tryz.prog 103 #[.agg #[.string n,.int .i64 d]] w fun r w'=>r= .returned (.bool (!decide (1≤d∧d≤4)))∧w.Grows w':=by
 by_cases h1:d<1
 ·exact tz29
 ·by_cases h2:d > 4
  ·exact tz29
  ·exact tz29
end Go.Proofs.YtfoefpoaomepbaaGreatDoor
namespace Go.Proofs.YtfoefpoaomepbaaGreatDoor
open Go.RowKit Go.Shelf
attribute [local go_sem] Oper.semAt_some
def backs(n k:Nat):List (Fin n):=(List.finRange n).reverse.take k
theorem backs_succ(n k:Nat)(i:Fin n)(hk:k<n)(hi:n-1-k=i.1):backs n (k+1)=backs n k++[i]:=by
 have hl:k<(List.finRange n).reverse.length:=by simpa using hk
 unfold backs
 rw [List.take_succ_eq_append_getElem hl]
 congr 2
 apply Fin.ext
 rw [List.getElem_reverse]
 simp
 omega
theorem backs_length(n k:Nat)(hk:k≤n):(backs n k).length=k:=by simp [backs,hk]
theorem backs_mem{n k:Nat}(i:Fin n)(hk:n≤i.1+k):i∈backs n k:=by
 unfold backs
 have hl:n-1-i.1<(List.finRange n).reverse.length:=by simp;omega
 have he:(List.finRange n).reverse[n-1-i.1]=i:=by
  apply Fin.ext
  rw [List.getElem_reverse]
  simp
  omega
 rw [List.mem_take_iff_getElem]
 exact⟨n-1-i.1,by simp;omega,he⟩
abbrev BRow:=List (ByteArray × Int)
def BRow.el(x:BRow)(i:Nat):Value:=.agg #[.string (bdN x i),.int .i64 (bdD x i)]
def BRow.Lies(x:BRow)(n₀:Nat)(W:World)(v:Value)(n:Nat):Prop:=
 n≤1000∧∃a cap,v= .slice a n cap∧(n=0∨∃b off,a=some ⟨b,off,none⟩∧b<n₀∧∀i,i<n→W.cell? ⟨b,off+i*2,none⟩=some (.string (bdN x i))∧W.cell? ⟨b,off+i*2+1,none⟩=some (.int .i64 (bdD x i)))
theorem BRow.Lies.below{x:BRow}{n₀ n:Nat}{W W':World}{v:Value}(h:BRow.Lies x n₀ W v n)(hb:Below n₀ W W'):BRow.Lies x n₀ W' v n:=by
 obtain⟨h0,a,cap,hv,h1⟩:=h
 refine⟨h0,a,cap,hv,h1.imp id ?_⟩
 rintro⟨b,off,ha,hlt,hc⟩
 refine⟨b,off,ha,hlt,fun i hi=>?_⟩
 rw [hb.cell (p:=⟨b,off+i*2,none⟩) hlt,hb.cell (p:=⟨b,off+i*2+1,none⟩) hlt]
 exact hc i hi
theorem BindAt.lies{W:World}{v:Value}{l:List (ByteArray × Int)}(h:BindAt W v l):BRow.Lies l W.heap.size W v l.length:=h
theorem backB1_in(F:Fence)(n:Nat)(hf:F.fn 206)(hro:F.round=none)(hn:1≤n)(l Bs n₀ len:Nat)(x:BRow)(v:Value)(J Jx:List (Fin len)→World→Prop)
 (hY:∀pre (i:Fin len) W,J pre W→pre.length<len→YieldAt F (n-1) Tryz.prog l #[.int .i64 ((i.1:Nat):Int),x.el i.1] W fun e W'=>
  (e= .returned (.bool true)∧J (pre++[i]) W'∧Below n₀ W W')∨(e= .returned (.bool false)∧Jx (pre++[i]) W'))
 (W:World) (hBs:W.cell? ⟨Bs,0,none⟩=some v) (hBl:Bs<n₀) (hL:x.Lies n₀ W v len) (h0:J [] W) :
 CallsIn F n Tryz.prog 206 #[.func (.yield l) #[] #[],.pointer (some ⟨Bs,0,none⟩)] W fun e W'=>(∃v,e= .returned v)∧
  ((∃ys,ys=backs len len∧J ys W')∨(∃pre,(∃k,k<len∧pre=backs len (k+1))∧Jx pre W')):=by
 have HL:=Lib.hid hL
 obtain⟨h1000,a,cap,rfl,-⟩:=hL
 refine callsIn_of_wp Tryz.func206 rfl hf ?_ hro
 simp only [Tryz.ntmps206,List.size_toArray,List.length_cons,List.length_nil,Nat.reduceAdd,Nat.reduceSub,Array.replicate_succ,Array.replicate_zero,List.push_toArray,List.append_toArray,List.nil_append,List.cons_append]
 gi_wp2
 gi_loopw [3] (fun vi wr=>∃k:Nat,k≤len∧vi= .int .i64 ((len:Int)-1-k)∧J (backs len k) wr∧Below n₀ W wr) (fun vi _=>(intOf vi+1).toNat)
 case atStart=>exact⟨0,Nat.zero_le _,by simp,h0,Below.refl _ _⟩
 case round=>
  obtain⟨k,hk,rfl,hJs,hnx⟩:=hrel
  by_cases hlt:k<len
  ·have hcs:=(hnx.cell (p:=⟨Bs,0,none⟩) hBl).trans hBs
   have hLr:=HL.out.below hnx
   obtain⟨-,a',cap',hv,hx⟩:=hLr
   simp only [Value.slice.injEq,true_and]at hv
   obtain⟨rfl,rfl⟩:=hv
   rcases hx with hx|⟨b,off,rfl,hb,hx⟩
   ·omega
   obtain⟨i,hi⟩:∃i:Nat,(len:Int)-1-k=i:=⟨len-1-k,by omega⟩
   have hii:i<len:=by omega
   have hik:len-1-k=i:=by omega
   obtain⟨q0,q1⟩:=hx i hii
   obtain⟨fn,tmps,assign,body,hy,hR⟩:=hY _ ⟨i,hii⟩ wr hJs (by rw [backs_length _ _ hk];exact hlt)
   simp only at hy
   unfold BRow.el at hy
   unfold bdN at hy q0
   unfold bdD at hy q1
   generalize(x.getD i (ByteArray.empty,0)).1=z0 at *
   generalize(x.getD i (ByteArray.empty,0)).2=z1 at *
   have d1:(i:Int)<(len:Int):=by omega
   have d0:(0:Int)≤(i:Int):=by omega
   have hlen1:(len:Int)≤1000:=by omega
   rw [hi]
   have HI:=Lib.hid hi
   have HIK:=Lib.hid hik
   clear hx hi hik hBs h0
   gi_wp2
   refine hR.mono ?_
   rintro e W3 (⟨rfl,hJ3,hk3⟩|⟨rfl,hJx3⟩)
   ·gi_wp2
    go_roundw
    case rel=>exact⟨k+1,by omega,by have:=HI.out;first|(congr 1;omega)|(simp;omega),by rw [backs_succ _ _ ⟨i,hii⟩ hlt HIK.out];exact hJ3,hnx.trans hk3⟩
    case measure=>first|(simp [intOf];done)|(simp [intOf];omega)
   ·gi_wp2
    refine bodyPost_ret (results_none rfl _ _ _) rfl ?_
    exact⟨⟨_,rfl⟩,.inr ⟨_,⟨k,hlt,by rw [backs_succ _ _ ⟨i,hii⟩ hlt HIK.out]⟩,hJx3⟩⟩
  ·obtain rfl:k=len:=by omega
   have hz:(k:Int)-1-k= -1:=by omega
   rw [hz]
   clear hz
   gi_wp2
   go_end0
   exact⟨⟨_,rfl⟩,.inl ⟨_,rfl,hJs⟩⟩
theorem backB_in(F:Fence)(n:Nat)(hf:F.fn 190)(hro:F.round=none)(a:Option Addr)(len cap:Nat)(w:World) :
 CallsIn F n Tryz.prog 190 #[.slice a len cap] w fun e w'=>e= .returned (.func (.func 206) #[] #[.pointer (some ⟨w.heap.size,0,none⟩)])∧w'=w.alloc (.cells #[.slice a len cap] 52):=by
 refine callsIn_of_wp Tryz.func190 rfl hf ?_ hro
 simp only [Tryz.ntmps190,List.size_toArray,List.length_cons,List.length_nil,Nat.reduceAdd,Nat.reduceSub,Array.replicate_succ,Array.replicate_zero,List.push_toArray,List.append_toArray,List.nil_append,List.cons_append]
 gi_wp2
 go_ret
 exact⟨rfl,rfl⟩
theorem backB_stops(F:Fence)(n:Nat)(hf:F.fn 206)(hro:F.round=none)(hn:1≤n)(Bs n₀:Nat)(v:Value)(x:BRow)(len:Nat)(w:World)(hBs:Bs<n₀)(hn₀:n₀≤w.heap.size)
 (hc:w.cell? ⟨Bs,0,none⟩=some v) (hL:x.Lies n₀ w v len) :
 SeqStopsK F n Tryz.prog 206 #[.pointer (some ⟨Bs,0,none⟩)] (fun i:Fin len=>#[Value.int .i64 ((i.1:Nat):Int),x.el i.1]) (Below n₀) (fun ys=>ys=backs len len)
  (fun pre=>∃k,k<len∧pre=backs len (k+1)) len w:=fun l J Jx W hW _ _ hY h0=>
 backB1_in F n hf hro hn l Bs n₀ len x v J Jx hY W ((hW.cell (p:=⟨Bs,0,none⟩) (by show Bs<w.heap.size;omega)).trans hc) hBs (hL.below (hW.mono hn₀)) h0
end Go.Proofs.YtfoefpoaomepbaaGreatDoor
namespace Go.Proofs.YtfoefpoaomepbaaGreatDoor
def foldOp(op:Int):Bool:=decide (op=4∨op=6∨op=7∨op=8∨op=9∨op=10∨op=19∨op=20)
def litV(e:Ex):Val:=.num e.dim e.num e.den
def calcF(op:Int)(ys:List Ex):Option (Int × Int × Int):=
 if foldOp op=true∧(∀y∈ys,y.op=1)∧resD op (ys.map Ex.dim)≠0∧(opV op (ys.map litV)).2=0∧decOk (opV op (ys.map litV)).1.n (opV op (ys.map litV)).1.d (resD op (ys.map Ex.dim))=true then
  some ((opV op (ys.map litV)).1.n,(opV op (ys.map litV)).1.d,resD op (ys.map Ex.dim))else none
def foldNode(op n d m:Int)(s:ByteArray)(ys:List Ex):Ex:=
 match calcF op ys with
 |some r=>.mk 1 r.1 r.2.1 r.2.2 ByteArray.empty []
 |none=>.mk op n d m s ys
mutual
def foldF:Ex→Ex
 | .mk op n d m s xs=>foldNode op n d m s (foldsF xs)
def foldsF:List Ex→List Ex
 | []=>[]
 |e::r=>foldF e::foldsF r
end
theorem foldsF_map:∀xs:List Ex,foldsF xs=xs.map foldF
 | []=>rfl
 |e::r=>by rw [foldsF,foldsF_map r];rfl
theorem foldF_eq(e:Ex):foldF e=foldNode e.op e.num e.den e.dim e.name (e.args.map foldF):=by cases e;rw [foldF,foldsF_map];rfl
theorem foldNode_cases(op n d m:Int)(s:ByteArray)(ys:List Ex) :
 (foldNode op n d m s ys= .mk op n d m s ys∧calcF op ys=none)∨(foldOp op=true∧(∀y∈ys,y.op=1)∧resD op (ys.map Ex.dim)≠0∧(opV op (ys.map litV)).2=0∧decOk (opV op (ys.map litV)).1.n (opV op (ys.map litV)).1.d (resD op (ys.map Ex.dim))=true∧
  foldNode op n d m s ys= .mk 1 (opV op (ys.map litV)).1.n (opV op (ys.map litV)).1.d (resD op (ys.map Ex.dim)) ByteArray.empty []):=by
 unfold foldNode calcF
 by_cases h:foldOp op=true∧(∀y∈ys,y.op=1)∧resD op (ys.map Ex.dim)≠0∧(opV op (ys.map litV)).2=0∧decOk (opV op (ys.map litV)).1.n (opV op (ys.map litV)).1.d (resD op (ys.map Ex.dim))=true
 ·rw [if_pos h]
  obtain⟨a,b,c,d,e⟩:=h
  exact .inr ⟨a,b,c,d,e,rfl⟩
 ·rw [if_neg h];exact .inl ⟨rfl,rfl⟩
theorem formed_lit'{n d m:Int}(h:decOk n d m=true):formedB (.mk 1 n d m ByteArray.empty [])=true:=by
 rw [formedB,if_pos rfl,h];decide+kernel
mutual
theorem fold_form:∀e:Ex,formedB e=true→formedB (foldF e)=true∧(foldF e).size≤e.size∧(foldF e).depth≤e.depth
 | .mk op n d m s xs=>by
   intro h
   rw [foldF,foldsF_map]
   have h0:=h
   rw [formedB,Bool.and_eq_true]at h
   rcases foldNode_cases op n d m s (xs.map foldF)with ⟨e,-⟩|⟨-,-,-,-,hd,e⟩
   ·rw [e]
    by_cases hl:op=1∨op=2∨op=3
    ·have hx:xs= []:=by
      have:=h.1
      simp only [decide_eq_true_eq]at this
      unfold argsN at this
      rw [if_pos (by omega)]at this
      exact List.eq_nil_of_length_eq_zero (by omega)
     subst hx
     exact⟨h0,Nat.le_refl _,Nat.le_refl _⟩
    ·have hfs:formedsB xs=true:=by
      have:=h.2
      rw [if_neg (by omega),if_neg (by omega),if_neg (by omega)]at this
      exact(Bool.and_eq_true_iff.1 this).1
     obtain⟨k1,k2,k3⟩:=folds_form xs hfs
     refine⟨?_, ?_, ?_⟩
     ·rw [formedB,Bool.and_eq_true]
      refine⟨by rw [List.length_map];exact h.1, ?_⟩
      have:=h.2
      rw [if_neg (by omega),if_neg (by omega),if_neg (by omega)]at this ⊢
      rw [Bool.and_eq_true]at this ⊢
      exact⟨k1,this.2⟩
     ·rw [Ex.size,Ex.size];omega
     ·rw [Ex.depth,Ex.depth];omega
   ·rw [e]
    refine⟨formed_lit' hd, ?_, ?_⟩
    ·rw [Ex.size,Ex.size,Ex.sizes];omega
    ·rw [Ex.depth,Ex.depth,Ex.depths];omega
theorem folds_form:∀xs:List Ex,formedsB xs=true→formedsB (xs.map foldF)=true∧Ex.sizes (xs.map foldF)≤Ex.sizes xs∧Ex.depths (xs.map foldF)≤Ex.depths xs
 | [],_=>⟨rfl,Nat.le_refl _,Nat.le_refl _⟩
 |e::r,h=>by
  rw [formedsB,Bool.and_eq_true]at h
  obtain⟨a1,a2,a3⟩:=fold_form e h.1
  obtain⟨b1,b2,b3⟩:=folds_form r h.2
  rw [List.map_cons]
  refine⟨by rw [formedsB,a1,b1];rfl, ?_, ?_⟩
  ·rw [Ex.sizes,Ex.sizes];omega
  ·rw [Ex.depths,Ex.depths];omega
end
theorem foldOp_bd{op:Int}(h:foldOp op=true):4≤op∧op≤20∧op≠5∧op≠17∧op≠18:=by
 unfold foldOp at h
 simp only [decide_eq_true_eq]at h
 omega
theorem inf_lit(env:List (ByteArray × Int)){y:Ex}(h:y.op=1):inferF env y=(y.dim,0):=by
 rw [inferF_eq];unfold infNode;rw [if_pos h]
theorem infers_map{env:List (ByteArray × Int)}:∀{xs:List Ex},(∀a∈xs,(inferF env a).2=0)→infersF env xs=(xs.map (fun e=>(inferF env e).1),0)
 | [],_=>rfl
 |e::r,h=>by
  rw [infersF,if_neg (by have:=h e (by simp);omega),infers_map (fun a ha=>h a (List.mem_cons_of_mem _ ha))];rfl
mutual
theorem fold_infer(env:List (ByteArray × Int)):∀e:Ex,inferF env (foldF e)=inferF env e
 | .mk op n d m s xs=>by
   have ih:=folds_infer env xs
   rw [foldF,foldsF_map]
   rcases foldNode_cases op n d m s (xs.map foldF)with ⟨e,-⟩|⟨ho,hl,hr,-,-,e⟩
   ·rw [e,inferF,inferF,ih]
   ·rw [e,inf_lit env (rfl:Ex.op (.mk 1 _ _ _ _ _)=1),inferF,←ih]
    have hb:=foldOp_bd ho
    have hm:infersF env (xs.map foldF)=((xs.map foldF).map Ex.dim,0):=by
     rw [infers_map (fun a ha=>by rw [inf_lit env (hl a ha)])]
     refine Prod.ext (List.map_congr_left fun a ha=>?_) rfl
     rw [inf_lit env (hl a ha)]
    unfold infNode
    rw [if_neg (by omega),if_neg (by omega),if_neg (by omega),hm]
    simp only
    rw [if_neg (by simp),if_neg hr];rfl
theorem folds_infer(env:List (ByteArray × Int)):∀xs:List Ex,infersF env (xs.map foldF)=infersF env xs
 | []=>rfl
 |e::r=>by rw [List.map_cons,infersF,infersF,fold_infer env e,folds_infer env r]
end
section
variable {v : Vw} (hv : v.ok = true) {env : List (ByteArray × Val)} (hE : ∀ p ∈ env, p.2.ok = true)
include hv hE
end
theorem fold_valid{e:Ex}(h:validB e=true):validB (foldF e)=true:=by
 unfold validB at h ⊢
 simp only [Bool.and_eq_true,decide_eq_true_eq]at h ⊢
 obtain⟨k1,k2,k3⟩:=fold_form e h.2
 exact⟨⟨by omega,by omega⟩,k1⟩
mutual
theorem fold_ment{s:ByteArray}:∀e:Ex,mentB s (foldF e)=true→mentB s e=true
 | .mk op n d m s' xs=>by
   intro h
   rw [foldF,foldsF_map]at h
   rcases foldNode_cases op n d m s' (xs.map foldF)with ⟨k,-⟩|⟨-,-,-,-,-,k⟩
   ·rw [k,mentB,Bool.or_eq_true]at h
    rw [mentB,Bool.or_eq_true]
    exact h.imp id (folds_ment xs)
   ·rw [k,mentB]at h
    simp [mentsB]at h
theorem folds_ment{s:ByteArray}:∀xs:List Ex,mentsB s (xs.map foldF)=true→mentsB s xs=true
 | [],h=>h
 |e::r,h=>by
  rw [List.map_cons,mentsB,Bool.or_eq_true]at h
  rw [mentsB,Bool.or_eq_true]
  exact h.imp (fold_ment e) (folds_ment r)
end
theorem lits_infer(env:List (ByteArray × Int)){l:List Ex}(h:∀y∈l,y.op=1):infersF env l=(l.map Ex.dim,0):=by
 rw [infers_map (fun a ha=>by rw [inf_lit env (h a ha)])]
 refine Prod.ext (List.map_congr_left fun a ha=>?_) rfl
 rw [inf_lit env (h a ha)]
theorem lit_args{y:Ex}(hf:formedB y=true)(h1:y.op=1):y.args= []:=by
 rw [formedB_eq,Bool.and_eq_true,decide_eq_true_eq,h1]at hf
 refine List.eq_nil_of_length_eq_zero ?_
 have:=hf.1
 have e:argsN 1=0:=by decide
 omega
theorem lit_dec{y:Ex}(hf:formedB y=true)(h1:y.op=1):decOk y.num y.den y.dim=true:=by
 rw [formedB_eq,Bool.and_eq_true,if_pos h1,Bool.and_eq_true]at hf
 exact hf.2.1
theorem lit_val{y:Ex}(hf:formedB y=true)(h1:y.op=1):(litV y).ok=true:=by
 have:=decOk_bd (lit_dec hf h1)
 exact Val.num_ok this.2 this.1
theorem formeds_mem:∀{l:List Ex},formedsB l=true→∀y∈l,formedB y=true
 | [],_,_,h=>by cases h
 |e::r,h,y,hy=>by
  rw [formedsB,Bool.and_eq_true]at h
  rcases List.mem_cons.1 hy with rfl|hy
  ·exact h.1
  ·exact formeds_mem h.2 y hy
theorem lits_size:∀{l:List Ex},formedsB l=true→(∀y∈l,y.op=1)→Ex.sizes l≤l.length∧Ex.depths l≤1
 | [],_,_=>⟨Nat.le_refl _,by rw [Ex.depths];omega⟩
 |e::r,h,hl=>by
  rw [formedsB,Bool.and_eq_true]at h
  obtain⟨a,b⟩:=lits_size h.2 (fun y hy=>hl y (List.mem_cons_of_mem _ hy))
  have hx:=lit_args h.1 (hl e (by simp))
  have e1:e.size=1:=by rw [Ex.size_eq,hx];rfl
  have e2:e.depth=1:=by rw [Ex.depth_eq,hx];rfl
  rw [Ex.sizes,Ex.depths,List.length_cons]
  omega
theorem node_formed{op n d m:Int}{s:ByteArray}{xs:List Ex}(h:formedB (.mk op n d m s xs)=true):formedB (.mk op n d m s (xs.map foldF))=true:=by
 have h0:=h
 rw [formedB,Bool.and_eq_true]at h
 by_cases hl:op=1∨op=2∨op=3
 ·have hx:xs= []:=by
   have:=h.1
   simp only [decide_eq_true_eq]at this
   unfold argsN at this
   rw [if_pos (by omega)]at this
   exact List.eq_nil_of_length_eq_zero (by omega)
  subst hx
  exact h0
 ·have h2:=h.2
  rw [if_neg (by omega),if_neg (by omega),if_neg (by omega),Bool.and_eq_true]at h2
  rw [formedB,Bool.and_eq_true]
  refine⟨by rw [List.length_map];exact h.1, ?_⟩
  rw [if_neg (by omega),if_neg (by omega),if_neg (by omega),Bool.and_eq_true]
  exact⟨(folds_form xs h2.1).1,h2.2⟩
theorem op_formeds{op n d m:Int}{s:ByteArray}{xs:List Ex}(h:formedB (.mk op n d m s xs)=true)(ho:4≤op):formedsB xs=true∧(xs.length:Int)=argsN op:=by
 rw [formedB,Bool.and_eq_true,decide_eq_true_eq,if_neg (by omega),if_neg (by omega),if_neg (by omega),Bool.and_eq_true]at h
 exact⟨h.2.1,h.1⟩
theorem formed_arg{e:Ex}(h:formedB e=true)(k:Nat)(hk:k<e.args.length):formedB (e.arg k)=true:=by
 obtain⟨op,n,d,m,s,xs⟩:=e
 have hk':k<xs.length:=hk
 have hm:(Ex.mk op n d m s xs).arg k∈xs:=by
  show xs.getD k default∈xs
  rw [List.getD_eq_getElem?_getD,List.getElem?_eq_getElem hk'];exact List.getElem_mem hk'
 rw [formedB,Bool.and_eq_true,decide_eq_true_eq]at h
 by_cases hl:op=1∨op=2∨op=3
 ·have:=h.1
  unfold argsN at this
  rw [if_pos (by omega)]at this
  omega
 ·have h2:=h.2
  rw [if_neg (by omega),if_neg (by omega),if_neg (by omega),Bool.and_eq_true]at h2
  exact formeds_mem h2.1 _ hm
structure CalcOk(e:Ex):Prop where
 op:foldOp e.op=true
 lit:∀y∈e.args,y.op=1
 form:formedB e=true
theorem CalcOk.args{e:Ex}(h:CalcOk e):formedsB e.args=true∧(e.args.length:Int)=argsN e.op:=by
 have:=foldOp_bd h.op
 cases e
 exact op_formeds h.form this.1
theorem CalcOk.valid{e:Ex}(h:CalcOk e):validB e=true:=by
 have hb:=foldOp_bd h.op
 obtain⟨h1,h2⟩:=h.args
 obtain⟨h3,h4⟩:=lits_size h1 h.lit
 unfold validB
 rw [h.form,Bool.and_true,Bool.and_eq_true,decide_eq_true_eq,decide_eq_true_eq,Ex.size_eq,Ex.depth_eq]
 have:argsN e.op≤2:=by unfold argsN;(repeat' split)<;>omega
 omega
theorem CalcOk.infer{e:Ex}(h:CalcOk e):inferE [] e=(if resD e.op (e.args.map Ex.dim)=0 then(0,6)else(resD e.op (e.args.map Ex.dim),0)):=by
 unfold inferE
 rw [if_pos ⟨h.valid,rfl⟩,inferF_eq,lits_infer [] h.lit]
 have hb:=foldOp_bd h.op
 unfold infNode
 rw [if_neg (by omega),if_neg (by omega),if_neg (by omega)]
 simp
theorem CalcOk.arg{e:Ex}(h:CalcOk e){i:Nat}(hi:i<e.args.length):(e.arg i).op=1∧(litV (e.arg i)).ok=true:=by
 have hm:e.arg i∈e.args:=by
  exact tz62
 exact⟨h.lit _ hm,lit_val (formeds_mem h.args.1 _ hm) (h.lit _ hm)⟩
theorem CalcOk.one{e:Ex}(h:CalcOk e)(h6:e.op≤6):e.args= [e.arg 0]:=by
 have hb:=foldOp_bd h.op
 have hl:=h.args.2
 have ea:argsN e.op=1:=by unfold argsN;rw [if_neg (by omega),if_pos (by omega)]
 rw [ea]at hl
 obtain⟨a,ha⟩:=List.length_eq_one_iff.1 (show e.args.length=1 by omega)
 unfold Ex.arg
 rw [ha];rfl
theorem CalcOk.two{e:Ex}(h:CalcOk e)(h6:7≤e.op):e.args= [e.arg 0,e.arg 1]:=by
 have hb:=foldOp_bd h.op
 have hl:=h.args.2
 have ea:argsN e.op=2:=by unfold argsN;rw [if_neg (by omega),if_neg (by omega),if_pos (by omega)]
 rw [ea]at hl
 unfold Ex.arg
 match ha:e.args,(show e.args.length=2 by omega)with
 | [a,b],_=>rfl
theorem CalcOk.ok{e:Ex}(h:CalcOk e)(hr:resD e.op (e.args.map Ex.dim)≠0):okR (resD e.op (e.args.map Ex.dim)) (opV e.op (e.args.map litV)):=by
 have hb:=foldOp_bd h.op
 by_cases h6:e.op≤6
 ·have ha:=h.one h6
  have hx:=(h.arg (i:=0) (by rw [ha];simp)).2
  rw [ha]at hr ⊢
  have:=op1_ok hx hb.1 h6 hr
  unfold opV
  rw [if_pos h6];exact this
 ·have ha:=h.two (by omega)
  have hx:=(h.arg (i:=0) (by rw [ha];simp)).2
  have hy:=(h.arg (i:=1) (by rw [ha];simp)).2
  rw [ha]at hr ⊢
  have:=op2_ok hx hy (by omega) hb.2.1 hb.2.2.2.1 hb.2.2.2.2 hr
  unfold opV
  rw [if_neg h6];exact this
theorem CalcOk.calc{e:Ex}(h:CalcOk e)(r:Int × Int × Int)(hR:(opV e.op (e.args.map litV)).2=r.2.2∧(r.2.2=0→(opV e.op (e.args.map litV)).1.n=r.1∧(opV e.op (e.args.map litV)).1.d=r.2.1))(hd:resD e.op (e.args.map Ex.dim)≠0) :
 calcF e.op e.args=if r.2.2=0∧decOk r.1 r.2.1 (resD e.op (e.args.map Ex.dim))=true then some (r.1,r.2.1,resD e.op (e.args.map Ex.dim))else none:=by
 unfold calcF
 rw [hR.1]
 by_cases h0:r.2.2=0
 ·obtain⟨e1,e2⟩:=hR.2 h0
  rw [e1,e2]
  by_cases hk:decOk r.1 r.2.1 (resD e.op (e.args.map Ex.dim))=true
  ·rw [if_pos ⟨h.op,h.lit,hd,h0,hk⟩,if_pos ⟨h0,hk⟩]
  ·rw [if_neg (fun c=>hk c.2.2.2.2),if_neg (fun c=>hk c.2)]
 ·rw [if_neg (fun c=>h0 c.2.2.2.1),if_neg (fun c=>h0 c.1)]
theorem CalcOk.no{e:Ex}(hd:resD e.op (e.args.map Ex.dim)=0):calcF e.op e.args=none:=by
 unfold calcF
 rw [if_neg (fun c=>c.2.2.1 hd)]
theorem numR_res(m:Int)(r:Int × Int × Int):(numR m r).2=r.2.2∧(r.2.2=0→(numR m r).1.n=r.1∧(numR m r).1.d=r.2.1):=by
 unfold numR
 by_cases h:r.2.2=0
 ·simp [h,Val.num]
 ·simp [h]
theorem frac_same{a b c d:Int}(ha:vfrac a b=true)(hb:vfrac c d=true)(h:cmpI a b c d=0):a=c∧b=d:=by
 refine frac_eq ha hb ?_
 unfold cmpI at h
 (repeat' split at h)<;>omega
theorem foldsF_take(e:Ex)(k:Nat)(hk:k<e.args.length){l:List (Ex × Go.Value)}(h:(e.args.take k).map foldF=l.map (·.1))(ve:Go.Value):(e.args.take (k+1)).map foldF=(l++[(foldF (e.arg k),ve)]).map (·.1):=by
 rw [Ex.take_succ _ _ hk,List.map_append,h,List.map_append];rfl
section
variable {l : List Ins} {sl : List ByteArray} {v : Vw}
theorem Goes.trans{slots s1 s2:List Val}{st t1 t2:List (ByteArray × Val)}{i j k:Nat}{stk:List Val}(h:Goes l sl v slots st i stk s1 t1 j)(g:Goes l sl v s1 t1 j [] s2 t2 k):Goes l sl v slots st i stk s2 t2 k:=fun f hf=>by
 obtain⟨f1,h1,e1⟩:=h f hf
 obtain⟨f2,h2,e2⟩:=g f1 h1
 exact⟨f2,h2,e1.trans e2⟩
end
structure StpsOk(l:List Ins)(sl:List ByteArray)(i:Nat)(st:List (ByteArray × Val)):Prop where
 ok:∀p∈st,p.2.ok=true
 nm:∀p∈st,∃j,j<i∧(l.getD j default).op=4∧p.1=sl.getD (l.getD j default).a.toNat ByteArray.empty
 one:(st.map Prod.fst).Nodup
theorem StpsOk.nil{l:List Ins}{sl:List ByteArray}{i:Nat}:StpsOk l sl i []:=⟨fun _ h=>(by cases h),fun _ h=>(by cases h),List.nodup_nil⟩
theorem StpsOk.later{l:List Ins}{sl:List ByteArray}{i j:Nat}{st:List (ByteArray × Val)}(h:StpsOk l sl i st)(hij:i≤j):StpsOk l sl j st:=⟨h.ok,fun p hp=>by
 obtain⟨k,h1,h2⟩:=h.nm p hp
 exact⟨k,by omega,h2⟩,h.one⟩
section
variable {l : List Ins} {sl : List ByteArray} {v : Vw} {F : List (Option (List Int × List Bool))} {D : List Int}
end
end Go.Proofs.YtfoefpoaomepbaaGreatDoor
namespace Go.Proofs.YtfoefpoaomepbaaGreatDoor
open Go.RowKit Go.Shelf
attribute [local go_sem] Oper.semAt_some
abbrev SRow:=List (ByteArray × Val)
abbrev stN(l:List (ByteArray × Val))(i:Nat):ByteArray:=(l.getD i (ByteArray.empty,Val.zero)).1
abbrev stV(l:List (ByteArray × Val))(i:Nat):Val:=(l.getD i (ByteArray.empty,Val.zero)).2
structure StepAt(W:World)(b o:Nat)(n:ByteArray)(x:Val):Prop where
 p0:W.cell? ⟨b,o,none⟩=some (.string n)
 p1:W.cell? ⟨b,o+1,none⟩=some (.int .i64 x.dim)
 p2:W.cell? ⟨b,o+2,none⟩=some (.bool x.yes)
 p3:W.cell? ⟨b,o+3,none⟩=some (.int .i64 x.n)
 p4:W.cell? ⟨b,o+4,none⟩=some (.int .i64 x.d)
theorem StepAt.same{W W':World}{b o:Nat}{n:ByteArray}{x:Val}(h:StepAt W b o n x)(hw:∀o,W'.cell? ⟨b,o,none⟩=W.cell? ⟨b,o,none⟩):StepAt W' b o n x:=
 ⟨by rw [hw];exact h.p0,by rw [hw];exact h.p1,by rw [hw];exact h.p2,by rw [hw];exact h.p3,by rw [hw];exact h.p4⟩
def SRow.el(x:SRow)(i:Nat):Value:=.agg #[.string (stN x i),.int .i64 (stV x i).dim,.bool (stV x i).yes,.int .i64 (stV x i).n,.int .i64 (stV x i).d]
def SRow.Lies(x:SRow)(n₀:Nat)(W:World)(v:Value)(n:Nat):Prop:=
 n≤1000∧∃a cap,v= .slice a n cap∧(n=0∨∃b off,a=some ⟨b,off,none⟩∧b<n₀∧∀i,i<n→StepAt W b (off+i*5) (stN x i) (stV x i))
theorem SRow.Lies.below{x:SRow}{n₀ n:Nat}{W W':World}{v:Value}(h:SRow.Lies x n₀ W v n)(hb:Below n₀ W W'):SRow.Lies x n₀ W' v n:=by
 obtain⟨h0,a,cap,hv,h1⟩:=h
 refine⟨h0,a,cap,hv,h1.imp id ?_⟩
 rintro⟨b,off,ha,hlt,hc⟩
 exact⟨b,off,ha,hlt,fun i hi=>(hc i hi).same fun o=>hb.cell (p:=⟨b,o,none⟩) hlt⟩
end Go.Proofs.YtfoefpoaomepbaaGreatDoor
