import Derived.Test.YtaghhncnicbedaaGreatDoorBFrP
import Derived.Test.YtaghhncnicbedaaGreatDoorBGen
import Derived.Test.YtaghhncnicbedaaGreatDoorBK
set_option linter.all false
set_option maxHeartbeats 16000000
set_option maxRecDepth 1000000
namespace Go.Proofs.YtaghhncnicbedaaGreatDoor

structure Val where
 dim:Int
 yes:Bool
 n:Int
 d:Int
namespace Val
def zero:Val:=⟨0,false,0,0⟩
def num(m n d:Int):Val:=⟨m,false,n,d⟩
def truth(b:Bool):Val:=⟨1,b,0,0⟩
def ok(x:Val):Bool:=if x.dim=1 then decide (x.n=0∧x.d=0)else decide (2≤x.dim∧x.dim≤4)&&!x.yes&&vfrac x.n x.d
end Val
structure Vw where
 age:Int
 year:Int
 children:Int
 insured:Int
 worked:Int
 voluntary:Int
 service:Int
 equated:Int
 raising:Int
 resident:Int
 bn:Int
 bd:Int
 years:List Int
def yearsOk(l:List Int):Bool:=decide (l.length≤200)&&l.all fun x=>decide (0≤x∧x≤1000000000000)
def daysOk(z:Int):Bool:=decide (0≤z∧z≤73049)
def Vw.ok(v:Vw):Bool:=decide (0≤v.age∧v.age≤199∧1900≤v.year∧v.year≤2099∧0≤v.children∧v.children≤99)&&
 (daysOk v.insured&&daysOk v.worked&&daysOk v.voluntary&&daysOk v.service&&daysOk v.equated&&daysOk v.raising&&daysOk v.resident)&&
 (vfrac v.bn v.bd&&decide (0≤v.bn∧v.bn≤1000000000000*v.bd))&&yearsOk v.years
def Vw.numF(v:Vw)(s:List UInt8):Int × Int:=
 if s= [98,97,115,101]then(v.bn,v.bd)
 else if s= [97,103,101]then(v.age,1)else if s= [121,101,97,114]then(v.year,1)else if s= [99,104,105,108,100,114,101,110]then(v.children,1)
 else if s= [105,110,115,117,114,101,100]then(v.insured,1)else if s= [119,111,114,107,101,100]then(v.worked,1)else if s= [118,111,108,117,110,116,97,114,121]then(v.voluntary,1)
 else if s= [115,101,114,118,105,99,101]then(v.service,1)else if s= [101,113,117,97,116,101,100]then(v.equated,1)else if s= [114,97,105,115,105,110,103]then(v.raising,1)
 else if s= [114,101,115,105,100,101,110,116]then(v.resident,1)else(0,1)
def inputV(v:Vw)(s:ByteArray):Option Val:=if inpD s.toList=0∨v.ok=false then none else some (.num (inpD s.toList) (v.numF s.toList).1 (v.numF s.toList).2)

def insD(x:Int):List Int→List Int
 | []=>[x]
 |y::r=>if x≤y then y::insD x r else x::y::r
def sortD(l:List Int):List Int:=l.foldl (fun a x=>insD x a) []
def bestS(l:List Int)(n:Int):Int:=((sortD l).take n.toNat).sum
def bestF(l:List Int)(n:Int):Int × Int × Int:=if n<1∨45<n∨yearsOk l=false then(0,0,1)else(mkN (bestS l n) n,mkD (bestS l n) n,mkE (bestS l n) n)

def lastN{α:Type}(env:List (ByteArray × α))(s:ByteArray):Option α:=(env.reverse.find? fun p=>decide (p.1=s)).map Prod.snd

def resD(op:Int)(d:List Int):Int:=
 let a:=d.getD 0 0;let b:=d.getD 1 0;let c:=d.getD 2 0
 if op=5 then(if a=1 then 1 else 0)
 else if op=4∨op=6 then(if a≠1 then a else 0)
 else if op=7∨op=8∨op=19∨op=20 then(if a=b∧a≠1 then a else 0)
 else if op=9 then(if a=2∧b≠1 then b else if b=2∧a≠1 then a else 0)
 else if op=10 then(if b=2∧a≠1 then a else if a=b∧a≠1 then 2 else 0)
 else if op=17∨op=18 then(if a=1∧b=1 then 1 else 0)
 else if op=21 then(if a=1∧b=c then b else 0)
 else if a=b∧a≠1 then 1 else 0
def inferN(env:List (ByteArray × Int))(s:ByteArray):Int × Int:=
 if inpD s.toList≠0 then(inpD s.toList,0)else match lastN env s with|some m=>(m,0)|none=>(0,5)
def infNode(op m:Int)(nm:Int × Int)(r:List Int × Int):Int × Int:=
 if op=1 then(m,0)else if op=3 then(4,0)else if op=2 then nm
 else if r.2≠0 then(0,r.2)else if resD op r.1=0 then(0,6)else(resD op r.1,0)
mutual
def inferF(env:List (ByteArray × Int)):Ex→Int × Int
 | .mk op _ _ m s l=>infNode op m (inferN env s) (infersF env l)
def infersF(env:List (ByteArray × Int)):List Ex→List Int × Int
 | []=>([],0)
 |e::r=>if(inferF env e).2≠0 then([],(inferF env e).2)else if(infersF env r).2≠0 then([],(infersF env r).2)else((inferF env e).1::(infersF env r).1,0)
end

def numR(m:Int)(r:Int × Int × Int):Val × Int:=if r.2.2=0 then(.num m r.1 r.2.1,0)else(.zero,r.2.2)
def cmpB(op c:Int):Bool:=if op=11 then decide (c<0)else if op=12 then decide (c≤0)else if op=13 then decide (c=0)else if op=14 then decide (c≠0)else if op=15 then decide (c > 0)else decide (c≥0)
def op1(op:Int)(a:Val):Val × Int:=if op=5 then(.truth (!a.yes),0)else if op=6 then numR a.dim ((floorF a.n a.d).1,1,(floorF a.n a.d).2)else numR a.dim (negF a.n a.d)
def op2(op:Int)(a b:Val):Val × Int:=
 if op=7 then numR a.dim (addF a.n a.d b.n b.d)else if op=8 then numR a.dim (subF a.n a.d b.n b.d)
 else if op=9 then numR (resD 9 [a.dim,b.dim]) (mulF a.n a.d b.n b.d)else if op=10 then numR (resD 10 [a.dim,b.dim]) (divF a.n a.d b.n b.d)
 else if op=19 then(if cmpI a.n a.d b.n b.d≤0 then .num a.dim a.n a.d else .num a.dim b.n b.d,0)
 else if op=20 then(if 0≤cmpI a.n a.d b.n b.d then .num a.dim a.n a.d else .num a.dim b.n b.d,0)
 else(.truth (cmpB op (cmpI a.n a.d b.n b.d)),0)
def nameF(v:Vw)(env:List (ByteArray × Val))(s:ByteArray):Val × Int:=
 match inputV v s with
 |some x=>(x,0)
 |none=>match lastN env s with|some x=>(x,0)|none=>(.zero,5)
def valNode(v:Vw)(op n d m:Int)(nm:Val × Int)(rs:List (Val × Int)):Val × Int:=
 let r0:=rs.getD 0 (.zero,0);let r1:=rs.getD 1 (.zero,0);let r2:=rs.getD 2 (.zero,0)
 if op=1 then(.num m n d,0)else if op=2 then nm else if op=3 then numR 4 (bestF v.years n)
 else if r0.2≠0 then(.zero,r0.2)
 else if op=17 then(if r0.1.yes=true then r1 else r0)else if op=18 then(if r0.1.yes=true then r0 else r1)
 else if op=21 then(if r0.1.yes=true then r1 else r2)
 else if op≤6 then op1 op r0.1
 else if r1.2≠0 then(.zero,r1.2)else op2 op r0.1 r1.1
mutual
def valueF(v:Vw)(env:List (ByteArray × Val)):Ex→Val × Int
 | .mk op n d m s l=>valNode v op n d m (nameF v env s) (valuesF v env l)
def valuesF(v:Vw)(env:List (ByteArray × Val)):List Ex→List (Val × Int)
 | []=>[]
 |e::r=>valueF v env e::valuesF v env r
end
theorem inferF_eq(env:List (ByteArray × Int))(e:Ex):inferF env e=infNode e.op e.dim (inferN env e.name) (infersF env e.args):=by cases e;rw [inferF];rfl
theorem valueF_eq(v:Vw)(env:List (ByteArray × Val))(e:Ex):valueF v env e=valNode v e.op e.num e.den e.dim (nameF v env e.name) (valuesF v env e.args):=by cases e;rw [valueF];rfl
def dimsOf(env:List (ByteArray × Val)):List (ByteArray × Int):=env.map fun p=>(p.1,p.2.dim)

theorem Val.num_ok{m n d:Int}(hm:2≤m∧m≤4)(h:vfrac n d=true):(Val.num m n d).ok=true:=by
 unfold Val.ok Val.num
 rw [if_neg (show ¬m=1 by omega)]
 show(decide (2≤m∧m≤4)&&!false&&vfrac n d)=true
 rw [h,decide_eq_true hm];rfl
def okR(m:Int)(r:Val × Int):Prop:=(r.2=0∧r.1.ok=true∧r.1.dim=m)∨(r.1= .zero∧(r.2=2∨r.2=3))
theorem okR_num{m:Int}{r:Int × Int × Int}(hm:2≤m∧m≤4)(h:okF r):okR m (numR m r):=by
 unfold numR
 rcases h with ⟨h1,h2⟩|⟨-,-,h3⟩
 ·rw [if_pos h1]
  refine .inl ⟨rfl, ?_,rfl⟩
  exact Val.num_ok hm h2
 ·rw [if_neg (by omega)]
  exact .inr ⟨rfl,h3⟩
theorem okR_truth(b:Bool):okR 1 (.truth b,0):=.inl ⟨rfl,by simp [Val.ok,Val.truth],rfl⟩
theorem Val.ok_num{x:Val}(h:x.ok=true)(hd:x.dim≠1):2≤x.dim∧x.dim≤4∧x.yes=false∧vfrac x.n x.d=true:=by
 unfold Val.ok at h
 rw [if_neg hd]at h
 simp only [Bool.and_eq_true,decide_eq_true_eq,Bool.not_eq_true']at h
 exact⟨h.1.1.1,h.1.1.2,h.1.2,h.2⟩
theorem Val.ok_dim{x:Val}(h:x.ok=true):1≤x.dim∧x.dim≤4:=by
 by_cases hd:x.dim=1
 ·omega
 ·have:=Val.ok_num h hd;omega
theorem vfrac_whole{n:Int}(h1:-1000000000000000≤n)(h2:n≤1000000000000000):vfrac n 1=true:=vfrac_of ⟨by omega,by omega,h1,h2⟩ (by simp)
theorem floor_bd{n d:Int}(h:vfrac n d=true):-1000000000000000≤n / d∧n / d≤1000000000000000:=by
 have:=vfrac_bd h
 constructor
 ·rw [Int.le_ediv_iff_mul_le (by omega)]
  omega
 ·have h3:n / d<1000000000000001:=Int.ediv_lt_of_lt_mul (by omega) (by omega)
  omega
theorem negF_ok{n d:Int}(h:vfrac n d=true):okF (negF n d):=by
 unfold negF;rw [if_pos h];exact .inl ⟨rfl,by rw [vfrac_neg];exact h⟩
theorem floor_ok{n d:Int}(h:vfrac n d=true):okF ((floorF n d).1,1,(floorF n d).2):=by
 unfold floorF;rw [if_pos h];have:=floor_bd h;exact .inl ⟨rfl,vfrac_whole this.1 this.2⟩
theorem op1_ok{op:Int}{x:Val}(h:x.ok=true)(h4:4≤op)(h6:op≤6)(hr:resD op [x.dim]≠0):okR (resD op [x.dim]) (op1 op x):=by
 obtain rfl|rfl|rfl:op=4∨op=5∨op=6:=by omega
 all_goals simp only [resD,List.getD_cons_zero,op1]at hr ⊢
 ·simp at hr ⊢
  have:=Val.ok_num h hr.1
  rw [if_neg hr.1]
  exact okR_num ⟨this.1,this.2.1⟩ (negF_ok this.2.2.2)
 ·simp at hr ⊢
  rw [if_pos hr];exact okR_truth _
 ·simp at hr ⊢
  have:=Val.ok_num h hr.1
  rw [if_neg hr.1]
  exact okR_num ⟨this.1,this.2.1⟩ (floor_ok this.2.2.2)
theorem okR_of{x:Val}(h:x.ok=true):okR x.dim (x,0):=.inl ⟨rfl,h,rfl⟩
theorem num_self{x:Val}(h:x.yes=false):Val.num x.dim x.n x.d=x:=by cases x;simp_all [Val.num]
theorem res_mul(a b:Int):resD 9 [a,b]=if a=2∧b≠1 then b else if b=2∧a≠1 then a else 0:=rfl
theorem res_div(a b:Int):resD 10 [a,b]=if b=2∧a≠1 then a else if a=b∧a≠1 then 2 else 0:=rfl
theorem res_add{op:Int}(a b:Int)(h:op=7∨op=8∨op=19∨op=20):resD op [a,b]=if a=b∧a≠1 then a else 0:=by
 rcases h with rfl|rfl|rfl|rfl<;>rfl
theorem res_cmp{op:Int}(a b:Int)(h:11≤op∧op≤16):resD op [a,b]=if a=b∧a≠1 then 1 else 0:=by
 obtain rfl|rfl|rfl|rfl|rfl|rfl:op=11∨op=12∨op=13∨op=14∨op=15∨op=16:=by omega
 all_goals rfl
theorem op2_ok{op:Int}{x y:Val}(h:x.ok=true)(g:y.ok=true)(h4:7≤op)(h6:op≤20)(h17:op≠17)(h18:op≠18)(hr:resD op [x.dim,y.dim]≠0):okR (resD op [x.dim,y.dim]) (op2 op x y):=by
 by_cases c:op=9
 ·subst c
  show okR _ (numR (resD 9 [x.dim,y.dim]) (mulF x.n x.d y.n y.d))
  have hx:x.dim≠1∧y.dim≠1∧(resD 9 [x.dim,y.dim]=x.dim∨resD 9 [x.dim,y.dim]=y.dim):=by
   rw [res_mul]at hr ⊢
   exact bz37
  have h1:=Val.ok_num h hx.1
  have h2:=Val.ok_num g hx.2.1
  exact okR_num (by omega) (mulF_ok h1.2.2.2 h2.2.2.2)
 ·by_cases c':op=10
  ·subst c'
   show okR _ (numR (resD 10 [x.dim,y.dim]) (divF x.n x.d y.n y.d))
   have hx:x.dim≠1∧y.dim≠1∧(resD 10 [x.dim,y.dim]=x.dim∨resD 10 [x.dim,y.dim]=2):=by
    rw [res_div]at hr ⊢
    exact bz37
   have h1:=Val.ok_num h hx.1
   have h2:=Val.ok_num g hx.2.1
   exact okR_num (by omega) (divF_ok h1.2.2.2 h2.2.2.2)
  ·have hx:x.dim=y.dim∧x.dim≠1:=by
    by_cases c3:11≤op∧op≤16
    ·rw [res_cmp _ _ c3]at hr
     split at hr<;>rename_i c1
     ·exact c1
     ·exact absurd rfl hr
    ·rw [res_add _ _ (by omega)]at hr
     split at hr<;>rename_i c1
     ·exact c1
     ·exact absurd rfl hr
   have h1:=Val.ok_num h hx.2
   have h2:=Val.ok_num g (by omega)
   by_cases c3:11≤op∧op≤16
   ·rw [res_cmp _ _ c3,if_pos hx]
    unfold op2
    rw [if_neg (by omega),if_neg (by omega),if_neg (by omega),if_neg (by omega),if_neg (by omega),if_neg (by omega)]
    exact okR_truth _
   ·rw [res_add _ _ (by omega),if_pos hx]
    obtain rfl|rfl|rfl|rfl:op=7∨op=8∨op=19∨op=20:=by omega
    ·exact okR_num (by omega) (addF_ok h1.2.2.2 h2.2.2.2)
    ·exact okR_num (by omega) (subF_ok h1.2.2.2 h2.2.2.2)
    ·show okR _ (if cmpI x.n x.d y.n y.d≤0 then .num x.dim x.n x.d else .num x.dim y.n y.d,0)
     exact bz45
    ·show okR _ (if 0≤cmpI x.n x.d y.n y.d then .num x.dim x.n x.d else .num x.dim y.n y.d,0)
     exact bz45
theorem okR.bad{m:Int}{r:Val × Int}(h:okR m r)(hr:r.2≠0):r.1= .zero∧(r.2=2∨r.2=3):=by
 rcases h with h|h
 ·exact absurd h.1 hr
 ·exact h
theorem okR.good{m:Int}{r:Val × Int}(h:okR m r)(hr:r.2=0):r.1.ok=true∧r.1.dim=m:=by
 rcases h with h|h
 ·exact h.2
 ·omega
theorem node_ok(v:Vw){op n d m:Int}{nm:Val × Int}{ds:List Int}{rs:List (Val × Int)}(h4:4≤op)(h21:op≤21)(hl:(ds.length:Int)=argsN op)
 (hr:∀i,i<ds.length→okR (ds.getD i 0) (rs.getD i (.zero,0))) (hres:resD op ds≠0):okR (resD op ds) (valNode v op n d m nm rs):=by
 have hn:0<ds.length:=by unfold argsN at hl;(repeat' split at hl)<;>omega
 have r0:=hr 0 hn
 unfold valNode
 rw [if_neg (by omega),if_neg (by omega),if_neg (by omega)]
 by_cases e0:(rs.getD 0 (Val.zero,0)).2≠0
 ·rw [if_pos e0]
  exact .inr ⟨rfl,(r0.bad e0).2⟩
 rw [if_neg e0]
 have g0:=r0.good (by omega)
 by_cases h6:op≤6
 ·have hl1:ds.length=1:=by unfold argsN at hl;rw [if_neg (by omega),if_pos (by omega)]at hl;omega
  obtain⟨a,rfl⟩:∃a,ds= [a]:=List.length_eq_one_iff.1 hl1
  rw [if_neg (by omega),if_neg (by omega),if_neg (by omega),if_pos h6]
  have ha:(rs.getD 0 (Val.zero,0)).1.dim=a:=g0.2
  rw [←ha]at hres ⊢
  exact op1_ok g0.1 h4 h6 hres
 by_cases h20:op≤20
 ·have hl1:ds.length=2:=by unfold argsN at hl;rw [if_neg (by omega),if_neg (by omega),if_pos (by omega)]at hl;omega
  obtain⟨a,b,rfl⟩:∃a b,ds= [a,b]:=by
   match ds,hl1 with
   | [a,b],_=>exact⟨a,b,rfl⟩
  have r1:=hr 1 (by simp)
  have ha:(rs.getD 0 (Val.zero,0)).1.dim=a:=g0.2
  have hb:okR b (rs.getD 1 (Val.zero,0)):=r1
  by_cases h17:op=17
  ·subst h17
   have hab:a=1∧b=1:=by
    have e:resD 17 [a,b]=if a=1∧b=1 then 1 else 0:=rfl
    rw [e]at hres
    split at hres<;>rename_i c1
    ·exact c1
    ·exact absurd rfl hres
   obtain⟨rfl,rfl⟩:=hab
   rw [if_pos rfl]
   split
   ·exact hb
   ·exact r0
  by_cases h18:op=18
  ·subst h18
   have hab:a=1∧b=1:=by
    have e:resD 18 [a,b]=if a=1∧b=1 then 1 else 0:=rfl
    rw [e]at hres
    split at hres<;>rename_i c1
    ·exact c1
    ·exact absurd rfl hres
   obtain⟨rfl,rfl⟩:=hab
   rw [if_neg (by omega),if_pos rfl]
   split
   ·exact r0
   ·exact hb
  rw [if_neg h17,if_neg h18,if_neg (by omega),if_neg h6]
  by_cases e1:(rs.getD 1 (Val.zero,0)).2≠0
  ·rw [if_pos e1]
   exact .inr ⟨rfl,(hb.bad e1).2⟩
  rw [if_neg e1]
  have g1:=hb.good (by omega)
  rw [←ha,←g1.2]at hres ⊢
  exact op2_ok g0.1 g1.1 (by omega) h20 h17 h18 hres
 ·obtain rfl:op=21:=by omega
  have hl1:ds.length=3:=by simp [argsN]at hl;omega
  obtain⟨a,b,c,rfl⟩:∃a b c,ds= [a,b,c]:=by
   match ds,hl1 with
   | [a,b,c],_=>exact⟨a,b,c,rfl⟩
  have hb:okR b (rs.getD 1 (Val.zero,0)):=hr 1 (by simp)
  have hc:okR c (rs.getD 2 (Val.zero,0)):=hr 2 (by simp)
  have e:resD 21 [a,b,c]=if a=1∧b=c then b else 0:=rfl
  rw [e]at hres ⊢
  split at hres<;>rename_i c1
  ·obtain⟨rfl,rfl⟩:=c1
   rw [if_pos (⟨rfl,rfl⟩:(1:Int)=1∧b=b),if_neg (by omega),if_neg (by omega),if_pos rfl]
   split
   ·exact hb
   ·exact hc
  ·exact absurd rfl hres
theorem Vw.ok_bd{v:Vw}(h:v.ok=true):(0≤v.age∧v.age≤199∧1900≤v.year∧v.year≤2099∧0≤v.children∧v.children≤99)∧
 (0≤v.insured∧v.insured≤73049∧0≤v.worked∧v.worked≤73049∧0≤v.voluntary∧v.voluntary≤73049∧0≤v.service∧v.service≤73049∧0≤v.equated∧v.equated≤73049∧0≤v.raising∧v.raising≤73049∧0≤v.resident∧v.resident≤73049)∧
 vfrac v.bn v.bd=true∧(0≤v.bn∧v.bn≤1000000000000*v.bd)∧yearsOk v.years=true:=by
 unfold Vw.ok at h
 obtain⟨h,e⟩:=Bool.and_eq_true_iff.1 h
 obtain⟨h,cd⟩:=Bool.and_eq_true_iff.1 h
 obtain⟨a,b⟩:=Bool.and_eq_true_iff.1 h
 obtain⟨c,d⟩:=Bool.and_eq_true_iff.1 cd
 have k:∀z,daysOk z=true→0≤z∧z≤73049:=fun z hz=>of_decide_eq_true hz
 repeat rw [Bool.and_eq_true]at b
 obtain⟨⟨⟨⟨⟨⟨b1,b2⟩,b3⟩,b4⟩,b5⟩,b6⟩,b7⟩:=b
 have b1:=k _ b1
 have b2:=k _ b2
 have b3:=k _ b3
 have b4:=k _ b4
 have b5:=k _ b5
 have b6:=k _ b6
 have b7:=k _ b7
 exact⟨of_decide_eq_true a,⟨b1.1,b1.2,b2.1,b2.2,b3.1,b3.2,b4.1,b4.2,b5.1,b5.2,b6.1,b6.2,b7.1,b7.2⟩,c,of_decide_eq_true d,e⟩
theorem ite_ok{c:Prop}[Decidable c]{a b:Int × Int}(ha:vfrac a.1 a.2=true)(hb:vfrac b.1 b.2=true):vfrac (if c then a else b).1 (if c then a else b).2=true:=by
 by_cases h:c
 ·rw [if_pos h];exact ha
 ·rw [if_neg h];exact hb
theorem Vw.numF_ok{v:Vw}(h:v.ok=true)(s:List UInt8):vfrac (v.numF s).1 (v.numF s).2=true:=by
 obtain⟨a,b,c,-,-⟩:=Vw.ok_bd h
 unfold Vw.numF
 refine ite_ok c ?_
 repeat refine ite_ok (vfrac_whole (by show _≤(_:Int);omega) (by show(_:Int)≤_;omega)) ?_
 exact vfrac_whole (by omega) (by omega)
theorem inpD_bd(s:List UInt8):inpD s=0∨(2≤inpD s∧inpD s≤4):=by
 unfold inpD
 (repeat' split)<;>simp
theorem inputV_some{v:Vw}{s:ByteArray}{x:Val}(h:inputV v s=some x):x.ok=true∧x.dim=inpD s.toList∧inpD s.toList≠0:=by
 unfold inputV at h
 split at h<;>rename_i hc
 ·cases h
 ·simp only [not_or,Bool.not_eq_false]at hc
  cases h
  have:=inpD_bd s.toList
  exact⟨Val.num_ok (by omega) (Vw.numF_ok hc.2 _),rfl,hc.1⟩
theorem inputV_none{v:Vw}(hv:v.ok=true){s:ByteArray}(h:inputV v s=none):inpD s.toList=0:=by
 unfold inputV at h
 split at h<;>rename_i hc
 ·rcases hc with hc|hc
  ·exact hc
  ·rw [hv]at hc;cases hc
 ·cases h
theorem lastN_dims(env:List (ByteArray × Val))(s:ByteArray):lastN (dimsOf env) s=(lastN env s).map Val.dim:=by
 unfold lastN dimsOf
 rw [←List.map_reverse,List.find?_map]
 simp only [Option.map_map]
 rfl
theorem lastN_mem{env:List (ByteArray × Val)}{s:ByteArray}{x:Val}(h:lastN env s=some x):∃p∈env,p.2=x:=by
 exact bz40
theorem name_ok{v:Vw}(hv:v.ok=true){env:List (ByteArray × Val)}(hE:∀p∈env,p.2.ok=true){s:ByteArray}(h:(inferN (dimsOf env) s).2=0):okR (inferN (dimsOf env) s).1 (nameF v env s):=by
 unfold inferN at h ⊢
 unfold nameF
 cases hi:inputV v s with
 |some x=>
  obtain⟨h1,h2,h3⟩:=inputV_some hi
  rw [if_pos h3]
  exact .inl ⟨rfl,h1,h2⟩
 |none=>
  have h0:=inputV_none hv hi
  rw [if_neg (by simpa using h0),lastN_dims]at h ⊢
  cases hx:lastN env s with
  |some x=>
   obtain⟨p,hp,rfl⟩:=lastN_mem hx
   exact .inl ⟨rfl,hE p hp,rfl⟩
  |none=>rw [hx]at h;simp at h
theorem mk_ok{n d:Int}(h:d≠0):okF (mkN n d,mkD n d,mkE n d):=by
 unfold mkN mkD mkE
 rw [if_neg h,if_neg h,if_neg h]
 rcases lowE_cases n.natAbs d.natAbs with e|e
 ·exact .inl ⟨e,low_ok _ (by omega) e⟩
 ·have h3:=low_bad (decide (n<0)!=decide (d<0)) (show lowE n.natAbs d.natAbs≠0 by omega)
  exact .inr ⟨h3.1,h3.2,.inl e⟩
theorem best_ok{l:List Int}{n:Int}(h1:1≤n)(h2:n≤45)(h:yearsOk l=true):okF (bestF l n):=by
 unfold bestF
 rw [if_neg (by simp [h];omega)]
 exact mk_ok (by omega)
theorem decOk_bd{n d m:Int}(h:decOk n d m=true):vfrac n d=true∧2≤m∧m≤4:=by
 simp only [decOk,Bool.and_eq_true,decide_eq_true_eq]at h
 exact⟨h.1.1.1.1.1,h.1.1.2,h.1.2⟩
theorem infers_len(env:List (ByteArray × Int))(l:List Ex)(h:(infersF env l).2=0):(infersF env l).1.length=l.length:=by
 induction l with
 |nil=>simp [infersF]
 |cons e r ih=>
  rw [infersF]at h ⊢
  split at h<;>rename_i c1
  ·exact absurd h c1
  ·split at h<;>rename_i c2
   ·exact absurd h c2
   ·rw [if_neg c1,if_neg c2]
    simp [ih (by omega)]
mutual
theorem value_ok{v:Vw}(hv:v.ok=true){env:List (ByteArray × Val)}(hE:∀p∈env,p.2.ok=true):∀e:Ex,formedB e=true→(inferF (dimsOf env) e).2=0→okR (inferF (dimsOf env) e).1 (valueF v env e)
 | .mk op n d m s l=>by
   intro hf hi
   rw [formedB,Bool.and_eq_true,decide_eq_true_eq]at hf
   rw [inferF]at hi ⊢
   rw [valueF]
   obtain⟨ha,hf⟩:=hf
   unfold infNode at hi ⊢
   by_cases c1:op=1
   ·subst c1
    rw [if_pos rfl]at hf
    simp only [Bool.and_eq_true]at hf
    have:=decOk_bd hf.1
    exact .inl ⟨rfl,Val.num_ok this.2 this.1,rfl⟩
   rw [if_neg c1]at hi hf ⊢
   by_cases c2:op=2
   ·subst c2
    exact name_ok hv hE hi
   rw [if_neg c2]at hf
   by_cases c3:op=3
   ·subst c3
    rw [if_pos rfl]at hf
    simp only [Bool.and_eq_true,decide_eq_true_eq]at hf
    show okR 4 (numR 4 (bestF v.years n))
    exact okR_num (by omega) (best_ok hf.1.2 hf.2 (Vw.ok_bd hv).2.2.2.2)
   rw [if_neg c3]at hf
   rw [if_neg c3,if_neg c2]at hi ⊢
   simp only [Bool.and_eq_true]at hf
   split at hi<;>rename_i c4
   ·exact absurd hi c4
   rw [if_neg c4]
   split at hi<;>rename_i c5
   ·simp at hi
   rw [if_neg c5]
   have hlen:=infers_len (dimsOf env) l (by omega)
   have hop:4≤op∧op≤21:=by unfold argsN at ha;(repeat' split at ha)<;>omega
   exact node_ok v hop.1 hop.2 (by rw [hlen];exact ha) (fun i hi=>values_ok hv hE l hf.1 (by omega) i (by omega)) c5
theorem values_ok{v:Vw}(hv:v.ok=true){env:List (ByteArray × Val)}(hE:∀p∈env,p.2.ok=true):∀l:List Ex,formedsB l=true→(infersF (dimsOf env) l).2=0→
 ∀i,i<l.length→okR ((infersF (dimsOf env) l).1.getD i 0) ((valuesF v env l).getD i (.zero,0))
 | []=>by intro _ _ i hi;simp at hi
 |e::r=>by
  intro hf h i hi
  rw [formedsB,Bool.and_eq_true]at hf
  rw [infersF]at h ⊢
  rw [valuesF]
  split at h<;>rename_i c1
  ·exact absurd h c1
  split at h<;>rename_i c2
  ·exact absurd h c2
  rw [if_neg c1,if_neg c2]
  cases i with
  |zero=>exact value_ok hv hE e hf.1 (by omega)
  |succ i=>exact values_ok hv hE r hf.2 (by omega) i (by simpa using hi)
end
end Go.Proofs.YtaghhncnicbedaaGreatDoor
namespace Go.Proofs.YtaghhncnicbedaaGreatDoor
def dimsOk(env:List (ByteArray × Int)):Bool:=env.all fun p=>decide (1≤p.2∧p.2≤4)
def inferE(env:List (ByteArray × Int))(e:Ex):Int × Int:=if validB e=true∧dimsOk env=true then inferF env e else(0,1)
mutual
def mentB(s:ByteArray):Ex→Bool
 | .mk op _ _ _ nm l=>(decide (op=2)&&decide (nm=s)) || mentsB s l
def mentsB(s:ByteArray):List Ex→Bool
 | []=>false
 |e::r=>mentB s e || mentsB s r
end
theorem mentB_eq(s:ByteArray)(e:Ex):mentB s e=((decide (e.op=2)&&decide (e.name=s)) || mentsB s e.args):=by cases e;rw [mentB];rfl
theorem mentsB_take(s:ByteArray)(l:List Ex)(k:Nat)(h:k<l.length):mentsB s (l.take (k+1))=(mentsB s (l.take k) || mentB s (l.getD k default)):=by
 induction l generalizing k with
 |nil=>simp at h
 |cons e r ih=>
  cases k with
  |zero=>simp [mentsB]
  |succ k=>simp only [List.take_succ_cons,mentsB,List.getD_cons_succ];rw [ih k (by simpa using h),Bool.or_assoc]
theorem mentsB_yes(s:ByteArray)(l:List Ex)(k:Nat)(h:k<l.length)(hf:mentB s (l.getD k default)=true):mentsB s l=true:=by
 induction l generalizing k with
 |nil=>simp at h
 |cons e r ih=>
  cases k with
  |zero=>simp only [List.getD_cons_zero]at hf;simp [mentsB,hf]
  |succ k=>simp only [List.getD_cons_succ]at hf;simp [mentsB,ih k (by simpa using h) hf]
def needB(e:Ex)(ls:List (ByteArray × Ex))(i:Nat)(u:List Nat):Bool:=
 mentB (ls.getD i default).1 e || u.any fun k=>mentB (ls.getD i default).1 (ls.getD k default).2
def usesG(e:Ex)(ls:List (ByteArray × Ex)):Nat→List Nat
 |0=>[]
 |f+1=>if needB e ls (ls.length-(f+1)) (usesG e ls f)then(ls.length-(f+1))::usesG e ls f else usesG e ls f
def usesL(e:Ex)(ls:List (ByteArray × Ex)):List Nat:=usesG e ls ls.length
theorem usesG_mem{e:Ex}{ls:List (ByteArray × Ex)}:∀(f:Nat),f≤ls.length→∀i∈usesG e ls f,ls.length-f≤i∧i<ls.length
 |0,_,i,h=>by simp [usesG]at h
 |f+1,hf,i,h=>by
  rw [usesG]at h
  split at h
  ·rcases List.mem_cons.1 h with rfl|h
   ·omega
   ·have:=usesG_mem f (by omega) i h;omega
  ·have:=usesG_mem f (by omega) i h;omega
theorem usesG_asc{e:Ex}{ls:List (ByteArray × Ex)}:∀(f:Nat),f≤ls.length→(usesG e ls f).Pairwise (· < ·)
 |0,_=>by simp [usesG]
 |f+1,hf=>by
  rw [usesG]
  split
  ·exact List.pairwise_cons.2 ⟨fun i hi=>by have:=usesG_mem f (by omega) i hi;omega,usesG_asc f (by omega)⟩
  ·exact usesG_asc f (by omega)
theorem usesG_length{e:Ex}{ls:List (ByteArray × Ex)}:∀(f:Nat),(usesG e ls f).length≤f
 |0=>by simp [usesG]
 |f+1=>by
  rw [usesG]
  have:=usesG_length (e:=e) (ls:=ls) f
  split<;>simp<;>omega
theorem needB_any(e:Ex)(ls:List (ByteArray × Ex))(i:Nat)(u:List Nat):needB e ls i u=(mentB (ls.getD i default).1 e || u.any fun k=>mentB (ls.getD i default).1 (ls.getD k default).2):=rfl
theorem usesG_contains{e:Ex}{ls:List (ByteArray × Ex)}(f:Nat)(hf:f+1≤ls.length):(usesG e ls (f+1)).contains (ls.length-(f+1))=needB e ls (ls.length-(f+1)) (usesG e ls f):=by
 rw [usesG]
 split<;>rename_i h
 ·simp [h]
 ·rw [Bool.eq_false_iff.2 h]
  rw [Bool.eq_false_iff]
  intro hc
  have:=usesG_mem f (by omega) _ (List.contains_iff_mem.1 hc)
  omega
theorem usesG_sub{e:Ex}{ls:List (ByteArray × Ex)}{i:Nat}:∀(f g:Nat),f+g≤ls.length→ls.length-f≤i→i<ls.length→(i∈usesG e ls (f+g)↔i∈usesG e ls f)
 |f,0,_,_,_=>Iff.rfl
 |f,g+1,h,h1,h2=>by
  have ih:=usesG_sub (e:=e) f g (by omega) h1 h2
  show i∈usesG e ls (f+g+1)↔_
  rw [usesG]
  split
  ·rw [List.mem_cons,ih]
   constructor
   ·rintro(h3|h3)
    ·omega
    ·exact h3
   ·exact .inr
  ·exact ih
theorem infNode_name{op m:Int}{a b:Int × Int}{r:List Int × Int}(h:op≠2):infNode op m a r=infNode op m b r:=by
 unfold infNode
 by_cases c:op=1
 ·rw [if_pos c,if_pos c]
 ·rw [if_neg c,if_neg c]
  by_cases c3:op=3
  ·rw [if_pos c3,if_pos c3]
  ·rw [if_neg c3,if_neg c3,if_neg h,if_neg h]
def exprF'(v:Vw)(env:List (ByteArray × Val))(e:Ex):Val × Int:=
 if v.ok=false∨(env.any fun p=>!p.2.ok)=true∨validB e=false then(.zero,1)
 else if(inferF (dimsOf env) e).2≠0 then(.zero,(inferF (dimsOf env) e).2)
 else if(valueF v env e).2≠0 then(.zero,(valueF v env e).2)else valueF v env e
theorem expr_typed{v:Vw}{env:List (ByteArray × Val)}{e:Ex}(hv:v.ok=true)(hE:∀p∈env,p.2.ok=true)(he:validB e=true)(hi:(inferF (dimsOf env) e).2=0) :
 exprF' v env e=valueF v env e∧okR (inferF (dimsOf env) e).1 (valueF v env e):=by
 have hf:formedB e=true:=by
  unfold validB at he;simp only [Bool.and_eq_true]at he;exact he.2
 have h:=value_ok hv hE e hf hi
 refine⟨?_,h⟩
 unfold exprF'
 rw [if_neg (by
  rintro(h1|h1|h1)
  ·rw [hv]at h1;cases h1
  ·obtain⟨p,hp,h2⟩:=List.any_eq_true.1 h1
   rw [hE p hp]at h2;cases h2
  ·rw [he]at h1;cases h1),if_neg (by omega)]
 split<;>rename_i hc
 ·have:=h.bad hc
  rw [←this.1]
 ·rfl
def noN:ByteArray:=⟨#[]⟩
def oneE:Ex:=.mk 1 1 1 2 noN []
def zeroE:Ex:=.mk 1 0 1 2 noN []
def burstE:Ex:=.mk 11 0 0 0 noN [.mk 10 0 0 0 noN [oneE,zeroE],oneE]
theorem burst_formed:formedB burstE=true:=by decide+kernel
theorem burst_size:burstE.size=5∧burstE.depth=3:=by decide+kernel
theorem burst_infer:inferF [] burstE=(1,0):=by decide+kernel
theorem burst_value(v:Vw):valueF v [] burstE=(.zero,3):=by
 have a:vfrac 1 1=true:=by decide+kernel
 have b:vfrac 0 1=true:=by decide+kernel
 unfold burstE oneE zeroE
 simp [valueF,valuesF,valNode,op2,divF,numR,Val.num,a,b]
theorem infers_two{env:List (ByteArray × Int)}{a b:Ex}{m k:Int}(ha:inferF env a=(m,0))(hb:inferF env b=(k,0)):infersF env [a,b]=([m,k],0):=by
 simp [infersF,ha,hb]
theorem infers_three{env:List (ByteArray × Int)}{a b c:Ex}{m k j:Int}(ha:inferF env a=(m,0))(hb:inferF env b=(k,0))(hc:inferF env c=(j,0)):infersF env [a,b,c]=([m,k,j],0):=by
 simp [infersF,ha,hb,hc]
def andX(c:Ex):Ex:=.mk 17 0 0 0 noN [c,burstE]
def orX(c:Ex):Ex:=.mk 18 0 0 0 noN [c,burstE]
def ifX(c:Ex):Ex:=.mk 21 0 0 0 noN [c,burstE,c]
theorem lazy_valid{c:Ex}(hf:formedB c=true)(hd:c.depth<8)(hs:c.size≤25):validB (andX c)=true∧validB (orX c)=true∧validB (ifX c)=true:=by
 have h1:=burst_size
 have h2:=burst_formed
 have hd2:(andX c).depth≤10∧(orX c).depth≤10∧(ifX c).depth≤10:=by
  simp only [andX,orX,ifX,Ex.depth,Ex.depths];omega
 have hs2:(andX c).size≤60∧(orX c).size≤60∧(ifX c).size≤60:=by
  simp only [andX,orX,ifX,Ex.size,Ex.sizes];omega
 have hf2:formedB (andX c)=true∧formedB (orX c)=true∧formedB (ifX c)=true:=by
  have e:noN.toList.isEmpty=true:=by decide+kernel
  simp [andX,orX,ifX,formedB,formedsB,hf,h2,e,argsN]
 unfold validB
 simp [hd2,hs2,hf2]
theorem lazy_infer{c:Ex}(hc:inferF [] c=(1,0)):inferF [] (andX c)=(1,0)∧inferF [] (orX c)=(1,0)∧inferF [] (ifX c)=(1,0):=by
 unfold andX orX ifX
 rw [inferF,inferF,inferF,infers_two hc burst_infer,infers_three hc burst_infer hc]
 exact⟨rfl,rfl,rfl⟩
theorem lazy_value{v:Vw}{c:Ex}:valueF v [] (andX c)=(if(valueF v [] c).2≠0 then(.zero,(valueF v [] c).2)else if(valueF v [] c).1.yes=true then(.zero,3)else valueF v [] c)∧
 valueF v [] (orX c)=(if(valueF v [] c).2≠0 then(.zero,(valueF v [] c).2)else if(valueF v [] c).1.yes=true then valueF v [] c else(.zero,3))∧
 valueF v [] (ifX c)=(if(valueF v [] c).2≠0 then(.zero,(valueF v [] c).2)else if(valueF v [] c).1.yes=true then(.zero,3)else valueF v [] c):=by
 have hb:=burst_value v
 unfold andX orX ifX
 rw [valueF,valueF,valueF]
 simp only [valuesF,hb]
 exact⟨rfl,rfl,rfl⟩
end Go.Proofs.YtaghhncnicbedaaGreatDoor
namespace Go.Proofs.YtaghhncnicbedaaGreatDoor
open Go.RowKit
def YrAt(w:World)(v:Value)(l:List Int):Prop:=
 l.length≤1000∧∃a cap,v= .slice a l.length cap∧(l.length=0∨∃b off,a=some ⟨b,off,none⟩∧b<w.heap.size∧∀i,i<l.length→w.cell? ⟨b,off+i,none⟩=some (.int .i64 (l.getD i 0)))
theorem YrAt.below{w w':World}{v:Value}{l:List Int}{n:Nat}(h:YrAt w v l)(hn:w.heap.size≤n)(hb:Below n w w'):YrAt w' v l:=by
 obtain⟨h0,a,cap,hv,h1⟩:=h
 refine⟨h0,a,cap,hv,h1.imp id ?_⟩
 rintro⟨b,off,ha,hlt,hc⟩
 refine⟨b,off,ha,Nat.lt_of_lt_of_le hlt hb.size,fun i hi=>?_⟩
 rw [hb.cell (p:=⟨b,off+i,none⟩) (Nat.lt_of_lt_of_le hlt hn)]
 exact hc i hi
theorem YrAt.grows{w w':World}{v:Value}{l:List Int}(h:YrAt w v l)(hg:w.Grows w'):YrAt w' v l:=h.below (Nat.le_refl _) hg.below
theorem YrAt.grow{w:World}{v:Value}{l:List Int}(h:YrAt w v l)(bs:Array Obj)(d:Nat):YrAt (w.grow bs d) v l:=h.grows ⟨bs,d,rfl⟩
theorem YrAt.alloc{w:World}{v:Value}{l:List Int}(h:YrAt w v l)(o:Obj):YrAt (w.alloc o) v l:=h.below (Nat.le_refl _) ((Below.refl _ _).alloc (Nat.le_refl _) _)
theorem years_any(l:List Int):(List.range l.length).any (fun k=>!decide (0≤l.getD k 0∧l.getD k 0≤1000000000000))=!l.all fun x=>decide (0≤x∧x≤1000000000000):=by
 induction l with
 |nil=>rfl
 |cons p r ih=>
  rw [List.length_cons,List.range_succ_eq_map,List.any_cons,List.any_map,List.all_cons,Bool.not_and,←ih]
  rfl
theorem years_bad{l:List Int}{k:Nat}(hk:k<l.length)(hb:¬(0≤l.getD k 0∧l.getD k 0≤1000000000000)):yearsOk l=false:=by
 unfold yearsOk
 have:(l.all fun x=>decide (0≤x∧x≤1000000000000))=false:=by
  have h:=years_any l
  rw [show(List.range l.length).any (fun k=>!decide (0≤l.getD k 0∧l.getD k 0≤1000000000000))=true from List.any_eq_true.2 ⟨k,List.mem_range.2 hk,by rw [decide_eq_false hb];rfl⟩]at h
  simpa using h.symm
 rw [this,Bool.and_false]
theorem years_good{l:List Int}(hn:l.length≤200)(hg:∀k,k<l.length→0≤l.getD k 0∧l.getD k 0≤1000000000000):yearsOk l=true:=by
 unfold yearsOk
 have h:=years_any l
 rw [show(List.range l.length).any (fun k=>!decide (0≤l.getD k 0∧l.getD k 0≤1000000000000))=false from List.any_eq_false.2 fun k hk=>by rw [decide_eq_true (hg k (List.mem_range.1 hk))];simp]at h
 rw [decide_eq_true hn,Bool.true_and]
 simpa using h.symm
def PredI(g:FuncId)(lb:Array Value)(l:List Int)(p:Nat→Bool)(w:World):Prop:=
 ∀k,k<l.length→∀w',w.Grows w'→Calls Tryz.prog g (#[.int .i64 (l.getD k 0)]++lb) w' fun r w''=>r= .returned (.bool (p k))∧w'.Grows w''
theorem idxI_any(g:FuncId)(lb:Array Value)(eg:∀args w,(callFunc g args).run Tryz.prog w= .ok (.enter g args) w)(l:List Int)(v:Value)(p:Nat→Bool)(w:World)(h:YrAt w v l)(hp:Hid (PredI g lb l p w)) :
 Calls Tryz.prog 187 #[v,.func (.func g) #[] lb] w fun r w'=>(∃z,r= .returned (.int .i64 z)∧IdxE l.length p z)∧w.Grows w':=by
 obtain⟨hlen,a,cap,rfl,hc⟩:=h
 have Hc:=Lib.hid hc
 clear hc
 go_enter Tryz.func187,Tryz.ntmps187
 go_wp2_with fail
 go_loopw [5,8] (fun _ v8 wr=>∃k:Nat,k≤l.length∧v8= .int .i64 k∧Hid (∀j,j<k→p j=false)∧w.Grows wr) (fun _ v8 _=>l.length-(intOf v8).toNat)
 case atStart=>exact⟨0,by omega,rfl,Lib.hid (fun j hj=>by omega),.refl _⟩
 case round=>
  obtain⟨k,hk,rfl,hno,hgr⟩:=hrel
  have HG:=Lib.hid hgr
  by_cases hlt2:k<l.length
  ·rcases Hc.out with h0|⟨b,off,rfl,hbw,hx⟩
   ·omega
   ·have y0:wr.cell? ⟨b,off+k,none⟩=some (.int .i64 (l.getD k 0)):=by rw [hgr.below.cell (p:=⟨b,off+k,none⟩) hbw];exact hx k hlt2
    clear hx
    have d1:(k:Int)<(l.length:Int):=by omega
    have hcall:=hp.out k hlt2 _ hgr
    generalize l.getD k 0=dk at *
    have HLT:=Lib.hid hlt2
    clear hgr
    cases hq:p k with
    |true=>
     rw [hq]at hcall
     have HQ:=Lib.hid hq
     clear hq
     have HCL:=Lib.hid hcall
     clear hcall
     go_wp2_with (go_at_fn g;refine HCL.out.mono ?_;rintro e' w' ⟨rfl,hg2⟩;have HG2:=Lib.hid hg2;clear hg2)
     go_returns
     exact⟨⟨_,rfl,.inr ⟨k,HLT.out,rfl,HQ.out⟩⟩,World.Grows.trans HG.out HG2.out⟩
    |false=>
     rw [hq]at hcall
     have HQ:=Lib.hid hq
     clear hq
     have HCL:=Lib.hid hcall
     clear hcall
     go_wp2_with (go_at_fn g;refine HCL.out.mono ?_;rintro e' w' ⟨rfl,hg2⟩;have HG2:=Lib.hid hg2;clear hg2)
     go_roundw
     case rel=>exact⟨k+1,by omega,by go_num,Lib.hid (fun j hj=>by
      by_cases ej:j=k
      ·subst ej;exact HQ.out
      ·exact hno.out j (by omega)),World.Grows.trans HG.out HG2.out⟩
     case measure=>simp [intOf];omega
  ·obtain rfl:k=l.length:=by omega
   clear hgr
   go_wp2_with fail
   go_returns
   exact⟨⟨_,rfl,.inl ⟨rfl,hno.out⟩⟩,HG.out⟩
theorem containsI_any(g:FuncId)(lb:Array Value)(eg:∀args w,(callFunc g args).run Tryz.prog w= .ok (.enter g args) w)(l:List Int)(v:Value)(p:Nat→Bool)(w:World)(h:YrAt w v l)(hp:Hid (PredI g lb l p w)) :
 Calls Tryz.prog 142 #[v,.func (.func g) #[] lb] w fun r w'=>r= .returned (.bool ((List.range l.length).any p))∧w.Grows w':=by
 have HI:=Lib.hid (idxI_any g lb eg l v p w h hp)
 obtain⟨-,a,cap,rfl,-⟩:=h
 clear hp
 generalize hX:(List.range l.length).any p=X
 have HX:=Lib.hid hX
 clear hX
 go_enter Tryz.func142,Tryz.ntmps142
 go_wp2_with (go_at_call 187;refine HI.out.mono ?_;rintro e' w' ⟨⟨z,rfl,hz⟩,bs2,d2,rfl⟩;have HZ:=Lib.hid hz.any;clear hz)
 go_returns
 exact⟨ret_bool (by rw [←HX.out,←HZ.out]),.of_below belB⟩
theorem badY_clos:∀args w,(callFunc 143 args).run Tryz.prog w= .ok (.enter 143 args) w:=enters_of Tryz.func143 (by kernel_rfl) rfl
theorem badY_one(d:Int)(w:World):Calls Tryz.prog 143 #[.int .i64 d] w fun r w'=>r= .returned (.bool (!decide (0≤d∧d≤1000000000000)))∧w.Grows w':=by
 by_cases h1:d<0
 ·go_enter Tryz.func143,Tryz.ntmps143
  exact bz18
 ·by_cases h2:d > 1000000000000
  ·go_enter Tryz.func143,Tryz.ntmps143
   exact bz18
  ·go_enter Tryz.func143,Tryz.ntmps143
   exact bz18
theorem validYears_any(l:List Int)(v:Value)(w:World)(h:YrAt w v l):Calls Tryz.prog 99 #[v] w fun r w'=>r= .returned (.bool (yearsOk l))∧w.Grows w':=by
 have HV:=Lib.hid h
 have HCB:Hid (∀w',w.Grows w'→Calls Tryz.prog 142 #[v,.func (.func 143) #[] #[]] w' fun r w''=>r= .returned (.bool (!l.all fun x=>decide (0≤x∧x≤1000000000000)))∧w'.Grows w''):=
  Lib.hid (fun w' hg=>by
   have:=containsI_any 143 #[] badY_clos l v (fun k=>!decide (0≤l.getD k 0∧l.getD k 0≤1000000000000)) w' (HV.out.grows hg) (Lib.hid (fun k hk w2 h2=>badY_one _ w2))
   rw [years_any]at this
   exact this)
 obtain⟨h1000,a,cap,rfl,-⟩:=h
 have HF:Hid (yearsOk l=(decide (l.length≤200)&&l.all fun x=>decide (0≤x∧x≤1000000000000))):=Lib.hid rfl
 generalize(l.all fun x=>decide (0≤x∧x≤1000000000000))=Q at HCB HF
 by_cases hn:(l.length:Int)≤200
 ·cases Q
  all_goals
   go_enter Tryz.func99,Tryz.ntmps99
   go_wp2_with (go_at_call 142;refine(HCB.out _ (.of_below belB)).mono ?_;rintro e' w' ⟨rfl,bs2,d2,rfl⟩)
   go_returns
   exact⟨ret_bool (by rw [HF.out];simp;try omega),.of_below belB⟩
 ·go_enter Tryz.func99,Tryz.ntmps99
  go_wp2_with fail
  go_returns
  exact⟨ret_bool (by rw [HF.out,decide_eq_false (by omega)];rfl),.of_below belB⟩
theorem amounts_any(l:List Int)(v:Value)(w:World)(h:YrAt w v l):Calls Tryz.prog 68 #[v] w fun r w'=>r= .returned (.bool (yearsOk l))∧w=w':=by
 obtain⟨h1000,a,cap,rfl,hc⟩:=h
 have Hc:=Lib.hid hc
 clear hc
 have HBAD:=Lib.hid (fun k hk hb=>years_bad (l:=l) (k:=k) hk hb)
 have HGOOD:=Lib.hid (fun hn hg=>years_good (l:=l) hn hg)
 by_cases hn:(l.length:Int)≤200
 ·go_enter Tryz.func68,Tryz.ntmps68
  go_wp2_with fail
  go_loopw [3] (fun v3 wr=>∃k:Nat,k≤l.length∧v3= .int .i64 k∧Hid (∀j,j<k→0≤l.getD j 0∧l.getD j 0≤1000000000000)∧w=wr) (fun v3 _=>l.length-(intOf v3).toNat)
  case atStart=>exact⟨0,by omega,rfl,Lib.hid (fun j hj=>by omega),rfl⟩
  case round=>
   obtain⟨k,hk,rfl,hno,rfl⟩:=hrel
   by_cases hlt:k<l.length
   ·rcases Hc.out with h0|⟨b,off,rfl,hbw,hx⟩
    ·omega
    have x0:=hx k hlt
    have d1:(k:Int)<(l.length:Int):=by omega
    have HKL:=Lib.hid hlt
    clear hx hlt
    obtain⟨dk,hdk⟩:∃dk,l.getD k 0=dk:=⟨_,rfl⟩
    rw [hdk]at x0
    have HDK:=Lib.hid hdk
    clear hdk
    by_cases h1:dk<0
    ·exact bz47
    ·by_cases h2:dk > 1000000000000
     ·exact bz47
     ·go_wp2_with fail
      go_roundw
      case rel=>exact⟨k+1,HKL.out,by go_num,Lib.hid (fun j hj=>by
       by_cases ej:j=k
       ·subst ej;rw [HDK.out];omega
       ·exact hno.out j (by omega)),(by first|rfl|trivial)⟩
      case measure=>simp [intOf];have:=HKL.out;omega
   ·obtain rfl:k=l.length:=by omega
    go_wp2_with fail
    go_returns
    exact⟨ret_bool (HGOOD.out (by omega) hno.out).symm,(by first|rfl|trivial)⟩
 ·go_enter Tryz.func68,Tryz.ntmps68
  go_wp2_with fail
  go_returns
  exact⟨ret_bool (by unfold yearsOk;rw [decide_eq_false (by omega)];rfl),(by first|rfl|trivial)⟩
end Go.Proofs.YtaghhncnicbedaaGreatDoor
namespace Go.Proofs.YtaghhncnicbedaaGreatDoor
def Desc(l:List Int):Prop:=l.Pairwise fun a b=>b≤a
theorem insD_perm(x:Int)(l:List Int):(insD x l).Perm (x::l):=by
 induction l with
 |nil=>exact List.Perm.refl _
 |cons y r ih=>
  unfold insD
  split
  ·exact(ih.cons y).trans (List.Perm.swap x y r)
  ·exact List.Perm.refl _
theorem insD_desc{x:Int}{l:List Int}(h:Desc l):Desc (insD x l):=by
 induction l with
 |nil=>simp [insD,Desc]
 |cons y r ih=>
  obtain⟨h1,h2⟩:=List.pairwise_cons.1 h
  unfold insD
  split<;>rename_i hc
  ·refine List.pairwise_cons.2 ⟨fun z hz=>?_,ih h2⟩
   rcases List.mem_cons.1 ((insD_perm x r).mem_iff.1 hz)with rfl|hz
   ·exact hc
   ·exact h1 z hz
  ·refine List.pairwise_cons.2 ⟨fun z hz=>?_,h⟩
   rcases List.mem_cons.1 hz with rfl|hz
   ·omega
   ·have:=h1 z hz;omega
theorem foldD(l:List Int):∀a:List Int,Desc a→Desc (l.foldl (fun a x=>insD x a) a)∧(l.foldl (fun a x=>insD x a) a).Perm (a++l):=by
 induction l with
 |nil=>intro a h;exact⟨h,by simp⟩
 |cons x r ih=>
  intro a h
  obtain⟨h1,h2⟩:=ih _ (insD_desc (x:=x) h)
  refine⟨h1,h2.trans ?_⟩
  exact((insD_perm x a).append_right r).trans List.perm_middle.symm
theorem sortD_desc(l:List Int):Desc (sortD l):=(foldD l [] List.Pairwise.nil).1
theorem sortD_perm(l:List Int):(sortD l).Perm l:=(foldD l [] List.Pairwise.nil).2
theorem desc_uniq{a b:List Int}(ha:Desc a)(hb:Desc b)(h:a.Perm b):a=b:=
 List.Perm.eq_of_pairwise (le:=fun x y:Int=>y≤x) (fun x y _ _ h1 h2=>by omega) ha hb h
theorem sum_app(a b:List Int):(a++b).sum=a.sum+b.sum:=by
 induction a with
 |nil=>simp
 |cons x r ih=>simp only [List.cons_append,List.sum_cons,ih];omega
theorem sum_rev(a:List Int):a.reverse.sum=a.sum:=by
 induction a with
 |nil=>rfl
 |cons x r ih=>simp only [List.reverse_cons,sum_app,ih,List.sum_cons,List.sum_nil];omega
theorem best_last{ss l:List Int}(hp:ss.Perm l)(hs:ss.Pairwise (·≤·))(n:Nat):(ss.drop (ss.length-n)).sum=((sortD l).take n).sum:=by
 have e:ss.reverse=sortD l:=desc_uniq (List.pairwise_reverse.2 hs) (sortD_desc l) ((List.reverse_perm ss).trans (hp.trans (sortD_perm l).symm))
 rw [←e,List.take_reverse,sum_rev]
theorem mk_value{n d:Int}(h1:0≤n)(h2:1≤d)(he:mkE n d=0):mkN n d*d=n*mkD n d:=by
 have hg:0<Nat.gcd n.natAbs d.natAbs:=Nat.gcd_pos_of_pos_right _ (by omega)
 unfold mkE at he
 unfold mkN mkD
 rw [if_neg (by omega)]at he ⊢
 rw [if_neg (by omega)]
 unfold lowE at he
 unfold lowN lowD
 split at he<;>rename_i hc
 ·simp at he
 rw [if_neg hc,if_neg hc,decide_eq_false (by omega),decide_eq_false (by omega)]
 simp only [bne_self_eq_false,Bool.false_eq_true,if_false]
 obtain⟨a,rfl⟩:=Int.eq_ofNat_of_zero_le h1
 obtain⟨b,rfl⟩:=Int.eq_ofNat_of_zero_le (show 0≤d by omega)
 simp only [Int.natAbs_natCast]at hg ⊢
 rw [←Int.natCast_mul,←Int.natCast_mul]
 congr 1
 obtain⟨p,hp⟩:=Nat.gcd_dvd_left a b
 obtain⟨q,hq⟩:=Nat.gcd_dvd_right a b
 generalize Nat.gcd a b=g at *
 subst hp hq
 rw [Nat.mul_div_cancel_left _ hg,Nat.mul_div_cancel_left _ hg,Nat.mul_left_comm,Nat.mul_comm g p,Nat.mul_assoc,Nat.mul_comm p]
 rw [Nat.mul_comm q p,Nat.mul_left_comm]
theorem mk_vfrac{n d:Int}(h:d≠0)(he:mkE n d=0):vfrac (mkN n d) (mkD n d)=true:=by
 rcases mk_ok h (n:=n)with ⟨_,h2⟩|⟨_,_,h3⟩
 ·exact h2
 ·simp only [he]at h3;omega
theorem ins_split{x:Int}:∀(l:List Int) (at_:Nat),Desc l→at_≤l.length→(at_=0∨x≤l.getD (at_-1) 0)→(∀j,at_≤j→j<l.length→l.getD j 0<x)→insD x l=l.take at_++x::l.drop at_
 | [],at_,_,h,_,_=>by simp [insD]
 |y::r,0,_,_,_,h=>by
  have:=h 0 (by omega) (by simp)
  unfold insD
  simp at this
  rw [if_neg (by omega)]
  simp
 |y::r,a+1,hd,hl,h1,h2=>by
  obtain⟨g1,g2⟩:=List.pairwise_cons.1 hd
  have hle:x≤y:=by
   rcases h1 with h1|h1
   ·omega
   ·rcases Nat.eq_zero_or_pos a with rfl|ha
    ·simpa using h1
    ·have hm:(y::r).getD a 0∈r:=by
      obtain⟨b,rfl⟩:∃b,a=b+1:=⟨a-1,by omega⟩
      rw [List.length_cons]at hl
      rw [List.getD_cons_succ,List.getD_eq_getElem?_getD,List.getElem?_eq_getElem (show b<r.length by omega)]
      exact List.getElem_mem _
     have:=g1 _ hm
     simp only [Nat.add_sub_cancel]at h1
     omega
  unfold insD
  rw [if_pos hle,List.take_succ_cons,List.drop_succ_cons,List.cons_append]
  congr 1
  refine ins_split r a g2 (by simpa using hl) ?_ (fun j hj hjl=>?_)
  ·rcases Nat.eq_zero_or_pos a with rfl|ha
   ·exact .inl rfl
   ·right
    rcases h1 with h1|h1
    ·omega
    ·obtain⟨b,rfl⟩:∃b,a=b+1:=⟨a-1,by omega⟩
     simpa using h1
  ·have:=h2 (j+1) (by omega) (by simpa using hjl)
   simpa using this
abbrev sortK(l:List Int)(k:Nat):List Int:=sortD (l.take k)
theorem sortK_succ(l:List Int)(k:Nat)(hk:k<l.length):sortK l (k+1)=insD (l.getD k 0) (sortK l k):=by
 unfold sortK sortD
 rw [List.take_succ_eq_append_getElem hk,List.foldl_append,List.getD_eq_getElem?_getD,List.getElem?_eq_getElem hk]
 rfl
theorem sortK_len(l:List Int)(k:Nat)(hk:k≤l.length):(sortK l k).length=k:=by
 have:=(sortD_perm (l.take k)).length_eq
 rw [this,List.length_take];omega
theorem sortK_desc(l:List Int)(k:Nat):Desc (sortK l k):=sortD_desc _
theorem sortK_all(l:List Int):sortK l l.length=sortD l:=by unfold sortK;rw [List.take_length]
theorem sortK_split(l:List Int)(k at_:Nat)(hk:k<l.length)(ha:at_≤k)(h1:at_=0∨l.getD k 0≤(sortK l k).getD (at_-1) 0)(h2:∀j,at_≤j→j<k→(sortK l k).getD j 0<l.getD k 0) :
 sortK l (k+1)=(sortK l k).take at_++l.getD k 0::(sortK l k).drop at_:=by
 have hn:=sortK_len l k (by omega)
 rw [sortK_succ l k hk]
 exact ins_split _ _ (sortK_desc l k) (by omega) h1 (fun j hj hjl=>h2 j hj (by omega))
abbrev sumK(l:List Int)(j:Nat):Int:=(l.take j).sum
theorem sumK_succ(l:List Int)(j:Nat)(hj:j<l.length):sumK l (j+1)=sumK l j+l.getD j 0:=by
 unfold sumK
 rw [List.take_succ_eq_append_getElem hj,sum_app,List.getD_eq_getElem?_getD,List.getElem?_eq_getElem hj]
 simp
theorem years_mem{l:List Int}(h:yearsOk l=true):l.length≤200∧∀x∈l,0≤x∧x≤1000000000000:=by
 unfold yearsOk at h
 simp only [Bool.and_eq_true,decide_eq_true_eq,List.all_eq_true]at h
 exact h
theorem sum_bd{l:List Int}(h:∀x∈l,0≤x∧x≤1000000000000):0≤l.sum∧l.sum≤1000000000000*l.length:=by
 induction l with
 |nil=>simp
 |cons x r ih=>
  have h1:=h x (by simp)
  have h2:=ih (fun y hy=>h y (by simp [hy]))
  rw [List.sum_cons,List.length_cons]
  push_cast
  omega
theorem sumK_bd{l s:List Int}(h:yearsOk l=true)(hp:s.Perm l)(j:Nat):0≤sumK s j∧sumK s j≤200000000000000:=by
 have hm:=years_mem h
 have:=sum_bd (l:=s.take j) (fun x hx=>hm.2 x (hp.mem_iff.1 (List.mem_of_mem_take hx)))
 have hl:(s.take j).length≤200:=by
  have:=hp.length_eq
  rw [List.length_take];omega
 unfold sumK
 omega
theorem getD_bd{l s:List Int}(h:yearsOk l=true)(hp:s.Perm l)(j:Nat):0≤s.getD j 0∧s.getD j 0≤1000000000000:=by
 rw [List.getD_eq_getElem?_getD]
 cases hx:s[j]? with
 |none=>simp
 |some y=>exact(years_mem h).2 y (hp.mem_iff.1 (List.mem_of_getElem? hx))
theorem mkE_small{n d:Int}(h1:0≤n)(h2:n≤1000000000000000)(h3:1≤d)(h4:d≤1000000000):mkE n d=0:=by
 unfold mkE lowE
 rw [if_neg (by omega),if_neg]
 have a:=Nat.div_le_self n.natAbs (Nat.gcd n.natAbs d.natAbs)
 have b:=Nat.div_le_self d.natAbs (Nat.gcd n.natAbs d.natAbs)
 omega
end Go.Proofs.YtaghhncnicbedaaGreatDoor
