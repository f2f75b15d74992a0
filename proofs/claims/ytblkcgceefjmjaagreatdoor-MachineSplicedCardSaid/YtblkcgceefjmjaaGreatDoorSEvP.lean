import Derived.Test.YtblkcgceefjmjaaGreatDoorSDec
import Derived.Test.YtblkcgceefjmjaaGreatDoorSK
import Derived.RangeFuncNested
import Derived.RangeFuncBound
import Derived.RangeFuncCalls
import Derived.RangeFuncLeaves
import Derived.Shelf.Abstract
import Derived.Shelf.RegionOpen
import Derived.WalkKit
import Derived.OwnWalkIn
import Derived.TacticsInMore
import Derived.LoopNIn
import Derived.LoopIn
set_option linter.all false
set_option maxHeartbeats 16000000
set_option maxRecDepth 1000000
namespace Go.Proofs.YtblkcgceefjmjaaGreatDoor

structure Val where
 dim:Int
 yes:Bool
 n:Int
 d:Int
namespace Val
def zero:Val:=⟨0,false,0,0⟩
def num(m n d:Int):Val:=⟨m,false,n,d⟩
def truth(b:Bool):Val:=⟨1,b,0,0⟩
def ok(x:Val):Bool:=if x.dim=1 then decide (x.n=0∧x.d=0)else decide (2≤x.dim∧x.dim≤4)&&!x.yes&&vfrac x.n x.d
end Val
structure Vw where
 age:Int
 year:Int
 children:Int
 insured:Int
 worked:Int
 voluntary:Int
 service:Int
 equated:Int
 raising:Int
 resident:Int
 bn:Int
 bd:Int
 years:List Int
def yearsOk(l:List Int):Bool:=decide (l.length≤200)&&l.all fun x=>decide (0≤x∧x≤1000000000000)
def daysOk(z:Int):Bool:=decide (0≤z∧z≤73049)
def Vw.ok(v:Vw):Bool:=decide (0≤v.age∧v.age≤199∧1900≤v.year∧v.year≤2099∧0≤v.children∧v.children≤99)&&
 (daysOk v.insured&&daysOk v.worked&&daysOk v.voluntary&&daysOk v.service&&daysOk v.equated&&daysOk v.raising&&daysOk v.resident)&&
 (vfrac v.bn v.bd&&decide (0≤v.bn∧v.bn≤1000000000000*v.bd))&&yearsOk v.years
def Vw.numF(v:Vw)(s:List UInt8):Int × Int:=
 if s= [98,97,115,101]then(v.bn,v.bd)
 else if s= [97,103,101]then(v.age,1)else if s= [121,101,97,114]then(v.year,1)else if s= [99,104,105,108,100,114,101,110]then(v.children,1)
 else if s= [105,110,115,117,114,101,100]then(v.insured,1)else if s= [119,111,114,107,101,100]then(v.worked,1)else if s= [118,111,108,117,110,116,97,114,121]then(v.voluntary,1)
 else if s= [115,101,114,118,105,99,101]then(v.service,1)else if s= [101,113,117,97,116,101,100]then(v.equated,1)else if s= [114,97,105,115,105,110,103]then(v.raising,1)
 else if s= [114,101,115,105,100,101,110,116]then(v.resident,1)else(0,1)
def inputV(v:Vw)(s:ByteArray):Option Val:=if inpD s.toList=0∨v.ok=false then none else some (.num (inpD s.toList) (v.numF s.toList).1 (v.numF s.toList).2)

def insD(x:Int):List Int→List Int
 | []=>[x]
 |y::r=>if x≤y then y::insD x r else x::y::r
def sortD(l:List Int):List Int:=l.foldl (fun a x=>insD x a) []
def bestS(l:List Int)(n:Int):Int:=((sortD l).take n.toNat).sum
def bestF(l:List Int)(n:Int):Int × Int × Int:=if n<1∨45<n∨yearsOk l=false then(0,0,1)else(mkN (bestS l n) n,mkD (bestS l n) n,mkE (bestS l n) n)

def lastN{α:Type}(env:List (ByteArray × α))(s:ByteArray):Option α:=(env.reverse.find? fun p=>decide (p.1=s)).map Prod.snd

def resD(op:Int)(d:List Int):Int:=
 let a:=d.getD 0 0;let b:=d.getD 1 0;let c:=d.getD 2 0
 if op=5 then(if a=1 then 1 else 0)
 else if op=4∨op=6 then(if a≠1 then a else 0)
 else if op=7∨op=8∨op=19∨op=20 then(if a=b∧a≠1 then a else 0)
 else if op=9 then(if a=2∧b≠1 then b else if b=2∧a≠1 then a else 0)
 else if op=10 then(if b=2∧a≠1 then a else if a=b∧a≠1 then 2 else 0)
 else if op=17∨op=18 then(if a=1∧b=1 then 1 else 0)
 else if op=21 then(if a=1∧b=c then b else 0)
 else if a=b∧a≠1 then 1 else 0
def inferN(env:List (ByteArray × Int))(s:ByteArray):Int × Int:=
 if inpD s.toList≠0 then(inpD s.toList,0)else match lastN env s with|some m=>(m,0)|none=>(0,5)
def infNode(op m:Int)(nm:Int × Int)(r:List Int × Int):Int × Int:=
 if op=1 then(m,0)else if op=3 then(4,0)else if op=2 then nm
 else if r.2≠0 then(0,r.2)else if resD op r.1=0 then(0,6)else(resD op r.1,0)
mutual
def inferF(env:List (ByteArray × Int)):Ex→Int × Int
 | .mk op _ _ m s l=>infNode op m (inferN env s) (infersF env l)
def infersF(env:List (ByteArray × Int)):List Ex→List Int × Int
 | []=>([],0)
 |e::r=>if(inferF env e).2≠0 then([],(inferF env e).2)else if(infersF env r).2≠0 then([],(infersF env r).2)else((inferF env e).1::(infersF env r).1,0)
end

def numR(m:Int)(r:Int × Int × Int):Val × Int:=if r.2.2=0 then(.num m r.1 r.2.1,0)else(.zero,r.2.2)
def cmpB(op c:Int):Bool:=if op=11 then decide (c<0)else if op=12 then decide (c≤0)else if op=13 then decide (c=0)else if op=14 then decide (c≠0)else if op=15 then decide (c > 0)else decide (c≥0)
def op1(op:Int)(a:Val):Val × Int:=if op=5 then(.truth (!a.yes),0)else if op=6 then numR a.dim ((floorF a.n a.d).1,1,(floorF a.n a.d).2)else numR a.dim (negF a.n a.d)
def op2(op:Int)(a b:Val):Val × Int:=
 if op=7 then numR a.dim (addF a.n a.d b.n b.d)else if op=8 then numR a.dim (subF a.n a.d b.n b.d)
 else if op=9 then numR (resD 9 [a.dim,b.dim]) (mulF a.n a.d b.n b.d)else if op=10 then numR (resD 10 [a.dim,b.dim]) (divF a.n a.d b.n b.d)
 else if op=19 then(if cmpI a.n a.d b.n b.d≤0 then .num a.dim a.n a.d else .num a.dim b.n b.d,0)
 else if op=20 then(if 0≤cmpI a.n a.d b.n b.d then .num a.dim a.n a.d else .num a.dim b.n b.d,0)
 else(.truth (cmpB op (cmpI a.n a.d b.n b.d)),0)
theorem inferF_eq(env:List (ByteArray × Int))(e:Ex):inferF env e=infNode e.op e.dim (inferN env e.name) (infersF env e.args):=by cases e;rw [inferF];rfl
def dimsOf(env:List (ByteArray × Val)):List (ByteArray × Int):=env.map fun p=>(p.1,p.2.dim)

theorem Val.num_ok{m n d:Int}(hm:2≤m∧m≤4)(h:vfrac n d=true):(Val.num m n d).ok=true:=by
 unfold Val.ok Val.num
 rw [if_neg (show ¬m=1 by omega)]
 show(decide (2≤m∧m≤4)&&!false&&vfrac n d)=true
 rw [h,decide_eq_true hm];rfl
def okR(m:Int)(r:Val × Int):Prop:=(r.2=0∧r.1.ok=true∧r.1.dim=m)∨(r.1= .zero∧(r.2=2∨r.2=3))
theorem okR_num{m:Int}{r:Int × Int × Int}(hm:2≤m∧m≤4)(h:okF r):okR m (numR m r):=by
 unfold numR
 rcases h with ⟨h1,h2⟩|⟨-,-,h3⟩
 ·rw [if_pos h1]
  refine .inl ⟨rfl, ?_,rfl⟩
  exact Val.num_ok hm h2
 ·rw [if_neg (by omega)]
  exact .inr ⟨rfl,h3⟩
theorem okR_truth(b:Bool):okR 1 (.truth b,0):=.inl ⟨rfl,by simp [Val.ok,Val.truth],rfl⟩
theorem Val.ok_num{x:Val}(h:x.ok=true)(hd:x.dim≠1):2≤x.dim∧x.dim≤4∧x.yes=false∧vfrac x.n x.d=true:=by
 unfold Val.ok at h
 rw [if_neg hd]at h
 simp only [Bool.and_eq_true,decide_eq_true_eq,Bool.not_eq_true']at h
 exact⟨h.1.1.1,h.1.1.2,h.1.2,h.2⟩
theorem vfrac_whole{n:Int}(h1:-1000000000000000≤n)(h2:n≤1000000000000000):vfrac n 1=true:=vfrac_of ⟨by omega,by omega,h1,h2⟩ (by simp)
theorem floor_bd{n d:Int}(h:vfrac n d=true):-1000000000000000≤n / d∧n / d≤1000000000000000:=by
 have:=vfrac_bd h
 constructor
 ·rw [Int.le_ediv_iff_mul_le (by omega)]
  omega
 ·have h3:n / d<1000000000000001:=Int.ediv_lt_of_lt_mul (by omega) (by omega)
  omega
theorem negF_ok{n d:Int}(h:vfrac n d=true):okF (negF n d):=by
 unfold negF;rw [if_pos h];exact .inl ⟨rfl,by rw [vfrac_neg];exact h⟩
theorem floor_ok{n d:Int}(h:vfrac n d=true):okF ((floorF n d).1,1,(floorF n d).2):=by
 unfold floorF;rw [if_pos h];have:=floor_bd h;exact .inl ⟨rfl,vfrac_whole this.1 this.2⟩
theorem op1_ok{op:Int}{x:Val}(h:x.ok=true)(h4:4≤op)(h6:op≤6)(hr:resD op [x.dim]≠0):okR (resD op [x.dim]) (op1 op x):=by
 obtain rfl|rfl|rfl:op=4∨op=5∨op=6:=by omega
 all_goals simp only [resD,List.getD_cons_zero,op1]at hr ⊢
 ·simp at hr ⊢
  have:=Val.ok_num h hr.1
  rw [if_neg hr.1]
  exact okR_num ⟨this.1,this.2.1⟩ (negF_ok this.2.2.2)
 ·simp at hr ⊢
  rw [if_pos hr];exact okR_truth _
 ·simp at hr ⊢
  have:=Val.ok_num h hr.1
  rw [if_neg hr.1]
  exact okR_num ⟨this.1,this.2.1⟩ (floor_ok this.2.2.2)
theorem res_mul(a b:Int):resD 9 [a,b]=if a=2∧b≠1 then b else if b=2∧a≠1 then a else 0:=rfl
theorem res_div(a b:Int):resD 10 [a,b]=if b=2∧a≠1 then a else if a=b∧a≠1 then 2 else 0:=rfl
theorem res_add{op:Int}(a b:Int)(h:op=7∨op=8∨op=19∨op=20):resD op [a,b]=if a=b∧a≠1 then a else 0:=by
 rcases h with rfl|rfl|rfl|rfl<;>rfl
theorem res_cmp{op:Int}(a b:Int)(h:11≤op∧op≤16):resD op [a,b]=if a=b∧a≠1 then 1 else 0:=by
 obtain rfl|rfl|rfl|rfl|rfl|rfl:op=11∨op=12∨op=13∨op=14∨op=15∨op=16:=by omega
 all_goals rfl
theorem op2_ok{op:Int}{x y:Val}(h:x.ok=true)(g:y.ok=true)(h4:7≤op)(h6:op≤20)(h17:op≠17)(h18:op≠18)(hr:resD op [x.dim,y.dim]≠0):okR (resD op [x.dim,y.dim]) (op2 op x y):=by
 by_cases c:op=9
 ·subst c
  show okR _ (numR (resD 9 [x.dim,y.dim]) (mulF x.n x.d y.n y.d))
  have hx:x.dim≠1∧y.dim≠1∧(resD 9 [x.dim,y.dim]=x.dim∨resD 9 [x.dim,y.dim]=y.dim):=by
   rw [res_mul]at hr ⊢
   exact sz38
  have h1:=Val.ok_num h hx.1
  have h2:=Val.ok_num g hx.2.1
  exact okR_num (by omega) (mulF_ok h1.2.2.2 h2.2.2.2)
 ·by_cases c':op=10
  ·subst c'
   show okR _ (numR (resD 10 [x.dim,y.dim]) (divF x.n x.d y.n y.d))
   have hx:x.dim≠1∧y.dim≠1∧(resD 10 [x.dim,y.dim]=x.dim∨resD 10 [x.dim,y.dim]=2):=by
    rw [res_div]at hr ⊢
    exact sz38
   have h1:=Val.ok_num h hx.1
   have h2:=Val.ok_num g hx.2.1
   exact okR_num (by omega) (divF_ok h1.2.2.2 h2.2.2.2)
  ·have hx:x.dim=y.dim∧x.dim≠1:=by
    by_cases c3:11≤op∧op≤16
    ·rw [res_cmp _ _ c3]at hr
     split at hr<;>rename_i c1
     ·exact c1
     ·exact absurd rfl hr
    ·rw [res_add _ _ (by omega)]at hr
     split at hr<;>rename_i c1
     ·exact c1
     ·exact absurd rfl hr
   have h1:=Val.ok_num h hx.2
   have h2:=Val.ok_num g (by omega)
   by_cases c3:11≤op∧op≤16
   ·rw [res_cmp _ _ c3,if_pos hx]
    unfold op2
    rw [if_neg (by omega),if_neg (by omega),if_neg (by omega),if_neg (by omega),if_neg (by omega),if_neg (by omega)]
    exact okR_truth _
   ·rw [res_add _ _ (by omega),if_pos hx]
    obtain rfl|rfl|rfl|rfl:op=7∨op=8∨op=19∨op=20:=by omega
    ·exact okR_num (by omega) (addF_ok h1.2.2.2 h2.2.2.2)
    ·exact okR_num (by omega) (subF_ok h1.2.2.2 h2.2.2.2)
    ·show okR _ (if cmpI x.n x.d y.n y.d≤0 then .num x.dim x.n x.d else .num x.dim y.n y.d,0)
     exact sz46
    ·show okR _ (if 0≤cmpI x.n x.d y.n y.d then .num x.dim x.n x.d else .num x.dim y.n y.d,0)
     exact sz46
theorem okR.bad{m:Int}{r:Val × Int}(h:okR m r)(hr:r.2≠0):r.1= .zero∧(r.2=2∨r.2=3):=by
 rcases h with h|h
 ·exact absurd h.1 hr
 ·exact h
theorem okR.good{m:Int}{r:Val × Int}(h:okR m r)(hr:r.2=0):r.1.ok=true∧r.1.dim=m:=by
 rcases h with h|h
 ·exact h.2
 ·omega
theorem Vw.ok_bd{v:Vw}(h:v.ok=true):(0≤v.age∧v.age≤199∧1900≤v.year∧v.year≤2099∧0≤v.children∧v.children≤99)∧
 (0≤v.insured∧v.insured≤73049∧0≤v.worked∧v.worked≤73049∧0≤v.voluntary∧v.voluntary≤73049∧0≤v.service∧v.service≤73049∧0≤v.equated∧v.equated≤73049∧0≤v.raising∧v.raising≤73049∧0≤v.resident∧v.resident≤73049)∧
 vfrac v.bn v.bd=true∧(0≤v.bn∧v.bn≤1000000000000*v.bd)∧yearsOk v.years=true:=by
 unfold Vw.ok at h
 obtain⟨h,e⟩:=Bool.and_eq_true_iff.1 h
 obtain⟨h,cd⟩:=Bool.and_eq_true_iff.1 h
 obtain⟨a,b⟩:=Bool.and_eq_true_iff.1 h
 obtain⟨c,d⟩:=Bool.and_eq_true_iff.1 cd
 have k:∀z,daysOk z=true→0≤z∧z≤73049:=fun z hz=>of_decide_eq_true hz
 repeat rw [Bool.and_eq_true]at b
 obtain⟨⟨⟨⟨⟨⟨b1,b2⟩,b3⟩,b4⟩,b5⟩,b6⟩,b7⟩:=b
 have b1:=k _ b1
 have b2:=k _ b2
 have b3:=k _ b3
 have b4:=k _ b4
 have b5:=k _ b5
 have b6:=k _ b6
 have b7:=k _ b7
 exact⟨of_decide_eq_true a,⟨b1.1,b1.2,b2.1,b2.2,b3.1,b3.2,b4.1,b4.2,b5.1,b5.2,b6.1,b6.2,b7.1,b7.2⟩,c,of_decide_eq_true d,e⟩
theorem ite_ok{c:Prop}[Decidable c]{a b:Int × Int}(ha:vfrac a.1 a.2=true)(hb:vfrac b.1 b.2=true):vfrac (if c then a else b).1 (if c then a else b).2=true:=by
 by_cases h:c
 ·rw [if_pos h];exact ha
 ·rw [if_neg h];exact hb
theorem Vw.numF_ok{v:Vw}(h:v.ok=true)(s:List UInt8):vfrac (v.numF s).1 (v.numF s).2=true:=by
 obtain⟨a,b,c,-,-⟩:=Vw.ok_bd h
 unfold Vw.numF
 refine ite_ok c ?_
 repeat refine ite_ok (vfrac_whole (by show _≤(_:Int);omega) (by show(_:Int)≤_;omega)) ?_
 exact vfrac_whole (by omega) (by omega)
theorem inpD_bd(s:List UInt8):inpD s=0∨(2≤inpD s∧inpD s≤4):=by
 unfold inpD
 (repeat' split)<;>simp
theorem inputV_some{v:Vw}{s:ByteArray}{x:Val}(h:inputV v s=some x):x.ok=true∧x.dim=inpD s.toList∧inpD s.toList≠0:=by
 unfold inputV at h
 split at h<;>rename_i hc
 ·cases h
 ·simp only [not_or,Bool.not_eq_false]at hc
  cases h
  have:=inpD_bd s.toList
  exact⟨Val.num_ok (by omega) (Vw.numF_ok hc.2 _),rfl,hc.1⟩
theorem inputV_none{v:Vw}(hv:v.ok=true){s:ByteArray}(h:inputV v s=none):inpD s.toList=0:=by
 unfold inputV at h
 split at h<;>rename_i hc
 ·rcases hc with hc|hc
  ·exact hc
  ·rw [hv]at hc;cases hc
 ·cases h
theorem mk_ok{n d:Int}(h:d≠0):okF (mkN n d,mkD n d,mkE n d):=by
 unfold mkN mkD mkE
 rw [if_neg h,if_neg h,if_neg h]
 rcases lowE_cases n.natAbs d.natAbs with e|e
 ·exact .inl ⟨e,low_ok _ (by omega) e⟩
 ·have h3:=low_bad (decide (n<0)!=decide (d<0)) (show lowE n.natAbs d.natAbs≠0 by omega)
  exact .inr ⟨h3.1,h3.2,.inl e⟩
theorem best_ok{l:List Int}{n:Int}(h1:1≤n)(h2:n≤45)(h:yearsOk l=true):okF (bestF l n):=by
 unfold bestF
 rw [if_neg (by simp [h];omega)]
 exact mk_ok (by omega)
theorem decOk_bd{n d m:Int}(h:decOk n d m=true):vfrac n d=true∧2≤m∧m≤4:=by
 simp only [decOk,Bool.and_eq_true,decide_eq_true_eq]at h
 exact⟨h.1.1.1.1.1,h.1.1.2,h.1.2⟩
end Go.Proofs.YtblkcgceefjmjaaGreatDoor
namespace Go.Proofs.YtblkcgceefjmjaaGreatDoor
structure Ins where
 op:Int
 a:Int
 n:Int
 d:Int
instance:Inhabited Ins:=⟨⟨0,0,0,0⟩⟩
def opF(op:Int):Int:=if op=6 then 4 else if op=7 then 5 else if op=8 then 6 else if 9≤op∧op≤18 then op-2 else if op=19 then 19 else if op=20 then 20 else 0
def ariF(op:Int):Nat:=if op=4∨op=5∨op=6 then 1 else 2
def inDs:List Int:=[2,2,2,3,3,3,3,3,3,3,4]
def wfF(m n i:Nat)(x:Ins):Bool:=
 if x.op=1 then decide (x.a=2∨x.a=3∨x.a=4)&&vfrac x.n x.d
 else if ¬(x.n=0∧x.d=0)then false
 else if x.op=2 then decide (0≤x.a∧x.a<11)
 else if x.op=3∨x.op=4 then decide (0≤x.a∧x.a<m)
 else if x.op=5 then decide (1≤x.a∧x.a≤45)
 else if x.op=21∨x.op=22 then decide ((i:Int)<x.a∧x.a≤n)
 else if x.op=23∨x.op=24 then decide (x.a=0)
 else decide (opF x.op≠0∧x.a=0)
def setsF(l:List Ins):List Nat:=(l.filter fun x=>decide (x.op=4)).map fun x=>x.a.toNat
def wordsF(sl:List ByteArray):Bool:=decide (sl.length≤12)&&sl.all isWord&&decide sl.Nodup
def formF(l:List Ins)(sl:List ByteArray):Bool:=
 decide (l.length≤4000)&&(List.range l.length).all (fun i=>wfF sl.length l.length i (l.getD i default))&&(wordsF sl&&decide (setsF l).Nodup)

section
variable (S : List (Option (List Int × List Bool))) (T : List (Option (List Int × List Int)))
def appA(x:Ins)(s:List Int × List Bool)(dims:List Int):Option ((List Int × List Bool) × List Int):=
 if x.op=1 then some ((s.1++[x.a],s.2),dims)
 else if x.op=2 then some ((s.1++[inDs.getD x.a.toNat 0],s.2),dims)
 else if x.op=5 then some ((s.1++[4],s.2),dims)
 else if x.op=23∨x.op=24 then some ((s.1++[1],s.2),dims)
 else if x.op=3 then(if s.2.getD x.a.toNat false=true then some ((s.1++[dims.getD x.a.toNat 0],s.2),dims)else none)
 else if x.op=4 then(if s.1= []then none else some ((s.1.dropLast,s.2.set x.a.toNat true),dims.set x.a.toNat (s.1.getLastD 0)))
 else if x.op=22 then(if s.1= []∨s.1.getLastD 0≠1 then none else some ((s.1.dropLast,s.2),dims))
 else if x.op=21 then some (s,dims)
 else if s.1.length<ariF (opF x.op)then none
 else if resD (opF x.op) (s.1.drop (s.1.length-ariF (opF x.op)))=0 then none
 else some ((s.1.take (s.1.length-ariF (opF x.op))++[resD (opF x.op) (s.1.drop (s.1.length-ariF (opF x.op)))],s.2),dims)
def putA(k:Nat)(s:List Int × List Bool):Option (List (Option (List Int × List Bool))):=
 match S.getD k none with
 |none=>some (S.set k (some s))
 |some t=>if t.1=s.1 then some (S.set k (some (t.1,List.zipWith (· && ·) t.2 s.2)))else none
def rndA(x:Ins)(i:Nat)(dims:List Int)(dep:Nat):Option (List (Option (List Int × List Bool)) × List Int × Nat):=
 match S.getD i none with
 |none=>none
 |some s=>match appA x s dims with
  |none=>none
  |some (s',dims')=>
   if 24<s'.1.length then none
   else match (if x.op=21 then some S else putA S (i+1) s')with
   |none=>none
   |some S1=>match (if x.op=21∨x.op=22 then putA S1 x.a.toNat s' else some S1)with
    |none=>none
    |some S2=>some (S2,dims',max dep s'.1.length)
def goA:List Ins→Nat→List (Option (List Int × List Bool))→List Int→Nat→Int × Int
 | [],i,S,_,dep=>match S.getD i none with
   |none=>((dep:Int),0)
   |some s=>if s.1= []then((dep:Int),0)else(0,8)
 |x::r,i,S,dims,dep=>match rndA S x i dims dep with
  |none=>(0,8)
  |some (S',dims',dep')=>goA r (i+1) S' dims' dep'
def verA(l:List Ins)(sl:List ByteArray):Int × Int:=
 if formF l sl=true then goA l 0 (some ([],List.replicate 12 false)::List.replicate l.length none) (List.replicate 12 0) 0 else(0,8)

end

theorem getD_setI{α:Type}(l:List α)(k j:Nat)(a d:α):(l.set k a).getD j d=if k=j∧j<l.length then a else l.getD j d:=by
 simp only [List.getD_eq_getElem?_getD,List.getElem?_set]
 by_cases h:k=j
 ·subst h
  by_cases h2:k<l.length
  ·simp [h2]
  ·simp [h2,List.getElem?_eq_none (Nat.le_of_not_lt h2)]
 ·simp [h]
theorem getD_zip{α β γ:Type}(f:α→β→γ)(a:List α)(b:List β)(k:Nat)(x:α)(y:β)(z:γ)(h1:k<a.length)(h2:k<b.length):(List.zipWith f a b).getD k z=f (a.getD k x) (b.getD k y):=by
 simp [List.getD_eq_getElem?_getD,List.getElem?_zipWith,List.getElem?_eq_getElem h1,List.getElem?_eq_getElem h2]
theorem zip_true{a b:List Bool}{k:Nat}(h:(List.zipWith (· && ·) a b).getD k false=true):a.getD k false=true∧b.getD k false=true:=by
 have hl:k<(List.zipWith (· && ·) a b).length:=by
  apply Nat.lt_of_not_le;intro hc
  rw [List.getD_eq_getElem?_getD,List.getElem?_eq_none hc]at h;cases h
 rw [List.length_zipWith]at hl
 rw [getD_zip _ a b k false false false (by omega) (by omega)]at h
 simpa using h
structure Agr(m:Nat)(D:Nat→Bool)(dims:List Int)(s:List Int × List Bool)(t:List Int × List Int):Prop where
 stk:t.1=s.1
 l1:s.2.length=12
 l2:t.2.length=m
 slot:∀k,k<m→t.2.getD k 0=if s.2.getD k false=true then dims.getD k 0 else 0
 pos:∀z∈s.1,1≤z
 dpos:∀k,k<m→s.2.getD k false=true→1≤dims.getD k 0
 done:∀k,s.2.getD k false=true→D k=true
def AgrO(m:Nat)(D:Nat→Bool)(dims:List Int):Option (List Int × List Bool)→Option (List Int × List Int)→Prop
 |none,none=>True
 |some s,some t=>Agr m D dims s t∧s.1.length≤24
 |_,_=>False
def AgrL(m:Nat)(D:Nat→Bool)(dims:List Int)(S:List (Option (List Int × List Bool)))(T:List (Option (List Int × List Int))):Prop:=
 S.length=T.length∧∀k,AgrO m D dims (S.getD k none) (T.getD k none)
section
variable {m : Nat} {D D' : Nat → Bool} {dims : List Int} {S S' : List (Option (List Int × List Bool))} {T : List (Option (List Int × List Int))} {x : Ins} {s s' : List Int × List Bool} {t : List Int × List Int}
theorem AgrL.both(h:AgrL m D dims S T)(i:Nat):(S.getD i none=none∧T.getD i none=none)∨∃s t,S.getD i none=some s∧T.getD i none=some t∧Agr m D dims s t∧s.1.length≤24:=by
 have:=h.2 i
 cases hs:S.getD i none<;>cases ht:T.getD i none<;>rw [hs,ht]at this
 ·exact .inl ⟨rfl,rfl⟩
 ·exact this.elim
 ·exact this.elim
 ·exact .inr ⟨_,_,rfl,rfl,this⟩
theorem Agr.mono{a:Nat}{z:Int}(h:Agr m D dims s t)(hD:∀k,D k=true→D' k=true)(ha:D a=false):Agr m D' (dims.set a z) s t:=by
 have hne:∀k,s.2.getD k false=true→a≠k:=fun k hk e=>by
  subst e;rw [h.done a hk]at ha;cases ha
 refine⟨h.stk,h.l1,h.l2,fun k hk=>?_,h.pos,fun k hk hb=>?_,fun k hb=>hD k (h.done k hb)⟩
 ·rw [h.slot k hk]
  split
  ·rename_i hb
   rw [getD_setI,if_neg (fun e=>hne k hb e.1)]
  ·rfl
 ·rw [getD_setI,if_neg (fun e=>hne k hb e.1)]
  exact h.dpos k hk hb
theorem AgrO.imp{D':Nat→Bool}{dims':List Int}{a:Option (List Int × List Bool)}{b:Option (List Int × List Int)}(h:AgrO m D dims a b)(hi:∀s t,Agr m D dims s t→Agr m D' dims' s t):AgrO m D' dims' a b:=by
 cases a<;>cases b<;>first|exact h|exact⟨hi _ _ h.1,h.2⟩
theorem Agr.push(h:Agr m D dims s t){z:Int}(hz:1≤z):Agr m D dims (s.1++[z],s.2) (t.1++[z],t.2):=
 ⟨by rw [h.stk],h.l1,h.l2,h.slot,fun y hy=>by rcases List.mem_append.1 hy with hy|hy;· exact h.pos y hy
                                              ·obtain rfl:y=z:=by simpa using hy
                                               exact hz,h.dpos,h.done⟩
theorem Agr.stack(h:Agr m D dims s t){l:List Int}(hl:∀z∈l,1≤z):Agr m D dims (l,s.2) (l,t.2):=⟨rfl,h.l1,h.l2,h.slot,hl,h.dpos,h.done⟩
theorem last_mem{l:List Int}(h:l≠[]):l.getLastD 0∈l:=by
 exact sz57
theorem resD_pos{op:Int}{d:List Int}(hd:∀z∈d,1≤z)(h:resD op d≠0):1≤resD op d:=by
 have h0:∀k,0≤d.getD k 0:=fun k=>by
  exact sz48
 have a0:=h0 0;have b0:=h0 1;have c0:=h0 2
 revert h
 unfold resD
 dsimp only
 generalize d.getD 0 0=a at *
 generalize d.getD 1 0=b at *
 generalize d.getD 2 0=c at *
 intro h
 repeat' split at h
 all_goals omega
theorem putA_keep{k:Nat}(h:putA S k s=some S'):S'.length=S.length∧(∀j u,S.getD j none=some u→∃v,S'.getD j none=some v∧v.1=u.1)∧(k<S.length→∃v,S'.getD k none=some v∧v.1=s.1)∧
 ∀j v,S'.getD j none=some v→v.1=s.1∨∃u,S.getD j none=some u∧u.1=v.1:=by
 unfold putA at h
 cases hk:S.getD k none with
 |none=>
  rw [hk]at h
  obtain rfl:=Option.some.inj h
  refine⟨List.length_set ..,fun j u hu=>?_,fun hl=>?_,fun j v hv=>?_⟩
  ·by_cases e:k=j
   ·subst e;rw [hk]at hu;cases hu
   ·rw [getD_setI,if_neg (fun c=>e c.1)];exact⟨u,hu,rfl⟩
  ·rw [getD_setI,if_pos ⟨rfl,hl⟩];exact⟨s,rfl,rfl⟩
  ·rw [getD_setI]at hv
   split at hv
   ·obtain rfl:=Option.some.inj hv;exact .inl rfl
   ·exact .inr ⟨v,hv,rfl⟩
 |some t=>
  rw [hk]at h
  by_cases e:t.1=s.1
  ·simp only [if_pos e]at h
   obtain rfl:=Option.some.inj h
   refine⟨List.length_set ..,fun j u hu=>?_,fun hl=>?_,fun j v hv=>?_⟩
   ·rw [getD_setI]
    split
    ·rename_i c
     obtain rfl:=c.1
     rw [hk]at hu
     obtain rfl:=Option.some.inj hu
     exact⟨_,rfl,rfl⟩
    ·exact⟨u,hu,rfl⟩
   ·rw [getD_setI,if_pos ⟨rfl,hl⟩];exact⟨_,rfl,e⟩
   ·rw [getD_setI]at hv
    split at hv
    ·obtain rfl:=Option.some.inj hv;exact .inl e
    ·exact .inr ⟨v,hv,rfl⟩
  ·simp only [if_neg e]at h;cases h
end
section
variable {m : Nat} {D D' : Nat → Bool} {dims : List Int} {S : List (Option (List Int × List Bool))} {T : List (Option (List Int × List Int))} {x : Ins}
end
theorem setsF_cons(x:Ins)(r:List Ins):setsF (x::r)=if x.op=4 then x.a.toNat::setsF r else setsF r:=by
 unfold setsF
 rw [List.filter_cons]
 by_cases h:x.op=4<;>simp [h]
def dimsOk(env:List (ByteArray × Int)):Bool:=env.all fun p=>decide (1≤p.2∧p.2≤4)
def inferE(env:List (ByteArray × Int))(e:Ex):Int × Int:=if validB e=true∧dimsOk env=true then inferF env e else(0,1)
def noM:ByteArray:=⟨#[]⟩
def aNm:ByteArray:=⟨#[97]⟩
def bNm:ByteArray:=⟨#[98]⟩
def nm2(s:ByteArray):Ex:=.mk 2 0 0 0 s []
def op1E(op:Int):Ex:=.mk op 0 0 0 noM [nm2 aNm]
def op2E(op:Int):Ex:=.mk op 0 0 0 noM [nm2 aNm,nm2 bNm]
theorem inf_a(d:Int):inferF [(aNm,d)] (nm2 aNm)=(d,0):=by
 have h:inpD aNm.toList=0:=by decide+kernel
 exact sz51
theorem inf_ab1(d e:Int):inferF [(aNm,d),(bNm,e)] (nm2 aNm)=(d,0):=by
 have h:inpD aNm.toList=0:=by decide+kernel
 have hne:¬bNm=aNm:=by decide
 rw [nm2,inferF,infNode,if_neg (by decide),if_neg (by decide),if_pos rfl,inferN,if_neg (by rw [h];simp)]
 simp [lastN,hne]
theorem inf_ab2(d e:Int):inferF [(aNm,d),(bNm,e)] (nm2 bNm)=(e,0):=by
 have h:inpD bNm.toList=0:=by decide+kernel
 exact sz51
theorem oper_inf1{op d:Int}(ho:op=4∨op=5∨op=6)(hd:1≤d∧d≤4):inferE [(aNm,d)] (op1E op)=if resD op [d]=0 then(0,6)else(resD op [d],0):=by
 have hv:validB (op1E op)=true:=by rcases ho with rfl|rfl|rfl<;>decide+kernel
 have hdm:dimsOk [(aNm,d)]=true:=by simp [dimsOk,hd]
 unfold inferE
 rw [if_pos ⟨hv,hdm⟩,op1E,inferF,infNode,if_neg (by omega),if_neg (by omega),if_neg (by omega),infersF,inf_a,infersF]
 simp
theorem oper_inf2{op d e:Int}(ho:7≤op∧op≤20)(hd:1≤d∧d≤4)(he:1≤e∧e≤4):inferE [(aNm,d),(bNm,e)] (op2E op)=if resD op [d,e]=0 then(0,6)else(resD op [d,e],0):=by
 have hv:validB (op2E op)=true:=by
  rcases(by omega:op=7∨op=8∨op=9∨op=10∨op=11∨op=12∨op=13∨op=14∨op=15∨op=16∨op=17∨op=18∨op=19∨op=20)with rfl|rfl|rfl|rfl|rfl|rfl|rfl|rfl|rfl|rfl|rfl|rfl|rfl|rfl<;>decide+kernel
 have hdm:dimsOk [(aNm,d),(bNm,e)]=true:=by simp [dimsOk,hd,he]
 unfold inferE
 rw [if_pos ⟨hv,hdm⟩,op2E,inferF,infNode,if_neg (by omega),if_neg (by omega),if_neg (by omega),infersF,inf_ab1,infersF,inf_ab2,infersF]
 simp
structure RngS(s:List Int × List Bool)(dims:List Int):Prop where
 stk:∀z∈s.1,1≤z∧z≤4
 set:∀k,s.2.getD k false=true→1≤dims.getD k 0
 len:s.2.length=12
def RngD(dims:List Int):Prop:=dims.length=12∧∀k,0≤dims.getD k 0∧dims.getD k 0≤4
theorem last_rng{l:List Int}(h:∀z∈l,1≤z∧z≤4)(hne:l≠[]):1≤l.getLastD 0∧l.getLastD 0≤4:=h _ (last_mem hne)
theorem inDs_rng{k:Nat}(h:k<11):1≤inDs.getD k 0∧inDs.getD k 0≤4:=by
 have key:∀k,k<11→(1:Int)≤inDs.getD k 0∧inDs.getD k 0≤4:=by decide
 exact key k h
theorem resD_rng{op:Int}{d:List Int}(hd:∀z∈d,1≤z∧z≤4)(h:resD op d≠0):1≤resD op d∧resD op d≤4:=by
 have h0:∀k,0≤d.getD k 0∧d.getD k 0≤4:=fun k=>by
  exact sz48
 have a0:=h0 0;have b0:=h0 1;have c0:=h0 2
 have hp:=resD_pos (fun z hz=>(hd z hz).1) h
 refine⟨hp, ?_⟩
 revert hp
 clear h
 unfold resD
 dsimp only
 generalize d.getD 0 0=a at *
 generalize d.getD 1 0=b at *
 generalize d.getD 2 0=c at *
 intro h
 repeat' split at h
 all_goals(repeat' split)<;>omega
theorem RngS.push{s:List Int × List Bool}{dims:List Int}(h:RngS s dims){z:Int}(hz:1≤z∧z≤4):RngS (s.1++[z],s.2) dims:=
 ⟨fun y hy=>by
  rcases List.mem_append.1 hy with hy|hy
  ·exact h.stk y hy
  ·obtain rfl:=List.mem_singleton.1 hy;exact hz,h.set,h.len⟩
theorem RngS.sub{s:List Int × List Bool}{dims:List Int}(h:RngS s dims){l:List Int}(hl:∀z∈l,z∈s.1):RngS (l,s.2) dims:=⟨fun y hy=>h.stk y (hl y hy),h.set,h.len⟩
theorem appA_rng{m n i:Nat}{x:Ins}{s s':List Int × List Bool}{dims dims':List Int}(hx:wfF m n i x=true)(hm:m≤12)(hs:RngS s dims)(hd:RngD dims)(h:appA x s dims=some (s',dims')) :
 RngS s' dims'∧RngD dims'∧∀k,1≤dims.getD k 0→1≤dims'.getD k 0:=by
 unfold wfF at hx
 unfold appA at h
 by_cases h1:x.op=1
 ·rw [if_pos h1]at hx h
  obtain⟨rfl,rfl⟩:=Prod.mk.inj (Option.some.inj h)
  exact⟨hs.push (by simp at hx;omega),hd,fun _ h=>h⟩
 rw [if_neg h1]at hx h
 by_cases hz:¬(x.n=0∧x.d=0)
 ·rw [if_pos hz]at hx;cases hx
 rw [if_neg hz]at hx
 by_cases h2:x.op=2
 ·rw [if_pos h2]at hx h
  obtain⟨rfl,rfl⟩:=Prod.mk.inj (Option.some.inj h)
  exact⟨hs.push (inDs_rng (by simp at hx;omega)),hd,fun _ h=>h⟩
 rw [if_neg h2]at hx h
 by_cases h5:x.op=5
 ·rw [if_pos h5]at h
  obtain⟨rfl,rfl⟩:=Prod.mk.inj (Option.some.inj h)
  exact⟨hs.push (by omega),hd,fun _ h=>h⟩
 rw [if_neg h5]at h
 by_cases h23:x.op=23∨x.op=24
 ·rw [if_pos h23]at h
  obtain⟨rfl,rfl⟩:=Prod.mk.inj (Option.some.inj h)
  exact⟨hs.push (by omega),hd,fun _ h=>h⟩
 rw [if_neg h23]at h
 by_cases h3:x.op=3
 ·rw [if_pos h3]at h
  by_cases hb:s.2.getD x.a.toNat false=true
  ·rw [if_pos hb]at h
   obtain⟨rfl,rfl⟩:=Prod.mk.inj (Option.some.inj h)
   exact⟨hs.push ⟨hs.set _ hb,(hd.2 _).2⟩,hd,fun _ h=>h⟩
  ·rw [if_neg hb]at h;cases h
 rw [if_neg h3]at h
 by_cases h4:x.op=4
 ·rw [if_pos h4]at h
  rw [if_pos (.inr h4)]at hx
  have ha:x.a.toNat<12:=by simp at hx;omega
  by_cases he:s.1= []
  ·rw [if_pos he]at h;cases h
  rw [if_neg he]at h
  obtain⟨rfl,rfl⟩:=Prod.mk.inj (Option.some.inj h)
  have hl:=last_rng hs.stk he
  have hD:RngD (dims.set x.a.toNat (s.1.getLastD 0)):=⟨by rw [List.length_set];exact hd.1,fun k=>by
   rw [getD_setI]
   split
   ·omega
   ·exact hd.2 k⟩
  refine⟨⟨fun z hz=>hs.stk z (List.dropLast_subset _ hz),fun k hk=>?_,by rw [List.length_set];exact hs.len⟩,hD,fun k hk=>?_⟩
  ·rw [getD_setI]at hk ⊢
   by_cases e:x.a.toNat=k
   ·rw [if_pos ⟨e,by rw [hd.1];omega⟩];exact hl.1
   ·rw [if_neg (fun c=>e c.1)]at hk ⊢
    exact hs.set k hk
  ·rw [getD_setI]
   split
   ·exact hl.1
   ·exact hk
 rw [if_neg h4]at h
 by_cases h22:x.op=22
 ·rw [if_pos h22]at h
  by_cases he:s.1= []∨s.1.getLastD 0≠1
  ·rw [if_pos he]at h;cases h
  rw [if_neg he]at h
  obtain⟨rfl,rfl⟩:=Prod.mk.inj (Option.some.inj h)
  exact⟨hs.sub fun z hz=>List.dropLast_subset _ hz,hd,fun _ h=>h⟩
 rw [if_neg h22]at h
 by_cases h21:x.op=21
 ·rw [if_pos h21]at h
  obtain⟨rfl,rfl⟩:=Prod.mk.inj (Option.some.inj h)
  exact⟨hs,hd,fun _ h=>h⟩
 rw [if_neg h21]at h
 by_cases hl:s.1.length<ariF (opF x.op)
 ·rw [if_pos hl]at h;cases h
 rw [if_neg hl]at h
 by_cases hr:resD (opF x.op) (s.1.drop (s.1.length-ariF (opF x.op)))=0
 ·rw [if_pos hr]at h;cases h
 rw [if_neg hr]at h
 obtain⟨rfl,rfl⟩:=Prod.mk.inj (Option.some.inj h)
 have hp:=resD_rng (fun z hz=>hs.stk z (List.mem_of_mem_drop hz)) hr
 exact⟨(hs.sub (l:=s.1.take (s.1.length-ariF (opF x.op))) fun z hz=>List.mem_of_mem_take hz).push hp,hd,fun _ h=>h⟩
end Go.Proofs.YtblkcgceefjmjaaGreatDoor
namespace Go.Proofs.YtblkcgceefjmjaaGreatDoor
open Go.RowKit
abbrev bdN(l:List (ByteArray × Int))(i:Nat):ByteArray:=(l.getD i (ByteArray.empty,0)).1
abbrev bdD(l:List (ByteArray × Int))(i:Nat):Int:=(l.getD i (ByteArray.empty,0)).2
def BindAt(w:World)(v:Value)(l:List (ByteArray × Int)):Prop:=
 l.length≤1000∧∃a cap,v= .slice a l.length cap∧(l.length=0∨∃b off,a=some ⟨b,off,none⟩∧b<w.heap.size∧∀i,i<l.length→w.cell? ⟨b,off+i*2,none⟩=some (.string (bdN l i))∧w.cell? ⟨b,off+i*2+1,none⟩=some (.int .i64 (bdD l i)))
theorem BindAt.below{w w':World}{v:Value}{l:List (ByteArray × Int)}{n:Nat}(h:BindAt w v l)(hn:w.heap.size≤n)(hb:Below n w w'):BindAt w' v l:=by
 obtain⟨h0,a,cap,hv,h1⟩:=h
 refine⟨h0,a,cap,hv,h1.imp id ?_⟩
 rintro⟨b,off,ha,hlt,hc⟩
 refine⟨b,off,ha,Nat.lt_of_lt_of_le hlt hb.size,fun i hi=>?_⟩
 rw [hb.cell (p:=⟨b,off+i*2,none⟩) (Nat.lt_of_lt_of_le hlt hn),hb.cell (p:=⟨b,off+i*2+1,none⟩) (Nat.lt_of_lt_of_le hlt hn)]
 exact hc i hi
theorem BindAt.grows{w w':World}{v:Value}{l:List (ByteArray × Int)}(h:BindAt w v l)(hg:w.Grows w'):BindAt w' v l:=h.below (Nat.le_refl _) hg.below
theorem BindAt.grow{w:World}{v:Value}{l:List (ByteArray × Int)}(h:BindAt w v l)(bs:Array Obj)(d:Nat):BindAt (w.grow bs d) v l:=h.grows ⟨bs,d,rfl⟩
theorem BindAt.alloc{w:World}{v:Value}{l:List (ByteArray × Int)}(h:BindAt w v l)(o:Obj):BindAt (w.alloc o) v l:=h.below (Nat.le_refl _) ((Below.refl _ _).alloc (Nat.le_refl _) _)
def PredB(g:FuncId)(lb:Array Value)(l:List (ByteArray × Int))(p:Nat→Bool)(w:World):Prop:=
 ∀k,k<l.length→∀w',w.Grows w'→Calls Tryz.prog g (#[.agg #[.string (bdN l k),.int .i64 (bdD l k)]]++lb) w' fun r w''=>r= .returned (.bool (p k))∧w'.Grows w''
theorem idxB_any(g:FuncId)(lb:Array Value)(eg:∀args w,(callFunc g args).run Tryz.prog w= .ok (.enter g args) w)(l:List (ByteArray × Int))(v:Value)(p:Nat→Bool)(w:World)(h:BindAt w v l)(hp:Hid (PredB g lb l p w)) :
 Calls Tryz.prog 214 #[v,.func (.func g) #[] lb] w fun r w'=>(∃z,r= .returned (.int .i64 z)∧IdxE l.length p z)∧w.Grows w':=by
 obtain⟨hlen,a,cap,rfl,hc⟩:=h
 have Hc:=Lib.hid hc
 clear hc
 go_enter Tryz.func214,Tryz.ntmps214
 go_wp2_with fail
 go_loopw [5,8] (fun _ v8 wr=>∃k:Nat,k≤l.length∧v8= .int .i64 k∧Hid (∀j,j<k→p j=false)∧w.Grows wr) (fun _ v8 _=>l.length-(intOf v8).toNat)
 case atStart=>exact⟨0,by omega,rfl,Lib.hid (fun j hj=>by omega),.refl _⟩
 case round=>
  obtain⟨k,hk,rfl,hno,hgr⟩:=hrel
  have HG:=Lib.hid hgr
  by_cases hlt2:k<l.length
  ·rcases Hc.out with h0|⟨b,off,rfl,hbw,hx⟩
   ·omega
   ·obtain⟨x0,x1⟩:=hx k hlt2
    have y0:wr.cell? ⟨b,off+k*2,none⟩=some (.string (bdN l k)):=by rw [hgr.below.cell (p:=⟨b,off+k*2,none⟩) hbw];exact x0
    have y1:wr.cell? ⟨b,off+k*2+1,none⟩=some (.int .i64 (bdD l k)):=by rw [hgr.below.cell (p:=⟨b,off+k*2+1,none⟩) hbw];exact x1
    clear hx x0 x1
    have d1:(k:Int)<(l.length:Int):=by omega
    have hcall:=hp.out k hlt2 _ hgr
    generalize bdN l k=nk at *
    generalize bdD l k=dk at *
    have HLT:=Lib.hid hlt2
    clear hgr
    cases hq:p k with
    |true=>
     rw [hq]at hcall
     have HQ:=Lib.hid hq
     clear hq
     have HCL:=Lib.hid hcall
     clear hcall
     go_wp2_with (go_at_fn g;refine HCL.out.mono ?_;rintro e' w' ⟨rfl,hg2⟩;have HG2:=Lib.hid hg2;clear hg2)
     go_returns
     exact⟨⟨_,rfl,.inr ⟨k,HLT.out,rfl,HQ.out⟩⟩,World.Grows.trans HG.out HG2.out⟩
    |false=>
     rw [hq]at hcall
     have HQ:=Lib.hid hq
     clear hq
     have HCL:=Lib.hid hcall
     clear hcall
     go_wp2_with (go_at_fn g;refine HCL.out.mono ?_;rintro e' w' ⟨rfl,hg2⟩;have HG2:=Lib.hid hg2;clear hg2)
     go_roundw
     case rel=>exact⟨k+1,by omega,by go_num,Lib.hid (fun j hj=>by
      by_cases ej:j=k
      ·subst ej;exact HQ.out
      ·exact hno.out j (by omega)),World.Grows.trans HG.out HG2.out⟩
     case measure=>simp [intOf];omega
  ·obtain rfl:k=l.length:=by omega
   clear hgr
   go_wp2_with fail
   go_returns
   exact⟨⟨_,rfl,.inl ⟨rfl,hno.out⟩⟩,HG.out⟩
theorem containsB_any(g:FuncId)(lb:Array Value)(eg:∀args w,(callFunc g args).run Tryz.prog w= .ok (.enter g args) w)(l:List (ByteArray × Int))(v:Value)(p:Nat→Bool)(w:World)(h:BindAt w v l)(hp:Hid (PredB g lb l p w)) :
 Calls Tryz.prog 139 #[v,.func (.func g) #[] lb] w fun r w'=>r= .returned (.bool ((List.range l.length).any p))∧w.Grows w':=by
 have HI:=Lib.hid (idxB_any g lb eg l v p w h hp)
 obtain⟨-,a,cap,rfl,-⟩:=h
 clear hp
 generalize hX:(List.range l.length).any p=X
 have HX:=Lib.hid hX
 clear hX
 go_enter Tryz.func139,Tryz.ntmps139
 go_wp2_with (go_at_call 214;refine HI.out.mono ?_;rintro e' w' ⟨⟨z,rfl,hz⟩,bs2,d2,rfl⟩;have HZ:=Lib.hid hz.any;clear hz)
 go_returns
 exact⟨ret_bool (by rw [←HX.out,←HZ.out]),.of_below belB⟩
theorem badB_clos:∀args w,(callFunc 141 args).run Tryz.prog w= .ok (.enter 141 args) w:=enters_of Tryz.func141 (by kernel_rfl) rfl
theorem badB_one(n:ByteArray)(d:Int)(w:World):Calls Tryz.prog 141 #[.agg #[.string n,.int .i64 d]] w fun r w'=>r= .returned (.bool (!decide (1≤d∧d≤4)))∧w.Grows w':=by
 by_cases h1:d<1
 ·go_enter Tryz.func141,Tryz.ntmps141
  exact sz16
 ·by_cases h2:d > 4
  ·go_enter Tryz.func141,Tryz.ntmps141
   exact sz16
  ·go_enter Tryz.func141,Tryz.ntmps141
   exact sz16
end Go.Proofs.YtblkcgceefjmjaaGreatDoor
namespace Go.Proofs.YtblkcgceefjmjaaGreatDoor
open Go.RowKit Go.Shelf
attribute [local go_sem] Oper.semAt_some
def backs(n k:Nat):List (Fin n):=(List.finRange n).reverse.take k
theorem backs_succ(n k:Nat)(i:Fin n)(hk:k<n)(hi:n-1-k=i.1):backs n (k+1)=backs n k++[i]:=by
 have hl:k<(List.finRange n).reverse.length:=by simpa using hk
 unfold backs
 rw [List.take_succ_eq_append_getElem hl]
 congr 2
 apply Fin.ext
 rw [List.getElem_reverse]
 simp
 omega
theorem backs_length(n k:Nat)(hk:k≤n):(backs n k).length=k:=by simp [backs,hk]
theorem backs_mem{n k:Nat}(i:Fin n)(hk:n≤i.1+k):i∈backs n k:=by
 unfold backs
 have hl:n-1-i.1<(List.finRange n).reverse.length:=by simp;omega
 have he:(List.finRange n).reverse[n-1-i.1]=i:=by
  apply Fin.ext
  rw [List.getElem_reverse]
  simp
  omega
 rw [List.mem_take_iff_getElem]
 exact⟨n-1-i.1,by simp;omega,he⟩
abbrev BRow:=List (ByteArray × Int)
def BRow.el(x:BRow)(i:Nat):Value:=.agg #[.string (bdN x i),.int .i64 (bdD x i)]
def BRow.Lies(x:BRow)(n₀:Nat)(W:World)(v:Value)(n:Nat):Prop:=
 n≤1000∧∃a cap,v= .slice a n cap∧(n=0∨∃b off,a=some ⟨b,off,none⟩∧b<n₀∧∀i,i<n→W.cell? ⟨b,off+i*2,none⟩=some (.string (bdN x i))∧W.cell? ⟨b,off+i*2+1,none⟩=some (.int .i64 (bdD x i)))
theorem BRow.Lies.below{x:BRow}{n₀ n:Nat}{W W':World}{v:Value}(h:BRow.Lies x n₀ W v n)(hb:Below n₀ W W'):BRow.Lies x n₀ W' v n:=by
 obtain⟨h0,a,cap,hv,h1⟩:=h
 refine⟨h0,a,cap,hv,h1.imp id ?_⟩
 rintro⟨b,off,ha,hlt,hc⟩
 refine⟨b,off,ha,hlt,fun i hi=>?_⟩
 rw [hb.cell (p:=⟨b,off+i*2,none⟩) hlt,hb.cell (p:=⟨b,off+i*2+1,none⟩) hlt]
 exact hc i hi
theorem BindAt.lies{W:World}{v:Value}{l:List (ByteArray × Int)}(h:BindAt W v l):BRow.Lies l W.heap.size W v l.length:=h
theorem backB1_in(F:Fence)(n:Nat)(hf:F.fn 284)(hro:F.round=none)(hn:1≤n)(l Bs n₀ len:Nat)(x:BRow)(v:Value)(J Jx:List (Fin len)→World→Prop)
 (hY:∀pre (i:Fin len) W,J pre W→pre.length<len→YieldAt F (n-1) Tryz.prog l #[.int .i64 ((i.1:Nat):Int),x.el i.1] W fun e W'=>
  (e= .returned (.bool true)∧J (pre++[i]) W'∧Below n₀ W W')∨(e= .returned (.bool false)∧Jx (pre++[i]) W'))
 (W:World) (hBs:W.cell? ⟨Bs,0,none⟩=some v) (hBl:Bs<n₀) (hL:x.Lies n₀ W v len) (h0:J [] W) :
 CallsIn F n Tryz.prog 284 #[.func (.yield l) #[] #[],.pointer (some ⟨Bs,0,none⟩)] W fun e W'=>(∃v,e= .returned v)∧
  ((∃ys,ys=backs len len∧J ys W')∨(∃pre,(∃k,k<len∧pre=backs len (k+1))∧Jx pre W')):=by
 have HL:=Lib.hid hL
 obtain⟨h1000,a,cap,rfl,-⟩:=hL
 refine callsIn_of_wp Tryz.func284 rfl hf ?_ hro
 simp only [Tryz.ntmps284,List.size_toArray,List.length_cons,List.length_nil,Nat.reduceAdd,Nat.reduceSub,Array.replicate_succ,Array.replicate_zero,List.push_toArray,List.append_toArray,List.nil_append,List.cons_append]
 gi_wp2
 gi_loopw [3] (fun vi wr=>∃k:Nat,k≤len∧vi= .int .i64 ((len:Int)-1-k)∧J (backs len k) wr∧Below n₀ W wr) (fun vi _=>(intOf vi+1).toNat)
 case atStart=>exact⟨0,Nat.zero_le _,by simp,h0,Below.refl _ _⟩
 case round=>
  obtain⟨k,hk,rfl,hJs,hnx⟩:=hrel
  by_cases hlt:k<len
  ·have hcs:=(hnx.cell (p:=⟨Bs,0,none⟩) hBl).trans hBs
   have hLr:=HL.out.below hnx
   obtain⟨-,a',cap',hv,hx⟩:=hLr
   simp only [Value.slice.injEq,true_and]at hv
   obtain⟨rfl,rfl⟩:=hv
   rcases hx with hx|⟨b,off,rfl,hb,hx⟩
   ·omega
   obtain⟨i,hi⟩:∃i:Nat,(len:Int)-1-k=i:=⟨len-1-k,by omega⟩
   have hii:i<len:=by omega
   have hik:len-1-k=i:=by omega
   obtain⟨q0,q1⟩:=hx i hii
   obtain⟨fn,tmps,assign,body,hy,hR⟩:=hY _ ⟨i,hii⟩ wr hJs (by rw [backs_length _ _ hk];exact hlt)
   simp only at hy
   unfold BRow.el at hy
   unfold bdN at hy q0
   unfold bdD at hy q1
   generalize(x.getD i (ByteArray.empty,0)).1=z0 at *
   generalize(x.getD i (ByteArray.empty,0)).2=z1 at *
   have d1:(i:Int)<(len:Int):=by omega
   have d0:(0:Int)≤(i:Int):=by omega
   have hlen1:(len:Int)≤1000:=by omega
   rw [hi]
   have HI:=Lib.hid hi
   have HIK:=Lib.hid hik
   clear hx hi hik hBs h0
   gi_wp2
   refine hR.mono ?_
   rintro e W3 (⟨rfl,hJ3,hk3⟩|⟨rfl,hJx3⟩)
   ·gi_wp2
    go_roundw
    case rel=>exact⟨k+1,by omega,by have:=HI.out;first|(congr 1;omega)|(simp;omega),by rw [backs_succ _ _ ⟨i,hii⟩ hlt HIK.out];exact hJ3,hnx.trans hk3⟩
    case measure=>first|(simp [intOf];done)|(simp [intOf];omega)
   ·gi_wp2
    refine bodyPost_ret (results_none rfl _ _ _) rfl ?_
    exact⟨⟨_,rfl⟩,.inr ⟨_,⟨k,hlt,by rw [backs_succ _ _ ⟨i,hii⟩ hlt HIK.out]⟩,hJx3⟩⟩
  ·obtain rfl:k=len:=by omega
   have hz:(k:Int)-1-k= -1:=by omega
   rw [hz]
   clear hz
   gi_wp2
   go_end0
   exact⟨⟨_,rfl⟩,.inl ⟨_,rfl,hJs⟩⟩
theorem backB_in(F:Fence)(n:Nat)(hf:F.fn 260)(hro:F.round=none)(a:Option Addr)(len cap:Nat)(w:World) :
 CallsIn F n Tryz.prog 260 #[.slice a len cap] w fun e w'=>e= .returned (.func (.func 284) #[] #[.pointer (some ⟨w.heap.size,0,none⟩)])∧w'=w.alloc (.cells #[.slice a len cap] 52):=by
 refine callsIn_of_wp Tryz.func260 rfl hf ?_ hro
 simp only [Tryz.ntmps260,List.size_toArray,List.length_cons,List.length_nil,Nat.reduceAdd,Nat.reduceSub,Array.replicate_succ,Array.replicate_zero,List.push_toArray,List.append_toArray,List.nil_append,List.cons_append]
 gi_wp2
 go_ret
 exact⟨rfl,rfl⟩
theorem backB_stops(F:Fence)(n:Nat)(hf:F.fn 284)(hro:F.round=none)(hn:1≤n)(Bs n₀:Nat)(v:Value)(x:BRow)(len:Nat)(w:World)(hBs:Bs<n₀)(hn₀:n₀≤w.heap.size)
 (hc:w.cell? ⟨Bs,0,none⟩=some v) (hL:x.Lies n₀ w v len) :
 SeqStopsK F n Tryz.prog 284 #[.pointer (some ⟨Bs,0,none⟩)] (fun i:Fin len=>#[Value.int .i64 ((i.1:Nat):Int),x.el i.1]) (Below n₀) (fun ys=>ys=backs len len)
  (fun pre=>∃k,k<len∧pre=backs len (k+1)) len w:=fun l J Jx W hW _ _ hY h0=>
 backB1_in F n hf hro hn l Bs n₀ len x v J Jx hY W ((hW.cell (p:=⟨Bs,0,none⟩) (by show Bs<w.heap.size;omega)).trans hc) hBs (hL.below (hW.mono hn₀)) h0
end Go.Proofs.YtblkcgceefjmjaaGreatDoor
namespace Go.Proofs.YtblkcgceefjmjaaGreatDoor
def SubS(s:List Int × List Bool):Option (List Int × List Bool)→Prop
 |none=>False
 |some t=>t.1=s.1∧∀k,t.2.getD k false=true→s.2.getD k false=true
structure Cert(l:List Ins)(m:Nat)(F:List (Option (List Int × List Bool)))(D:List Int):Prop where
 wf:∀i,i<l.length→wfF m l.length i (l.getD i default)=true
 m12:m≤12
 dlen:D.length=12
 zero:∃s,F.getD 0 none=some s∧s.1= []∧∀k,s.2.getD k false=false
 step:∀i,i<l.length→∃s s',F.getD i none=some s∧appA (l.getD i default) s D=some (s',D)∧s'.1.length≤24∧
  ((l.getD i default).op≠21→SubS s' (F.getD (i+1) none))∧((l.getD i default).op=21∨(l.getD i default).op=22→SubS s' (F.getD (l.getD i default).a.toNat none))
 last:∀s,F.getD l.length none=some s→s.1= []
def DoneL(P:Nat→Bool)(S:List (Option (List Int × List Bool))):Prop:=∀j s,S.getD j none=some s→∀k,s.2.getD k false=true→P k=true
theorem SubS.refl{S:List (Option (List Int × List Bool))}{j:Nat}{s:List Int × List Bool}(h:S.getD j none=some s):SubS s (S.getD j none):=by
 rw [h];exact⟨rfl,fun _ h=>h⟩
theorem SubS.trans{s t:List Int × List Bool}{o:Option (List Int × List Bool)}(h:t.1=s.1∧∀k,t.2.getD k false=true→s.2.getD k false=true)(g:SubS t o):SubS s o:=by
 cases o with
 |none=>exact g
 |some u=>exact⟨g.1.trans h.1,fun k hk=>h.2 k (g.2 k hk)⟩
section
variable {S S' : List (Option (List Int × List Bool))} {s : List Int × List Bool}
theorem putA_sub{k:Nat}(h:putA S k s=some S'):(∀j,j≠k→S'.getD j none=S.getD j none)∧(∀j u,S.getD j none=some u→SubS u (S'.getD j none))∧(k<S.length→SubS s (S'.getD k none))∧
 ∀P:Nat→Bool,DoneL P S→(∀k,s.2.getD k false=true→P k=true)→DoneL P S':=by
 unfold putA at h
 cases hk:S.getD k none with
 |none=>
  rw [hk]at h
  obtain rfl:=Option.some.inj h
  refine⟨fun j hj=>by rw [getD_setI,if_neg (fun c=>hj c.1.symm)],fun j u hu=>?_,fun hl=>?_,fun P hP hs j u hu=>?_⟩
  ·by_cases e:k=j
   ·subst e;rw [hk]at hu;cases hu
   ·rw [getD_setI,if_neg (fun c=>e c.1)];exact .refl hu
  ·rw [getD_setI,if_pos ⟨rfl,hl⟩];exact⟨rfl,fun _ h=>h⟩
  ·rw [getD_setI]at hu
   split at hu
   ·obtain rfl:=Option.some.inj hu;exact hs
   ·exact hP j u hu
 |some t=>
  rw [hk]at h
  by_cases e:t.1=s.1
  ·simp only [if_pos e]at h
   obtain rfl:=Option.some.inj h
   refine⟨fun j hj=>by rw [getD_setI,if_neg (fun c=>hj c.1.symm)],fun j u hu=>?_,fun hl=>?_,fun P hP hs j u hu=>?_⟩
   ·rw [getD_setI]
    split
    ·rename_i c
     obtain rfl:=c.1
     rw [hk]at hu
     obtain rfl:=Option.some.inj hu
     exact⟨rfl,fun k hk=>(zip_true hk).1⟩
    ·exact .refl hu
   ·rw [getD_setI,if_pos ⟨rfl,hl⟩];exact⟨e,fun k hk=>(zip_true hk).2⟩
   ·rw [getD_setI]at hu
    split at hu
    ·obtain rfl:=Option.some.inj hu;exact fun k hk=>hs k (zip_true hk).2
    ·exact hP j u hu
  ·simp only [if_neg e]at h;cases h
end
theorem appA_end{m n i:Nat}{x:Ins}{s s':List Int × List Bool}{dims dims' D:List Int}{P:Nat→Bool}(hx:wfF m n i x=true)(hm:m≤12)(hdl:dims.length=12)(hDl:D.length=12)(h:appA x s dims=some (s',dims'))(hdone:∀k,s.2.getD k false=true→P k=true)
 (hD:∀k,(P k || (decide (x.op=4)&&decide (k=x.a.toNat)))=true→D.getD k 0=dims'.getD k 0) (hset:x.op=4→P x.a.toNat=false) :
 appA x s D=some (s',D)∧dims'.length=12∧(∀k,P k=true→dims'.getD k 0=dims.getD k 0)∧∀k,s'.2.getD k false=true→(P k || (decide (x.op=4)&&decide (k=x.a.toNat)))=true:=by
 have ha:x.op=4→x.a.toNat<12:=fun h4=>by
  unfold wfF at hx
  rw [if_neg (by omega)]at hx
  by_cases hz:¬(x.n=0∧x.d=0)
  ·rw [if_pos hz]at hx;cases hx
  rw [if_neg hz,if_neg (by omega),if_pos (.inr h4)]at hx
  simp at hx;omega
 have hor:∀k,s.2.getD k false=true→(P k || (decide (x.op=4)&&decide (k=x.a.toNat)))=true:=fun k hk=>by rw [hdone k hk];rfl
 unfold appA at h ⊢
 by_cases h1:x.op=1
 ·simp only [if_pos h1]at h ⊢
  obtain⟨rfl,rfl⟩:=Prod.mk.inj (Option.some.inj h)
  exact⟨rfl,hdl,fun _ _=>rfl,hor⟩
 simp only [if_neg h1]at h ⊢
 by_cases h2:x.op=2
 ·simp only [if_pos h2]at h ⊢
  obtain⟨rfl,rfl⟩:=Prod.mk.inj (Option.some.inj h)
  exact⟨rfl,hdl,fun _ _=>rfl,hor⟩
 simp only [if_neg h2]at h ⊢
 by_cases h5:x.op=5
 ·simp only [if_pos h5]at h ⊢
  obtain⟨rfl,rfl⟩:=Prod.mk.inj (Option.some.inj h)
  exact⟨rfl,hdl,fun _ _=>rfl,hor⟩
 simp only [if_neg h5]at h ⊢
 by_cases h23:x.op=23∨x.op=24
 ·simp only [if_pos h23]at h ⊢
  obtain⟨rfl,rfl⟩:=Prod.mk.inj (Option.some.inj h)
  exact⟨rfl,hdl,fun _ _=>rfl,hor⟩
 simp only [if_neg h23]at h ⊢
 by_cases h3:x.op=3
 ·simp only [if_pos h3]at h ⊢
  by_cases hb:s.2.getD x.a.toNat false=true
  ·rw [if_pos hb]at h ⊢
   obtain⟨rfl,rfl⟩:=Prod.mk.inj (Option.some.inj h)
   rw [hD _ (hor _ hb)]
   exact⟨rfl,hdl,fun _ _=>rfl,hor⟩
  ·rw [if_neg hb]at h;cases h
 simp only [if_neg h3]at h ⊢
 by_cases h4:x.op=4
 ·simp only [if_pos h4]at h ⊢
  by_cases he:s.1= []
  ·rw [if_pos he]at h;cases h
  rw [if_neg he]at h ⊢
  obtain⟨rfl,rfl⟩:=Prod.mk.inj (Option.some.inj h)
  have hset0:=hset h4
  have e:D.set x.a.toNat (s.1.getLastD 0)=D:=by
   have h7:=hD x.a.toNat (by rw [decide_eq_true h4];simp)
   rw [getD_setI,if_pos ⟨rfl,by have:=ha h4;omega⟩]at h7
   apply List.ext_getElem?
   intro k
   rw [List.getElem?_set]
   split
   ·rename_i ek
    subst ek
    have hlt:=ha h4
    rw [if_pos (by omega),List.getElem?_eq_getElem (by omega),←h7,List.getD_eq_getElem?_getD,List.getElem?_eq_getElem (by omega)];rfl
   ·rfl
  refine⟨by rw [e],by rw [List.length_set];exact hdl,fun k hk=>?_,fun k hk=>?_⟩
  ·rw [getD_setI,if_neg]
   intro c
   rw [←c.1,hset0]at hk;cases hk
  ·rw [getD_setI]at hk
   split at hk
   ·rename_i c
    rw [decide_eq_true h4,decide_eq_true c.1.symm];simp
   ·exact hor k hk
 simp only [if_neg h4]at h ⊢
 by_cases h22:x.op=22
 ·simp only [if_pos h22]at h ⊢
  by_cases he:s.1= []∨s.1.getLastD 0≠1
  ·rw [if_pos he]at h;cases h
  ·rw [if_neg he]at h ⊢
   obtain⟨rfl,rfl⟩:=Prod.mk.inj (Option.some.inj h)
   exact⟨rfl,hdl,fun _ _=>rfl,fun k hk=>by have:=hor k hk;simpa [h4]using this⟩
 simp only [if_neg h22]at h ⊢
 by_cases h21:x.op=21
 ·simp only [if_pos h21]at h ⊢
  obtain⟨rfl,rfl⟩:=Prod.mk.inj (Option.some.inj h)
  exact⟨rfl,hdl,fun _ _=>rfl,fun k hk=>by have:=hor k hk;simpa [h4]using this⟩
 simp only [if_neg h21]at h ⊢
 by_cases hn:s.1.length<ariF (opF x.op)
 ·rw [if_pos hn]at h;cases h
 rw [if_neg hn]at h ⊢
 by_cases hr:resD (opF x.op) (s.1.drop (s.1.length-ariF (opF x.op)))=0
 ·rw [if_pos hr]at h;cases h
 rw [if_neg hr]at h ⊢
 obtain⟨rfl,rfl⟩:=Prod.mk.inj (Option.some.inj h)
 exact⟨rfl,hdl,fun _ _=>rfl,fun k hk=>by have:=hor k hk;simpa [h4]using this⟩
theorem appA_len{x:Ins}{s s':List Int × List Bool}{dims dims':List Int}(hd:dims.length=12)(h:appA x s dims=some (s',dims')):dims'.length=12:=by
 unfold appA at h
 repeat' split at h
 all_goals first
  |(cases h;done)
  |(obtain⟨-,rfl⟩:=Prod.mk.inj (Option.some.inj h);first|exact hd|(rw [List.length_set];exact hd))
theorem rndA_some{S S':List (Option (List Int × List Bool))}{x:Ins}{i dep dep':Nat}{dims dims':List Int}(h:rndA S x i dims dep=some (S',dims',dep')) :
 ∃s s' S1,S.getD i none=some s∧appA x s dims=some (s',dims')∧s'.1.length≤24∧(if x.op=21 then some S else putA S (i+1) s')=some S1∧(if x.op=21∨x.op=22 then putA S1 x.a.toNat s' else some S1)=some S':=by
 unfold rndA at h
 cases h1:S.getD i none with
 |none=>rw [h1]at h;cases h
 |some s=>
  rw [h1]at h
  cases h2:appA x s dims with
  |none=>simp only [h2]at h;cases h
  |some r=>
   obtain⟨s',d'⟩:=r
   simp only [h2]at h
   by_cases h3:24<s'.1.length
   ·rw [if_pos h3]at h;cases h
   rw [if_neg h3]at h
   cases h4:(if x.op=21 then some S else putA S (i+1) s')with
   |none=>simp only [h4]at h;cases h
   |some S1=>
    simp only [h4]at h
    cases h5:(if x.op=21∨x.op=22 then putA S1 x.a.toNat s' else some S1)with
    |none=>simp only [h5]at h;cases h
    |some S2=>
     simp only [h5]at h
     obtain⟨rfl,h6⟩:=Prod.mk.inj (Option.some.inj h)
     obtain⟨rfl,-⟩:=Prod.mk.inj h6
     exact⟨s,s',S1,rfl,h2,by omega,h4,h5⟩
theorem goA_cert{m n:Nat}(hm:m≤12):∀(r:List Ins) (i:Nat) (P:Nat→Bool) (S:List (Option (List Int × List Bool))) (dims:List Int) (dep:Nat) (d:Int),
 (∀k,k<r.length→wfF m n (i+k) (r.getD k default)=true)→(setsF r).Nodup→(∀a∈setsF r,P a=false)→DoneL P S→dims.length=12→S.length=n+1→i+r.length=n→goA r i S dims dep=(d,0)→
 ∃(F:List (Option (List Int × List Bool))) (D:List Int),D.length=12∧(∀j,j≤i→F.getD j none=S.getD j none)∧(∀j u,S.getD j none=some u→SubS u (F.getD j none))∧(∀k,P k=true→D.getD k 0=dims.getD k 0)∧
  (∀k,k<r.length→∃s s',F.getD (i+k) none=some s∧appA (r.getD k default) s D=some (s',D)∧s'.1.length≤24∧
   ((r.getD k default).op≠21→SubS s' (F.getD (i+k+1) none))∧((r.getD k default).op=21∨(r.getD k default).op=22→SubS s' (F.getD (r.getD k default).a.toNat none)))∧
  ∀s,F.getD n none=some s→s.1= []:=by
 intro r
 induction r with
 |nil=>
  intro i P S dims dep d _ _ _ _ hd _ hin hgo
  refine⟨S,dims,hd,fun _ _=>rfl,fun j u hu=>.refl hu,fun _ _=>rfl,fun k hk=>by simp at hk,fun s hs=>?_⟩
  simp only [List.length_nil]at hin
  obtain rfl:i=n:=by omega
  rw [goA,hs]at hgo
  by_cases he:s.1= []
  ·exact he
  ·simp only [if_neg he]at hgo
   cases(Prod.mk.inj hgo).2
 |cons x r ih=>
  intro i P S dims dep d hwf hnd hsP hdo hd hn hin hgo
  simp only [List.length_cons]at hin
  have hx:wfF m n i x=true:=hwf 0 (by simp)
  have hset:x.op=4→P x.a.toNat=false:=fun h=>hsP _ (by rw [setsF_cons,if_pos h];exact List.mem_cons_self ..)
  have hjmp:x.op=21∨x.op=22→i<x.a.toNat∧x.a.toNat<S.length:=fun h=>by
   unfold wfF at hx
   rw [if_neg (by omega)]at hx
   by_cases hz:¬(x.n=0∧x.d=0)
   ·rw [if_pos hz]at hx;cases hx
   rw [if_neg hz,if_neg (by omega),if_neg (by omega),if_neg (by omega),if_pos h]at hx
   simp at hx;omega
  rw [goA]at hgo
  cases hr:rndA S x i dims dep with
  |none=>rw [hr]at hgo;cases(Prod.mk.inj hgo).2
  |some t=>
   obtain⟨S',dims',dep'⟩:=t
   rw [hr]at hgo
   simp only at hgo
   obtain⟨s,s',S1,e1,e2,e3,e4,e5⟩:=rndA_some hr
   have hds:=hdo i s e1
   -- the two puts
   have hs':∀k,s'.2.getD k false=true→(P k || (decide (x.op=4)&&decide (k=x.a.toNat)))=true:=
    (appA_end (D:=dims'.set 0 (dims'.getD 0 0)) (P:=P) hx hm hd (by rw [List.length_set];exact appA_len hd e2) e2 hds (fun k _=>by rw [getD_setI];split<;>simp_all) hset).2.2.2
   have hp1:S1.length=S.length∧(∀j,j≤i→S1.getD j none=S.getD j none)∧(∀j u,S.getD j none=some u→SubS u (S1.getD j none))∧(x.op≠21→SubS s' (S1.getD (i+1) none))∧DoneL (fun k=>P k || (decide (x.op=4)&&decide (k=x.a.toNat))) S1:=by
    have hdo':DoneL (fun k=>P k || (decide (x.op=4)&&decide (k=x.a.toNat))) S:=fun j u hu k hk=>by
     show(P k || _)=true
     rw [hdo j u hu k hk];rfl
    by_cases c:x.op=21
    ·rw [if_pos c]at e4
     obtain rfl:=Option.some.inj e4
     exact⟨rfl,fun _ _=>rfl,fun j u hu=>.refl hu,fun h=>absurd c h,hdo'⟩
    ·rw [if_neg c]at e4
     obtain⟨q1,q2,q3,q4⟩:=putA_sub e4
     exact⟨(putA_keep e4).1,fun j hj=>q1 j (by omega),q2,fun _=>q3 (by omega),q4 _ hdo' hs'⟩
   have hp2:S'.length=S.length∧(∀j,j≤i→S'.getD j none=S.getD j none)∧(∀j u,S1.getD j none=some u→SubS u (S'.getD j none))∧(x.op=21∨x.op=22→SubS s' (S'.getD x.a.toNat none))∧DoneL (fun k=>P k || (decide (x.op=4)&&decide (k=x.a.toNat))) S':=by
    by_cases c:x.op=21∨x.op=22
    ·rw [if_pos c]at e5
     have⟨j1,j2⟩:=hjmp c
     obtain⟨q1,q2,q3,q4⟩:=putA_sub e5
     exact⟨(putA_keep e5).1.trans hp1.1,fun j hj=>(q1 j (by omega)).trans (hp1.2.1 j hj),q2,fun _=>q3 (by rw [hp1.1];exact j2),q4 _ hp1.2.2.2.2 hs'⟩
    ·rw [if_neg c]at e5
     obtain rfl:=Option.some.inj e5
     exact⟨hp1.1,hp1.2.1,fun j u hu=>.refl hu,fun h=>absurd h c,hp1.2.2.2.2⟩
   obtain⟨F,D,f1,f2,f3,f4,f5,f6⟩:=ih (i+1) (fun k=>P k || (decide (x.op=4)&&decide (k=x.a.toNat))) S' dims' dep' d
    (fun k hk=>by
     have:=hwf (k+1) (by simp;omega)
     rw [show i+1+k=i+(k+1)by omega]
     exact this)
    (by
     rw [setsF_cons]at hnd
     split at hnd
     ·exact(List.nodup_cons.1 hnd).2
     ·exact hnd)
    (fun a ha=>by
     rw [setsF_cons]at hnd hsP
     by_cases h:x.op=4
     ·rw [if_pos h]at hnd hsP
      have h5:a≠x.a.toNat:=fun e=>by subst e;exact(List.nodup_cons.1 hnd).1 ha
      rw [hsP a (List.mem_cons_of_mem _ ha),decide_eq_false h5];simp
     ·rw [if_neg h]at hsP
      rw [hsP a ha,decide_eq_false h];rfl)
    hp2.2.2.2.2 (appA_len hd e2) (by omega) (by omega) hgo
   obtain⟨g1,g2,g3,g4⟩:=appA_end (D:=D) hx hm hd f1 e2 hds f4 hset
   have hsub:∀u (o:Option (List Int × List Bool)) j,SubS u (S1.getD j none)→SubS u (F.getD j none):=fun u o j hu=>by
    cases h1:S1.getD j none with
    |none=>rw [h1]at hu;exact hu.elim
    |some t=>
     rw [h1]at hu
     have h2:=hp2.2.2.1 j t h1
     cases h3:S'.getD j none with
     |none=>rw [h3]at h2;exact h2.elim
     |some t'=>
      rw [h3]at h2
      exact .trans hu (.trans h2 (f3 j t' h3))
   refine⟨F,D,f1,fun j hj=>(f2 j (by omega)).trans (hp2.2.1 j hj),fun j u hu=>hsub u none j (hp1.2.2.1 j u hu),fun k hk=>?_,fun k hk=>?_,f6⟩
   ·rw [f4 k (by rw [hk];rfl)];exact g3 k hk
   ·cases k with
    |zero=>
     refine⟨s,s', ?_,g1,e3,fun c=>?_,fun c=>?_⟩
     ·rw [Nat.add_zero,f2 i (by omega),hp2.2.1 i (Nat.le_refl _)];exact e1
     ·exact hsub s' none _ (hp1.2.2.2.1 c)
     ·have h2:=hp2.2.2.2.1 c
      change SubS s' (S'.getD x.a.toNat none)at h2
      show SubS s' (F.getD x.a.toNat none)
      cases h3:S'.getD x.a.toNat none with
      |none=>rw [h3]at h2;exact h2.elim
      |some t'=>
       rw [h3]at h2
       exact .trans h2 (f3 _ t' h3)
    |succ k=>
     have:=f5 k (by simp at hk;omega)
     rw [show i+1+k=i+(k+1)by omega]at this
     exact this
theorem ver_cert{l:List Ins}{sl:List ByteArray}{d:Int}(h:verA l sl=(d,0)):∃F D,Cert l sl.length F D:=by
 unfold verA at h
 by_cases hf:formF l sl=true
 ·rw [if_pos hf]at h
  unfold formF wordsF at hf
  simp only [Bool.and_eq_true,decide_eq_true_eq,List.all_eq_true,List.mem_range]at hf
  obtain⟨⟨-,hwf⟩,⟨⟨hm,-⟩,-⟩,hnd⟩:=hf
  have gf:∀k,(List.replicate 12 false).getD k false=false:=fun k=>by
   rw [List.getD_eq_getElem?_getD,List.getElem?_replicate];split<;>rfl
  obtain⟨F,D,f1,f2,-,-,f5,f6⟩:=goA_cert hm l 0 (fun _=>false) _ _ 0 d (fun k hk=>by rw [Nat.zero_add];exact hwf k hk) hnd (fun _ _=>rfl) (fun j s hs k hk=>by
   cases j with
   |zero=>
    obtain rfl:=Option.some.inj hs
    rw [gf]at hk;cases hk
   |succ j=>
    rw [List.getD_cons_succ,List.getD_eq_getElem?_getD,List.getElem?_replicate]at hs
    split at hs<;>cases hs) (by simp) (by simp) (by simp) h
  refine⟨F,D,hwf,hm,f1,⟨_,f2 0 (Nat.le_refl _),rfl,gf⟩,fun i hi=>?_,f6⟩
  have:=f5 i hi
  rw [Nat.zero_add]at this
  exact this
 ·rw [if_neg hf]at h
  cases(Prod.mk.inj h).2
def cntS(l:List Ins)(k a:Nat):Nat:=(setsF (l.take k)).count a
theorem cntS_zero(l:List Ins)(a:Nat):cntS l 0 a=0:=by simp [cntS,setsF]
theorem setsF_append(l r:List Ins):setsF (l++r)=setsF l++setsF r:=by simp [setsF]
theorem take_one{l:List Ins}{k:Nat}(hk:k<l.length):l.take (k+1)=l.take k++[l.getD k default]:=by
 exact sz23
theorem cntS_set{l:List Ins}{k:Nat}(hk:k<l.length)(h:(l.getD k default).op=4)(a:Nat) :
 cntS l (k+1) a=cntS l k a+if(l.getD k default).a.toNat=a then 1 else 0:=by
 unfold cntS
 rw [take_one hk,setsF_append,List.count_append]
 congr 1
 have e:setsF [l.getD k default]= [(l.getD k default).a.toNat]:=by rw [setsF_cons,if_pos h];rfl
 rw [e,List.count_singleton]
 by_cases hx:(l.getD k default).a.toNat=a
 ·simp [hx]
 ·simp [hx]
theorem cntS_skip{l:List Ins}{k:Nat}(hk:k<l.length)(h:(l.getD k default).op≠4)(a:Nat) :
 cntS l (k+1) a=cntS l k a:=by
 unfold cntS
 rw [take_one hk,setsF_append,List.count_append]
 have e:setsF [l.getD k default]= []:=by rw [setsF_cons,if_neg h];rfl
 rw [e];simp
theorem cntS_mono(l:List Ins)(k a:Nat):cntS l k a≤(setsF l).count a:=by
 unfold cntS
 have:setsF l=setsF (l.take k)++setsF (l.drop k):=by rw [←setsF_append,List.take_append_drop]
 rw [this,List.count_append];omega
theorem nodup_of_cnt{l:List Ins}(h:∀a,cntS l l.length a≤1):(setsF l).Nodup:=by
 rw [List.nodup_iff_count]
 intro a
 have:=h a
 unfold cntS at this
 rwa [List.take_length]at this
theorem not_nodup_of_cnt{l:List Ins}{k a:Nat}(h:1<cntS l k a):¬(setsF l).Nodup:=by
 intro hn
 have h1:=List.nodup_iff_count.1 hn a
 have h2:=cntS_mono l k a
 omega
mutual
def mentB(s:ByteArray):Ex→Bool
 | .mk op _ _ _ nm l=>(decide (op=2)&&decide (nm=s)) || mentsB s l
def mentsB(s:ByteArray):List Ex→Bool
 | []=>false
 |e::r=>mentB s e || mentsB s r
end
theorem infNode_name{op m:Int}{a b:Int × Int}{r:List Int × Int}(h:op≠2):infNode op m a r=infNode op m b r:=by
 unfold infNode
 by_cases c:op=1
 ·rw [if_pos c,if_pos c]
 ·rw [if_neg c,if_neg c]
  by_cases c3:op=3
  ·rw [if_pos c3,if_pos c3]
  ·rw [if_neg c3,if_neg c3,if_neg h,if_neg h]
end Go.Proofs.YtblkcgceefjmjaaGreatDoor
namespace Go.Proofs.YtblkcgceefjmjaaGreatDoor
open Go.RowKit Go.Shelf
attribute [local go_sem] Oper.semAt_some
abbrev SRow:=List (ByteArray × Val)
abbrev stN(l:List (ByteArray × Val))(i:Nat):ByteArray:=(l.getD i (ByteArray.empty,Val.zero)).1
abbrev stV(l:List (ByteArray × Val))(i:Nat):Val:=(l.getD i (ByteArray.empty,Val.zero)).2
structure StepAt(W:World)(b o:Nat)(n:ByteArray)(x:Val):Prop where
 p0:W.cell? ⟨b,o,none⟩=some (.string n)
 p1:W.cell? ⟨b,o+1,none⟩=some (.int .i64 x.dim)
 p2:W.cell? ⟨b,o+2,none⟩=some (.bool x.yes)
 p3:W.cell? ⟨b,o+3,none⟩=some (.int .i64 x.n)
 p4:W.cell? ⟨b,o+4,none⟩=some (.int .i64 x.d)
theorem StepAt.same{W W':World}{b o:Nat}{n:ByteArray}{x:Val}(h:StepAt W b o n x)(hw:∀o,W'.cell? ⟨b,o,none⟩=W.cell? ⟨b,o,none⟩):StepAt W' b o n x:=
 ⟨by rw [hw];exact h.p0,by rw [hw];exact h.p1,by rw [hw];exact h.p2,by rw [hw];exact h.p3,by rw [hw];exact h.p4⟩
def SRow.el(x:SRow)(i:Nat):Value:=.agg #[.string (stN x i),.int .i64 (stV x i).dim,.bool (stV x i).yes,.int .i64 (stV x i).n,.int .i64 (stV x i).d]
def SRow.Lies(x:SRow)(n₀:Nat)(W:World)(v:Value)(n:Nat):Prop:=
 n≤1000∧∃a cap,v= .slice a n cap∧(n=0∨∃b off,a=some ⟨b,off,none⟩∧b<n₀∧∀i,i<n→StepAt W b (off+i*5) (stN x i) (stV x i))
theorem SRow.Lies.below{x:SRow}{n₀ n:Nat}{W W':World}{v:Value}(h:SRow.Lies x n₀ W v n)(hb:Below n₀ W W'):SRow.Lies x n₀ W' v n:=by
 obtain⟨h0,a,cap,hv,h1⟩:=h
 refine⟨h0,a,cap,hv,h1.imp id ?_⟩
 rintro⟨b,off,ha,hlt,hc⟩
 exact⟨b,off,ha,hlt,fun i hi=>(hc i hi).same fun o=>hb.cell (p:=⟨b,o,none⟩) hlt⟩
end Go.Proofs.YtblkcgceefjmjaaGreatDoor
