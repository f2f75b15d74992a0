import Derived.Test.YtfoefpoaomepbaaGreatDoorGForm
import Derived.Test.YtfoefpoaomepbaaGreatDoorGGen
import Derived.ProofKit
import Derived.SizedLaws
set_option linter.all false
set_option maxHeartbeats 16000000
set_option maxRecDepth 1000000
namespace Go.Proofs.YtfoefpoaomepbaaGreatDoor
open Tryz List

structure Val where
 dim:Int
 yes:Bool
 n:Int
 d:Int
namespace Val
def zero:Val:=⟨0,false,0,0⟩
def num(m n d:Int):Val:=⟨m,false,n,d⟩
def truth(b:Bool):Val:=⟨1,b,0,0⟩
def ok(x:Val):Bool:=if x.dim=1 then decide (x.n=0/\x.d=0)else decide (2<=x.dim/\x.dim<=4)&&!x.yes&&aL x.n x.d
end Val
structure Vw where
 age:Int
 year:Int
 children:Int
 insured:Int
 worked:Int
 voluntary:Int
 service:Int
 equated:Int
 raising:Int
 resident:Int
 bn:Int
 bd:Int
 years:List Int
def FK(l:List Int):Bool:=decide (l.length<=200)&&l.all fun x=>decide (0<=x/\x<=1000000000000)
def oF(z:Int):Bool:=decide (0<=z/\z<=73049)
def Vw.ok(v:Vw):Bool:=decide (0<=v.age/\v.age<=199/\1900<=v.year/\v.year<=2099/\0<=v.children/\v.children<=99)&&
 (oF v.insured&&oF v.worked&&oF v.voluntary&&oF v.service&&oF v.equated&&oF v.raising&&oF v.resident)&&
 (aL v.bn v.bd&&decide (0<=v.bn/\v.bn<=1000000000000*v.bd))&&FK v.years
def Vw.numF(v:Vw)(s:List UInt8):Int × Int:=
 if s= [98,97,115,101]then(v.bn,v.bd)
 else if s= [97,103,101]then(v.age,1)else if s= [121,101,97,114]then(v.year,1)else if s= [99,104,105,108,100,114,101,110]then(v.children,1)
 else if s= [105,110,115,117,114,101,100]then(v.insured,1)else if s= [119,111,114,107,101,100]then(v.worked,1)else if s= [118,111,108,117,110,116,97,114,121]then(v.voluntary,1)
 else if s= [115,101,114,118,105,99,101]then(v.service,1)else if s= [101,113,117,97,116,101,100]then(v.equated,1)else if s= [114,97,105,115,105,110,103]then(v.raising,1)
 else if s= [114,101,115,105,100,101,110,116]then(v.resident,1)else(0,1)
def Rh(v:Vw)(s:ByteArray):Option Val:=if df s.toList=0\/v.ok=false then none else some (.num (df s.toList) (v.numF s.toList).1 (v.numF s.toList).2)

def SH(x:Int):List Int->List Int
 | []=>[x]
 |y::r=>if x<=y then y::SH x r else x::y::r
def Sq(l:List Int):List Int:=l.foldl (fun a x=>SH x a) []
def Na(l:List Int)(n:Int):Int:=((Sq l).take n.toNat).sum
def GV(l:List Int)(n:Int):Int × Int × Int:=if n<1\/45<n\/FK l=false then(0,0,1)else(mkN (Na l n) n,mkD (Na l n) n,mkE (Na l n) n)

def gF{α:Type}(env:List (ByteArray × α))(s:ByteArray):Option α:=(env.reverse.find? fun p=>decide (p.1=s)).map Prod.snd

def ag(op:Int)(d:List Int):Int:=
 let a:=d.getD 0 0;let b:=d.getD 1 0;let c:=d.getD 2 0
 if op=5 then(if a=1 then 1 else 0)
 else if op=4\/op=6 then(if a≠1 then a else 0)
 else if op=7\/op=8\/op=19\/op=20 then(if a=b/\a≠1 then a else 0)
 else if op=9 then(if a=2/\b≠1 then b else if b=2/\a≠1 then a else 0)
 else if op=10 then(if b=2/\a≠1 then a else if a=b/\a≠1 then 2 else 0)
 else if op=17\/op=18 then(if a=1/\b=1 then 1 else 0)
 else if op=21 then(if a=1/\b=c then b else 0)
 else if a=b/\a≠1 then 1 else 0
def fB(env:List (ByteArray × Int))(s:ByteArray):Int × Int:=
 if df s.toList≠0 then(df s.toList,0)else match gF env s with|some m=>(m,0)|none=>(0,5)
def fo(op m:Int)(nm:Int × Int)(r:List Int × Int):Int × Int:=
 if op=1 then(m,0)else if op=3 then(4,0)else if op=2 then nm
 else if r.2≠0 then(0,r.2)else if ag op r.1=0 then(0,6)else(ag op r.1,0)
mutual
def az(env:List (ByteArray × Int)):Ex->Int × Int
 | .mk op _ _ m s l=>fo op m (fB env s) (aW env l)
def aW(env:List (ByteArray × Int)):List Ex->List Int × Int
 | []=>([],0)
 |e::r=>if(az env e).2≠0 then([],(az env e).2)else if(aW env r).2≠0 then([],(aW env r).2)else((az env e).1::(aW env r).1,0)
end

def kr(m:Int)(r:Int × Int × Int):Val × Int:=if r.2.2=0 then(.num m r.1 r.2.1,0)else(.zero,r.2.2)
def UC(op c:Int):Bool:=if op=11 then decide (c<0)else if op=12 then decide (c<=0)else if op=13 then decide (c=0)else if op=14 then decide (c≠0)else if op=15 then decide (c > 0)else decide (c≥0)
def op1(op:Int)(a:Val):Val × Int:=if op=5 then(.truth (!a.yes),0)else if op=6 then kr a.dim ((fF a.n a.d).1,1,(fF a.n a.d).2)else kr a.dim (nW a.n a.d)
def op2(op:Int)(a b:Val):Val × Int:=
 if op=7 then kr a.dim (pX a.n a.d b.n b.d)else if op=8 then kr a.dim (sZ a.n a.d b.n b.d)
 else if op=9 then kr (ag 9 [a.dim,b.dim]) (rW a.n a.d b.n b.d)else if op=10 then kr (ag 10 [a.dim,b.dim]) (rY a.n a.d b.n b.d)
 else if op=19 then(if kT a.n a.d b.n b.d<=0 then .num a.dim a.n a.d else .num a.dim b.n b.d,0)
 else if op=20 then(if 0<=kT a.n a.d b.n b.d then .num a.dim a.n a.d else .num a.dim b.n b.d,0)
 else(.truth (UC op (kT a.n a.d b.n b.d)),0)
theorem gV(env:List (ByteArray × Int))(e:Ex):az env e=fo e.op e.dim (fB env e.name) (aW env e.args):=by cases e;rw [az];rfl
theorem Val.num_ok{m n d:Int}(hm:2<=m/\m<=4)(h:aL n d=true):(Val.num m n d).ok=true:=by
 unfold Val.ok Val.num;rw [if_neg (show ¬m=1 by omega)];show(decide (2<=m/\m<=4)&&!false&&aL n d)=true;rw [h,decide_eq_true hm];rfl
def okR(m:Int)(r:Val × Int):Prop:=(r.2=0/\r.1.ok=true/\r.1.dim=m)\/(r.1= .zero/\(r.2=2\/r.2=3))
theorem ni{m:Int}{r:Int × Int × Int}(hm:2<=m/\m<=4)(h:okF r):okR m (kr m r):=by
 unfold kr;rcases h with ⟨h1,h2⟩|⟨-,-,h3⟩
 ·rw [if_pos h1];refine .inl ⟨rfl, ?_,rfl⟩;exact Val.num_ok hm h2
 ·rw [if_neg zb];exact .inr ⟨rfl,h3⟩
theorem wR(b:Bool):okR 1 (.truth b,0):=.inl ⟨rfl,by simp [Val.ok,Val.truth],rfl⟩
theorem Val.ok_num{x:Val}(h:x.ok=true)(hd:x.dim≠1):2<=x.dim/\x.dim<=4/\x.yes=false/\aL x.n x.d=true:=by
 unfold Val.ok at h;rw [if_neg hd]at h;simp only [Bool.and_eq_true,decide_eq_true_eq,Bool.not_eq_true']at h;exact⟨h.1.1.1,h.1.1.2,h.1.2,h.2⟩
theorem Bn{n:Int}(h1:-1000000000000000<=n)(h2:n<=1000000000000000):aL n 1=true:=oQ ⟨by omega,by omega,h1,h2⟩ zd
theorem Da{n d:Int}(h:aL n d=true):-1000000000000000<=n / d/\n / d<=1000000000000000:=by
 have:=aG h;constructor
 ·rw [Int.le_ediv_iff_mul_le zb];omega
 ·have h3:n / d<1000000000000001:=Int.ediv_lt_of_lt_mul zb zb;omega
theorem Gj{n d:Int}(h:aL n d=true):okF (nW n d):=by
 unfold nW;rw [if_pos h];exact .inl ⟨rfl,by rw [wB];exact h⟩
theorem C9{n d:Int}(h:aL n d=true):okF ((fF n d).1,1,(fF n d).2):=by
 unfold fF;rw [if_pos h];have:=Da h;exact .inl ⟨rfl,Bn this.1 this.2⟩
theorem Q9{op:Int}{x:Val}(h:x.ok=true)(h4:4<=op)(h6:op<=6)(hr:ag op [x.dim]≠0):okR (ag op [x.dim]) (op1 op x):=by
 obtain rfl|rfl|rfl:op=4\/op=5\/op=6:=by omega
 all_goals simp only [ag,getD_cons_zero,op1]at hr ⊢
 ·simp at hr ⊢;have:=Val.ok_num h hr.1;rw [if_neg hr.1];exact ni ⟨this.1,this.2.1⟩ (Gj this.2.2.2)
 ·simp at hr ⊢;rw [if_pos hr];exact wR _
 ·simp at hr ⊢;have:=Val.ok_num h hr.1;rw [if_neg hr.1];exact ni ⟨this.1,this.2.1⟩ (C9 this.2.2.2)
theorem Ot(a b:Int):ag 9 [a,b]=if a=2/\b≠1 then b else if b=2/\a≠1 then a else 0:=rfl
theorem Ou(a b:Int):ag 10 [a,b]=if b=2/\a≠1 then a else if a=b/\a≠1 then 2 else 0:=rfl
theorem FW{op:Int}(a b:Int)(h:op=7\/op=8\/op=19\/op=20):ag op [a,b]=if a=b/\a≠1 then a else 0:=by
 rcases h with rfl|rfl|rfl|rfl<;>rfl
theorem FV{op:Int}(a b:Int)(h:11<=op/\op<=16):ag op [a,b]=if a=b/\a≠1 then 1 else 0:=by
 obtain rfl|rfl|rfl|rfl|rfl|rfl:op=11\/op=12\/op=13\/op=14\/op=15\/op=16:=by omega
 all_goals rfl
theorem Q8{op:Int}{x y:Val}(h:x.ok=true)(g:y.ok=true)(h4:7<=op)(h6:op<=20)(h17:op≠17)(h18:op≠18)(hr:ag op [x.dim,y.dim]≠0):okR (ag op [x.dim,y.dim]) (op2 op x y):=by
 by_cases c:op=9
 ·subst c;show okR _ (kr (ag 9 [x.dim,y.dim]) (rW x.n x.d y.n y.d))
  have hx:x.dim≠1/\y.dim≠1/\(ag 9 [x.dim,y.dim]=x.dim\/ag 9 [x.dim,y.dim]=y.dim):=by
   rw [Ot]at hr ⊢;exact Tm
  have h1:=Val.ok_num h hx.1;have h2:=Val.ok_num g hx.2.1;exact ni zb (Gl h1.2.2.2 h2.2.2.2)
 ·by_cases c':op=10
  ·subst c';show okR _ (kr (ag 10 [x.dim,y.dim]) (rY x.n x.d y.n y.d))
   have hx:x.dim≠1/\y.dim≠1/\(ag 10 [x.dim,y.dim]=x.dim\/ag 10 [x.dim,y.dim]=2):=by
    rw [Ou]at hr ⊢;exact Tm
   have h1:=Val.ok_num h hx.1;have h2:=Val.ok_num g hx.2.1;exact ni zb (GJ h1.2.2.2 h2.2.2.2)
  ·have hx:x.dim=y.dim/\x.dim≠1:=by
    by_cases c3:11<=op/\op<=16
    ·rw [FV _ _ c3]at hr
     split at hr<;>rename_i c1
     ·exact c1
     ·exact absurd rfl hr
    ·rw [FW _ _ zb]at hr
     split at hr<;>rename_i c1
     ·exact c1
     ·exact absurd rfl hr
   have h1:=Val.ok_num h hx.2;have h2:=Val.ok_num g zb;by_cases c3:11<=op/\op<=16
   ·rw [FV _ _ c3,if_pos hx];unfold op2;rw [if_neg zb,if_neg zb,if_neg zb,if_neg zb,if_neg zb,if_neg zb];exact wR _
   ·rw [FW _ _ zb,if_pos hx];obtain rfl|rfl|rfl|rfl:op=7\/op=8\/op=19\/op=20:=by omega
    ·exact ni zb (Bd h1.2.2.2 h2.2.2.2)
    ·exact ni zb (FO h1.2.2.2 h2.2.2.2)
    ·show okR _ (if kT x.n x.d y.n y.d<=0 then .num x.dim x.n x.d else .num x.dim y.n y.d,0);exact Td
    ·show okR _ (if 0<=kT x.n x.d y.n y.d then .num x.dim x.n x.d else .num x.dim y.n y.d,0);exact Td
theorem okR.bad{m:Int}{r:Val × Int}(h:okR m r)(hr:r.2≠0):r.1= .zero/\(r.2=2\/r.2=3):=by
 rcases h with h|h
 ·exact absurd h.1 hr
 ·exact h
theorem Ph(s:List UInt8):df s=0\/(2<=df s/\df s<=4):=by
 unfold df
 (repeat' split)<;>simp
theorem SE{n d:Int}(h:d≠0):okF (mkN n d,mkD n d,mkE n d):=by
 unfold mkN mkD mkE;rw [if_neg h,if_neg h,if_neg h];rcases ul n.natAbs d.natAbs with e|e
 ·exact .inl ⟨e,LJ _ zb e⟩
 ·have h3:=Gp (decide (n<0)!=decide (d<0)) (show lI n.natAbs d.natAbs≠0 by omega);exact .inr ⟨h3.1,h3.2,.inl e⟩
theorem kG{n d m:Int}(h:aV n d m=true):aL n d=true/\2<=m/\m<=4:=by
 simp only [aV,Bool.and_eq_true,decide_eq_true_eq]at h;exact⟨h.1.1.1.1.1,h.1.1.2,h.1.2⟩
structure Ins where
 op:Int
 a:Int
 n:Int
 d:Int
instance:Inhabited Ins:=⟨⟨0,0,0,0⟩⟩
def opF(op:Int):Int:=if op=6 then 4 else if op=7 then 5 else if op=8 then 6 else if 9<=op/\op<=18 then op-2 else if op=19 then 19 else if op=20 then 20 else 0
def fZ(op:Int):Nat:=if op=4\/op=5\/op=6 then 1 else 2
def lJ:List Int:=[2,2,2,3,3,3,3,3,3,3,4]
def wfF(m n i:Nat)(x:Ins):Bool:=
 if x.op=1 then decide (x.a=2\/x.a=3\/x.a=4)&&aL x.n x.d
 else if ¬(x.n=0/\x.d=0)then false
 else if x.op=2 then decide (0<=x.a/\x.a<11)
 else if x.op=3\/x.op=4 then decide (0<=x.a/\x.a<m)
 else if x.op=5 then decide (1<=x.a/\x.a<=45)
 else if x.op=21\/x.op=22 then decide ((i:Int)<x.a/\x.a<=n)
 else if x.op=23\/x.op=24 then decide (x.a=0)
 else decide (opF x.op≠0/\x.a=0)
def bN(l:List Ins):List Nat:=(l.filter fun x=>decide (x.op=4)).map fun x=>x.a.toNat
def eO(sl:List ByteArray):Bool:=decide (sl.length<=12)&&sl.all isWord&&decide sl.Nodup
def fu(l:List Ins)(sl:List ByteArray):Bool:=
 decide (l.length<=4000)&&(List.range l.length).all (fun i=>wfF sl.length l.length i (l.getD i default))&&(eO sl&&decide (bN l).Nodup)

section
variable (S : List (Option (List Int × List Bool))) (T : List (Option (List Int × List Int)))
def eU(x:Ins)(s:List Int × List Bool)(dims:List Int):Option ((List Int × List Bool) × List Int):=
 if x.op=1 then some ((s.1++[x.a],s.2),dims)
 else if x.op=2 then some ((s.1++[lJ.getD x.a.toNat 0],s.2),dims)
 else if x.op=5 then some ((s.1++[4],s.2),dims)
 else if x.op=23\/x.op=24 then some ((s.1++[1],s.2),dims)
 else if x.op=3 then(if s.2.getD x.a.toNat false=true then some ((s.1++[dims.getD x.a.toNat 0],s.2),dims)else none)
 else if x.op=4 then(if s.1= []then none else some ((s.1.dropLast,s.2.set x.a.toNat true),dims.set x.a.toNat (s.1.getLastD 0)))
 else if x.op=22 then(if s.1= []\/s.1.getLastD 0≠1 then none else some ((s.1.dropLast,s.2),dims))
 else if x.op=21 then some (s,dims)
 else if s.1.length<fZ (opF x.op)then none
 else if ag (opF x.op) (s.1.drop (s.1.length-fZ (opF x.op)))=0 then none
 else some ((s.1.take (s.1.length-fZ (opF x.op))++[ag (opF x.op) (s.1.drop (s.1.length-fZ (opF x.op)))],s.2),dims)
def iN(k:Nat)(s:List Int × List Bool):Option (List (Option (List Int × List Bool))):=
 match S.getD k none with
 |none=>some (S.set k (some s))
 |some t=>if t.1=s.1 then some (S.set k (some (t.1,zipWith (· && ·) t.2 s.2)))else none
def jL(x:Ins)(i:Nat)(dims:List Int)(dep:Nat):Option (List (Option (List Int × List Bool)) × List Int × Nat):=
 match S.getD i none with
 |none=>none
 |some s=>match eU x s dims with
  |none=>none
  |some (s',dims')=>
   if 24<s'.1.length then none
   else match (if x.op=21 then some S else iN S (i+1) s')with
   |none=>none
   |some S1=>match (if x.op=21\/x.op=22 then iN S1 x.a.toNat s' else some S1)with
    |none=>none
    |some S2=>some (S2,dims',max dep s'.1.length)
def goA:List Ins->Nat->List (Option (List Int × List Bool))->List Int->Nat->Int × Int
 | [],i,S,_,dep=>match S.getD i none with
   |none=>((dep:Int),0)
   |some s=>if s.1= []then((dep:Int),0)else(0,8)
 |x::r,i,S,dims,dep=>match jL S x i dims dep with
  |none=>(0,8)
  |some (S',dims',dep')=>goA r (i+1) S' dims' dep'
def verA(l:List Ins)(sl:List ByteArray):Int × Int:=
 if fu l sl=true then goA l 0 (some ([],List.replicate 12 false)::List.replicate l.length none) (List.replicate 12 0) 0 else(0,8)

def gm(x:Ins)(s:List Int × List Int):Option (List Int × List Int):=
 if x.op=1 then some (s.1++[x.a],s.2)
 else if x.op=2 then some (s.1++[lJ.getD x.a.toNat 0],s.2)
 else if x.op=5 then some (s.1++[4],s.2)
 else if x.op=23\/x.op=24 then some (s.1++[1],s.2)
 else if x.op=3 then(if s.2.getD x.a.toNat 0=0 then none else some (s.1++[s.2.getD x.a.toNat 0],s.2))
 else if x.op=4 then(if s.1= []then none else some (s.1.dropLast,s.2.set x.a.toNat (s.1.getLastD 0)))
 else if x.op=22 then(if s.1= []\/s.1.getLastD 0≠1 then none else some (s.1.dropLast,s.2))
 else if x.op=21 then some s
 else if s.1.length<fZ (opF x.op)then none
 else if ag (opF x.op) (s.1.drop (s.1.length-fZ (opF x.op)))=0 then none
 else some (s.1.take (s.1.length-fZ (opF x.op))++[ag (opF x.op) (s.1.drop (s.1.length-fZ (opF x.op)))],s.2)
def fQ(k:Nat)(s:List Int × List Int):Option (List (Option (List Int × List Int))):=
 match T.getD k none with
 |none=>some (T.set k (some s))
 |some t=>if t.1=s.1 then some (T.set k (some (t.1,zipWith (fun a b=>if b=0 then 0 else a) t.2 s.2)))else none
def nU(x:Ins)(i:Nat):Option (List (Option (List Int × List Int))):=
 match T.getD i none with
 |none=>none
 |some s=>match gm x s with
  |none=>none
  |some s'=>
   if x.op=21 then fQ T x.a.toNat s'
   else match (if x.op=22 then fQ T x.a.toNat s' else some T)with
   |none=>none
   |some T1=>if 24<s'.1.length then none else fQ T1 (i+1) s'
def goB:List Ins->Nat->List (Option (List Int × List Int))->Nat->Int × Int
 | [],i,T,dep=>match T.getD i none with
   |none=>(0,8)
   |some s=>if s.1= []then((dep:Int),0)else(0,8)
 |x::r,i,T,dep=>match T.getD i none with
  |none=>(0,8)
  |some s=>match nU T x i with
   |none=>(0,8)
   |some T'=>goB r (i+1) T' (max dep s.1.length)
def verB(l:List Ins)(sl:List ByteArray):Int × Int:=
 if fu l sl=true then goB l 0 (some ([],List.replicate sl.length 0)::List.replicate l.length none) 0 else(0,8)
end

theorem aA{α:Type}(l:List α)(k j:Nat)(a d:α):(l.set k a).getD j d=if k=j/\j<l.length then a else l.getD j d:=by
 simp only [getD_eq_getElem?_getD,getElem?_set];by_cases h:k=j
 ·subst h;by_cases h2:k<l.length
  ·simp [h2]
  ·simp [h2,getElem?_eq_none (Nat.le_of_not_lt h2)]
 ·simp [h]
theorem uI{α β γ:Type}(f:α->β->γ)(a:List α)(b:List β)(k:Nat)(x:α)(y:β)(z:γ)(h1:k<a.length)(h2:k<b.length):(zipWith f a b).getD k z=f (a.getD k x) (b.getD k y):=by
 simp [getD_eq_getElem?_getD,getElem?_zipWith,getElem?_eq_getElem h1,getElem?_eq_getElem h2]
theorem lL{a b:List Bool}{k:Nat}(h:(zipWith (· && ·) a b).getD k false=true):a.getD k false=true/\b.getD k false=true:=by
 have hl:k<(zipWith (· && ·) a b).length:=by
  exact SS
 rw [length_zipWith]at hl;rw [uI _ a b k false false false zb zb]at h;simpa using h
structure Agr(m:Nat)(D:Nat->Bool)(dims:List Int)(s:List Int × List Bool)(t:List Int × List Int):Prop where
 stk:t.1=s.1
 l1:s.2.length=12
 l2:t.2.length=m
 slot:∀k,k<m->t.2.getD k 0=if s.2.getD k false=true then dims.getD k 0 else 0
 pos:∀z∈s.1,1<=z
 dpos:∀k,k<m->s.2.getD k false=true->1<=dims.getD k 0
 done:∀k,s.2.getD k false=true->D k=true
def QH(m:Nat)(D:Nat->Bool)(dims:List Int):Option (List Int × List Bool)->Option (List Int × List Int)->Prop
 |none,none=>True
 |some s,some t=>Agr m D dims s t/\s.1.length<=24
 |_,_=>False
def DL(m:Nat)(D:Nat->Bool)(dims:List Int)(S:List (Option (List Int × List Bool)))(T:List (Option (List Int × List Int))):Prop:=
 S.length=T.length/\∀k,QH m D dims (S.getD k none) (T.getD k none)
section
variable {m : Nat} {D D' : Nat -> Bool} {dims : List Int} {S S' : List (Option (List Int × List Bool))} {T : List (Option (List Int × List Int))} {x : Ins} {s s' : List Int × List Bool} {t : List Int × List Int}
theorem DL.both(h:DL m D dims S T)(i:Nat):(S.getD i none=none/\T.getD i none=none)\/∃s t,S.getD i none=some s/\T.getD i none=some t/\Agr m D dims s t/\s.1.length<=24:=by
 have:=h.2 i;cases hs:S.getD i none<;>cases ht:T.getD i none<;>rw [hs,ht]at this
 ·exact .inl ⟨rfl,rfl⟩
 ·exact this.elim
 ·exact this.elim
 ·exact .inr ⟨_,_,rfl,rfl,this⟩
theorem Agr.mono{a:Nat}{z:Int}(h:Agr m D dims s t)(hD:∀k,D k=true->D' k=true)(ha:D a=false):Agr m D' (dims.set a z) s t:=by
 have hne:∀k,s.2.getD k false=true->a≠k:=fun k hk e=>by
  subst e;rw [h.done a hk]at ha;cases ha
 refine⟨h.stk,h.l1,h.l2,fun k hk=>?_,h.pos,fun k hk hb=>?_,fun k hb=>hD k (h.done k hb)⟩
 ·rw [h.slot k hk]
  split
  ·rename_i hb
   rw [aA,if_neg (fun e=>hne k hb e.1)]
  ·rfl
 ·rw [aA,if_neg (fun e=>hne k hb e.1)];exact h.dpos k hk hb
theorem Agr.mono0(h:Agr m D dims s t)(hD:∀k,D k=true->D' k=true):Agr m D' dims s t:=⟨h.stk,h.l1,h.l2,h.slot,h.pos,h.dpos,fun k hb=>hD k (h.done k hb)⟩
theorem QH.imp{D':Nat->Bool}{dims':List Int}{a:Option (List Int × List Bool)}{b:Option (List Int × List Int)}(h:QH m D dims a b)(hi:∀s t,Agr m D dims s t->Agr m D' dims' s t):QH m D' dims' a b:=by
 cases a<;>cases b<;>first|exact h|exact⟨hi _ _ h.1,h.2⟩
theorem Agr.push(h:Agr m D dims s t){z:Int}(hz:1<=z):Agr m D dims (s.1++[z],s.2) (t.1++[z],t.2):=
 ⟨by rw [h.stk],h.l1,h.l2,h.slot,fun y hy=>by rcases mem_append.1 hy with hy|hy;· exact h.pos y hy
                                              ·obtain rfl:y=z:=by simpa using hy
                                               exact hz,h.dpos,h.done⟩
theorem Agr.stack(h:Agr m D dims s t){l:List Int}(hl:∀z∈l,1<=z):Agr m D dims (l,s.2) (l,t.2):=⟨rfl,h.l1,h.l2,h.slot,hl,h.dpos,h.done⟩
theorem Mg{k:Nat}(h:k<11):1<=lJ.getD k 0:=by
 have key:∀k,k<11->(1:Int)<=lJ.getD k 0:=by decide
 exact key k h
theorem Ci{l:List Int}(h:l≠[]):l.getLastD 0∈l:=by
 cases l with
 |nil=>exact absurd rfl h
 |cons a r=>rw [getLastD_cons];exact getLastD_mem_cons ..
theorem BC{op:Int}{d:List Int}(hd:∀z∈d,1<=z)(h:ag op d≠0):1<=ag op d:=by
 have h0:∀k,0<=d.getD k 0:=fun k=>by
  rw [getD_eq_getElem?_getD]
  cases hk:d[k]? with
  |none=>simp
  |some z=>have:=hd z (List.mem_of_getElem? hk);simp;omega
 have a0:=h0 0;have b0:=h0 1;have c0:=h0 2;revert h;unfold ag;dsimp only;generalize d.getD 0 0=a at *;generalize d.getD 1 0=b at *;generalize d.getD 2 0=c at *;intro h
 repeat' split at h
 all_goals omega
theorem Qv{n i:Nat}(hm:m<=12)(hx:wfF m n i x=true)(h:Agr m D dims s t)(hd:dims.length=12)(hset:x.op=4->D x.a.toNat=false)(hD:∀k,D' k=(D k || (decide (x.op=4)&&decide (k=x.a.toNat)))) :
 (eU x s dims=none/\gm x t=none)\/∃s' dims' t',eU x s dims=some (s',dims')/\gm x t=some t'/\Agr m D' dims' s' t'/\dims'.length=12/\(∀u v,Agr m D dims u v->Agr m D' dims' u v)/\(x.op=21->s'=s):=by
 have hmo:∀k,D k=true->D' k=true:=fun k hk=>by rw [hD,hk];rfl
 have hk:∀u v,Agr m D dims u v->Agr m D' dims u v:=fun u v hu=>hu.mono0 hmo;unfold wfF at hx;unfold eU gm;by_cases h1:x.op=1
 ·rw [if_pos h1]at hx;simp only [if_pos h1];refine .inr ⟨_,_,_,rfl,rfl,hk _ _ (h.push ?_),hd,hk,by omega⟩;simp at hx;omega
 rw [if_neg h1]at hx;simp only [if_neg h1];by_cases hz:¬(x.n=0/\x.d=0)
 ·rw [if_pos hz]at hx;cases hx
 rw [if_neg hz]at hx;by_cases h2:x.op=2
 ·rw [if_pos h2]at hx;simp only [if_pos h2];refine .inr ⟨_,_,_,rfl,rfl,hk _ _ (h.push (Mg ?_)),hd,hk,by omega⟩;simp at hx;omega
 rw [if_neg h2]at hx;simp only [if_neg h2];by_cases h5:x.op=5
 ·simp only [if_pos h5];exact .inr ⟨_,_,_,rfl,rfl,hk _ _ (h.push zb),hd,hk,by omega⟩
 simp only [if_neg h5];by_cases h23:x.op=23\/x.op=24
 ·simp only [if_pos h23];exact .inr ⟨_,_,_,rfl,rfl,hk _ _ (h.push zb),hd,hk,by omega⟩
 simp only [if_neg h23];by_cases h3:x.op=3
 ·rw [if_pos (.inl h3)]at hx;have ha:x.a.toNat<m:=by simp at hx;omega
  simp only [if_pos h3];rw [h.slot _ ha];by_cases hb:s.2.getD x.a.toNat false=true
  ·have:=h.dpos _ ha hb;rw [if_pos hb,if_pos hb,if_neg zb];exact .inr ⟨_,_,_,rfl,rfl,hk _ _ (h.push this),hd,hk,by omega⟩
  ·rw [if_neg hb,if_neg hb,if_pos rfl];exact .inl ⟨rfl,rfl⟩
 simp only [if_neg h3];by_cases h4:x.op=4
 ·rw [if_pos (.inr h4)]at hx;have ha:x.a.toNat<m:=by simp at hx;omega
  have hDa:=hset h4;simp only [if_pos h4];rw [h.stk];by_cases he:s.1= []
  ·rw [if_pos he,if_pos he];exact .inl ⟨rfl,rfl⟩
  rw [if_neg he,if_neg he];have hl:=h.pos _ (Ci he);refine .inr ⟨_,_,_,rfl,rfl,⟨rfl,by rw [length_set];exact h.l1,by rw [length_set];exact h.l2,fun k hk=>?_,fun z hz=>h.pos z (dropLast_subset _ hz),fun k hk hb=>?_,fun k hb=>?_⟩,by rw [length_set];exact hd,fun u v hu=>hu.mono hmo hDa,by omega⟩
  ·simp only [aA,h.l1,h.l2,hd];by_cases e:x.a.toNat=k
   ·have e1:(if x.a.toNat=k/\k<12 then true else s.2.getD k false)=true:=if_pos ⟨e,by omega⟩;rw [if_pos ⟨e,hk⟩,if_pos e1,if_pos ⟨e,by omega⟩]
   ·have e1:(if x.a.toNat=k/\k<12 then true else s.2.getD k false)=s.2.getD k false:=if_neg (fun c=>e c.1);have e3:(if x.a.toNat=k/\k<12 then s.1.getLastD 0 else dims.getD k 0)=dims.getD k 0:=if_neg (fun c=>e c.1);rw [if_neg (fun c=>e c.1),e1,e3];exact h.slot k hk
  ·simp only [aA,h.l1,hd]at hb ⊢;by_cases e:x.a.toNat=k
   ·rw [if_pos ⟨e,by omega⟩];exact hl
   ·rw [if_neg (fun c=>e c.1)]at hb ⊢;exact h.dpos k hk hb
  ·rw [hD];simp only [aA]at hb;by_cases e:x.a.toNat=k
   ·rw [decide_eq_true h4,decide_eq_true e.symm];simp
   ·rw [if_neg (fun c=>e c.1)]at hb;rw [h.done k hb];rfl
 simp only [if_neg h4];by_cases h22:x.op=22
 ·simp only [if_pos h22];rw [h.stk];by_cases he:s.1= []\/s.1.getLastD 0≠1
  ·rw [if_pos he,if_pos he];exact .inl ⟨rfl,rfl⟩
  ·rw [if_neg he,if_neg he];exact .inr ⟨_,_,_,rfl,rfl,hk _ _ (h.stack fun z hz=>h.pos z (dropLast_subset _ hz)),hd,hk,by omega⟩
 simp only [if_neg h22];by_cases h21:x.op=21
 ·simp only [if_pos h21];exact .inr ⟨_,_,_,rfl,rfl,hk _ _ h,hd,hk,fun _=>rfl⟩
 simp only [if_neg h21];rw [h.stk];by_cases hn:s.1.length<fZ (opF x.op)
 ·rw [if_pos hn,if_pos hn];exact .inl ⟨rfl,rfl⟩
 rw [if_neg hn,if_neg hn];by_cases hr:ag (opF x.op) (s.1.drop (s.1.length-fZ (opF x.op)))=0
 ·rw [if_pos hr,if_pos hr];exact .inl ⟨rfl,rfl⟩
 rw [if_neg hr,if_neg hr];have hp:=BC (fun z hz=>h.pos z (mem_of_mem_drop hz)) hr;have h':=(h.stack (l:=s.1.take (s.1.length-fZ (opF x.op))) fun z hz=>h.pos z (mem_of_mem_take hz)).push hp;exact .inr ⟨_,_,_,rfl,rfl,hk _ _ h',hd,hk,fun e=>absurd e h21⟩
theorem sF(hm:m<=12)(hL:DL m D dims S T)(h:Agr m D dims s t)(hf:s.1.length<=24)(k:Nat) :
 (iN S k s=none/\fQ T k t=none)\/∃S' T',iN S k s=some S'/\fQ T k t=some T'/\DL m D dims S' T':=by
 unfold iN fQ;rcases hL.both k with ⟨e1,e2⟩|⟨u,v,e1,e2,hu,hf'⟩
 ·rw [e1,e2];refine .inr ⟨_,_,rfl,rfl,by rw [length_set,length_set];exact hL.1,fun j=>?_⟩;rw [aA,aA,hL.1]
  split
  ·exact⟨h,hf⟩
  ·exact hL.2 j
 ·rw [e1,e2];simp only [h.stk,hu.stk];by_cases he:u.1=s.1
  ·rw [if_pos he,if_pos he];refine .inr ⟨_,_,rfl,rfl,by rw [length_set,length_set];exact hL.1,fun j=>?_⟩;rw [aA,aA,hL.1]
   split
   ·refine⟨⟨rfl,by rw [length_zipWith,hu.l1,h.l1];rfl,by rw [length_zipWith,hu.l2,h.l2];omega,fun k hk=>?_,hu.pos,fun k hk hb=>hu.dpos k hk (lL hb).1,fun k hb=>hu.done k (lL hb).1⟩,hf'⟩;have z1:=h.l1;have z2:=h.l2;have z3:=hu.l1;have z4:=hu.l2;rw [uI _ _ _ k 0 0 0 zb zb,uI _ _ _ k false false false zb zb,h.slot k hk,hu.slot k hk];have q1:=h.dpos k hk;cases b1:s.2.getD k false<;>cases b2:u.2.getD k false<;>simp
    rw [b1]at q1;intro e;have:=q1 rfl;omega
   ·exact hL.2 j
  ·rw [if_neg he,if_neg he];exact .inl ⟨rfl,rfl⟩
theorem Io(a b:Nat)(t:List Int × List Int):(match fQ T a t with|none=>none|some T1=>fQ T1 b t)=(match fQ T b t with|none=>none|some T1=>fQ T1 a t):=by
 by_cases hab:a=b
 ·subst hab;rfl
 have g:∀(c d:Nat) (w:Option (List Int × List Int)),c≠d->(T.set c w).getD d none=T.getD d none:=fun c d w hcd=>by
  rw [aA,if_neg (fun e=>hcd e.1)]
 unfold fQ
 cases ha:T.getD a none with
 |none=>
  cases hb:T.getD b none with
  |none=>simp only [g _ _ _ hab,g _ _ _ (Ne.symm hab),ha,hb];rw [set_comm _ _ hab]
  |some v=>
   simp only [g _ _ _ hab,ha,hb];by_cases e:v.1=t.1
   ·simp only [if_pos e,g _ _ _ (Ne.symm hab),ha];rw [set_comm _ _ hab]
   ·simp only [if_neg e]
 |some u=>
  cases hb:T.getD b none with
  |none=>
   simp only [g _ _ _ (Ne.symm hab),ha,hb];by_cases e:u.1=t.1
   ·simp only [if_pos e,g _ _ _ hab,hb];rw [set_comm _ _ hab]
   ·simp only [if_neg e]
  |some v=>
   by_cases e:u.1=t.1
   ·by_cases e':v.1=t.1
    ·simp only [if_pos e,if_pos e',g _ _ _ hab,g _ _ _ (Ne.symm hab),ha,hb];rw [set_comm _ _ hab]
    ·simp only [if_pos e,if_neg e',g _ _ _ hab,hb]
   ·by_cases e':v.1=t.1
    ·simp only [if_neg e,if_pos e',g _ _ _ (Ne.symm hab),ha]
    ·simp only [if_neg e,if_neg e']
theorem iQ{k:Nat}(h:iN S k s=some S'):S'.length=S.length/\(∀j u,S.getD j none=some u->∃v,S'.getD j none=some v/\v.1=u.1)/\(k<S.length->∃v,S'.getD k none=some v/\v.1=s.1)/\
 ∀j v,S'.getD j none=some v->v.1=s.1\/∃u,S.getD j none=some u/\u.1=v.1:=by
 unfold iN at h
 cases hk:S.getD k none with
 |none=>
  rw [hk]at h;obtain rfl:=Option.some.inj h;refine⟨length_set ..,fun j u hu=>?_,fun hl=>?_,fun j v hv=>?_⟩
  ·by_cases e:k=j
   ·subst e;rw [hk]at hu;cases hu
   ·rw [aA,if_neg (fun c=>e c.1)];exact⟨u,hu,rfl⟩
  ·rw [aA,if_pos ⟨rfl,hl⟩];exact⟨s,rfl,rfl⟩
  ·rw [aA]at hv
   split at hv
   ·obtain rfl:=Option.some.inj hv;exact .inl rfl
   ·exact .inr ⟨v,hv,rfl⟩
 |some t=>
  rw [hk]at h;by_cases e:t.1=s.1
  ·simp only [if_pos e]at h;obtain rfl:=Option.some.inj h;refine⟨length_set ..,fun j u hu=>?_,fun hl=>?_,fun j v hv=>?_⟩
   ·rw [aA]
    split
    ·rename_i c
     obtain rfl:=c.1;rw [hk]at hu;obtain rfl:=Option.some.inj hu;exact⟨_,rfl,rfl⟩
    ·exact⟨u,hu,rfl⟩
   ·rw [aA,if_pos ⟨rfl,hl⟩];exact⟨_,rfl,e⟩
   ·rw [aA]at hv
    split at hv
    ·obtain rfl:=Option.some.inj hv;exact .inl e
    ·exact .inr ⟨v,hv,rfl⟩
  ·simp only [if_neg e]at h;cases h
end
section
variable {m : Nat} {D D' : Nat -> Bool} {dims : List Int} {S : List (Option (List Int × List Bool))} {T : List (Option (List Int × List Int))} {x : Ins}
theorem Ol{n i dep:Nat}(hm:m<=12)(hx:wfF m n i x=true)(hL:DL m D dims S T)(hd:dims.length=12)(hset:x.op=4->D x.a.toNat=false)(hD:∀k,D' k=(D k || (decide (x.op=4)&&decide (k=x.a.toNat))))(hn:S.length=n+1)(hi:i<n) :
 (jL S x i dims dep=none/\(T.getD i none=none\/nU T x i=none))\/
 ∃S' dims' p T' s t,jL S x i dims dep=some (S',dims',max dep p)/\S.getD i none=some s/\T.getD i none=some t/\t.1=s.1/\nU T x i=some T'/\DL m D' dims' S' T'/\dims'.length=12/\S'.length=S.length/\
  (∀j u,S.getD j none=some u->∃v,S'.getD j none=some v/\v.1=u.1)/\(∃j v,i<j/\S'.getD j none=some v/\v.1.length=p)/\
  ∀j v,S'.getD j none=some v->v.1.length=p\/∃u,S.getD j none=some u/\u.1=v.1:=by
 have ha:x.op=21\/x.op=22->i<x.a.toNat/\x.a.toNat<S.length:=fun h=>by
  unfold wfF at hx;rw [if_neg zb]at hx;by_cases hz:¬(x.n=0/\x.d=0)
  ·rw [if_pos hz]at hx;cases hx
  rw [if_neg hz,if_neg zb,if_neg zb,if_neg zb,if_pos h]at hx;simp at hx;omega
 unfold jL nU;rcases hL.both i with ⟨e1,e2⟩|⟨s,t,e1,e2,hst,hf⟩
 ·rw [e1,e2];exact .inl ⟨rfl,.inl rfl⟩
 rw [e1,e2];rcases Qv hm hx hst hd hset hD with ⟨a1,a2⟩|⟨s',dims',t',a1,a2,hst',hd',hmo,h21⟩
 ·exact .inl ⟨by simp only [a1],.inr (by simp only [a2])⟩
 simp only [a1,a2];have hL':DL m D' dims' S T:=⟨hL.1,fun k=>(hL.2 k).imp hmo⟩;rw [hst'.stk];by_cases hf':24<s'.1.length
 ·rw [if_pos hf'];refine .inl ⟨rfl,.inr ?_⟩;by_cases c:x.op=21
  ·rw [h21 c]at hf';omega
  ·rw [if_neg c]
   split
   ·rfl
   ·rw [if_pos hf']
 rw [if_neg hf'];by_cases c:x.op=21
 ·have⟨k1,k2⟩:=ha (.inl c);simp only [if_pos c,if_pos (show x.op=21\/x.op=22 from .inl c)];rcases sF hm hL' hst' zb x.a.toNat with ⟨b1,b2⟩|⟨S',T',b1,b2,hL2⟩
  ·rw [b1,b2];exact .inl ⟨rfl,.inr rfl⟩
  ·rw [b1,b2];obtain⟨q1,q2,q3,q4⟩:=iQ b1;obtain⟨v,hv,hv1⟩:=q3 k2;exact .inr ⟨S',dims',s'.1.length,T',s,t,rfl,rfl,rfl,hst.stk,rfl,hL2,hd',q1,q2,⟨_,v,k1,hv,by rw [hv1]⟩,fun j v hv=>(q4 j v hv).imp (fun e=>by rw [e]) id⟩
 simp only [if_neg c];by_cases c2:x.op=22
 ·have⟨k1,k2⟩:=ha (.inr c2);simp only [if_pos c2,if_pos (show x.op=21\/x.op=22 from .inr c2),if_neg hf'];have hco:(match fQ T x.a.toNat t' with|none=>none|some T1=>fQ T1 (i+1) t')=(match fQ T (i+1) t' with|none=>none|some T1=>fQ T1 x.a.toNat t'):=Io _ _ _;rw [hco];rcases sF hm hL' hst' zb (i+1)with ⟨b1,b2⟩|⟨S1,T1,b1,b2,hL2⟩
  ·rw [b1,b2];exact .inl ⟨rfl,.inr rfl⟩
  rw [b1,b2];simp only;rcases sF hm hL2 hst' zb x.a.toNat with ⟨d1,d2⟩|⟨S',T',d1,d2,hL3⟩
  ·rw [d1,d2];exact .inl ⟨rfl,.inr rfl⟩
  rw [d1,d2];obtain⟨q1,q2,q3,q4⟩:=iQ b1;obtain⟨r1,r2,r3,r4⟩:=iQ d1;obtain⟨v,hv,hv1⟩:=r3 zb;refine .inr ⟨S',dims',s'.1.length,T',s,t,rfl,rfl,rfl,hst.stk,rfl,hL3,hd',by omega,fun j u hu=>?_,⟨_,v,k1,hv,by rw [hv1]⟩,fun j v hv=>?_⟩
  ·obtain⟨v,hv,e⟩:=q2 j u hu;obtain⟨v',hv',e'⟩:=r2 j v hv;exact⟨v',hv',e'.trans e⟩
  ·rcases r4 j v hv with e|⟨u,hu,e⟩
   ·exact .inl (by rw [e])
   rcases q4 j u hu with e'|⟨u',hu',e'⟩
   ·exact .inl (by rw [<-e,e'])
   ·exact .inr ⟨u',hu',e'.trans e⟩
 ·simp only [if_neg c2,if_neg (show ¬(x.op=21\/x.op=22)by omega),if_neg hf'];rcases sF hm hL' hst' zb (i+1)with ⟨b1,b2⟩|⟨S',T',b1,b2,hL2⟩
  ·rw [b1,b2];exact .inl ⟨rfl,.inr rfl⟩
  ·rw [b1,b2];obtain⟨q1,q2,q3,q4⟩:=iQ b1;obtain⟨v,hv,hv1⟩:=q3 zb;exact .inr ⟨S',dims',s'.1.length,T',s,t,rfl,rfl,rfl,hst.stk,rfl,hL2,hd',q1,q2,⟨_,v,by omega,hv,by rw [hv1]⟩,fun j v hv=>(q4 j v hv).imp (fun e=>by rw [e]) id⟩
end
theorem pM{α:Type}{l:List (Option α)}{j:Nat}{u:α}(h:l.getD j none=some u):j<l.length:=by
 exact SS
theorem cK(x:Ins)(r:List Ins):bN (x::r)=if x.op=4 then x.a.toNat::bN r else bN r:=by
 unfold bN;rw [filter_cons];by_cases h:x.op=4<;>simp [h]
theorem RI{m n:Nat}(hm:m<=12):∀(r:List Ins) (i:Nat) (D:Nat->Bool) (S:List (Option (List Int × List Bool))) (T:List (Option (List Int × List Int))) (dims:List Int) (da db:Nat),
 (∀k,k<r.length->wfF m n (i+k) (r.getD k default)=true)->(bN r).Nodup->(∀a∈bN r,D a=false)->DL m D dims S T->dims.length=12->S.length=n+1->i+r.length=n->
 (∀j u,S.getD j none=some u->u.1.length<=da)->db<=da->(da<=db\/∃j u,i<=j/\S.getD j none=some u/\da<=u.1.length)->(r= []->∃u,S.getD i none=some u)->goA r i S dims da=goB r i T db:=by
 intro r
 induction r with
 |nil=>
  intro i D S T dims da db _ _ _ hL _ hn hin h1 h2 h3 h4;obtain⟨u,hu⟩:=h4 rfl;rw [goA,goB];rcases hL.both i with ⟨e1,-⟩|⟨s,t,e1,e2,hst,-⟩
  ·rw [hu]at e1;cases e1
  rw [e1,e2];simp only [hst.stk];by_cases he:s.1= []
  ·rw [if_pos he,if_pos he]
   have:da=db:=by
    rcases h3 with h3|⟨j,u2,hj,hu2,hl⟩
    ·omega
    ·have:=pM hu2;obtain rfl:j=i:=by simp at hin;omega
     rw [e1]at hu2;rw [<-Option.some.inj hu2,he]at hl;simp at hl;omega
   rw [this]
  ·rw [if_neg he,if_neg he]
 |cons x r ih=>
  intro i D S T dims da db hwf hnd hsD hL hd hn hin h1 h2 h3 _;simp only [length_cons]at hin;have hx:=hwf 0 zd;rw [Nat.add_zero]at hx;replace hx:wfF m n i x=true:=hx;have hset:x.op=4->D x.a.toNat=false:=fun h=>hsD _ yU;rw [goA,goB];rcases Ol (D':=fun k=>D k || (decide (x.op=4)&&decide (k=x.a.toNat))) (dep:=da) hm hx hL hd hset (fun _=>rfl) hn zb with ⟨a1,a2⟩|⟨S',dims',p,T',s,t,a1,e1,e2,e3,a2,hL',hd',hl',k1,⟨j,v,hij,hv,hp⟩,k4⟩
  ·rw [a1];rcases a2 with a2|a2
   ·rw [a2]
   ·rw [a2];cases T.getD i none<;>rfl
  rw [a1,e2,a2];simp only [e3];have hjl:=pM hv;refine ih (i+1) _ S' T' dims' (max da p) (max db s.1.length) (fun k hk=>?_) ?_ (fun a ha=>?_) hL' hd' zb zb (fun j u hu=>?_) ?_ ?_ (fun hr=>?_)
  ·have:=hwf (k+1) zg;rw [show i+1+k=i+(k+1)by omega];exact this
  ·rw [cK]at hnd
   split at hnd
   ·exact(nodup_cons.1 hnd).2
   ·exact hnd
  ·rw [cK]at hnd hsD;by_cases h:x.op=4
   ·rw [if_pos h]at hnd hsD;have h5:a≠x.a.toNat:=fun e=>by subst e;exact(nodup_cons.1 hnd).1 ha
    rw [hsD a (mem_cons_of_mem _ ha),decide_eq_false h5];simp
   ·rw [if_neg h]at hsD;rw [hsD a ha,decide_eq_false h];rfl
  ·rcases k4 j u hu with e|⟨u',hu',e⟩
   ·omega
   ·have:=h1 j u' hu';rw [e]at this;omega
  ·have:=h1 i s e1;omega
  ·by_cases hpd:da<=p
   ·exact .inr ⟨j,v,by omega,hv,by omega⟩
   rcases h3 with h3|⟨j2,u,hj2,hu,hl⟩
   ·exact .inl zb
   by_cases hje:j2=i
   ·subst hje;rw [e1]at hu;obtain rfl:=Option.some.inj hu;exact .inl zb
   ·obtain⟨v2,hv2,ev⟩:=k1 j2 u hu;exact .inr ⟨j2,v2,by omega,hv2,by rw [ev];omega⟩
  ·subst hr;simp only [length_nil]at hin;obtain rfl:j=i+1:=by omega
   exact⟨v,hv⟩
theorem ver_same(l:List Ins)(sl:List ByteArray):verA l sl=verB l sl:=by
 unfold verA verB;by_cases h:fu l sl=true
 ·rw [if_pos h,if_pos h];unfold fu eO at h;simp only [Bool.and_eq_true,decide_eq_true_eq,all_eq_true,mem_range]at h;obtain⟨⟨-,hwf⟩,⟨⟨hm,-⟩,-⟩,hnd⟩:=h
  have g1:∀k,k≠0->(some ([],List.replicate 12 false)::List.replicate l.length (none:Option (List Int × List Bool))).getD k none=none:=fun k hk=>by
   exact Tj
  have g2:∀k,k≠0->(some ([],List.replicate sl.length 0)::List.replicate l.length (none:Option (List Int × List Int))).getD k none=none:=fun k hk=>by
   exact Tj
  have gf:∀k,(List.replicate 12 false).getD k false=false:=fun k=>by
   rw [getD_eq_getElem?_getD,getElem?_replicate];split<;>rfl
  refine RI hm l 0 (fun _=>false) _ _ _ 0 0 (fun k hk=>by rw [Nat.zero_add];exact hwf k hk) hnd (fun _ _=>rfl) ⟨by simp,fun k=>?_⟩ zd zd zd (fun j u hu=>?_) (Nat.le_refl _) (.inl (Nat.le_refl _)) (fun hr=>⟨_,rfl⟩)
  ·by_cases hk:k=0
   ·subst hk;refine⟨⟨rfl,by simp,by simp,fun k hk=>?_,fun z hz=>(by cases hz),fun k _ hb=>?_,fun k hb=>?_⟩,by simp⟩
    ·rw [gf,getD_eq_getElem?_getD,getElem?_replicate,if_neg (by decide:¬false=true)];split<;>rfl
    ·rw [gf]at hb;cases hb
    ·rw [gf]at hb;cases hb
   ·rw [g1 k hk,g2 k hk];trivial
  ·by_cases hk:j=0
   ·subst hk;obtain rfl:=Option.some.inj hu;exact Nat.le_refl _
   ·rw [g1 j hk]at hu;cases hu
 ·rw [if_neg h,if_neg h]
def jo(s:List Int × List Bool):Option (List Int × List Bool)->Prop
 |none=>False
 |some t=>t.1=s.1/\∀k,t.2.getD k false=true->s.2.getD k false=true
structure Sl(l:List Ins)(m:Nat)(F:List (Option (List Int × List Bool)))(D:List Int):Prop where
 wf:∀i,i<l.length->wfF m l.length i (l.getD i default)=true
 m12:m<=12
 dlen:D.length=12
 zero:∃s,F.getD 0 none=some s/\s.1= []/\∀k,s.2.getD k false=false
 step:∀i,i<l.length->∃s s',F.getD i none=some s/\eU (l.getD i default) s D=some (s',D)/\s'.1.length<=24/\
  ((l.getD i default).op≠21->jo s' (F.getD (i+1) none))/\((l.getD i default).op=21\/(l.getD i default).op=22->jo s' (F.getD (l.getD i default).a.toNat none))
 last:∀s,F.getD l.length none=some s->s.1= []
def xV(P:Nat->Bool)(S:List (Option (List Int × List Bool))):Prop:=∀j s,S.getD j none=some s->∀k,s.2.getD k false=true->P k=true
theorem jo.refl{S:List (Option (List Int × List Bool))}{j:Nat}{s:List Int × List Bool}(h:S.getD j none=some s):jo s (S.getD j none):=by
 rw [h];exact⟨rfl,fun _ h=>h⟩
theorem jo.trans{s t:List Int × List Bool}{o:Option (List Int × List Bool)}(h:t.1=s.1/\∀k,t.2.getD k false=true->s.2.getD k false=true)(g:jo t o):jo s o:=by
 cases o with
 |none=>exact g
 |some u=>exact⟨g.1.trans h.1,fun k hk=>h.2 k (g.2 k hk)⟩
section
variable {S S' : List (Option (List Int × List Bool))} {s : List Int × List Bool}
theorem BJ{k:Nat}(h:iN S k s=some S'):(∀j,j≠k->S'.getD j none=S.getD j none)/\(∀j u,S.getD j none=some u->jo u (S'.getD j none))/\(k<S.length->jo s (S'.getD k none))/\
 ∀P:Nat->Bool,xV P S->(∀k,s.2.getD k false=true->P k=true)->xV P S':=by
 unfold iN at h
 cases hk:S.getD k none with
 |none=>
  rw [hk]at h;obtain rfl:=Option.some.inj h;refine⟨fun j hj=>by rw [aA,if_neg (fun c=>hj c.1.symm)],fun j u hu=>?_,fun hl=>?_,fun P hP hs j u hu=>?_⟩
  ·by_cases e:k=j
   ·subst e;rw [hk]at hu;cases hu
   ·rw [aA,if_neg (fun c=>e c.1)];exact .refl hu
  ·rw [aA,if_pos ⟨rfl,hl⟩];exact⟨rfl,fun _ h=>h⟩
  ·rw [aA]at hu
   split at hu
   ·obtain rfl:=Option.some.inj hu;exact hs
   ·exact hP j u hu
 |some t=>
  rw [hk]at h;by_cases e:t.1=s.1
  ·simp only [if_pos e]at h;obtain rfl:=Option.some.inj h;refine⟨fun j hj=>by rw [aA,if_neg (fun c=>hj c.1.symm)],fun j u hu=>?_,fun hl=>?_,fun P hP hs j u hu=>?_⟩
   ·rw [aA]
    split
    ·rename_i c
     obtain rfl:=c.1;rw [hk]at hu;obtain rfl:=Option.some.inj hu;exact⟨rfl,fun k hk=>(lL hk).1⟩
    ·exact .refl hu
   ·rw [aA,if_pos ⟨rfl,hl⟩];exact⟨e,fun k hk=>(lL hk).2⟩
   ·rw [aA]at hu
    split at hu
    ·obtain rfl:=Option.some.inj hu;exact fun k hk=>hs k (lL hk).2
    ·exact hP j u hu
  ·simp only [if_neg e]at h;cases h
end
theorem Dx{m n i:Nat}{x:Ins}{s s':List Int × List Bool}{dims dims' D:List Int}{P:Nat->Bool}(hx:wfF m n i x=true)(hm:m<=12)(hdl:dims.length=12)(hDl:D.length=12)(h:eU x s dims=some (s',dims'))(hdone:∀k,s.2.getD k false=true->P k=true)
 (hD:∀k,(P k || (decide (x.op=4)&&decide (k=x.a.toNat)))=true->D.getD k 0=dims'.getD k 0) (hset:x.op=4->P x.a.toNat=false) :
 eU x s D=some (s',D)/\dims'.length=12/\(∀k,P k=true->dims'.getD k 0=dims.getD k 0)/\∀k,s'.2.getD k false=true->(P k || (decide (x.op=4)&&decide (k=x.a.toNat)))=true:=by
 have ha:x.op=4->x.a.toNat<12:=fun h4=>by
  unfold wfF at hx;rw [if_neg zb]at hx;by_cases hz:¬(x.n=0/\x.d=0)
  ·rw [if_pos hz]at hx;cases hx
  rw [if_neg hz,if_neg zb,if_pos (.inr h4)]at hx;simp at hx;omega
 have hor:∀k,s.2.getD k false=true->(P k || (decide (x.op=4)&&decide (k=x.a.toNat)))=true:=fun k hk=>by rw [hdone k hk];rfl
 unfold eU at h ⊢;by_cases h1:x.op=1
 ·simp only [if_pos h1]at h ⊢;obtain⟨rfl,rfl⟩:=Prod.mk.inj (Option.some.inj h);exact⟨rfl,hdl,fun _ _=>rfl,hor⟩
 simp only [if_neg h1]at h ⊢;by_cases h2:x.op=2
 ·simp only [if_pos h2]at h ⊢;obtain⟨rfl,rfl⟩:=Prod.mk.inj (Option.some.inj h);exact⟨rfl,hdl,fun _ _=>rfl,hor⟩
 simp only [if_neg h2]at h ⊢;by_cases h5:x.op=5
 ·simp only [if_pos h5]at h ⊢;obtain⟨rfl,rfl⟩:=Prod.mk.inj (Option.some.inj h);exact⟨rfl,hdl,fun _ _=>rfl,hor⟩
 simp only [if_neg h5]at h ⊢;by_cases h23:x.op=23\/x.op=24
 ·simp only [if_pos h23]at h ⊢;obtain⟨rfl,rfl⟩:=Prod.mk.inj (Option.some.inj h);exact⟨rfl,hdl,fun _ _=>rfl,hor⟩
 simp only [if_neg h23]at h ⊢;by_cases h3:x.op=3
 ·simp only [if_pos h3]at h ⊢;by_cases hb:s.2.getD x.a.toNat false=true
  ·rw [if_pos hb]at h ⊢;obtain⟨rfl,rfl⟩:=Prod.mk.inj (Option.some.inj h);rw [hD _ (hor _ hb)];exact⟨rfl,hdl,fun _ _=>rfl,hor⟩
  ·rw [if_neg hb]at h;cases h
 simp only [if_neg h3]at h ⊢;by_cases h4:x.op=4
 ·simp only [if_pos h4]at h ⊢;by_cases he:s.1= []
  ·rw [if_pos he]at h;cases h
  rw [if_neg he]at h ⊢;obtain⟨rfl,rfl⟩:=Prod.mk.inj (Option.some.inj h);have hset0:=hset h4
  have e:D.set x.a.toNat (s.1.getLastD 0)=D:=by
   have h7:=hD x.a.toNat (by rw [decide_eq_true h4];simp);rw [aA,if_pos ⟨rfl,by have:=ha h4;omega⟩]at h7;apply ext_getElem?;intro k;rw [getElem?_set]
   split
   ·rename_i ek
    subst ek;have hlt:=ha h4;rw [if_pos zb,getElem?_eq_getElem zb,<-h7,getD_eq_getElem?_getD,getElem?_eq_getElem zb];rfl
   ·rfl
  refine⟨by rw [e],by rw [length_set];exact hdl,fun k hk=>?_,fun k hk=>?_⟩
  ·rw [aA,if_neg];intro c;rw [<-c.1,hset0]at hk;cases hk
  ·rw [aA]at hk
   split at hk
   ·rename_i c
    rw [decide_eq_true h4,decide_eq_true c.1.symm];simp
   ·exact hor k hk
 simp only [if_neg h4]at h ⊢;by_cases h22:x.op=22
 ·simp only [if_pos h22]at h ⊢;by_cases he:s.1= []\/s.1.getLastD 0≠1
  ·rw [if_pos he]at h;cases h
  ·rw [if_neg he]at h ⊢;obtain⟨rfl,rfl⟩:=Prod.mk.inj (Option.some.inj h);exact⟨rfl,hdl,fun _ _=>rfl,fun k hk=>by have:=hor k hk;simpa [h4]using this⟩
 simp only [if_neg h22]at h ⊢;by_cases h21:x.op=21
 ·simp only [if_pos h21]at h ⊢;obtain⟨rfl,rfl⟩:=Prod.mk.inj (Option.some.inj h);exact⟨rfl,hdl,fun _ _=>rfl,fun k hk=>by have:=hor k hk;simpa [h4]using this⟩
 simp only [if_neg h21]at h ⊢;by_cases hn:s.1.length<fZ (opF x.op)
 ·rw [if_pos hn]at h;cases h
 rw [if_neg hn]at h ⊢;by_cases hr:ag (opF x.op) (s.1.drop (s.1.length-fZ (opF x.op)))=0
 ·rw [if_pos hr]at h;cases h
 rw [if_neg hr]at h ⊢;obtain⟨rfl,rfl⟩:=Prod.mk.inj (Option.some.inj h);exact⟨rfl,hdl,fun _ _=>rfl,fun k hk=>by have:=hor k hk;simpa [h4]using this⟩
theorem Dw{x:Ins}{s s':List Int × List Bool}{dims dims':List Int}(hd:dims.length=12)(h:eU x s dims=some (s',dims')):dims'.length=12:=by
 unfold eU at h
 repeat' split at h
 all_goals first
  |(cases h;done)
  |(obtain⟨-,rfl⟩:=Prod.mk.inj (Option.some.inj h);first|exact hd|(rw [length_set];exact hd))
theorem Ik{S S':List (Option (List Int × List Bool))}{x:Ins}{i dep dep':Nat}{dims dims':List Int}(h:jL S x i dims dep=some (S',dims',dep')) :
 ∃s s' S1,S.getD i none=some s/\eU x s dims=some (s',dims')/\s'.1.length<=24/\(if x.op=21 then some S else iN S (i+1) s')=some S1/\(if x.op=21\/x.op=22 then iN S1 x.a.toNat s' else some S1)=some S':=by
 unfold jL at h
 cases h1:S.getD i none with
 |none=>rw [h1]at h;cases h
 |some s=>
  rw [h1]at h
  cases h2:eU x s dims with
  |none=>simp only [h2]at h;cases h
  |some r=>
   obtain⟨s',d'⟩:=r;simp only [h2]at h;by_cases h3:24<s'.1.length
   ·rw [if_pos h3]at h;cases h
   rw [if_neg h3]at h
   cases h4:(if x.op=21 then some S else iN S (i+1) s')with
   |none=>simp only [h4]at h;cases h
   |some S1=>
    simp only [h4]at h
    cases h5:(if x.op=21\/x.op=22 then iN S1 x.a.toNat s' else some S1)with
    |none=>simp only [h5]at h;cases h
    |some S2=>
     simp only [h5]at h;obtain⟨rfl,h6⟩:=Prod.mk.inj (Option.some.inj h);obtain⟨rfl,-⟩:=Prod.mk.inj h6;exact⟨s,s',S1,rfl,h2,by omega,h4,h5⟩
theorem MB{m n:Nat}(hm:m<=12):∀(r:List Ins) (i:Nat) (P:Nat->Bool) (S:List (Option (List Int × List Bool))) (dims:List Int) (dep:Nat) (d:Int),
 (∀k,k<r.length->wfF m n (i+k) (r.getD k default)=true)->(bN r).Nodup->(∀a∈bN r,P a=false)->xV P S->dims.length=12->S.length=n+1->i+r.length=n->goA r i S dims dep=(d,0)->
 ∃(F:List (Option (List Int × List Bool))) (D:List Int),D.length=12/\(∀j,j<=i->F.getD j none=S.getD j none)/\(∀j u,S.getD j none=some u->jo u (F.getD j none))/\(∀k,P k=true->D.getD k 0=dims.getD k 0)/\
  (∀k,k<r.length->∃s s',F.getD (i+k) none=some s/\eU (r.getD k default) s D=some (s',D)/\s'.1.length<=24/\
   ((r.getD k default).op≠21->jo s' (F.getD (i+k+1) none))/\((r.getD k default).op=21\/(r.getD k default).op=22->jo s' (F.getD (r.getD k default).a.toNat none)))/\
  ∀s,F.getD n none=some s->s.1= []:=by
 intro r
 induction r with
 |nil=>
  intro i P S dims dep d _ _ _ _ hd _ hin hgo;refine⟨S,dims,hd,fun _ _=>rfl,fun j u hu=>.refl hu,fun _ _=>rfl,fun k hk=>by simp at hk,fun s hs=>?_⟩;simp only [length_nil]at hin;obtain rfl:i=n:=by omega
  rw [goA,hs]at hgo;by_cases he:s.1= []
  ·exact he
  ·simp only [if_neg he]at hgo;cases(Prod.mk.inj hgo).2
 |cons x r ih=>
  intro i P S dims dep d hwf hnd hsP hdo hd hn hin hgo;simp only [length_cons]at hin;have hx:wfF m n i x=true:=hwf 0 zd;have hset:x.op=4->P x.a.toNat=false:=fun h=>hsP _ yU
  have hjmp:x.op=21\/x.op=22->i<x.a.toNat/\x.a.toNat<S.length:=fun h=>by
   unfold wfF at hx;rw [if_neg zb]at hx;by_cases hz:¬(x.n=0/\x.d=0)
   ·rw [if_pos hz]at hx;cases hx
   rw [if_neg hz,if_neg zb,if_neg zb,if_neg zb,if_pos h]at hx;simp at hx;omega
  rw [goA]at hgo
  cases hr:jL S x i dims dep with
  |none=>rw [hr]at hgo;cases(Prod.mk.inj hgo).2
  |some t=>
   obtain⟨S',dims',dep'⟩:=t;rw [hr]at hgo;simp only at hgo;obtain⟨s,s',S1,e1,e2,e3,e4,e5⟩:=Ik hr;have hds:=hdo i s e1
   -- the two puts
   have hs':∀k,s'.2.getD k false=true->(P k || (decide (x.op=4)&&decide (k=x.a.toNat)))=true:=
    (Dx (D:=dims'.set 0 (dims'.getD 0 0)) (P:=P) hx hm hd (by rw [length_set];exact Dw hd e2) e2 hds (fun k _=>by rw [aA];split<;>simp_all) hset).2.2.2
   have hp1:S1.length=S.length/\(∀j,j<=i->S1.getD j none=S.getD j none)/\(∀j u,S.getD j none=some u->jo u (S1.getD j none))/\(x.op≠21->jo s' (S1.getD (i+1) none))/\xV (fun k=>P k || (decide (x.op=4)&&decide (k=x.a.toNat))) S1:=by
    have hdo':xV (fun k=>P k || (decide (x.op=4)&&decide (k=x.a.toNat))) S:=fun j u hu k hk=>by
     show(P k || _)=true;rw [hdo j u hu k hk];rfl
    by_cases c:x.op=21
    ·rw [if_pos c]at e4;obtain rfl:=Option.some.inj e4;exact⟨rfl,fun _ _=>rfl,fun j u hu=>.refl hu,fun h=>absurd c h,hdo'⟩
    ·rw [if_neg c]at e4;obtain⟨q1,q2,q3,q4⟩:=BJ e4;exact⟨(iQ e4).1,fun j hj=>q1 j zb,q2,fun _=>q3 zb,q4 _ hdo' hs'⟩
   have hp2:S'.length=S.length/\(∀j,j<=i->S'.getD j none=S.getD j none)/\(∀j u,S1.getD j none=some u->jo u (S'.getD j none))/\(x.op=21\/x.op=22->jo s' (S'.getD x.a.toNat none))/\xV (fun k=>P k || (decide (x.op=4)&&decide (k=x.a.toNat))) S':=by
    by_cases c:x.op=21\/x.op=22
    ·rw [if_pos c]at e5;have⟨j1,j2⟩:=hjmp c;obtain⟨q1,q2,q3,q4⟩:=BJ e5;exact⟨(iQ e5).1.trans hp1.1,fun j hj=>(q1 j zb).trans (hp1.2.1 j hj),q2,fun _=>q3 (by rw [hp1.1];exact j2),q4 _ hp1.2.2.2.2 hs'⟩
    ·rw [if_neg c]at e5;obtain rfl:=Option.some.inj e5;exact⟨hp1.1,hp1.2.1,fun j u hu=>.refl hu,fun h=>absurd h c,hp1.2.2.2.2⟩
   obtain⟨F,D,f1,f2,f3,f4,f5,f6⟩:=ih (i+1) (fun k=>P k || (decide (x.op=4)&&decide (k=x.a.toNat))) S' dims' dep' d
    (fun k hk=>by
     have:=hwf (k+1) zg;rw [show i+1+k=i+(k+1)by omega]
     exact this)
    (by
     rw [cK]at hnd
     split at hnd
     ·exact(nodup_cons.1 hnd).2
     ·exact hnd)
    (fun a ha=>by
     rw [cK]at hnd hsP;by_cases h:x.op=4
     ·rw [if_pos h]at hnd hsP;have h5:a≠x.a.toNat:=fun e=>by subst e;exact(nodup_cons.1 hnd).1 ha
      rw [hsP a (mem_cons_of_mem _ ha),decide_eq_false h5];simp
     ·rw [if_neg h]at hsP
      rw [hsP a ha,decide_eq_false h];rfl)
    hp2.2.2.2.2 (Dw hd e2) zb zb hgo
   obtain⟨g1,g2,g3,g4⟩:=Dx (D:=D) hx hm hd f1 e2 hds f4 hset
   have hsub:∀u (o:Option (List Int × List Bool)) j,jo u (S1.getD j none)->jo u (F.getD j none):=fun u o j hu=>by
    cases h1:S1.getD j none with
    |none=>rw [h1]at hu;exact hu.elim
    |some t=>
     rw [h1]at hu;have h2:=hp2.2.2.1 j t h1
     cases h3:S'.getD j none with
     |none=>rw [h3]at h2;exact h2.elim
     |some t'=>
      rw [h3]at h2;exact .trans hu (.trans h2 (f3 j t' h3))
   refine⟨F,D,f1,fun j hj=>(f2 j zb).trans (hp2.2.1 j hj),fun j u hu=>hsub u none j (hp1.2.2.1 j u hu),fun k hk=>?_,fun k hk=>?_,f6⟩
   ·rw [f4 k (by rw [hk];rfl)];exact g3 k hk
   ·cases k with
    |zero=>
     refine⟨s,s', ?_,g1,e3,fun c=>?_,fun c=>?_⟩
     ·rw [Nat.add_zero,f2 i zb,hp2.2.1 i (Nat.le_refl _)];exact e1
     ·exact hsub s' none _ (hp1.2.2.2.1 c)
     ·have h2:=hp2.2.2.2.1 c;change jo s' (S'.getD x.a.toNat none)at h2;show jo s' (F.getD x.a.toNat none)
      cases h3:S'.getD x.a.toNat none with
      |none=>rw [h3]at h2;exact h2.elim
      |some t'=>
       rw [h3]at h2;exact .trans h2 (f3 _ t' h3)
    |succ k=>
     have:=f5 k (by simp at hk;omega);rw [show i+1+k=i+(k+1)by omega]at this;exact this
theorem Ky{l:List Ins}{sl:List ByteArray}{d:Int}(h:verA l sl=(d,0)):∃F D,Sl l sl.length F D:=by
 unfold verA at h;by_cases hf:fu l sl=true
 ·rw [if_pos hf]at h;unfold fu eO at hf;simp only [Bool.and_eq_true,decide_eq_true_eq,all_eq_true,mem_range]at hf;obtain⟨⟨-,hwf⟩,⟨⟨hm,-⟩,-⟩,hnd⟩:=hf
  have gf:∀k,(List.replicate 12 false).getD k false=false:=fun k=>by
   rw [getD_eq_getElem?_getD,getElem?_replicate];split<;>rfl
  obtain⟨F,D,f1,f2,-,-,f5,f6⟩:=MB hm l 0 (fun _=>false) _ _ 0 d (fun k hk=>by rw [Nat.zero_add];exact hwf k hk) hnd (fun _ _=>rfl) (fun j s hs k hk=>by
   cases j with
   |zero=>
    obtain rfl:=Option.some.inj hs;rw [gf]at hk;cases hk
   |succ j=>
    rw [getD_cons_succ,getD_eq_getElem?_getD,getElem?_replicate]at hs
    split at hs<;>cases hs) zd zd zd h
  refine⟨F,D,hwf,hm,f1,⟨_,f2 0 (Nat.le_refl _),rfl,gf⟩,fun i hi=>?_,f6⟩;have:=f5 i hi;rw [Nat.zero_add]at this;exact this
 ·rw [if_neg hf]at h;cases(Prod.mk.inj h).2
def SI(v:Vw)(k:Nat):Val:=(Rh v (fC k)).getD .zero
def opV(op:Int)(l:List Val):Val × Int:=if op<=6 then op1 op (l.getD 0 .zero)else op2 op (l.getD 0 .zero) (l.getD 1 .zero)
def nT(l:List Ins)(sl:List ByteArray)(v:Vw):Nat->Nat->List Val->List Val->List (ByteArray × Val)->List (ByteArray × Val) × Int
 |0,_,_,_,st=>(st,0)
 |f+1,i,stk,slots,st=>
  if l.length<=i then(st,0)
  else if(l.getD i default).op=1 then nT l sl v f (i+1) (stk++[⟨(l.getD i default).a,false,(l.getD i default).n,(l.getD i default).d⟩]) slots st
  else if(l.getD i default).op=2 then nT l sl v f (i+1) (stk++[SI v (l.getD i default).a.toNat]) slots st
  else if(l.getD i default).op=3 then nT l sl v f (i+1) (stk++[slots.getD (l.getD i default).a.toNat .zero]) slots st
  else if(l.getD i default).op=4 then nT l sl v f (i+1) stk.dropLast (slots.set (l.getD i default).a.toNat (stk.getLastD .zero)) (st++[(sl.getD (l.getD i default).a.toNat ByteArray.empty,stk.getLastD .zero)])
  else if(l.getD i default).op=5 then(if(GV v.years (l.getD i default).a).2.2=0 then nT l sl v f (i+1) (stk++[.num 4 (GV v.years (l.getD i default).a).1 (GV v.years (l.getD i default).a).2.1]) slots st else([],(GV v.years (l.getD i default).a).2.2))
  else if(l.getD i default).op=23\/(l.getD i default).op=24 then nT l sl v f (i+1) (stk++[.truth (decide ((l.getD i default).op=23))]) slots st
  else if(l.getD i default).op=21 then nT l sl v f (l.getD i default).a.toNat stk slots st
  else if(l.getD i default).op=22 then nT l sl v f (if(stk.getLastD .zero).yes=true then i+1 else(l.getD i default).a.toNat) stk.dropLast slots st
  else if(opV (opF (l.getD i default).op) (stk.drop (stk.length-fZ (opF (l.getD i default).op)))).2=0 then
   nT l sl v f (i+1) (stk.take (stk.length-fZ (opF (l.getD i default).op))++[(opV (opF (l.getD i default).op) (stk.drop (stk.length-fZ (opF (l.getD i default).op)))).1]) slots st
  else([],(opV (opF (l.getD i default).op) (stk.drop (stk.length-fZ (opF (l.getD i default).op)))).2)
structure Fits(D:List Int)(s:List Int × List Bool)(stk slots:List Val):Prop where
 dims:stk.map Val.dim=s.1
 ok:∀x∈stk,x.ok=true
 slot:∀k,s.2.getD k false=true->(slots.getD k .zero).ok=true/\(slots.getD k .zero).dim=D.getD k 0
def At(F:List (Option (List Int × List Bool)))(D:List Int)(i:Nat)(stk slots:List Val):Prop:=∃s,F.getD i none=some s/\Fits D s stk slots
theorem Fits.to{F:List (Option (List Int × List Bool))}{D:List Int}{s:List Int × List Bool}{stk slots:List Val}{i:Nat}(h:Fits D s stk slots)(g:jo s (F.getD i none)):At F D i stk slots:=by
 cases e:F.getD i none with
 |none=>rw [e]at g;exact g.elim
 |some t=>
  rw [e]at g;exact⟨t,e,h.dims.trans g.1.symm,h.ok,fun k hk=>h.slot k (g.2 k hk)⟩
section
variable {l : List Ins} {m : Nat} {F : List (Option (List Int × List Bool))} {D : List Int} {i : Nat} {stk slots : List Val} {s : List Int × List Bool}
theorem Fits.push(h:Fits D s stk slots){x:Val}(hx:x.ok=true):Fits D (s.1++[x.dim],s.2) (stk++[x]) slots:=
 ⟨by rw [map_append,h.dims];rfl,fun y hy=>by
  rcases mem_append.1 hy with hy|hy
  ·exact h.ok y hy
  ·obtain rfl:y=x:=by simpa using hy
   exact hx,h.slot⟩
theorem Fits.len(h:Fits D s stk slots):stk.length=s.1.length:=by rw [<-h.dims,length_map]
theorem Fits.pop(h:Fits D s stk slots):Fits D (s.1.dropLast,s.2) stk.dropLast slots:=
 ⟨by rw [<-h.dims,map_dropLast],fun y hy=>h.ok y (dropLast_subset _ hy),h.slot⟩
theorem Sl.at(C:Sl l m F D)(hi:i<l.length)(h:At F D i stk slots):∃s s',Fits D s stk slots/\eU (l.getD i default) s D=some (s',D)/\s'.1.length<=24/\
 ((l.getD i default).op≠21->jo s' (F.getD (i+1) none))/\((l.getD i default).op=21\/(l.getD i default).op=22->jo s' (F.getD (l.getD i default).a.toNat none)):=by
 obtain⟨s,e,hf⟩:=h;obtain⟨s0,s',e0,h1,h2,h3,h4⟩:=C.step i hi;rw [e]at e0;obtain rfl:=Option.some.inj e0;exact⟨s,s',hf,h1,h2,h3,h4⟩
theorem QS{n:Nat}{x:Ins}(h:wfF m n i x=true)(h1:x.op=1):2<=x.a/\x.a<=4/\aL x.n x.d=true:=by
 unfold wfF at h;rw [if_pos h1]at h;simp only [Bool.and_eq_true,decide_eq_true_eq]at h;exact⟨by omega,by omega,h.2⟩
theorem xZ{n:Nat}{x:Ins}(h:wfF m n i x=true)(h1:x.op≠1):(x.n=0/\x.d=0)/\(x.op=2->0<=x.a/\x.a<11)/\(x.op=3\/x.op=4->0<=x.a/\x.a<m)/\(x.op=5->1<=x.a/\x.a<=45)/\
 (x.op=21\/x.op=22->(i:Int)<x.a/\x.a<=n)/\(x.op≠2->x.op≠3->x.op≠4->x.op≠5->x.op≠21->x.op≠22->x.op≠23->x.op≠24->opF x.op≠0):=by
 unfold wfF at h;rw [if_neg h1]at h;by_cases hz:¬(x.n=0/\x.d=0)
 ·rw [if_pos hz]at h;cases h
 rw [if_neg hz]at h;refine⟨by omega,fun c=>?_,fun c=>?_,fun c=>?_,fun c=>?_,fun c2 c3 c4 c5 c21 c22 c23 c24=>?_⟩
 ·rw [if_pos c]at h;simpa using h
 ·rw [if_neg zb,if_pos c]at h;simpa using h
 ·rw [if_neg zb,if_neg zb,if_pos c]at h;simpa using h
 ·rw [if_neg zb,if_neg zb,if_neg zb,if_pos c]at h;simpa using h
 ·rw [if_neg zb,if_neg zb,if_neg zb,if_neg zb,if_neg zb]at h;simp only [decide_eq_true_eq]at h;exact h.1
end
mutual
def aP(s:ByteArray):Ex->Bool
 | .mk op _ _ _ nm l=>(decide (op=2)&&decide (nm=s)) || bT s l
def bT(s:ByteArray):List Ex->Bool
 | []=>false
 |e::r=>aP s e || bT s r
end
theorem Cb(s:ByteArray)(e:Ex):aP s e=((decide (e.op=2)&&decide (e.name=s)) || bT s e.args):=by cases e;rw [aP];rfl
theorem Ca(s:ByteArray)(l:List Ex)(k:Nat)(h:k<l.length):bT s (l.take (k+1))=(bT s (l.take k) || aP s (l.getD k default)):=by
 induction l generalizing k with
 |nil=>simp at h
 |cons e r ih=>
  cases k with
  |zero=>simp [bT]
  |succ k=>simp only [take_succ_cons,bT,getD_cons_succ];rw [ih k zy,Bool.or_assoc]
theorem Em(s:ByteArray)(l:List Ex)(k:Nat)(h:k<l.length)(hf:aP s (l.getD k default)=true):bT s l=true:=by
 induction l generalizing k with
 |nil=>simp at h
 |cons e r ih=>
  cases k with
  |zero=>simp only [getD_cons_zero]at hf;simp [bT,hf]
  |succ k=>simp only [getD_cons_succ]at hf;simp [bT,ih k zy hf]
def ja(e:Ex)(ls:List (ByteArray × Ex))(i:Nat)(u:List Nat):Bool:=
 aP (ls.getD i default).1 e || u.any fun k=>aP (ls.getD i default).1 (ls.getD k default).2
def bz(e:Ex)(ls:List (ByteArray × Ex)):Nat->List Nat
 |0=>[]
 |f+1=>if ja e ls (ls.length-(f+1)) (bz e ls f)then(ls.length-(f+1))::bz e ls f else bz e ls f
def usesL(e:Ex)(ls:List (ByteArray × Ex)):List Nat:=bz e ls ls.length
theorem eX{e:Ex}{ls:List (ByteArray × Ex)}:∀(f:Nat),f<=ls.length->∀i∈bz e ls f,ls.length-f<=i/\i<ls.length
 |0,_,i,h=>by simp [bz]at h
 |f+1,hf,i,h=>by
  rw [bz]at h
  split at h
  ·rcases mem_cons.1 h with rfl|h
   ·omega
   ·have:=eX f zb i h;omega
  ·have:=eX f zb i h;omega
theorem jU{e:Ex}{ls:List (ByteArray × Ex)}:∀(f:Nat),f<=ls.length->(bz e ls f).Pairwise (· < ·)
 |0,_=>by simp [bz]
 |f+1,hf=>by
  rw [bz]
  split
  ·exact pairwise_cons.2 ⟨fun i hi=>by have:=eX f zb i hi;omega,jU f zb⟩
  ·exact jU f zb
theorem usesG_length{e:Ex}{ls:List (ByteArray × Ex)}:∀(f:Nat),(bz e ls f).length<=f
 |0=>by simp [bz]
 |f+1=>by
  rw [bz];have:=usesG_length (e:=e) (ls:=ls) f
  split<;>simp<;>omega
theorem iW{e:Ex}{ls:List (ByteArray × Ex)}(f:Nat)(hf:f+1<=ls.length):(bz e ls (f+1)).contains (ls.length-(f+1))=ja e ls (ls.length-(f+1)) (bz e ls f):=by
 rw [bz]
 split<;>rename_i h
 ·simp [h]
 ·rw [Bool.eq_false_iff.2 h];rw [Bool.eq_false_iff];intro hc;have:=eX f zb _ (contains_iff_mem.1 hc);omega
theorem jT{e:Ex}{ls:List (ByteArray × Ex)}{i:Nat}:∀(f g:Nat),f+g<=ls.length->ls.length-f<=i->i<ls.length->(i∈bz e ls (f+g)↔i∈bz e ls f)
 |f,0,_,_,_=>Iff.rfl
 |f,g+1,h,h1,h2=>by
  have ih:=jT (e:=e) f g zb h1 h2;show i∈bz e ls (f+g+1)↔_;rw [bz]
  split
  ·rw [mem_cons,ih];constructor
   ·rintro(h3|h3)
    ·omega
    ·exact h3
   ·exact .inr
  ·exact ih
def lH(op:Int):Int:=if op=4 then 6 else if op=5 then 7 else if op=6 then 8 else if op=19 then 19 else if op=20 then 20 else op+2
theorem BO{op:Int}(h:(4<=op/\op<=16)\/op=19\/op=20):opF (lH op)=op/\6<=lH op/\lH op<=20:=by
 unfold opF lH
 (repeat' split)<;>omega
def jd(s:ByteArray):Option Nat:=inpN.findIdx? fun p=>decide (p.1=s)
def slK(sl:List ByteArray)(s:ByteArray):Nat:=(sl.findIdx? fun x=>decide (x=s)).getD 0
def BV(κ:ByteArray->Nat)(s:ByteArray):Ins:=match jd s with|some k=>⟨2,k,0,0⟩|none=>⟨3,κ s,0,0⟩
def fw:List (Nat->List Ins)->Nat->List Ins
 | [],_=>[]
 |f::r,i=>f i++fw r (i+(f i).length)
def brC(A B C:Nat->List Ins)(i:Nat):List Ins:=
 A i++⟨22,((i+(A i).length+1+(B (i+(A i).length+1)).length+1:Nat):Int),0,0⟩::(B (i+(A i).length+1)++
  ⟨21,((i+(A i).length+1+(B (i+(A i).length+1)).length+1+(C (i+(A i).length+1+(B (i+(A i).length+1)).length+1)).length:Nat):Int),0,0⟩::C (i+(A i).length+1+(B (i+(A i).length+1)).length+1))
def iE(κ:ByteArray->Nat)(op n d m:Int)(s:ByteArray)(fs:List (Nat->List Ins))(i:Nat):List Ins:=
 if op=1 then [⟨1,m,n,d⟩]else if op=2 then [BV κ s]else if op=3 then [⟨5,n,0,0⟩]
 else if op=17 then brC (fs.getD 0 fun _=>[]) (fs.getD 1 fun _=>[]) (fun _=>[⟨24,0,0,0⟩]) i
 else if op=18 then brC (fs.getD 0 fun _=>[]) (fun _=>[⟨23,0,0,0⟩]) (fs.getD 1 fun _=>[]) i
 else if op=21 then brC (fs.getD 0 fun _=>[]) (fs.getD 1 fun _=>[]) (fs.getD 2 fun _=>[]) i
 else fw fs i++[⟨lH op,0,0,0⟩]
mutual
def codeF(κ:ByteArray->Nat):Ex->Nat->List Ins
 | .mk op n d m s l=>iE κ op n d m s (bP κ l)
def bP(κ:ByteArray->Nat):List Ex->List (Nat->List Ins)
 | []=>[]
 |e::r=>codeF κ e::bP κ r
end
def Lies(l:List Ins)(i:Nat)(c:List Ins):Prop:=i+c.length<=l.length/\∀k,k<c.length->l.getD (i+k) default=c.getD k default
theorem Lies.left{l:List Ins}{i:Nat}{a b:List Ins}(h:Lies l i (a++b)):Lies l i a:=by
 obtain⟨h1,h2⟩:=h;rw [length_append]at h1;refine⟨by omega,fun k hk=>?_⟩;rw [h2 k (by rw [length_append];omega)];simp [getD_eq_getElem?_getD,getElem?_append_left hk]
theorem Lies.right{l:List Ins}{i:Nat}{a b:List Ins}(h:Lies l i (a++b)):Lies l (i+a.length) b:=by
 obtain⟨h1,h2⟩:=h;rw [length_append]at h1;refine⟨by omega,fun k hk=>?_⟩;have:=h2 (a.length+k) (by rw [length_append];omega);rw [Nat.add_assoc,this];simp [getD_eq_getElem?_getD,getElem?_append_right (Nat.le_add_right a.length k)]
theorem Lies.head{l:List Ins}{i:Nat}{x:Ins}{b:List Ins}(h:Lies l i (x::b)):i<l.length/\l.getD i default=x/\Lies l (i+1) b:=by
 have hl:=Lies.left (a:=[x]) (b:=b) h;have hr:=Lies.right (a:=[x]) (b:=b) h;obtain⟨h1,h2⟩:=hl;have:=h2 0 zd;exact⟨by simp at h1;omega,this,hr⟩
section
variable (l : List Ins) (sl : List ByteArray) (v : Vw) (slots : List Val) (st : List (ByteArray × Val))
def To(i:Nat)(stk:List Val)(j:Nat)(stk':List Val):Prop:=∀f,l.length<=f+i->∃g,l.length<=g+j/\nT l sl v f i stk slots st=nT l sl v g j stk' slots st
def Sk(i:Nat)(stk:List Val)(c:Int):Prop:=∀f,l.length<=f+i->nT l sl v f i stk slots st=([],c)
def Gives(i:Nat)(stk:List Val)(j:Nat)(r:Val × Int):Prop:=if r.2=0 then To l sl v slots st i stk j (stk++[r.1])else Sk l sl v slots st i stk r.2
variable {l sl v slots st} {i j k : Nat} {stk s1 s2 : List Val} {c : Int}
theorem To.refl:To l sl v slots st i stk i stk:=fun f hf=>⟨f,hf,rfl⟩
theorem To.trans(h:To l sl v slots st i stk j s1)(g:To l sl v slots st j s1 k s2):To l sl v slots st i stk k s2:=fun f hf=>by
 obtain⟨f1,h1,e1⟩:=h f hf;obtain⟨f2,h2,e2⟩:=g f1 h1;exact⟨f2,h2,e1.trans e2⟩
theorem To.one{n:Nat}{s':List Val}(hi:i<l.length)(hn:i<n)(h:∀f,nT l sl v (f+1) i stk slots st=nT l sl v f n s' slots st):To l sl v slots st i stk n s':=fun f hf=>by
 cases f with
 |zero=>omega
 |succ f=>exact⟨f,by omega,h f⟩
theorem Sk.one(hi:i<l.length)(h:∀f,nT l sl v (f+1) i stk slots st=([],c)):Sk l sl v slots st i stk c:=fun f hf=>by
 cases f with
 |zero=>omega
 |succ f=>exact h f
end
theorem codeF_eq(κ:ByteArray->Nat)(e:Ex):codeF κ e=iE κ e.op e.num e.den e.dim e.name (bP κ e.args):=by cases e;rw [codeF];rfl
theorem qC{s:ByteArray}{k:Nat}(h:jd s=some k):k<11/\fC k=s:=by
 unfold jd at h;obtain⟨h1,h2,-⟩:=findIdx?_eq_some_iff_getElem.1 h;have hl:inpN.length=11:=rfl;refine⟨by omega, ?_⟩;have h3:(inpN[k]).1=s:=by simpa using h2
 unfold fC;rw [getD_eq_getElem?_getD,getElem?_eq_getElem h1];exact h3
theorem qD{s:ByteArray}(h:jd s=none):df s.toList=0:=by
 have hne:∀p∈inpN,p.1≠s:=fun p hp=>by
  have:=findIdx?_eq_none_iff.1 h p hp;simpa using this
 have back:∀t:List UInt8,s.toList=t->s=⟨t.toArray⟩:=fun t ht=>by
  apply ByteArray.ext;rw [<-ht,ByteArray.toList_eq]
 unfold df
 (repeat' split)<;>first
  |rfl
  |(exfalso
    rename_i hs
    rcases hs with hs|hs|hs|hs|hs|hs|hs<;>(obtain rfl:=back _ hs;exact absurd h zp))
  |(exfalso
    rename_i hs
    rcases hs with hs|hs|hs<;>(obtain rfl:=back _ hs;exact absurd h zp))
  |(exfalso
    rename_i hs
    obtain rfl:=back _ hs
    exact absurd h zp)
theorem jI:∀{l:List Ex},aC l=true->∀a∈l,ay a=true
 |e::r,h,a,ha=>by
  rw [aC,Bool.and_eq_true]at h;rcases mem_cons.1 ha with rfl|ha
  ·exact h.1
  ·exact jI h.2 a ha
theorem BZ{s:ByteArray}:∀{l:List Ex} {a:Ex},a∈l->aP s a=true->bT s l=true
 |e::r,a,ha,h=>by
  rw [bT,Bool.or_eq_true];rcases mem_cons.1 ha with rfl|ha
  ·exact .inl h
  ·exact .inr (BZ ha h)
theorem pG{env:List (ByteArray × Int)}:∀{l:List Ex},(aW env l).2=0->(aW env l).1=l.map (fun e=>(az env e).1)/\∀a∈l,(az env a).2=0
 | [],_=>⟨rfl,fun a ha=>by cases ha⟩
 |e::r,h=>by
  rw [aW]at h ⊢
  split at h<;>rename_i c1
  ·exact absurd h c1
  split at h<;>rename_i c2
  ·exact absurd h c2
  rw [if_neg c1,if_neg c2];obtain⟨h1,h2⟩:=pG (env:=env) (l:=r) zb;refine⟨by simp [h1],fun a ha=>?_⟩;rcases mem_cons.1 ha with rfl|ha
  ·omega
  ·exact h2 a ha
section
variable {v : Vw} {env : List (ByteArray × Val)} {κ : ByteArray -> Nat} {sl : List ByteArray} {slots : List Val}
end
open Go.RowKit
def Md(s:ByteArray):Int:=match jd s with|some k=>(k:Int)|none=>-1
theorem Gs{s:ByteArray}{k:Nat}(hk:k<11)(hs:fC k=s):jd s=some k:=by
 subst hs;have key:∀k,k<11->jd (fC k)=some k:=by decide+kernel
 exact key k hk
theorem LF{n d:Int}(h:d≠0)(he:mkE n d=0):aL (mkN n d) (mkD n d)=true:=by
 rcases SE h (n:=n)with ⟨_,h2⟩|⟨_,_,h3⟩
 ·exact h2
 ·simp only [he]at h3;omega
def gI(env:List (ByteArray × Int)):Bool:=env.all fun p=>decide (1<=p.2/\p.2<=4)
def aQ(env:List (ByteArray × Int))(e:Ex):Int × Int:=if bB e=true/\gI env=true then az env e else(0,1)
mutual
def lV:Ex->Bool
 | .mk o _ _ _ _ l=>!(o==1)&&sG l
def sG:List Ex->Bool
 | []=>true
 |e::r=>lV e&&sG r
end
theorem tT:∀{l:List Ex},sG l=true->∀k,k<l.length->lV (l.getD k default)=true
 | [],_,_,hk=>absurd hk (Nat.not_lt_zero _)
 |e::r,h,k,hk=>by
  rw [sG,Bool.and_eq_true]at h
  cases k with
  |zero=>exact h.1
  |succ k=>exact tT h.2 k (by simpa using hk)
theorem IJ{e:Ex}(h:lV e=true)(k:Nat)(hk:k<e.args.length):lV (e.arg k)=true:=by
 obtain⟨o,n,d,m,s,l⟩:=e;rw [lV,Bool.and_eq_true]at h;exact tT h.2 k hk
theorem Lv{e:Ex}(h:lV e=true):e.op≠1:=by
 obtain⟨o,n,d,m,s,l⟩:=e;rw [lV,Bool.and_eq_true]at h;intro h1;have h2:o=1:=h1;have h3:=h.1;rw [h2]at h3;exact absurd h3 zf
def gH(op:Int):Bool:=decide (op=4\/op=6\/op=7\/op=8\/op=9\/op=10\/op=19\/op=20)
def gU(e:Ex):Val:=.num e.dim e.num e.den
def eu(op:Int)(ys:List Ex):Option (Int × Int × Int):=
 if gH op=true/\(∀y∈ys,y.op=1)/\ag op (ys.map Ex.dim)≠0/\(opV op (ys.map gU)).2=0/\aV (opV op (ys.map gU)).1.n (opV op (ys.map gU)).1.d (ag op (ys.map Ex.dim))=true then
  some ((opV op (ys.map gU)).1.n,(opV op (ys.map gU)).1.d,ag op (ys.map Ex.dim))else none
def iD(op n d m:Int)(s:ByteArray)(ys:List Ex):Ex:=
 match eu op ys with
 |some r=>.mk 1 r.1 r.2.1 r.2.2 ByteArray.empty []
 |none=>.mk op n d m s ys
mutual
def aN:Ex->Ex
 | .mk op n d m s xs=>iD op n d m s (AQ xs)
def AQ:List Ex->List Ex
 | []=>[]
 |e::r=>aN e::AQ r
end
theorem jg:∀xs:List Ex,AQ xs=xs.map aN
 | []=>rfl
 |e::r=>by rw [AQ,jg r];rfl
theorem MG(e:Ex):aN e=iD e.op e.num e.den e.dim e.name (e.args.map aN):=by cases e;rw [aN,jg];rfl
theorem jh(op n d m:Int)(s:ByteArray)(ys:List Ex) :
 (iD op n d m s ys= .mk op n d m s ys/\eu op ys=none)\/(gH op=true/\(∀y∈ys,y.op=1)/\ag op (ys.map Ex.dim)≠0/\(opV op (ys.map gU)).2=0/\aV (opV op (ys.map gU)).1.n (opV op (ys.map gU)).1.d (ag op (ys.map Ex.dim))=true/\
  iD op n d m s ys= .mk 1 (opV op (ys.map gU)).1.n (opV op (ys.map gU)).1.d (ag op (ys.map Ex.dim)) ByteArray.empty []):=by
 unfold iD eu;by_cases h:gH op=true/\(∀y∈ys,y.op=1)/\ag op (ys.map Ex.dim)≠0/\(opV op (ys.map gU)).2=0/\aV (opV op (ys.map gU)).1.n (opV op (ys.map gU)).1.d (ag op (ys.map Ex.dim))=true
 ·rw [if_pos h];obtain⟨a,b,c,d,e⟩:=h;exact .inr ⟨a,b,c,d,e,rfl⟩
 ·rw [if_neg h];exact .inl ⟨rfl,rfl⟩
theorem CW{n d m:Int}(h:aV n d m=true):ay (.mk 1 n d m ByteArray.empty [])=true:=by
 rw [ay,if_pos rfl,h];decide+kernel
mutual
theorem qJ:∀e:Ex,ay e=true->ay (aN e)=true/\(aN e).size<=e.size/\(aN e).depth<=e.depth
 | .mk op n d m s xs=>by
   intro h;rw [aN,jg];have h0:=h;rw [ay,Bool.and_eq_true]at h;rcases jh op n d m s (xs.map aN)with ⟨e,-⟩|⟨-,-,-,-,hd,e⟩
   ·rw [e];by_cases hl:op=1\/op=2\/op=3
    ·have hx:xs= []:=by
      have:=h.1;simp only [decide_eq_true_eq]at this;unfold aJ at this;rw [if_pos zb]at this;exact eq_nil_of_length_eq_zero zb
     subst hx;exact⟨h0,Nat.le_refl _,Nat.le_refl _⟩
    ·have hfs:aC xs=true:=by
      have:=h.2;rw [if_neg zb,if_neg zb,if_neg zb]at this;exact(Bool.and_eq_true_iff.1 this).1
     obtain⟨k1,k2,k3⟩:=oz xs hfs;refine⟨?_, ?_, ?_⟩
     ·rw [ay,Bool.and_eq_true];refine⟨by rw [length_map];exact h.1, ?_⟩;have:=h.2;rw [if_neg zb,if_neg zb,if_neg zb]at this ⊢;rw [Bool.and_eq_true]at this ⊢;exact⟨k1,this.2⟩
     ·rw [Ex.size,Ex.size];omega
     ·rw [Ex.depth,Ex.depth];omega
   ·rw [e];refine⟨CW hd, ?_, ?_⟩
    ·rw [Ex.size,Ex.size,Ex.sizes];omega
    ·rw [Ex.depth,Ex.depth,Ex.depths];omega
theorem oz:∀xs:List Ex,aC xs=true->aC (xs.map aN)=true/\Ex.sizes (xs.map aN)<=Ex.sizes xs/\Ex.depths (xs.map aN)<=Ex.depths xs
 | [],_=>⟨rfl,Nat.le_refl _,Nat.le_refl _⟩
 |e::r,h=>by
  rw [aC,Bool.and_eq_true]at h;obtain⟨a1,a2,a3⟩:=qJ e h.1;obtain⟨b1,b2,b3⟩:=oz r h.2;rw [map_cons];refine⟨by rw [aC,a1,b1];rfl, ?_, ?_⟩
  ·rw [Ex.sizes,Ex.sizes];omega
  ·rw [Ex.depths,Ex.depths];omega
end
theorem bQ{op:Int}(h:gH op=true):4<=op/\op<=20/\op≠5/\op≠17/\op≠18:=by
 unfold gH at h;simp only [decide_eq_true_eq]at h;omega
theorem pJ(env:List (ByteArray × Int)){y:Ex}(h:y.op=1):az env y=(y.dim,0):=by
 rw [gV];unfold fo;rw [if_pos h]
theorem oq{env:List (ByteArray × Int)}:∀{xs:List Ex},(∀a∈xs,(az env a).2=0)->aW env xs=(xs.map (fun e=>(az env e).1),0)
 | [],_=>rfl
 |e::r,h=>by
  rw [aW,if_neg (by have:=h e zd;omega),oq (fun a ha=>h a (mem_cons_of_mem _ ha))];rfl
mutual
theorem uK(env:List (ByteArray × Int)):∀e:Ex,az env (aN e)=az env e
 | .mk op n d m s xs=>by
   have ih:=rH env xs;rw [aN,jg];rcases jh op n d m s (xs.map aN)with ⟨e,-⟩|⟨ho,hl,hr,-,-,e⟩
   ·rw [e,az,az,ih]
   ·rw [e,pJ env (rfl:Ex.op (.mk 1 _ _ _ _ _)=1),az,<-ih];have hb:=bQ ho
    have hm:aW env (xs.map aN)=((xs.map aN).map Ex.dim,0):=by
     rw [oq (fun a ha=>by rw [pJ env (hl a ha)])];refine Prod.ext (map_congr_left fun a ha=>?_) rfl;rw [pJ env (hl a ha)]
    unfold fo;rw [if_neg zb,if_neg zb,if_neg zb,hm];simp only;rw [if_neg zd,if_neg hr];rfl
theorem rH(env:List (ByteArray × Int)):∀xs:List Ex,aW env (xs.map aN)=aW env xs
 | []=>rfl
 |e::r=>by rw [map_cons,aW,aW,uK env e,rH env r]
end
section
variable {v : Vw} (hv : v.ok = true) {env : List (ByteArray × Val)} (hE : ∀ p ∈ env, p.2.ok = true)
include hv hE
end
theorem EW{e:Ex}(h:bB e=true):bB (aN e)=true:=by
 unfold bB at h ⊢;simp only [Bool.and_eq_true,decide_eq_true_eq]at h ⊢;obtain⟨k1,k2,k3⟩:=qJ e h.2;exact⟨⟨by omega,by omega⟩,k1⟩
mutual
theorem nD{s:ByteArray}:∀e:Ex,aP s (aN e)=true->aP s e=true
 | .mk op n d m s' xs=>by
   intro h;rw [aN,jg]at h;rcases jh op n d m s' (xs.map aN)with ⟨k,-⟩|⟨-,-,-,-,-,k⟩
   ·rw [k,aP,Bool.or_eq_true]at h;rw [aP,Bool.or_eq_true];exact h.imp id (uJ xs)
   ·rw [k,aP]at h;simp [bT]at h
theorem uJ{s:ByteArray}:∀xs:List Ex,bT s (xs.map aN)=true->bT s xs=true
 | [],h=>h
 |e::r,h=>by
  rw [map_cons,bT,Bool.or_eq_true]at h;rw [bT,Bool.or_eq_true];exact h.imp (nD e) (uJ r)
end
def lD(s:ByteArray)(k:Nat):List UInt8:=s.data.toList.drop k
theorem Fz{s:ByteArray}{k:Nat}(h:k<s.size):lD s k=s[k]::lD s (k+1):=by
 unfold lD;have h2:k<s.data.toList.length:=by simpa using h
 rw [drop_eq_getElem_cons h2]
 congr 1
theorem JZ{s:ByteArray}{k:Nat}(h:s.size<=k):lD s k= []:=by
 unfold lD;exact drop_eq_nil_of_le zy
def Ei(r:Option Int):Value:=match r with|some x=>.tuple #[.int .i64 x,.bool true]|none=>.tuple #[.int .i64 0,.bool false]
theorem Am:∀(l:List UInt8) (x y:Int),0<=x->fU x l=some y->x<=y/\y<=(x+1)*10 ^ l.length-1
 | [],x,y,h0,h=>by simp [fU]at h;subst h;simp
 |c::r,x,y,h0,h=>by
  simp only [fU]at h
  split at h
  ·rename_i hd
   simp only [iI,Bool.and_eq_true,decide_eq_true_eq]at hd;have ih:=Am r _ y zb h;refine⟨by omega,Int.le_trans ih.2 ?_⟩;have hp:(0:Int)<10 ^ r.length:=Int.pow_pos zb;have e:(x+1)*10 ^ (c::r).length=((x+1)*10)*10 ^ r.length:=by rw [length_cons,Int.pow_succ,Int.mul_comm (10 ^ r.length) 10,Int.mul_assoc]
   rw [e];have:=Int.mul_le_mul_of_nonneg_right (show 10*x+((c.toNat:Int)-48)+1<=(x+1)*10 by omega) (Int.le_of_lt hp);omega
  ·cases h
theorem o8(s:ByteArray)(w:World)(hs:s.size<=9):Calls prog 204 #[.string s] w fun e w'=>e= .returned (Ei (fU 0 s.data.toList))/\w=w':=by
 have h00:s.data.toList=lD s 0:=rfl;rw [h00];clear h00
 go_enter func204,ntmps204
 go_wp2
 go_loop [2,4] (fun v2 v4=>∃k:Nat,∃x:Int,k<=s.size/\v4= .int .i64 k/\v2= .int .i64 x/\0<=x/\x<10 ^ k/\Hid (fU x (lD s k)=fU 0 (lD s 0))) (fun _ v4=>s.size-(intOf v4).toNat)
 case atStart=>exact⟨0,0,Nat.zero_le _,rfl,rfl,by omega,by simp,yq rfl⟩
 case round=>
  obtain⟨k,x,hk,rfl,rfl,hx0,hx1,hg⟩:=hrel
  have hb:(10:Int) ^ k<=1000000000:=by
   have:=Nat.pow_le_pow_right (show 1<=10 by omega) (show k<=9 by omega);have h2:((10 ^ k:Nat):Int)<=((10 ^ 9:Nat):Int):=by exact_mod_cast this
   simpa using h2
  have hx2:x<=1000000000:=by omega
  have HX:=yq hx1;clear hx1 hb;by_cases hk2:k<s.size
  ·have hst:=Fz hk2;cases hD:iI (s[k].toNat:Int)
   ·have HG:Hid (fU 0 (lD s 0)=none):=yq xe;clear hst hg
    go_wp2_with (go_at_call 213;(with_reducible refine gw (ib _ _) ?_);simp only [hD])
    go_returns
    exact⟨by rw [HG.out];rfl,rfl⟩
   ·have hd:48<=(s[k].toNat:Int)/\(s[k].toNat:Int)<=57:=by simpa [iI]using hD
    have HG:Hid (fU (10*x+((s[k].toNat:Int)-48)) (lD s (k+1))=fU 0 (lD s 0)):=yq xe;clear hst hg;obtain⟨d,hdd⟩:∃d:Int,(s[k].toNat:Int)=d:=⟨_,rfl⟩;rw [hdd]at hd hD HG;obtain⟨hd1,hd2⟩:=hd;have hw:IntKind.u8.wrap (d-48)=d-48:=by simp only [IntKind.wrap_u8];omega
    go_wp2_with (go_at_call 213;(with_reducible refine gw (ib _ _) ?_);simp only [hD,hdd])
    go_round
    case rel=>exact⟨k+1,_,by omega,by go_num,rfl,by omega,by rw [Int.pow_succ];have:=HX.out;omega,HG⟩
    case measure=>simp [intOf];omega
  ·have HG:Hid (fU 0 (lD s 0)=some x):=yq (by rw [<-hg.out,JZ zb];rfl);clear hg;obtain rfl:k=s.size:=by omega
   go_wp2_with fail
   go_returns
   exact⟨by rw [HG.out];rfl,rfl⟩
def frI(r:Int × Int):Value:=.tuple #[.int .i64 r.1,.int .i64 r.2]
theorem EY{n d:Int}(h:1<=d):n / d=n.tdiv d\/n / d=n.tdiv d-1:=by
 rw [<-xG h];split<;>simp
theorem FH(n d:Int)(w:World)(h1:-9223372036854775808<=n)(h2:n<=9223372036854775807)(h3:-9223372036854775808<=d)(h4:d<=9223372036854775807) :
 Calls prog 138 #[.agg #[.int .i64 n,.int .i64 d]] w fun e w'=>e= .returned (frI (fF n d))/\w.Grows w':=by
 have hv:=yq (fun w=>dL n d w h1 h2 h3 h4);generalize hx:aL n d=b at *;cases b
 ·have HR:=yq (show fF n d=(0,1)by unfold fF;rw [hx];rfl);clear hx
  go_enter func138,ntmps138
  go_wp2_with fail
  refine gv (hv.out _) ?_;intro bs dr;clear hv
  go_wp2_with fail
  go_returns
  exact⟨by rw [HR.out];rfl,.of_below af⟩
 ·have HR:=yq (show fF n d=(n / d,0)by unfold fF;rw [hx];rfl);obtain⟨k1,k2,k3,k4⟩:=aG hx;have hf:=Da hx;have HF:=yq (xG (n:=n) k1);have hft:=EY (n:=n) k1;have hq1:-1000000000000001<=n.tdiv d:=by omega
  have hq2:n.tdiv d<=1000000000000001:=by omega
  have d0:(d==0)=false:=by simp;omega
  clear hx hf hft;have e1:IntKind.i64.wrap (n.tdiv d)=n.tdiv d:=IntWalk.i64_in _ zb;generalize n / d=z at *;by_cases c:n.tmod d<0
  focus
   have HZ:=yq (show z=n.tdiv d-1 by rw [<-HF.out,if_pos c])
  rotate_left
  focus
   have HZ:=yq (show z=n.tdiv d by rw [<-HF.out,if_neg c])
  rotate_left
  all_goals
   clear HF
   go_enter func138,ntmps138
   go_wp2_with fail
   refine gv (hv.out _) ?_;intro bs dr;clear hv
   go_wp2_with fail
   go_returns
   exact⟨by rw [HR.out,HZ.out];rfl,.of_below af⟩
def RY(s p q:Bool):Int:=if s then(if q then -1 else if p then 1 else 0)else(if p then -1 else if q then 1 else 0)
theorem JS(an ad bn bd xh xl yh yl:Int)(s p q:Bool)(w:World)(hs1:decide (an<0)=s)(hs2:decide (bn<0)=s)
 (V1:Hid (∀w,Calls prog 175 #[.agg #[.int .i64 an,.int .i64 ad]] w fun e w'=>e= .returned (.bool true)/\w.Grows w')) (V2:Hid (∀w,Calls prog 175 #[.agg #[.int .i64 bn,.int .i64 bd]] w fun e w'=>e= .returned (.bool true)/\w.Grows w'))
 (Z:Hid (∀n,I64 n->∀w,Calls prog 177 #[.int .i64 n] w fun e w'=>e= .returned (.int .u64 (aO n))/\w=w')) (I1:I64 an) (I2:I64 ad) (I3:I64 bn) (I4:I64 bd)
 (T1:Hid (∀w,Calls prog 176 #[.int .u64 (aO an),.int .u64 (aO bd)] w fun e w'=>e= .returned (.agg #[.int .u64 xh,.int .u64 xl])/\w.Grows w')) (T2:Hid (∀w,Calls prog 176 #[.int .u64 (aO bn),.int .u64 (aO ad)] w fun e w'=>e= .returned (.agg #[.int .u64 yh,.int .u64 yl])/\w.Grows w'))
 (L1:Hid (∀w,Calls prog 179 #[.agg #[.int .u64 xh,.int .u64 xl],.agg #[.int .u64 yh,.int .u64 yl]] w fun e w'=>e= .returned (.bool p)/\w.Grows w')) (L2:Hid (∀w,Calls prog 179 #[.agg #[.int .u64 yh,.int .u64 yl],.agg #[.int .u64 xh,.int .u64 xl]] w fun e w'=>e= .returned (.bool q)/\w.Grows w'))
 :Calls prog 143 #[.agg #[.int .i64 an,.int .i64 ad],.agg #[.int .i64 bn,.int .i64 bd]] w fun e w'=>e= .returned (frI (RY s p q,0))/\w.Grows w':=by
 cases s<;>
 ·go_enter func143,ntmps143
  go_wp2_with (first|(go_at_call 175;(with_reducible refine gv (V1.out _) ?_);intro bs dr)|(go_at_call 175;(with_reducible refine gv (V2.out _) ?_);intro bs2 dr2))
  clear V1 V2;obtain⟨W,hW⟩:∃W,(((w.alloc (.cells #[.int .i64 an,.int .i64 ad] 24)).alloc (.cells #[.int .i64 bn,.int .i64 bd] 24)).grow (bs++bs2) dr2)=W:=⟨_,rfl⟩;have x0:W.cell? ⟨w.heap.size,0,none⟩=some (.int .i64 an):=by rw [<-hW];simp [go_sem]
  have x1:W.cell? ⟨w.heap.size,1,none⟩=some (.int .i64 ad):=by rw [<-hW];simp [go_sem]
  have x2:W.cell? ⟨w.heap.size+1,0,none⟩=some (.int .i64 bn):=by rw [<-hW];simp [go_sem]
  have x3:W.cell? ⟨w.heap.size+1,1,none⟩=some (.int .i64 bd):=by rw [<-hW];simp [go_sem]
  have hbw:Below w.heap.size w W:=by rw [<-hW];(exact af)
  have hz0:w.heap.size<W.heap.size:=by rw [<-hW];simp;omega
  have hz1:w.heap.size+1<W.heap.size:=by rw [<-hW];simp;omega
  rw [hW];clear hW;apply kZ 16 (14,6,.cells #[.int .u64 0,.int .u64 0] 221) (15,7,.cells #[.int .u64 0,.int .u64 0] 221) ze ze
  case hrx=>
   intro o ho ρ w;obtain rfl:=Option.some.inj ho;simp [go_sem]
  case hry=>
   intro o ho ρ w;obtain rfl:=Option.some.inj ho;simp [go_sem]
  case h1=>
   intro bs d;simp only [take_succ_cons,take_zero,map_cons,map_nil,Oper.mask];repeat(go_big_quiet_step ((first|(go_at_call 177;(with_reducible exact Calls.quietMS (Z.out _ zq _)))|(go_at_call 176;first|(with_reducible exact Calls.quietM (T1.out _))|(with_reducible exact Calls.quietM (T2.out _))))))
   exact wpQuiet_nil rfl
  all_goals
   intro gb1 gd1 gb2 gd2 gb gd;simp only [drop_succ_cons,drop_zero,Act.put,setIfInBounds_toArray,set_cons_zero,set_cons_succ]
  all_goals
   clear T1 T2 Z;cases p<;>cases q
  all_goals
   go_wp2_with (first|(go_at_call 179;(with_reducible refine gv (L1.out _) ?_);intro bs3 dr3)|(go_at_call 179;(with_reducible refine gv (L2.out _) ?_);intro bs4 dr4))
   go_returns
   exact⟨rfl,.of_below af⟩
theorem Qg(an ad bn bd:Int)(p q:Bool)(w:World)(hpq:(p&&q)=false)
 (V1:Hid (∀w,Calls prog 175 #[.agg #[.int .i64 an,.int .i64 ad]] w fun e w'=>e= .returned (.bool p)/\w.Grows w')) (V2:Hid (∀w,Calls prog 175 #[.agg #[.int .i64 bn,.int .i64 bd]] w fun e w'=>e= .returned (.bool q)/\w.Grows w'))
 :Calls prog 143 #[.agg #[.int .i64 an,.int .i64 ad],.agg #[.int .i64 bn,.int .i64 bd]] w fun e w'=>e= .returned (frI (0,1))/\w.Grows w':=by
 cases p<;>cases q
 all_goals first
  |(exfalso;simp at hpq;done)
  |(clear hpq
    go_enter func143,ntmps143
    go_wp2_with (first|(go_at_call 175;(with_reducible refine gv (V1.out _) ?_);intro bs dr)|(go_at_call 175;(with_reducible refine gv (V2.out _) ?_);intro bs2 dr2))
    go_returns
    exact⟨rfl,.of_below af⟩)
theorem JR(an ad bn bd r:Int)(w:World)(hd:decide (an<0)≠decide (bn<0))(hr:Hid (r=if an<0 then -1 else 1))
 (V1:Hid (∀w,Calls prog 175 #[.agg #[.int .i64 an,.int .i64 ad]] w fun e w'=>e= .returned (.bool true)/\w.Grows w')) (V2:Hid (∀w,Calls prog 175 #[.agg #[.int .i64 bn,.int .i64 bd]] w fun e w'=>e= .returned (.bool true)/\w.Grows w'))
 :Calls prog 143 #[.agg #[.int .i64 an,.int .i64 ad],.agg #[.int .i64 bn,.int .i64 bd]] w fun e w'=>e= .returned (frI (r,0))/\w.Grows w':=by
 by_cases c:an<0
 focus
  have d1:decide (an<0)=true:=by simpa using c
  have d2:decide (bn<0)=false:=by simp [c]at hd;simpa using hd
  have HR:=yq (show r= -1 by rw [hr.out,if_pos c])
 rotate_left
 focus
  have d1:decide (an<0)=false:=by simpa using c
  have d2:decide (bn<0)=true:=by simp [c]at hd;simpa using hd
  have HR:=yq (show r=1 by rw [hr.out,if_neg c])
 rotate_left
 all_goals
  clear hd c hr
  go_enter func143,ntmps143
  go_wp2_with (first|(go_at_call 175;(with_reducible refine gv (V1.out _) ?_);intro bs dr)|(go_at_call 175;(with_reducible refine gv (V2.out _) ?_);intro bs2 dr2))
  go_returns
  exact⟨by rw [HR.out];rfl,.of_below af⟩
theorem JQ{an ad bn bd:Int}(h1:1<=ad)(h2:1<=bd)(h:decide (an<0)=decide (bn<0)) :
 kT an ad bn bd=RY (decide (an<0)) (decide (an.natAbs*bd.natAbs<bn.natAbs*ad.natAbs)) (decide (bn.natAbs*ad.natAbs<an.natAbs*bd.natAbs)):=by
 rw [M0 h1 h2 h];unfold RY;by_cases c:an<0<;>simp [c]
theorem mR{F:FuncId}(T:∀(a b:Nat) (w:World),a<18446744073709551616->b<18446744073709551616->Calls prog F #[.int .u64 a,.int .u64 b] w fun e w'=>e= .returned (.agg #[.int .u64 (hiW (a*b)),.int .u64 (loW (a*b))])/\w.Grows w')
 {a b:Int} (ha:I64 a) (hb:I64 b) (w:World):Calls prog F #[.int .u64 (aO a),.int .u64 (aO b)] w fun e w'=>e= .returned (.agg #[.int .u64 (hiW (a.natAbs*b.natAbs)),.int .u64 (loW (a.natAbs*b.natAbs))])/\w.Grows w':=by
 unfold I64 at ha hb;exact T a.natAbs b.natAbs w zb zb
def mK(a b c d:Int):Prop:=I64 a/\I64 b/\I64 c/\I64 d
theorem qf(an ad bn bd:Int)(w:World)(hi:mK an ad bn bd) :
 Calls prog 143 #[.agg #[.int .i64 an,.int .i64 ad],.agg #[.int .i64 bn,.int .i64 bd]] w fun e w'=>e= .returned (frI (Fu an ad bn bd))/\w.Grows w':=by
 obtain⟨i1,i2,i3,i4⟩:=hi;have V1:=yq (fun w=>dL an ad w i1.1 i1.2 i2.1 i2.2);have V2:=yq (fun w=>dL bn bd w i3.1 i3.2 i4.1 i4.2);by_cases hv:(aL an ad&&aL bn bd)=true
 ·have hva:=(Bool.and_eq_true_iff.1 hv).1;have hvb:=(Bool.and_eq_true_iff.1 hv).2;rw [show Fu an ad bn bd=(kT an ad bn bd,0)by unfold Fu;rw [if_pos hv]];rw [hva]at V1;rw [hvb]at V2;have b1:=aG hva;have b2:=aG hvb;by_cases hs:decide (an<0)=decide (bn<0)
  ·rw [JQ b1.1 b2.1 hs];refine JS an ad bn bd _ _ _ _ _ _ _ w rfl hs.symm V1 V2 (fun n h w=>jX n w h.1 h.2) i1 i2 i3 i4 (mR gP i1 i4) (mR gP i3 i2) ?_ ?_
   ·intro w;have:=qz (hiW (an.natAbs*bd.natAbs)) (loW (an.natAbs*bd.natAbs)) (hiW (bn.natAbs*ad.natAbs)) (loW (bn.natAbs*ad.natAbs)) w;rwa [qh]at this
   ·intro w;have:=qz (hiW (bn.natAbs*ad.natAbs)) (loW (bn.natAbs*ad.natAbs)) (hiW (an.natAbs*bd.natAbs)) (loW (an.natAbs*bd.natAbs)) w;rwa [qh]at this
  ·rw [M3 b1.1 b2.1 hs];exact JR an ad bn bd _ w hs (yq rfl) V1 V2
 ·rw [show Fu an ad bn bd=(0,1)by unfold Fu;rw [if_neg hv]];exact Qg an ad bn bd _ _ w (Bool.eq_false_iff.2 hv) V1 V2
def lK(l:List Ins)(k a:Nat):Nat:=(bN (l.take k)).count a
theorem xQ(l:List Ins)(a:Nat):lK l 0 a=0:=by simp [lK,bN]
theorem kL(l r:List Ins):bN (l++r)=bN l++bN r:=by simp [bN]
theorem Bq{l:List Ins}{k:Nat}(hk:k<l.length):l.take (k+1)=l.take k++[l.getD k default]:=by
 exact Po
theorem MX{l:List Ins}{k:Nat}(hk:k<l.length)(h:(l.getD k default).op=4)(a:Nat) :
 lK l (k+1) a=lK l k a+if(l.getD k default).a.toNat=a then 1 else 0:=by
 unfold lK;rw [Bq hk,kL,count_append]
 congr 1
 have e:bN [l.getD k default]= [(l.getD k default).a.toNat]:=by rw [cK,if_pos h];rfl
 rw [e,count_singleton];by_cases hx:(l.getD k default).a.toNat=a
 ·simp [hx]
 ·simp [hx]
theorem JO{l:List Ins}{k:Nat}(hk:k<l.length)(h:(l.getD k default).op≠4)(a:Nat) :
 lK l (k+1) a=lK l k a:=by
 unfold lK;rw [Bq hk,kL,count_append];have e:bN [l.getD k default]= []:=by rw [cK,if_neg h];rfl
 rw [e];simp
theorem JP(l:List Ins)(k a:Nat):lK l k a<=(bN l).count a:=by
 unfold lK;have:bN l=bN (l.take k)++bN (l.drop k):=by rw [<-kL,take_append_drop]
 rw [this,count_append];omega
theorem Aj{l:List Ins}(h:∀a,lK l l.length a<=1):(bN l).Nodup:=by
 rw [nodup_iff_count];intro a;have:=h a;unfold lK at this
 rwa [take_length]at this
theorem qw{l:List Ins}{k a:Nat}(h:1<lK l k a):¬(bN l).Nodup:=by
 intro hn;have h1:=nodup_iff_count.1 hn a;have h2:=JP l k a;omega
open Go.RowKit Go.ChangeShapes Go.WideShapes Go.Deep
section
variable {H : Type} {enc : TypeId × Value -> H} {P : Program} {w : World}
def fits(P:Program)(t:TypeId)(d:DataW H):Prop:=∀n∈d.weights P t,n<=140737488351232

theorem GZ(b off i:Nat):(⟨b,off,none⟩:Addr).add i=⟨b,off+i,none⟩:=by unfold Addr.add;split<;>simp_all
theorem GU{w:World}{b o:Nat}{v:Value}(h:w.cell? ⟨b,o,none⟩=some v):b<w.heap.size:=by
 rcases Nat.lt_or_ge b w.heap.size with h1|h1
 ·exact h1
 ·simp [World.cell?,Array.getElem?_eq_none h1]at h
theorem xq{n:Int}(h:(Lit.int .i64 n).wf=true):I64 n:=bounds_i64 h
theorem aD.of_cells{a:Option Addr}{len cap:Nat}{zs:List Int}(hl:len<=cap)(hz:zs.length=cap)(hw:∀n∈zs,(Lit.int .i64 n).wf=true)(hb:len<=140737488355328)(ha:a=none->len=0)
 (hc:∀x,a=some x->∀i,i<cap->w.cell? (x.add i)=some (.int .i64 (zs.getD i 0))):aD w (.slice a len cap) (zs.take len):=by
 have hlen:(zs.take len).length=len:=by rw [length_take];omega
 refine⟨by omega,fun z hz2=>xq (hw z (mem_of_mem_take hz2)),a,cap,by rw [hlen], ?_⟩;rw [hlen];by_cases h0:len=0
 ·exact .inl h0
 ·cases a with
  |none=>exact .inl (ha rfl)
  |some x=>
   obtain⟨b,off,spot⟩:=x;have h1:=hc _ rfl 0 zb;have hspot:spot=none:=by simpa [Addr.add]using World.cell?_spot h1
   subst hspot
   have h2:∀i,i<cap->w.cell? ⟨b,off+i,none⟩=some (.int .i64 (zs.getD i 0)):=fun i hi=>by
    rw [<-GZ];exact hc _ rfl i hi
   refine .inr ⟨b,off,rfl,GU (h2 0 zb),fun i hi=>?_⟩;rw [h2 i zb];simp [getD_eq_getElem?_getD,hi]
theorem aD.of_trod{t e:TypeId}{fuel:Nat}{v:Value}{x:DataW H × List MemPlace}(ht:P.underlying t=some (.slice e))(he:P.underlying e=some (.int .i64))(hc:P.cellsOf e=1)(hb:P.bytesOf e=8)
 (h:DataW.trod enc P w 0 (fun _=>true) true fuel t [v]=some x) (hf:fits P t x.1):∃zs,aD w v zs:=by
 rcases open_ints ht he hc h with ⟨hcs,_⟩|⟨a,l,c,zs,hcs,_,hl,hm,hz,hx,hcell,hwz⟩
 ·simp at hcs;subst hcs;exact⟨[],by simp,by simp,none,0,rfl,.inl rfl⟩
 ·simp at hcs;subst hcs;simp only [if_true]at hz
  have h8:l<=140737488355328:=by
   have h9:=hf ((l+(c-l))*8) (by rw [hx];simp [DataW.weights,ht,lits,hb,hz,Nat.min_eq_left hl]);omega
  exact⟨zs.take l,aD.of_cells hl hz hwz h8 (fun e=>by cases e) fun x' hx' i hi=>by cases hx';exact hcell i zb⟩
end
theorem c3:(prog).cellsOf 3=1:=by kernel_rfl
theorem c22:(prog).cellsOf 22=1:=by kernel_rfl
theorem b3:(prog).bytesOf 3=8:=by kernel_rfl
theorem b22:(prog).bytesOf 22=24:=by kernel_rfl
theorem iT{H:Type}{P:Program}{t:TypeId}{fs:Array Field}{l:List (DataW H)}{i:Nat}{f:Field}{d:DataW H}(ht:P.underlying t=some (.struct fs))(h:fits P t (.agg l))(hf:fs[i]? =some f)(hd:l[i]? =some d):fits P f.type d:=by
 intro n hn;refine h n ?_;simp only [DataW.weights,ht];exact DataW.weights_mem_each (j:=i) (by simp [hf]) hd n hn
theorem jE{H:Type}{enc:TypeId × Value->H}{w:World}{fuel:Nat}{v:Value}{x:DataW H × List MemPlace}(h:DataW.trod enc prog w 0 (fun _=>true) true fuel 3 [v]=some x):∃n,v= .int .i64 n/\I64 n:=by
 obtain⟨n,hcs,_,hw⟩:=DataW.trod_int underlying3 h;exact⟨n,by simpa using hcs,xq hw⟩
end Go.Proofs.YtfoefpoaomepbaaGreatDoor
