import Derived.Test.YtaghhncnicbedaaGreatDoorFDec
import Derived.Test.YtaghhncnicbedaaGreatDoorFGen
import Derived.Test.YtaghhncnicbedaaGreatDoorFK
set_option linter.all false
set_option maxHeartbeats 16000000
set_option maxRecDepth 1000000
namespace Go.Proofs.YtaghhncnicbedaaGreatDoor

structure Val where
 dim:Int
 yes:Bool
 n:Int
 d:Int
namespace Val
def zero:Val:=⟨0,false,0,0⟩
def num(m n d:Int):Val:=⟨m,false,n,d⟩
def truth(b:Bool):Val:=⟨1,b,0,0⟩
def ok(x:Val):Bool:=if x.dim=1 then decide (x.n=0∧x.d=0)else decide (2≤x.dim∧x.dim≤4)&&!x.yes&&vfrac x.n x.d
end Val
structure Vw where
 age:Int
 year:Int
 children:Int
 insured:Int
 worked:Int
 voluntary:Int
 service:Int
 equated:Int
 raising:Int
 resident:Int
 bn:Int
 bd:Int
 years:List Int
def yearsOk(l:List Int):Bool:=decide (l.length≤200)&&l.all fun x=>decide (0≤x∧x≤1000000000000)
def daysOk(z:Int):Bool:=decide (0≤z∧z≤73049)
def Vw.ok(v:Vw):Bool:=decide (0≤v.age∧v.age≤199∧1900≤v.year∧v.year≤2099∧0≤v.children∧v.children≤99)&&
 (daysOk v.insured&&daysOk v.worked&&daysOk v.voluntary&&daysOk v.service&&daysOk v.equated&&daysOk v.raising&&daysOk v.resident)&&
 (vfrac v.bn v.bd&&decide (0≤v.bn∧v.bn≤1000000000000*v.bd))&&yearsOk v.years
def Vw.numF(v:Vw)(s:List UInt8):Int × Int:=
 if s= [98,97,115,101]then(v.bn,v.bd)
 else if s= [97,103,101]then(v.age,1)else if s= [121,101,97,114]then(v.year,1)else if s= [99,104,105,108,100,114,101,110]then(v.children,1)
 else if s= [105,110,115,117,114,101,100]then(v.insured,1)else if s= [119,111,114,107,101,100]then(v.worked,1)else if s= [118,111,108,117,110,116,97,114,121]then(v.voluntary,1)
 else if s= [115,101,114,118,105,99,101]then(v.service,1)else if s= [101,113,117,97,116,101,100]then(v.equated,1)else if s= [114,97,105,115,105,110,103]then(v.raising,1)
 else if s= [114,101,115,105,100,101,110,116]then(v.resident,1)else(0,1)
def inputV(v:Vw)(s:ByteArray):Option Val:=if inpD s.toList=0∨v.ok=false then none else some (.num (inpD s.toList) (v.numF s.toList).1 (v.numF s.toList).2)

def insD(x:Int):List Int→List Int
 | []=>[x]
 |y::r=>if x≤y then y::insD x r else x::y::r
def sortD(l:List Int):List Int:=l.foldl (fun a x=>insD x a) []
def bestS(l:List Int)(n:Int):Int:=((sortD l).take n.toNat).sum
def bestF(l:List Int)(n:Int):Int × Int × Int:=if n<1∨45<n∨yearsOk l=false then(0,0,1)else(mkN (bestS l n) n,mkD (bestS l n) n,mkE (bestS l n) n)

def lastN{α:Type}(env:List (ByteArray × α))(s:ByteArray):Option α:=(env.reverse.find? fun p=>decide (p.1=s)).map Prod.snd

def resD(op:Int)(d:List Int):Int:=
 let a:=d.getD 0 0;let b:=d.getD 1 0;let c:=d.getD 2 0
 if op=5 then(if a=1 then 1 else 0)
 else if op=4∨op=6 then(if a≠1 then a else 0)
 else if op=7∨op=8∨op=19∨op=20 then(if a=b∧a≠1 then a else 0)
 else if op=9 then(if a=2∧b≠1 then b else if b=2∧a≠1 then a else 0)
 else if op=10 then(if b=2∧a≠1 then a else if a=b∧a≠1 then 2 else 0)
 else if op=17∨op=18 then(if a=1∧b=1 then 1 else 0)
 else if op=21 then(if a=1∧b=c then b else 0)
 else if a=b∧a≠1 then 1 else 0
def inferN(env:List (ByteArray × Int))(s:ByteArray):Int × Int:=
 if inpD s.toList≠0 then(inpD s.toList,0)else match lastN env s with|some m=>(m,0)|none=>(0,5)
def infNode(op m:Int)(nm:Int × Int)(r:List Int × Int):Int × Int:=
 if op=1 then(m,0)else if op=3 then(4,0)else if op=2 then nm
 else if r.2≠0 then(0,r.2)else if resD op r.1=0 then(0,6)else(resD op r.1,0)
mutual
def inferF(env:List (ByteArray × Int)):Ex→Int × Int
 | .mk op _ _ m s l=>infNode op m (inferN env s) (infersF env l)
def infersF(env:List (ByteArray × Int)):List Ex→List Int × Int
 | []=>([],0)
 |e::r=>if(inferF env e).2≠0 then([],(inferF env e).2)else if(infersF env r).2≠0 then([],(infersF env r).2)else((inferF env e).1::(infersF env r).1,0)
end

def numR(m:Int)(r:Int × Int × Int):Val × Int:=if r.2.2=0 then(.num m r.1 r.2.1,0)else(.zero,r.2.2)
def cmpB(op c:Int):Bool:=if op=11 then decide (c<0)else if op=12 then decide (c≤0)else if op=13 then decide (c=0)else if op=14 then decide (c≠0)else if op=15 then decide (c > 0)else decide (c≥0)
def op1(op:Int)(a:Val):Val × Int:=if op=5 then(.truth (!a.yes),0)else if op=6 then numR a.dim ((floorF a.n a.d).1,1,(floorF a.n a.d).2)else numR a.dim (negF a.n a.d)
def op2(op:Int)(a b:Val):Val × Int:=
 if op=7 then numR a.dim (addF a.n a.d b.n b.d)else if op=8 then numR a.dim (subF a.n a.d b.n b.d)
 else if op=9 then numR (resD 9 [a.dim,b.dim]) (mulF a.n a.d b.n b.d)else if op=10 then numR (resD 10 [a.dim,b.dim]) (divF a.n a.d b.n b.d)
 else if op=19 then(if cmpI a.n a.d b.n b.d≤0 then .num a.dim a.n a.d else .num a.dim b.n b.d,0)
 else if op=20 then(if 0≤cmpI a.n a.d b.n b.d then .num a.dim a.n a.d else .num a.dim b.n b.d,0)
 else(.truth (cmpB op (cmpI a.n a.d b.n b.d)),0)
theorem inferF_eq(env:List (ByteArray × Int))(e:Ex):inferF env e=infNode e.op e.dim (inferN env e.name) (infersF env e.args):=by cases e;rw [inferF];rfl
def dimsOf(env:List (ByteArray × Val)):List (ByteArray × Int):=env.map fun p=>(p.1,p.2.dim)

theorem Val.num_ok{m n d:Int}(hm:2≤m∧m≤4)(h:vfrac n d=true):(Val.num m n d).ok=true:=by
 unfold Val.ok Val.num
 rw [if_neg (show ¬m=1 by omega)]
 show(decide (2≤m∧m≤4)&&!false&&vfrac n d)=true
 rw [h,decide_eq_true hm];rfl
theorem res_cmp{op:Int}(a b:Int)(h:11≤op∧op≤16):resD op [a,b]=if a=b∧a≠1 then 1 else 0:=by
 obtain rfl|rfl|rfl|rfl|rfl|rfl:op=11∨op=12∨op=13∨op=14∨op=15∨op=16:=by omega
 all_goals rfl
theorem inpD_bd(s:List UInt8):inpD s=0∨(2≤inpD s∧inpD s≤4):=by
 unfold inpD
 (repeat' split)<;>simp
theorem mk_ok{n d:Int}(h:d≠0):okF (mkN n d,mkD n d,mkE n d):=by
 unfold mkN mkD mkE
 rw [if_neg h,if_neg h,if_neg h]
 rcases lowE_cases n.natAbs d.natAbs with e|e
 ·exact .inl ⟨e,low_ok _ (by omega) e⟩
 ·have h3:=low_bad (decide (n<0)!=decide (d<0)) (show lowE n.natAbs d.natAbs≠0 by omega)
  exact .inr ⟨h3.1,h3.2,.inl e⟩
theorem decOk_bd{n d m:Int}(h:decOk n d m=true):vfrac n d=true∧2≤m∧m≤4:=by
 simp only [decOk,Bool.and_eq_true,decide_eq_true_eq]at h
 exact⟨h.1.1.1.1.1,h.1.1.2,h.1.2⟩
end Go.Proofs.YtaghhncnicbedaaGreatDoor
namespace Go.Proofs.YtaghhncnicbedaaGreatDoor
structure Ins where
 op:Int
 a:Int
 n:Int
 d:Int
instance:Inhabited Ins:=⟨⟨0,0,0,0⟩⟩
def opF(op:Int):Int:=if op=6 then 4 else if op=7 then 5 else if op=8 then 6 else if 9≤op∧op≤18 then op-2 else if op=19 then 19 else if op=20 then 20 else 0
def ariF(op:Int):Nat:=if op=4∨op=5∨op=6 then 1 else 2
def inDs:List Int:=[2,2,2,3,3,3,3,3,3,3,4]
def wfF(m n i:Nat)(x:Ins):Bool:=
 if x.op=1 then decide (x.a=2∨x.a=3∨x.a=4)&&vfrac x.n x.d
 else if ¬(x.n=0∧x.d=0)then false
 else if x.op=2 then decide (0≤x.a∧x.a<11)
 else if x.op=3∨x.op=4 then decide (0≤x.a∧x.a<m)
 else if x.op=5 then decide (1≤x.a∧x.a≤45)
 else if x.op=21∨x.op=22 then decide ((i:Int)<x.a∧x.a≤n)
 else if x.op=23∨x.op=24 then decide (x.a=0)
 else decide (opF x.op≠0∧x.a=0)
def setsF(l:List Ins):List Nat:=(l.filter fun x=>decide (x.op=4)).map fun x=>x.a.toNat
def wordsF(sl:List ByteArray):Bool:=decide (sl.length≤12)&&sl.all isWord&&decide sl.Nodup
def formF(l:List Ins)(sl:List ByteArray):Bool:=
 decide (l.length≤4000)&&(List.range l.length).all (fun i=>wfF sl.length l.length i (l.getD i default))&&(wordsF sl&&decide (setsF l).Nodup)

section
variable (S : List (Option (List Int × List Bool))) (T : List (Option (List Int × List Int)))
def appA(x:Ins)(s:List Int × List Bool)(dims:List Int):Option ((List Int × List Bool) × List Int):=
 if x.op=1 then some ((s.1++[x.a],s.2),dims)
 else if x.op=2 then some ((s.1++[inDs.getD x.a.toNat 0],s.2),dims)
 else if x.op=5 then some ((s.1++[4],s.2),dims)
 else if x.op=23∨x.op=24 then some ((s.1++[1],s.2),dims)
 else if x.op=3 then(if s.2.getD x.a.toNat false=true then some ((s.1++[dims.getD x.a.toNat 0],s.2),dims)else none)
 else if x.op=4 then(if s.1= []then none else some ((s.1.dropLast,s.2.set x.a.toNat true),dims.set x.a.toNat (s.1.getLastD 0)))
 else if x.op=22 then(if s.1= []∨s.1.getLastD 0≠1 then none else some ((s.1.dropLast,s.2),dims))
 else if x.op=21 then some (s,dims)
 else if s.1.length<ariF (opF x.op)then none
 else if resD (opF x.op) (s.1.drop (s.1.length-ariF (opF x.op)))=0 then none
 else some ((s.1.take (s.1.length-ariF (opF x.op))++[resD (opF x.op) (s.1.drop (s.1.length-ariF (opF x.op)))],s.2),dims)
def putA(k:Nat)(s:List Int × List Bool):Option (List (Option (List Int × List Bool))):=
 match S.getD k none with
 |none=>some (S.set k (some s))
 |some t=>if t.1=s.1 then some (S.set k (some (t.1,List.zipWith (· && ·) t.2 s.2)))else none
def rndA(x:Ins)(i:Nat)(dims:List Int)(dep:Nat):Option (List (Option (List Int × List Bool)) × List Int × Nat):=
 match S.getD i none with
 |none=>none
 |some s=>match appA x s dims with
  |none=>none
  |some (s',dims')=>
   if 24<s'.1.length then none
   else match (if x.op=21 then some S else putA S (i+1) s')with
   |none=>none
   |some S1=>match (if x.op=21∨x.op=22 then putA S1 x.a.toNat s' else some S1)with
    |none=>none
    |some S2=>some (S2,dims',max dep s'.1.length)
def goA:List Ins→Nat→List (Option (List Int × List Bool))→List Int→Nat→Int × Int
 | [],i,S,_,dep=>match S.getD i none with
   |none=>((dep:Int),0)
   |some s=>if s.1= []then((dep:Int),0)else(0,8)
 |x::r,i,S,dims,dep=>match rndA S x i dims dep with
  |none=>(0,8)
  |some (S',dims',dep')=>goA r (i+1) S' dims' dep'
def verA(l:List Ins)(sl:List ByteArray):Int × Int:=
 if formF l sl=true then goA l 0 (some ([],List.replicate 12 false)::List.replicate l.length none) (List.replicate 12 0) 0 else(0,8)

def appB(x:Ins)(s:List Int × List Int):Option (List Int × List Int):=
 if x.op=1 then some (s.1++[x.a],s.2)
 else if x.op=2 then some (s.1++[inDs.getD x.a.toNat 0],s.2)
 else if x.op=5 then some (s.1++[4],s.2)
 else if x.op=23∨x.op=24 then some (s.1++[1],s.2)
 else if x.op=3 then(if s.2.getD x.a.toNat 0=0 then none else some (s.1++[s.2.getD x.a.toNat 0],s.2))
 else if x.op=4 then(if s.1= []then none else some (s.1.dropLast,s.2.set x.a.toNat (s.1.getLastD 0)))
 else if x.op=22 then(if s.1= []∨s.1.getLastD 0≠1 then none else some (s.1.dropLast,s.2))
 else if x.op=21 then some s
 else if s.1.length<ariF (opF x.op)then none
 else if resD (opF x.op) (s.1.drop (s.1.length-ariF (opF x.op)))=0 then none
 else some (s.1.take (s.1.length-ariF (opF x.op))++[resD (opF x.op) (s.1.drop (s.1.length-ariF (opF x.op)))],s.2)
def putB(k:Nat)(s:List Int × List Int):Option (List (Option (List Int × List Int))):=
 match T.getD k none with
 |none=>some (T.set k (some s))
 |some t=>if t.1=s.1 then some (T.set k (some (t.1,List.zipWith (fun a b=>if b=0 then 0 else a) t.2 s.2)))else none
def rndB(x:Ins)(i:Nat):Option (List (Option (List Int × List Int))):=
 match T.getD i none with
 |none=>none
 |some s=>match appB x s with
  |none=>none
  |some s'=>
   if x.op=21 then putB T x.a.toNat s'
   else match (if x.op=22 then putB T x.a.toNat s' else some T)with
   |none=>none
   |some T1=>if 24<s'.1.length then none else putB T1 (i+1) s'
def goB:List Ins→Nat→List (Option (List Int × List Int))→Nat→Int × Int
 | [],i,T,dep=>match T.getD i none with
   |none=>(0,8)
   |some s=>if s.1= []then((dep:Int),0)else(0,8)
 |x::r,i,T,dep=>match T.getD i none with
  |none=>(0,8)
  |some s=>match rndB T x i with
   |none=>(0,8)
   |some T'=>goB r (i+1) T' (max dep s.1.length)
def verB(l:List Ins)(sl:List ByteArray):Int × Int:=
 if formF l sl=true then goB l 0 (some ([],List.replicate sl.length 0)::List.replicate l.length none) 0 else(0,8)
end

theorem getD_setI{α:Type}(l:List α)(k j:Nat)(a d:α):(l.set k a).getD j d=if k=j∧j<l.length then a else l.getD j d:=by
 simp only [List.getD_eq_getElem?_getD,List.getElem?_set]
 by_cases h:k=j
 ·subst h
  by_cases h2:k<l.length
  ·simp [h2]
  ·simp [h2,List.getElem?_eq_none (Nat.le_of_not_lt h2)]
 ·simp [h]
theorem getD_zip{α β γ:Type}(f:α→β→γ)(a:List α)(b:List β)(k:Nat)(x:α)(y:β)(z:γ)(h1:k<a.length)(h2:k<b.length):(List.zipWith f a b).getD k z=f (a.getD k x) (b.getD k y):=by
 simp [List.getD_eq_getElem?_getD,List.getElem?_zipWith,List.getElem?_eq_getElem h1,List.getElem?_eq_getElem h2]
theorem zip_true{a b:List Bool}{k:Nat}(h:(List.zipWith (· && ·) a b).getD k false=true):a.getD k false=true∧b.getD k false=true:=by
 have hl:k<(List.zipWith (· && ·) a b).length:=by
  exact fz62
 rw [List.length_zipWith]at hl
 rw [getD_zip _ a b k false false false (by omega) (by omega)]at h
 simpa using h
structure Agr(m:Nat)(D:Nat→Bool)(dims:List Int)(s:List Int × List Bool)(t:List Int × List Int):Prop where
 stk:t.1=s.1
 l1:s.2.length=12
 l2:t.2.length=m
 slot:∀k,k<m→t.2.getD k 0=if s.2.getD k false=true then dims.getD k 0 else 0
 pos:∀z∈s.1,1≤z
 dpos:∀k,k<m→s.2.getD k false=true→1≤dims.getD k 0
 done:∀k,s.2.getD k false=true→D k=true
def AgrO(m:Nat)(D:Nat→Bool)(dims:List Int):Option (List Int × List Bool)→Option (List Int × List Int)→Prop
 |none,none=>True
 |some s,some t=>Agr m D dims s t∧s.1.length≤24
 |_,_=>False
def AgrL(m:Nat)(D:Nat→Bool)(dims:List Int)(S:List (Option (List Int × List Bool)))(T:List (Option (List Int × List Int))):Prop:=
 S.length=T.length∧∀k,AgrO m D dims (S.getD k none) (T.getD k none)
section
variable {m : Nat} {D D' : Nat → Bool} {dims : List Int} {S S' : List (Option (List Int × List Bool))} {T : List (Option (List Int × List Int))} {x : Ins} {s s' : List Int × List Bool} {t : List Int × List Int}
theorem AgrL.both(h:AgrL m D dims S T)(i:Nat):(S.getD i none=none∧T.getD i none=none)∨∃s t,S.getD i none=some s∧T.getD i none=some t∧Agr m D dims s t∧s.1.length≤24:=by
 have:=h.2 i
 cases hs:S.getD i none<;>cases ht:T.getD i none<;>rw [hs,ht]at this
 ·exact .inl ⟨rfl,rfl⟩
 ·exact this.elim
 ·exact this.elim
 ·exact .inr ⟨_,_,rfl,rfl,this⟩
theorem Agr.mono{a:Nat}{z:Int}(h:Agr m D dims s t)(hD:∀k,D k=true→D' k=true)(ha:D a=false):Agr m D' (dims.set a z) s t:=by
 have hne:∀k,s.2.getD k false=true→a≠k:=fun k hk e=>by
  subst e;rw [h.done a hk]at ha;cases ha
 refine⟨h.stk,h.l1,h.l2,fun k hk=>?_,h.pos,fun k hk hb=>?_,fun k hb=>hD k (h.done k hb)⟩
 ·rw [h.slot k hk]
  split
  ·rename_i hb
   rw [getD_setI,if_neg (fun e=>hne k hb e.1)]
  ·rfl
 ·rw [getD_setI,if_neg (fun e=>hne k hb e.1)]
  exact h.dpos k hk hb
theorem Agr.mono0(h:Agr m D dims s t)(hD:∀k,D k=true→D' k=true):Agr m D' dims s t:=⟨h.stk,h.l1,h.l2,h.slot,h.pos,h.dpos,fun k hb=>hD k (h.done k hb)⟩
theorem AgrO.imp{D':Nat→Bool}{dims':List Int}{a:Option (List Int × List Bool)}{b:Option (List Int × List Int)}(h:AgrO m D dims a b)(hi:∀s t,Agr m D dims s t→Agr m D' dims' s t):AgrO m D' dims' a b:=by
 cases a<;>cases b<;>first|exact h|exact⟨hi _ _ h.1,h.2⟩
theorem Agr.push(h:Agr m D dims s t){z:Int}(hz:1≤z):Agr m D dims (s.1++[z],s.2) (t.1++[z],t.2):=
 ⟨by rw [h.stk],h.l1,h.l2,h.slot,fun y hy=>by rcases List.mem_append.1 hy with hy|hy;· exact h.pos y hy
                                              ·obtain rfl:y=z:=by simpa using hy
                                               exact hz,h.dpos,h.done⟩
theorem Agr.stack(h:Agr m D dims s t){l:List Int}(hl:∀z∈l,1≤z):Agr m D dims (l,s.2) (l,t.2):=⟨rfl,h.l1,h.l2,h.slot,hl,h.dpos,h.done⟩
theorem inDs_pos{k:Nat}(h:k<11):1≤inDs.getD k 0:=by
 have key:∀k,k<11→(1:Int)≤inDs.getD k 0:=by decide
 exact key k h
theorem last_mem{l:List Int}(h:l≠[]):l.getLastD 0∈l:=by
 cases l with
 |nil=>exact absurd rfl h
 |cons a r=>rw [List.getLastD_cons];exact List.getLastD_mem_cons ..
theorem resD_pos{op:Int}{d:List Int}(hd:∀z∈d,1≤z)(h:resD op d≠0):1≤resD op d:=by
 have h0:∀k,0≤d.getD k 0:=fun k=>by
  exact fz52
 have a0:=h0 0;have b0:=h0 1;have c0:=h0 2
 revert h
 unfold resD
 dsimp only
 generalize d.getD 0 0=a at *
 generalize d.getD 1 0=b at *
 generalize d.getD 2 0=c at *
 intro h
 repeat' split at h
 all_goals omega
theorem app_agr{n i:Nat}(hm:m≤12)(hx:wfF m n i x=true)(h:Agr m D dims s t)(hd:dims.length=12)(hset:x.op=4→D x.a.toNat=false)(hD:∀k,D' k=(D k || (decide (x.op=4)&&decide (k=x.a.toNat)))) :
 (appA x s dims=none∧appB x t=none)∨∃s' dims' t',appA x s dims=some (s',dims')∧appB x t=some t'∧Agr m D' dims' s' t'∧dims'.length=12∧(∀u v,Agr m D dims u v→Agr m D' dims' u v)∧(x.op=21→s'=s):=by
 have hmo:∀k,D k=true→D' k=true:=fun k hk=>by rw [hD,hk];rfl
 have hk:∀u v,Agr m D dims u v→Agr m D' dims u v:=fun u v hu=>hu.mono0 hmo
 unfold wfF at hx
 unfold appA appB
 by_cases h1:x.op=1
 ·rw [if_pos h1]at hx
  simp only [if_pos h1]
  refine .inr ⟨_,_,_,rfl,rfl,hk _ _ (h.push ?_),hd,hk,by omega⟩
  simp at hx;omega
 rw [if_neg h1]at hx
 simp only [if_neg h1]
 by_cases hz:¬(x.n=0∧x.d=0)
 ·rw [if_pos hz]at hx;cases hx
 rw [if_neg hz]at hx
 by_cases h2:x.op=2
 ·rw [if_pos h2]at hx
  simp only [if_pos h2]
  refine .inr ⟨_,_,_,rfl,rfl,hk _ _ (h.push (inDs_pos ?_)),hd,hk,by omega⟩
  simp at hx;omega
 rw [if_neg h2]at hx
 simp only [if_neg h2]
 by_cases h5:x.op=5
 ·simp only [if_pos h5]
  exact .inr ⟨_,_,_,rfl,rfl,hk _ _ (h.push (by omega)),hd,hk,by omega⟩
 simp only [if_neg h5]
 by_cases h23:x.op=23∨x.op=24
 ·simp only [if_pos h23]
  exact .inr ⟨_,_,_,rfl,rfl,hk _ _ (h.push (by omega)),hd,hk,by omega⟩
 simp only [if_neg h23]
 by_cases h3:x.op=3
 ·rw [if_pos (.inl h3)]at hx
  have ha:x.a.toNat<m:=by simp at hx;omega
  simp only [if_pos h3]
  rw [h.slot _ ha]
  by_cases hb:s.2.getD x.a.toNat false=true
  ·have:=h.dpos _ ha hb
   rw [if_pos hb,if_pos hb,if_neg (by omega)]
   exact .inr ⟨_,_,_,rfl,rfl,hk _ _ (h.push this),hd,hk,by omega⟩
  ·rw [if_neg hb,if_neg hb,if_pos rfl]
   exact .inl ⟨rfl,rfl⟩
 simp only [if_neg h3]
 by_cases h4:x.op=4
 ·rw [if_pos (.inr h4)]at hx
  have ha:x.a.toNat<m:=by simp at hx;omega
  have hDa:=hset h4
  simp only [if_pos h4]
  rw [h.stk]
  by_cases he:s.1= []
  ·rw [if_pos he,if_pos he];exact .inl ⟨rfl,rfl⟩
  rw [if_neg he,if_neg he]
  have hl:=h.pos _ (last_mem he)
  refine .inr ⟨_,_,_,rfl,rfl,⟨rfl,by rw [List.length_set];exact h.l1,by rw [List.length_set];exact h.l2,fun k hk=>?_,fun z hz=>h.pos z (List.dropLast_subset _ hz),fun k hk hb=>?_,fun k hb=>?_⟩,by rw [List.length_set];exact hd,fun u v hu=>hu.mono hmo hDa,by omega⟩
  ·simp only [getD_setI,h.l1,h.l2,hd]
   by_cases e:x.a.toNat=k
   ·have e1:(if x.a.toNat=k∧k<12 then true else s.2.getD k false)=true:=if_pos ⟨e,by omega⟩
    rw [if_pos ⟨e,hk⟩,if_pos e1,if_pos ⟨e,by omega⟩]
   ·have e1:(if x.a.toNat=k∧k<12 then true else s.2.getD k false)=s.2.getD k false:=if_neg (fun c=>e c.1)
    have e3:(if x.a.toNat=k∧k<12 then s.1.getLastD 0 else dims.getD k 0)=dims.getD k 0:=if_neg (fun c=>e c.1)
    rw [if_neg (fun c=>e c.1),e1,e3]
    exact h.slot k hk
  ·simp only [getD_setI,h.l1,hd]at hb ⊢
   by_cases e:x.a.toNat=k
   ·rw [if_pos ⟨e,by omega⟩];exact hl
   ·rw [if_neg (fun c=>e c.1)]at hb ⊢
    exact h.dpos k hk hb
  ·rw [hD]
   simp only [getD_setI]at hb
   by_cases e:x.a.toNat=k
   ·rw [decide_eq_true h4,decide_eq_true e.symm];simp
   ·rw [if_neg (fun c=>e c.1)]at hb
    rw [h.done k hb];rfl
 simp only [if_neg h4]
 by_cases h22:x.op=22
 ·simp only [if_pos h22]
  rw [h.stk]
  by_cases he:s.1= []∨s.1.getLastD 0≠1
  ·rw [if_pos he,if_pos he];exact .inl ⟨rfl,rfl⟩
  ·rw [if_neg he,if_neg he]
   exact .inr ⟨_,_,_,rfl,rfl,hk _ _ (h.stack fun z hz=>h.pos z (List.dropLast_subset _ hz)),hd,hk,by omega⟩
 simp only [if_neg h22]
 by_cases h21:x.op=21
 ·simp only [if_pos h21]
  exact .inr ⟨_,_,_,rfl,rfl,hk _ _ h,hd,hk,fun _=>rfl⟩
 simp only [if_neg h21]
 rw [h.stk]
 by_cases hn:s.1.length<ariF (opF x.op)
 ·rw [if_pos hn,if_pos hn];exact .inl ⟨rfl,rfl⟩
 rw [if_neg hn,if_neg hn]
 by_cases hr:resD (opF x.op) (s.1.drop (s.1.length-ariF (opF x.op)))=0
 ·rw [if_pos hr,if_pos hr];exact .inl ⟨rfl,rfl⟩
 rw [if_neg hr,if_neg hr]
 have hp:=resD_pos (fun z hz=>h.pos z (List.mem_of_mem_drop hz)) hr
 have h':=(h.stack (l:=s.1.take (s.1.length-ariF (opF x.op))) fun z hz=>h.pos z (List.mem_of_mem_take hz)).push hp
 exact .inr ⟨_,_,_,rfl,rfl,hk _ _ h',hd,hk,fun e=>absurd e h21⟩
theorem put_agr(hm:m≤12)(hL:AgrL m D dims S T)(h:Agr m D dims s t)(hf:s.1.length≤24)(k:Nat) :
 (putA S k s=none∧putB T k t=none)∨∃S' T',putA S k s=some S'∧putB T k t=some T'∧AgrL m D dims S' T':=by
 unfold putA putB
 rcases hL.both k with ⟨e1,e2⟩|⟨u,v,e1,e2,hu,hf'⟩
 ·rw [e1,e2]
  refine .inr ⟨_,_,rfl,rfl,by rw [List.length_set,List.length_set];exact hL.1,fun j=>?_⟩
  rw [getD_setI,getD_setI,hL.1]
  split
  ·exact⟨h,hf⟩
  ·exact hL.2 j
 ·rw [e1,e2]
  simp only [h.stk,hu.stk]
  by_cases he:u.1=s.1
  ·rw [if_pos he,if_pos he]
   refine .inr ⟨_,_,rfl,rfl,by rw [List.length_set,List.length_set];exact hL.1,fun j=>?_⟩
   rw [getD_setI,getD_setI,hL.1]
   split
   ·refine⟨⟨rfl,by rw [List.length_zipWith,hu.l1,h.l1];rfl,by rw [List.length_zipWith,hu.l2,h.l2];omega,fun k hk=>?_,hu.pos,fun k hk hb=>hu.dpos k hk (zip_true hb).1,fun k hb=>hu.done k (zip_true hb).1⟩,hf'⟩
    have z1:=h.l1;have z2:=h.l2;have z3:=hu.l1;have z4:=hu.l2
    rw [getD_zip _ _ _ k 0 0 0 (by omega) (by omega),getD_zip _ _ _ k false false false (by omega) (by omega),h.slot k hk,hu.slot k hk]
    have q1:=h.dpos k hk
    cases b1:s.2.getD k false<;>cases b2:u.2.getD k false<;>simp
    rw [b1]at q1
    intro e;have:=q1 rfl;omega
   ·exact hL.2 j
  ·rw [if_neg he,if_neg he];exact .inl ⟨rfl,rfl⟩
theorem putB_comm(a b:Nat)(t:List Int × List Int):(match putB T a t with|none=>none|some T1=>putB T1 b t)=(match putB T b t with|none=>none|some T1=>putB T1 a t):=by
 by_cases hab:a=b
 ·subst hab;rfl
 have g:∀(c d:Nat) (w:Option (List Int × List Int)),c≠d→(T.set c w).getD d none=T.getD d none:=fun c d w hcd=>by
  rw [getD_setI,if_neg (fun e=>hcd e.1)]
 unfold putB
 cases ha:T.getD a none with
 |none=>
  cases hb:T.getD b none with
  |none=>simp only [g _ _ _ hab,g _ _ _ (Ne.symm hab),ha,hb];rw [List.set_comm _ _ hab]
  |some v=>
   simp only [g _ _ _ hab,ha,hb]
   by_cases e:v.1=t.1
   ·simp only [if_pos e,g _ _ _ (Ne.symm hab),ha];rw [List.set_comm _ _ hab]
   ·simp only [if_neg e]
 |some u=>
  cases hb:T.getD b none with
  |none=>
   simp only [g _ _ _ (Ne.symm hab),ha,hb]
   by_cases e:u.1=t.1
   ·simp only [if_pos e,g _ _ _ hab,hb];rw [List.set_comm _ _ hab]
   ·simp only [if_neg e]
  |some v=>
   by_cases e:u.1=t.1
   ·by_cases e':v.1=t.1
    ·simp only [if_pos e,if_pos e',g _ _ _ hab,g _ _ _ (Ne.symm hab),ha,hb];rw [List.set_comm _ _ hab]
    ·simp only [if_pos e,if_neg e',g _ _ _ hab,hb]
   ·by_cases e':v.1=t.1
    ·simp only [if_neg e,if_pos e',g _ _ _ (Ne.symm hab),ha]
    ·simp only [if_neg e,if_neg e']
theorem putA_keep{k:Nat}(h:putA S k s=some S'):S'.length=S.length∧(∀j u,S.getD j none=some u→∃v,S'.getD j none=some v∧v.1=u.1)∧(k<S.length→∃v,S'.getD k none=some v∧v.1=s.1)∧
 ∀j v,S'.getD j none=some v→v.1=s.1∨∃u,S.getD j none=some u∧u.1=v.1:=by
 unfold putA at h
 cases hk:S.getD k none with
 |none=>
  rw [hk]at h
  obtain rfl:=Option.some.inj h
  refine⟨List.length_set ..,fun j u hu=>?_,fun hl=>?_,fun j v hv=>?_⟩
  ·by_cases e:k=j
   ·subst e;rw [hk]at hu;cases hu
   ·rw [getD_setI,if_neg (fun c=>e c.1)];exact⟨u,hu,rfl⟩
  ·rw [getD_setI,if_pos ⟨rfl,hl⟩];exact⟨s,rfl,rfl⟩
  ·rw [getD_setI]at hv
   split at hv
   ·obtain rfl:=Option.some.inj hv;exact .inl rfl
   ·exact .inr ⟨v,hv,rfl⟩
 |some t=>
  rw [hk]at h
  by_cases e:t.1=s.1
  ·simp only [if_pos e]at h
   obtain rfl:=Option.some.inj h
   refine⟨List.length_set ..,fun j u hu=>?_,fun hl=>?_,fun j v hv=>?_⟩
   ·rw [getD_setI]
    split
    ·rename_i c
     obtain rfl:=c.1
     rw [hk]at hu
     obtain rfl:=Option.some.inj hu
     exact⟨_,rfl,rfl⟩
    ·exact⟨u,hu,rfl⟩
   ·rw [getD_setI,if_pos ⟨rfl,hl⟩];exact⟨_,rfl,e⟩
   ·rw [getD_setI]at hv
    split at hv
    ·obtain rfl:=Option.some.inj hv;exact .inl e
    ·exact .inr ⟨v,hv,rfl⟩
  ·simp only [if_neg e]at h;cases h
end
section
variable {m : Nat} {D D' : Nat → Bool} {dims : List Int} {S : List (Option (List Int × List Bool))} {T : List (Option (List Int × List Int))} {x : Ins}
theorem rnd_agr{n i dep:Nat}(hm:m≤12)(hx:wfF m n i x=true)(hL:AgrL m D dims S T)(hd:dims.length=12)(hset:x.op=4→D x.a.toNat=false)(hD:∀k,D' k=(D k || (decide (x.op=4)&&decide (k=x.a.toNat))))(hn:S.length=n+1)(hi:i<n) :
 (rndA S x i dims dep=none∧(T.getD i none=none∨rndB T x i=none))∨
 ∃S' dims' p T' s t,rndA S x i dims dep=some (S',dims',max dep p)∧S.getD i none=some s∧T.getD i none=some t∧t.1=s.1∧rndB T x i=some T'∧AgrL m D' dims' S' T'∧dims'.length=12∧S'.length=S.length∧
  (∀j u,S.getD j none=some u→∃v,S'.getD j none=some v∧v.1=u.1)∧(∃j v,i<j∧S'.getD j none=some v∧v.1.length=p)∧
  ∀j v,S'.getD j none=some v→v.1.length=p∨∃u,S.getD j none=some u∧u.1=v.1:=by
 have ha:x.op=21∨x.op=22→i<x.a.toNat∧x.a.toNat<S.length:=fun h=>by
  unfold wfF at hx
  rw [if_neg (by omega)]at hx
  by_cases hz:¬(x.n=0∧x.d=0)
  ·rw [if_pos hz]at hx;cases hx
  rw [if_neg hz,if_neg (by omega),if_neg (by omega),if_neg (by omega),if_pos h]at hx
  simp at hx;omega
 unfold rndA rndB
 rcases hL.both i with ⟨e1,e2⟩|⟨s,t,e1,e2,hst,hf⟩
 ·rw [e1,e2];exact .inl ⟨rfl,.inl rfl⟩
 rw [e1,e2]
 rcases app_agr hm hx hst hd hset hD with ⟨a1,a2⟩|⟨s',dims',t',a1,a2,hst',hd',hmo,h21⟩
 ·exact .inl ⟨by simp only [a1],.inr (by simp only [a2])⟩
 simp only [a1,a2]
 have hL':AgrL m D' dims' S T:=⟨hL.1,fun k=>(hL.2 k).imp hmo⟩
 rw [hst'.stk]
 by_cases hf':24<s'.1.length
 ·rw [if_pos hf']
  refine .inl ⟨rfl,.inr ?_⟩
  by_cases c:x.op=21
  ·rw [h21 c]at hf';omega
  ·rw [if_neg c]
   split
   ·rfl
   ·rw [if_pos hf']
 rw [if_neg hf']
 by_cases c:x.op=21
 ·have⟨k1,k2⟩:=ha (.inl c)
  simp only [if_pos c,if_pos (show x.op=21∨x.op=22 from .inl c)]
  rcases put_agr hm hL' hst' (by omega) x.a.toNat with ⟨b1,b2⟩|⟨S',T',b1,b2,hL2⟩
  ·rw [b1,b2];exact .inl ⟨rfl,.inr rfl⟩
  ·rw [b1,b2]
   obtain⟨q1,q2,q3,q4⟩:=putA_keep b1
   obtain⟨v,hv,hv1⟩:=q3 k2
   exact .inr ⟨S',dims',s'.1.length,T',s,t,rfl,rfl,rfl,hst.stk,rfl,hL2,hd',q1,q2,⟨_,v,k1,hv,by rw [hv1]⟩,fun j v hv=>(q4 j v hv).imp (fun e=>by rw [e]) id⟩
 simp only [if_neg c]
 by_cases c2:x.op=22
 ·have⟨k1,k2⟩:=ha (.inr c2)
  simp only [if_pos c2,if_pos (show x.op=21∨x.op=22 from .inr c2),if_neg hf']
  have hco:(match putB T x.a.toNat t' with|none=>none|some T1=>putB T1 (i+1) t')=(match putB T (i+1) t' with|none=>none|some T1=>putB T1 x.a.toNat t'):=putB_comm _ _ _
  rw [hco]
  rcases put_agr hm hL' hst' (by omega) (i+1)with ⟨b1,b2⟩|⟨S1,T1,b1,b2,hL2⟩
  ·rw [b1,b2];exact .inl ⟨rfl,.inr rfl⟩
  rw [b1,b2]
  simp only
  rcases put_agr hm hL2 hst' (by omega) x.a.toNat with ⟨d1,d2⟩|⟨S',T',d1,d2,hL3⟩
  ·rw [d1,d2];exact .inl ⟨rfl,.inr rfl⟩
  rw [d1,d2]
  obtain⟨q1,q2,q3,q4⟩:=putA_keep b1
  obtain⟨r1,r2,r3,r4⟩:=putA_keep d1
  obtain⟨v,hv,hv1⟩:=r3 (by omega)
  refine .inr ⟨S',dims',s'.1.length,T',s,t,rfl,rfl,rfl,hst.stk,rfl,hL3,hd',by omega,fun j u hu=>?_,⟨_,v,k1,hv,by rw [hv1]⟩,fun j v hv=>?_⟩
  ·obtain⟨v,hv,e⟩:=q2 j u hu
   obtain⟨v',hv',e'⟩:=r2 j v hv
   exact⟨v',hv',e'.trans e⟩
  ·rcases r4 j v hv with e|⟨u,hu,e⟩
   ·exact .inl (by rw [e])
   rcases q4 j u hu with e'|⟨u',hu',e'⟩
   ·exact .inl (by rw [←e,e'])
   ·exact .inr ⟨u',hu',e'.trans e⟩
 ·simp only [if_neg c2,if_neg (show ¬(x.op=21∨x.op=22)by omega),if_neg hf']
  rcases put_agr hm hL' hst' (by omega) (i+1)with ⟨b1,b2⟩|⟨S',T',b1,b2,hL2⟩
  ·rw [b1,b2];exact .inl ⟨rfl,.inr rfl⟩
  ·rw [b1,b2]
   obtain⟨q1,q2,q3,q4⟩:=putA_keep b1
   obtain⟨v,hv,hv1⟩:=q3 (by omega)
   exact .inr ⟨S',dims',s'.1.length,T',s,t,rfl,rfl,rfl,hst.stk,rfl,hL2,hd',q1,q2,⟨_,v,by omega,hv,by rw [hv1]⟩,fun j v hv=>(q4 j v hv).imp (fun e=>by rw [e]) id⟩
end
theorem getD_some_lt{α:Type}{l:List (Option α)}{j:Nat}{u:α}(h:l.getD j none=some u):j<l.length:=by
 exact fz62
theorem setsF_cons(x:Ins)(r:List Ins):setsF (x::r)=if x.op=4 then x.a.toNat::setsF r else setsF r:=by
 unfold setsF
 rw [List.filter_cons]
 by_cases h:x.op=4<;>simp [h]
theorem go_agr{m n:Nat}(hm:m≤12):∀(r:List Ins) (i:Nat) (D:Nat→Bool) (S:List (Option (List Int × List Bool))) (T:List (Option (List Int × List Int))) (dims:List Int) (da db:Nat),
 (∀k,k<r.length→wfF m n (i+k) (r.getD k default)=true)→(setsF r).Nodup→(∀a∈setsF r,D a=false)→AgrL m D dims S T→dims.length=12→S.length=n+1→i+r.length=n→
 (∀j u,S.getD j none=some u→u.1.length≤da)→db≤da→(da≤db∨∃j u,i≤j∧S.getD j none=some u∧da≤u.1.length)→(r= []→∃u,S.getD i none=some u)→goA r i S dims da=goB r i T db:=by
 intro r
 induction r with
 |nil=>
  intro i D S T dims da db _ _ _ hL _ hn hin h1 h2 h3 h4
  obtain⟨u,hu⟩:=h4 rfl
  rw [goA,goB]
  rcases hL.both i with ⟨e1,-⟩|⟨s,t,e1,e2,hst,-⟩
  ·rw [hu]at e1;cases e1
  rw [e1,e2]
  simp only [hst.stk]
  by_cases he:s.1= []
  ·rw [if_pos he,if_pos he]
   have:da=db:=by
    rcases h3 with h3|⟨j,u2,hj,hu2,hl⟩
    ·omega
    ·have:=getD_some_lt hu2
     obtain rfl:j=i:=by simp at hin;omega
     rw [e1]at hu2
     rw [←Option.some.inj hu2,he]at hl;simp at hl;omega
   rw [this]
  ·rw [if_neg he,if_neg he]
 |cons x r ih=>
  intro i D S T dims da db hwf hnd hsD hL hd hn hin h1 h2 h3 _
  simp only [List.length_cons]at hin
  have hx:=hwf 0 (by simp)
  rw [Nat.add_zero]at hx
  replace hx:wfF m n i x=true:=hx
  have hset:x.op=4→D x.a.toNat=false:=fun h=>hsD _ (by rw [setsF_cons,if_pos h];exact List.mem_cons_self ..)
  rw [goA,goB]
  rcases rnd_agr (D':=fun k=>D k || (decide (x.op=4)&&decide (k=x.a.toNat))) (dep:=da) hm hx hL hd hset (fun _=>rfl) hn (by omega)with ⟨a1,a2⟩|⟨S',dims',p,T',s,t,a1,e1,e2,e3,a2,hL',hd',hl',k1,⟨j,v,hij,hv,hp⟩,k4⟩
  ·rw [a1]
   rcases a2 with a2|a2
   ·rw [a2]
   ·rw [a2];cases T.getD i none<;>rfl
  rw [a1,e2,a2]
  simp only [e3]
  have hjl:=getD_some_lt hv
  refine ih (i+1) _ S' T' dims' (max da p) (max db s.1.length) (fun k hk=>?_) ?_ (fun a ha=>?_) hL' hd' (by omega) (by omega) (fun j u hu=>?_) ?_ ?_ (fun hr=>?_)
  ·have:=hwf (k+1) (by simp;omega)
   rw [show i+1+k=i+(k+1)by omega]
   exact this
  ·rw [setsF_cons]at hnd
   split at hnd
   ·exact(List.nodup_cons.1 hnd).2
   ·exact hnd
  ·rw [setsF_cons]at hnd hsD
   by_cases h:x.op=4
   ·rw [if_pos h]at hnd hsD
    have h5:a≠x.a.toNat:=fun e=>by subst e;exact(List.nodup_cons.1 hnd).1 ha
    rw [hsD a (List.mem_cons_of_mem _ ha),decide_eq_false h5];simp
   ·rw [if_neg h]at hsD
    rw [hsD a ha,decide_eq_false h];rfl
  ·rcases k4 j u hu with e|⟨u',hu',e⟩
   ·omega
   ·have:=h1 j u' hu';rw [e]at this;omega
  ·have:=h1 i s e1;omega
  ·by_cases hpd:da≤p
   ·exact .inr ⟨j,v,by omega,hv,by omega⟩
   rcases h3 with h3|⟨j2,u,hj2,hu,hl⟩
   ·exact .inl (by omega)
   by_cases hje:j2=i
   ·subst hje
    rw [e1]at hu
    obtain rfl:=Option.some.inj hu
    exact .inl (by omega)
   ·obtain⟨v2,hv2,ev⟩:=k1 j2 u hu
    exact .inr ⟨j2,v2,by omega,hv2,by rw [ev];omega⟩
  ·subst hr
   simp only [List.length_nil]at hin
   obtain rfl:j=i+1:=by omega
   exact⟨v,hv⟩
theorem ver_same(l:List Ins)(sl:List ByteArray):verA l sl=verB l sl:=by
 unfold verA verB
 by_cases h:formF l sl=true
 ·rw [if_pos h,if_pos h]
  unfold formF wordsF at h
  simp only [Bool.and_eq_true,decide_eq_true_eq,List.all_eq_true,List.mem_range]at h
  obtain⟨⟨-,hwf⟩,⟨⟨hm,-⟩,-⟩,hnd⟩:=h
  have g1:∀k,k≠0→(some ([],List.replicate 12 false)::List.replicate l.length (none:Option (List Int × List Bool))).getD k none=none:=fun k hk=>by
   exact fz45
  have g2:∀k,k≠0→(some ([],List.replicate sl.length 0)::List.replicate l.length (none:Option (List Int × List Int))).getD k none=none:=fun k hk=>by
   exact fz45
  have gf:∀k,(List.replicate 12 false).getD k false=false:=fun k=>by
   rw [List.getD_eq_getElem?_getD,List.getElem?_replicate];split<;>rfl
  refine go_agr hm l 0 (fun _=>false) _ _ _ 0 0 (fun k hk=>by rw [Nat.zero_add];exact hwf k hk) hnd (fun _ _=>rfl) ⟨by simp,fun k=>?_⟩ (by simp) (by simp) (by simp) (fun j u hu=>?_) (Nat.le_refl _) (.inl (Nat.le_refl _)) (fun hr=>⟨_,rfl⟩)
  ·by_cases hk:k=0
   ·subst hk
    refine⟨⟨rfl,by simp,by simp,fun k hk=>?_,fun z hz=>(by cases hz),fun k _ hb=>?_,fun k hb=>?_⟩,by simp⟩
    ·rw [gf,List.getD_eq_getElem?_getD,List.getElem?_replicate,if_neg (by decide:¬false=true)];split<;>rfl
    ·rw [gf]at hb;cases hb
    ·rw [gf]at hb;cases hb
   ·rw [g1 k hk,g2 k hk];trivial
  ·by_cases hk:j=0
   ·subst hk
    obtain rfl:=Option.some.inj hu
    exact Nat.le_refl _
   ·rw [g1 j hk]at hu;cases hu
 ·rw [if_neg h,if_neg h]
def SubS(s:List Int × List Bool):Option (List Int × List Bool)→Prop
 |none=>False
 |some t=>t.1=s.1∧∀k,t.2.getD k false=true→s.2.getD k false=true
structure Cert(l:List Ins)(m:Nat)(F:List (Option (List Int × List Bool)))(D:List Int):Prop where
 wf:∀i,i<l.length→wfF m l.length i (l.getD i default)=true
 m12:m≤12
 dlen:D.length=12
 zero:∃s,F.getD 0 none=some s∧s.1= []∧∀k,s.2.getD k false=false
 step:∀i,i<l.length→∃s s',F.getD i none=some s∧appA (l.getD i default) s D=some (s',D)∧s'.1.length≤24∧
  ((l.getD i default).op≠21→SubS s' (F.getD (i+1) none))∧((l.getD i default).op=21∨(l.getD i default).op=22→SubS s' (F.getD (l.getD i default).a.toNat none))
 last:∀s,F.getD l.length none=some s→s.1= []
def DoneL(P:Nat→Bool)(S:List (Option (List Int × List Bool))):Prop:=∀j s,S.getD j none=some s→∀k,s.2.getD k false=true→P k=true
theorem SubS.refl{S:List (Option (List Int × List Bool))}{j:Nat}{s:List Int × List Bool}(h:S.getD j none=some s):SubS s (S.getD j none):=by
 rw [h];exact⟨rfl,fun _ h=>h⟩
theorem SubS.trans{s t:List Int × List Bool}{o:Option (List Int × List Bool)}(h:t.1=s.1∧∀k,t.2.getD k false=true→s.2.getD k false=true)(g:SubS t o):SubS s o:=by
 cases o with
 |none=>exact g
 |some u=>exact⟨g.1.trans h.1,fun k hk=>h.2 k (g.2 k hk)⟩
section
variable {S S' : List (Option (List Int × List Bool))} {s : List Int × List Bool}
theorem putA_sub{k:Nat}(h:putA S k s=some S'):(∀j,j≠k→S'.getD j none=S.getD j none)∧(∀j u,S.getD j none=some u→SubS u (S'.getD j none))∧(k<S.length→SubS s (S'.getD k none))∧
 ∀P:Nat→Bool,DoneL P S→(∀k,s.2.getD k false=true→P k=true)→DoneL P S':=by
 unfold putA at h
 cases hk:S.getD k none with
 |none=>
  rw [hk]at h
  obtain rfl:=Option.some.inj h
  refine⟨fun j hj=>by rw [getD_setI,if_neg (fun c=>hj c.1.symm)],fun j u hu=>?_,fun hl=>?_,fun P hP hs j u hu=>?_⟩
  ·by_cases e:k=j
   ·subst e;rw [hk]at hu;cases hu
   ·rw [getD_setI,if_neg (fun c=>e c.1)];exact .refl hu
  ·rw [getD_setI,if_pos ⟨rfl,hl⟩];exact⟨rfl,fun _ h=>h⟩
  ·rw [getD_setI]at hu
   split at hu
   ·obtain rfl:=Option.some.inj hu;exact hs
   ·exact hP j u hu
 |some t=>
  rw [hk]at h
  by_cases e:t.1=s.1
  ·simp only [if_pos e]at h
   obtain rfl:=Option.some.inj h
   refine⟨fun j hj=>by rw [getD_setI,if_neg (fun c=>hj c.1.symm)],fun j u hu=>?_,fun hl=>?_,fun P hP hs j u hu=>?_⟩
   ·rw [getD_setI]
    split
    ·rename_i c
     obtain rfl:=c.1
     rw [hk]at hu
     obtain rfl:=Option.some.inj hu
     exact⟨rfl,fun k hk=>(zip_true hk).1⟩
    ·exact .refl hu
   ·rw [getD_setI,if_pos ⟨rfl,hl⟩];exact⟨e,fun k hk=>(zip_true hk).2⟩
   ·rw [getD_setI]at hu
    split at hu
    ·obtain rfl:=Option.some.inj hu;exact fun k hk=>hs k (zip_true hk).2
    ·exact hP j u hu
  ·simp only [if_neg e]at h;cases h
end
theorem appA_end{m n i:Nat}{x:Ins}{s s':List Int × List Bool}{dims dims' D:List Int}{P:Nat→Bool}(hx:wfF m n i x=true)(hm:m≤12)(hdl:dims.length=12)(hDl:D.length=12)(h:appA x s dims=some (s',dims'))(hdone:∀k,s.2.getD k false=true→P k=true)
 (hD:∀k,(P k || (decide (x.op=4)&&decide (k=x.a.toNat)))=true→D.getD k 0=dims'.getD k 0) (hset:x.op=4→P x.a.toNat=false) :
 appA x s D=some (s',D)∧dims'.length=12∧(∀k,P k=true→dims'.getD k 0=dims.getD k 0)∧∀k,s'.2.getD k false=true→(P k || (decide (x.op=4)&&decide (k=x.a.toNat)))=true:=by
 have ha:x.op=4→x.a.toNat<12:=fun h4=>by
  unfold wfF at hx
  rw [if_neg (by omega)]at hx
  by_cases hz:¬(x.n=0∧x.d=0)
  ·rw [if_pos hz]at hx;cases hx
  rw [if_neg hz,if_neg (by omega),if_pos (.inr h4)]at hx
  simp at hx;omega
 have hor:∀k,s.2.getD k false=true→(P k || (decide (x.op=4)&&decide (k=x.a.toNat)))=true:=fun k hk=>by rw [hdone k hk];rfl
 unfold appA at h ⊢
 by_cases h1:x.op=1
 ·simp only [if_pos h1]at h ⊢
  obtain⟨rfl,rfl⟩:=Prod.mk.inj (Option.some.inj h)
  exact⟨rfl,hdl,fun _ _=>rfl,hor⟩
 simp only [if_neg h1]at h ⊢
 by_cases h2:x.op=2
 ·simp only [if_pos h2]at h ⊢
  obtain⟨rfl,rfl⟩:=Prod.mk.inj (Option.some.inj h)
  exact⟨rfl,hdl,fun _ _=>rfl,hor⟩
 simp only [if_neg h2]at h ⊢
 by_cases h5:x.op=5
 ·simp only [if_pos h5]at h ⊢
  obtain⟨rfl,rfl⟩:=Prod.mk.inj (Option.some.inj h)
  exact⟨rfl,hdl,fun _ _=>rfl,hor⟩
 simp only [if_neg h5]at h ⊢
 by_cases h23:x.op=23∨x.op=24
 ·simp only [if_pos h23]at h ⊢
  obtain⟨rfl,rfl⟩:=Prod.mk.inj (Option.some.inj h)
  exact⟨rfl,hdl,fun _ _=>rfl,hor⟩
 simp only [if_neg h23]at h ⊢
 by_cases h3:x.op=3
 ·simp only [if_pos h3]at h ⊢
  by_cases hb:s.2.getD x.a.toNat false=true
  ·rw [if_pos hb]at h ⊢
   obtain⟨rfl,rfl⟩:=Prod.mk.inj (Option.some.inj h)
   rw [hD _ (hor _ hb)]
   exact⟨rfl,hdl,fun _ _=>rfl,hor⟩
  ·rw [if_neg hb]at h;cases h
 simp only [if_neg h3]at h ⊢
 by_cases h4:x.op=4
 ·simp only [if_pos h4]at h ⊢
  by_cases he:s.1= []
  ·rw [if_pos he]at h;cases h
  rw [if_neg he]at h ⊢
  obtain⟨rfl,rfl⟩:=Prod.mk.inj (Option.some.inj h)
  have hset0:=hset h4
  have e:D.set x.a.toNat (s.1.getLastD 0)=D:=by
   have h7:=hD x.a.toNat (by rw [decide_eq_true h4];simp)
   rw [getD_setI,if_pos ⟨rfl,by have:=ha h4;omega⟩]at h7
   apply List.ext_getElem?
   intro k
   rw [List.getElem?_set]
   split
   ·rename_i ek
    subst ek
    have hlt:=ha h4
    rw [if_pos (by omega),List.getElem?_eq_getElem (by omega),←h7,List.getD_eq_getElem?_getD,List.getElem?_eq_getElem (by omega)];rfl
   ·rfl
  refine⟨by rw [e],by rw [List.length_set];exact hdl,fun k hk=>?_,fun k hk=>?_⟩
  ·rw [getD_setI,if_neg]
   intro c
   rw [←c.1,hset0]at hk;cases hk
  ·rw [getD_setI]at hk
   split at hk
   ·rename_i c
    rw [decide_eq_true h4,decide_eq_true c.1.symm];simp
   ·exact hor k hk
 simp only [if_neg h4]at h ⊢
 by_cases h22:x.op=22
 ·simp only [if_pos h22]at h ⊢
  by_cases he:s.1= []∨s.1.getLastD 0≠1
  ·rw [if_pos he]at h;cases h
  ·rw [if_neg he]at h ⊢
   obtain⟨rfl,rfl⟩:=Prod.mk.inj (Option.some.inj h)
   exact⟨rfl,hdl,fun _ _=>rfl,fun k hk=>by have:=hor k hk;simpa [h4]using this⟩
 simp only [if_neg h22]at h ⊢
 by_cases h21:x.op=21
 ·simp only [if_pos h21]at h ⊢
  obtain⟨rfl,rfl⟩:=Prod.mk.inj (Option.some.inj h)
  exact⟨rfl,hdl,fun _ _=>rfl,fun k hk=>by have:=hor k hk;simpa [h4]using this⟩
 simp only [if_neg h21]at h ⊢
 by_cases hn:s.1.length<ariF (opF x.op)
 ·rw [if_pos hn]at h;cases h
 rw [if_neg hn]at h ⊢
 by_cases hr:resD (opF x.op) (s.1.drop (s.1.length-ariF (opF x.op)))=0
 ·rw [if_pos hr]at h;cases h
 rw [if_neg hr]at h ⊢
 obtain⟨rfl,rfl⟩:=Prod.mk.inj (Option.some.inj h)
 exact⟨rfl,hdl,fun _ _=>rfl,fun k hk=>by have:=hor k hk;simpa [h4]using this⟩
theorem appA_len{x:Ins}{s s':List Int × List Bool}{dims dims':List Int}(hd:dims.length=12)(h:appA x s dims=some (s',dims')):dims'.length=12:=by
 unfold appA at h
 repeat' split at h
 all_goals first
  |(cases h;done)
  |(obtain⟨-,rfl⟩:=Prod.mk.inj (Option.some.inj h);first|exact hd|(rw [List.length_set];exact hd))
theorem rndA_some{S S':List (Option (List Int × List Bool))}{x:Ins}{i dep dep':Nat}{dims dims':List Int}(h:rndA S x i dims dep=some (S',dims',dep')) :
 ∃s s' S1,S.getD i none=some s∧appA x s dims=some (s',dims')∧s'.1.length≤24∧(if x.op=21 then some S else putA S (i+1) s')=some S1∧(if x.op=21∨x.op=22 then putA S1 x.a.toNat s' else some S1)=some S':=by
 unfold rndA at h
 cases h1:S.getD i none with
 |none=>rw [h1]at h;cases h
 |some s=>
  rw [h1]at h
  cases h2:appA x s dims with
  |none=>simp only [h2]at h;cases h
  |some r=>
   obtain⟨s',d'⟩:=r
   simp only [h2]at h
   by_cases h3:24<s'.1.length
   ·rw [if_pos h3]at h;cases h
   rw [if_neg h3]at h
   cases h4:(if x.op=21 then some S else putA S (i+1) s')with
   |none=>simp only [h4]at h;cases h
   |some S1=>
    simp only [h4]at h
    cases h5:(if x.op=21∨x.op=22 then putA S1 x.a.toNat s' else some S1)with
    |none=>simp only [h5]at h;cases h
    |some S2=>
     simp only [h5]at h
     obtain⟨rfl,h6⟩:=Prod.mk.inj (Option.some.inj h)
     obtain⟨rfl,-⟩:=Prod.mk.inj h6
     exact⟨s,s',S1,rfl,h2,by omega,h4,h5⟩
theorem goA_cert{m n:Nat}(hm:m≤12):∀(r:List Ins) (i:Nat) (P:Nat→Bool) (S:List (Option (List Int × List Bool))) (dims:List Int) (dep:Nat) (d:Int),
 (∀k,k<r.length→wfF m n (i+k) (r.getD k default)=true)→(setsF r).Nodup→(∀a∈setsF r,P a=false)→DoneL P S→dims.length=12→S.length=n+1→i+r.length=n→goA r i S dims dep=(d,0)→
 ∃(F:List (Option (List Int × List Bool))) (D:List Int),D.length=12∧(∀j,j≤i→F.getD j none=S.getD j none)∧(∀j u,S.getD j none=some u→SubS u (F.getD j none))∧(∀k,P k=true→D.getD k 0=dims.getD k 0)∧
  (∀k,k<r.length→∃s s',F.getD (i+k) none=some s∧appA (r.getD k default) s D=some (s',D)∧s'.1.length≤24∧
   ((r.getD k default).op≠21→SubS s' (F.getD (i+k+1) none))∧((r.getD k default).op=21∨(r.getD k default).op=22→SubS s' (F.getD (r.getD k default).a.toNat none)))∧
  ∀s,F.getD n none=some s→s.1= []:=by
 intro r
 induction r with
 |nil=>
  intro i P S dims dep d _ _ _ _ hd _ hin hgo
  refine⟨S,dims,hd,fun _ _=>rfl,fun j u hu=>.refl hu,fun _ _=>rfl,fun k hk=>by simp at hk,fun s hs=>?_⟩
  simp only [List.length_nil]at hin
  obtain rfl:i=n:=by omega
  rw [goA,hs]at hgo
  by_cases he:s.1= []
  ·exact he
  ·simp only [if_neg he]at hgo
   cases(Prod.mk.inj hgo).2
 |cons x r ih=>
  intro i P S dims dep d hwf hnd hsP hdo hd hn hin hgo
  simp only [List.length_cons]at hin
  have hx:wfF m n i x=true:=hwf 0 (by simp)
  have hset:x.op=4→P x.a.toNat=false:=fun h=>hsP _ (by rw [setsF_cons,if_pos h];exact List.mem_cons_self ..)
  have hjmp:x.op=21∨x.op=22→i<x.a.toNat∧x.a.toNat<S.length:=fun h=>by
   unfold wfF at hx
   rw [if_neg (by omega)]at hx
   by_cases hz:¬(x.n=0∧x.d=0)
   ·rw [if_pos hz]at hx;cases hx
   rw [if_neg hz,if_neg (by omega),if_neg (by omega),if_neg (by omega),if_pos h]at hx
   simp at hx;omega
  rw [goA]at hgo
  cases hr:rndA S x i dims dep with
  |none=>rw [hr]at hgo;cases(Prod.mk.inj hgo).2
  |some t=>
   obtain⟨S',dims',dep'⟩:=t
   rw [hr]at hgo
   simp only at hgo
   obtain⟨s,s',S1,e1,e2,e3,e4,e5⟩:=rndA_some hr
   have hds:=hdo i s e1
   -- the two puts
   have hs':∀k,s'.2.getD k false=true→(P k || (decide (x.op=4)&&decide (k=x.a.toNat)))=true:=
    (appA_end (D:=dims'.set 0 (dims'.getD 0 0)) (P:=P) hx hm hd (by rw [List.length_set];exact appA_len hd e2) e2 hds (fun k _=>by rw [getD_setI];split<;>simp_all) hset).2.2.2
   have hp1:S1.length=S.length∧(∀j,j≤i→S1.getD j none=S.getD j none)∧(∀j u,S.getD j none=some u→SubS u (S1.getD j none))∧(x.op≠21→SubS s' (S1.getD (i+1) none))∧DoneL (fun k=>P k || (decide (x.op=4)&&decide (k=x.a.toNat))) S1:=by
    have hdo':DoneL (fun k=>P k || (decide (x.op=4)&&decide (k=x.a.toNat))) S:=fun j u hu k hk=>by
     show(P k || _)=true
     rw [hdo j u hu k hk];rfl
    by_cases c:x.op=21
    ·rw [if_pos c]at e4
     obtain rfl:=Option.some.inj e4
     exact⟨rfl,fun _ _=>rfl,fun j u hu=>.refl hu,fun h=>absurd c h,hdo'⟩
    ·rw [if_neg c]at e4
     obtain⟨q1,q2,q3,q4⟩:=putA_sub e4
     exact⟨(putA_keep e4).1,fun j hj=>q1 j (by omega),q2,fun _=>q3 (by omega),q4 _ hdo' hs'⟩
   have hp2:S'.length=S.length∧(∀j,j≤i→S'.getD j none=S.getD j none)∧(∀j u,S1.getD j none=some u→SubS u (S'.getD j none))∧(x.op=21∨x.op=22→SubS s' (S'.getD x.a.toNat none))∧DoneL (fun k=>P k || (decide (x.op=4)&&decide (k=x.a.toNat))) S':=by
    by_cases c:x.op=21∨x.op=22
    ·rw [if_pos c]at e5
     have⟨j1,j2⟩:=hjmp c
     obtain⟨q1,q2,q3,q4⟩:=putA_sub e5
     exact⟨(putA_keep e5).1.trans hp1.1,fun j hj=>(q1 j (by omega)).trans (hp1.2.1 j hj),q2,fun _=>q3 (by rw [hp1.1];exact j2),q4 _ hp1.2.2.2.2 hs'⟩
    ·rw [if_neg c]at e5
     obtain rfl:=Option.some.inj e5
     exact⟨hp1.1,hp1.2.1,fun j u hu=>.refl hu,fun h=>absurd h c,hp1.2.2.2.2⟩
   obtain⟨F,D,f1,f2,f3,f4,f5,f6⟩:=ih (i+1) (fun k=>P k || (decide (x.op=4)&&decide (k=x.a.toNat))) S' dims' dep' d
    (fun k hk=>by
     have:=hwf (k+1) (by simp;omega)
     rw [show i+1+k=i+(k+1)by omega]
     exact this)
    (by
     rw [setsF_cons]at hnd
     split at hnd
     ·exact(List.nodup_cons.1 hnd).2
     ·exact hnd)
    (fun a ha=>by
     rw [setsF_cons]at hnd hsP
     by_cases h:x.op=4
     ·rw [if_pos h]at hnd hsP
      have h5:a≠x.a.toNat:=fun e=>by subst e;exact(List.nodup_cons.1 hnd).1 ha
      rw [hsP a (List.mem_cons_of_mem _ ha),decide_eq_false h5];simp
     ·rw [if_neg h]at hsP
      rw [hsP a ha,decide_eq_false h];rfl)
    hp2.2.2.2.2 (appA_len hd e2) (by omega) (by omega) hgo
   obtain⟨g1,g2,g3,g4⟩:=appA_end (D:=D) hx hm hd f1 e2 hds f4 hset
   have hsub:∀u (o:Option (List Int × List Bool)) j,SubS u (S1.getD j none)→SubS u (F.getD j none):=fun u o j hu=>by
    cases h1:S1.getD j none with
    |none=>rw [h1]at hu;exact hu.elim
    |some t=>
     rw [h1]at hu
     have h2:=hp2.2.2.1 j t h1
     cases h3:S'.getD j none with
     |none=>rw [h3]at h2;exact h2.elim
     |some t'=>
      rw [h3]at h2
      exact .trans hu (.trans h2 (f3 j t' h3))
   refine⟨F,D,f1,fun j hj=>(f2 j (by omega)).trans (hp2.2.1 j hj),fun j u hu=>hsub u none j (hp1.2.2.1 j u hu),fun k hk=>?_,fun k hk=>?_,f6⟩
   ·rw [f4 k (by rw [hk];rfl)];exact g3 k hk
   ·cases k with
    |zero=>
     refine⟨s,s', ?_,g1,e3,fun c=>?_,fun c=>?_⟩
     ·rw [Nat.add_zero,f2 i (by omega),hp2.2.1 i (Nat.le_refl _)];exact e1
     ·exact hsub s' none _ (hp1.2.2.2.1 c)
     ·have h2:=hp2.2.2.2.1 c
      change SubS s' (S'.getD x.a.toNat none)at h2
      show SubS s' (F.getD x.a.toNat none)
      cases h3:S'.getD x.a.toNat none with
      |none=>rw [h3]at h2;exact h2.elim
      |some t'=>
       rw [h3]at h2
       exact .trans h2 (f3 _ t' h3)
    |succ k=>
     have:=f5 k (by simp at hk;omega)
     rw [show i+1+k=i+(k+1)by omega]at this
     exact this
theorem ver_cert{l:List Ins}{sl:List ByteArray}{d:Int}(h:verA l sl=(d,0)):∃F D,Cert l sl.length F D:=by
 unfold verA at h
 by_cases hf:formF l sl=true
 ·rw [if_pos hf]at h
  unfold formF wordsF at hf
  simp only [Bool.and_eq_true,decide_eq_true_eq,List.all_eq_true,List.mem_range]at hf
  obtain⟨⟨-,hwf⟩,⟨⟨hm,-⟩,-⟩,hnd⟩:=hf
  have gf:∀k,(List.replicate 12 false).getD k false=false:=fun k=>by
   rw [List.getD_eq_getElem?_getD,List.getElem?_replicate];split<;>rfl
  obtain⟨F,D,f1,f2,-,-,f5,f6⟩:=goA_cert hm l 0 (fun _=>false) _ _ 0 d (fun k hk=>by rw [Nat.zero_add];exact hwf k hk) hnd (fun _ _=>rfl) (fun j s hs k hk=>by
   cases j with
   |zero=>
    obtain rfl:=Option.some.inj hs
    rw [gf]at hk;cases hk
   |succ j=>
    rw [List.getD_cons_succ,List.getD_eq_getElem?_getD,List.getElem?_replicate]at hs
    split at hs<;>cases hs) (by simp) (by simp) (by simp) h
  refine⟨F,D,hwf,hm,f1,⟨_,f2 0 (Nat.le_refl _),rfl,gf⟩,fun i hi=>?_,f6⟩
  have:=f5 i hi
  rw [Nat.zero_add]at this
  exact this
 ·rw [if_neg hf]at h
  cases(Prod.mk.inj h).2
def inVal(v:Vw)(k:Nat):Val:=(inputV v (inpNm k)).getD .zero
def opV(op:Int)(l:List Val):Val × Int:=if op≤6 then op1 op (l.getD 0 .zero)else op2 op (l.getD 0 .zero) (l.getD 1 .zero)
def runF(l:List Ins)(sl:List ByteArray)(v:Vw):Nat→Nat→List Val→List Val→List (ByteArray × Val)→List (ByteArray × Val) × Int
 |0,_,_,_,st=>(st,0)
 |f+1,i,stk,slots,st=>
  if l.length≤i then(st,0)
  else if(l.getD i default).op=1 then runF l sl v f (i+1) (stk++[⟨(l.getD i default).a,false,(l.getD i default).n,(l.getD i default).d⟩]) slots st
  else if(l.getD i default).op=2 then runF l sl v f (i+1) (stk++[inVal v (l.getD i default).a.toNat]) slots st
  else if(l.getD i default).op=3 then runF l sl v f (i+1) (stk++[slots.getD (l.getD i default).a.toNat .zero]) slots st
  else if(l.getD i default).op=4 then runF l sl v f (i+1) stk.dropLast (slots.set (l.getD i default).a.toNat (stk.getLastD .zero)) (st++[(sl.getD (l.getD i default).a.toNat ByteArray.empty,stk.getLastD .zero)])
  else if(l.getD i default).op=5 then(if(bestF v.years (l.getD i default).a).2.2=0 then runF l sl v f (i+1) (stk++[.num 4 (bestF v.years (l.getD i default).a).1 (bestF v.years (l.getD i default).a).2.1]) slots st else([],(bestF v.years (l.getD i default).a).2.2))
  else if(l.getD i default).op=23∨(l.getD i default).op=24 then runF l sl v f (i+1) (stk++[.truth (decide ((l.getD i default).op=23))]) slots st
  else if(l.getD i default).op=21 then runF l sl v f (l.getD i default).a.toNat stk slots st
  else if(l.getD i default).op=22 then runF l sl v f (if(stk.getLastD .zero).yes=true then i+1 else(l.getD i default).a.toNat) stk.dropLast slots st
  else if(opV (opF (l.getD i default).op) (stk.drop (stk.length-ariF (opF (l.getD i default).op)))).2=0 then
   runF l sl v f (i+1) (stk.take (stk.length-ariF (opF (l.getD i default).op))++[(opV (opF (l.getD i default).op) (stk.drop (stk.length-ariF (opF (l.getD i default).op)))).1]) slots st
  else([],(opV (opF (l.getD i default).op) (stk.drop (stk.length-ariF (opF (l.getD i default).op)))).2)
structure Fits(D:List Int)(s:List Int × List Bool)(stk slots:List Val):Prop where
 dims:stk.map Val.dim=s.1
 ok:∀x∈stk,x.ok=true
 slot:∀k,s.2.getD k false=true→(slots.getD k .zero).ok=true∧(slots.getD k .zero).dim=D.getD k 0
def At(F:List (Option (List Int × List Bool)))(D:List Int)(i:Nat)(stk slots:List Val):Prop:=∃s,F.getD i none=some s∧Fits D s stk slots
theorem Fits.to{F:List (Option (List Int × List Bool))}{D:List Int}{s:List Int × List Bool}{stk slots:List Val}{i:Nat}(h:Fits D s stk slots)(g:SubS s (F.getD i none)):At F D i stk slots:=by
 cases e:F.getD i none with
 |none=>rw [e]at g;exact g.elim
 |some t=>
  rw [e]at g
  exact⟨t,e,h.dims.trans g.1.symm,h.ok,fun k hk=>h.slot k (g.2 k hk)⟩
section
variable {l : List Ins} {m : Nat} {F : List (Option (List Int × List Bool))} {D : List Int} {i : Nat} {stk slots : List Val} {s : List Int × List Bool}
theorem Fits.push(h:Fits D s stk slots){x:Val}(hx:x.ok=true):Fits D (s.1++[x.dim],s.2) (stk++[x]) slots:=
 ⟨by rw [List.map_append,h.dims];rfl,fun y hy=>by
  rcases List.mem_append.1 hy with hy|hy
  ·exact h.ok y hy
  ·obtain rfl:y=x:=by simpa using hy
   exact hx,h.slot⟩
theorem Fits.len(h:Fits D s stk slots):stk.length=s.1.length:=by rw [←h.dims,List.length_map]
theorem Fits.pop(h:Fits D s stk slots):Fits D (s.1.dropLast,s.2) stk.dropLast slots:=
 ⟨by rw [←h.dims,List.map_dropLast],fun y hy=>h.ok y (List.dropLast_subset _ hy),h.slot⟩
theorem Cert.at(C:Cert l m F D)(hi:i<l.length)(h:At F D i stk slots):∃s s',Fits D s stk slots∧appA (l.getD i default) s D=some (s',D)∧s'.1.length≤24∧
 ((l.getD i default).op≠21→SubS s' (F.getD (i+1) none))∧((l.getD i default).op=21∨(l.getD i default).op=22→SubS s' (F.getD (l.getD i default).a.toNat none)):=by
 obtain⟨s,e,hf⟩:=h
 obtain⟨s0,s',e0,h1,h2,h3,h4⟩:=C.step i hi
 rw [e]at e0
 obtain rfl:=Option.some.inj e0
 exact⟨s,s',hf,h1,h2,h3,h4⟩
theorem wf_lit{n:Nat}{x:Ins}(h:wfF m n i x=true)(h1:x.op=1):2≤x.a∧x.a≤4∧vfrac x.n x.d=true:=by
 unfold wfF at h
 rw [if_pos h1]at h
 simp only [Bool.and_eq_true,decide_eq_true_eq]at h
 exact⟨by omega,by omega,h.2⟩
theorem wf_rest{n:Nat}{x:Ins}(h:wfF m n i x=true)(h1:x.op≠1):(x.n=0∧x.d=0)∧(x.op=2→0≤x.a∧x.a<11)∧(x.op=3∨x.op=4→0≤x.a∧x.a<m)∧(x.op=5→1≤x.a∧x.a≤45)∧
 (x.op=21∨x.op=22→(i:Int)<x.a∧x.a≤n)∧(x.op≠2→x.op≠3→x.op≠4→x.op≠5→x.op≠21→x.op≠22→x.op≠23→x.op≠24→opF x.op≠0):=by
 unfold wfF at h
 rw [if_neg h1]at h
 by_cases hz:¬(x.n=0∧x.d=0)
 ·rw [if_pos hz]at h;cases h
 rw [if_neg hz]at h
 refine⟨by omega,fun c=>?_,fun c=>?_,fun c=>?_,fun c=>?_,fun c2 c3 c4 c5 c21 c22 c23 c24=>?_⟩
 ·rw [if_pos c]at h;simpa using h
 ·rw [if_neg (by omega),if_pos c]at h;simpa using h
 ·rw [if_neg (by omega),if_neg (by omega),if_pos c]at h;simpa using h
 ·rw [if_neg (by omega),if_neg (by omega),if_neg (by omega),if_pos c]at h;simpa using h
 ·rw [if_neg (by omega),if_neg (by omega),if_neg (by omega),if_neg (by omega),if_neg (by omega)]at h
  simp only [decide_eq_true_eq]at h
  exact h.1
end
mutual
def mentB(s:ByteArray):Ex→Bool
 | .mk op _ _ _ nm l=>(decide (op=2)&&decide (nm=s)) || mentsB s l
def mentsB(s:ByteArray):List Ex→Bool
 | []=>false
 |e::r=>mentB s e || mentsB s r
end
def mopF(op:Int):Int:=if op=4 then 6 else if op=5 then 7 else if op=6 then 8 else if op=19 then 19 else if op=20 then 20 else op+2
theorem opF_mopF{op:Int}(h:(4≤op∧op≤16)∨op=19∨op=20):opF (mopF op)=op∧6≤mopF op∧mopF op≤20:=by
 unfold opF mopF
 (repeat' split)<;>omega
def inpK(s:ByteArray):Option Nat:=inpN.findIdx? fun p=>decide (p.1=s)
def slK(sl:List ByteArray)(s:ByteArray):Nat:=(sl.findIdx? fun x=>decide (x=s)).getD 0
def nameI(κ:ByteArray→Nat)(s:ByteArray):Ins:=match inpK s with|some k=>⟨2,k,0,0⟩|none=>⟨3,κ s,0,0⟩
def seqC:List (Nat→List Ins)→Nat→List Ins
 | [],_=>[]
 |f::r,i=>f i++seqC r (i+(f i).length)
def brC(A B C:Nat→List Ins)(i:Nat):List Ins:=
 A i++⟨22,((i+(A i).length+1+(B (i+(A i).length+1)).length+1:Nat):Int),0,0⟩::(B (i+(A i).length+1)++
  ⟨21,((i+(A i).length+1+(B (i+(A i).length+1)).length+1+(C (i+(A i).length+1+(B (i+(A i).length+1)).length+1)).length:Nat):Int),0,0⟩::C (i+(A i).length+1+(B (i+(A i).length+1)).length+1))
def codeNode(κ:ByteArray→Nat)(op n d m:Int)(s:ByteArray)(fs:List (Nat→List Ins))(i:Nat):List Ins:=
 if op=1 then [⟨1,m,n,d⟩]else if op=2 then [nameI κ s]else if op=3 then [⟨5,n,0,0⟩]
 else if op=17 then brC (fs.getD 0 fun _=>[]) (fs.getD 1 fun _=>[]) (fun _=>[⟨24,0,0,0⟩]) i
 else if op=18 then brC (fs.getD 0 fun _=>[]) (fun _=>[⟨23,0,0,0⟩]) (fs.getD 1 fun _=>[]) i
 else if op=21 then brC (fs.getD 0 fun _=>[]) (fs.getD 1 fun _=>[]) (fs.getD 2 fun _=>[]) i
 else seqC fs i++[⟨mopF op,0,0,0⟩]
mutual
def codeF(κ:ByteArray→Nat):Ex→Nat→List Ins
 | .mk op n d m s l=>codeNode κ op n d m s (codesF κ l)
def codesF(κ:ByteArray→Nat):List Ex→List (Nat→List Ins)
 | []=>[]
 |e::r=>codeF κ e::codesF κ r
end
def Lies(l:List Ins)(i:Nat)(c:List Ins):Prop:=i+c.length≤l.length∧∀k,k<c.length→l.getD (i+k) default=c.getD k default
theorem Lies.left{l:List Ins}{i:Nat}{a b:List Ins}(h:Lies l i (a++b)):Lies l i a:=by
 obtain⟨h1,h2⟩:=h
 rw [List.length_append]at h1
 refine⟨by omega,fun k hk=>?_⟩
 rw [h2 k (by rw [List.length_append];omega)]
 simp [List.getD_eq_getElem?_getD,List.getElem?_append_left hk]
theorem Lies.right{l:List Ins}{i:Nat}{a b:List Ins}(h:Lies l i (a++b)):Lies l (i+a.length) b:=by
 obtain⟨h1,h2⟩:=h
 rw [List.length_append]at h1
 refine⟨by omega,fun k hk=>?_⟩
 have:=h2 (a.length+k) (by rw [List.length_append];omega)
 rw [Nat.add_assoc,this]
 simp [List.getD_eq_getElem?_getD,List.getElem?_append_right (Nat.le_add_right a.length k)]
theorem Lies.head{l:List Ins}{i:Nat}{x:Ins}{b:List Ins}(h:Lies l i (x::b)):i<l.length∧l.getD i default=x∧Lies l (i+1) b:=by
 have hl:=Lies.left (a:=[x]) (b:=b) h
 have hr:=Lies.right (a:=[x]) (b:=b) h
 obtain⟨h1,h2⟩:=hl
 have:=h2 0 (by simp)
 exact⟨by simp at h1;omega,this,hr⟩
section
variable (l : List Ins) (sl : List ByteArray) (v : Vw) (slots : List Val) (st : List (ByteArray × Val))
def To(i:Nat)(stk:List Val)(j:Nat)(stk':List Val):Prop:=∀f,l.length≤f+i→∃g,l.length≤g+j∧runF l sl v f i stk slots st=runF l sl v g j stk' slots st
def Errs(i:Nat)(stk:List Val)(c:Int):Prop:=∀f,l.length≤f+i→runF l sl v f i stk slots st=([],c)
def Gives(i:Nat)(stk:List Val)(j:Nat)(r:Val × Int):Prop:=if r.2=0 then To l sl v slots st i stk j (stk++[r.1])else Errs l sl v slots st i stk r.2
variable {l sl v slots st} {i j k : Nat} {stk s1 s2 : List Val} {c : Int}
theorem To.refl:To l sl v slots st i stk i stk:=fun f hf=>⟨f,hf,rfl⟩
theorem To.trans(h:To l sl v slots st i stk j s1)(g:To l sl v slots st j s1 k s2):To l sl v slots st i stk k s2:=fun f hf=>by
 obtain⟨f1,h1,e1⟩:=h f hf
 obtain⟨f2,h2,e2⟩:=g f1 h1
 exact⟨f2,h2,e1.trans e2⟩
theorem To.one{n:Nat}{s':List Val}(hi:i<l.length)(hn:i<n)(h:∀f,runF l sl v (f+1) i stk slots st=runF l sl v f n s' slots st):To l sl v slots st i stk n s':=fun f hf=>by
 cases f with
 |zero=>omega
 |succ f=>exact⟨f,by omega,h f⟩
theorem Errs.one(hi:i<l.length)(h:∀f,runF l sl v (f+1) i stk slots st=([],c)):Errs l sl v slots st i stk c:=fun f hf=>by
 cases f with
 |zero=>omega
 |succ f=>exact h f
end
theorem codeF_eq(κ:ByteArray→Nat)(e:Ex):codeF κ e=codeNode κ e.op e.num e.den e.dim e.name (codesF κ e.args):=by cases e;rw [codeF];rfl
theorem inpK_some{s:ByteArray}{k:Nat}(h:inpK s=some k):k<11∧inpNm k=s:=by
 unfold inpK at h
 obtain⟨h1,h2,-⟩:=List.findIdx?_eq_some_iff_getElem.1 h
 have hl:inpN.length=11:=rfl
 refine⟨by omega, ?_⟩
 have h3:(inpN[k]).1=s:=by simpa using h2
 unfold inpNm
 rw [List.getD_eq_getElem?_getD,List.getElem?_eq_getElem h1]
 exact h3
theorem inpK_none{s:ByteArray}(h:inpK s=none):inpD s.toList=0:=by
 have hne:∀p∈inpN,p.1≠s:=fun p hp=>by
  have:=List.findIdx?_eq_none_iff.1 h p hp
  simpa using this
 have back:∀t:List UInt8,s.toList=t→s=⟨t.toArray⟩:=fun t ht=>by
  apply ByteArray.ext
  rw [←ht,ByteArray.toList_eq]
 unfold inpD
 (repeat' split)<;>first
  |rfl
  |(exfalso
    rename_i hs
    rcases hs with hs|hs|hs|hs|hs|hs|hs<;>(obtain rfl:=back _ hs;exact absurd h (by decide+kernel)))
  |(exfalso
    rename_i hs
    rcases hs with hs|hs|hs<;>(obtain rfl:=back _ hs;exact absurd h (by decide+kernel)))
  |(exfalso
    rename_i hs
    obtain rfl:=back _ hs
    exact absurd h (by decide+kernel))
theorem formeds_all:∀{l:List Ex},formedsB l=true→∀a∈l,formedB a=true
 |e::r,h,a,ha=>by
  rw [formedsB,Bool.and_eq_true]at h
  rcases List.mem_cons.1 ha with rfl|ha
  ·exact h.1
  ·exact formeds_all h.2 a ha
theorem ments_of{s:ByteArray}:∀{l:List Ex} {a:Ex},a∈l→mentB s a=true→mentsB s l=true
 |e::r,a,ha,h=>by
  rw [mentsB,Bool.or_eq_true]
  rcases List.mem_cons.1 ha with rfl|ha
  ·exact .inl h
  ·exact .inr (ments_of ha h)
theorem infers_parts{env:List (ByteArray × Int)}:∀{l:List Ex},(infersF env l).2=0→(infersF env l).1=l.map (fun e=>(inferF env e).1)∧∀a∈l,(inferF env a).2=0
 | [],_=>⟨rfl,fun a ha=>by cases ha⟩
 |e::r,h=>by
  rw [infersF]at h ⊢
  split at h<;>rename_i c1
  ·exact absurd h c1
  split at h<;>rename_i c2
  ·exact absurd h c2
  rw [if_neg c1,if_neg c2]
  obtain⟨h1,h2⟩:=infers_parts (env:=env) (l:=r) (by omega)
  refine⟨by simp [h1],fun a ha=>?_⟩
  rcases List.mem_cons.1 ha with rfl|ha
  ·omega
  ·exact h2 a ha
section
variable {v : Vw} {env : List (ByteArray × Val)} {κ : ByteArray → Nat} {sl : List ByteArray} {slots : List Val}
end
end Go.Proofs.YtaghhncnicbedaaGreatDoor
