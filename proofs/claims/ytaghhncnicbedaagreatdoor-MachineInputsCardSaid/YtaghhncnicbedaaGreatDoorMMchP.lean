import Derived.Test.YtaghhncnicbedaaGreatDoorBEvP
import Derived.Test.YtaghhncnicbedaaGreatDoorMK
set_option linter.all false
set_option maxHeartbeats 16000000
set_option maxRecDepth 1000000
namespace Go.Proofs.YtaghhncnicbedaaGreatDoor
structure Ins where
 op:Int
 a:Int
 n:Int
 d:Int
instance:Inhabited Ins:=⟨⟨0,0,0,0⟩⟩
def opF(op:Int):Int:=if op=6 then 4 else if op=7 then 5 else if op=8 then 6 else if 9≤op∧op≤18 then op-2 else if op=19 then 19 else if op=20 then 20 else 0
def ariF(op:Int):Nat:=if op=4∨op=5∨op=6 then 1 else 2
def inDs:List Int:=[2,2,2,3,3,3,3,3,3,3,4]
def wfF(m n i:Nat)(x:Ins):Bool:=
 if x.op=1 then decide (x.a=2∨x.a=3∨x.a=4)&&vfrac x.n x.d
 else if ¬(x.n=0∧x.d=0)then false
 else if x.op=2 then decide (0≤x.a∧x.a<11)
 else if x.op=3∨x.op=4 then decide (0≤x.a∧x.a<m)
 else if x.op=5 then decide (1≤x.a∧x.a≤45)
 else if x.op=21∨x.op=22 then decide ((i:Int)<x.a∧x.a≤n)
 else if x.op=23∨x.op=24 then decide (x.a=0)
 else decide (opF x.op≠0∧x.a=0)
def setsF(l:List Ins):List Nat:=(l.filter fun x=>decide (x.op=4)).map fun x=>x.a.toNat
def wordsF(sl:List ByteArray):Bool:=decide (sl.length≤12)&&sl.all isWord&&decide sl.Nodup
def formF(l:List Ins)(sl:List ByteArray):Bool:=
 decide (l.length≤4000)&&(List.range l.length).all (fun i=>wfF sl.length l.length i (l.getD i default))&&(wordsF sl&&decide (setsF l).Nodup)

section
variable (S : List (Option (List Int × List Bool))) (T : List (Option (List Int × List Int)))
def appA(x:Ins)(s:List Int × List Bool)(dims:List Int):Option ((List Int × List Bool) × List Int):=
 if x.op=1 then some ((s.1++[x.a],s.2),dims)
 else if x.op=2 then some ((s.1++[inDs.getD x.a.toNat 0],s.2),dims)
 else if x.op=5 then some ((s.1++[4],s.2),dims)
 else if x.op=23∨x.op=24 then some ((s.1++[1],s.2),dims)
 else if x.op=3 then(if s.2.getD x.a.toNat false=true then some ((s.1++[dims.getD x.a.toNat 0],s.2),dims)else none)
 else if x.op=4 then(if s.1= []then none else some ((s.1.dropLast,s.2.set x.a.toNat true),dims.set x.a.toNat (s.1.getLastD 0)))
 else if x.op=22 then(if s.1= []∨s.1.getLastD 0≠1 then none else some ((s.1.dropLast,s.2),dims))
 else if x.op=21 then some (s,dims)
 else if s.1.length<ariF (opF x.op)then none
 else if resD (opF x.op) (s.1.drop (s.1.length-ariF (opF x.op)))=0 then none
 else some ((s.1.take (s.1.length-ariF (opF x.op))++[resD (opF x.op) (s.1.drop (s.1.length-ariF (opF x.op)))],s.2),dims)
def putA(k:Nat)(s:List Int × List Bool):Option (List (Option (List Int × List Bool))):=
 match S.getD k none with
 |none=>some (S.set k (some s))
 |some t=>if t.1=s.1 then some (S.set k (some (t.1,List.zipWith (· && ·) t.2 s.2)))else none
def rndA(x:Ins)(i:Nat)(dims:List Int)(dep:Nat):Option (List (Option (List Int × List Bool)) × List Int × Nat):=
 match S.getD i none with
 |none=>none
 |some s=>match appA x s dims with
  |none=>none
  |some (s',dims')=>
   if 24<s'.1.length then none
   else match (if x.op=21 then some S else putA S (i+1) s')with
   |none=>none
   |some S1=>match (if x.op=21∨x.op=22 then putA S1 x.a.toNat s' else some S1)with
    |none=>none
    |some S2=>some (S2,dims',max dep s'.1.length)
def goA:List Ins→Nat→List (Option (List Int × List Bool))→List Int→Nat→Int × Int
 | [],i,S,_,dep=>match S.getD i none with
   |none=>((dep:Int),0)
   |some s=>if s.1= []then((dep:Int),0)else(0,8)
 |x::r,i,S,dims,dep=>match rndA S x i dims dep with
  |none=>(0,8)
  |some (S',dims',dep')=>goA r (i+1) S' dims' dep'
def verA(l:List Ins)(sl:List ByteArray):Int × Int:=
 if formF l sl=true then goA l 0 (some ([],List.replicate 12 false)::List.replicate l.length none) (List.replicate 12 0) 0 else(0,8)

def appB(x:Ins)(s:List Int × List Int):Option (List Int × List Int):=
 if x.op=1 then some (s.1++[x.a],s.2)
 else if x.op=2 then some (s.1++[inDs.getD x.a.toNat 0],s.2)
 else if x.op=5 then some (s.1++[4],s.2)
 else if x.op=23∨x.op=24 then some (s.1++[1],s.2)
 else if x.op=3 then(if s.2.getD x.a.toNat 0=0 then none else some (s.1++[s.2.getD x.a.toNat 0],s.2))
 else if x.op=4 then(if s.1= []then none else some (s.1.dropLast,s.2.set x.a.toNat (s.1.getLastD 0)))
 else if x.op=22 then(if s.1= []∨s.1.getLastD 0≠1 then none else some (s.1.dropLast,s.2))
 else if x.op=21 then some s
 else if s.1.length<ariF (opF x.op)then none
 else if resD (opF x.op) (s.1.drop (s.1.length-ariF (opF x.op)))=0 then none
 else some (s.1.take (s.1.length-ariF (opF x.op))++[resD (opF x.op) (s.1.drop (s.1.length-ariF (opF x.op)))],s.2)
def putB(k:Nat)(s:List Int × List Int):Option (List (Option (List Int × List Int))):=
 match T.getD k none with
 |none=>some (T.set k (some s))
 |some t=>if t.1=s.1 then some (T.set k (some (t.1,List.zipWith (fun a b=>if b=0 then 0 else a) t.2 s.2)))else none
def rndB(x:Ins)(i:Nat):Option (List (Option (List Int × List Int))):=
 match T.getD i none with
 |none=>none
 |some s=>match appB x s with
  |none=>none
  |some s'=>
   if x.op=21 then putB T x.a.toNat s'
   else match (if x.op=22 then putB T x.a.toNat s' else some T)with
   |none=>none
   |some T1=>if 24<s'.1.length then none else putB T1 (i+1) s'
def goB:List Ins→Nat→List (Option (List Int × List Int))→Nat→Int × Int
 | [],i,T,dep=>match T.getD i none with
   |none=>(0,8)
   |some s=>if s.1= []then((dep:Int),0)else(0,8)
 |x::r,i,T,dep=>match T.getD i none with
  |none=>(0,8)
  |some s=>match rndB T x i with
   |none=>(0,8)
   |some T'=>goB r (i+1) T' (max dep s.1.length)
def verB(l:List Ins)(sl:List ByteArray):Int × Int:=
 if formF l sl=true then goB l 0 (some ([],List.replicate sl.length 0)::List.replicate l.length none) 0 else(0,8)
end

theorem getD_setI{α:Type}(l:List α)(k j:Nat)(a d:α):(l.set k a).getD j d=if k=j∧j<l.length then a else l.getD j d:=by
 simp only [List.getD_eq_getElem?_getD,List.getElem?_set]
 by_cases h:k=j
 ·subst h
  by_cases h2:k<l.length
  ·simp [h2]
  ·simp [h2,List.getElem?_eq_none (Nat.le_of_not_lt h2)]
 ·simp [h]
theorem getD_zip{α β γ:Type}(f:α→β→γ)(a:List α)(b:List β)(k:Nat)(x:α)(y:β)(z:γ)(h1:k<a.length)(h2:k<b.length):(List.zipWith f a b).getD k z=f (a.getD k x) (b.getD k y):=by
 simp [List.getD_eq_getElem?_getD,List.getElem?_zipWith,List.getElem?_eq_getElem h1,List.getElem?_eq_getElem h2]
theorem zip_true{a b:List Bool}{k:Nat}(h:(List.zipWith (· && ·) a b).getD k false=true):a.getD k false=true∧b.getD k false=true:=by
 have hl:k<(List.zipWith (· && ·) a b).length:=by
  apply Nat.lt_of_not_le;intro hc
  rw [List.getD_eq_getElem?_getD,List.getElem?_eq_none hc]at h;cases h
 rw [List.length_zipWith]at hl
 rw [getD_zip _ a b k false false false (by omega) (by omega)]at h
 simpa using h
structure Agr(m:Nat)(D:Nat→Bool)(dims:List Int)(s:List Int × List Bool)(t:List Int × List Int):Prop where
 stk:t.1=s.1
 l1:s.2.length=12
 l2:t.2.length=m
 slot:∀k,k<m→t.2.getD k 0=if s.2.getD k false=true then dims.getD k 0 else 0
 pos:∀z∈s.1,1≤z
 dpos:∀k,k<m→s.2.getD k false=true→1≤dims.getD k 0
 done:∀k,s.2.getD k false=true→D k=true
def AgrO(m:Nat)(D:Nat→Bool)(dims:List Int):Option (List Int × List Bool)→Option (List Int × List Int)→Prop
 |none,none=>True
 |some s,some t=>Agr m D dims s t∧s.1.length≤24
 |_,_=>False
def AgrL(m:Nat)(D:Nat→Bool)(dims:List Int)(S:List (Option (List Int × List Bool)))(T:List (Option (List Int × List Int))):Prop:=
 S.length=T.length∧∀k,AgrO m D dims (S.getD k none) (T.getD k none)
section
variable {m : Nat} {D D' : Nat → Bool} {dims : List Int} {S S' : List (Option (List Int × List Bool))} {T : List (Option (List Int × List Int))} {x : Ins} {s s' : List Int × List Bool} {t : List Int × List Int}
theorem AgrL.both(h:AgrL m D dims S T)(i:Nat):(S.getD i none=none∧T.getD i none=none)∨∃s t,S.getD i none=some s∧T.getD i none=some t∧Agr m D dims s t∧s.1.length≤24:=by
 have:=h.2 i
 cases hs:S.getD i none<;>cases ht:T.getD i none<;>rw [hs,ht]at this
 ·exact .inl ⟨rfl,rfl⟩
 ·exact this.elim
 ·exact this.elim
 ·exact .inr ⟨_,_,rfl,rfl,this⟩
theorem Agr.mono{a:Nat}{z:Int}(h:Agr m D dims s t)(hD:∀k,D k=true→D' k=true)(ha:D a=false):Agr m D' (dims.set a z) s t:=by
 have hne:∀k,s.2.getD k false=true→a≠k:=fun k hk e=>by
  subst e;rw [h.done a hk]at ha;cases ha
 refine⟨h.stk,h.l1,h.l2,fun k hk=>?_,h.pos,fun k hk hb=>?_,fun k hb=>hD k (h.done k hb)⟩
 ·rw [h.slot k hk]
  split
  ·rename_i hb
   rw [getD_setI,if_neg (fun e=>hne k hb e.1)]
  ·rfl
 ·rw [getD_setI,if_neg (fun e=>hne k hb e.1)]
  exact h.dpos k hk hb
theorem AgrO.imp{D':Nat→Bool}{dims':List Int}{a:Option (List Int × List Bool)}{b:Option (List Int × List Int)}(h:AgrO m D dims a b)(hi:∀s t,Agr m D dims s t→Agr m D' dims' s t):AgrO m D' dims' a b:=by
 cases a<;>cases b<;>first|exact h|exact⟨hi _ _ h.1,h.2⟩
theorem Agr.push(h:Agr m D dims s t){z:Int}(hz:1≤z):Agr m D dims (s.1++[z],s.2) (t.1++[z],t.2):=
 ⟨by rw [h.stk],h.l1,h.l2,h.slot,fun y hy=>by rcases List.mem_append.1 hy with hy|hy;· exact h.pos y hy
                                              ·obtain rfl:y=z:=by simpa using hy
                                               exact hz,h.dpos,h.done⟩
theorem Agr.stack(h:Agr m D dims s t){l:List Int}(hl:∀z∈l,1≤z):Agr m D dims (l,s.2) (l,t.2):=⟨rfl,h.l1,h.l2,h.slot,hl,h.dpos,h.done⟩
theorem last_mem{l:List Int}(h:l≠[]):l.getLastD 0∈l:=by
 exact mz14
theorem resD_pos{op:Int}{d:List Int}(hd:∀z∈d,1≤z)(h:resD op d≠0):1≤resD op d:=by
 have h0:∀k,0≤d.getD k 0:=fun k=>by
  exact mz10
 have a0:=h0 0;have b0:=h0 1;have c0:=h0 2
 revert h
 unfold resD
 dsimp only
 generalize d.getD 0 0=a at *
 generalize d.getD 1 0=b at *
 generalize d.getD 2 0=c at *
 intro h
 repeat' split at h
 all_goals omega
theorem putA_keep{k:Nat}(h:putA S k s=some S'):S'.length=S.length∧(∀j u,S.getD j none=some u→∃v,S'.getD j none=some v∧v.1=u.1)∧(k<S.length→∃v,S'.getD k none=some v∧v.1=s.1)∧
 ∀j v,S'.getD j none=some v→v.1=s.1∨∃u,S.getD j none=some u∧u.1=v.1:=by
 unfold putA at h
 cases hk:S.getD k none with
 |none=>
  rw [hk]at h
  obtain rfl:=Option.some.inj h
  refine⟨List.length_set ..,fun j u hu=>?_,fun hl=>?_,fun j v hv=>?_⟩
  ·by_cases e:k=j
   ·subst e;rw [hk]at hu;cases hu
   ·rw [getD_setI,if_neg (fun c=>e c.1)];exact⟨u,hu,rfl⟩
  ·rw [getD_setI,if_pos ⟨rfl,hl⟩];exact⟨s,rfl,rfl⟩
  ·rw [getD_setI]at hv
   split at hv
   ·obtain rfl:=Option.some.inj hv;exact .inl rfl
   ·exact .inr ⟨v,hv,rfl⟩
 |some t=>
  rw [hk]at h
  by_cases e:t.1=s.1
  ·simp only [if_pos e]at h
   obtain rfl:=Option.some.inj h
   refine⟨List.length_set ..,fun j u hu=>?_,fun hl=>?_,fun j v hv=>?_⟩
   ·rw [getD_setI]
    split
    ·rename_i c
     obtain rfl:=c.1
     rw [hk]at hu
     obtain rfl:=Option.some.inj hu
     exact⟨_,rfl,rfl⟩
    ·exact⟨u,hu,rfl⟩
   ·rw [getD_setI,if_pos ⟨rfl,hl⟩];exact⟨_,rfl,e⟩
   ·rw [getD_setI]at hv
    split at hv
    ·obtain rfl:=Option.some.inj hv;exact .inl e
    ·exact .inr ⟨v,hv,rfl⟩
  ·simp only [if_neg e]at h;cases h
end
section
variable {m : Nat} {D D' : Nat → Bool} {dims : List Int} {S : List (Option (List Int × List Bool))} {T : List (Option (List Int × List Int))} {x : Ins}
end
theorem setsF_cons(x:Ins)(r:List Ins):setsF (x::r)=if x.op=4 then x.a.toNat::setsF r else setsF r:=by
 unfold setsF
 rw [List.filter_cons]
 by_cases h:x.op=4<;>simp [h]
def noM:ByteArray:=⟨#[]⟩
def aNm:ByteArray:=⟨#[97]⟩
def bNm:ByteArray:=⟨#[98]⟩
def nm2(s:ByteArray):Ex:=.mk 2 0 0 0 s []
def op1E(op:Int):Ex:=.mk op 0 0 0 noM [nm2 aNm]
def op2E(op:Int):Ex:=.mk op 0 0 0 noM [nm2 aNm,nm2 bNm]
theorem inf_a(d:Int):inferF [(aNm,d)] (nm2 aNm)=(d,0):=by
 have h:inpD aNm.toList=0:=by decide+kernel
 exact mz11
theorem inf_ab1(d e:Int):inferF [(aNm,d),(bNm,e)] (nm2 aNm)=(d,0):=by
 have h:inpD aNm.toList=0:=by decide+kernel
 have hne:¬bNm=aNm:=by decide
 rw [nm2,inferF,infNode,if_neg (by decide),if_neg (by decide),if_pos rfl,inferN,if_neg (by rw [h];simp)]
 simp [lastN,hne]
theorem inf_ab2(d e:Int):inferF [(aNm,d),(bNm,e)] (nm2 bNm)=(e,0):=by
 have h:inpD bNm.toList=0:=by decide+kernel
 exact mz11
theorem oper_inf1{op d:Int}(ho:op=4∨op=5∨op=6)(hd:1≤d∧d≤4):inferE [(aNm,d)] (op1E op)=if resD op [d]=0 then(0,6)else(resD op [d],0):=by
 have hv:validB (op1E op)=true:=by rcases ho with rfl|rfl|rfl<;>decide+kernel
 have hdm:dimsOk [(aNm,d)]=true:=by simp [dimsOk,hd]
 unfold inferE
 rw [if_pos ⟨hv,hdm⟩,op1E,inferF,infNode,if_neg (by omega),if_neg (by omega),if_neg (by omega),infersF,inf_a,infersF]
 simp
theorem oper_inf2{op d e:Int}(ho:7≤op∧op≤20)(hd:1≤d∧d≤4)(he:1≤e∧e≤4):inferE [(aNm,d),(bNm,e)] (op2E op)=if resD op [d,e]=0 then(0,6)else(resD op [d,e],0):=by
 have hv:validB (op2E op)=true:=by
  rcases(by omega:op=7∨op=8∨op=9∨op=10∨op=11∨op=12∨op=13∨op=14∨op=15∨op=16∨op=17∨op=18∨op=19∨op=20)with rfl|rfl|rfl|rfl|rfl|rfl|rfl|rfl|rfl|rfl|rfl|rfl|rfl|rfl<;>decide+kernel
 have hdm:dimsOk [(aNm,d),(bNm,e)]=true:=by simp [dimsOk,hd,he]
 unfold inferE
 rw [if_pos ⟨hv,hdm⟩,op2E,inferF,infNode,if_neg (by omega),if_neg (by omega),if_neg (by omega),infersF,inf_ab1,infersF,inf_ab2,infersF]
 simp
structure RngS(s:List Int × List Bool)(dims:List Int):Prop where
 stk:∀z∈s.1,1≤z∧z≤4
 set:∀k,s.2.getD k false=true→1≤dims.getD k 0
 len:s.2.length=12
def RngD(dims:List Int):Prop:=dims.length=12∧∀k,0≤dims.getD k 0∧dims.getD k 0≤4
theorem last_rng{l:List Int}(h:∀z∈l,1≤z∧z≤4)(hne:l≠[]):1≤l.getLastD 0∧l.getLastD 0≤4:=h _ (last_mem hne)
theorem inDs_rng{k:Nat}(h:k<11):1≤inDs.getD k 0∧inDs.getD k 0≤4:=by
 have key:∀k,k<11→(1:Int)≤inDs.getD k 0∧inDs.getD k 0≤4:=by decide
 exact key k h
theorem resD_rng{op:Int}{d:List Int}(hd:∀z∈d,1≤z∧z≤4)(h:resD op d≠0):1≤resD op d∧resD op d≤4:=by
 have h0:∀k,0≤d.getD k 0∧d.getD k 0≤4:=fun k=>by
  exact mz10
 have a0:=h0 0;have b0:=h0 1;have c0:=h0 2
 have hp:=resD_pos (fun z hz=>(hd z hz).1) h
 refine⟨hp, ?_⟩
 revert hp
 clear h
 unfold resD
 dsimp only
 generalize d.getD 0 0=a at *
 generalize d.getD 1 0=b at *
 generalize d.getD 2 0=c at *
 intro h
 repeat' split at h
 all_goals(repeat' split)<;>omega
theorem RngS.push{s:List Int × List Bool}{dims:List Int}(h:RngS s dims){z:Int}(hz:1≤z∧z≤4):RngS (s.1++[z],s.2) dims:=
 ⟨fun y hy=>by
  rcases List.mem_append.1 hy with hy|hy
  ·exact h.stk y hy
  ·obtain rfl:=List.mem_singleton.1 hy;exact hz,h.set,h.len⟩
theorem RngS.sub{s:List Int × List Bool}{dims:List Int}(h:RngS s dims){l:List Int}(hl:∀z∈l,z∈s.1):RngS (l,s.2) dims:=⟨fun y hy=>h.stk y (hl y hy),h.set,h.len⟩
theorem appA_rng{m n i:Nat}{x:Ins}{s s':List Int × List Bool}{dims dims':List Int}(hx:wfF m n i x=true)(hm:m≤12)(hs:RngS s dims)(hd:RngD dims)(h:appA x s dims=some (s',dims')) :
 RngS s' dims'∧RngD dims'∧∀k,1≤dims.getD k 0→1≤dims'.getD k 0:=by
 unfold wfF at hx
 unfold appA at h
 by_cases h1:x.op=1
 ·rw [if_pos h1]at hx h
  obtain⟨rfl,rfl⟩:=Prod.mk.inj (Option.some.inj h)
  exact⟨hs.push (by simp at hx;omega),hd,fun _ h=>h⟩
 rw [if_neg h1]at hx h
 by_cases hz:¬(x.n=0∧x.d=0)
 ·rw [if_pos hz]at hx;cases hx
 rw [if_neg hz]at hx
 by_cases h2:x.op=2
 ·rw [if_pos h2]at hx h
  obtain⟨rfl,rfl⟩:=Prod.mk.inj (Option.some.inj h)
  exact⟨hs.push (inDs_rng (by simp at hx;omega)),hd,fun _ h=>h⟩
 rw [if_neg h2]at hx h
 by_cases h5:x.op=5
 ·rw [if_pos h5]at h
  obtain⟨rfl,rfl⟩:=Prod.mk.inj (Option.some.inj h)
  exact⟨hs.push (by omega),hd,fun _ h=>h⟩
 rw [if_neg h5]at h
 by_cases h23:x.op=23∨x.op=24
 ·rw [if_pos h23]at h
  obtain⟨rfl,rfl⟩:=Prod.mk.inj (Option.some.inj h)
  exact⟨hs.push (by omega),hd,fun _ h=>h⟩
 rw [if_neg h23]at h
 by_cases h3:x.op=3
 ·rw [if_pos h3]at h
  by_cases hb:s.2.getD x.a.toNat false=true
  ·rw [if_pos hb]at h
   obtain⟨rfl,rfl⟩:=Prod.mk.inj (Option.some.inj h)
   exact⟨hs.push ⟨hs.set _ hb,(hd.2 _).2⟩,hd,fun _ h=>h⟩
  ·rw [if_neg hb]at h;cases h
 rw [if_neg h3]at h
 by_cases h4:x.op=4
 ·rw [if_pos h4]at h
  rw [if_pos (.inr h4)]at hx
  have ha:x.a.toNat<12:=by simp at hx;omega
  by_cases he:s.1= []
  ·rw [if_pos he]at h;cases h
  rw [if_neg he]at h
  obtain⟨rfl,rfl⟩:=Prod.mk.inj (Option.some.inj h)
  have hl:=last_rng hs.stk he
  have hD:RngD (dims.set x.a.toNat (s.1.getLastD 0)):=⟨by rw [List.length_set];exact hd.1,fun k=>by
   rw [getD_setI]
   split
   ·omega
   ·exact hd.2 k⟩
  refine⟨⟨fun z hz=>hs.stk z (List.dropLast_subset _ hz),fun k hk=>?_,by rw [List.length_set];exact hs.len⟩,hD,fun k hk=>?_⟩
  ·rw [getD_setI]at hk ⊢
   by_cases e:x.a.toNat=k
   ·rw [if_pos ⟨e,by rw [hd.1];omega⟩];exact hl.1
   ·rw [if_neg (fun c=>e c.1)]at hk ⊢
    exact hs.set k hk
  ·rw [getD_setI]
   split
   ·exact hl.1
   ·exact hk
 rw [if_neg h4]at h
 by_cases h22:x.op=22
 ·rw [if_pos h22]at h
  by_cases he:s.1= []∨s.1.getLastD 0≠1
  ·rw [if_pos he]at h;cases h
  rw [if_neg he]at h
  obtain⟨rfl,rfl⟩:=Prod.mk.inj (Option.some.inj h)
  exact⟨hs.sub fun z hz=>List.dropLast_subset _ hz,hd,fun _ h=>h⟩
 rw [if_neg h22]at h
 by_cases h21:x.op=21
 ·rw [if_pos h21]at h
  obtain⟨rfl,rfl⟩:=Prod.mk.inj (Option.some.inj h)
  exact⟨hs,hd,fun _ h=>h⟩
 rw [if_neg h21]at h
 by_cases hl:s.1.length<ariF (opF x.op)
 ·rw [if_pos hl]at h;cases h
 rw [if_neg hl]at h
 by_cases hr:resD (opF x.op) (s.1.drop (s.1.length-ariF (opF x.op)))=0
 ·rw [if_pos hr]at h;cases h
 rw [if_neg hr]at h
 obtain⟨rfl,rfl⟩:=Prod.mk.inj (Option.some.inj h)
 have hp:=resD_rng (fun z hz=>hs.stk z (List.mem_of_mem_drop hz)) hr
 exact⟨(hs.sub (l:=s.1.take (s.1.length-ariF (opF x.op))) fun z hz=>List.mem_of_mem_take hz).push hp,hd,fun _ h=>h⟩
def SubS(s:List Int × List Bool):Option (List Int × List Bool)→Prop
 |none=>False
 |some t=>t.1=s.1∧∀k,t.2.getD k false=true→s.2.getD k false=true
structure Cert(l:List Ins)(m:Nat)(F:List (Option (List Int × List Bool)))(D:List Int):Prop where
 wf:∀i,i<l.length→wfF m l.length i (l.getD i default)=true
 m12:m≤12
 dlen:D.length=12
 zero:∃s,F.getD 0 none=some s∧s.1= []∧∀k,s.2.getD k false=false
 step:∀i,i<l.length→∃s s',F.getD i none=some s∧appA (l.getD i default) s D=some (s',D)∧s'.1.length≤24∧
  ((l.getD i default).op≠21→SubS s' (F.getD (i+1) none))∧((l.getD i default).op=21∨(l.getD i default).op=22→SubS s' (F.getD (l.getD i default).a.toNat none))
 last:∀s,F.getD l.length none=some s→s.1= []
def DoneL(P:Nat→Bool)(S:List (Option (List Int × List Bool))):Prop:=∀j s,S.getD j none=some s→∀k,s.2.getD k false=true→P k=true
theorem SubS.refl{S:List (Option (List Int × List Bool))}{j:Nat}{s:List Int × List Bool}(h:S.getD j none=some s):SubS s (S.getD j none):=by
 rw [h];exact⟨rfl,fun _ h=>h⟩
theorem SubS.trans{s t:List Int × List Bool}{o:Option (List Int × List Bool)}(h:t.1=s.1∧∀k,t.2.getD k false=true→s.2.getD k false=true)(g:SubS t o):SubS s o:=by
 cases o with
 |none=>exact g
 |some u=>exact⟨g.1.trans h.1,fun k hk=>h.2 k (g.2 k hk)⟩
section
variable {S S' : List (Option (List Int × List Bool))} {s : List Int × List Bool}
theorem putA_sub{k:Nat}(h:putA S k s=some S'):(∀j,j≠k→S'.getD j none=S.getD j none)∧(∀j u,S.getD j none=some u→SubS u (S'.getD j none))∧(k<S.length→SubS s (S'.getD k none))∧
 ∀P:Nat→Bool,DoneL P S→(∀k,s.2.getD k false=true→P k=true)→DoneL P S':=by
 unfold putA at h
 cases hk:S.getD k none with
 |none=>
  rw [hk]at h
  obtain rfl:=Option.some.inj h
  refine⟨fun j hj=>by rw [getD_setI,if_neg (fun c=>hj c.1.symm)],fun j u hu=>?_,fun hl=>?_,fun P hP hs j u hu=>?_⟩
  ·by_cases e:k=j
   ·subst e;rw [hk]at hu;cases hu
   ·rw [getD_setI,if_neg (fun c=>e c.1)];exact .refl hu
  ·rw [getD_setI,if_pos ⟨rfl,hl⟩];exact⟨rfl,fun _ h=>h⟩
  ·rw [getD_setI]at hu
   split at hu
   ·obtain rfl:=Option.some.inj hu;exact hs
   ·exact hP j u hu
 |some t=>
  rw [hk]at h
  by_cases e:t.1=s.1
  ·simp only [if_pos e]at h
   obtain rfl:=Option.some.inj h
   refine⟨fun j hj=>by rw [getD_setI,if_neg (fun c=>hj c.1.symm)],fun j u hu=>?_,fun hl=>?_,fun P hP hs j u hu=>?_⟩
   ·rw [getD_setI]
    split
    ·rename_i c
     obtain rfl:=c.1
     rw [hk]at hu
     obtain rfl:=Option.some.inj hu
     exact⟨rfl,fun k hk=>(zip_true hk).1⟩
    ·exact .refl hu
   ·rw [getD_setI,if_pos ⟨rfl,hl⟩];exact⟨e,fun k hk=>(zip_true hk).2⟩
   ·rw [getD_setI]at hu
    split at hu
    ·obtain rfl:=Option.some.inj hu;exact fun k hk=>hs k (zip_true hk).2
    ·exact hP j u hu
  ·simp only [if_neg e]at h;cases h
end
theorem appA_end{m n i:Nat}{x:Ins}{s s':List Int × List Bool}{dims dims' D:List Int}{P:Nat→Bool}(hx:wfF m n i x=true)(hm:m≤12)(hdl:dims.length=12)(hDl:D.length=12)(h:appA x s dims=some (s',dims'))(hdone:∀k,s.2.getD k false=true→P k=true)
 (hD:∀k,(P k || (decide (x.op=4)&&decide (k=x.a.toNat)))=true→D.getD k 0=dims'.getD k 0) (hset:x.op=4→P x.a.toNat=false) :
 appA x s D=some (s',D)∧dims'.length=12∧(∀k,P k=true→dims'.getD k 0=dims.getD k 0)∧∀k,s'.2.getD k false=true→(P k || (decide (x.op=4)&&decide (k=x.a.toNat)))=true:=by
 have ha:x.op=4→x.a.toNat<12:=fun h4=>by
  unfold wfF at hx
  rw [if_neg (by omega)]at hx
  by_cases hz:¬(x.n=0∧x.d=0)
  ·rw [if_pos hz]at hx;cases hx
  rw [if_neg hz,if_neg (by omega),if_pos (.inr h4)]at hx
  simp at hx;omega
 have hor:∀k,s.2.getD k false=true→(P k || (decide (x.op=4)&&decide (k=x.a.toNat)))=true:=fun k hk=>by rw [hdone k hk];rfl
 unfold appA at h ⊢
 by_cases h1:x.op=1
 ·simp only [if_pos h1]at h ⊢
  obtain⟨rfl,rfl⟩:=Prod.mk.inj (Option.some.inj h)
  exact⟨rfl,hdl,fun _ _=>rfl,hor⟩
 simp only [if_neg h1]at h ⊢
 by_cases h2:x.op=2
 ·simp only [if_pos h2]at h ⊢
  obtain⟨rfl,rfl⟩:=Prod.mk.inj (Option.some.inj h)
  exact⟨rfl,hdl,fun _ _=>rfl,hor⟩
 simp only [if_neg h2]at h ⊢
 by_cases h5:x.op=5
 ·simp only [if_pos h5]at h ⊢
  obtain⟨rfl,rfl⟩:=Prod.mk.inj (Option.some.inj h)
  exact⟨rfl,hdl,fun _ _=>rfl,hor⟩
 simp only [if_neg h5]at h ⊢
 by_cases h23:x.op=23∨x.op=24
 ·simp only [if_pos h23]at h ⊢
  obtain⟨rfl,rfl⟩:=Prod.mk.inj (Option.some.inj h)
  exact⟨rfl,hdl,fun _ _=>rfl,hor⟩
 simp only [if_neg h23]at h ⊢
 by_cases h3:x.op=3
 ·simp only [if_pos h3]at h ⊢
  by_cases hb:s.2.getD x.a.toNat false=true
  ·rw [if_pos hb]at h ⊢
   obtain⟨rfl,rfl⟩:=Prod.mk.inj (Option.some.inj h)
   rw [hD _ (hor _ hb)]
   exact⟨rfl,hdl,fun _ _=>rfl,hor⟩
  ·rw [if_neg hb]at h;cases h
 simp only [if_neg h3]at h ⊢
 by_cases h4:x.op=4
 ·simp only [if_pos h4]at h ⊢
  by_cases he:s.1= []
  ·rw [if_pos he]at h;cases h
  rw [if_neg he]at h ⊢
  obtain⟨rfl,rfl⟩:=Prod.mk.inj (Option.some.inj h)
  have hset0:=hset h4
  have e:D.set x.a.toNat (s.1.getLastD 0)=D:=by
   have h7:=hD x.a.toNat (by rw [decide_eq_true h4];simp)
   rw [getD_setI,if_pos ⟨rfl,by have:=ha h4;omega⟩]at h7
   apply List.ext_getElem?
   intro k
   rw [List.getElem?_set]
   split
   ·rename_i ek
    subst ek
    have hlt:=ha h4
    rw [if_pos (by omega),List.getElem?_eq_getElem (by omega),←h7,List.getD_eq_getElem?_getD,List.getElem?_eq_getElem (by omega)];rfl
   ·rfl
  refine⟨by rw [e],by rw [List.length_set];exact hdl,fun k hk=>?_,fun k hk=>?_⟩
  ·rw [getD_setI,if_neg]
   intro c
   rw [←c.1,hset0]at hk;cases hk
  ·rw [getD_setI]at hk
   split at hk
   ·rename_i c
    rw [decide_eq_true h4,decide_eq_true c.1.symm];simp
   ·exact hor k hk
 simp only [if_neg h4]at h ⊢
 by_cases h22:x.op=22
 ·simp only [if_pos h22]at h ⊢
  by_cases he:s.1= []∨s.1.getLastD 0≠1
  ·rw [if_pos he]at h;cases h
  ·rw [if_neg he]at h ⊢
   obtain⟨rfl,rfl⟩:=Prod.mk.inj (Option.some.inj h)
   exact⟨rfl,hdl,fun _ _=>rfl,fun k hk=>by have:=hor k hk;simpa [h4]using this⟩
 simp only [if_neg h22]at h ⊢
 by_cases h21:x.op=21
 ·simp only [if_pos h21]at h ⊢
  obtain⟨rfl,rfl⟩:=Prod.mk.inj (Option.some.inj h)
  exact⟨rfl,hdl,fun _ _=>rfl,fun k hk=>by have:=hor k hk;simpa [h4]using this⟩
 simp only [if_neg h21]at h ⊢
 by_cases hn:s.1.length<ariF (opF x.op)
 ·rw [if_pos hn]at h;cases h
 rw [if_neg hn]at h ⊢
 by_cases hr:resD (opF x.op) (s.1.drop (s.1.length-ariF (opF x.op)))=0
 ·rw [if_pos hr]at h;cases h
 rw [if_neg hr]at h ⊢
 obtain⟨rfl,rfl⟩:=Prod.mk.inj (Option.some.inj h)
 exact⟨rfl,hdl,fun _ _=>rfl,fun k hk=>by have:=hor k hk;simpa [h4]using this⟩
theorem appA_len{x:Ins}{s s':List Int × List Bool}{dims dims':List Int}(hd:dims.length=12)(h:appA x s dims=some (s',dims')):dims'.length=12:=by
 unfold appA at h
 repeat' split at h
 all_goals first
  |(cases h;done)
  |(obtain⟨-,rfl⟩:=Prod.mk.inj (Option.some.inj h);first|exact hd|(rw [List.length_set];exact hd))
theorem rndA_some{S S':List (Option (List Int × List Bool))}{x:Ins}{i dep dep':Nat}{dims dims':List Int}(h:rndA S x i dims dep=some (S',dims',dep')) :
 ∃s s' S1,S.getD i none=some s∧appA x s dims=some (s',dims')∧s'.1.length≤24∧(if x.op=21 then some S else putA S (i+1) s')=some S1∧(if x.op=21∨x.op=22 then putA S1 x.a.toNat s' else some S1)=some S':=by
 unfold rndA at h
 cases h1:S.getD i none with
 |none=>rw [h1]at h;cases h
 |some s=>
  rw [h1]at h
  cases h2:appA x s dims with
  |none=>simp only [h2]at h;cases h
  |some r=>
   obtain⟨s',d'⟩:=r
   simp only [h2]at h
   by_cases h3:24<s'.1.length
   ·rw [if_pos h3]at h;cases h
   rw [if_neg h3]at h
   cases h4:(if x.op=21 then some S else putA S (i+1) s')with
   |none=>simp only [h4]at h;cases h
   |some S1=>
    simp only [h4]at h
    cases h5:(if x.op=21∨x.op=22 then putA S1 x.a.toNat s' else some S1)with
    |none=>simp only [h5]at h;cases h
    |some S2=>
     simp only [h5]at h
     obtain⟨rfl,h6⟩:=Prod.mk.inj (Option.some.inj h)
     obtain⟨rfl,-⟩:=Prod.mk.inj h6
     exact⟨s,s',S1,rfl,h2,by omega,h4,h5⟩
theorem goA_cert{m n:Nat}(hm:m≤12):∀(r:List Ins) (i:Nat) (P:Nat→Bool) (S:List (Option (List Int × List Bool))) (dims:List Int) (dep:Nat) (d:Int),
 (∀k,k<r.length→wfF m n (i+k) (r.getD k default)=true)→(setsF r).Nodup→(∀a∈setsF r,P a=false)→DoneL P S→dims.length=12→S.length=n+1→i+r.length=n→goA r i S dims dep=(d,0)→
 ∃(F:List (Option (List Int × List Bool))) (D:List Int),D.length=12∧(∀j,j≤i→F.getD j none=S.getD j none)∧(∀j u,S.getD j none=some u→SubS u (F.getD j none))∧(∀k,P k=true→D.getD k 0=dims.getD k 0)∧
  (∀k,k<r.length→∃s s',F.getD (i+k) none=some s∧appA (r.getD k default) s D=some (s',D)∧s'.1.length≤24∧
   ((r.getD k default).op≠21→SubS s' (F.getD (i+k+1) none))∧((r.getD k default).op=21∨(r.getD k default).op=22→SubS s' (F.getD (r.getD k default).a.toNat none)))∧
  ∀s,F.getD n none=some s→s.1= []:=by
 intro r
 induction r with
 |nil=>
  intro i P S dims dep d _ _ _ _ hd _ hin hgo
  refine⟨S,dims,hd,fun _ _=>rfl,fun j u hu=>.refl hu,fun _ _=>rfl,fun k hk=>by simp at hk,fun s hs=>?_⟩
  simp only [List.length_nil]at hin
  obtain rfl:i=n:=by omega
  rw [goA,hs]at hgo
  by_cases he:s.1= []
  ·exact he
  ·simp only [if_neg he]at hgo
   cases(Prod.mk.inj hgo).2
 |cons x r ih=>
  intro i P S dims dep d hwf hnd hsP hdo hd hn hin hgo
  simp only [List.length_cons]at hin
  have hx:wfF m n i x=true:=hwf 0 (by simp)
  have hset:x.op=4→P x.a.toNat=false:=fun h=>hsP _ (by rw [setsF_cons,if_pos h];exact List.mem_cons_self ..)
  have hjmp:x.op=21∨x.op=22→i<x.a.toNat∧x.a.toNat<S.length:=fun h=>by
   unfold wfF at hx
   rw [if_neg (by omega)]at hx
   by_cases hz:¬(x.n=0∧x.d=0)
   ·rw [if_pos hz]at hx;cases hx
   rw [if_neg hz,if_neg (by omega),if_neg (by omega),if_neg (by omega),if_pos h]at hx
   simp at hx;omega
  rw [goA]at hgo
  cases hr:rndA S x i dims dep with
  |none=>rw [hr]at hgo;cases(Prod.mk.inj hgo).2
  |some t=>
   obtain⟨S',dims',dep'⟩:=t
   rw [hr]at hgo
   simp only at hgo
   obtain⟨s,s',S1,e1,e2,e3,e4,e5⟩:=rndA_some hr
   have hds:=hdo i s e1
   -- the two puts
   have hs':∀k,s'.2.getD k false=true→(P k || (decide (x.op=4)&&decide (k=x.a.toNat)))=true:=
    (appA_end (D:=dims'.set 0 (dims'.getD 0 0)) (P:=P) hx hm hd (by rw [List.length_set];exact appA_len hd e2) e2 hds (fun k _=>by rw [getD_setI];split<;>simp_all) hset).2.2.2
   have hp1:S1.length=S.length∧(∀j,j≤i→S1.getD j none=S.getD j none)∧(∀j u,S.getD j none=some u→SubS u (S1.getD j none))∧(x.op≠21→SubS s' (S1.getD (i+1) none))∧DoneL (fun k=>P k || (decide (x.op=4)&&decide (k=x.a.toNat))) S1:=by
    have hdo':DoneL (fun k=>P k || (decide (x.op=4)&&decide (k=x.a.toNat))) S:=fun j u hu k hk=>by
     show(P k || _)=true
     rw [hdo j u hu k hk];rfl
    by_cases c:x.op=21
    ·rw [if_pos c]at e4
     obtain rfl:=Option.some.inj e4
     exact⟨rfl,fun _ _=>rfl,fun j u hu=>.refl hu,fun h=>absurd c h,hdo'⟩
    ·rw [if_neg c]at e4
     obtain⟨q1,q2,q3,q4⟩:=putA_sub e4
     exact⟨(putA_keep e4).1,fun j hj=>q1 j (by omega),q2,fun _=>q3 (by omega),q4 _ hdo' hs'⟩
   have hp2:S'.length=S.length∧(∀j,j≤i→S'.getD j none=S.getD j none)∧(∀j u,S1.getD j none=some u→SubS u (S'.getD j none))∧(x.op=21∨x.op=22→SubS s' (S'.getD x.a.toNat none))∧DoneL (fun k=>P k || (decide (x.op=4)&&decide (k=x.a.toNat))) S':=by
    by_cases c:x.op=21∨x.op=22
    ·rw [if_pos c]at e5
     have⟨j1,j2⟩:=hjmp c
     obtain⟨q1,q2,q3,q4⟩:=putA_sub e5
     exact⟨(putA_keep e5).1.trans hp1.1,fun j hj=>(q1 j (by omega)).trans (hp1.2.1 j hj),q2,fun _=>q3 (by rw [hp1.1];exact j2),q4 _ hp1.2.2.2.2 hs'⟩
    ·rw [if_neg c]at e5
     obtain rfl:=Option.some.inj e5
     exact⟨hp1.1,hp1.2.1,fun j u hu=>.refl hu,fun h=>absurd h c,hp1.2.2.2.2⟩
   obtain⟨F,D,f1,f2,f3,f4,f5,f6⟩:=ih (i+1) (fun k=>P k || (decide (x.op=4)&&decide (k=x.a.toNat))) S' dims' dep' d
    (fun k hk=>by
     have:=hwf (k+1) (by simp;omega)
     rw [show i+1+k=i+(k+1)by omega]
     exact this)
    (by
     rw [setsF_cons]at hnd
     split at hnd
     ·exact(List.nodup_cons.1 hnd).2
     ·exact hnd)
    (fun a ha=>by
     rw [setsF_cons]at hnd hsP
     by_cases h:x.op=4
     ·rw [if_pos h]at hnd hsP
      have h5:a≠x.a.toNat:=fun e=>by subst e;exact(List.nodup_cons.1 hnd).1 ha
      rw [hsP a (List.mem_cons_of_mem _ ha),decide_eq_false h5];simp
     ·rw [if_neg h]at hsP
      rw [hsP a ha,decide_eq_false h];rfl)
    hp2.2.2.2.2 (appA_len hd e2) (by omega) (by omega) hgo
   obtain⟨g1,g2,g3,g4⟩:=appA_end (D:=D) hx hm hd f1 e2 hds f4 hset
   have hsub:∀u (o:Option (List Int × List Bool)) j,SubS u (S1.getD j none)→SubS u (F.getD j none):=fun u o j hu=>by
    cases h1:S1.getD j none with
    |none=>rw [h1]at hu;exact hu.elim
    |some t=>
     rw [h1]at hu
     have h2:=hp2.2.2.1 j t h1
     cases h3:S'.getD j none with
     |none=>rw [h3]at h2;exact h2.elim
     |some t'=>
      rw [h3]at h2
      exact .trans hu (.trans h2 (f3 j t' h3))
   refine⟨F,D,f1,fun j hj=>(f2 j (by omega)).trans (hp2.2.1 j hj),fun j u hu=>hsub u none j (hp1.2.2.1 j u hu),fun k hk=>?_,fun k hk=>?_,f6⟩
   ·rw [f4 k (by rw [hk];rfl)];exact g3 k hk
   ·cases k with
    |zero=>
     refine⟨s,s', ?_,g1,e3,fun c=>?_,fun c=>?_⟩
     ·rw [Nat.add_zero,f2 i (by omega),hp2.2.1 i (Nat.le_refl _)];exact e1
     ·exact hsub s' none _ (hp1.2.2.2.1 c)
     ·have h2:=hp2.2.2.2.1 c
      change SubS s' (S'.getD x.a.toNat none)at h2
      show SubS s' (F.getD x.a.toNat none)
      cases h3:S'.getD x.a.toNat none with
      |none=>rw [h3]at h2;exact h2.elim
      |some t'=>
       rw [h3]at h2
       exact .trans h2 (f3 _ t' h3)
    |succ k=>
     have:=f5 k (by simp at hk;omega)
     rw [show i+1+k=i+(k+1)by omega]at this
     exact this
theorem ver_cert{l:List Ins}{sl:List ByteArray}{d:Int}(h:verA l sl=(d,0)):∃F D,Cert l sl.length F D:=by
 unfold verA at h
 by_cases hf:formF l sl=true
 ·rw [if_pos hf]at h
  unfold formF wordsF at hf
  simp only [Bool.and_eq_true,decide_eq_true_eq,List.all_eq_true,List.mem_range]at hf
  obtain⟨⟨-,hwf⟩,⟨⟨hm,-⟩,-⟩,hnd⟩:=hf
  have gf:∀k,(List.replicate 12 false).getD k false=false:=fun k=>by
   rw [List.getD_eq_getElem?_getD,List.getElem?_replicate];split<;>rfl
  obtain⟨F,D,f1,f2,-,-,f5,f6⟩:=goA_cert hm l 0 (fun _=>false) _ _ 0 d (fun k hk=>by rw [Nat.zero_add];exact hwf k hk) hnd (fun _ _=>rfl) (fun j s hs k hk=>by
   cases j with
   |zero=>
    obtain rfl:=Option.some.inj hs
    rw [gf]at hk;cases hk
   |succ j=>
    rw [List.getD_cons_succ,List.getD_eq_getElem?_getD,List.getElem?_replicate]at hs
    split at hs<;>cases hs) (by simp) (by simp) (by simp) h
  refine⟨F,D,hwf,hm,f1,⟨_,f2 0 (Nat.le_refl _),rfl,gf⟩,fun i hi=>?_,f6⟩
  have:=f5 i hi
  rw [Nat.zero_add]at this
  exact this
 ·rw [if_neg hf]at h
  cases(Prod.mk.inj h).2
def inVal(v:Vw)(k:Nat):Val:=(inputV v (inpNm k)).getD .zero
def opV(op:Int)(l:List Val):Val × Int:=if op≤6 then op1 op (l.getD 0 .zero)else op2 op (l.getD 0 .zero) (l.getD 1 .zero)
def runF(l:List Ins)(sl:List ByteArray)(v:Vw):Nat→Nat→List Val→List Val→List (ByteArray × Val)→List (ByteArray × Val) × Int
 |0,_,_,_,st=>(st,0)
 |f+1,i,stk,slots,st=>
  if l.length≤i then(st,0)
  else if(l.getD i default).op=1 then runF l sl v f (i+1) (stk++[⟨(l.getD i default).a,false,(l.getD i default).n,(l.getD i default).d⟩]) slots st
  else if(l.getD i default).op=2 then runF l sl v f (i+1) (stk++[inVal v (l.getD i default).a.toNat]) slots st
  else if(l.getD i default).op=3 then runF l sl v f (i+1) (stk++[slots.getD (l.getD i default).a.toNat .zero]) slots st
  else if(l.getD i default).op=4 then runF l sl v f (i+1) stk.dropLast (slots.set (l.getD i default).a.toNat (stk.getLastD .zero)) (st++[(sl.getD (l.getD i default).a.toNat ByteArray.empty,stk.getLastD .zero)])
  else if(l.getD i default).op=5 then(if(bestF v.years (l.getD i default).a).2.2=0 then runF l sl v f (i+1) (stk++[.num 4 (bestF v.years (l.getD i default).a).1 (bestF v.years (l.getD i default).a).2.1]) slots st else([],(bestF v.years (l.getD i default).a).2.2))
  else if(l.getD i default).op=23∨(l.getD i default).op=24 then runF l sl v f (i+1) (stk++[.truth (decide ((l.getD i default).op=23))]) slots st
  else if(l.getD i default).op=21 then runF l sl v f (l.getD i default).a.toNat stk slots st
  else if(l.getD i default).op=22 then runF l sl v f (if(stk.getLastD .zero).yes=true then i+1 else(l.getD i default).a.toNat) stk.dropLast slots st
  else if(opV (opF (l.getD i default).op) (stk.drop (stk.length-ariF (opF (l.getD i default).op)))).2=0 then
   runF l sl v f (i+1) (stk.take (stk.length-ariF (opF (l.getD i default).op))++[(opV (opF (l.getD i default).op) (stk.drop (stk.length-ariF (opF (l.getD i default).op)))).1]) slots st
  else([],(opV (opF (l.getD i default).op) (stk.drop (stk.length-ariF (opF (l.getD i default).op)))).2)
structure Fits(D:List Int)(s:List Int × List Bool)(stk slots:List Val):Prop where
 dims:stk.map Val.dim=s.1
 ok:∀x∈stk,x.ok=true
 slot:∀k,s.2.getD k false=true→(slots.getD k .zero).ok=true∧(slots.getD k .zero).dim=D.getD k 0
def At(F:List (Option (List Int × List Bool)))(D:List Int)(i:Nat)(stk slots:List Val):Prop:=∃s,F.getD i none=some s∧Fits D s stk slots
theorem Fits.to{F:List (Option (List Int × List Bool))}{D:List Int}{s:List Int × List Bool}{stk slots:List Val}{i:Nat}(h:Fits D s stk slots)(g:SubS s (F.getD i none)):At F D i stk slots:=by
 cases e:F.getD i none with
 |none=>rw [e]at g;exact g.elim
 |some t=>
  rw [e]at g
  exact⟨t,e,h.dims.trans g.1.symm,h.ok,fun k hk=>h.slot k (g.2 k hk)⟩
section
variable {l : List Ins} {m : Nat} {F : List (Option (List Int × List Bool))} {D : List Int} {i : Nat} {stk slots : List Val} {s : List Int × List Bool}
theorem Fits.push(h:Fits D s stk slots){x:Val}(hx:x.ok=true):Fits D (s.1++[x.dim],s.2) (stk++[x]) slots:=
 ⟨by rw [List.map_append,h.dims];rfl,fun y hy=>by
  rcases List.mem_append.1 hy with hy|hy
  ·exact h.ok y hy
  ·obtain rfl:y=x:=by simpa using hy
   exact hx,h.slot⟩
theorem Fits.len(h:Fits D s stk slots):stk.length=s.1.length:=by rw [←h.dims,List.length_map]
theorem last_map{l:List Val}(h:l≠[]):(l.map Val.dim).getLastD 0=(l.getLastD .zero).dim:=by
 rw [List.getLastD_eq_getLast?,List.getLastD_eq_getLast?,List.getLast?_map]
 cases e:l.getLast? with
 |none=>exact absurd (List.getLast?_eq_none_iff.1 e) h
 |some x=>rfl
theorem last_in{l:List Val}(h:l≠[]):l.getLastD .zero∈l:=by
 exact mz14
theorem Fits.pop(h:Fits D s stk slots):Fits D (s.1.dropLast,s.2) stk.dropLast slots:=
 ⟨by rw [←h.dims,List.map_dropLast],fun y hy=>h.ok y (List.dropLast_subset _ hy),h.slot⟩
theorem Cert.at(C:Cert l m F D)(hi:i<l.length)(h:At F D i stk slots):∃s s',Fits D s stk slots∧appA (l.getD i default) s D=some (s',D)∧s'.1.length≤24∧
 ((l.getD i default).op≠21→SubS s' (F.getD (i+1) none))∧((l.getD i default).op=21∨(l.getD i default).op=22→SubS s' (F.getD (l.getD i default).a.toNat none)):=by
 obtain⟨s,e,hf⟩:=h
 obtain⟨s0,s',e0,h1,h2,h3,h4⟩:=C.step i hi
 rw [e]at e0
 obtain rfl:=Option.some.inj e0
 exact⟨s,s',hf,h1,h2,h3,h4⟩
theorem wf_lit{n:Nat}{x:Ins}(h:wfF m n i x=true)(h1:x.op=1):2≤x.a∧x.a≤4∧vfrac x.n x.d=true:=by
 unfold wfF at h
 rw [if_pos h1]at h
 simp only [Bool.and_eq_true,decide_eq_true_eq]at h
 exact⟨by omega,by omega,h.2⟩
theorem wf_rest{n:Nat}{x:Ins}(h:wfF m n i x=true)(h1:x.op≠1):(x.n=0∧x.d=0)∧(x.op=2→0≤x.a∧x.a<11)∧(x.op=3∨x.op=4→0≤x.a∧x.a<m)∧(x.op=5→1≤x.a∧x.a≤45)∧
 (x.op=21∨x.op=22→(i:Int)<x.a∧x.a≤n)∧(x.op≠2→x.op≠3→x.op≠4→x.op≠5→x.op≠21→x.op≠22→x.op≠23→x.op≠24→opF x.op≠0):=by
 unfold wfF at h
 rw [if_neg h1]at h
 by_cases hz:¬(x.n=0∧x.d=0)
 ·rw [if_pos hz]at h;cases h
 rw [if_neg hz]at h
 refine⟨by omega,fun c=>?_,fun c=>?_,fun c=>?_,fun c=>?_,fun c2 c3 c4 c5 c21 c22 c23 c24=>?_⟩
 ·rw [if_pos c]at h;simpa using h
 ·rw [if_neg (by omega),if_pos c]at h;simpa using h
 ·rw [if_neg (by omega),if_neg (by omega),if_pos c]at h;simpa using h
 ·rw [if_neg (by omega),if_neg (by omega),if_neg (by omega),if_pos c]at h;simpa using h
 ·rw [if_neg (by omega),if_neg (by omega),if_neg (by omega),if_neg (by omega),if_neg (by omega)]at h
  simp only [decide_eq_true_eq]at h
  exact h.1
theorem step1(C:Cert l m F D)(hi:i<l.length)(h:At F D i stk slots)(o:(l.getD i default).op=1):At F D (i+1) (stk++[⟨(l.getD i default).a,false,(l.getD i default).n,(l.getD i default).d⟩]) slots:=by
 obtain⟨s,s',hf,h1,-,h3,-⟩:=C.at hi h
 have hw:=wf_lit (C.wf i hi) o
 unfold appA at h1
 rw [if_pos o]at h1
 obtain⟨rfl,-⟩:=Prod.mk.inj (Option.some.inj h1)
 exact(hf.push (x:=⟨(l.getD i default).a,false,(l.getD i default).n,(l.getD i default).d⟩) (Val.num_ok ⟨hw.1,hw.2.1⟩ hw.2.2)).to (h3 (by omega))
theorem inVal_ok{v:Vw}(hv:v.ok=true){k:Nat}(hk:k<11):(inVal v k).ok=true∧(inVal v k).dim=inDs.getD k 0:=by
 have key:∀k,k<11→inpD (inpNm k).toList=inDs.getD k 0∧inpD (inpNm k).toList≠0:=by decide+kernel
 obtain⟨k1,k2⟩:=key k hk
 unfold inVal
 cases e:inputV v (inpNm k)with
 |none=>exact absurd (inputV_none hv e) k2
 |some x=>
  obtain⟨a,b,-⟩:=inputV_some e
  exact⟨a,b.trans k1⟩
theorem step2{v:Vw}(hv:v.ok=true)(C:Cert l m F D)(hi:i<l.length)(h:At F D i stk slots)(o:(l.getD i default).op=2):At F D (i+1) (stk++[inVal v (l.getD i default).a.toNat]) slots:=by
 obtain⟨s,s',hf,h1,-,h3,-⟩:=C.at hi h
 have hw:=(wf_rest (C.wf i hi) (by omega)).2.1 o
 have hx:=inVal_ok hv (k:=(l.getD i default).a.toNat) (by omega)
 unfold appA at h1
 rw [if_neg (by omega),if_pos o]at h1
 obtain⟨rfl,-⟩:=Prod.mk.inj (Option.some.inj h1)
 have:=hf.push hx.1
 rw [hx.2]at this
 exact this.to (h3 (by omega))
theorem step3(C:Cert l m F D)(hi:i<l.length)(h:At F D i stk slots)(o:(l.getD i default).op=3):At F D (i+1) (stk++[slots.getD (l.getD i default).a.toNat .zero]) slots:=by
 obtain⟨s,s',hf,h1,-,h3,-⟩:=C.at hi h
 unfold appA at h1
 rw [if_neg (by omega),if_neg (by omega),if_neg (by omega),if_neg (by omega),if_pos o]at h1
 by_cases hb:s.2.getD (l.getD i default).a.toNat false=true
 ·rw [if_pos hb]at h1
  obtain⟨rfl,-⟩:=Prod.mk.inj (Option.some.inj h1)
  have hx:=hf.slot _ hb
  have:=hf.push hx.1
  rw [hx.2]at this
  exact this.to (h3 (by omega))
 ·rw [if_neg hb]at h1;cases h1
theorem step4(C:Cert l m F D)(hi:i<l.length)(h:At F D i stk slots)(hs:m≤slots.length)(o:(l.getD i default).op=4) :
 stk≠[]∧(stk.getLastD .zero).ok=true∧At F D (i+1) stk.dropLast (slots.set (l.getD i default).a.toNat (stk.getLastD .zero)):=by
 obtain⟨s,s',hf,h1,-,h3,-⟩:=C.at hi h
 have hw:=(wf_rest (C.wf i hi) (by omega)).2.2.1 (.inr o)
 unfold appA at h1
 rw [if_neg (by omega),if_neg (by omega),if_neg (by omega),if_neg (by omega),if_neg (by omega),if_pos o]at h1
 by_cases he:s.1= []
 ·rw [if_pos he]at h1;cases h1
 rw [if_neg he]at h1
 have hne:stk≠[]:=fun e=>he (by rw [←hf.dims,e];rfl)
 obtain⟨rfl,hD⟩:=Prod.mk.inj (Option.some.inj h1)
 have hlast:=hf.ok _ (last_in hne)
 refine⟨hne,hlast, ?_⟩
 have hp:=hf.pop
 have hdim:(stk.getLastD .zero).dim=(D.set (l.getD i default).a.toNat (s.1.getLastD 0)).getD (l.getD i default).a.toNat 0:=by
  rw [getD_setI,←hf.dims,last_map hne]
  split
  ·rfl
  ·rename_i c
   exact absurd ⟨rfl,by rw [C.dlen];have:=C.m12;omega⟩ c
 refine Fits.to (s:=(s.1.dropLast,s.2.set (l.getD i default).a.toNat true)) ⟨hp.dims,hp.ok,fun k hk=>?_⟩ (h3 (by omega))
 rw [getD_setI]
 by_cases e:(l.getD i default).a.toNat=k
 ·subst e
  rw [if_pos ⟨rfl,by omega⟩]
  rw [hD]at hdim
  exact⟨hlast,hdim⟩
 ·rw [if_neg (fun c=>e c.1)]
  rw [getD_setI,if_neg (fun c=>e c.1)]at hk
  exact hf.slot k hk
theorem step5(C:Cert l m F D)(hi:i<l.length)(h:At F D i stk slots)(o:(l.getD i default).op=5){n d:Int}(hv:vfrac n d=true):At F D (i+1) (stk++[.num 4 n d]) slots:=by
 obtain⟨s,s',hf,h1,-,h3,-⟩:=C.at hi h
 unfold appA at h1
 rw [if_neg (by omega),if_neg (by omega),if_pos o]at h1
 obtain⟨rfl,-⟩:=Prod.mk.inj (Option.some.inj h1)
 exact(hf.push (x:=.num 4 n d) (Val.num_ok (by omega) hv)).to (h3 (by omega))
theorem step23(C:Cert l m F D)(hi:i<l.length)(h:At F D i stk slots)(o:(l.getD i default).op=23∨(l.getD i default).op=24)(b:Bool):At F D (i+1) (stk++[.truth b]) slots:=by
 obtain⟨s,s',hf,h1,-,h3,-⟩:=C.at hi h
 unfold appA at h1
 rw [if_neg (by omega),if_neg (by omega),if_neg (by omega),if_pos o]at h1
 obtain⟨rfl,-⟩:=Prod.mk.inj (Option.some.inj h1)
 exact(hf.push (x:=.truth b) (by simp [Val.ok,Val.truth])).to (h3 (by omega))
theorem step21(C:Cert l m F D)(hi:i<l.length)(h:At F D i stk slots)(o:(l.getD i default).op=21):At F D (l.getD i default).a.toNat stk slots:=by
 obtain⟨s,s',hf,h1,-,-,h4⟩:=C.at hi h
 unfold appA at h1
 rw [if_neg (by omega),if_neg (by omega),if_neg (by omega),if_neg (by omega),if_neg (by omega),if_neg (by omega),if_neg (by omega),if_pos o]at h1
 obtain⟨rfl,-⟩:=Prod.mk.inj (Option.some.inj h1)
 exact hf.to (h4 (.inl o))
theorem step22(C:Cert l m F D)(hi:i<l.length)(h:At F D i stk slots)(o:(l.getD i default).op=22):stk≠[]∧At F D (i+1) stk.dropLast slots∧At F D (l.getD i default).a.toNat stk.dropLast slots:=by
 obtain⟨s,s',hf,h1,-,h3,h4⟩:=C.at hi h
 unfold appA at h1
 rw [if_neg (by omega),if_neg (by omega),if_neg (by omega),if_neg (by omega),if_neg (by omega),if_neg (by omega),if_pos o]at h1
 by_cases he:s.1= []∨s.1.getLastD 0≠1
 ·rw [if_pos he]at h1;cases h1
 rw [if_neg he]at h1
 obtain⟨rfl,-⟩:=Prod.mk.inj (Option.some.inj h1)
 exact⟨fun e=>he (.inl (by rw [←hf.dims,e];rfl)),hf.pop.to (h3 (by omega)),hf.pop.to (h4 (.inr o))⟩
theorem opF_bd(op:Int)(h:opF op≠0):4≤opF op∧opF op≤20∧opF op≠17∧opF op≠18:=by
 unfold opF at *
 repeat' split at h
 all_goals simp_all
 all_goals omega
theorem stepO(C:Cert l m F D)(hi:i<l.length)(h:At F D i stk slots)(o:(l.getD i default).op≠1∧(l.getD i default).op≠2∧(l.getD i default).op≠3∧(l.getD i default).op≠4∧(l.getD i default).op≠5∧(l.getD i default).op≠21∧(l.getD i default).op≠22∧(l.getD i default).op≠23∧(l.getD i default).op≠24) :
 ariF (opF (l.getD i default).op)≤stk.length∧okR (resD (opF (l.getD i default).op) ((stk.drop (stk.length-ariF (opF (l.getD i default).op))).map Val.dim)) (opV (opF (l.getD i default).op) (stk.drop (stk.length-ariF (opF (l.getD i default).op))))∧
  resD (opF (l.getD i default).op) ((stk.drop (stk.length-ariF (opF (l.getD i default).op))).map Val.dim)≠0∧
  ∀x:Val,x.ok=true→x.dim=resD (opF (l.getD i default).op) ((stk.drop (stk.length-ariF (opF (l.getD i default).op))).map Val.dim)→At F D (i+1) (stk.take (stk.length-ariF (opF (l.getD i default).op))++[x]) slots:=by
 obtain⟨s,s',hf,h1,-,h3,-⟩:=C.at hi h
 have hop:=(wf_rest (C.wf i hi) o.1).2.2.2.2.2 (by omega) (by omega) (by omega) (by omega) (by omega) (by omega) (by omega) (by omega)
 have hbd:=opF_bd _ hop
 unfold appA at h1
 rw [if_neg (by omega),if_neg (by omega),if_neg (by omega),if_neg (by omega),if_neg (by omega),if_neg (by omega),if_neg (by omega),if_neg (by omega)]at h1
 have hlen:=hf.len
 have h3':=h3 (by omega)
 generalize opF (l.getD i default).op=op at *
 by_cases hn:s.1.length<ariF op
 ·rw [if_pos hn]at h1;cases h1
 rw [if_neg hn]at h1
 rw [hlen]
 have hdr:(stk.drop (s.1.length-ariF op)).map Val.dim=s.1.drop (s.1.length-ariF op):=by rw [List.map_drop,hf.dims]
 rw [hdr]
 by_cases hr:resD op (s.1.drop (s.1.length-ariF op))=0
 ·rw [if_pos hr]at h1;cases h1
 rw [if_neg hr]at h1
 obtain⟨rfl,-⟩:=Prod.mk.inj (Option.some.inj h1)
 refine⟨by omega, ?_,hr,fun x hx hd=>?_⟩
 ·have hl:(stk.drop (s.1.length-ariF op)).length=ariF op:=by rw [List.length_drop];omega
  have hok:∀y∈stk.drop (s.1.length-ariF op),y.ok=true:=fun y hy=>hf.ok y (List.mem_of_mem_drop hy)
  rw [←hdr]at hr ⊢
  generalize stk.drop (s.1.length-ariF op)=L at *
  by_cases h6:op≤6
  ·have ha:ariF op=1:=by unfold ariF;rw [if_pos (by omega)]
   rw [ha]at hl
   obtain⟨a,rfl⟩:=List.length_eq_one_iff.1 hl
   unfold opV
   rw [if_pos h6]
   exact op1_ok (hok a (by simp)) hbd.1 h6 hr
  ·have ha:ariF op=2:=by unfold ariF;rw [if_neg (by omega)]
   rw [ha]at hl
   obtain⟨a,b,rfl⟩:∃a b,L= [a,b]:=by
    match L,hl with
    | [a,b],_=>exact⟨a,b,rfl⟩
   unfold opV
   rw [if_neg h6]
   exact op2_ok (hok a (by simp)) (hok b (by simp)) (by omega) hbd.2.1 hbd.2.2.1 hbd.2.2.2 hr
 ·have hp:Fits D (s.1.take (s.1.length-ariF op),s.2) (stk.take (s.1.length-ariF op)) slots:=⟨by rw [List.map_take,hf.dims],fun y hy=>hf.ok y (List.mem_of_mem_take hy),hf.slot⟩
  have:=hp.push hx
  rw [hd]at this
  exact this.to h3'
end
def cntS(l:List Ins)(k a:Nat):Nat:=(setsF (l.take k)).count a
theorem cntS_zero(l:List Ins)(a:Nat):cntS l 0 a=0:=by simp [cntS,setsF]
theorem setsF_append(l r:List Ins):setsF (l++r)=setsF l++setsF r:=by simp [setsF]
theorem take_one{l:List Ins}{k:Nat}(hk:k<l.length):l.take (k+1)=l.take k++[l.getD k default]:=by
 exact mz5
theorem cntS_set{l:List Ins}{k:Nat}(hk:k<l.length)(h:(l.getD k default).op=4)(a:Nat) :
 cntS l (k+1) a=cntS l k a+if(l.getD k default).a.toNat=a then 1 else 0:=by
 unfold cntS
 rw [take_one hk,setsF_append,List.count_append]
 congr 1
 have e:setsF [l.getD k default]= [(l.getD k default).a.toNat]:=by rw [setsF_cons,if_pos h];rfl
 rw [e,List.count_singleton]
 by_cases hx:(l.getD k default).a.toNat=a
 ·simp [hx]
 ·simp [hx]
theorem cntS_skip{l:List Ins}{k:Nat}(hk:k<l.length)(h:(l.getD k default).op≠4)(a:Nat) :
 cntS l (k+1) a=cntS l k a:=by
 unfold cntS
 rw [take_one hk,setsF_append,List.count_append]
 have e:setsF [l.getD k default]= []:=by rw [setsF_cons,if_neg h];rfl
 rw [e];simp
theorem cntS_mono(l:List Ins)(k a:Nat):cntS l k a≤(setsF l).count a:=by
 unfold cntS
 have:setsF l=setsF (l.take k)++setsF (l.drop k):=by rw [←setsF_append,List.take_append_drop]
 rw [this,List.count_append];omega
theorem nodup_of_cnt{l:List Ins}(h:∀a,cntS l l.length a≤1):(setsF l).Nodup:=by
 rw [List.nodup_iff_count]
 intro a
 have:=h a
 unfold cntS at this
 rwa [List.take_length]at this
theorem not_nodup_of_cnt{l:List Ins}{k a:Nat}(h:1<cntS l k a):¬(setsF l).Nodup:=by
 intro hn
 have h1:=List.nodup_iff_count.1 hn a
 have h2:=cntS_mono l k a
 omega
theorem sets_once{l:List Ins}(h:(setsF l).Nodup){i j:Nat}(hji:j<i)(hi:i<l.length)(oi:(l.getD i default).op=4)(oj:(l.getD j default).op=4):(l.getD j default).a.toNat≠(l.getD i default).a.toNat:=by
 unfold setsF at h
 have h2:=List.pairwise_map.1 h
 have h3:=List.pairwise_filter.1 h2
 have h4:=List.pairwise_iff_getElem.1 h3 j i (by omega) hi hji
 have ei:l.getD i default=l[i]:=by rw [List.getD_eq_getElem?_getD,List.getElem?_eq_getElem hi];rfl
 have ej:l.getD j default=l[j]'(by omega):=by rw [List.getD_eq_getElem?_getD,List.getElem?_eq_getElem (by omega)];rfl
 rw [ei]at oi ⊢
 rw [ej]at oj ⊢
 exact h4 (by simpa using oj) (by simpa using oi)
theorem nodup_at{sl:List ByteArray}(h:sl.Nodup){a b:Nat}(ha:a<sl.length)(hb:b<sl.length)(e:sl.getD a ByteArray.empty=sl.getD b ByteArray.empty):a=b:=by
 rw [List.getD_eq_getElem?_getD,List.getD_eq_getElem?_getD,List.getElem?_eq_getElem ha,List.getElem?_eq_getElem hb]at e
 replace e:sl[a]=sl[b]:=e
 have hp:=List.pairwise_iff_getElem.1 h
 rcases Nat.lt_trichotomy a b with c|c|c
 ·exact absurd e (hp a b ha hb c)
 ·exact c
 ·exact absurd e.symm (hp b a hb ha c)
structure StpsOk(l:List Ins)(sl:List ByteArray)(i:Nat)(st:List (ByteArray × Val)):Prop where
 ok:∀p∈st,p.2.ok=true
 nm:∀p∈st,∃j,j<i∧(l.getD j default).op=4∧p.1=sl.getD (l.getD j default).a.toNat ByteArray.empty
 one:(st.map Prod.fst).Nodup
theorem StpsOk.nil{l:List Ins}{sl:List ByteArray}{i:Nat}:StpsOk l sl i []:=⟨fun _ h=>(by cases h),fun _ h=>(by cases h),List.nodup_nil⟩
theorem StpsOk.later{l:List Ins}{sl:List ByteArray}{i j:Nat}{st:List (ByteArray × Val)}(h:StpsOk l sl i st)(hij:i≤j):StpsOk l sl j st:=⟨h.ok,fun p hp=>by
 obtain⟨k,h1,h2⟩:=h.nm p hp
 exact⟨k,by omega,h2⟩,h.one⟩
def RunEnd(l:List Ins)(sl:List ByteArray)(r:List (ByteArray × Val) × Int):Prop:=(r.2=0∧∃n,StpsOk l sl n r.1)∨(r.1= []∧(r.2=2∨r.2=3))
section
variable {l : List Ins} {sl : List ByteArray} {v : Vw} {F : List (Option (List Int × List Bool))} {D : List Int}
theorem run_safe(C:Cert l sl.length F D)(hv:v.ok=true)(hs:(setsF l).Nodup)(hn:sl.Nodup):∀(f i:Nat) (stk slots:List Val) (st:List (ByteArray × Val)),At F D i stk slots→sl.length≤slots.length→StpsOk l sl i st→RunEnd l sl (runF l sl v f i stk slots st):=by
 intro f
 induction f with
 |zero=>intro i stk slots st _ _ h;exact .inl ⟨rfl,i,h⟩
 |succ f ih=>
  intro i stk slots st hA hsl hst
  rw [runF]
  by_cases hi:l.length≤i
  ·rw [if_pos hi];exact .inl ⟨rfl,i,hst⟩
  rw [if_neg hi]
  replace hi:i<l.length:=by omega
  have hx:=C.wf i hi
  by_cases o1:(l.getD i default).op=1
  ·rw [if_pos o1]
   exact ih _ _ _ _ (step1 C hi hA o1) hsl (hst.later (by omega))
  rw [if_neg o1]
  obtain⟨-,-,w34,w5,w21,-⟩:=wf_rest hx o1
  by_cases o2:(l.getD i default).op=2
  ·rw [if_pos o2]
   exact ih _ _ _ _ (step2 hv C hi hA o2) hsl (hst.later (by omega))
  rw [if_neg o2]
  by_cases o3:(l.getD i default).op=3
  ·rw [if_pos o3]
   exact ih _ _ _ _ (step3 C hi hA o3) hsl (hst.later (by omega))
  rw [if_neg o3]
  by_cases o4:(l.getD i default).op=4
  ·rw [if_pos o4]
   obtain⟨h1,h2,h3⟩:=step4 C hi hA hsl o4
   have ha:=w34 (.inr o4)
   refine ih _ _ _ _ h3 (by rw [List.length_set];exact hsl) ⟨fun p hp=>?_,fun p hp=>?_, ?_⟩
   ·rcases List.mem_append.1 hp with hp|hp
    ·exact hst.ok p hp
    ·rw [List.mem_singleton]at hp
     subst hp;exact h2
   ·rcases List.mem_append.1 hp with hp|hp
    ·obtain⟨j,k1,k2⟩:=hst.nm p hp
     exact⟨j,by omega,k2⟩
    ·rw [List.mem_singleton]at hp
     subst hp;exact⟨i,by omega,o4,rfl⟩
   ·rw [List.map_append,List.nodup_append]
    refine⟨hst.one,by simp,fun a ha' b hb=>?_⟩
    obtain⟨p,hp,rfl⟩:=List.mem_map.1 ha'
    rw [List.map_cons,List.map_nil,List.mem_singleton]at hb
    subst hb
    obtain⟨j,k1,k2,k3⟩:=hst.nm p hp
    rw [k3]
    intro e
    have hj:=(wf_rest (C.wf j (by omega)) (by omega)).2.2.1 (.inr k2)
    exact sets_once hs k1 hi o4 k2 (nodup_at hn (by omega) (by omega) e)
  rw [if_neg o4]
  by_cases o5:(l.getD i default).op=5
  ·rw [if_pos o5]
   have hb:=best_ok (l:=v.years) (w5 o5).1 (w5 o5).2 (Vw.ok_bd hv).2.2.2.2
   by_cases e:(bestF v.years (l.getD i default).a).2.2=0
   ·rw [if_pos e]
    rcases hb with hb|hb
    ·exact ih _ _ _ _ (step5 C hi hA o5 hb.2) hsl (hst.later (by omega))
    ·have:=hb.2.2;omega
   ·rw [if_neg e]
    rcases hb with hb|hb
    ·exact absurd hb.1 e
    ·exact .inr ⟨rfl,hb.2.2⟩
  rw [if_neg o5]
  by_cases o23:(l.getD i default).op=23∨(l.getD i default).op=24
  ·rw [if_pos o23]
   exact ih _ _ _ _ (step23 C hi hA o23 _) hsl (hst.later (by omega))
  rw [if_neg o23]
  by_cases o21:(l.getD i default).op=21
  ·rw [if_pos o21]
   exact ih _ _ _ _ (step21 C hi hA o21) hsl (hst.later (by have:=w21 (.inl o21);omega))
  rw [if_neg o21]
  by_cases o22:(l.getD i default).op=22
  ·rw [if_pos o22]
   obtain⟨h1,h2,h3⟩:=step22 C hi hA o22
   split
   ·exact ih _ _ _ _ h2 hsl (hst.later (by omega))
   ·exact ih _ _ _ _ h3 hsl (hst.later (by have:=w21 (.inr o22);omega))
  rw [if_neg o22]
  obtain⟨h1,h2,h3,h4⟩:=stepO C hi hA (by omega)
  by_cases e:(opV (opF (l.getD i default).op) (stk.drop (stk.length-ariF (opF (l.getD i default).op)))).2=0
  ·rw [if_pos e]
   obtain⟨g1,g2⟩:=h2.good e
   exact ih _ _ _ _ (h4 _ g1 g2) hsl (hst.later (by omega))
  ·rw [if_neg e]
   exact .inr ⟨rfl,(h2.bad e).2⟩
end
theorem ver_safe{l:List Ins}{sl:List ByteArray}{d:Int}(h:verA l sl=(d,0)){v:Vw}(hv:v.ok=true){n:Nat}(hn:sl.length≤n)(f:Nat):RunEnd l sl (runF l sl v f 0 [] (List.replicate n .zero) []):=by
 obtain⟨F,D,C⟩:=ver_cert h
 unfold verA at h
 by_cases hf:formF l sl=true
 ·unfold formF wordsF at hf
  simp only [Bool.and_eq_true,decide_eq_true_eq]at hf
  obtain⟨s,h1,h2,h3⟩:=C.zero
  exact run_safe C hv hf.2.2 hf.2.1.2 f 0 [] _ [] ⟨s,h1,by rw [h2];rfl,fun _ h=>(by cases h),fun k hk=>by rw [h3 k]at hk;cases hk⟩ (by rw [List.length_replicate];exact hn) .nil
 ·rw [if_neg hf]at h
  cases(Prod.mk.inj h).2
end Go.Proofs.YtaghhncnicbedaaGreatDoor
