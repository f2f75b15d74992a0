import Derived.Test.YteildlpchhlchaaGreatDoorRForm
import Derived.Test.YteildlpchhlchaaGreatDoorRGen
set_option linter.all false
set_option maxHeartbeats 16000000
set_option maxRecDepth 1000000
namespace Go
theorem Code.abs{c:Code}{P:Program}{Q:Exit->Act->World->Prop}{a:Act}{w:World}(h:∀W,w=W->c.wp P Q a W):c.wp P Q a w:=h w rfl
theorem Calls.quietM3{P:Program}{f:FuncId}{args:Array Value}{w:World}{B bs cs:Array Obj}{d:Nat}{v:Value}
 (h:Calls P f args (w.grow (B++(bs++cs)) d) fun e w'=>e= .returned v/\(w.grow (B++(bs++cs)) d).Grows w'):Calls P f args (w.grow (B++(bs++cs)) d) fun e w''=>e= .returned v/\∃g:dY,w''=w.grow (B++(bs++g.bs)) g.d:=
 h.mono fun _ _ ⟨he,bs',d',hw⟩=>⟨he,⟨cs++bs',d'⟩,by rw [hw,World.grow_grow,Array.append_assoc,Array.append_assoc]⟩
theorem Calls.quietMS3{P:Program}{f:FuncId}{args:Array Value}{w:World}{B bs cs:Array Obj}{d:Nat}{v:Value}
 (h:Calls P f args (w.grow (B++(bs++cs)) d) fun e w'=>e= .returned v/\(w.grow (B++(bs++cs)) d)=w'):Calls P f args (w.grow (B++(bs++cs)) d) fun e w''=>e= .returned v/\∃g:dY,w''=w.grow (B++(bs++g.bs)) g.d:=
 h.mono fun _ _ ⟨he,hw⟩=>⟨he,⟨cs,d⟩,hw.symm⟩
end Go
namespace Go
section
variable {P : Program} {l : List Oper} {Q : Exit -> Act -> World -> Prop} {a afin : Act} {w : World} {id : Nat}
theorem aH(n:Nat)(x y:Nat × Tmp × Obj)(hm:P.follows .mixedOrders=true)(hB:Region.madeB l n [(x.1,x.2.1),(y.1,y.2.1)]=true)
 (hrx:∀o,l[x.1]? =some o->∀ρ w,(execOp ρ o).run P w= .ok (.value (.pointer (some ⟨w.heap.size,0,none⟩))) (w.alloc x.2.2))
 (hry:∀o,l[y.1]? =some o->∀ρ w,(execOp ρ o).run P w= .ok (.value (.pointer (some ⟨w.heap.size,0,none⟩))) (w.alloc y.2.2))
 (h1:∀bs d,wpQuiet P ((l.take n).map Oper.mask).toArray (fun w'=>∃g:dY,w'=(w.grow bs d).grow g.bs g.d) (· =afin) ((l.take n).map Oper.mask) a)
 (h2:∀gb1 gd1 gb2 gd2 gb gd,wpList P l.toArray Q (l.drop n) ((afin.put (some x.2.1) (.pointer (some ⟨(w.grow gb1 gd1).heap.size,0,none⟩))).put (some y.2.1) (.pointer (some ⟨(((w.grow gb1 gd1).alloc x.2.2).grow gb2 gd2).heap.size,0,none⟩))) (((((w.grow gb1 gd1).alloc x.2.2).grow gb2 gd2).alloc y.2.2).grow gb gd))
 (h3:∀gb1 gd1 gb2 gd2 gb gd,wpList P l.toArray Q (l.drop n) ((afin.put (some y.2.1) (.pointer (some ⟨(w.grow gb1 gd1).heap.size,0,none⟩))).put (some x.2.1) (.pointer (some ⟨(((w.grow gb1 gd1).alloc y.2.2).grow gb2 gd2).heap.size,0,none⟩))) (((((w.grow gb1 gd1).alloc y.2.2).grow gb2 gd2).alloc x.2.2).grow gb gd)):(Code.region id l.toArray true).wp P Q a w:=
 iT n x y hm hB hrx hry h1
  (fun gb1 gd1 gb2 gd2 gb gd=>by have:=h2 gb1 gd1 gb2 gd2 gb gd;simpa only [World.size_grow,World.size_alloc]using this)
  (fun gb1 gd1 gb2 gd2 gb gd=>by have:=h3 gb1 gd1 gb2 gd2 gb gd;simpa only [World.size_grow,World.size_alloc]using this)
end
end Go
namespace Go
theorem aO{w:World}{bs:Array Obj}{d:Nat}:World.Grows w (w.grow bs d).drew:=⟨bs,d+1,rfl⟩
theorem aj{w:World}:World.Grows w w.drew:=⟨#[],w.drawn+1,by simp only [World.grow,Array.append_empty];rfl⟩
end Go
namespace Go.Proofs.YteildlpchhlchaaGreatDoor
open Tryz List

structure Val where
 dim:Int
 yes:Bool
 n:Int
 d:Int
namespace Val
def zero:Val:=⟨0,false,0,0⟩
def num(m n d:Int):Val:=⟨m,false,n,d⟩
def truth(b:Bool):Val:=⟨1,b,0,0⟩
def ok(x:Val):Bool:=if x.dim=1 then decide (x.n=0/\x.d=0)else decide (2<=x.dim/\x.dim<=4)&&!x.yes&&az x.n x.d
end Val
structure Vw where
 age:Int
 year:Int
 children:Int
 insured:Int
 worked:Int
 voluntary:Int
 service:Int
 equated:Int
 raising:Int
 resident:Int
 bn:Int
 bd:Int
 years:List Int
def bi(l:List Int):Bool:=decide (l.length<=200)&&l.all fun x=>decide (0<=x/\x<=1000000000000)
def dR(z:Int):Bool:=decide (0<=z/\z<=73049)
def Vw.ok(v:Vw):Bool:=decide (0<=v.age/\v.age<=199/\1900<=v.year/\v.year<=2099/\0<=v.children/\v.children<=99)&&
 (dR v.insured&&dR v.worked&&dR v.voluntary&&dR v.service&&dR v.equated&&dR v.raising&&dR v.resident)&&
 (az v.bn v.bd&&decide (0<=v.bn/\v.bn<=1000000000000*v.bd))&&bi v.years
def Vw.numF(v:Vw)(s:List UInt8):Int × Int:=
 if s= [98,97,115,101]then(v.bn,v.bd)
 else if s= [97,103,101]then(v.age,1)else if s= [121,101,97,114]then(v.year,1)else if s= [99,104,105,108,100,114,101,110]then(v.children,1)
 else if s= [105,110,115,117,114,101,100]then(v.insured,1)else if s= [119,111,114,107,101,100]then(v.worked,1)else if s= [118,111,108,117,110,116,97,114,121]then(v.voluntary,1)
 else if s= [115,101,114,118,105,99,101]then(v.service,1)else if s= [101,113,117,97,116,101,100]then(v.equated,1)else if s= [114,97,105,115,105,110,103]then(v.raising,1)
 else if s= [114,101,115,105,100,101,110,116]then(v.resident,1)else(0,1)
def dJ(v:Vw)(s:ByteArray):Option Val:=if bE s.toList=0\/v.ok=false then none else some (.num (bE s.toList) (v.numF s.toList).1 (v.numF s.toList).2)

def oK(x:Int):List Int->List Int
 | []=>[x]
 |y::r=>if x<=y then y::oK x r else x::y::r
def ko(l:List Int):List Int:=l.foldl (fun a x=>oK x a) []
def nu(l:List Int)(n:Int):Int:=((ko l).take n.toNat).sum
def dh(l:List Int)(n:Int):Int × Int × Int:=if n<1\/45<n\/bi l=false then(0,0,1)else(mkN (nu l n) n,mkD (nu l n) n,mkE (nu l n) n)

def eP{α:Type}(env:List (ByteArray × α))(s:ByteArray):Option α:=(env.reverse.find? fun p=>decide (p.1=s)).map Prod.snd

def ag(op:Int)(d:List Int):Int:=
 let a:=d.getD 0 0;let b:=d.getD 1 0;let c:=d.getD 2 0
 if op=5 then(if a=1 then 1 else 0)
 else if op=4\/op=6 then(if a≠1 then a else 0)
 else if op=7\/op=8\/op=19\/op=20 then(if a=b/\a≠1 then a else 0)
 else if op=9 then(if a=2/\b≠1 then b else if b=2/\a≠1 then a else 0)
 else if op=10 then(if b=2/\a≠1 then a else if a=b/\a≠1 then 2 else 0)
 else if op=17\/op=18 then(if a=1/\b=1 then 1 else 0)
 else if op=21 then(if a=1/\b=c then b else 0)
 else if a=b/\a≠1 then 1 else 0
def dQ(env:List (ByteArray × Int))(s:ByteArray):Int × Int:=
 if bE s.toList≠0 then(bE s.toList,0)else match eP env s with|some m=>(m,0)|none=>(0,5)
def eu(op m:Int)(nm:Int × Int)(r:List Int × Int):Int × Int:=
 if op=1 then(m,0)else if op=3 then(4,0)else if op=2 then nm
 else if r.2≠0 then(0,r.2)else if ag op r.1=0 then(0,6)else(ag op r.1,0)
mutual
def aX(env:List (ByteArray × Int)):Ex->Int × Int
 | .mk op _ _ m s l=>eu op m (dQ env s) (bf env l)
def bf(env:List (ByteArray × Int)):List Ex->List Int × Int
 | []=>([],0)
 |e::r=>if(aX env e).2≠0 then([],(aX env e).2)else if(bf env r).2≠0 then([],(bf env r).2)else((aX env e).1::(bf env r).1,0)
end

def fM(m:Int)(r:Int × Int × Int):Val × Int:=if r.2.2=0 then(.num m r.1 r.2.1,0)else(.zero,r.2.2)
def ug(op c:Int):Bool:=if op=11 then decide (c<0)else if op=12 then decide (c<=0)else if op=13 then decide (c=0)else if op=14 then decide (c≠0)else if op=15 then decide (c > 0)else decide (c≥0)
def op1(op:Int)(a:Val):Val × Int:=if op=5 then(.truth (!a.yes),0)else if op=6 then fM a.dim ((dC a.n a.d).1,1,(dC a.n a.d).2)else fM a.dim (iA a.n a.d)
def op2(op:Int)(a b:Val):Val × Int:=
 if op=7 then fM a.dim (jv a.n a.d b.n b.d)else if op=8 then fM a.dim (lC a.n a.d b.n b.d)
 else if op=9 then fM (ag 9 [a.dim,b.dim]) (kv a.n a.d b.n b.d)else if op=10 then fM (ag 10 [a.dim,b.dim]) (kF a.n a.d b.n b.d)
 else if op=19 then(if gY a.n a.d b.n b.d<=0 then .num a.dim a.n a.d else .num a.dim b.n b.d,0)
 else if op=20 then(if 0<=gY a.n a.d b.n b.d then .num a.dim a.n a.d else .num a.dim b.n b.d,0)
 else(.truth (ug op (gY a.n a.d b.n b.d)),0)
theorem iE(env:List (ByteArray × Int))(e:Ex):aX env e=eu e.op e.dim (dQ env e.name) (bf env e.args):=by cases e;rw [aX];rfl
def tQ(env:List (ByteArray × Val)):List (ByteArray × Int):=env.map fun p=>(p.1,p.2.dim)

theorem Val.num_ok{m n d:Int}(hm:2<=m/\m<=4)(h:az n d=true):(Val.num m n d).ok=true:=by
 unfold Val.ok Val.num;rw [if_neg (show ¬m=1 by omega)];show(decide (2<=m/\m<=4)&&!false&&az n d)=true;rw [h,decide_eq_true hm];rfl
def okR(m:Int)(r:Val × Int):Prop:=(r.2=0/\r.1.ok=true/\r.1.dim=m)\/(r.1= .zero/\(r.2=2\/r.2=3))
theorem mI{m:Int}{r:Int × Int × Int}(hm:2<=m/\m<=4)(h:okF r):okR m (fM m r):=by
 unfold fM;rcases h with ⟨h1,h2⟩|⟨-,-,h3⟩
 ·rw [if_pos h1];refine .inl ⟨rfl, ?_,rfl⟩;exact Val.num_ok hm h2
 ·rw [if_neg zb];exact .inr ⟨rfl,h3⟩
theorem vP(b:Bool):okR 1 (.truth b,0):=.inl ⟨rfl,by simp [Val.ok,Val.truth],rfl⟩
theorem Val.ok_num{x:Val}(h:x.ok=true)(hd:x.dim≠1):2<=x.dim/\x.dim<=4/\x.yes=false/\az x.n x.d=true:=by
 unfold Val.ok at h;rw [if_neg hd]at h;simp only [Bool.and_eq_true,decide_eq_true_eq,Bool.not_eq_true']at h;exact⟨h.1.1.1,h.1.1.2,h.1.2,h.2⟩
theorem Val.ok_dim{x:Val}(h:x.ok=true):1<=x.dim/\x.dim<=4:=by
 by_cases hd:x.dim=1
 ·omega
 ·have:=Val.ok_num h hd;omega
theorem lJ{n:Int}(h1:-1000000000000000<=n)(h2:n<=1000000000000000):az n 1=true:=rO ⟨by omega,by omega,h1,h2⟩ ze
theorem tL{n d:Int}(h:az n d=true):-1000000000000000<=n / d/\n / d<=1000000000000000:=by
 have:=aF h;constructor
 ·rw [Int.le_ediv_iff_mul_le zb];omega
 ·have h3:n / d<1000000000000001:=Int.ediv_lt_of_lt_mul zb zb;omega
theorem NU{n d:Int}(h:az n d=true):okF (iA n d):=by
 unfold iA;rw [if_pos h];exact .inl ⟨rfl,by rw [uV];exact h⟩
theorem LK{n d:Int}(h:az n d=true):okF ((dC n d).1,1,(dC n d).2):=by
 unfold dC;rw [if_pos h];have:=tL h;exact .inl ⟨rfl,lJ this.1 this.2⟩
theorem QA{op:Int}{x:Val}(h:x.ok=true)(h4:4<=op)(h6:op<=6)(hr:ag op [x.dim]≠0):okR (ag op [x.dim]) (op1 op x):=by
 obtain rfl|rfl|rfl:op=4\/op=5\/op=6:=by omega
 all_goals simp only [ag,getD_cons_zero,op1]at hr ⊢
 ·simp at hr ⊢;have:=Val.ok_num h hr.1;rw [if_neg hr.1];exact mI ⟨this.1,this.2.1⟩ (NU this.2.2.2)
 ·simp at hr ⊢;rw [if_pos hr];exact vP _
 ·simp at hr ⊢;have:=Val.ok_num h hr.1;rw [if_neg hr.1];exact mI ⟨this.1,this.2.1⟩ (LK this.2.2.2)
theorem oC(a b:Int):ag 9 [a,b]=if a=2/\b≠1 then b else if b=2/\a≠1 then a else 0:=rfl
theorem oD(a b:Int):ag 10 [a,b]=if b=2/\a≠1 then a else if a=b/\a≠1 then 2 else 0:=rfl
theorem mH{op:Int}(a b:Int)(h:op=7\/op=8\/op=19\/op=20):ag op [a,b]=if a=b/\a≠1 then a else 0:=by
 rcases h with rfl|rfl|rfl|rfl<;>rfl
theorem oF{op:Int}(a b:Int)(h:11<=op/\op<=16):ag op [a,b]=if a=b/\a≠1 then 1 else 0:=by
 obtain rfl|rfl|rfl|rfl|rfl|rfl:op=11\/op=12\/op=13\/op=14\/op=15\/op=16:=by omega
 all_goals rfl
theorem Qz{op:Int}{x y:Val}(h:x.ok=true)(g:y.ok=true)(h4:7<=op)(h6:op<=20)(h17:op≠17)(h18:op≠18)(hr:ag op [x.dim,y.dim]≠0):okR (ag op [x.dim,y.dim]) (op2 op x y):=by
 by_cases c:op=9
 ·subst c;show okR _ (fM (ag 9 [x.dim,y.dim]) (kv x.n x.d y.n y.d))
  have hx:x.dim≠1/\y.dim≠1/\(ag 9 [x.dim,y.dim]=x.dim\/ag 9 [x.dim,y.dim]=y.dim):=by
   rw [oC]at hr ⊢;exact RG
  have h1:=Val.ok_num h hx.1;have h2:=Val.ok_num g hx.2.1;exact mI zb (NY h1.2.2.2 h2.2.2.2)
 ·by_cases c':op=10
  ·subst c';show okR _ (fM (ag 10 [x.dim,y.dim]) (kF x.n x.d y.n y.d))
   have hx:x.dim≠1/\y.dim≠1/\(ag 10 [x.dim,y.dim]=x.dim\/ag 10 [x.dim,y.dim]=2):=by
    rw [oD]at hr ⊢;exact RG
   have h1:=Val.ok_num h hx.1;have h2:=Val.ok_num g hx.2.1;exact mI zb (O3 h1.2.2.2 h2.2.2.2)
  ·have hx:x.dim=y.dim/\x.dim≠1:=by
    by_cases c3:11<=op/\op<=16
    ·rw [oF _ _ c3]at hr
     split at hr<;>rename_i c1
     ·exact c1
     ·exact absurd rfl hr
    ·rw [mH _ _ zb]at hr
     split at hr<;>rename_i c1
     ·exact c1
     ·exact absurd rfl hr
   have h1:=Val.ok_num h hx.2;have h2:=Val.ok_num g zb;by_cases c3:11<=op/\op<=16
   ·rw [oF _ _ c3,if_pos hx];unfold op2;rw [if_neg zb,if_neg zb,if_neg zb,if_neg zb,if_neg zb,if_neg zb];exact vP _
   ·rw [mH _ _ zb,if_pos hx];obtain rfl|rfl|rfl|rfl:op=7\/op=8\/op=19\/op=20:=by omega
    ·exact mI zb (Gg h1.2.2.2 h2.2.2.2)
    ·exact mI zb (M4 h1.2.2.2 h2.2.2.2)
    ·show okR _ (if gY x.n x.d y.n y.d<=0 then .num x.dim x.n x.d else .num x.dim y.n y.d,0);exact Rw
    ·show okR _ (if 0<=gY x.n x.d y.n y.d then .num x.dim x.n x.d else .num x.dim y.n y.d,0);exact Rw
theorem okR.good{m:Int}{r:Val × Int}(h:okR m r)(hr:r.2=0):r.1.ok=true/\r.1.dim=m:=by
 rcases h with h|h
 ·exact h.2
 ·omega
theorem Vw.ok_bd{v:Vw}(h:v.ok=true):(0<=v.age/\v.age<=199/\1900<=v.year/\v.year<=2099/\0<=v.children/\v.children<=99)/\
 (0<=v.insured/\v.insured<=73049/\0<=v.worked/\v.worked<=73049/\0<=v.voluntary/\v.voluntary<=73049/\0<=v.service/\v.service<=73049/\0<=v.equated/\v.equated<=73049/\0<=v.raising/\v.raising<=73049/\0<=v.resident/\v.resident<=73049)/\
 az v.bn v.bd=true/\(0<=v.bn/\v.bn<=1000000000000*v.bd)/\bi v.years=true:=by
 unfold Vw.ok at h;obtain⟨h,e⟩:=Bool.and_eq_true_iff.1 h;obtain⟨h,cd⟩:=Bool.and_eq_true_iff.1 h;obtain⟨a,b⟩:=Bool.and_eq_true_iff.1 h;obtain⟨c,d⟩:=Bool.and_eq_true_iff.1 cd;have k:∀z,dR z=true->0<=z/\z<=73049:=fun z hz=>of_decide_eq_true hz;repeat rw [Bool.and_eq_true]at b
 obtain⟨⟨⟨⟨⟨⟨b1,b2⟩,b3⟩,b4⟩,b5⟩,b6⟩,b7⟩:=b;have b1:=k _ b1;have b2:=k _ b2;have b3:=k _ b3;have b4:=k _ b4;have b5:=k _ b5;have b6:=k _ b6;have b7:=k _ b7;exact⟨of_decide_eq_true a,⟨b1.1,b1.2,b2.1,b2.2,b3.1,b3.2,b4.1,b4.2,b5.1,b5.2,b6.1,b6.2,b7.1,b7.2⟩,c,of_decide_eq_true d,e⟩
theorem Lh{c:Prop}[Decidable c]{a b:Int × Int}(ha:az a.1 a.2=true)(hb:az b.1 b.2=true):az (if c then a else b).1 (if c then a else b).2=true:=by
 by_cases h:c
 ·rw [if_pos h];exact ha
 ·rw [if_neg h];exact hb
theorem Vw.numF_ok{v:Vw}(h:v.ok=true)(s:List UInt8):az (v.numF s).1 (v.numF s).2=true:=by
 obtain⟨a,b,c,-,-⟩:=Vw.ok_bd h;unfold Vw.numF;refine Lh c ?_;repeat refine Lh (lJ (by show _<=(_:Int);omega) (by show(_:Int)<=_;omega)) ?_
 exact lJ zb zb
theorem FY(s:List UInt8):bE s=0\/(2<=bE s/\bE s<=4):=by
 unfold bE
 (repeat' split)<;>simp
theorem Ci{v:Vw}{s:ByteArray}{x:Val}(h:dJ v s=some x):x.ok=true/\x.dim=bE s.toList/\bE s.toList≠0:=by
 unfold dJ at h
 split at h<;>rename_i hc
 ·cases h
 ·simp only [not_or,Bool.not_eq_false]at hc;cases h;have:=FY s.toList;exact⟨Val.num_ok zb (Vw.numF_ok hc.2 _),rfl,hc.1⟩
theorem Cj{v:Vw}(hv:v.ok=true){s:ByteArray}(h:dJ v s=none):bE s.toList=0:=by
 unfold dJ at h
 split at h<;>rename_i hc
 ·rcases hc with hc|hc
  ·exact hc
  ·rw [hv]at hc;cases hc
 ·cases h
theorem PE{n d:Int}(h:d≠0):okF (mkN n d,mkD n d,mkE n d):=by
 unfold mkN mkD mkE;rw [if_neg h,if_neg h,if_neg h];rcases sQ n.natAbs d.natAbs with e|e
 ·exact .inl ⟨e,K3 _ zb e⟩
 ·have h3:=FX (decide (n<0)!=decide (d<0)) (show ky n.natAbs d.natAbs≠0 by omega);exact .inr ⟨h3.1,h3.2,.inl e⟩
theorem Pf{l:List Int}{n:Int}(h1:1<=n)(h2:n<=45)(h:bi l=true):okF (dh l n):=by
 unfold dh;rw [if_neg (by simp [h];omega)];exact PE zb
theorem Ma{n d m:Int}(h:fB n d m=true):az n d=true/\2<=m/\m<=4:=by
 simp only [fB,Bool.and_eq_true,decide_eq_true_eq]at h;exact⟨h.1.1.1.1.1,h.1.1.2,h.1.2⟩
structure Ins where
 op:Int
 a:Int
 n:Int
 d:Int
instance:Inhabited Ins:=⟨⟨0,0,0,0⟩⟩
def opF(op:Int):Int:=if op=6 then 4 else if op=7 then 5 else if op=8 then 6 else if 9<=op/\op<=18 then op-2 else if op=19 then 19 else if op=20 then 20 else 0
def aB(op:Int):Nat:=if op=4\/op=5\/op=6 then 1 else 2
def jC:List Int:=[2,2,2,3,3,3,3,3,3,3,4]
def wfF(m n i:Nat)(x:Ins):Bool:=
 if x.op=1 then decide (x.a=2\/x.a=3\/x.a=4)&&az x.n x.d
 else if ¬(x.n=0/\x.d=0)then false
 else if x.op=2 then decide (0<=x.a/\x.a<11)
 else if x.op=3\/x.op=4 then decide (0<=x.a/\x.a<m)
 else if x.op=5 then decide (1<=x.a/\x.a<=45)
 else if x.op=21\/x.op=22 then decide ((i:Int)<x.a/\x.a<=n)
 else if x.op=23\/x.op=24 then decide (x.a=0)
 else decide (opF x.op≠0/\x.a=0)
def dK(l:List Ins):List Nat:=(l.filter fun x=>decide (x.op=4)).map fun x=>x.a.toNat
def dX(sl:List ByteArray):Bool:=decide (sl.length<=12)&&sl.all isWord&&decide sl.Nodup
def fA(l:List Ins)(sl:List ByteArray):Bool:=
 decide (l.length<=4000)&&(List.range l.length).all (fun i=>wfF sl.length l.length i (l.getD i default))&&(dX sl&&decide (dK l).Nodup)

section
variable (S : List (Option (List Int × List Bool))) (T : List (Option (List Int × List Int)))
def bN(x:Ins)(s:List Int × List Bool)(dims:List Int):Option ((List Int × List Bool) × List Int):=
 if x.op=1 then some ((s.1++[x.a],s.2),dims)
 else if x.op=2 then some ((s.1++[jC.getD x.a.toNat 0],s.2),dims)
 else if x.op=5 then some ((s.1++[4],s.2),dims)
 else if x.op=23\/x.op=24 then some ((s.1++[1],s.2),dims)
 else if x.op=3 then(if s.2.getD x.a.toNat false=true then some ((s.1++[dims.getD x.a.toNat 0],s.2),dims)else none)
 else if x.op=4 then(if s.1= []then none else some ((s.1.dropLast,s.2.set x.a.toNat true),dims.set x.a.toNat (s.1.getLastD 0)))
 else if x.op=22 then(if s.1= []\/s.1.getLastD 0≠1 then none else some ((s.1.dropLast,s.2),dims))
 else if x.op=21 then some (s,dims)
 else if s.1.length<aB (opF x.op)then none
 else if ag (opF x.op) (s.1.drop (s.1.length-aB (opF x.op)))=0 then none
 else some ((s.1.take (s.1.length-aB (opF x.op))++[ag (opF x.op) (s.1.drop (s.1.length-aB (opF x.op)))],s.2),dims)
def fG(k:Nat)(s:List Int × List Bool):Option (List (Option (List Int × List Bool))):=
 match S.getD k none with
 |none=>some (S.set k (some s))
 |some t=>if t.1=s.1 then some (S.set k (some (t.1,zipWith (· && ·) t.2 s.2)))else none
def iU(x:Ins)(i:Nat)(dims:List Int)(dep:Nat):Option (List (Option (List Int × List Bool)) × List Int × Nat):=
 match S.getD i none with
 |none=>none
 |some s=>match bN x s dims with
  |none=>none
  |some (s',dims')=>
   if 24<s'.1.length then none
   else match (if x.op=21 then some S else fG S (i+1) s')with
   |none=>none
   |some S1=>match (if x.op=21\/x.op=22 then fG S1 x.a.toNat s' else some S1)with
    |none=>none
    |some S2=>some (S2,dims',max dep s'.1.length)
def goA:List Ins->Nat->List (Option (List Int × List Bool))->List Int->Nat->Int × Int
 | [],i,S,_,dep=>match S.getD i none with
   |none=>((dep:Int),0)
   |some s=>if s.1= []then((dep:Int),0)else(0,8)
 |x::r,i,S,dims,dep=>match iU S x i dims dep with
  |none=>(0,8)
  |some (S',dims',dep')=>goA r (i+1) S' dims' dep'
def dO(l:List Ins)(sl:List ByteArray):Int × Int:=
 if fA l sl=true then goA l 0 (some ([],List.replicate 12 false)::List.replicate l.length none) (List.replicate 12 0) 0 else(0,8)

def gJ(x:Ins)(s:List Int × List Int):Option (List Int × List Int):=
 if x.op=1 then some (s.1++[x.a],s.2)
 else if x.op=2 then some (s.1++[jC.getD x.a.toNat 0],s.2)
 else if x.op=5 then some (s.1++[4],s.2)
 else if x.op=23\/x.op=24 then some (s.1++[1],s.2)
 else if x.op=3 then(if s.2.getD x.a.toNat 0=0 then none else some (s.1++[s.2.getD x.a.toNat 0],s.2))
 else if x.op=4 then(if s.1= []then none else some (s.1.dropLast,s.2.set x.a.toNat (s.1.getLastD 0)))
 else if x.op=22 then(if s.1= []\/s.1.getLastD 0≠1 then none else some (s.1.dropLast,s.2))
 else if x.op=21 then some s
 else if s.1.length<aB (opF x.op)then none
 else if ag (opF x.op) (s.1.drop (s.1.length-aB (opF x.op)))=0 then none
 else some (s.1.take (s.1.length-aB (opF x.op))++[ag (opF x.op) (s.1.drop (s.1.length-aB (opF x.op)))],s.2)
def gH(k:Nat)(s:List Int × List Int):Option (List (Option (List Int × List Int))):=
 match T.getD k none with
 |none=>some (T.set k (some s))
 |some t=>if t.1=s.1 then some (T.set k (some (t.1,zipWith (fun a b=>if b=0 then 0 else a) t.2 s.2)))else none
def nC(x:Ins)(i:Nat):Option (List (Option (List Int × List Int))):=
 match T.getD i none with
 |none=>none
 |some s=>match gJ x s with
  |none=>none
  |some s'=>
   if x.op=21 then gH T x.a.toNat s'
   else match (if x.op=22 then gH T x.a.toNat s' else some T)with
   |none=>none
   |some T1=>if 24<s'.1.length then none else gH T1 (i+1) s'
def goB:List Ins->Nat->List (Option (List Int × List Int))->Nat->Int × Int
 | [],i,T,dep=>match T.getD i none with
   |none=>(0,8)
   |some s=>if s.1= []then((dep:Int),0)else(0,8)
 |x::r,i,T,dep=>match T.getD i none with
  |none=>(0,8)
  |some s=>match nC T x i with
   |none=>(0,8)
   |some T'=>goB r (i+1) T' (max dep s.1.length)
def nZ(l:List Ins)(sl:List ByteArray):Int × Int:=
 if fA l sl=true then goB l 0 (some ([],List.replicate sl.length 0)::List.replicate l.length none) 0 else(0,8)
end

theorem ay{α:Type}(l:List α)(k j:Nat)(a d:α):(l.set k a).getD j d=if k=j/\j<l.length then a else l.getD j d:=by
 simp only [getD_eq_getElem?_getD,getElem?_set];by_cases h:k=j
 ·subst h;by_cases h2:k<l.length
  ·simp [h2]
  ·simp [h2,getElem?_eq_none (Nat.le_of_not_lt h2)]
 ·simp [h]
theorem tF{α β γ:Type}(f:α->β->γ)(a:List α)(b:List β)(k:Nat)(x:α)(y:β)(z:γ)(h1:k<a.length)(h2:k<b.length):(zipWith f a b).getD k z=f (a.getD k x) (b.getD k y):=by
 simp [getD_eq_getElem?_getD,getElem?_zipWith,getElem?_eq_getElem h1,getElem?_eq_getElem h2]
theorem jW{a b:List Bool}{k:Nat}(h:(zipWith (· && ·) a b).getD k false=true):a.getD k false=true/\b.getD k false=true:=by
 have hl:k<(zipWith (· && ·) a b).length:=by
  exact Rh
 rw [length_zipWith]at hl;rw [tF _ a b k false false false zb zb]at h;simpa using h
structure Agr(m:Nat)(D:Nat->Bool)(dims:List Int)(s:List Int × List Bool)(t:List Int × List Int):Prop where
 stk:t.1=s.1
 l1:s.2.length=12
 l2:t.2.length=m
 slot:∀k,k<m->t.2.getD k 0=if s.2.getD k false=true then dims.getD k 0 else 0
 pos:∀z∈s.1,1<=z
 dpos:∀k,k<m->s.2.getD k false=true->1<=dims.getD k 0
 done:∀k,s.2.getD k false=true->D k=true
def PD(m:Nat)(D:Nat->Bool)(dims:List Int):Option (List Int × List Bool)->Option (List Int × List Int)->Prop
 |none,none=>True
 |some s,some t=>Agr m D dims s t/\s.1.length<=24
 |_,_=>False
def Dt(m:Nat)(D:Nat->Bool)(dims:List Int)(S:List (Option (List Int × List Bool)))(T:List (Option (List Int × List Int))):Prop:=
 S.length=T.length/\∀k,PD m D dims (S.getD k none) (T.getD k none)
section
variable {m : Nat} {D D' : Nat -> Bool} {dims : List Int} {S S' : List (Option (List Int × List Bool))} {T : List (Option (List Int × List Int))} {x : Ins} {s s' : List Int × List Bool} {t : List Int × List Int}
theorem Dt.both(h:Dt m D dims S T)(i:Nat):(S.getD i none=none/\T.getD i none=none)\/∃s t,S.getD i none=some s/\T.getD i none=some t/\Agr m D dims s t/\s.1.length<=24:=by
 have:=h.2 i;cases hs:S.getD i none<;>cases ht:T.getD i none<;>rw [hs,ht]at this
 ·exact .inl ⟨rfl,rfl⟩
 ·exact this.elim
 ·exact this.elim
 ·exact .inr ⟨_,_,rfl,rfl,this⟩
theorem Agr.mono{a:Nat}{z:Int}(h:Agr m D dims s t)(hD:∀k,D k=true->D' k=true)(ha:D a=false):Agr m D' (dims.set a z) s t:=by
 have hne:∀k,s.2.getD k false=true->a≠k:=fun k hk e=>by
  subst e;rw [h.done a hk]at ha;cases ha
 refine⟨h.stk,h.l1,h.l2,fun k hk=>?_,h.pos,fun k hk hb=>?_,fun k hb=>hD k (h.done k hb)⟩
 ·rw [h.slot k hk]
  split
  ·rename_i hb
   rw [ay,if_neg (fun e=>hne k hb e.1)]
  ·rfl
 ·rw [ay,if_neg (fun e=>hne k hb e.1)];exact h.dpos k hk hb
theorem Agr.mono0(h:Agr m D dims s t)(hD:∀k,D k=true->D' k=true):Agr m D' dims s t:=⟨h.stk,h.l1,h.l2,h.slot,h.pos,h.dpos,fun k hb=>hD k (h.done k hb)⟩
theorem PD.imp{D':Nat->Bool}{dims':List Int}{a:Option (List Int × List Bool)}{b:Option (List Int × List Int)}(h:PD m D dims a b)(hi:∀s t,Agr m D dims s t->Agr m D' dims' s t):PD m D' dims' a b:=by
 cases a<;>cases b<;>first|exact h|exact⟨hi _ _ h.1,h.2⟩
theorem Agr.push(h:Agr m D dims s t){z:Int}(hz:1<=z):Agr m D dims (s.1++[z],s.2) (t.1++[z],t.2):=
 ⟨by rw [h.stk],h.l1,h.l2,h.slot,fun y hy=>by rcases mem_append.1 hy with hy|hy;· exact h.pos y hy
                                              ·obtain rfl:y=z:=by simpa using hy
                                               exact hz,h.dpos,h.done⟩
theorem Agr.stack(h:Agr m D dims s t){l:List Int}(hl:∀z∈l,1<=z):Agr m D dims (l,s.2) (l,t.2):=⟨rfl,h.l1,h.l2,h.slot,hl,h.dpos,h.done⟩
theorem Lv{k:Nat}(h:k<11):1<=jC.getD k 0:=by
 have key:∀k,k<11->(1:Int)<=jC.getD k 0:=by decide
 exact key k h
theorem sW{l:List Int}(h:l≠[]):l.getLastD 0∈l:=by
 exact Rj
theorem rW{op:Int}{d:List Int}(hd:∀z∈d,1<=z)(h:ag op d≠0):1<=ag op d:=by
 have h0:∀k,0<=d.getD k 0:=fun k=>by
  exact Ru
 have a0:=h0 0;have b0:=h0 1;have c0:=h0 2;revert h;unfold ag;dsimp only;generalize d.getD 0 0=a at *;generalize d.getD 1 0=b at *;generalize d.getD 2 0=c at *;intro h
 repeat' split at h
 all_goals omega
theorem Pk{n i:Nat}(hm:m<=12)(hx:wfF m n i x=true)(h:Agr m D dims s t)(hd:dims.length=12)(hset:x.op=4->D x.a.toNat=false)(hD:∀k,D' k=(D k || (decide (x.op=4)&&decide (k=x.a.toNat)))) :
 (bN x s dims=none/\gJ x t=none)\/∃s' dims' t',bN x s dims=some (s',dims')/\gJ x t=some t'/\Agr m D' dims' s' t'/\dims'.length=12/\(∀u v,Agr m D dims u v->Agr m D' dims' u v)/\(x.op=21->s'=s):=by
 have hmo:∀k,D k=true->D' k=true:=fun k hk=>by rw [hD,hk];rfl
 have hk:∀u v,Agr m D dims u v->Agr m D' dims u v:=fun u v hu=>hu.mono0 hmo;unfold wfF at hx;unfold bN gJ;by_cases h1:x.op=1
 ·rw [if_pos h1]at hx;simp only [if_pos h1];refine .inr ⟨_,_,_,rfl,rfl,hk _ _ (h.push ?_),hd,hk,by omega⟩;simp at hx;omega
 rw [if_neg h1]at hx;simp only [if_neg h1];by_cases hz:¬(x.n=0/\x.d=0)
 ·rw [if_pos hz]at hx;cases hx
 rw [if_neg hz]at hx;by_cases h2:x.op=2
 ·rw [if_pos h2]at hx;simp only [if_pos h2];refine .inr ⟨_,_,_,rfl,rfl,hk _ _ (h.push (Lv ?_)),hd,hk,by omega⟩;simp at hx;omega
 rw [if_neg h2]at hx;simp only [if_neg h2];by_cases h5:x.op=5
 ·simp only [if_pos h5];exact .inr ⟨_,_,_,rfl,rfl,hk _ _ (h.push zb),hd,hk,by omega⟩
 simp only [if_neg h5];by_cases h23:x.op=23\/x.op=24
 ·simp only [if_pos h23];exact .inr ⟨_,_,_,rfl,rfl,hk _ _ (h.push zb),hd,hk,by omega⟩
 simp only [if_neg h23];by_cases h3:x.op=3
 ·rw [if_pos (.inl h3)]at hx;have ha:x.a.toNat<m:=by simp at hx;omega
  simp only [if_pos h3];rw [h.slot _ ha];by_cases hb:s.2.getD x.a.toNat false=true
  ·have:=h.dpos _ ha hb;rw [if_pos hb,if_pos hb,if_neg zb];exact .inr ⟨_,_,_,rfl,rfl,hk _ _ (h.push this),hd,hk,by omega⟩
  ·rw [if_neg hb,if_neg hb,if_pos rfl];exact .inl ⟨rfl,rfl⟩
 simp only [if_neg h3];by_cases h4:x.op=4
 ·rw [if_pos (.inr h4)]at hx;have ha:x.a.toNat<m:=by simp at hx;omega
  have hDa:=hset h4;simp only [if_pos h4];rw [h.stk];by_cases he:s.1= []
  ·rw [if_pos he,if_pos he];exact .inl ⟨rfl,rfl⟩
  rw [if_neg he,if_neg he];have hl:=h.pos _ (sW he);refine .inr ⟨_,_,_,rfl,rfl,⟨rfl,by rw [length_set];exact h.l1,by rw [length_set];exact h.l2,fun k hk=>?_,fun z hz=>h.pos z (dropLast_subset _ hz),fun k hk hb=>?_,fun k hb=>?_⟩,by rw [length_set];exact hd,fun u v hu=>hu.mono hmo hDa,by omega⟩
  ·simp only [ay,h.l1,h.l2,hd];by_cases e:x.a.toNat=k
   ·have e1:(if x.a.toNat=k/\k<12 then true else s.2.getD k false)=true:=if_pos ⟨e,by omega⟩;rw [if_pos ⟨e,hk⟩,if_pos e1,if_pos ⟨e,by omega⟩]
   ·have e1:(if x.a.toNat=k/\k<12 then true else s.2.getD k false)=s.2.getD k false:=if_neg (fun c=>e c.1);have e3:(if x.a.toNat=k/\k<12 then s.1.getLastD 0 else dims.getD k 0)=dims.getD k 0:=if_neg (fun c=>e c.1);rw [if_neg (fun c=>e c.1),e1,e3];exact h.slot k hk
  ·simp only [ay,h.l1,hd]at hb ⊢;by_cases e:x.a.toNat=k
   ·rw [if_pos ⟨e,by omega⟩];exact hl
   ·rw [if_neg (fun c=>e c.1)]at hb ⊢;exact h.dpos k hk hb
  ·rw [hD];simp only [ay]at hb;by_cases e:x.a.toNat=k
   ·rw [decide_eq_true h4,decide_eq_true e.symm];simp
   ·rw [if_neg (fun c=>e c.1)]at hb;rw [h.done k hb];rfl
 simp only [if_neg h4];by_cases h22:x.op=22
 ·simp only [if_pos h22];rw [h.stk];by_cases he:s.1= []\/s.1.getLastD 0≠1
  ·rw [if_pos he,if_pos he];exact .inl ⟨rfl,rfl⟩
  ·rw [if_neg he,if_neg he];exact .inr ⟨_,_,_,rfl,rfl,hk _ _ (h.stack fun z hz=>h.pos z (dropLast_subset _ hz)),hd,hk,by omega⟩
 simp only [if_neg h22];by_cases h21:x.op=21
 ·simp only [if_pos h21];exact .inr ⟨_,_,_,rfl,rfl,hk _ _ h,hd,hk,fun _=>rfl⟩
 simp only [if_neg h21];rw [h.stk];by_cases hn:s.1.length<aB (opF x.op)
 ·rw [if_pos hn,if_pos hn];exact .inl ⟨rfl,rfl⟩
 rw [if_neg hn,if_neg hn];by_cases hr:ag (opF x.op) (s.1.drop (s.1.length-aB (opF x.op)))=0
 ·rw [if_pos hr,if_pos hr];exact .inl ⟨rfl,rfl⟩
 rw [if_neg hr,if_neg hr];have hp:=rW (fun z hz=>h.pos z (mem_of_mem_drop hz)) hr;have h':=(h.stack (l:=s.1.take (s.1.length-aB (opF x.op))) fun z hz=>h.pos z (mem_of_mem_take hz)).push hp;exact .inr ⟨_,_,_,rfl,rfl,hk _ _ h',hd,hk,fun e=>absurd e h21⟩
theorem qY(hm:m<=12)(hL:Dt m D dims S T)(h:Agr m D dims s t)(hf:s.1.length<=24)(k:Nat) :
 (fG S k s=none/\gH T k t=none)\/∃S' T',fG S k s=some S'/\gH T k t=some T'/\Dt m D dims S' T':=by
 unfold fG gH;rcases hL.both k with ⟨e1,e2⟩|⟨u,v,e1,e2,hu,hf'⟩
 ·rw [e1,e2];refine .inr ⟨_,_,rfl,rfl,by rw [length_set,length_set];exact hL.1,fun j=>?_⟩;rw [ay,ay,hL.1]
  split
  ·exact⟨h,hf⟩
  ·exact hL.2 j
 ·rw [e1,e2];simp only [h.stk,hu.stk];by_cases he:u.1=s.1
  ·rw [if_pos he,if_pos he];refine .inr ⟨_,_,rfl,rfl,by rw [length_set,length_set];exact hL.1,fun j=>?_⟩;rw [ay,ay,hL.1]
   split
   ·refine⟨⟨rfl,by rw [length_zipWith,hu.l1,h.l1];rfl,by rw [length_zipWith,hu.l2,h.l2];omega,fun k hk=>?_,hu.pos,fun k hk hb=>hu.dpos k hk (jW hb).1,fun k hb=>hu.done k (jW hb).1⟩,hf'⟩;have z1:=h.l1;have z2:=h.l2;have z3:=hu.l1;have z4:=hu.l2;rw [tF _ _ _ k 0 0 0 zb zb,tF _ _ _ k false false false zb zb,h.slot k hk,hu.slot k hk];have q1:=h.dpos k hk;cases b1:s.2.getD k false<;>cases b2:u.2.getD k false<;>simp
    rw [b1]at q1;intro e;have:=q1 rfl;omega
   ·exact hL.2 j
  ·rw [if_neg he,if_neg he];exact .inl ⟨rfl,rfl⟩
theorem GM(a b:Nat)(t:List Int × List Int):(match gH T a t with|none=>none|some T1=>gH T1 b t)=(match gH T b t with|none=>none|some T1=>gH T1 a t):=by
 by_cases hab:a=b
 ·subst hab;rfl
 have g:∀(c d:Nat) (w:Option (List Int × List Int)),c≠d->(T.set c w).getD d none=T.getD d none:=fun c d w hcd=>by
  rw [ay,if_neg (fun e=>hcd e.1)]
 unfold gH
 cases ha:T.getD a none with
 |none=>
  cases hb:T.getD b none with
  |none=>simp only [g _ _ _ hab,g _ _ _ (Ne.symm hab),ha,hb];rw [set_comm _ _ hab]
  |some v=>
   simp only [g _ _ _ hab,ha,hb];by_cases e:v.1=t.1
   ·simp only [if_pos e,g _ _ _ (Ne.symm hab),ha];rw [set_comm _ _ hab]
   ·simp only [if_neg e]
 |some u=>
  cases hb:T.getD b none with
  |none=>
   simp only [g _ _ _ (Ne.symm hab),ha,hb];by_cases e:u.1=t.1
   ·simp only [if_pos e,g _ _ _ hab,hb];rw [set_comm _ _ hab]
   ·simp only [if_neg e]
  |some v=>
   by_cases e:u.1=t.1
   ·by_cases e':v.1=t.1
    ·simp only [if_pos e,if_pos e',g _ _ _ hab,g _ _ _ (Ne.symm hab),ha,hb];rw [set_comm _ _ hab]
    ·simp only [if_pos e,if_neg e',g _ _ _ hab,hb]
   ·by_cases e':v.1=t.1
    ·simp only [if_neg e,if_pos e',g _ _ _ (Ne.symm hab),ha]
    ·simp only [if_neg e,if_neg e']
theorem jd{k:Nat}(h:fG S k s=some S'):S'.length=S.length/\(∀j u,S.getD j none=some u->∃v,S'.getD j none=some v/\v.1=u.1)/\(k<S.length->∃v,S'.getD k none=some v/\v.1=s.1)/\
 ∀j v,S'.getD j none=some v->v.1=s.1\/∃u,S.getD j none=some u/\u.1=v.1:=by
 unfold fG at h
 cases hk:S.getD k none with
 |none=>
  rw [hk]at h;obtain rfl:=Option.some.inj h;refine⟨length_set ..,fun j u hu=>?_,fun hl=>?_,fun j v hv=>?_⟩
  ·by_cases e:k=j
   ·subst e;rw [hk]at hu;cases hu
   ·rw [ay,if_neg (fun c=>e c.1)];exact⟨u,hu,rfl⟩
  ·rw [ay,if_pos ⟨rfl,hl⟩];exact⟨s,rfl,rfl⟩
  ·rw [ay]at hv
   split at hv
   ·obtain rfl:=Option.some.inj hv;exact .inl rfl
   ·exact .inr ⟨v,hv,rfl⟩
 |some t=>
  rw [hk]at h;by_cases e:t.1=s.1
  ·simp only [if_pos e]at h;obtain rfl:=Option.some.inj h;refine⟨length_set ..,fun j u hu=>?_,fun hl=>?_,fun j v hv=>?_⟩
   ·rw [ay]
    split
    ·rename_i c
     obtain rfl:=c.1;rw [hk]at hu;obtain rfl:=Option.some.inj hu;exact⟨_,rfl,rfl⟩
    ·exact⟨u,hu,rfl⟩
   ·rw [ay,if_pos ⟨rfl,hl⟩];exact⟨_,rfl,e⟩
   ·rw [ay]at hv
    split at hv
    ·obtain rfl:=Option.some.inj hv;exact .inl e
    ·exact .inr ⟨v,hv,rfl⟩
  ·simp only [if_neg e]at h;cases h
end
section
variable {m : Nat} {D D' : Nat -> Bool} {dims : List Int} {S : List (Option (List Int × List Bool))} {T : List (Option (List Int × List Int))} {x : Ins}
theorem Nl{n i dep:Nat}(hm:m<=12)(hx:wfF m n i x=true)(hL:Dt m D dims S T)(hd:dims.length=12)(hset:x.op=4->D x.a.toNat=false)(hD:∀k,D' k=(D k || (decide (x.op=4)&&decide (k=x.a.toNat))))(hn:S.length=n+1)(hi:i<n) :
 (iU S x i dims dep=none/\(T.getD i none=none\/nC T x i=none))\/
 ∃S' dims' p T' s t,iU S x i dims dep=some (S',dims',max dep p)/\S.getD i none=some s/\T.getD i none=some t/\t.1=s.1/\nC T x i=some T'/\Dt m D' dims' S' T'/\dims'.length=12/\S'.length=S.length/\
  (∀j u,S.getD j none=some u->∃v,S'.getD j none=some v/\v.1=u.1)/\(∃j v,i<j/\S'.getD j none=some v/\v.1.length=p)/\
  ∀j v,S'.getD j none=some v->v.1.length=p\/∃u,S.getD j none=some u/\u.1=v.1:=by
 have ha:x.op=21\/x.op=22->i<x.a.toNat/\x.a.toNat<S.length:=fun h=>by
  unfold wfF at hx;rw [if_neg zb]at hx;by_cases hz:¬(x.n=0/\x.d=0)
  ·rw [if_pos hz]at hx;cases hx
  rw [if_neg hz,if_neg zb,if_neg zb,if_neg zb,if_pos h]at hx;simp at hx;omega
 unfold iU nC;rcases hL.both i with ⟨e1,e2⟩|⟨s,t,e1,e2,hst,hf⟩
 ·rw [e1,e2];exact .inl ⟨rfl,.inl rfl⟩
 rw [e1,e2];rcases Pk hm hx hst hd hset hD with ⟨a1,a2⟩|⟨s',dims',t',a1,a2,hst',hd',hmo,h21⟩
 ·exact .inl ⟨by simp only [a1],.inr (by simp only [a2])⟩
 simp only [a1,a2];have hL':Dt m D' dims' S T:=⟨hL.1,fun k=>(hL.2 k).imp hmo⟩;rw [hst'.stk];by_cases hf':24<s'.1.length
 ·rw [if_pos hf'];refine .inl ⟨rfl,.inr ?_⟩;by_cases c:x.op=21
  ·rw [h21 c]at hf';omega
  ·rw [if_neg c]
   split
   ·rfl
   ·rw [if_pos hf']
 rw [if_neg hf'];by_cases c:x.op=21
 ·have⟨k1,k2⟩:=ha (.inl c);simp only [if_pos c,if_pos (show x.op=21\/x.op=22 from .inl c)];rcases qY hm hL' hst' zb x.a.toNat with ⟨b1,b2⟩|⟨S',T',b1,b2,hL2⟩
  ·rw [b1,b2];exact .inl ⟨rfl,.inr rfl⟩
  ·rw [b1,b2];obtain⟨q1,q2,q3,q4⟩:=jd b1;obtain⟨v,hv,hv1⟩:=q3 k2;exact .inr ⟨S',dims',s'.1.length,T',s,t,rfl,rfl,rfl,hst.stk,rfl,hL2,hd',q1,q2,⟨_,v,k1,hv,by rw [hv1]⟩,fun j v hv=>(q4 j v hv).imp (fun e=>by rw [e]) id⟩
 simp only [if_neg c];by_cases c2:x.op=22
 ·have⟨k1,k2⟩:=ha (.inr c2);simp only [if_pos c2,if_pos (show x.op=21\/x.op=22 from .inr c2),if_neg hf'];have hco:(match gH T x.a.toNat t' with|none=>none|some T1=>gH T1 (i+1) t')=(match gH T (i+1) t' with|none=>none|some T1=>gH T1 x.a.toNat t'):=GM _ _ _;rw [hco];rcases qY hm hL' hst' zb (i+1)with ⟨b1,b2⟩|⟨S1,T1,b1,b2,hL2⟩
  ·rw [b1,b2];exact .inl ⟨rfl,.inr rfl⟩
  rw [b1,b2];simp only;rcases qY hm hL2 hst' zb x.a.toNat with ⟨d1,d2⟩|⟨S',T',d1,d2,hL3⟩
  ·rw [d1,d2];exact .inl ⟨rfl,.inr rfl⟩
  rw [d1,d2];obtain⟨q1,q2,q3,q4⟩:=jd b1;obtain⟨r1,r2,r3,r4⟩:=jd d1;obtain⟨v,hv,hv1⟩:=r3 zb;refine .inr ⟨S',dims',s'.1.length,T',s,t,rfl,rfl,rfl,hst.stk,rfl,hL3,hd',by omega,fun j u hu=>?_,⟨_,v,k1,hv,by rw [hv1]⟩,fun j v hv=>?_⟩
  ·obtain⟨v,hv,e⟩:=q2 j u hu;obtain⟨v',hv',e'⟩:=r2 j v hv;exact⟨v',hv',e'.trans e⟩
  ·rcases r4 j v hv with e|⟨u,hu,e⟩
   ·exact .inl (by rw [e])
   rcases q4 j u hu with e'|⟨u',hu',e'⟩
   ·exact .inl (by rw [<-e,e'])
   ·exact .inr ⟨u',hu',e'.trans e⟩
 ·simp only [if_neg c2,if_neg (show ¬(x.op=21\/x.op=22)by omega),if_neg hf'];rcases qY hm hL' hst' zb (i+1)with ⟨b1,b2⟩|⟨S',T',b1,b2,hL2⟩
  ·rw [b1,b2];exact .inl ⟨rfl,.inr rfl⟩
  ·rw [b1,b2];obtain⟨q1,q2,q3,q4⟩:=jd b1;obtain⟨v,hv,hv1⟩:=q3 zb;exact .inr ⟨S',dims',s'.1.length,T',s,t,rfl,rfl,rfl,hst.stk,rfl,hL2,hd',q1,q2,⟨_,v,by omega,hv,by rw [hv1]⟩,fun j v hv=>(q4 j v hv).imp (fun e=>by rw [e]) id⟩
end
theorem oO{α:Type}{l:List (Option α)}{j:Nat}{u:α}(h:l.getD j none=some u):j<l.length:=by
 exact Rh
theorem fZ(x:Ins)(r:List Ins):dK (x::r)=if x.op=4 then x.a.toNat::dK r else dK r:=by
 unfold dK;rw [filter_cons];by_cases h:x.op=4<;>simp [h]
theorem QS{m n:Nat}(hm:m<=12):∀(r:List Ins) (i:Nat) (D:Nat->Bool) (S:List (Option (List Int × List Bool))) (T:List (Option (List Int × List Int))) (dims:List Int) (da db:Nat),
 (∀k,k<r.length->wfF m n (i+k) (r.getD k default)=true)->(dK r).Nodup->(∀a∈dK r,D a=false)->Dt m D dims S T->dims.length=12->S.length=n+1->i+r.length=n->
 (∀j u,S.getD j none=some u->u.1.length<=da)->db<=da->(da<=db\/∃j u,i<=j/\S.getD j none=some u/\da<=u.1.length)->(r= []->∃u,S.getD i none=some u)->goA r i S dims da=goB r i T db:=by
 intro r
 induction r with
 |nil=>
  intro i D S T dims da db _ _ _ hL _ hn hin h1 h2 h3 h4;obtain⟨u,hu⟩:=h4 rfl;rw [goA,goB];rcases hL.both i with ⟨e1,-⟩|⟨s,t,e1,e2,hst,-⟩
  ·rw [hu]at e1;cases e1
  rw [e1,e2];simp only [hst.stk];by_cases he:s.1= []
  ·rw [if_pos he,if_pos he]
   have:da=db:=by
    rcases h3 with h3|⟨j,u2,hj,hu2,hl⟩
    ·omega
    ·have:=oO hu2;obtain rfl:j=i:=by simp at hin;omega
     rw [e1]at hu2;rw [<-Option.some.inj hu2,he]at hl;simp at hl;omega
   rw [this]
  ·rw [if_neg he,if_neg he]
 |cons x r ih=>
  intro i D S T dims da db hwf hnd hsD hL hd hn hin h1 h2 h3 _;simp only [length_cons]at hin;have hx:=hwf 0 ze;rw [Nat.add_zero]at hx;replace hx:wfF m n i x=true:=hx;have hset:x.op=4->D x.a.toNat=false:=fun h=>hsD _ xI;rw [goA,goB];rcases Nl (D':=fun k=>D k || (decide (x.op=4)&&decide (k=x.a.toNat))) (dep:=da) hm hx hL hd hset (fun _=>rfl) hn zb with ⟨a1,a2⟩|⟨S',dims',p,T',s,t,a1,e1,e2,e3,a2,hL',hd',hl',k1,⟨j,v,hij,hv,hp⟩,k4⟩
  ·rw [a1];rcases a2 with a2|a2
   ·rw [a2]
   ·rw [a2];cases T.getD i none<;>rfl
  rw [a1,e2,a2];simp only [e3];have hjl:=oO hv;refine ih (i+1) _ S' T' dims' (max da p) (max db s.1.length) (fun k hk=>?_) ?_ (fun a ha=>?_) hL' hd' zb zb (fun j u hu=>?_) ?_ ?_ (fun hr=>?_)
  ·have:=hwf (k+1) zg;rw [show i+1+k=i+(k+1)by omega];exact this
  ·rw [fZ]at hnd
   split at hnd
   ·exact(nodup_cons.1 hnd).2
   ·exact hnd
  ·rw [fZ]at hnd hsD;by_cases h:x.op=4
   ·rw [if_pos h]at hnd hsD;have h5:a≠x.a.toNat:=fun e=>by subst e;exact(nodup_cons.1 hnd).1 ha
    rw [hsD a (mem_cons_of_mem _ ha),decide_eq_false h5];simp
   ·rw [if_neg h]at hsD;rw [hsD a ha,decide_eq_false h];rfl
  ·rcases k4 j u hu with e|⟨u',hu',e⟩
   ·omega
   ·have:=h1 j u' hu';rw [e]at this;omega
  ·have:=h1 i s e1;omega
  ·by_cases hpd:da<=p
   ·exact .inr ⟨j,v,by omega,hv,by omega⟩
   rcases h3 with h3|⟨j2,u,hj2,hu,hl⟩
   ·exact .inl zb
   by_cases hje:j2=i
   ·subst hje;rw [e1]at hu;obtain rfl:=Option.some.inj hu;exact .inl zb
   ·obtain⟨v2,hv2,ev⟩:=k1 j2 u hu;exact .inr ⟨j2,v2,by omega,hv2,by rw [ev];omega⟩
  ·subst hr;simp only [length_nil]at hin;obtain rfl:j=i+1:=by omega
   exact⟨v,hv⟩
theorem JS(l:List Ins)(sl:List ByteArray):dO l sl=nZ l sl:=by
 unfold dO nZ;by_cases h:fA l sl=true
 ·rw [if_pos h,if_pos h];unfold fA dX at h;simp only [Bool.and_eq_true,decide_eq_true_eq,all_eq_true,mem_range]at h;obtain⟨⟨-,hwf⟩,⟨⟨hm,-⟩,-⟩,hnd⟩:=h
  have g1:∀k,k≠0->(some ([],List.replicate 12 false)::List.replicate l.length (none:Option (List Int × List Bool))).getD k none=none:=fun k hk=>by
   exact RF
  have g2:∀k,k≠0->(some ([],List.replicate sl.length 0)::List.replicate l.length (none:Option (List Int × List Int))).getD k none=none:=fun k hk=>by
   exact RF
  have gf:∀k,(List.replicate 12 false).getD k false=false:=fun k=>by
   exact Na
  refine QS hm l 0 (fun _=>false) _ _ _ 0 0 (fun k hk=>by rw [Nat.zero_add];exact hwf k hk) hnd (fun _ _=>rfl) ⟨by simp,fun k=>?_⟩ ze ze ze (fun j u hu=>?_) (Nat.le_refl _) (.inl (Nat.le_refl _)) (fun hr=>⟨_,rfl⟩)
  ·by_cases hk:k=0
   ·subst hk;refine⟨⟨rfl,by simp,by simp,fun k hk=>?_,fun z hz=>(by cases hz),fun k _ hb=>?_,fun k hb=>?_⟩,by simp⟩
    ·rw [gf,getD_eq_getElem?_getD,getElem?_replicate,if_neg (by decide:¬false=true)];split<;>rfl
    ·rw [gf]at hb;cases hb
    ·rw [gf]at hb;cases hb
   ·rw [g1 k hk,g2 k hk];trivial
  ·by_cases hk:j=0
   ·subst hk;obtain rfl:=Option.some.inj hu;exact Nat.le_refl _
   ·rw [g1 j hk]at hu;cases hu
 ·rw [if_neg h,if_neg h]
def jy(s:List Int × List Bool):Option (List Int × List Bool)->Prop
 |none=>False
 |some t=>t.1=s.1/\∀k,t.2.getD k false=true->s.2.getD k false=true
structure lF(l:List Ins)(m:Nat)(F:List (Option (List Int × List Bool)))(D:List Int):Prop where
 wf:∀i,i<l.length->wfF m l.length i (l.getD i default)=true
 m12:m<=12
 dlen:D.length=12
 zero:∃s,F.getD 0 none=some s/\s.1= []/\∀k,s.2.getD k false=false
 step:∀i,i<l.length->∃s s',F.getD i none=some s/\bN (l.getD i default) s D=some (s',D)/\s'.1.length<=24/\
  ((l.getD i default).op≠21->jy s' (F.getD (i+1) none))/\((l.getD i default).op=21\/(l.getD i default).op=22->jy s' (F.getD (l.getD i default).a.toNat none))
 last:∀s,F.getD l.length none=some s->s.1= []
def xS(P:Nat->Bool)(S:List (Option (List Int × List Bool))):Prop:=∀j s,S.getD j none=some s->∀k,s.2.getD k false=true->P k=true
theorem jy.refl{S:List (Option (List Int × List Bool))}{j:Nat}{s:List Int × List Bool}(h:S.getD j none=some s):jy s (S.getD j none):=by
 rw [h];exact⟨rfl,fun _ h=>h⟩
theorem jy.trans{s t:List Int × List Bool}{o:Option (List Int × List Bool)}(h:t.1=s.1/\∀k,t.2.getD k false=true->s.2.getD k false=true)(g:jy t o):jy s o:=by
 cases o with
 |none=>exact g
 |some u=>exact⟨g.1.trans h.1,fun k hk=>h.2 k (g.2 k hk)⟩
section
variable {S S' : List (Option (List Int × List Bool))} {s : List Int × List Bool}
theorem Bw{k:Nat}(h:fG S k s=some S'):(∀j,j≠k->S'.getD j none=S.getD j none)/\(∀j u,S.getD j none=some u->jy u (S'.getD j none))/\(k<S.length->jy s (S'.getD k none))/\
 ∀P:Nat->Bool,xS P S->(∀k,s.2.getD k false=true->P k=true)->xS P S':=by
 unfold fG at h
 cases hk:S.getD k none with
 |none=>
  rw [hk]at h;obtain rfl:=Option.some.inj h;refine⟨fun j hj=>by rw [ay,if_neg (fun c=>hj c.1.symm)],fun j u hu=>?_,fun hl=>?_,fun P hP hs j u hu=>?_⟩
  ·by_cases e:k=j
   ·subst e;rw [hk]at hu;cases hu
   ·rw [ay,if_neg (fun c=>e c.1)];exact .refl hu
  ·rw [ay,if_pos ⟨rfl,hl⟩];exact⟨rfl,fun _ h=>h⟩
  ·rw [ay]at hu
   split at hu
   ·obtain rfl:=Option.some.inj hu;exact hs
   ·exact hP j u hu
 |some t=>
  rw [hk]at h;by_cases e:t.1=s.1
  ·simp only [if_pos e]at h;obtain rfl:=Option.some.inj h;refine⟨fun j hj=>by rw [ay,if_neg (fun c=>hj c.1.symm)],fun j u hu=>?_,fun hl=>?_,fun P hP hs j u hu=>?_⟩
   ·rw [ay]
    split
    ·rename_i c
     obtain rfl:=c.1;rw [hk]at hu;obtain rfl:=Option.some.inj hu;exact⟨rfl,fun k hk=>(jW hk).1⟩
    ·exact .refl hu
   ·rw [ay,if_pos ⟨rfl,hl⟩];exact⟨e,fun k hk=>(jW hk).2⟩
   ·rw [ay]at hu
    split at hu
    ·obtain rfl:=Option.some.inj hu;exact fun k hk=>hs k (jW hk).2
    ·exact hP j u hu
  ·simp only [if_neg e]at h;cases h
end
theorem C9{m n i:Nat}{x:Ins}{s s':List Int × List Bool}{dims dims' D:List Int}{P:Nat->Bool}(hx:wfF m n i x=true)(hm:m<=12)(hdl:dims.length=12)(hDl:D.length=12)(h:bN x s dims=some (s',dims'))(hdone:∀k,s.2.getD k false=true->P k=true)
 (hD:∀k,(P k || (decide (x.op=4)&&decide (k=x.a.toNat)))=true->D.getD k 0=dims'.getD k 0) (hset:x.op=4->P x.a.toNat=false) :
 bN x s D=some (s',D)/\dims'.length=12/\(∀k,P k=true->dims'.getD k 0=dims.getD k 0)/\∀k,s'.2.getD k false=true->(P k || (decide (x.op=4)&&decide (k=x.a.toNat)))=true:=by
 have ha:x.op=4->x.a.toNat<12:=fun h4=>by
  unfold wfF at hx;rw [if_neg zb]at hx;by_cases hz:¬(x.n=0/\x.d=0)
  ·rw [if_pos hz]at hx;cases hx
  rw [if_neg hz,if_neg zb,if_pos (.inr h4)]at hx;simp at hx;omega
 have hor:∀k,s.2.getD k false=true->(P k || (decide (x.op=4)&&decide (k=x.a.toNat)))=true:=fun k hk=>by rw [hdone k hk];rfl
 unfold bN at h ⊢;by_cases h1:x.op=1
 ·simp only [if_pos h1]at h ⊢;obtain⟨rfl,rfl⟩:=Prod.mk.inj (Option.some.inj h);exact⟨rfl,hdl,fun _ _=>rfl,hor⟩
 simp only [if_neg h1]at h ⊢;by_cases h2:x.op=2
 ·simp only [if_pos h2]at h ⊢;obtain⟨rfl,rfl⟩:=Prod.mk.inj (Option.some.inj h);exact⟨rfl,hdl,fun _ _=>rfl,hor⟩
 simp only [if_neg h2]at h ⊢;by_cases h5:x.op=5
 ·simp only [if_pos h5]at h ⊢;obtain⟨rfl,rfl⟩:=Prod.mk.inj (Option.some.inj h);exact⟨rfl,hdl,fun _ _=>rfl,hor⟩
 simp only [if_neg h5]at h ⊢;by_cases h23:x.op=23\/x.op=24
 ·simp only [if_pos h23]at h ⊢;obtain⟨rfl,rfl⟩:=Prod.mk.inj (Option.some.inj h);exact⟨rfl,hdl,fun _ _=>rfl,hor⟩
 simp only [if_neg h23]at h ⊢;by_cases h3:x.op=3
 ·simp only [if_pos h3]at h ⊢;by_cases hb:s.2.getD x.a.toNat false=true
  ·rw [if_pos hb]at h ⊢;obtain⟨rfl,rfl⟩:=Prod.mk.inj (Option.some.inj h);rw [hD _ (hor _ hb)];exact⟨rfl,hdl,fun _ _=>rfl,hor⟩
  ·rw [if_neg hb]at h;cases h
 simp only [if_neg h3]at h ⊢;by_cases h4:x.op=4
 ·simp only [if_pos h4]at h ⊢;by_cases he:s.1= []
  ·rw [if_pos he]at h;cases h
  rw [if_neg he]at h ⊢;obtain⟨rfl,rfl⟩:=Prod.mk.inj (Option.some.inj h);have hset0:=hset h4
  have e:D.set x.a.toNat (s.1.getLastD 0)=D:=by
   have h7:=hD x.a.toNat (by rw [decide_eq_true h4];simp);rw [ay,if_pos ⟨rfl,by have:=ha h4;omega⟩]at h7;apply ext_getElem?;intro k;rw [getElem?_set]
   split
   ·rename_i ek
    subst ek;have hlt:=ha h4;rw [if_pos zb,getElem?_eq_getElem zb,<-h7,getD_eq_getElem?_getD,getElem?_eq_getElem zb];rfl
   ·rfl
  refine⟨by rw [e],by rw [length_set];exact hdl,fun k hk=>?_,fun k hk=>?_⟩
  ·rw [ay,if_neg];intro c;rw [<-c.1,hset0]at hk;cases hk
  ·rw [ay]at hk
   split at hk
   ·rename_i c
    rw [decide_eq_true h4,decide_eq_true c.1.symm];simp
   ·exact hor k hk
 simp only [if_neg h4]at h ⊢;by_cases h22:x.op=22
 ·simp only [if_pos h22]at h ⊢;by_cases he:s.1= []\/s.1.getLastD 0≠1
  ·rw [if_pos he]at h;cases h
  ·rw [if_neg he]at h ⊢;obtain⟨rfl,rfl⟩:=Prod.mk.inj (Option.some.inj h);exact⟨rfl,hdl,fun _ _=>rfl,fun k hk=>by have:=hor k hk;simpa [h4]using this⟩
 simp only [if_neg h22]at h ⊢;by_cases h21:x.op=21
 ·simp only [if_pos h21]at h ⊢;obtain⟨rfl,rfl⟩:=Prod.mk.inj (Option.some.inj h);exact⟨rfl,hdl,fun _ _=>rfl,fun k hk=>by have:=hor k hk;simpa [h4]using this⟩
 simp only [if_neg h21]at h ⊢;by_cases hn:s.1.length<aB (opF x.op)
 ·rw [if_pos hn]at h;cases h
 rw [if_neg hn]at h ⊢;by_cases hr:ag (opF x.op) (s.1.drop (s.1.length-aB (opF x.op)))=0
 ·rw [if_pos hr]at h;cases h
 rw [if_neg hr]at h ⊢;obtain⟨rfl,rfl⟩:=Prod.mk.inj (Option.some.inj h);exact⟨rfl,hdl,fun _ _=>rfl,fun k hk=>by have:=hor k hk;simpa [h4]using this⟩
theorem C8{x:Ins}{s s':List Int × List Bool}{dims dims':List Int}(hd:dims.length=12)(h:bN x s dims=some (s',dims')):dims'.length=12:=by
 unfold bN at h
 repeat' split at h
 all_goals first
  |(cases h;done)
  |(obtain⟨-,rfl⟩:=Prod.mk.inj (Option.some.inj h);first|exact hd|(rw [length_set];exact hd))
theorem GJ{S S':List (Option (List Int × List Bool))}{x:Ins}{i dep dep':Nat}{dims dims':List Int}(h:iU S x i dims dep=some (S',dims',dep')) :
 ∃s s' S1,S.getD i none=some s/\bN x s dims=some (s',dims')/\s'.1.length<=24/\(if x.op=21 then some S else fG S (i+1) s')=some S1/\(if x.op=21\/x.op=22 then fG S1 x.a.toNat s' else some S1)=some S':=by
 unfold iU at h
 cases h1:S.getD i none with
 |none=>rw [h1]at h;cases h
 |some s=>
  rw [h1]at h
  cases h2:bN x s dims with
  |none=>simp only [h2]at h;cases h
  |some r=>
   obtain⟨s',d'⟩:=r;simp only [h2]at h;by_cases h3:24<s'.1.length
   ·rw [if_pos h3]at h;cases h
   rw [if_neg h3]at h
   cases h4:(if x.op=21 then some S else fG S (i+1) s')with
   |none=>simp only [h4]at h;cases h
   |some S1=>
    simp only [h4]at h
    cases h5:(if x.op=21\/x.op=22 then fG S1 x.a.toNat s' else some S1)with
    |none=>simp only [h5]at h;cases h
    |some S2=>
     simp only [h5]at h;obtain⟨rfl,h6⟩:=Prod.mk.inj (Option.some.inj h);obtain⟨rfl,-⟩:=Prod.mk.inj h6;exact⟨s,s',S1,rfl,h2,by omega,h4,h5⟩
theorem LG{m n:Nat}(hm:m<=12):∀(r:List Ins) (i:Nat) (P:Nat->Bool) (S:List (Option (List Int × List Bool))) (dims:List Int) (dep:Nat) (d:Int),
 (∀k,k<r.length->wfF m n (i+k) (r.getD k default)=true)->(dK r).Nodup->(∀a∈dK r,P a=false)->xS P S->dims.length=12->S.length=n+1->i+r.length=n->goA r i S dims dep=(d,0)->
 ∃(F:List (Option (List Int × List Bool))) (D:List Int),D.length=12/\(∀j,j<=i->F.getD j none=S.getD j none)/\(∀j u,S.getD j none=some u->jy u (F.getD j none))/\(∀k,P k=true->D.getD k 0=dims.getD k 0)/\
  (∀k,k<r.length->∃s s',F.getD (i+k) none=some s/\bN (r.getD k default) s D=some (s',D)/\s'.1.length<=24/\
   ((r.getD k default).op≠21->jy s' (F.getD (i+k+1) none))/\((r.getD k default).op=21\/(r.getD k default).op=22->jy s' (F.getD (r.getD k default).a.toNat none)))/\
  ∀s,F.getD n none=some s->s.1= []:=by
 intro r
 induction r with
 |nil=>
  intro i P S dims dep d _ _ _ _ hd _ hin hgo;refine⟨S,dims,hd,fun _ _=>rfl,fun j u hu=>.refl hu,fun _ _=>rfl,fun k hk=>by simp at hk,fun s hs=>?_⟩;simp only [length_nil]at hin;obtain rfl:i=n:=by omega
  rw [goA,hs]at hgo;by_cases he:s.1= []
  ·exact he
  ·simp only [if_neg he]at hgo;cases(Prod.mk.inj hgo).2
 |cons x r ih=>
  intro i P S dims dep d hwf hnd hsP hdo hd hn hin hgo;simp only [length_cons]at hin;have hx:wfF m n i x=true:=hwf 0 ze;have hset:x.op=4->P x.a.toNat=false:=fun h=>hsP _ xI
  have hjmp:x.op=21\/x.op=22->i<x.a.toNat/\x.a.toNat<S.length:=fun h=>by
   unfold wfF at hx;rw [if_neg zb]at hx;by_cases hz:¬(x.n=0/\x.d=0)
   ·rw [if_pos hz]at hx;cases hx
   rw [if_neg hz,if_neg zb,if_neg zb,if_neg zb,if_pos h]at hx;simp at hx;omega
  rw [goA]at hgo
  cases hr:iU S x i dims dep with
  |none=>rw [hr]at hgo;cases(Prod.mk.inj hgo).2
  |some t=>
   obtain⟨S',dims',dep'⟩:=t;rw [hr]at hgo;simp only at hgo;obtain⟨s,s',S1,e1,e2,e3,e4,e5⟩:=GJ hr;have hds:=hdo i s e1
   -- the two puts
   have hs':∀k,s'.2.getD k false=true->(P k || (decide (x.op=4)&&decide (k=x.a.toNat)))=true:=
    (C9 (D:=dims'.set 0 (dims'.getD 0 0)) (P:=P) hx hm hd (by rw [length_set];exact C8 hd e2) e2 hds (fun k _=>by rw [ay];split<;>simp_all) hset).2.2.2
   have hp1:S1.length=S.length/\(∀j,j<=i->S1.getD j none=S.getD j none)/\(∀j u,S.getD j none=some u->jy u (S1.getD j none))/\(x.op≠21->jy s' (S1.getD (i+1) none))/\xS (fun k=>P k || (decide (x.op=4)&&decide (k=x.a.toNat))) S1:=by
    have hdo':xS (fun k=>P k || (decide (x.op=4)&&decide (k=x.a.toNat))) S:=fun j u hu k hk=>by
     show(P k || _)=true;rw [hdo j u hu k hk];rfl
    by_cases c:x.op=21
    ·rw [if_pos c]at e4;obtain rfl:=Option.some.inj e4;exact⟨rfl,fun _ _=>rfl,fun j u hu=>.refl hu,fun h=>absurd c h,hdo'⟩
    ·rw [if_neg c]at e4;obtain⟨q1,q2,q3,q4⟩:=Bw e4;exact⟨(jd e4).1,fun j hj=>q1 j zb,q2,fun _=>q3 zb,q4 _ hdo' hs'⟩
   have hp2:S'.length=S.length/\(∀j,j<=i->S'.getD j none=S.getD j none)/\(∀j u,S1.getD j none=some u->jy u (S'.getD j none))/\(x.op=21\/x.op=22->jy s' (S'.getD x.a.toNat none))/\xS (fun k=>P k || (decide (x.op=4)&&decide (k=x.a.toNat))) S':=by
    by_cases c:x.op=21\/x.op=22
    ·rw [if_pos c]at e5;have⟨j1,j2⟩:=hjmp c;obtain⟨q1,q2,q3,q4⟩:=Bw e5;exact⟨(jd e5).1.trans hp1.1,fun j hj=>(q1 j zb).trans (hp1.2.1 j hj),q2,fun _=>q3 (by rw [hp1.1];exact j2),q4 _ hp1.2.2.2.2 hs'⟩
    ·rw [if_neg c]at e5;obtain rfl:=Option.some.inj e5;exact⟨hp1.1,hp1.2.1,fun j u hu=>.refl hu,fun h=>absurd h c,hp1.2.2.2.2⟩
   obtain⟨F,D,f1,f2,f3,f4,f5,f6⟩:=ih (i+1) (fun k=>P k || (decide (x.op=4)&&decide (k=x.a.toNat))) S' dims' dep' d
    (fun k hk=>by
     have:=hwf (k+1) zg;rw [show i+1+k=i+(k+1)by omega]
     exact this)
    (by
     rw [fZ]at hnd
     split at hnd
     ·exact(nodup_cons.1 hnd).2
     ·exact hnd)
    (fun a ha=>by
     rw [fZ]at hnd hsP;by_cases h:x.op=4
     ·rw [if_pos h]at hnd hsP;have h5:a≠x.a.toNat:=fun e=>by subst e;exact(nodup_cons.1 hnd).1 ha
      rw [hsP a (mem_cons_of_mem _ ha),decide_eq_false h5];simp
     ·rw [if_neg h]at hsP
      rw [hsP a ha,decide_eq_false h];rfl)
    hp2.2.2.2.2 (C8 hd e2) zb zb hgo
   obtain⟨g1,g2,g3,g4⟩:=C9 (D:=D) hx hm hd f1 e2 hds f4 hset
   have hsub:∀u (o:Option (List Int × List Bool)) j,jy u (S1.getD j none)->jy u (F.getD j none):=fun u o j hu=>by
    cases h1:S1.getD j none with
    |none=>rw [h1]at hu;exact hu.elim
    |some t=>
     rw [h1]at hu;have h2:=hp2.2.2.1 j t h1
     cases h3:S'.getD j none with
     |none=>rw [h3]at h2;exact h2.elim
     |some t'=>
      rw [h3]at h2;exact .trans hu (.trans h2 (f3 j t' h3))
   refine⟨F,D,f1,fun j hj=>(f2 j zb).trans (hp2.2.1 j hj),fun j u hu=>hsub u none j (hp1.2.2.1 j u hu),fun k hk=>?_,fun k hk=>?_,f6⟩
   ·rw [f4 k (by rw [hk];rfl)];exact g3 k hk
   ·cases k with
    |zero=>
     refine⟨s,s', ?_,g1,e3,fun c=>?_,fun c=>?_⟩
     ·rw [Nat.add_zero,f2 i zb,hp2.2.1 i (Nat.le_refl _)];exact e1
     ·exact hsub s' none _ (hp1.2.2.2.1 c)
     ·have h2:=hp2.2.2.2.1 c;change jy s' (S'.getD x.a.toNat none)at h2;show jy s' (F.getD x.a.toNat none)
      cases h3:S'.getD x.a.toNat none with
      |none=>rw [h3]at h2;exact h2.elim
      |some t'=>
       rw [h3]at h2;exact .trans h2 (f3 _ t' h3)
    |succ k=>
     have:=f5 k (by simp at hk;omega);rw [show i+1+k=i+(k+1)by omega]at this;exact this
theorem rQ{l:List Ins}{sl:List ByteArray}{d:Int}(h:dO l sl=(d,0)):∃F D,lF l sl.length F D:=by
 unfold dO at h;by_cases hf:fA l sl=true
 ·rw [if_pos hf]at h;unfold fA dX at hf;simp only [Bool.and_eq_true,decide_eq_true_eq,all_eq_true,mem_range]at hf;obtain⟨⟨-,hwf⟩,⟨⟨hm,-⟩,-⟩,hnd⟩:=hf
  have gf:∀k,(List.replicate 12 false).getD k false=false:=fun k=>by
   exact Na
  obtain⟨F,D,f1,f2,-,-,f5,f6⟩:=LG hm l 0 (fun _=>false) _ _ 0 d (fun k hk=>by rw [Nat.zero_add];exact hwf k hk) hnd (fun _ _=>rfl) (fun j s hs k hk=>by
   cases j with
   |zero=>
    obtain rfl:=Option.some.inj hs;rw [gf]at hk;cases hk
   |succ j=>
    rw [getD_cons_succ,getD_eq_getElem?_getD,getElem?_replicate]at hs
    split at hs<;>cases hs) ze ze ze h
  refine⟨F,D,hwf,hm,f1,⟨_,f2 0 (Nat.le_refl _),rfl,gf⟩,fun i hi=>?_,f6⟩;have:=f5 i hi;rw [Nat.zero_add]at this;exact this
 ·rw [if_neg hf]at h;cases(Prod.mk.inj h).2
def fK(v:Vw)(k:Nat):Val:=(dJ v (bC k)).getD .zero
def opV(op:Int)(l:List Val):Val × Int:=if op<=6 then op1 op (l.getD 0 .zero)else op2 op (l.getD 0 .zero) (l.getD 1 .zero)
def gP(l:List Ins)(sl:List ByteArray)(v:Vw):Nat->Nat->List Val->List Val->List (ByteArray × Val)->List (ByteArray × Val) × Int
 |0,_,_,_,st=>(st,0)
 |f+1,i,stk,slots,st=>
  if l.length<=i then(st,0)
  else if(l.getD i default).op=1 then gP l sl v f (i+1) (stk++[⟨(l.getD i default).a,false,(l.getD i default).n,(l.getD i default).d⟩]) slots st
  else if(l.getD i default).op=2 then gP l sl v f (i+1) (stk++[fK v (l.getD i default).a.toNat]) slots st
  else if(l.getD i default).op=3 then gP l sl v f (i+1) (stk++[slots.getD (l.getD i default).a.toNat .zero]) slots st
  else if(l.getD i default).op=4 then gP l sl v f (i+1) stk.dropLast (slots.set (l.getD i default).a.toNat (stk.getLastD .zero)) (st++[(sl.getD (l.getD i default).a.toNat ByteArray.empty,stk.getLastD .zero)])
  else if(l.getD i default).op=5 then(if(dh v.years (l.getD i default).a).2.2=0 then gP l sl v f (i+1) (stk++[.num 4 (dh v.years (l.getD i default).a).1 (dh v.years (l.getD i default).a).2.1]) slots st else([],(dh v.years (l.getD i default).a).2.2))
  else if(l.getD i default).op=23\/(l.getD i default).op=24 then gP l sl v f (i+1) (stk++[.truth (decide ((l.getD i default).op=23))]) slots st
  else if(l.getD i default).op=21 then gP l sl v f (l.getD i default).a.toNat stk slots st
  else if(l.getD i default).op=22 then gP l sl v f (if(stk.getLastD .zero).yes=true then i+1 else(l.getD i default).a.toNat) stk.dropLast slots st
  else if(opV (opF (l.getD i default).op) (stk.drop (stk.length-aB (opF (l.getD i default).op)))).2=0 then
   gP l sl v f (i+1) (stk.take (stk.length-aB (opF (l.getD i default).op))++[(opV (opF (l.getD i default).op) (stk.drop (stk.length-aB (opF (l.getD i default).op)))).1]) slots st
  else([],(opV (opF (l.getD i default).op) (stk.drop (stk.length-aB (opF (l.getD i default).op)))).2)
structure Fits(D:List Int)(s:List Int × List Bool)(stk slots:List Val):Prop where
 dims:stk.map Val.dim=s.1
 ok:∀x∈stk,x.ok=true
 slot:∀k,s.2.getD k false=true->(slots.getD k .zero).ok=true/\(slots.getD k .zero).dim=D.getD k 0
def At(F:List (Option (List Int × List Bool)))(D:List Int)(i:Nat)(stk slots:List Val):Prop:=∃s,F.getD i none=some s/\Fits D s stk slots
theorem Fits.to{F:List (Option (List Int × List Bool))}{D:List Int}{s:List Int × List Bool}{stk slots:List Val}{i:Nat}(h:Fits D s stk slots)(g:jy s (F.getD i none)):At F D i stk slots:=by
 cases e:F.getD i none with
 |none=>rw [e]at g;exact g.elim
 |some t=>
  rw [e]at g;exact⟨t,e,h.dims.trans g.1.symm,h.ok,fun k hk=>h.slot k (g.2 k hk)⟩
section
variable {l : List Ins} {m : Nat} {F : List (Option (List Int × List Bool))} {D : List Int} {i : Nat} {stk slots : List Val} {s : List Int × List Bool}
theorem Fits.push(h:Fits D s stk slots){x:Val}(hx:x.ok=true):Fits D (s.1++[x.dim],s.2) (stk++[x]) slots:=
 ⟨by rw [map_append,h.dims];rfl,fun y hy=>by
  rcases mem_append.1 hy with hy|hy
  ·exact h.ok y hy
  ·obtain rfl:y=x:=by simpa using hy
   exact hx,h.slot⟩
theorem Fits.len(h:Fits D s stk slots):stk.length=s.1.length:=by rw [<-h.dims,length_map]
theorem Le{l:List Val}(h:l≠[]):(l.map Val.dim).getLastD 0=(l.getLastD .zero).dim:=by
 rw [getLastD_eq_getLast?,getLastD_eq_getLast?,getLast?_map]
 cases e:l.getLast? with
 |none=>exact absurd (getLast?_eq_none_iff.1 e) h
 |some x=>rfl
theorem Om{l:List Val}(h:l≠[]):l.getLastD .zero∈l:=by
 exact Rj
theorem Fits.pop(h:Fits D s stk slots):Fits D (s.1.dropLast,s.2) stk.dropLast slots:=
 ⟨by rw [<-h.dims,map_dropLast],fun y hy=>h.ok y (dropLast_subset _ hy),h.slot⟩
theorem lF.at(C:lF l m F D)(hi:i<l.length)(h:At F D i stk slots):∃s s',Fits D s stk slots/\bN (l.getD i default) s D=some (s',D)/\s'.1.length<=24/\
 ((l.getD i default).op≠21->jy s' (F.getD (i+1) none))/\((l.getD i default).op=21\/(l.getD i default).op=22->jy s' (F.getD (l.getD i default).a.toNat none)):=by
 obtain⟨s,e,hf⟩:=h;obtain⟨s0,s',e0,h1,h2,h3,h4⟩:=C.step i hi;rw [e]at e0;obtain rfl:=Option.some.inj e0;exact⟨s,s',hf,h1,h2,h3,h4⟩
theorem JP{n:Nat}{x:Ins}(h:wfF m n i x=true)(h1:x.op=1):2<=x.a/\x.a<=4/\az x.n x.d=true:=by
 unfold wfF at h;rw [if_pos h1]at h;simp only [Bool.and_eq_true,decide_eq_true_eq]at h;exact⟨by omega,by omega,h.2⟩
theorem dH{n:Nat}{x:Ins}(h:wfF m n i x=true)(h1:x.op≠1):(x.n=0/\x.d=0)/\(x.op=2->0<=x.a/\x.a<11)/\(x.op=3\/x.op=4->0<=x.a/\x.a<m)/\(x.op=5->1<=x.a/\x.a<=45)/\
 (x.op=21\/x.op=22->(i:Int)<x.a/\x.a<=n)/\(x.op≠2->x.op≠3->x.op≠4->x.op≠5->x.op≠21->x.op≠22->x.op≠23->x.op≠24->opF x.op≠0):=by
 unfold wfF at h;rw [if_neg h1]at h;by_cases hz:¬(x.n=0/\x.d=0)
 ·rw [if_pos hz]at h;cases h
 rw [if_neg hz]at h;refine⟨by omega,fun c=>?_,fun c=>?_,fun c=>?_,fun c=>?_,fun c2 c3 c4 c5 c21 c22 c23 c24=>?_⟩
 ·rw [if_pos c]at h;simpa using h
 ·rw [if_neg zb,if_pos c]at h;simpa using h
 ·rw [if_neg zb,if_neg zb,if_pos c]at h;simpa using h
 ·rw [if_neg zb,if_neg zb,if_neg zb,if_pos c]at h;simpa using h
 ·rw [if_neg zb,if_neg zb,if_neg zb,if_neg zb,if_neg zb]at h;simp only [decide_eq_true_eq]at h;exact h.1
theorem step1(C:lF l m F D)(hi:i<l.length)(h:At F D i stk slots)(o:(l.getD i default).op=1):At F D (i+1) (stk++[⟨(l.getD i default).a,false,(l.getD i default).n,(l.getD i default).d⟩]) slots:=by
 obtain⟨s,s',hf,h1,-,h3,-⟩:=C.at hi h;have hw:=JP (C.wf i hi) o;unfold bN at h1;rw [if_pos o]at h1;obtain⟨rfl,-⟩:=Prod.mk.inj (Option.some.inj h1);exact(hf.push (x:=⟨(l.getD i default).a,false,(l.getD i default).n,(l.getD i default).d⟩) (Val.num_ok ⟨hw.1,hw.2.1⟩ hw.2.2)).to (h3 zb)
theorem Lu{v:Vw}(hv:v.ok=true){k:Nat}(hk:k<11):(fK v k).ok=true/\(fK v k).dim=jC.getD k 0:=by
 have key:∀k,k<11->bE (bC k).toList=jC.getD k 0/\bE (bC k).toList≠0:=by decide+kernel
 obtain⟨k1,k2⟩:=key k hk;unfold fK
 cases e:dJ v (bC k)with
 |none=>exact absurd (Cj hv e) k2
 |some x=>
  obtain⟨a,b,-⟩:=Ci e;exact⟨a,b.trans k1⟩
theorem step2{v:Vw}(hv:v.ok=true)(C:lF l m F D)(hi:i<l.length)(h:At F D i stk slots)(o:(l.getD i default).op=2):At F D (i+1) (stk++[fK v (l.getD i default).a.toNat]) slots:=by
 obtain⟨s,s',hf,h1,-,h3,-⟩:=C.at hi h;have hw:=(dH (C.wf i hi) zb).2.1 o;have hx:=Lu hv (k:=(l.getD i default).a.toNat) zb;unfold bN at h1;rw [if_neg zb,if_pos o]at h1;obtain⟨rfl,-⟩:=Prod.mk.inj (Option.some.inj h1);have:=hf.push hx.1;rw [hx.2]at this;exact this.to (h3 zb)
theorem Re(C:lF l m F D)(hi:i<l.length)(h:At F D i stk slots)(o:(l.getD i default).op=3):At F D (i+1) (stk++[slots.getD (l.getD i default).a.toNat .zero]) slots:=by
 obtain⟨s,s',hf,h1,-,h3,-⟩:=C.at hi h;unfold bN at h1;rw [if_neg zb,if_neg zb,if_neg zb,if_neg zb,if_pos o]at h1;by_cases hb:s.2.getD (l.getD i default).a.toNat false=true
 ·rw [if_pos hb]at h1;obtain⟨rfl,-⟩:=Prod.mk.inj (Option.some.inj h1);have hx:=hf.slot _ hb;have:=hf.push hx.1;rw [hx.2]at this;exact this.to (h3 zb)
 ·rw [if_neg hb]at h1;cases h1
theorem J2(C:lF l m F D)(hi:i<l.length)(h:At F D i stk slots)(hs:m<=slots.length)(o:(l.getD i default).op=4) :
 stk≠[]/\(stk.getLastD .zero).ok=true/\At F D (i+1) stk.dropLast (slots.set (l.getD i default).a.toNat (stk.getLastD .zero)):=by
 obtain⟨s,s',hf,h1,-,h3,-⟩:=C.at hi h;have hw:=(dH (C.wf i hi) zb).2.2.1 (.inr o);unfold bN at h1;rw [if_neg zb,if_neg zb,if_neg zb,if_neg zb,if_neg zb,if_pos o]at h1;by_cases he:s.1= []
 ·rw [if_pos he]at h1;cases h1
 rw [if_neg he]at h1;have hne:stk≠[]:=fun e=>he (by rw [<-hf.dims,e];rfl);obtain⟨rfl,hD⟩:=Prod.mk.inj (Option.some.inj h1);have hlast:=hf.ok _ (Om hne);refine⟨hne,hlast, ?_⟩;have hp:=hf.pop
 have hdim:(stk.getLastD .zero).dim=(D.set (l.getD i default).a.toNat (s.1.getLastD 0)).getD (l.getD i default).a.toNat 0:=by
  rw [ay,<-hf.dims,Le hne]
  split
  ·rfl
  ·rename_i c
   exact absurd ⟨rfl,by rw [C.dlen];have:=C.m12;omega⟩ c
 refine Fits.to (s:=(s.1.dropLast,s.2.set (l.getD i default).a.toNat true)) ⟨hp.dims,hp.ok,fun k hk=>?_⟩ (h3 zb);rw [ay];by_cases e:(l.getD i default).a.toNat=k
 ·subst e;rw [if_pos ⟨rfl,by omega⟩];rw [hD]at hdim;exact⟨hlast,hdim⟩
 ·rw [if_neg (fun c=>e c.1)];rw [ay,if_neg (fun c=>e c.1)]at hk;exact hf.slot k hk
theorem Rc(C:lF l m F D)(hi:i<l.length)(h:At F D i stk slots)(o:(l.getD i default).op=5){n d:Int}(hv:az n d=true):At F D (i+1) (stk++[.num 4 n d]) slots:=by
 obtain⟨s,s',hf,h1,-,h3,-⟩:=C.at hi h;unfold bN at h1;rw [if_neg zb,if_neg zb,if_pos o]at h1;obtain⟨rfl,-⟩:=Prod.mk.inj (Option.some.inj h1);exact(hf.push (x:=.num 4 n d) (Val.num_ok zb hv)).to (h3 zb)
theorem PX(C:lF l m F D)(hi:i<l.length)(h:At F D i stk slots)(o:(l.getD i default).op=23\/(l.getD i default).op=24)(b:Bool):At F D (i+1) (stk++[.truth b]) slots:=by
 obtain⟨s,s',hf,h1,-,h3,-⟩:=C.at hi h;unfold bN at h1;rw [if_neg zb,if_neg zb,if_neg zb,if_pos o]at h1;obtain⟨rfl,-⟩:=Prod.mk.inj (Option.some.inj h1);exact(hf.push (x:=.truth b) (by simp [Val.ok,Val.truth])).to (h3 zb)
theorem PY(C:lF l m F D)(hi:i<l.length)(h:At F D i stk slots)(o:(l.getD i default).op=21):At F D (l.getD i default).a.toNat stk slots:=by
 obtain⟨s,s',hf,h1,-,-,h4⟩:=C.at hi h;unfold bN at h1;rw [if_neg zb,if_neg zb,if_neg zb,if_neg zb,if_neg zb,if_neg zb,if_neg zb,if_pos o]at h1;obtain⟨rfl,-⟩:=Prod.mk.inj (Option.some.inj h1);exact hf.to (h4 (.inl o))
theorem DJ(C:lF l m F D)(hi:i<l.length)(h:At F D i stk slots)(o:(l.getD i default).op=22):stk≠[]/\At F D (i+1) stk.dropLast slots/\At F D (l.getD i default).a.toNat stk.dropLast slots:=by
 obtain⟨s,s',hf,h1,-,h3,h4⟩:=C.at hi h;unfold bN at h1;rw [if_neg zb,if_neg zb,if_neg zb,if_neg zb,if_neg zb,if_neg zb,if_pos o]at h1;by_cases he:s.1= []\/s.1.getLastD 0≠1
 ·rw [if_pos he]at h1;cases h1
 rw [if_neg he]at h1;obtain⟨rfl,-⟩:=Prod.mk.inj (Option.some.inj h1);exact⟨fun e=>he (.inl (by rw [<-hf.dims,e];rfl)),hf.pop.to (h3 zb),hf.pop.to (h4 (.inr o))⟩
theorem Eb(op:Int)(h:opF op≠0):4<=opF op/\opF op<=20/\opF op≠17/\opF op≠18:=by
 unfold opF at *
 repeat' split at h
 all_goals simp_all
 all_goals omega
theorem Bd(C:lF l m F D)(hi:i<l.length)(h:At F D i stk slots)(o:(l.getD i default).op≠1/\(l.getD i default).op≠2/\(l.getD i default).op≠3/\(l.getD i default).op≠4/\(l.getD i default).op≠5/\(l.getD i default).op≠21/\(l.getD i default).op≠22/\(l.getD i default).op≠23/\(l.getD i default).op≠24) :
 aB (opF (l.getD i default).op)<=stk.length/\okR (ag (opF (l.getD i default).op) ((stk.drop (stk.length-aB (opF (l.getD i default).op))).map Val.dim)) (opV (opF (l.getD i default).op) (stk.drop (stk.length-aB (opF (l.getD i default).op))))/\
  ag (opF (l.getD i default).op) ((stk.drop (stk.length-aB (opF (l.getD i default).op))).map Val.dim)≠0/\
  ∀x:Val,x.ok=true->x.dim=ag (opF (l.getD i default).op) ((stk.drop (stk.length-aB (opF (l.getD i default).op))).map Val.dim)->At F D (i+1) (stk.take (stk.length-aB (opF (l.getD i default).op))++[x]) slots:=by
 obtain⟨s,s',hf,h1,-,h3,-⟩:=C.at hi h;have hop:=(dH (C.wf i hi) o.1).2.2.2.2.2 zb zb zb zb zb zb zb zb;have hbd:=Eb _ hop;unfold bN at h1;rw [if_neg zb,if_neg zb,if_neg zb,if_neg zb,if_neg zb,if_neg zb,if_neg zb,if_neg zb]at h1;have hlen:=hf.len;have h3':=h3 zb;generalize opF (l.getD i default).op=op at *;by_cases hn:s.1.length<aB op
 ·rw [if_pos hn]at h1;cases h1
 rw [if_neg hn]at h1;rw [hlen];have hdr:(stk.drop (s.1.length-aB op)).map Val.dim=s.1.drop (s.1.length-aB op):=by rw [map_drop,hf.dims]
 rw [hdr];by_cases hr:ag op (s.1.drop (s.1.length-aB op))=0
 ·rw [if_pos hr]at h1;cases h1
 rw [if_neg hr]at h1;obtain⟨rfl,-⟩:=Prod.mk.inj (Option.some.inj h1);refine⟨by omega, ?_,hr,fun x hx hd=>?_⟩
 ·have hl:(stk.drop (s.1.length-aB op)).length=aB op:=by rw [length_drop];omega
  have hok:∀y∈stk.drop (s.1.length-aB op),y.ok=true:=fun y hy=>hf.ok y (mem_of_mem_drop hy);rw [<-hdr]at hr ⊢;generalize stk.drop (s.1.length-aB op)=L at *;by_cases h6:op<=6
  ·have ha:aB op=1:=by unfold aB;rw [if_pos zb]
   rw [ha]at hl;obtain⟨a,rfl⟩:=length_eq_one_iff.1 hl;unfold opV;rw [if_pos h6];exact QA (hok a ze) hbd.1 h6 hr
  ·have ha:aB op=2:=by unfold aB;rw [if_neg zb]
   rw [ha]at hl
   obtain⟨a,b,rfl⟩:∃a b,L= [a,b]:=by
    match L,hl with
    | [a,b],_=>exact⟨a,b,rfl⟩
   unfold opV;rw [if_neg h6];exact Qz (hok a ze) (hok b ze) zb hbd.2.1 hbd.2.2.1 hbd.2.2.2 hr
 ·have hp:Fits D (s.1.take (s.1.length-aB op),s.2) (stk.take (s.1.length-aB op)) slots:=⟨by rw [map_take,hf.dims],fun y hy=>hf.ok y (mem_of_mem_take hy),hf.slot⟩;have:=hp.push hx;rw [hd]at this;exact this.to h3'
end
mutual
def jk(s:ByteArray):Ex->Bool
 | .mk op _ _ _ nm l=>(decide (op=2)&&decide (nm=s)) || ji s l
def ji(s:ByteArray):List Ex->Bool
 | []=>false
 |e::r=>jk s e || ji s r
end
def qQ(op:Int):Int:=if op=4 then 6 else if op=5 then 7 else if op=6 then 8 else if op=19 then 19 else if op=20 then 20 else op+2
def mU(s:ByteArray):Option Nat:=inpN.findIdx? fun p=>decide (p.1=s)
def slK(sl:List ByteArray)(s:ByteArray):Nat:=(sl.findIdx? fun x=>decide (x=s)).getD 0
def KR(κ:ByteArray->Nat)(s:ByteArray):Ins:=match mU s with|some k=>⟨2,k,0,0⟩|none=>⟨3,κ s,0,0⟩
def gN:List (Nat->List Ins)->Nat->List Ins
 | [],_=>[]
 |f::r,i=>f i++gN r (i+(f i).length)
def brC(A B C:Nat->List Ins)(i:Nat):List Ins:=
 A i++⟨22,((i+(A i).length+1+(B (i+(A i).length+1)).length+1:Nat):Int),0,0⟩::(B (i+(A i).length+1)++
  ⟨21,((i+(A i).length+1+(B (i+(A i).length+1)).length+1+(C (i+(A i).length+1+(B (i+(A i).length+1)).length+1)).length:Nat):Int),0,0⟩::C (i+(A i).length+1+(B (i+(A i).length+1)).length+1))
def oW(κ:ByteArray->Nat)(op n d m:Int)(s:ByteArray)(fs:List (Nat->List Ins))(i:Nat):List Ins:=
 if op=1 then [⟨1,m,n,d⟩]else if op=2 then [KR κ s]else if op=3 then [⟨5,n,0,0⟩]
 else if op=17 then brC (fs.getD 0 fun _=>[]) (fs.getD 1 fun _=>[]) (fun _=>[⟨24,0,0,0⟩]) i
 else if op=18 then brC (fs.getD 0 fun _=>[]) (fun _=>[⟨23,0,0,0⟩]) (fs.getD 1 fun _=>[]) i
 else if op=21 then brC (fs.getD 0 fun _=>[]) (fs.getD 1 fun _=>[]) (fs.getD 2 fun _=>[]) i
 else gN fs i++[⟨qQ op,0,0,0⟩]
mutual
def codeF(κ:ByteArray->Nat):Ex->Nat->List Ins
 | .mk op n d m s l=>oW κ op n d m s (di κ l)
def di(κ:ByteArray->Nat):List Ex->List (Nat->List Ins)
 | []=>[]
 |e::r=>codeF κ e::di κ r
end
def Lies(l:List Ins)(i:Nat)(c:List Ins):Prop:=i+c.length<=l.length/\∀k,k<c.length->l.getD (i+k) default=c.getD k default
theorem Lies.left{l:List Ins}{i:Nat}{a b:List Ins}(h:Lies l i (a++b)):Lies l i a:=by
 obtain⟨h1,h2⟩:=h;rw [length_append]at h1;refine⟨by omega,fun k hk=>?_⟩;rw [h2 k (by rw [length_append];omega)];simp [getD_eq_getElem?_getD,getElem?_append_left hk]
theorem Lies.right{l:List Ins}{i:Nat}{a b:List Ins}(h:Lies l i (a++b)):Lies l (i+a.length) b:=by
 obtain⟨h1,h2⟩:=h;rw [length_append]at h1;refine⟨by omega,fun k hk=>?_⟩;have:=h2 (a.length+k) (by rw [length_append];omega);rw [Nat.add_assoc,this];simp [getD_eq_getElem?_getD,getElem?_append_right (Nat.le_add_right a.length k)]
section
variable (l : List Ins) (sl : List ByteArray) (v : Vw) (slots : List Val) (st : List (ByteArray × Val))
def To(i:Nat)(stk:List Val)(j:Nat)(stk':List Val):Prop:=∀f,l.length<=f+i->∃g,l.length<=g+j/\gP l sl v f i stk slots st=gP l sl v g j stk' slots st
def Ra(i:Nat)(stk:List Val)(c:Int):Prop:=∀f,l.length<=f+i->gP l sl v f i stk slots st=([],c)
def Gives(i:Nat)(stk:List Val)(j:Nat)(r:Val × Int):Prop:=if r.2=0 then To l sl v slots st i stk j (stk++[r.1])else Ra l sl v slots st i stk r.2
variable {l sl v slots st} {i j k : Nat} {stk s1 s2 : List Val} {c : Int}
theorem To.refl:To l sl v slots st i stk i stk:=fun f hf=>⟨f,hf,rfl⟩
theorem To.trans(h:To l sl v slots st i stk j s1)(g:To l sl v slots st j s1 k s2):To l sl v slots st i stk k s2:=fun f hf=>by
 obtain⟨f1,h1,e1⟩:=h f hf;obtain⟨f2,h2,e2⟩:=g f1 h1;exact⟨f2,h2,e1.trans e2⟩
theorem To.one{n:Nat}{s':List Val}(hi:i<l.length)(hn:i<n)(h:∀f,gP l sl v (f+1) i stk slots st=gP l sl v f n s' slots st):To l sl v slots st i stk n s':=fun f hf=>by
 cases f with
 |zero=>omega
 |succ f=>exact⟨f,by omega,h f⟩
theorem Ra.one(hi:i<l.length)(h:∀f,gP l sl v (f+1) i stk slots st=([],c)):Ra l sl v slots st i stk c:=fun f hf=>by
 cases f with
 |zero=>omega
 |succ f=>exact h f
end
theorem wC{s:ByteArray}{k:Nat}(h:mU s=some k):k<11/\bC k=s:=by
 unfold mU at h;obtain⟨h1,h2,-⟩:=findIdx?_eq_some_iff_getElem.1 h;have hl:inpN.length=11:=rfl;refine⟨by omega, ?_⟩;have h3:(inpN[k]).1=s:=by simpa using h2
 unfold bC;rw [getD_eq_getElem?_getD,getElem?_eq_getElem h1];exact h3
theorem IE{s:ByteArray}(h:mU s=none):bE s.toList=0:=by
 have hne:∀p∈inpN,p.1≠s:=fun p hp=>by
  have:=findIdx?_eq_none_iff.1 h p hp;simpa using this
 have back:∀t:List UInt8,s.toList=t->s=⟨t.toArray⟩:=fun t ht=>by
  apply ByteArray.ext;rw [<-ht,ByteArray.toList_eq]
 unfold bE
 (repeat' split)<;>first
  |rfl
  |(exfalso
    rename_i hs
    rcases hs with hs|hs|hs|hs|hs|hs|hs<;>(obtain rfl:=back _ hs;exact absurd h zt))
  |(exfalso
    rename_i hs
    rcases hs with hs|hs|hs<;>(obtain rfl:=back _ hs;exact absurd h zt))
  |(exfalso
    rename_i hs
    obtain rfl:=back _ hs
    exact absurd h zt)
theorem qF:∀{l:List Ex},aW l=true->∀a∈l,aM a=true
 |e::r,h,a,ha=>by
  rw [aW,Bool.and_eq_true]at h;rcases mem_cons.1 ha with rfl|ha
  ·exact h.1
  ·exact qF h.2 a ha
theorem BR{s:ByteArray}:∀{l:List Ex} {a:Ex},a∈l->jk s a=true->ji s l=true
 |e::r,a,ha,h=>by
  rw [ji,Bool.or_eq_true];rcases mem_cons.1 ha with rfl|ha
  ·exact .inl h
  ·exact .inr (BR ha h)
section
variable {v : Vw} {env : List (ByteArray × Val)} {κ : ByteArray -> Nat} {sl : List ByteArray} {slots : List Val}
end
open Go.RowKit
theorem G8(op:Int)(h:0<=op/\op<=100)(w:World):Calls prog 122 #[.int .i64 op] w fun e w'=>e= .returned (.int .i64 (qQ op))/\w=w':=by
 have HM:=yq (show qQ op=_ from rfl);by_cases h4:op=4
 ·subst h4;exact Ke
 by_cases h5:op=5
 ·subst h5;exact Ke
 by_cases h6:op=6
 ·subst h6;exact Ke
 by_cases h19:op=19
 ·subst h19;exact Ke
 by_cases h20:op=20
 ·subst h20;exact Ke
 have b4:(op==4)=false:=by simpa using h4
 have b5:(op==5)=false:=by simpa using h5
 have b6:(op==6)=false:=by simpa using h6
 have b19:(op==19)=false:=by simpa using h19
 have b20:(op==20)=false:=by simpa using h20
 have HE:=yq (show qQ op=op-7+9 by unfold qQ;rw [if_neg h4,if_neg h5,if_neg h6,if_neg h19,if_neg h20];omega);clear h4 h5 h6 h19 h20 HM;have w1:IntKind.i64.wrap (op-7)=op-7:=IntWalk.i64_in _ zb;have w2:IntKind.i64.wrap (op-7+9)=op-7+9:=IntWalk.i64_in _ zb
 go_enter func122,ntmps122
 go_wp2_with fail
 go_returns
 exact⟨by rw [HE.out];rfl,rfl⟩
def Ao(s:ByteArray):Int:=match mU s with|some k=>(k:Int)|none=>-1
theorem Ll{s:ByteArray}(h:∀j,j<11->bC j≠s):mU s=none:=by
 cases hk:mU s with
 |none=>rfl
 |some k=>exact absurd (wC hk).2 (h k (wC hk).1)
theorem Ot{s:ByteArray}{k:Nat}(hk:k<11)(hs:bC k=s):mU s=some k:=by
 subst hs;have key:∀k,k<11->mU (bC k)=some k:=by decide+kernel
 exact key k hk
theorem Ou{s:ByteArray}{k:Nat}(hk:k<11)(hs:bC k=s):Ao s=k:=by unfold Ao;rw [Ot hk hs]
theorem Lm{s:ByteArray}(h:∀j,j<11->bC j≠s):Ao s= -1:=by unfold Ao;rw [Ll h]
theorem jo(s:ByteArray)(w:World):Calls prog 121 #[.string s] w fun e w'=>e= .returned (.int .i64 (Ao s))/\w.Grows w':=by
 go_enter func121,ntmps121
 go_wp2_with (go_at_call 58;refine gw (iH _) ?_)
 go_loopw [4] (fun v4 wr=>∃k:Nat,k<=11/\v4= .int .i64 k/\Hid (∀j,j<k->bC j≠s)/\World.Grows (w.alloc (.cells oM 9)) wr) (fun v4 _=>11-(intOf v4).toNat)
 case atStart=>exact⟨0,by omega,rfl,yq (fun j hj=>by omega),af⟩
 case round=>
  obtain⟨k,hk,rfl,HN,hg⟩:=hrel;have HG:=yq hg;have hb:=(hg.below.block w.heap.size ze).trans (heap_alloc_new _ _);have hl:=(Array.getElem?_eq_some_iff.1 hb).1;by_cases hlt:k<11
  ·have c:=(cell_of_row wr _ k _ _ _ hb).trans (lW k hlt);have d1:(k:Int)<11:=by omega
   have HLT:=yq hlt;by_cases he:bC k=s
   ·have HI:=yq (Ou hlt he);rw [he]at c;clear hb hg hlt hk he HN
    go_wp2_with fail
    go_returns
    exact⟨by rw [HI.out];rfl,gqq af HG.out⟩
   ·have HNN:Hid (∀j,j<k+1->bC j≠s):=yq (fun j hj=>by
     by_cases e:j=k
     ·subst e;exact he
     ·exact HN.out j zb)
    have q:((bC k).toList==s.toList)=false:=by
     have back:∀x:ByteArray,x=⟨x.toList.toArray⟩:=fun x=>by apply ByteArray.ext;rw [ByteArray.toList_eq]
     rw [beq_eq_false_iff_ne];exact fun e=>he ((back _).trans ((congrArg (fun l:List UInt8=>(⟨l.toArray⟩:ByteArray)) e).trans (back _).symm))
    generalize bC k=nm at *;clear hb hg hlt hk he HN
    go_wp2_with fail
    go_roundw
    case rel=>exact⟨k+1,HLT.out,by go_num,HNN,gqq HG.out af⟩
    case measure=>simp [intOf];have:=HLT.out;omega
  ·obtain rfl:k=11:=by omega
   have HI:=yq (Lm HN.out);clear hb hg hlt hk
   go_wp2_with fail
   go_returns
   exact⟨by rw [HI.out];rfl,gqq af HG.out⟩
theorem JJ(s:List Bool):zipWith (· && ·) s s=s:=by
 induction s with
 |nil=>rfl
 |cons b r ih=>rw [zipWith_cons_cons,ih];simp
def Ver(sett:List Bool)(dims:List Int)(c:List Ins)(i:Nat)(t t':List Int):Prop:=
 ∀(S:List (Option (List Int × List Bool))) (dep:Nat),i+c.length<S.length->S.getD i none=some (t,sett)->(∀j,i<j->j<i+c.length->S.getD j none=none)->
  (S.getD (i+c.length) none=none\/S.getD (i+c.length) none=some (t',sett))->
  ∃S' dep',S'.length=S.length/\(∀j,i+c.length<j->S'.getD j none=S.getD j none)/\S'.getD (i+c.length) none=some (t',sett)/\∀r,goA (c++r) i S dims dep=goA r (i+c.length) S' dims dep'
section
variable {sett : List Bool} {dims : List Int} {i : Nat} {t t' t2 : List Int}
theorem GN{S:List (Option (List Int × List Bool))}{k:Nat}(h:S.getD k none=none\/S.getD k none=some (t,sett)):fG S k (t,sett)=some (S.set k (some (t,sett))):=by
 unfold fG;rcases h with h|h
 ·rw [h]
 ·rw [h];simp only [if_true];rw [JJ]
theorem Ver.one{x:Ins}(h:bN x (t,sett) dims=some ((t',sett),dims))(hl:t'.length<=24)(h1:x.op≠21)(h2:x.op≠22):Ver sett dims [x] i t t':=by
 intro S dep hi h0 _ hf;have hp:=GN hf;refine⟨S.set (i+1) (some (t',sett)),max dep t'.length,length_set ..,fun j hj=>?_, ?_,fun r=>?_⟩
 ·simp only [length_singleton]at hj;rw [ay,if_neg zb]
 ·simp only [length_singleton]at hi ⊢;rw [ay,if_pos ⟨rfl,hi⟩]
 ·show goA (x::r) i S dims dep=_;rw [goA]
  have e:iU S x i dims dep=some (S.set (i+1) (some (t',sett)),dims,max dep t'.length):=by
   unfold iU;rw [h0];simp only [h];rw [if_neg (by show ¬24<t'.length;omega)];simp only [if_neg h1,if_neg (show ¬(x.op=21\/x.op=22)by omega)];simp only [length_singleton]at hp;rw [hp]
  rw [e];rfl
theorem Ver.seq{a b:List Ins}(h:Ver sett dims a i t t')(g:Ver sett dims b (i+a.length) t' t2)(ha:a≠[])(hb:b≠[]):Ver sett dims (a++b) i t t2:=by
 intro S dep hi h0 hn hf;have la:0<a.length:=length_pos_iff.2 ha;have lb:0<b.length:=length_pos_iff.2 hb;rw [length_append]at hi hn hf ⊢;obtain⟨S1,d1,k1,k2,k3,k4⟩:=h S dep zb h0 (fun j h1 h2=>hn j h1 zb) (.inl (hn _ zb zb));obtain⟨S2,d2,q1,q2,q3,q4⟩:=g S1 d1 zb k3 (fun j h1 h2=>by rw [k2 j h1];exact hn j zb zb) (by rw [k2 _ zb,Nat.add_assoc];exact hf);refine⟨S2,d2,by omega,fun j hj=>?_,by rw [<-Nat.add_assoc];exact q3,fun r=>?_⟩
 ·rw [q2 j zb,k2 j zb]
 ·rw [append_assoc,k4,q4,Nat.add_assoc]
end
section
variable {env : List (ByteArray × Int)} {κ : ByteArray -> Nat} {sett : List Bool} {dims : List Int}
end
theorem Ar{op m:Int}{a b:Int × Int}{r:List Int × Int}(h:op≠2):eu op m a r=eu op m b r:=by
 unfold eu;by_cases c:op=1
 ·rw [if_pos c,if_pos c]
 ·rw [if_neg c,if_neg c];by_cases c3:op=3
  ·rw [if_pos c3,if_pos c3]
  ·rw [if_neg c3,if_neg c3,if_neg h,if_neg h]
theorem pY{n d:Int}(h:1<=d):(if n.tmod d<0 then n.tdiv d-1 else n.tdiv d)=n / d:=by
 have e1:=Int.mul_tdiv_add_tmod n d;have hb:=Int.tmod_lt_of_pos n (show 0<d by omega);have hc:=Int.tmod_lt_of_pos (-n) (show 0<d by omega);rw [Int.neg_tmod]at hc;symm
 split
 ·exact((Int.ediv_emod_unique (r:=n.tmod d+d) (q:=n.tdiv d-1) (show 0<d by omega)).2 ⟨by rw [Int.mul_sub];omega,by omega,by omega⟩).1
 ·exact((Int.ediv_emod_unique (r:=n.tmod d) (q:=n.tdiv d) (show 0<d by omega)).2 ⟨by omega,by omega,by omega⟩).1
theorem IM{n d:Int}(h:1<=d):(if n<n.tdiv d*d then n.tdiv d-1 else n.tdiv d)=n / d:=by
 have e1:=Int.mul_tdiv_add_tmod n d;rw [<-pY h];rw [Int.mul_comm]at e1;by_cases c:n.tmod d<0
 ·rw [if_pos c,if_pos zb]
 ·rw [if_neg c,if_neg zb]
theorem CX{an ad bn bd:Int}(h1:1<=ad)(h2:1<=bd)(h:decide (an<0)≠decide (bn<0)):gY an ad bn bd=if an<0 then -1 else 1:=by
 unfold gY;by_cases c:an<0
 ·have hb:0<=bn:=by simp [c]at h;omega
  have k1:an*bd<0:=Int.mul_neg_of_neg_of_pos c zb;have k2:0<=bn*ad:=Int.mul_nonneg hb zb;rw [if_pos zb,if_pos c]
 ·have hb:bn<0:=by simp [c]at h;omega
  have k1:bn*ad<0:=Int.mul_neg_of_neg_of_pos hb zb;have k2:0<=an*bd:=Int.mul_nonneg zb zb;rw [if_neg zb,if_pos zb,if_neg c]
theorem ru{a d:Int}(h:1<=d):a*d=if a<0 then -((a.natAbs*d.natAbs:Nat):Int)else((a.natAbs*d.natAbs:Nat):Int):=by
 rw [Int.natCast_mul];have hd:((d.natAbs:Nat):Int)=d:=by omega
 rw [hd]
 split
 ·rw [<-Int.neg_mul];congr 1;omega
 ·congr 1;omega
theorem Md{an ad bn bd:Int}(h1:1<=ad)(h2:1<=bd)(h:decide (an<0)=decide (bn<0)) :
 gY an ad bn bd=if an<0 then(if bn.natAbs*ad.natAbs<an.natAbs*bd.natAbs then -1 else if an.natAbs*bd.natAbs<bn.natAbs*ad.natAbs then 1 else 0)
  else(if an.natAbs*bd.natAbs<bn.natAbs*ad.natAbs then -1 else if bn.natAbs*ad.natAbs<an.natAbs*bd.natAbs then 1 else 0):=by
 unfold gY;rw [ru (a:=an) h2,ru (a:=bn) h1];generalize an.natAbs*bd.natAbs=X;generalize bn.natAbs*ad.natAbs=Y;by_cases c:an<0
 ·have hb:bn<0:=by simpa [c]using h
  rw [if_pos c,if_pos hb,if_pos c]
  split<;>rename_i q<;>split<;>first|omega|(split<;>first|omega|(split<;>omega))
 ·have hb:¬bn<0:=by simpa [c]using h
  rw [if_neg c,if_neg hb,if_neg c]
  split<;>rename_i q<;>split<;>first|omega|(split<;>first|omega|(split<;>omega))
def frI(r:Int × Int):Value:=.tuple #[.int .i64 r.1,.int .i64 r.2]
theorem tK{n d:Int}(h:1<=d):n / d=n.tdiv d\/n / d=n.tdiv d-1:=by
 rw [<-pY h];split<;>simp
theorem Fe(n d:Int)(w:World)(h1:-9223372036854775808<=n)(h2:n<=9223372036854775807)(h3:-9223372036854775808<=d)(h4:d<=9223372036854775807) :
 Calls prog 134 #[.agg #[.int .i64 n,.int .i64 d]] w fun e w'=>e= .returned (frI (dC n d))/\w.Grows w':=by
 have hv:=yq (fun w=>dE n d w h1 h2 h3 h4);generalize hx:az n d=b at *;cases b
 ·have HR:=yq (show dC n d=(0,1)by unfold dC;rw [hx];rfl);clear hx
  go_enter func134,ntmps134
  go_wp2_with fail
  refine gvq (hv.out _) ?_;intro bs dr;clear hv
  go_wp2_with fail
  go_returns
  exact⟨by rw [HR.out];rfl,.of_below au⟩
 ·have HR:=yq (show dC n d=(n / d,0)by unfold dC;rw [hx];rfl);obtain⟨k1,k2,k3,k4⟩:=aF hx;have hf:=tL hx;have HF:=yq (pY (n:=n) k1);have hft:=tK (n:=n) k1;have hq1:-1000000000000001<=n.tdiv d:=by omega
  have hq2:n.tdiv d<=1000000000000001:=by omega
  have d0:(d==0)=false:=by simp;omega
  clear hx hf hft;have e1:IntKind.i64.wrap (n.tdiv d)=n.tdiv d:=IntWalk.i64_in _ zb;generalize n / d=z at *;by_cases c:n.tmod d<0
  focus
   have HZ:=yq (show z=n.tdiv d-1 by rw [<-HF.out,if_pos c])
  rotate_left
  focus
   have HZ:=yq (show z=n.tdiv d by rw [<-HF.out,if_neg c])
  rotate_left
  all_goals
   clear HF
   go_enter func134,ntmps134
   go_wp2_with fail
   refine gvq (hv.out _) ?_;intro bs dr;clear hv
   go_wp2_with fail
   go_returns
   exact⟨by rw [HR.out,HZ.out];rfl,.of_below au⟩
theorem Ff(n d:Int)(w:World)(h1:-9223372036854775808<=n)(h2:n<=9223372036854775807)(h3:-9223372036854775808<=d)(h4:d<=9223372036854775807) :
 Calls prog 116 #[.agg #[.int .i64 n,.int .i64 d]] w fun e w'=>e= .returned (frI (dC n d))/\w.Grows w':=by
 have hv:=yq (fun w=>bP n d w h1 h2 h3 h4);generalize hx:az n d=b at *;cases b
 ·have HR:=yq (show dC n d=(0,1)by unfold dC;rw [hx];rfl);clear hx
  go_enter func116,ntmps116
  go_wp2_with fail
  refine gvq (hv.out _) ?_;intro bs dr;clear hv
  go_wp2_with fail
  go_returns
  exact⟨by rw [HR.out];rfl,.of_below au⟩
 ·have HR:=yq (show dC n d=(n / d,0)by unfold dC;rw [hx];rfl);obtain⟨k1,k2,k3,k4⟩:=aF hx;have hf:=tL hx;have HF:=yq (IM (n:=n) k1);have hft:=tK (n:=n) k1;have hq1:-1000000000000001<=n.tdiv d:=by omega
  have hq2:n.tdiv d<=1000000000000001:=by omega
  have d0:(d==0)=false:=by simp;omega
  clear hx hf hft;have e1:IntKind.i64.wrap (n.tdiv d)=n.tdiv d:=IntWalk.i64_in _ zb;generalize n / d=z at *
  have hp1:n.tdiv d*d<=2000000000000000/\-2000000000000000<=n.tdiv d*d:=by
   have e5:=Int.mul_tdiv_add_tmod n d;have hb:=Int.tmod_lt_of_pos n (show 0<d by omega);have hc:=Int.tmod_lt_of_pos (-n) (show 0<d by omega);rw [Int.neg_tmod]at hc;rw [Int.mul_comm]at e5;omega
  have hp2:=hp1.1;have hp3:=hp1.2;clear hp1;by_cases c:n<n.tdiv d*d
  focus
   have HZ:=yq (show z=n.tdiv d-1 by rw [<-HF.out,if_pos c])
  rotate_left
  focus
   have HZ:=yq (show z=n.tdiv d by rw [<-HF.out,if_neg c])
  rotate_left
  all_goals
   clear HF
   go_enter func116,ntmps116
   go_wp2_with fail
   refine gvq (hv.out _) ?_;intro bs dr;clear hv
   go_wp2_with fail
   go_returns
   exact⟨by rw [HR.out,HZ.out];rfl,.of_below au⟩
def O7(s p q:Bool):Int:=if s then(if q then -1 else if p then 1 else 0)else(if p then -1 else if q then 1 else 0)
theorem Jc(an ad bn bd xh xl yh yl:Int)(s p q:Bool)(w:World)(hs1:decide (an<0)=s)(hs2:decide (bn<0)=s)
 (V1:Hid (∀w,Calls prog 128 #[.agg #[.int .i64 an,.int .i64 ad]] w fun e w'=>e= .returned (.bool true)/\w.Grows w')) (V2:Hid (∀w,Calls prog 128 #[.agg #[.int .i64 bn,.int .i64 bd]] w fun e w'=>e= .returned (.bool true)/\w.Grows w'))
 (Z:Hid (∀n,I64 n->∀w,Calls prog 177 #[.int .i64 n] w fun e w'=>e= .returned (.int .u64 (aG n))/\w=w')) (I1:I64 an) (I2:I64 ad) (I3:I64 bn) (I4:I64 bd)
 (T1:Hid (∀w,Calls prog 182 #[.int .u64 (aG an),.int .u64 (aG bd)] w fun e w'=>e= .returned (.agg #[.int .u64 xh,.int .u64 xl])/\w.Grows w')) (T2:Hid (∀w,Calls prog 182 #[.int .u64 (aG bn),.int .u64 (aG ad)] w fun e w'=>e= .returned (.agg #[.int .u64 yh,.int .u64 yl])/\w.Grows w'))
 (L1:Hid (∀w,Calls prog 184 #[.agg #[.int .u64 xh,.int .u64 xl],.agg #[.int .u64 yh,.int .u64 yl]] w fun e w'=>e= .returned (.bool p)/\w.Grows w')) (L2:Hid (∀w,Calls prog 184 #[.agg #[.int .u64 yh,.int .u64 yl],.agg #[.int .u64 xh,.int .u64 xl]] w fun e w'=>e= .returned (.bool q)/\w.Grows w'))
 :Calls prog 139 #[.agg #[.int .i64 an,.int .i64 ad],.agg #[.int .i64 bn,.int .i64 bd]] w fun e w'=>e= .returned (frI (O7 s p q,0))/\w.Grows w':=by
 cases s<;>
 ·go_enter func139,ntmps139
  go_wp2_with (first|(go_at_call 128;(with_reducible refine gvq (V1.out _) ?_);intro bs dr)|(go_at_call 128;(with_reducible refine gvq (V2.out _) ?_);intro bs2 dr2))
  clear V1 V2;obtain⟨W,hW⟩:∃W,(((w.alloc (.cells #[.int .i64 an,.int .i64 ad] 24)).alloc (.cells #[.int .i64 bn,.int .i64 bd] 24)).grow (bs++bs2) dr2)=W:=⟨_,rfl⟩;have x0:W.cell? ⟨w.heap.size,0,none⟩=some (.int .i64 an):=by rw [<-hW];simp [go_sem]
  have x1:W.cell? ⟨w.heap.size,1,none⟩=some (.int .i64 ad):=by rw [<-hW];simp [go_sem]
  have x2:W.cell? ⟨w.heap.size+1,0,none⟩=some (.int .i64 bn):=by rw [<-hW];simp [go_sem]
  have x3:W.cell? ⟨w.heap.size+1,1,none⟩=some (.int .i64 bd):=by rw [<-hW];simp [go_sem]
  have hbw:Below w.heap.size w W:=by rw [<-hW];(exact au)
  have hz0:w.heap.size<W.heap.size:=by rw [<-hW];simp;omega
  have hz1:w.heap.size+1<W.heap.size:=by rw [<-hW];simp;omega
  rw [hW];clear hW;apply iT 16 (14,6,.cells #[.int .u64 0,.int .u64 0] 228) (15,7,.cells #[.int .u64 0,.int .u64 0] 228) zd zd
  case hrx=>
   intro o ho ρ w;obtain rfl:=Option.some.inj ho;simp [go_sem]
  case hry=>
   intro o ho ρ w;obtain rfl:=Option.some.inj ho;simp [go_sem]
  case h1=>
   intro bs d;simp only [take_succ_cons,take_zero,map_cons,map_nil,Oper.mask];repeat(go_big_quiet_step ((first|(go_at_call 177;(with_reducible exact Calls.quietMS (Z.out _ zm _)))|(go_at_call 182;first|(with_reducible exact Calls.quietM (T1.out _))|(with_reducible exact Calls.quietM (T2.out _))))))
   exact wpQuiet_nil rfl
  all_goals
   intro gb1 gd1 gb2 gd2 gb gd;simp only [drop_succ_cons,drop_zero,Act.put,setIfInBounds_toArray,set_cons_zero,set_cons_succ]
  all_goals
   clear T1 T2 Z;cases p<;>cases q
  all_goals
   go_wp2_with (first|(go_at_call 184;(with_reducible refine gvq (L1.out _) ?_);intro bs3 dr3)|(go_at_call 184;(with_reducible refine gvq (L2.out _) ?_);intro bs4 dr4))
   go_returns
   exact⟨rfl,.of_below au⟩
theorem O8(an ad bn bd:Int)(p q:Bool)(w:World)(hpq:(p&&q)=false)
 (V1:Hid (∀w,Calls prog 128 #[.agg #[.int .i64 an,.int .i64 ad]] w fun e w'=>e= .returned (.bool p)/\w.Grows w')) (V2:Hid (∀w,Calls prog 128 #[.agg #[.int .i64 bn,.int .i64 bd]] w fun e w'=>e= .returned (.bool q)/\w.Grows w'))
 :Calls prog 139 #[.agg #[.int .i64 an,.int .i64 ad],.agg #[.int .i64 bn,.int .i64 bd]] w fun e w'=>e= .returned (frI (0,1))/\w.Grows w':=by
 cases p<;>cases q
 all_goals first
  |(exfalso;simp at hpq;done)
  |(clear hpq
    go_enter func139,ntmps139
    go_wp2_with (first|(go_at_call 128;(with_reducible refine gvq (V1.out _) ?_);intro bs dr)|(go_at_call 128;(with_reducible refine gvq (V2.out _) ?_);intro bs2 dr2))
    go_returns
    exact⟨rfl,.of_below au⟩)
theorem Jb(an ad bn bd r:Int)(w:World)(hd:decide (an<0)≠decide (bn<0))(hr:Hid (r=if an<0 then -1 else 1))
 (V1:Hid (∀w,Calls prog 128 #[.agg #[.int .i64 an,.int .i64 ad]] w fun e w'=>e= .returned (.bool true)/\w.Grows w')) (V2:Hid (∀w,Calls prog 128 #[.agg #[.int .i64 bn,.int .i64 bd]] w fun e w'=>e= .returned (.bool true)/\w.Grows w'))
 :Calls prog 139 #[.agg #[.int .i64 an,.int .i64 ad],.agg #[.int .i64 bn,.int .i64 bd]] w fun e w'=>e= .returned (frI (r,0))/\w.Grows w':=by
 by_cases c:an<0
 focus
  have d1:decide (an<0)=true:=by simpa using c
  have d2:decide (bn<0)=false:=by simp [c]at hd;simpa using hd
  have HR:=yq (show r= -1 by rw [hr.out,if_pos c])
 rotate_left
 focus
  have d1:decide (an<0)=false:=by simpa using c
  have d2:decide (bn<0)=true:=by simp [c]at hd;simpa using hd
  have HR:=yq (show r=1 by rw [hr.out,if_neg c])
 rotate_left
 all_goals
  clear hd c hr
  go_enter func139,ntmps139
  go_wp2_with (first|(go_at_call 128;(with_reducible refine gvq (V1.out _) ?_);intro bs dr)|(go_at_call 128;(with_reducible refine gvq (V2.out _) ?_);intro bs2 dr2))
  go_returns
  exact⟨by rw [HR.out];rfl,.of_below au⟩
theorem wZ{an ad bn bd:Int}(h1:1<=ad)(h2:1<=bd)(h:decide (an<0)=decide (bn<0)) :
 gY an ad bn bd=O7 (decide (an<0)) (decide (an.natAbs*bd.natAbs<bn.natAbs*ad.natAbs)) (decide (bn.natAbs*ad.natAbs<an.natAbs*bd.natAbs)):=by
 rw [Md h1 h2 h];unfold O7;by_cases c:an<0<;>simp [c]
theorem mD{F:FuncId}(T:∀(a b:Nat) (w:World),a<18446744073709551616->b<18446744073709551616->Calls prog F #[.int .u64 a,.int .u64 b] w fun e w'=>e= .returned (.agg #[.int .u64 (hiW (a*b)),.int .u64 (loW (a*b))])/\w.Grows w')
 {a b:Int} (ha:I64 a) (hb:I64 b) (w:World):Calls prog F #[.int .u64 (aG a),.int .u64 (aG b)] w fun e w'=>e= .returned (.agg #[.int .u64 (hiW (a.natAbs*b.natAbs)),.int .u64 (loW (a.natAbs*b.natAbs))])/\w.Grows w':=by
 unfold I64 at ha hb;exact T a.natAbs b.natAbs w zb zb
def lw(a b c d:Int):Prop:=I64 a/\I64 b/\I64 c/\I64 d
theorem AY(an ad bn bd:Int)(w:World)(hi:lw an ad bn bd) :
 Calls prog 139 #[.agg #[.int .i64 an,.int .i64 ad],.agg #[.int .i64 bn,.int .i64 bd]] w fun e w'=>e= .returned (frI (qi an ad bn bd))/\w.Grows w':=by
 obtain⟨i1,i2,i3,i4⟩:=hi;have V1:=yq (fun w=>dE an ad w i1.1 i1.2 i2.1 i2.2);have V2:=yq (fun w=>dE bn bd w i3.1 i3.2 i4.1 i4.2);by_cases hv:(az an ad&&az bn bd)=true
 ·have hva:=(Bool.and_eq_true_iff.1 hv).1;have hvb:=(Bool.and_eq_true_iff.1 hv).2;rw [show qi an ad bn bd=(gY an ad bn bd,0)by unfold qi;rw [if_pos hv]];rw [hva]at V1;rw [hvb]at V2;have b1:=aF hva;have b2:=aF hvb;by_cases hs:decide (an<0)=decide (bn<0)
  ·rw [wZ b1.1 b2.1 hs];refine Jc an ad bn bd _ _ _ _ _ _ _ w rfl hs.symm V1 V2 (fun n h w=>iw n w h.1 h.2) i1 i2 i3 i4 (mD ik i1 i4) (mD ik i3 i2) ?_ ?_
   ·intro w;have:=pR (hiW (an.natAbs*bd.natAbs)) (loW (an.natAbs*bd.natAbs)) (hiW (bn.natAbs*ad.natAbs)) (loW (bn.natAbs*ad.natAbs)) w;rwa [kg]at this
   ·intro w;have:=pR (hiW (bn.natAbs*ad.natAbs)) (loW (bn.natAbs*ad.natAbs)) (hiW (an.natAbs*bd.natAbs)) (loW (an.natAbs*bd.natAbs)) w;rwa [kg]at this
  ·rw [CX b1.1 b2.1 hs];exact Jb an ad bn bd _ w hs (yq rfl) V1 V2
 ·rw [show qi an ad bn bd=(0,1)by unfold qi;rw [if_neg hv]];exact O8 an ad bn bd _ _ w (Bool.eq_false_iff.2 hv) V1 V2
end Go.Proofs.YteildlpchhlchaaGreatDoor
