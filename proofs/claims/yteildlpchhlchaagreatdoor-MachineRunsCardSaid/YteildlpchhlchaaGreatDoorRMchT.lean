import Derived.Test.YteildlpchhlchaaGreatDoorREvU
import Derived.Lib.OthersKept
set_option linter.all false
set_option maxHeartbeats 16000000
set_option maxRecDepth 1000000
namespace Go.Proofs.YteildlpchhlchaaGreatDoor
open Tryz List
structure kZ(l:List Ins)(sl:List ByteArray)(i:Nat)(st:List (ByteArray × Val)):Prop where
 ok:∀p∈st,p.2.ok=true
 nm:∀p∈st,∃j,j<i/\(l.getD j default).op=4/\p.1=sl.getD (l.getD j default).a.toNat ByteArray.empty
 one:(st.map Prod.fst).Nodup
theorem kZ.nil{l:List Ins}{sl:List ByteArray}{i:Nat}:kZ l sl i []:=⟨fun _ h=>zD,fun _ h=>zD,nodup_nil⟩
theorem kZ.later{l:List Ins}{sl:List ByteArray}{i j:Nat}{st:List (ByteArray × Val)}(h:kZ l sl i st)(hij:i<=j):kZ l sl j st:=⟨h.ok,fun p hp=>by
 obtain⟨k,h1,h2⟩:=h.nm p hp
 exact⟨k,by omega,h2⟩,h.one⟩
section
variable {l : List Ins} {sl : List ByteArray} {v : Vw} {F : List (Option (List Int × List Bool))} {D : List Int}
end
def shI(m n:Nat)(x:Ins):Ins:=if x.op=3\/x.op=4 then {x with a:=x.a+m}else if x.op=21\/x.op=22 then {x with a:=x.a+n}else x
theorem P5(m n:Nat)(x:Ins):(shI m n x).op=x.op:=by unfold shI;split;rfl;split<;>rfl
theorem Bi{m n:Nat}{x:Ins}(h:x.op=3\/x.op=4):(shI m n x).a=x.a+m:=by unfold shI;rw [if_pos h]
theorem Bj{m n:Nat}{x:Ins}(h1:¬(x.op=3\/x.op=4))(h2:¬(x.op=21\/x.op=22)):shI m n x=x:=by unfold shI;rw [if_neg h1,if_neg h2]
section
variable {S S' R : List (Option (List Int × List Bool))} {s s' : List Int × List Bool} {x : Ins} {i dep dep' m : Nat} {dims dims' : List Int}
def Low(m:Nat)(b:List Bool):Prop:=b.length=12/\∀k,m<=k->b.getD k false=false
theorem Low.set{a:List Bool}(ha:Low m a){k:Nat}(hk:k<m):Low m (a.set k true):=by
 refine⟨by rw [length_set];exact ha.1,fun j hj=>?_⟩;rw [ay,if_neg (fun c=>by omega)];exact ha.2 j hj
end
def sK(m:Nat)(A b:List Bool):List Bool:=(List.range 12).map fun k=>if k<m then A.getD k false else b.getD (k-m) false
theorem kw{m:Nat}{A b:List Bool}{k:Nat}(h:k<12):(sK m A b).getD k false=if k<m then A.getD k false else b.getD (k-m) false:=by
 unfold sK;simp [getD_eq_getElem?_getD,getElem?_range h]
theorem iP{m:Nat}{A b:List Bool}:(sK m A b).length=12:=by simp [sK]
theorem PI{a b:List Bool}(ha:a.length=12)(hb:b.length=12)(h:∀k,k<12->a.getD k false=b.getD k false):a=b:=by
 apply ext_getElem zb;intro k h1 h2;have:=h k zb;rw [getD_eq_getElem?_getD,getD_eq_getElem?_getD,getElem?_eq_getElem h1,getElem?_eq_getElem h2]at this;exact this
theorem Fj{a b:List Bool}(ha:a.length=12)(hb:b.length=12){k:Nat}:(zipWith (· && ·) a b).getD k false=(a.getD k false&&b.getD k false):=by
 rw [getD_eq_getElem?_getD,getElem?_zipWith,getD_eq_getElem?_getD,getD_eq_getElem?_getD]
 cases e1:a[k]? with
 |none=>rfl
 |some u=>
  cases e2:b[k]? with
  |none=>simp
  |some v=>rfl
theorem KW{m:Nat}{A a b:List Bool}(ha:a.length=12)(hb:b.length=12):zipWith (· && ·) (sK m A a) (sK m A b)=sK m A (zipWith (· && ·) a b):=by
 refine PI (by rw [length_zipWith,iP,iP];rfl) iP fun k hk=>?_;rw [Fj iP iP,kw hk,kw hk,kw hk,Fj ha hb];by_cases h:k<m
 ·simp only [if_pos h,Bool.and_self]
 ·simp only [if_neg h]
theorem KX{m:Nat}{A a:List Bool}(ha:a.length=12){k:Nat}(hk:m+k<12):sK m A (a.set k true)=(sK m A a).set (m+k) true:=by
 refine PI iP (by rw [length_set,iP]) fun j hj=>?_;rw [kw hj,ay,ay,kw hj,iP];by_cases h:j<m
 ·rw [if_pos h,if_pos h,if_neg (fun c=>by omega)]
 ·rw [if_neg h,if_neg h];by_cases e:j=m+k
  ·subst e;rw [if_pos ⟨by omega,by rw [ha];omega⟩,if_pos ⟨rfl,hj⟩]
  ·rw [if_neg (fun c=>by omega),if_neg (fun c=>by omega)]
def jH(m:Nat)(A:List Bool)(s:List Int × List Bool):List Int × List Bool:=(s.1,sK m A s.2)
structure Fa(m n m2:Nat)(A:List Bool)(Sc Sb:List (Option (List Int × List Bool)))(Dc Db:List Int):Prop where
 len:Sc.length=n+Sb.length
 st:∀j,Sc.getD (n+j) none=(Sb.getD j none).map (jH m A)
 l12:∀j s,Sb.getD j none=some s->s.2.length=12
 dm:∀k,k<m2->Dc.getD (m+k) 0=Db.getD k 0
 dc:Dc.length=12
 db:Db.length=12
section
variable {m n m2 : Nat} {A : List Bool} {Sc Sb Sb' : List (Option (List Int × List Bool))} {Dc Db Db' : List Int} {s s' : List Int × List Bool} {x : Ins}
theorem Fa.put(h:Fa m n m2 A Sc Sb Dc Db)(hs:s.2.length=12){k:Nat}(hp:fG Sb k s=some Sb'):∃Sc',fG Sc (n+k) (jH m A s)=some Sc'/\Fa m n m2 A Sc' Sb' Dc Db:=by
 have key:∀u:List Int × List Bool,u.2.length=12->Fa m n m2 A (Sc.set (n+k) (some (jH m A u))) (Sb.set k (some u)) Dc Db:=fun u hu=>by
  refine⟨by rw [length_set,length_set];exact h.len,fun j=>?_,fun j t ht=>?_,h.dm,h.dc,h.db⟩
  ·rw [ay,ay,h.st j];by_cases e:k=j/\j<Sb.length
   ·rw [if_pos e,if_pos ⟨by omega,by rw [h.len];omega⟩];rfl
   ·rw [if_neg e,if_neg (fun c=>e ⟨by omega,by have:=h.len;omega⟩)]
  ·rw [ay]at ht
   split at ht
   ·obtain rfl:=Option.some.inj ht;exact hu
   ·exact h.l12 j t ht
 unfold fG at hp ⊢;rw [h.st k]
 cases e:Sb.getD k none with
 |none=>
  rw [e]at hp;obtain rfl:=Option.some.inj hp;exact⟨_,rfl,key s hs⟩
 |some t=>
  rw [e]at hp;by_cases e1:t.1=s.1
  ·simp only [if_pos e1]at hp;obtain rfl:=Option.some.inj hp;refine⟨_,by simp only [Option.map_some];rw [if_pos (show(jH m A t).1=(jH m A s).1 from e1)], ?_⟩;have:=key (t.1,zipWith (· && ·) t.2 s.2) (by rw [length_zipWith,h.l12 k t e,hs];rfl);unfold jH at this ⊢;rw [KW (h.l12 k t e) hs];exact this
  ·simp only [if_neg e1]at hp;cases hp
theorem Fa.app(h:Fa m n m2 A Sc Sb Dc Db)(hm:m+m2<=12){nn i:Nat}(hw:wfF m2 nn i x=true)(hs:s.2.length=12)(ha:bN x s Db=some (s',Db')) :
 ∃Dc',bN (shI m n x) (jH m A s) Dc=some (jH m A s',Dc')/\Fa m n m2 A Sc Sb Dc' Db'/\s'.2.length=12:=by
 have hop:=P5 m n x;by_cases o1:x.op=1
 ·have e:=Bj (m:=m) (n:=n) (x:=x) zb zb;unfold bN at ha ⊢;rw [if_pos o1]at ha;rw [e,if_pos o1];obtain⟨rfl,rfl⟩:=Prod.mk.inj (Option.some.inj ha);exact⟨Dc,rfl,h,hs⟩
 have hr:=dH hw o1;by_cases o3:x.op=3
 ·have hk:=hr.2.2.1 (.inl o3);have e:=Bi (m:=m) (n:=n) (x:=x) (.inl o3);have et:(shI m n x).a.toNat=m+x.a.toNat:=by rw [e];omega
  unfold bN at ha ⊢;rw [hop,et];simp only [o3]at ha ⊢;simp only [if_neg (show ¬(3:Int)=1 by decide),if_neg (show ¬(3:Int)=2 by decide),if_neg (show ¬(3:Int)=5 by decide),if_neg (show ¬((3:Int)=23\/(3:Int)=24)by decide),if_true]at ha ⊢
  have eb:(jH m A s).2.getD (m+x.a.toNat) false=s.2.getD x.a.toNat false:=by
   show(sK m A s.2).getD _ _=_;rw [kw zb,if_neg zb,Nat.add_sub_cancel_left]
  rw [eb];by_cases hb:s.2.getD x.a.toNat false=true
  ·rw [if_pos hb]at ha ⊢;obtain⟨rfl,rfl⟩:=Prod.mk.inj (Option.some.inj ha);refine⟨Dc, ?_,h,hs⟩;rw [h.dm _ zb];rfl
  ·rw [if_neg hb]at ha;cases ha
 by_cases o4:x.op=4
 ·have hk:=hr.2.2.1 (.inr o4);have e:=Bi (m:=m) (n:=n) (x:=x) (.inr o4);have et:(shI m n x).a.toNat=m+x.a.toNat:=by rw [e];omega
  unfold bN at ha ⊢;rw [hop,et];simp only [o4]at ha ⊢;simp only [if_neg (show ¬(4:Int)=1 by decide),if_neg (show ¬(4:Int)=2 by decide),if_neg (show ¬(4:Int)=3 by decide),if_neg (show ¬(4:Int)=5 by decide),if_neg (show ¬((4:Int)=23\/(4:Int)=24)by decide),if_true]at ha ⊢;by_cases he:s.1= []
  ·rw [if_pos he]at ha;cases ha
  rw [if_neg he]at ha;rw [if_neg (show ¬(jH m A s).1= []from he)];obtain⟨rfl,rfl⟩:=Prod.mk.inj (Option.some.inj ha);refine⟨Dc.set (m+x.a.toNat) (s.1.getLastD 0), ?_,⟨h.len,h.st,h.l12,fun k hk2=>?_,by rw [length_set];exact h.dc,by rw [length_set];exact h.db⟩,by rw [length_set];exact hs⟩
  ·unfold jH;rw [KX hs zb]
  ·rw [ay,ay,h.dm k hk2];have:=h.dc;have:=h.db;by_cases ek:x.a.toNat=k
   ·subst ek;rw [if_pos ⟨rfl,by omega⟩,if_pos ⟨rfl,by omega⟩]
   ·rw [if_neg (fun c=>ek zb),if_neg (fun c=>ek c.1)]
 by_cases oj:x.op=21\/x.op=22
 ·unfold bN at ha ⊢;rw [hop];rcases oj with o|o
  all_goals
   simp only [o]at ha ⊢;simp at ha ⊢
  ·obtain⟨rfl,rfl⟩:=ha;exact⟨Dc,⟨rfl,rfl⟩,h,hs⟩
  ·obtain⟨h1,rfl,rfl⟩:=ha;exact⟨Dc,⟨h1,rfl,rfl⟩,h,hs⟩
 have e:=Bj (m:=m) (n:=n) (x:=x) zb oj;rw [e];unfold bN at ha ⊢;rw [if_neg o1]at ha ⊢;by_cases o2:x.op=2
 ·rw [if_pos o2]at ha ⊢;obtain⟨rfl,rfl⟩:=Prod.mk.inj (Option.some.inj ha);exact⟨Dc,rfl,h,hs⟩
 rw [if_neg o2]at ha ⊢;by_cases o5:x.op=5
 ·rw [if_pos o5]at ha ⊢;obtain⟨rfl,rfl⟩:=Prod.mk.inj (Option.some.inj ha);exact⟨Dc,rfl,h,hs⟩
 rw [if_neg o5]at ha ⊢;by_cases o23:x.op=23\/x.op=24
 ·rw [if_pos o23]at ha ⊢;obtain⟨rfl,rfl⟩:=Prod.mk.inj (Option.some.inj ha);exact⟨Dc,rfl,h,hs⟩
 rw [if_neg o23,if_neg o3,if_neg o4,if_neg zb,if_neg zb]at ha ⊢;by_cases hn:s.1.length<aB (opF x.op)
 ·rw [if_pos hn]at ha;cases ha
 rw [if_neg hn]at ha;rw [if_neg (show ¬(jH m A s).1.length<aB (opF x.op)from hn)];by_cases hz:ag (opF x.op) (s.1.drop (s.1.length-aB (opF x.op)))=0
 ·rw [if_pos hz]at ha;cases ha
 rw [if_neg hz]at ha;rw [if_neg (show ¬ag (opF x.op) ((jH m A s).1.drop ((jH m A s).1.length-aB (opF x.op)))=0 from hz)];obtain⟨rfl,rfl⟩:=Prod.mk.inj (Option.some.inj ha);exact⟨Dc,rfl,h,hs⟩
end
theorem tH{l:List Ins}{sl:List ByteArray}(h:fA l sl=true):l.length<=4000/\(∀i,i<l.length->wfF sl.length l.length i (l.getD i default)=true)/\(sl.length<=12/\sl.all isWord=true/\sl.Nodup)/\(dK l).Nodup:=by
 unfold fA dX at h;simp only [Bool.and_eq_true,decide_eq_true_eq,all_eq_true,mem_range]at h;exact⟨h.1.1,h.1.2,⟨h.2.1.1.1,all_eq_true.2 h.2.1.1.2,h.2.1.2⟩,h.2.2⟩
theorem rP{l:List Ins}{sl:List ByteArray}{d:Int}(h:dO l sl=(d,0)):fA l sl=true/\goA l 0 (some ([],List.replicate 12 false)::List.replicate l.length none) (List.replicate 12 0) 0=(d,0):=by
 unfold dO at h;by_cases hf:fA l sl=true
 ·rw [if_pos hf]at h;exact⟨hf,h⟩
 ·rw [if_neg hf]at h;cases(Prod.mk.inj h).2
def aN(sl:List ByteArray)(v:Vw)(x:Ins)(i:Nat)(stk slots:List Val)(st:List (ByteArray × Val)):(Nat × List Val × List Val × List (ByteArray × Val)) ⊕ Int:=
 if x.op=1 then .inl (i+1,stk++[⟨x.a,false,x.n,x.d⟩],slots,st)
 else if x.op=2 then .inl (i+1,stk++[fK v x.a.toNat],slots,st)
 else if x.op=3 then .inl (i+1,stk++[slots.getD x.a.toNat .zero],slots,st)
 else if x.op=4 then .inl (i+1,stk.dropLast,slots.set x.a.toNat (stk.getLastD .zero),st++[(sl.getD x.a.toNat ByteArray.empty,stk.getLastD .zero)])
 else if x.op=5 then(if(dh v.years x.a).2.2=0 then .inl (i+1,stk++[.num 4 (dh v.years x.a).1 (dh v.years x.a).2.1],slots,st)else .inr (dh v.years x.a).2.2)
 else if x.op=23\/x.op=24 then .inl (i+1,stk++[.truth (decide (x.op=23))],slots,st)
 else if x.op=21 then .inl (x.a.toNat,stk,slots,st)
 else if x.op=22 then .inl (if(stk.getLastD .zero).yes=true then i+1 else x.a.toNat,stk.dropLast,slots,st)
 else if(opV (opF x.op) (stk.drop (stk.length-aB (opF x.op)))).2=0 then .inl (i+1,stk.take (stk.length-aB (opF x.op))++[(opV (opF x.op) (stk.drop (stk.length-aB (opF x.op)))).1],slots,st)
 else .inr (opV (opF x.op) (stk.drop (stk.length-aB (opF x.op)))).2
theorem fE(l:List Ins)(sl:List ByteArray)(v:Vw)(f i:Nat)(stk slots:List Val)(st:List (ByteArray × Val)):gP l sl v (f+1) i stk slots st=if l.length<=i then(st,0)else match aN sl v (l.getD i default) i stk slots st with
 | .inl t=>gP l sl v f t.1 t.2.1 t.2.2.1 t.2.2.2
 | .inr e=>([],e):=by
 rw [gP];generalize l.getD i default=x;by_cases h:l.length<=i
 ·rw [if_pos h,if_pos h]
 rw [if_neg h,if_neg h];unfold aN;by_cases o1:x.op=1
 ·rw [if_pos o1,if_pos o1]
 rw [if_neg o1,if_neg o1];by_cases o2:x.op=2
 ·rw [if_pos o2,if_pos o2]
 rw [if_neg o2,if_neg o2];by_cases o3:x.op=3
 ·rw [if_pos o3,if_pos o3]
 rw [if_neg o3,if_neg o3];by_cases o4:x.op=4
 ·rw [if_pos o4,if_pos o4]
 rw [if_neg o4,if_neg o4];by_cases o5:x.op=5
 ·rw [if_pos o5,if_pos o5];by_cases e:(dh v.years x.a).2.2=0
  ·rw [if_pos e,if_pos e]
  ·rw [if_neg e,if_neg e]
 rw [if_neg o5,if_neg o5];by_cases o6:x.op=23\/x.op=24
 ·rw [if_pos o6,if_pos o6]
 rw [if_neg o6,if_neg o6];by_cases o7:x.op=21
 ·rw [if_pos o7,if_pos o7]
 rw [if_neg o7,if_neg o7];by_cases o8:x.op=22
 ·rw [if_pos o8,if_pos o8]
 rw [if_neg o8,if_neg o8];by_cases e:(opV (opF x.op) (stk.drop (stk.length-aB (opF x.op)))).2=0
 ·rw [if_pos e,if_pos e]
 ·rw [if_neg e,if_neg e]
section
variable {l l1 l2 : List Ins} {sl s1 s2 s3 : List ByteArray} {v : Vw} {F : List (Option (List Int × List Bool))} {D : List Int}
theorem Ba{m n i:Nat}{x:Ins}{stk slots:List Val}{st:List (ByteArray × Val)}{t:Nat × List Val × List Val × List (ByteArray × Val)}(hw:wfF m n i x=true)(hi:i<n)(h:aN sl v x i stk slots st= .inl t):i<t.1/\t.1<=n:=by
 by_cases o1:x.op=1
 ·unfold aN at h;rw [if_pos o1]at h;obtain rfl:=Sum.inl.inj h;exact⟨by simp,by show i+1<=n;omega⟩
 have hj:=(dH hw o1).2.2.2.2.1;unfold aN at h;rw [if_neg o1]at h;by_cases o7:x.op=21
 ·simp only [o7]at h;simp at h;obtain rfl:=h;have:=hj (.inl o7);exact⟨by show i<x.a.toNat;omega,by show x.a.toNat<=n;omega⟩
 by_cases o8:x.op=22
 ·simp only [o8]at h;simp at h;obtain rfl:=h;have:=hj (.inr o8);dsimp only
  split<;>omega
 rw [if_neg o7,if_neg o8]at h
 repeat' split at h
 all_goals first
  |(cases h;done)
  |(obtain rfl:=Sum.inl.inj h;exact⟨by simp,by show i+1<=n;omega⟩)
theorem Bq{m:Nat}(hw:∀i,i<l.length->wfF m l.length i (l.getD i default)=true):∀(f g i:Nat) (stk slots:List Val) (st:List (ByteArray × Val)),l.length<=f+i->l.length<=g+i->gP l sl v f i stk slots st=gP l sl v g i stk slots st
 |0,g,i,stk,slots,st,h1,_=>by
  cases g with
  |zero=>rfl
  |succ g=>rw [fE,if_pos zb];rfl
 |f+1,g,i,stk,slots,st,h1,h2=>by
  by_cases hi:l.length<=i
  ·rw [fE,if_pos hi]
   cases g with
   |zero=>rfl
   |succ g=>rw [fE,if_pos hi]
  cases g with
  |zero=>omega
  |succ g=>
   rw [fE,fE,if_neg hi,if_neg hi]
   cases e:aN sl v (l.getD i default) i stk slots st with
   |inr c=>rfl
   |inl t=>
    have:=Ba (hw i zb) zb e;exact Bq hw f g t.1 _ _ _ zb zb
end
def GH(l:List Ins)(sl:List ByteArray)(v:Vw):List (ByteArray × Val) × Int:=gP l sl v l.length 0 [] (List.replicate 12 .zero) []
open Go.RowKit Go.Sort Go.Lib
theorem Ji(l:List Int)(n:Int)(v:Value)(w:World)(hy:bR w v l)(h:n<1\/45<n\/bi l=false):Calls prog 59 #[v,.int .i64 n] w fun e w'=>e= .returned (frV (dh l n))/\w.Grows w':=by
 have HF:Hid (dh l n=(0,0,1)):=yq (by unfold dh;rw [if_pos h]);rw [HF.out];show Calls _ _ _ _ fun e w'=>e= .returned (.tuple #[.agg #[.int .i64 0,.int .i64 0],.int .i64 1])/\_;have HY:=yq hy;have HA:=yq (fun w' (hg:w.Grows w')=>ma l v w' (HY.out.grows hg));obtain⟨-,a,c,rfl,-⟩:=hy;clear HF;by_cases h1:n<1
 ·clear h
  go_enter func59,ntmps59
  exact uD
 ·by_cases h2:n > 45
  ·clear h
   go_enter func59,ntmps59
   exact uD
  ·have h3:bi l=false:=by
    rcases h with h|h|h
    ·omega
    ·omega
    ·exact h
   rw [h3]at HA;clear h h3
   go_enter func59,ntmps59
   go_wp2_with (go_at_call 96;refine gw (HA.out _ (.of_below au)) ?_)
   exact qO
theorem Jj(l:List Int)(n:Int)(v:Value)(w:World)(hy:bR w v l)(h:n<1\/45<n\/bi l=false):Calls prog 70 #[v,.int .i64 n] w fun e w'=>e= .returned (frV (dh l n))/\w.Grows w':=by
 have HF:Hid (dh l n=(0,0,1)):=yq (by unfold dh;rw [if_pos h]);rw [HF.out];show Calls _ _ _ _ fun e w'=>e= .returned (.tuple #[.agg #[.int .i64 0,.int .i64 0],.int .i64 1])/\_;have HY:=yq hy;have HA:=yq (fun w' (hg:w.Grows w')=>gK l v w' (HY.out.grows hg));obtain⟨-,a,c,rfl,-⟩:=hy;clear HF;by_cases h1:n<1
 ·clear h
  go_enter func70,ntmps70
  exact uD
 ·by_cases h2:n > 45
  ·clear h
   go_enter func70,ntmps70
   exact uD
  ·have h3:bi l=false:=by
    rcases h with h|h|h
    ·omega
    ·omega
    ·exact h
   rw [h3]at HA;clear h h3
   go_enter func70,ntmps70
   go_wp2_with (go_at_call 127;refine gvq (HA.out _ (.of_below au)) ?_;intro bs d)
   exact qO
theorem uk{l:List Int}{n:Int}(h1:1<=n)(h2:n<=45)(h3:bi l=true):dh l n=(mkN (nu l n) n,mkD (nu l n) n,mkE (nu l n) n):=by
 unfold dh;rw [if_neg (by rw [h3];simp;omega)]
theorem EX(l:List Int)(n:Int)(v:Value)(w:World)(hy:bR w v l)(h1:1<=n)(h2:n<=45)(h3:bi l=true):Calls prog 70 #[v,.int .i64 n] w fun e w'=>e= .returned (frV (dh l n))/\w.Grows w':=by
 rw [uk h1 h2 h3];obtain⟨nn,rfl⟩:=Int.eq_ofNat_of_zero_le (show 0<=n by omega);have HY:=yq hy;have HA:=yq (fun w' (hg:w.Grows w')=>gK l v w' (HY.out.grows hg));have HS:=yq (fun W Bs (hb:Bs<W.heap.size) hc (hg:w.Grows W)=>DK l v Bs W hb hc (HY.out.grows hg));rw [h3]at HA;have HB3:=yq h3;have HBS:Hid (nu l (nn:Int)=((ko l).take nn).sum):=yq rfl;obtain⟨h1000,a,c,rfl,-⟩:=hy;unfold frV Gh at *;dsimp only;generalize nu l (nn:Int)=BS at *;clear h3;have HM:=yq (fun z (h1:0<=z) (h2:z<=200000000000000) w=>JG z (nn:Int) w ⟨by omega,by omega⟩ ⟨by omega,by omega⟩);unfold frV at HM
 go_enter func70,ntmps70
 go_wp2_with (first
  |(go_at_call 127;refine gvq (HA.out _ (.of_below au)) ?_;intro bs d)
  |(go_at_call 131;refine(callsIn_wide.1 (MX Fence.wide 5 trivial rfl _ _ _ _)).mono ?_;rintro e' w' ⟨rfl,rfl⟩))
 go_at_call 130
 refine(HS.out _ _ ze zq (.of_below au)).mono ?_;rintro e' w' ⟨aa,cp,ss,rfl,hcp,hperm,hpair,hyr,bs3,d3,rfl⟩;obtain⟨M,hM⟩:∃M,ss.length-nn=M:=⟨_,rfl⟩;have hss:ss.length<=1000:=by rw [hperm.length_eq];exact h1000
 have hmx:max 0 (wrap64 ((ss.length:Int)-(nn:Int)))=(M:Int):=by
  rw [IntWalk.wrap64_in _ zb];omega
 have hmx2:max 0 ((ss.length:Int)-(nn:Int))=(M:Int):=by omega
 have hne:0<ss.length->¬cp=M:=by omega
 have hml:M<=ss.length:=by omega
 have HBL:=yq (Jh hperm hpair nn);rw [hM]at HBL;have HSB:=yq (Fv HB3.out hperm);have HGB:=yq (F3 HB3.out hperm);have HP:=yq hperm;clear hperm hpair hM;have HYS:=yq hyr;obtain⟨-,a2,c2,hv2,hcs⟩:=hyr;simp only [Value.slice.injEq,true_and]at hv2;obtain⟨rfl,rfl⟩:=hv2;have HCS:=yq hcs;clear hcs;by_cases hz:ss.length=0
 ·obtain rfl:ss= []:=eq_nil_of_length_eq_zero hz;obtain rfl:M=0:=by simpa using hml
  have h0:Hid (BS=0):=yq (by rw [HBS.out,<-HBL.out];rfl);simp only [length_nil]at *;by_cases hcc:cp=0
  all_goals
   go_wp2_with fail
   go_loopw [7,9,33] (fun v7 _ v33 wr=>v7= .int .i64 0/\v33= .int .i64 0/\wr=((((w.alloc (.cells #[.int .i64 0,.int .i64 0] 24)).grow bs d).alloc (.cells #[.slice a l.length c] 22)).grow bs3 d3)) (fun _ _ _ _=>0)
   case atStart=>exact⟨rfl,rfl,rfl⟩
   case round=>
    obtain⟨rfl,rfl,rfl⟩:=hrel
    go_wp2_with (go_at_call 132;refine gvq (HM.out _ zb zb _) ?_;intro bs4 d4)
    go_returns
    exact⟨by rw [h0.out],.of_below au⟩
 ·have hpos:0<ss.length:=by omega
  have hne:=hne hpos;have hadd:M+(ss.length-M)=ss.length:=by omega
  rcases HCS.out with h0|⟨b,off,rfl,hbw,hx⟩
  ·exact absurd h0 hz
  have HX:=yq hx;have HD:Hid (∀k,k<ss.length-M->kL (ss.drop M) (k+1)=kL (ss.drop M) k+ss.getD (M+k) 0):=yq (fun k hk=>by rw [vk _ _ (by simpa using hk),SE])
  have HSD:Hid (∀k,0<=kL (ss.drop M) k/\kL (ss.drop M) k<=200000000000000):=yq (fun k=>by
   have h1:=HSB.out;have:=JX (l:=(ss.drop M).take k) (fun z hz=>(jY HB3.out).2 z (HP.out.mem_iff.1 (mem_of_mem_drop (mem_of_mem_take hz))))
   have hl:((ss.drop M).take k).length<=200:=by
    have h2:=(jY HB3.out).1;have h3:=HP.out.length_eq;rw [length_take,length_drop];omega
   unfold kL
   omega)
  have HLL:Hid (kL (ss.drop M) (ss.length-M)=BS):=yq (by
   rw [HBS.out,<-HBL.out];unfold kL
   rw [take_of_length_le ze])
  clear hx hz;generalize hLL:ss.length-M=LL at *
  go_wp2_with fail
  go_loopw [7,9,33] (fun v7 _ v33 wr=>∃k:Nat,k<=LL/\v33= .int .i64 k/\v7= .int .i64 (kL (ss.drop M) k)/\wr=((((w.alloc (.cells #[.int .i64 0,.int .i64 0] 24)).grow bs d).alloc (.cells #[.slice a l.length c] 22)).grow bs3 d3)) (fun _ _ v33 _=>LL-(intOf v33).toNat)
  case atStart=>exact⟨0,by omega,rfl,rfl,rfl⟩
  case round=>
   obtain⟨k,hk,rfl,rfl,rfl⟩:=hrel;by_cases hlt:k<LL
   ·have x0:=HX.out (M+k) zb;have d1:(k:Int)<(LL:Int):=by omega
    have hs:=HD.out k hlt;have hb1:=HSD.out k;have hb2:=HSD.out (k+1);rw [hs]at hb2;have HS1:=yq hs;have HKL:=yq hlt;rw [<-Nat.add_assoc]at x0;clear hs hlt;generalize ss.getD (M+k) 0=z at *;generalize hsk:kL (ss.drop M) k=sk at *
    go_wp2_with fail
    go_roundw
    case rel=>exact⟨k+1,HKL.out,by go_num,by rw [HS1.out],zF⟩
    case measure=>simp [intOf];have:=HKL.out;omega
   ·obtain rfl:k=LL:=by omega
    rw [HLL.out];have hb1:=HSD.out k;rw [HLL.out]at hb1;have HBB:=yq hb1
    go_wp2_with (go_at_call 132;refine gvq (HM.out _ HBB.out.1 HBB.out.2 _) ?_;intro bs4 d4)
    exact qO
theorem JI(l:List Int)(n:Int)(v:Value)(w:World)(hy:bR w v l):Calls prog 70 #[v,.int .i64 n] w fun e w'=>e= .returned (frV (dh l n))/\w.Grows w':=by
 by_cases h:n<1\/45<n\/bi l=false
 ·exact Jj l n v w hy h
 ·simp only [not_or,Bool.not_eq_false]at h;exact EX l n v w hy zb zb h.2.2
open Go.RowKit
def lG(r:Val × Int)(w:World)(e:Ending)(w':World):Prop:=∃(m n d:Int) (b:Bool),e= .returned (.tuple #[.agg #[.int .i64 m,.bool b,.int .i64 n,.int .i64 d],.int .i64 r.2])/\(r.2=0->r.1=⟨m,b,n,d⟩)/\w.Grows w'
theorem gD(m:Int)(r:Int × Int × Int):(fM m r).2=r.2.2/\(r.2.2=0->(fM m r).1=⟨m,false,r.1,r.2.1⟩):=by
 unfold fM;by_cases h:r.2.2=0
 ·simp [h,Val.num]
 ·simp [h]
theorem og{x:Val}(h:x.ok=true):I64 x.n/\I64 x.d:=by
 by_cases hd:x.dim=1
 ·unfold Val.ok at h;simp [hd]at h;rw [h.1,h.2];unfold I64;omega
 ·have:=(Val.ok_num h hd).2.2.2;have:=aF this;unfold I64;omega
theorem Je(op:Int)(x:Val)(g o cap:Nat)(w:World)(hx:x.ok=true)(h4:4<=op)(h6:op<=6)(hg:g<w.heap.size)
 (c0:w.cell? ⟨g,o,none⟩=some (.int .i64 x.dim)) (c1:w.cell? ⟨g,o+1,none⟩=some (.bool x.yes)) (c2:w.cell? ⟨g,o+2,none⟩=some (.int .i64 x.n)) (c3:w.cell? ⟨g,o+3,none⟩=some (.int .i64 x.d)) :
 Calls prog 73 #[.int .i64 op,.slice (some ⟨g,o,none⟩) 1 cap] w (lG (op1 op x) w):=by
 obtain⟨⟨b1,b2⟩,⟨b3,b4⟩⟩:=og hx;have HN:=yq (fun w=>Dl x.n x.d w b1 b2 b3 b4);have HF:=yq (fun w=>Fe x.n x.d w b1 b2 b3 b4);obtain⟨m,y,n,d⟩:=x;dsimp only at *;obtain rfl|rfl|rfl:op=4\/op=5\/op=6:=by omega
 ·have HR:=yq (gD m (iA n d));have HE:Hid (op1 4 ⟨m,y,n,d⟩=fM m (iA n d)):=yq rfl;unfold frV at HN;generalize iA n d=r at *;obtain⟨rn,rd,rc⟩:=r;dsimp only at *;rw [HE.out];unfold lG;rw [HR.out.1];clear hx
  go_enter func73,ntmps73
  go_wp2_with (go_at_call 133;refine gvq (HN.out _) ?_;intro bs dd)
  go_returns
  exact⟨_,_,_,_,rfl,HR.out.2,af⟩
 ·clear hx
  go_enter func73,ntmps73
  go_wp2_with fail
  go_returns
  exact⟨_,_,_,_,rfl,fun _=>rfl,af⟩
 ·have HR:=yq (gD m ((dC n d).1,1,(dC n d).2));have HE:Hid (op1 6 ⟨m,y,n,d⟩=fM m ((dC n d).1,1,(dC n d).2)):=yq rfl;unfold frI at HF;generalize dC n d=r at *;obtain⟨rn,rc⟩:=r;dsimp only at *;rw [HE.out];unfold lG;rw [HR.out.1];clear hx
  go_enter func73,ntmps73
  go_wp2_with (go_at_call 134;refine gvq (HF.out _) ?_;intro bs dd)
  go_returns
  exact⟨_,_,_,_,rfl,HR.out.2,af⟩
theorem QT{a b c d:Int}(ha:az a b=true)(hb:az c d=true)(h:gY a b c d=0):a=c/\b=d:=by
 refine F4 ha hb ?_;unfold gY at h
 (repeat' split at h)<;>omega
theorem Jd(op:Int)(x y:Val)(g o cap:Nat)(w:World)(hx:x.ok=true)(hy:y.ok=true)(ho:op=7\/op=8\/op=9\/op=10\/op=19\/op=20\/(11<=op/\op<=16))(hres:ag op [x.dim,y.dim]≠0)(hg:g<w.heap.size)
 (c0:w.cell? ⟨g,o,none⟩=some (.int .i64 x.dim)) (c1:w.cell? ⟨g,o+1,none⟩=some (.bool x.yes)) (c2:w.cell? ⟨g,o+2,none⟩=some (.int .i64 x.n)) (c3:w.cell? ⟨g,o+3,none⟩=some (.int .i64 x.d))
 (c4:w.cell? ⟨g,o+4,none⟩=some (.int .i64 y.dim)) (c5:w.cell? ⟨g,o+5,none⟩=some (.bool y.yes)) (c6:w.cell? ⟨g,o+6,none⟩=some (.int .i64 y.n)) (c7:w.cell? ⟨g,o+7,none⟩=some (.int .i64 y.d)) :
 Calls prog 73 #[.int .i64 op,.slice (some ⟨g,o,none⟩) 2 cap] w (lG (op2 op x y) w):=by
 have hi:lw x.n x.d y.n y.d:=⟨(og hx).1,(og hx).2,(og hy).1,(og hy).2⟩;obtain⟨hx1,hy1⟩:=F8 ho hres;obtain⟨-,-,hxb,hxv⟩:=Val.ok_num hx hx1;obtain⟨-,-,hyb,hyv⟩:=Val.ok_num hy hy1;have HCQ:=yq (Gb hxv hyv);have HEQ:=yq (fun h=>QT hxv hyv h);have HRS:=yq hres;obtain⟨xm,xb,xn,xd⟩:=x;obtain⟨ym,yb,yn,yd⟩:=y;dsimp only at *;subst hxb hyb;have HA:=yq (fun w=>Du xn xd yn yd w hi);have HS:=yq (fun w=>Mt xn xd yn yd w hi);have HM:=yq (fun w=>MG xn xd yn yd w hi);have HD:=yq (fun w=>MN xn xd yn yd w hi);have HC:=yq (fun w=>AY xn xd yn yd w hi);unfold frI at HC;unfold frV at HA HS HM HD;rw [HCQ.out]at HC;dsimp only at HC;clear hx hy hi hx1 hy1 hxv hyv hres;rcases ho with rfl|rfl|rfl|rfl|rfl|rfl|ho
 ·rw [show op2 7 ⟨xm,false,xn,xd⟩ ⟨ym,false,yn,yd⟩=fM xm (jv xn xd yn yd)from rfl];have HR:=yq (gD (xm) (jv xn xd yn yd));generalize jv xn xd yn yd=r at *;obtain⟨rn,rd,rc⟩:=r;dsimp only at *;unfold lG;rw [HR.out.1]
  go_enter func73,ntmps73
  go_wp2_with (go_at_call 135;refine gvq (HA.out _) ?_;intro bs dd)
  go_returns
  exact⟨_,_,_,_,rfl,HR.out.2,af⟩
 ·rw [show op2 8 ⟨xm,false,xn,xd⟩ ⟨ym,false,yn,yd⟩=fM xm (lC xn xd yn yd)from rfl];have HR:=yq (gD (xm) (lC xn xd yn yd));generalize lC xn xd yn yd=r at *;obtain⟨rn,rd,rc⟩:=r;dsimp only at *;unfold lG;rw [HR.out.1]
  go_enter func73,ntmps73
  go_wp2_with (go_at_call 136;refine gvq (HS.out _) ?_;intro bs dd)
  go_returns
  exact⟨_,_,_,_,rfl,HR.out.2,af⟩
 ·have hres:=HRS.out;rw [oC]at hres;rw [show op2 9 ⟨xm,false,xn,xd⟩ ⟨ym,false,yn,yd⟩=fM (ag 9 [xm,ym]) (kv xn xd yn yd)from rfl];by_cases hm:xm=2
  focus
   have hd:ag 9 [xm,ym]=ym:=by rw [oC];(repeat' split at hres)<;>(first|omega|simp_all|(simp_all;omega))
   rw [hd];clear hres hd HRS;subst hm;have HR:=yq (gD (ym) (kv xn xd yn yd))
  rotate_left
  focus
   have hd:ag 9 [xm,ym]=xm:=by rw [oC];(repeat' split at hres)<;>(first|omega|simp_all|(simp_all;omega))
   have hmb:(xm==2)=false:=by simpa using hm
   rw [hd];clear hres hd hm HRS;have HR:=yq (gD (xm) (kv xn xd yn yd))
  rotate_left
  all_goals
   generalize kv xn xd yn yd=r at *;obtain⟨rn,rd,rc⟩:=r;dsimp only at *;unfold lG;rw [HR.out.1]
   go_enter func73,ntmps73
   go_wp2_with (go_at_call 137;refine gvq (HM.out _) ?_;intro bs dd)
   go_returns
   exact⟨_,_,_,_,rfl,HR.out.2,af⟩
 ·have hres:=HRS.out;rw [oD]at hres;rw [show op2 10 ⟨xm,false,xn,xd⟩ ⟨ym,false,yn,yd⟩=fM (ag 10 [xm,ym]) (kF xn xd yn yd)from rfl];by_cases hm:ym=2
  focus
   have hd:ag 10 [xm,ym]=xm:=by rw [oD];(repeat' split at hres)<;>(first|omega|simp_all|(simp_all;omega))
   rw [hd];clear hres hd HRS;subst hm;have HR:=yq (gD (xm) (kF xn xd yn yd))
  rotate_left
  focus
   have hd:ag 10 [xm,ym]=2:=by rw [oD];(repeat' split at hres)<;>(first|omega|simp_all|(simp_all;omega))
   have hmb:(ym==2)=false:=by simpa using hm
   have hmb2:(ym !=2)=true:=by simpa using hm
   rw [hd];clear hres hd hm HRS;have HR:=yq (gD (2) (kF xn xd yn yd))
  rotate_left
  all_goals
   generalize kF xn xd yn yd=r at *;obtain⟨rn,rd,rc⟩:=r;dsimp only at *;unfold lG;rw [HR.out.1]
   go_enter func73,ntmps73
   go_wp2_with (go_at_call 138;refine gvq (HD.out _) ?_;intro bs dd)
   go_returns
   exact⟨_,_,_,_,rfl,HR.out.2,af⟩
 ·have hres:=HRS.out;rw [mH _ _ zb]at hres
  have hxy:xm=ym:=by
   by_cases h:xm=ym
   ·exact h
   ·exact absurd (if_neg fun c=>h c.1) hres
  subst hxy;have HO:Hid (op2 19 ⟨xm,false,xn,xd⟩ ⟨xm,false,yn,yd⟩=_):=yq rfl;rw [HO.out];unfold op2;simp only [if_pos,if_neg (show ¬(20:Int)=19 by decide),if_neg (show ¬(19:Int)=7 by decide),if_neg (show ¬(19:Int)=8 by decide),if_neg (show ¬(19:Int)=9 by decide),if_neg (show ¬(19:Int)=10 by decide)];generalize hcc:gY xn xd yn yd=c at *;have HCC:=yq hcc;unfold lG;clear HRS HCQ HA HS HM HD HO hres hcc;rcases(show c<0\/c=0\/0<c by omega)with h1|h1|h1
  focus
   have n1:c<=0:=by omega
   have n2:¬0<=c:=by omega
   simp only [n1,n2,if_true,if_false];clear HEQ n1 n2
  rotate_left
  focus
   subst h1;obtain⟨rfl,rfl⟩:=HEQ.out rfl;simp only [Int.le_refl,if_true]
  rotate_left
  focus
   have n1:¬c<=0:=by omega
   have n2:0<=c:=by omega
   have n3:¬c<0:=by omega
   simp only [n1,n2,if_true,if_false];clear HEQ n1 n2
  rotate_left
  all_goals
   go_enter func73,ntmps73
   go_wp2_with (go_at_call 139;refine gvq (HC.out _) ?_;intro bs dd)
   all_goals first|(exfalso;omega)|skip
   all_goals go_returns
   all_goals first|exact⟨_,_,_,_,rfl,fun _=>rfl,af⟩|(exfalso;simp_all;done)|(exfalso;simp_all;omega)
 ·have hres:=HRS.out;rw [mH _ _ zb]at hres
  have hxy:xm=ym:=by
   by_cases h:xm=ym
   ·exact h
   ·exact absurd (if_neg fun c=>h c.1) hres
  subst hxy;have HO:Hid (op2 20 ⟨xm,false,xn,xd⟩ ⟨xm,false,yn,yd⟩=_):=yq rfl;rw [HO.out];unfold op2;simp only [if_pos,if_neg (show ¬(20:Int)=19 by decide),if_neg (show ¬(20:Int)=7 by decide),if_neg (show ¬(20:Int)=8 by decide),if_neg (show ¬(20:Int)=9 by decide),if_neg (show ¬(20:Int)=10 by decide)];generalize hcc:gY xn xd yn yd=c at *;have HCC:=yq hcc;unfold lG;clear HRS HCQ HA HS HM HD HO hres hcc;rcases(show c<0\/c=0\/0<c by omega)with h1|h1|h1
  focus
   have n1:c<=0:=by omega
   have n2:¬0<=c:=by omega
   simp only [n1,n2,if_true,if_false];clear HEQ n1 n2
  rotate_left
  focus
   subst h1;obtain⟨rfl,rfl⟩:=HEQ.out rfl;simp only [Int.le_refl,if_true]
  rotate_left
  focus
   have n1:¬c<=0:=by omega
   have n2:0<=c:=by omega
   have n3:¬c<0:=by omega
   simp only [n1,n2,if_true,if_false];clear HEQ n1 n2
  rotate_left
  all_goals
   go_enter func73,ntmps73
   go_wp2_with (go_at_call 139;refine gvq (HC.out _) ?_;intro bs dd)
   all_goals first|(exfalso;omega)|skip
   all_goals go_returns
   all_goals first|exact⟨_,_,_,_,rfl,fun _=>rfl,af⟩|(exfalso;simp_all;done)|(exfalso;simp_all;omega)
 ·have HO:Hid (op2 op ⟨xm,false,xn,xd⟩ ⟨ym,false,yn,yd⟩=(.truth (ug op (gY xn xd yn yd)),0)):=yq (by
   unfold op2
   rw [if_neg zb,if_neg zb,if_neg zb,if_neg zb,if_neg zb,if_neg zb])
  rw [HO.out];generalize gY xn xd yn yd=c at *;unfold lG;clear HRS HEQ HCQ HA HS HM HD HO;have h6:op=11\/op=12\/op=13\/op=14\/op=15\/op=16:=by omega
  clear ho;rcases h6 with rfl|rfl|rfl|rfl|rfl|rfl
  focus
   go_enter func73,ntmps73
  rotate_left
  focus
   go_enter func73,ntmps73
  rotate_left
  focus
   go_enter func73,ntmps73
  rotate_left
  focus
   go_enter func73,ntmps73
  rotate_left
  focus
   go_enter func73,ntmps73
  rotate_left
  focus
   go_enter func73,ntmps73
  rotate_left
  all_goals
   go_wp2_with (go_at_call 139;refine gvq (HC.out _) ?_;intro bs dd)
   all_goals
    go_returns
    exact⟨_,_,_,_,rfl,fun _=>by first|(simp_all [ug,Val.truth];done)|(simp [ug,Val.truth];first|rfl|(cases hz:(c==0)<;>simp_all [bne])),af⟩

theorem NM{p:Int}{f:Nat}{A B:Int}(h:A % p=0/\B % p=0):GL p (f+1) A B=GL p f (A / p) (B / p):=by rw [GL,if_pos h]
def ME(p:Int)(f0:Nat)(A0 B0:Int)(f:Nat)(A B:Int):Prop:=GL p f A B=GL p f0 A0 B0/\B<p ^ f
theorem ME.next{p:Int}{f0:Nat}{A0 B0:Int}{f:Nat}{A B:Int}(hp:2<=p)(h:ME p f0 A0 B0 f A B)(hB:1<=B)(hm:A % p=0/\B % p=0):∃g,ME p f0 A0 B0 g (A / p) (B / p)/\1<=B / p/\B / p<B:=by
 obtain⟨h1,h2⟩:=h
 cases f with
 |zero=>simp at h2;omega
 |succ g=>
  have e:=Int.mul_ediv_add_emod B p;rw [hm.2,Int.add_zero]at e
  have hq:1<=B / p:=by
   rcases Int.lt_or_le (B / p) 1 with h|h
   ·have:p*(B / p)<=p*0:=Int.mul_le_mul_of_nonneg_left zb zb;omega
   ·exact h
  refine⟨g,⟨by rw [<-h1,NM hm], ?_⟩,hq, ?_⟩
  ·rw [Int.pow_succ,<-e,Int.mul_comm _ p]at h2;exact Int.lt_of_mul_lt_mul_left h2 zb
  ·have:2*(B / p)<=p*(B / p):=Int.mul_le_mul_of_nonneg_right hp zb;omega
theorem PU{P:Program}{c:Code}{Q:Exit->Act->World->Prop}{a:Act}{w:World}(h:∀W,w=W->c.wp P Q a W):c.wp P Q a w:=h w rfl
open Go.RowKit Go.ChangeShapes Go.WideShapes Go.Deep
theorem QU{α:Type}{cs:Array α}(h:cs.size=7):∃c0 c1 c2 c3 c4 c5 c6,cs=#[c0,c1,c2,c3,c4,c5,c6]:=by
 obtain⟨l⟩:=cs
 match l,h with
 | [c0,c1,c2,c3,c4,c5,c6],_=>exact⟨c0,c1,c2,c3,c4,c5,c6,rfl⟩
theorem c7w:(prog).cellsOf 36=7:=by kernel_rfl
theorem VwR.of_trod{H:Type}{enc:TypeId × Value->H}{w:World}{r:Reach}{b0:Nat}{v:Value}{d:DataW H}{p:List MemPlace}(hv:Value.okWide prog w r b0 36 v)
 (h:DataW.Trod enc prog w 0 (fun _=>true) true 36 v d p) (hf:fits prog 36 d) :
 ∃(R:VwR) (vd vy:Value),v= .agg #[.int .i64 R.age,.int .i64 R.year,.int .i64 R.children,.int .i64 R.base,.int .i64 R.den,vd,vy]/\bH w vd R.days/\bH w vy R.years:=by
 have ht:=underlying36;obtain⟨cs,rfl,hsz⟩:=okWide_struct ht hv;obtain⟨c0,c1,c2,c3',c4,c5,c6,rfl⟩:=QU (hsz.trans c7w);obtain⟨fuel,h⟩:=h;obtain⟨xs,n,_,hx,_,hlen,hF⟩:=DataW.trod_struct ht h;simp only [Prod.mk.injEq]at hx;obtain⟨rfl,-⟩:=hx;have k0:=hF 0 _ rfl;have k1:=hF 1 _ rfl;have k2:=hF 2 _ rfl;have k3:=hF 3 _ rfl;have k4:=hF 4 _ rfl;have k5:=hF 5 _ rfl;have k6:=hF 6 _ rfl;simp only [Value.cells,drop_zero,drop_succ_cons,take_succ_cons,take_zero]at k0 k1 k2 k3 k4 k5 k6
 match xs,hlen with
 | [y0,y1,y2,y3,y4,y5,y6],_=>
   obtain⟨n0,rfl,w0⟩:=cZ k0;obtain⟨n1,rfl,w1⟩:=cZ k1;obtain⟨n2,rfl,w2⟩:=cZ k2;obtain⟨n3,rfl,w3⟩:=cZ k3;obtain⟨n4,rfl,w4⟩:=cZ k4;obtain⟨z5,w5⟩:=bH.of_trod underlying22 underlying3 c3 b3 k5 (gF ht hf (i:=5) rfl rfl);obtain⟨z6,w6⟩:=bH.of_trod underlying22 underlying3 c3 b3 k6 (gF ht hf (i:=6) rfl rfl);exact⟨⟨n0,n1,n2,n3,n4,z5,z6⟩,_,_,rfl,w5,w6⟩
theorem Oq{H:Type}{enc:TypeId × Value->H}{W:World}{v:Value}{d:DataW H}{p:List MemPlace}{r:Reach}{b0:Nat}(hv:Value.okWide prog W r b0 22 v)(h:DataW.Trod enc prog W 0 (fun _=>true) true 22 v d p)(hf:fits prog 22 d):∃zs,bH W v zs:=by
 obtain⟨fuel,h⟩:=h;obtain⟨a,len,cap,rfl⟩:=okWide_slice underlying22 hv;exact bH.of_trod (v:=.slice a len cap) underlying22 underlying3 c3 b3 yZ hf
theorem Nk{H:Type}{enc:TypeId × Value->H}{W:World}{v:Value}{d:DataW H}{p:List MemPlace}{r:Reach}{b0:Nat}(hv:Value.okWide prog W r b0 47 v)(h:DataW.Trod enc prog W 0 (fun _=>true) true 47 v d p)(hf:fits prog 47 d):∃zs,fu W v zs:=by
 obtain⟨fuel,h⟩:=h;obtain⟨a,len,cap,rfl⟩:=okWide_slice underlying47 hv;exact fu.of_trod (v:=.slice a len cap) underlying47 underlying22 underlying3 c22 c3 b22 b3 yZ hf
end Go.Proofs.YteildlpchhlchaaGreatDoor
