import Derived.Test.YtaghhncnicbedaaGreatDoorFExpr
import Derived.Test.YtaghhncnicbedaaGreatDoorFEvP
import Derived.Test.YtaghhncnicbedaaGreatDoorFK
import Derived.Laws.BytesArg
import Derived.Lib.SmallJoins
import Derived.Deep.CutBlock
import Derived.Deep.CutRange
import Derived.Deep.DeepCutAuto
import Derived.Laws.OwnMore
import Derived.Deep.MidRow
set_option linter.all false
set_option maxHeartbeats 16000000
set_option maxRecDepth 1000000
namespace Go
open Go.RowKit
@[go_sem] theorem World.setCell_src_other{w:World}{s:Nat}{lv:Value}{p left:Int}{b i:Nat}(h:b≠s)(v:Value):(w.src s lv p left).setCell ⟨b,i,none⟩ v=(w.setCell ⟨b,i,none⟩ v).src s lv p left:=by
  simp only [World.src,World.setCell]
  congr 1
  apply Array.ext_getElem?
  intro k
  simp only [Array.getElem?_modify,Array.getElem?_setIfInBounds,Array.size_modify]
  by_cases hk:b=k
  ·subst hk;simp [Ne.symm h]
  ·simp [hk]
theorem RowKit.Below.src{B:Nat}{a w:World}{s:Nat}(h:Below B a w)(hB:B≤s)(lv:Value)(p left:Int):Below B a (w.src s lv p left):=
 h.trans ⟨rfl,rfl,rfl,by simp,fun k hk=>World.heap_src_other (by omega)⟩
end Go
namespace Go.Proofs.YtaghhncnicbedaaGreatDoor
open Go.RowKit

theorem leafN_size(zs:List Int)(env:List (ByteArray × Int))(p:Nat)(dim:Int):(leafN zs env p dim).1.size=1:=by
 unfold leafN
 split
 ·simp [Ex.size,Ex.sizes]
 ·split<;>simp [Ex.size,Ex.sizes]
theorem leafF_size(zs:List Int)(env:List (ByteArray × Int))(dim:Int)(p:Nat)(left:Int):(leafF zs env dim p left).1.size≤3:=by
 unfold leafF
 split
 ·simp [Ex.size,Ex.sizes,leafN_size]
 ·simp [leafN_size]
theorem nodeF_sizes(E:Int→Nat→Int→Ex × Nat × Int)(c:Nat)(hE:∀d p left,(E d p left).1.size≤c)(ds:List Int):∀(p:Nat) (left:Int),Ex.sizes (nodeF E ds p left).1≤ds.length*c:=by
 induction ds with
 |nil=>intro p left;simp [nodeF,Ex.sizes]
 |cons d ds ih=>
  intro p left
  have a:=hE d p left
  have b:=ih (E d p left).2.1 (E d p left).2.2
  simp only [nodeF,Ex.sizes,List.length_cons,Nat.add_mul,Nat.one_mul]
  omega
theorem exprF_size(zs:List Int)(env:List (ByteArray × Int))(n:Nat):∀(dim:Int) (p:Nat) (left:Int),(exprF zs env n dim p left).1.size≤costN n:=by
 induction n with
 |zero=>intro dim p left;have:=leafF_size zs env dim p left;simp only [exprF,costN];omega
 |succ n ih=>
  intro dim p left
  have h8:=costN_8 n
  rw [exprF,costN]
  split
  ·have:=leafF_size zs env dim p left;omega
  ·cases h:prodF zs p dim with
   |none=>have:=leafF_size zs env dim (p+1) (left-2);simp only;omega
   |some t=>
    obtain⟨op,ds,q⟩:=t
    have a:=prodF_bd zs p dim h
    have b:=nodeF_sizes (exprF zs env n) (costN n) ih ds q (left-2)
    have c:ds.length*costN n≤3*costN n:=Nat.mul_le_mul_right _ a.2.2
    simp only [Ex.size]
    omega
def topF(zs:List Int)(env:List (ByteArray × Int))(dim:Int):Ex:=
 if validB (exprF zs env 5 dim 0 24).1=true then(exprF zs env 5 dim 0 24).1 else(leafF zs env dim (exprF zs env 5 dim 0 24).2.1 0).1
theorem topF_yes{zs:List Int}{env:List (ByteArray × Int)}{dim:Int}{e:Ex}{r:Nat × Int}(h:exprF zs env 5 dim 0 24=(e,r))(hv:validB e=true):topF zs env dim=e:=by
 unfold topF;rw [h,if_pos hv]
theorem topF_no{zs:List Int}{env:List (ByteArray × Int)}{dim:Int}{e:Ex}{p':Nat}{l':Int}(h:exprF zs env 5 dim 0 24=(e,p',l'))(hv:validB e=false):topF zs env dim=(leafF zs env dim p' 0).1:=by
 unfold topF;rw [h,if_neg (by simp [hv])]
theorem ListAt.other{w:World}{s s':Nat}{lv:Value}{zs:List Int}(h:ListAt w s lv zs)(hs:w.heap.size≤s'):ListAt w s' lv zs:=by
 obtain⟨h0,a,cap,hv,h1⟩:=h
 refine⟨h0,a,cap,hv,h1.imp id ?_⟩
 rintro⟨b,off,ha,hb,hbs,hcc⟩
 exact⟨b,off,ha,hb,by omega,hcc⟩
theorem EnvAt.other{w:World}{s s':Nat}{v:Value}{env:List (ByteArray × Int)}(h:EnvAt w s v env)(hs:w.heap.size≤s'):EnvAt w s' v env:=by
 obtain⟨h0,hn,a,cap,hv,h1⟩:=h
 refine⟨h0,hn,a,cap,hv,h1.imp id ?_⟩
 rintro⟨b,off,ha,hb,hbs,hcc⟩
 exact⟨b,off,ha,hb,by omega,hcc⟩
theorem src_new'(w:World)(lv:Value)(p left:Int)(H:Nat)(hH:w.heap.size=H):(w.alloc (.cells #[lv,.int .i64 p,.int .i64 left] 145)).src H lv p left=w.alloc (.cells #[lv,.int .i64 p,.int .i64 left] 145):=by
 subst hH;exact World.src_new w lv p left

def MadeEx(w:World)(E:Ex)(e:Ending)(w':World):Prop:=∃v,e= .returned (exV E v)∧w.Grows w'∧RepE (fun b=>w.heap.size≤b) w' E v
theorem Expr_any(lv ev:Value)(zs:List Int)(env:List (ByteArray × Int))(dim:Int)(w:World)(hl0:ListAt w w.heap.size lv zs)(he0:EnvAt w w.heap.size ev env)(hd1:1≤dim)(hd4:dim≤4) :
 Calls Tryz.prog 31 #[lv,.int .i64 dim,ev] w (MadeEx w (topF zs env dim)):=by
 have hl:=Lib.hid (hl0.other (s':=w.heap.size+1) (by omega))
 have he:=Lib.hid (he0.other (s':=w.heap.size+1) (by omega))
 have hlf:=hl0
 obtain⟨-,la,lc,hlv,-⟩:=hlf
 subst hlv
 clear hl0 he0
 have hrb:=exprF_bd zs env 5 dim 0 24
 have hsz:=exprF_size zs env 5 dim 0 24
 have hc5:costN 5=2307:=rfl
 rw [hc5]at hrb hsz
 generalize hR:exprF zs env 5 dim 0 24=r at hrb hsz
 have HR:=Lib.hid hR
 clear hR hc5
 obtain⟨E,p',l'⟩:=r
 simp only at hrb hsz
 have HSZ:=Lib.hid (show E.size≤2305843009213693952 by omega)
 clear hsz
 go_enter Tryz.func31,Tryz.ntmps31
 go_wp2_with fail
 refine(ExprOK.call (expr_ok (w.heap.size+1) _ _ zs env 5 (by omega)) dim 0 0 24 1 _ _ HR rfl (by omega) hd1 hd4 (by simp) (src_new' _ _ _ _ _ (by simp)) (Lib.hid (by(repeat' (first|(with_reducible exact hl.out)|(with_reducible refine ListAt.alloc ?_ _)|(with_reducible refine ListAt.grow ?_ _ _)|(with_reducible refine ListAt.drewN ?_ _)|(with_reducible refine ListAt.src ?_ _ _ _))))) (Lib.hid (by(repeat' (first|(with_reducible exact he.out)|(with_reducible refine EnvAt.alloc ?_ _)|(with_reducible refine EnvAt.grow ?_ _ _)|(with_reducible refine EnvAt.drewN ?_ _)|(with_reducible refine EnvAt.src ?_ _ _ _))))) (by decide) (by decide) (by omega)).mono ?_
 rintro e' w' ⟨v,bs,d,rfl,rfl,hrep⟩
 obtain⟨va,vc,hv⟩:=hrep.form
 subst hv
 have REP:Hid (RepE (fun b=>w.heap.size+2≤b) ((((w.alloc (.cells #[.int .i64 0,.int .i64 0,.int .i64 0,.int .i64 0,.string ⟨#[]⟩,.slice none 0 0] 91)).alloc (.cells #[.slice la zs.length lc,.int .i64 0,.int .i64 24] 145)).src (w.heap.size+1) (.slice la zs.length lc) p' l').grow bs d) E (.slice va E.args.length vc)):=Lib.hid (hrep.mono fun b hb=>by simpa using hb)
 clear hrep
 cases hb:validB E
 ·have HB:=Lib.hid hb
  have HT:=Lib.hid (topF_no HR.out hb)
  clear hb
  go_wp2_with fail
  refine(ValidExpr_any _ E _ _ (Lib.hid (REP.out.alloc _)) HSZ).mono ?_
  rintro e' w' ⟨rfl,bs2,d2,rfl⟩
  simp only [HB.out]
  go_wp2_with fail
  have hlb:=leafF_size zs env dim p' 0
  generalize hL:leafF zs env dim p' 0=q at HT hlb
  have HL:=Lib.hid hL
  clear hL hlb
  obtain⟨E2,p2,l2⟩:=q
  refine(leaf_any (w.heap.size+1) (.slice la zs.length lc) zs p' _ 0 dim _ env _ rfl hd1 hd4 (by simp;omega) (by simp [go_sem]) (Lib.hid (by(repeat' (first|(with_reducible exact hl.out)|(with_reducible refine ListAt.alloc ?_ _)|(with_reducible refine ListAt.grow ?_ _ _)|(with_reducible refine ListAt.drewN ?_ _)|(with_reducible refine ListAt.src ?_ _ _ _))))) (Lib.hid (by(repeat' (first|(with_reducible exact he.out)|(with_reducible refine EnvAt.alloc ?_ _)|(with_reducible refine EnvAt.grow ?_ _ _)|(with_reducible refine EnvAt.drewN ?_ _)|(with_reducible refine EnvAt.src ?_ _ _ _))))) (by omega) (by omega) (by omega)).mono ?_
  rintro e' w' ⟨v2,bs3,d3,rfl,rfl,hrep2⟩
  obtain⟨v2a,v2c,hv2⟩:=hrep2.form
  subst hv2
  rw [HL.out]at hrep2
  simp only [HL.out]
  have H2:=Lib.hid (hrep2.eqw (w':=(((((w.alloc (.cells #[.int .i64 0,.int .i64 0,.int .i64 0,.int .i64 0,.string ⟨#[]⟩,.slice none 0 0] 91)).alloc (.cells #[.slice la zs.length lc,.int .i64 0,.int .i64 24] 145)).src (w.heap.size+1) (.slice la zs.length lc) p2 l2).grow bs d).alloc (.cells #[.int .i64 E.op,.int .i64 E.num,.int .i64 E.den,.int .i64 E.dim,.string E.name,.slice va E.args.length vc] 91)).grow (bs2++bs3) d3) (by simp [go_sem]))
  clear hrep2
  go_wp2_with fail
  go_returns
  refine⟨_,by rw [HT.out],.of_below (by(repeat' (first|(with_reducible exact Below.refl _ _)|(with_reducible assumption)|(with_reducible refine Below.grow ?_ ?_ _ _)|(with_reducible refine Below.alloc ?_ ?_ _)|(with_reducible refine Below.drewN ?_ _)|(with_reducible refine Below.drew ?_)|(with_reducible refine Below.src ?_ ?_ _ _ _)|(with_reducible refine Below.setCell ?_ ?_ _)|go_size))), ?_⟩
  rw [HT.out]
  refine(H2.out.lift0 ?_ ?_ _).mono ?_
  all_goals first
   |(intro b hb;simp at hb;omega)
   |(intro b hb;omega)
   |(simp;done)
   |(simp;omega)
 ·have HB:=Lib.hid hb
  have HT:=Lib.hid (topF_yes HR.out hb)
  clear hb
  go_wp2_with fail
  refine(ValidExpr_any _ E _ _ (Lib.hid (REP.out.alloc _)) HSZ).mono ?_
  rintro e' w' ⟨rfl,bs2,d2,rfl⟩
  simp only [HB.out]
  go_wp2_with fail
  go_returns
  refine⟨_,by rw [HT.out],.of_below (by(repeat' (first|(with_reducible exact Below.refl _ _)|(with_reducible assumption)|(with_reducible refine Below.grow ?_ ?_ _ _)|(with_reducible refine Below.alloc ?_ ?_ _)|(with_reducible refine Below.drewN ?_ _)|(with_reducible refine Below.drew ?_)|(with_reducible refine Below.src ?_ ?_ _ _ _)|(with_reducible refine Below.setCell ?_ ?_ _)|go_size))), ?_⟩
  rw [HT.out]
  refine((((REP.out.lift0 ?_ ?_ d).alloc _).grow _ _).mono ?_)
  all_goals first
   |(intro b hb;simp at hb;omega)
   |(intro b hb;omega)
   |(simp;done)
   |(simp;omega)
end Go.Proofs.YtaghhncnicbedaaGreatDoor
namespace Go.Proofs.YtaghhncnicbedaaGreatDoor
theorem zip_self(s:List Bool):List.zipWith (· && ·) s s=s:=by
 induction s with
 |nil=>rfl
 |cons b r ih=>rw [List.zipWith_cons_cons,ih];simp
def Ver(set:List Bool)(dims:List Int)(c:List Ins)(i:Nat)(t t':List Int):Prop:=
 ∀(S:List (Option (List Int × List Bool))) (dep:Nat),i+c.length<S.length→S.getD i none=some (t,set)→(∀j,i<j→j<i+c.length→S.getD j none=none)→
  (S.getD (i+c.length) none=none∨S.getD (i+c.length) none=some (t',set))→
  ∃S' dep',S'.length=S.length∧(∀j,i+c.length<j→S'.getD j none=S.getD j none)∧S'.getD (i+c.length) none=some (t',set)∧∀r,goA (c++r) i S dims dep=goA r (i+c.length) S' dims dep'
section
variable {set : List Bool} {dims : List Int} {i : Nat} {t t' t2 : List Int}
theorem putA_free{S:List (Option (List Int × List Bool))}{k:Nat}(h:S.getD k none=none∨S.getD k none=some (t,set)):putA S k (t,set)=some (S.set k (some (t,set))):=by
 unfold putA
 rcases h with h|h
 ·rw [h]
 ·rw [h];simp only [if_true];rw [zip_self]
theorem Ver.one{x:Ins}(h:appA x (t,set) dims=some ((t',set),dims))(hl:t'.length≤24)(h1:x.op≠21)(h2:x.op≠22):Ver set dims [x] i t t':=by
 intro S dep hi h0 _ hf
 have hp:=putA_free hf
 refine⟨S.set (i+1) (some (t',set)),max dep t'.length,List.length_set ..,fun j hj=>?_, ?_,fun r=>?_⟩
 ·simp only [List.length_singleton]at hj
  rw [getD_setI,if_neg (by omega)]
 ·simp only [List.length_singleton]at hi ⊢
  rw [getD_setI,if_pos ⟨rfl,hi⟩]
 ·show goA (x::r) i S dims dep=_
  rw [goA]
  have e:rndA S x i dims dep=some (S.set (i+1) (some (t',set)),dims,max dep t'.length):=by
   unfold rndA
   rw [h0]
   simp only [h]
   rw [if_neg (by show ¬24<t'.length;omega)]
   simp only [if_neg h1,if_neg (show ¬(x.op=21∨x.op=22)by omega)]
   simp only [List.length_singleton]at hp
   rw [hp]
  rw [e];rfl
theorem Ver.seq{a b:List Ins}(h:Ver set dims a i t t')(g:Ver set dims b (i+a.length) t' t2)(ha:a≠[])(hb:b≠[]):Ver set dims (a++b) i t t2:=by
 intro S dep hi h0 hn hf
 have la:0<a.length:=List.length_pos_iff.2 ha
 have lb:0<b.length:=List.length_pos_iff.2 hb
 rw [List.length_append]at hi hn hf ⊢
 obtain⟨S1,d1,k1,k2,k3,k4⟩:=h S dep (by omega) h0 (fun j h1 h2=>hn j h1 (by omega)) (.inl (hn _ (by omega) (by omega)))
 obtain⟨S2,d2,q1,q2,q3,q4⟩:=g S1 d1 (by omega) k3 (fun j h1 h2=>by rw [k2 j h1];exact hn j (by omega) (by omega)) (by rw [k2 _ (by omega),Nat.add_assoc];exact hf)
 refine⟨S2,d2,by omega,fun j hj=>?_,by rw [←Nat.add_assoc];exact q3,fun r=>?_⟩
 ·rw [q2 j (by omega),k2 j (by omega)]
 ·rw [List.append_assoc,k4,q4,Nat.add_assoc]
theorem Ver.br{A B C:Nat→List Ins}(hA:Ver set dims (A i) i t (t++[1]))(hB:∀k,Ver set dims (B k) k t t')(hC:∀k,Ver set dims (C k) k t t')(hl:t.length≤24)(hl':t'.length≤24)(nA:A i≠[])(nB:∀k,B k≠[])(nC:∀k,C k≠[]) :
 Ver set dims (brC A B C i) i t t':=by
 intro S dep hi h0 hn hf
 unfold brC at *
 have lA:0<(A i).length:=List.length_pos_iff.2 nA
 have hB':=hB (i+(A i).length+1)
 have lB:0<(B (i+(A i).length+1)).length:=List.length_pos_iff.2 (nB _)
 generalize B (i+(A i).length+1)=cB at *
 have hC':=hC (i+(A i).length+1+cB.length+1)
 have lC:0<(C (i+(A i).length+1+cB.length+1)).length:=List.length_pos_iff.2 (nC _)
 generalize C (i+(A i).length+1+cB.length+1)=cC at *
 generalize A i=cA at *
 clear nA nB nC hB hC
 have hlen:i+(cA++⟨22,((i+cA.length+1+cB.length+1:Nat):Int),0,0⟩::(cB++⟨21,((i+cA.length+1+cB.length+1+cC.length:Nat):Int),0,0⟩::cC)).length=i+cA.length+1+cB.length+1+cC.length:=by
  simp only [List.length_append,List.length_cons];omega
 rw [hlen]at hi hn hf ⊢
 -- the condition
 obtain⟨S1,d1,a1,a2,a3,a4⟩:=hA S dep (by omega) h0 (fun j h1 h2=>hn j h1 (by omega)) (.inl (hn _ (by omega) (by omega)))
 -- the jump
 have p1:putA S1 (i+cA.length+1) (t,set)=some (S1.set (i+cA.length+1) (some (t,set))):=putA_free (.inl (by rw [a2 _ (by omega)];exact hn _ (by omega) (by omega)))
 have p2:putA (S1.set (i+cA.length+1) (some (t,set))) (i+cA.length+1+cB.length+1) (t,set)=some ((S1.set (i+cA.length+1) (some (t,set))).set (i+cA.length+1+cB.length+1) (some (t,set))):=
  putA_free (.inl (by rw [getD_setI,if_neg (by omega),a2 _ (by omega)];exact hn _ (by omega) (by omega)))
 have e1:rndA S1 ⟨22,((i+cA.length+1+cB.length+1:Nat):Int),0,0⟩ (i+cA.length) dims d1=some ((S1.set (i+cA.length+1) (some (t,set))).set (i+cA.length+1+cB.length+1) (some (t,set)),dims,max d1 t.length):=by
  unfold rndA
  rw [a3]
  have ea:appA ⟨22,((i+cA.length+1+cB.length+1:Nat):Int),0,0⟩ (t++[1],set) dims=some ((t,set),dims):=by
   unfold appA
   simp
  simp only [ea]
  rw [if_neg (by show ¬24<t.length;omega)]
  simp only [if_neg (show ¬(22:Int)=21 by decide),or_true,if_true,p1,Int.toNat_natCast,p2]
 have l2:((S1.set (i+cA.length+1) (some (t,set))).set (i+cA.length+1+cB.length+1) (some (t,set))).length=S.length:=by rw [List.length_set,List.length_set,a1]
 have g2:∀j,i+cA.length<j→j≠i+cA.length+1→j≠i+cA.length+1+cB.length+1→((S1.set (i+cA.length+1) (some (t,set))).set (i+cA.length+1+cB.length+1) (some (t,set))).getD j none=S.getD j none:=fun j h1 h2 h3=>by
  rw [getD_setI,if_neg (by omega),getD_setI,if_neg (by omega),a2 j h1]
 have g3:((S1.set (i+cA.length+1) (some (t,set))).set (i+cA.length+1+cB.length+1) (some (t,set))).getD (i+cA.length+1) none=some (t,set):=by
  rw [getD_setI,if_neg (by omega),getD_setI,if_pos ⟨rfl,by omega⟩]
 have g4:((S1.set (i+cA.length+1) (some (t,set))).set (i+cA.length+1+cB.length+1) (some (t,set))).getD (i+cA.length+1+cB.length+1) none=some (t,set):=by
  rw [getD_setI,if_pos ⟨rfl,by rw [List.length_set];omega⟩]
 generalize(S1.set (i+cA.length+1) (some (t,set))).set (i+cA.length+1+cB.length+1) (some (t,set))=S2 at *
 -- the one way
 obtain⟨S3,d3,b1,b2,b3,b4⟩:=hB' S2 (max d1 t.length) (by omega) g3 (fun j h1 h2=>by rw [g2 j (by omega) (by omega) (by omega)];exact hn j (by omega) (by omega)) (.inl (by rw [g2 _ (by omega) (by omega) (by omega)];exact hn _ (by omega) (by omega)))
 -- the jump to the end
 have p3:putA S3 (i+cA.length+1+cB.length+1+cC.length) (t',set)=some (S3.set (i+cA.length+1+cB.length+1+cC.length) (some (t',set))):=putA_free (by rw [b2 _ (by omega),g2 _ (by omega) (by omega) (by omega)];exact hf)
 have e3:rndA S3 ⟨21,((i+cA.length+1+cB.length+1+cC.length:Nat):Int),0,0⟩ (i+cA.length+1+cB.length) dims d3=some (S3.set (i+cA.length+1+cB.length+1+cC.length) (some (t',set)),dims,max d3 t'.length):=by
  unfold rndA
  rw [b3]
  have ea:appA ⟨21,((i+cA.length+1+cB.length+1+cC.length:Nat):Int),0,0⟩ (t',set) dims=some ((t',set),dims):=by
   unfold appA
   simp
  simp only [ea]
  rw [if_neg (by show ¬24<t'.length;omega)]
  simp only [if_true,true_or,Int.toNat_natCast,p3]
 obtain⟨S4,d4,c1,c2,c3,c4⟩:=hC' (S3.set (i+cA.length+1+cB.length+1+cC.length) (some (t',set))) (max d3 t'.length) (by rw [List.length_set];omega) (by rw [getD_setI,if_neg (by omega),b2 _ (by omega)];exact g4)
  (fun j h1 h2=>by rw [getD_setI,if_neg (by omega),b2 j (by omega),g2 j (by omega) (by omega) (by omega)];exact hn j (by omega) (by omega)) (.inr (by rw [getD_setI,if_pos ⟨rfl,by omega⟩]))
 refine⟨S4,d4,by rw [c1,List.length_set];omega,fun j hj=>?_,c3,fun r=>?_⟩
 ·rw [c2 j hj,getD_setI,if_neg (by omega),b2 j (by omega),g2 j (by omega) (by omega) (by omega)]
 ·rw [List.append_assoc,a4,List.cons_append,goA,e1]
  simp only
  rw [List.append_assoc,b4,List.cons_append,goA,e3]
  simp only
  rw [c4]
end
theorem codeF_ne(κ:ByteArray→Nat)(e:Ex)(i:Nat):codeF κ e i≠[]:=by
 rw [codeF_eq]
 unfold codeNode brC
 (repeat' split)<;>simp
def VerOkE(κ:ByteArray→Nat)(env:List (ByteArray × Int))(set:List Bool)(dims:List Int)(e:Ex):Prop:=
 formedB e=true→(inferF env e).2=0→(∀s,mentB s e=true→inpK s=none→set.getD (κ s) false=true∧dims.getD (κ s) 0=(inferN env s).1)→
  ∀(i:Nat) (t:List Int),t.length+e.depth≤24→Ver set dims (codeF κ e i) i t (t++[(inferF env e).1])
theorem inDs_of{s:ByteArray}{k:Nat}(h:inpK s=some k):inDs.getD k 0=inpD s.toList∧inpD s.toList≠0:=by
 have key:∀k,k<11→inDs.getD k 0=inpD (inpNm k).toList∧inpD (inpNm k).toList≠0:=by decide+kernel
 obtain⟨h1,rfl⟩:=inpK_some h
 exact key k h1
theorem depth_arg{a:Ex}:∀{xs:List Ex},a∈xs→a.depth≤Ex.depths xs
 |e::r,h=>by
  rw [Ex.depths]
  rcases List.mem_cons.1 h with rfl|h
  ·omega
  ·have:=depth_arg h;omega
section
variable {env : List (ByteArray × Int)} {κ : ByteArray → Nat} {set : List Bool} {dims : List Int}
theorem ver_node{op n d m:Int}{s:ByteArray}{xs:List Ex}(ih:∀a∈xs,VerOkE κ env set dims a):VerOkE κ env set dims (.mk op n d m s xs):=by
 intro hf ht hn i t hdp
 have hnames:∀a∈xs,∀u,mentB u a=true→inpK u=none→set.getD (κ u) false=true∧dims.getD (κ u) 0=(inferN env u).1:=fun a ha u h1 h2=>hn u (by rw [mentB,ments_of ha h1];simp) h2
 rw [formedB,Bool.and_eq_true,decide_eq_true_eq]at hf
 obtain⟨hlen,hf⟩:=hf
 rw [Ex.depth]at hdp
 rw [inferF]at ht ⊢
 rw [codeF]
 unfold codeNode
 unfold infNode at ht ⊢
 have l24:(t++[(0:Int)]).length≤24:=by rw [List.length_append,List.length_singleton];omega
 have l25:∀z:Int,(t++[z]).length≤24:=fun z=>by rw [List.length_append,List.length_singleton];omega
 by_cases h1:op=1
 ·simp only [if_pos h1]
  exact Ver.one (by unfold appA;rw [if_pos rfl]) (l25 _) (by show(1:Int)≠21;decide) (by show(1:Int)≠22;decide)
 by_cases h2:op=2
 ·have h3:¬op=3:=by omega
  simp only [if_neg h1,if_pos h2,if_neg h3]at ht ⊢
  have hns:=hn s (by rw [mentB,h2];simp)
  unfold nameI
  cases hk:inpK s with
  |some k=>
   obtain⟨k1,k2⟩:=inDs_of hk
   unfold inferN
   rw [if_pos k2]
   exact Ver.one (x:=⟨2,(k:Int),0,0⟩) (by unfold appA;dsimp only;rw [if_neg (by decide),if_pos rfl,Int.toNat_natCast,k1]) (l25 _) (by show(2:Int)≠21;decide) (by show(2:Int)≠22;decide)
  |none=>
   obtain⟨k1,k2⟩:=hns hk
   exact Ver.one (x:=⟨3,(κ s:Int),0,0⟩) (by unfold appA;dsimp only;rw [if_neg (by decide),if_neg (by decide),if_neg (by decide),if_neg (by decide),if_pos rfl,Int.toNat_natCast,if_pos k1,k2]) (l25 _) (by show(3:Int)≠21;decide) (by show(3:Int)≠22;decide)
 by_cases h3:op=3
 ·simp only [if_neg h1,if_neg h2,if_pos h3]
  exact Ver.one (by unfold appA;simp) (l25 _) (by show(5:Int)≠21;decide) (by show(5:Int)≠22;decide)
 simp only [if_neg h1,if_neg h2,if_neg h3]at hf ht ⊢
 have hfs:=(Bool.and_eq_true_iff.1 hf).1
 by_cases c1:(infersF env xs).2≠0
 ·rw [if_pos c1]at ht;exact absurd ht c1
 rw [if_neg c1]at ht ⊢
 obtain⟨hd,hts⟩:=infers_parts (Decidable.not_not.1 c1)
 rw [hd]at ht ⊢
 by_cases c2:resD op (xs.map fun e=>(inferF env e).1)=0
 ·rw [if_pos c2]at ht;cases ht
 rw [if_neg c2]
 clear ht c1 hd
 have hfa:=formeds_all hfs
 have hgo:∀a∈xs,∀(k:Nat) (u:List Int),u.length+Ex.depths xs≤24→Ver set dims (codeF κ a k) k u (u++[(inferF env a).1]):=fun a ha k u hu=>ih a ha (hfa a ha) (hts a ha) (hnames a ha) k u (by have:=depth_arg ha;omega)
 clear ih hn hnames hfs hf hfa hts
 have lt0:t.length≤24:=by omega
 by_cases h17:op=17
 ·subst h17
  obtain⟨a,b,rfl⟩:∃a b,xs= [a,b]:=by
   exact fz17
  have e:resD 17 [(inferF env a).1,(inferF env b).1]=if(inferF env a).1=1∧(inferF env b).1=1 then 1 else 0:=rfl
  rw [List.map_cons,List.map_cons,List.map_nil,e]at c2 ⊢
  split at c2<;>rename_i c
  ·rw [if_pos c,if_pos rfl]
   have ga:=hgo a (by simp) i t (by omega)
   rw [c.1]at ga
   exact Ver.br ga (fun k=>by have:=hgo b (by simp) k t (by omega);rw [c.2]at this;exact this) (fun k=>Ver.one (by unfold appA;simp) (l25 _) (by decide) (by decide)) lt0 (l25 _) (codeF_ne _ _ _) (fun k=>codeF_ne _ _ _) (fun k=>by simp)
  ·exact absurd rfl c2
 by_cases h18:op=18
 ·subst h18
  obtain⟨a,b,rfl⟩:∃a b,xs= [a,b]:=by
   exact fz17
  have e:resD 18 [(inferF env a).1,(inferF env b).1]=if(inferF env a).1=1∧(inferF env b).1=1 then 1 else 0:=rfl
  rw [List.map_cons,List.map_cons,List.map_nil,e]at c2 ⊢
  split at c2<;>rename_i c
  ·rw [if_pos c,if_neg (by decide),if_pos rfl]
   have ga:=hgo a (by simp) i t (by omega)
   rw [c.1]at ga
   exact Ver.br ga (fun k=>Ver.one (by unfold appA;simp) (l25 _) (by decide) (by decide)) (fun k=>by have:=hgo b (by simp) k t (by omega);rw [c.2]at this;exact this) lt0 (l25 _) (codeF_ne _ _ _) (fun k=>by simp) (fun k=>codeF_ne _ _ _)
  ·exact absurd rfl c2
 by_cases h21:op=21
 ·subst h21
  obtain⟨a,b,c,rfl⟩:∃a b c,xs= [a,b,c]:=by
   exact fz38
  have e:resD 21 [(inferF env a).1,(inferF env b).1,(inferF env c).1]=if(inferF env a).1=1∧(inferF env b).1=(inferF env c).1 then(inferF env b).1 else 0:=rfl
  rw [List.map_cons,List.map_cons,List.map_cons,List.map_nil,e]at c2 ⊢
  split at c2<;>rename_i cc
  ·rw [if_pos cc,if_neg (by decide),if_neg (by decide),if_pos rfl]
   have ga:=hgo a (by simp) i t (by omega)
   rw [cc.1]at ga
   exact Ver.br ga (fun k=>hgo b (by simp) k t (by omega)) (fun k=>by have:=hgo c (by simp) k t (by omega);rw [←cc.2]at this;exact this) lt0 (l25 _) (codeF_ne _ _ _) (fun k=>codeF_ne _ _ _) (fun k=>codeF_ne _ _ _)
  ·exact absurd rfl c2
 simp only [if_neg h17,if_neg h18,if_neg h21]
 have hop:(4≤op∧op≤16)∨op=19∨op=20:=by
  unfold argsN at hlen
  (repeat' split at hlen)<;>omega
 obtain⟨m1,m2,m3⟩:=opF_mopF hop
 by_cases h6:op≤6
 ·obtain⟨a,rfl⟩:∃a,xs= [a]:=by
   have e:argsN op=1:=by unfold argsN;rw [if_neg (by omega),if_pos (by omega)]
   rw [e]at hlen
   exact List.length_eq_one_iff.1 (by omega)
  simp only [codesF,seqC,List.append_nil]
  have ha:ariF op=1:=by unfold ariF;rw [if_pos (by omega)]
  refine Ver.seq (hgo a (by simp) i t (by omega)) (Ver.one ?_ (l25 _) (by show mopF op≠21;omega) (by show mopF op≠22;omega)) (codeF_ne _ _ _) (by simp)
  unfold appA
  simp only
  rw [if_neg (by omega),if_neg (by omega),if_neg (by omega),if_neg (by omega),if_neg (by omega),if_neg (by omega),if_neg (by omega),if_neg (by omega),m1,ha,List.length_append,List.length_singleton,if_neg (by omega),Nat.add_sub_cancel,List.drop_left,List.take_left]
  rw [List.map_cons,List.map_nil]at c2
  rw [if_neg c2];rfl
 ·obtain⟨a,b,rfl⟩:∃a b,xs= [a,b]:=by
   have e:argsN op=2:=by unfold argsN;rw [if_neg (by omega),if_neg (by omega),if_pos (by omega)]
   rw [e]at hlen
   match xs,hlen with
   | [a,b],_=>exact⟨a,b,rfl⟩
   | [],h=>simp at h
   | [_],h=>simp at h
   |_::_::_::_,h=>simp at h;omega
  simp only [codesF,seqC,List.append_nil]
  have ha:ariF op=2:=by unfold ariF;rw [if_neg (by omega)]
  have g1:=hgo b (by simp) (i+(codeF κ a i).length) (t++[(inferF env a).1]) (by rw [List.length_append,List.length_singleton];omega)
  refine Ver.seq (Ver.seq (hgo a (by simp) i t (by omega)) g1 (codeF_ne _ _ _) (codeF_ne _ _ _)) (Ver.one ?_ (l25 _) (by show mopF op≠21;omega) (by show mopF op≠22;omega)) (by simp [codeF_ne]) (by simp)
  unfold appA
  simp only
  have ht2:t++[(inferF env a).1]++[(inferF env b).1]=t++[(inferF env a).1,(inferF env b).1]:=by simp
  have hl2:(t++[(inferF env a).1,(inferF env b).1]).length-2=t.length:=by simp
  rw [ht2,if_neg (by omega),if_neg (by omega),if_neg (by omega),if_neg (by omega),if_neg (by omega),if_neg (by omega),if_neg (by omega),if_neg (by omega),m1,ha,if_neg (by simp),hl2,List.drop_left,List.take_left]
  rw [List.map_cons,List.map_cons,List.map_nil]at c2
  show(if resD op [(inferF env a).1,(inferF env b).1]=0 then none else some ((t++[resD op [(inferF env a).1,(inferF env b).1]],set),dims))=_
  rw [if_neg c2];rfl
end
mutual
theorem ver_code{env:List (ByteArray × Int)}{κ:ByteArray→Nat}{set:List Bool}{dims:List Int}:∀e:Ex,VerOkE κ env set dims e
 | .mk _ _ _ _ _ xs=>ver_node (ver_codes xs)
theorem ver_codes{env:List (ByteArray × Int)}{κ:ByteArray→Nat}{set:List Bool}{dims:List Int}:∀xs:List Ex,∀a∈xs,VerOkE κ env set dims a
 | [],_,ha=>by cases ha
 |e::r,a,ha=>by
  rcases List.mem_cons.1 ha with h|ha
  ·rw [h];exact ver_code e
  ·exact ver_codes r a ha
end
section
variable {set : List Bool} {dims : List Int} {i k : Nat} {m : Int} {c : List Ins}
theorem ver_def(hc:Ver set dims c i [] [m])(hne:c≠[]){S:List (Option (List Int × List Bool))}{dep:Nat}(hi:i+c.length+1<S.length)(h0:S.getD i none=some ([],set))(hn:∀j,i<j→j≤i+c.length→S.getD j none=none)
 {set':List Bool} (hf:(S.getD (i+c.length+1) none=none∧set'=set.set k true)∨∃u,S.getD (i+c.length+1) none=some ([],u)∧set'=List.zipWith (· && ·) u (set.set k true)) :
 ∃S' dep',S'.length=S.length∧(∀j,i+c.length+1<j→S'.getD j none=S.getD j none)∧S'.getD (i+c.length+1) none=some ([],set')∧∀r,goA (c++⟨4,(k:Int),0,0⟩::r) i S dims dep=goA r (i+c.length+1) S' (dims.set k m) dep':=by
 have lc:0<c.length:=List.length_pos_iff.2 hne
 obtain⟨S1,d1,a1,a2,a3,a4⟩:=hc S dep (by omega) h0 (fun j h1 h2=>hn j h1 (by omega)) (.inl (hn _ (by omega) (Nat.le_refl _)))
 have ea:appA ⟨4,(k:Int),0,0⟩ ([m],set) dims=some (([],set.set k true),dims.set k m):=by unfold appA;simp
 have hp:putA S1 (i+c.length+1) ([],set.set k true)=some (S1.set (i+c.length+1) (some ([],set'))):=by
  unfold putA
  rw [a2 _ (by omega)]
  rcases hf with ⟨h1,h2⟩|⟨u,h1,h2⟩
  ·rw [h1,h2]
  ·rw [h1,h2];simp
 have e1:rndA S1 ⟨4,(k:Int),0,0⟩ (i+c.length) dims d1=some (S1.set (i+c.length+1) (some ([],set')),dims.set k m,max d1 0):=by
  unfold rndA
  rw [a3]
  simp only [ea]
  rw [if_neg (by show ¬24<0;omega)]
  simp only [if_neg (show ¬(4:Int)=21 by decide),if_neg (show ¬((4:Int)=21∨(4:Int)=22)by decide),hp]
  rfl
 refine⟨S1.set (i+c.length+1) (some ([],set')),max d1 0,by rw [List.length_set,a1],fun j hj=>?_, ?_,fun r=>?_⟩
 ·rw [getD_setI,if_neg (by omega),a2 j (by omega)]
 ·rw [getD_setI,if_pos ⟨rfl,by omega⟩]
 ·rw [a4,goA,e1]
theorem ver_guard(hc:Ver set dims c i [] [1])(hne:c≠[]){S:List (Option (List Int × List Bool))}{dep a:Nat}(hi:a<S.length)(ha:i+c.length+1<a)(h0:S.getD i none=some ([],set))(hn:∀j,i<j→j≤a→S.getD j none=none) :
 ∃S' dep',S'.length=S.length∧(∀j,i+c.length+1<j→j≠a→S'.getD j none=S.getD j none)∧S'.getD (i+c.length+1) none=some ([],set)∧S'.getD a none=some ([],set)∧∀r,goA (c++⟨22,(a:Int),0,0⟩::r) i S dims dep=goA r (i+c.length+1) S' dims dep':=by
 have lc:0<c.length:=List.length_pos_iff.2 hne
 obtain⟨S1,d1,a1,a2,a3,a4⟩:=hc S dep (by omega) h0 (fun j h1 h2=>hn j h1 (by omega)) (.inl (hn _ (by omega) (by omega)))
 have ea:appA ⟨22,(a:Int),0,0⟩ ([1],set) dims=some (([],set),dims):=by unfold appA;simp
 have p1:putA S1 (i+c.length+1) ([],set)=some (S1.set (i+c.length+1) (some ([],set))):=putA_free (.inl (by rw [a2 _ (by omega)];exact hn _ (by omega) (by omega)))
 have p2:putA (S1.set (i+c.length+1) (some ([],set))) a ([],set)=some ((S1.set (i+c.length+1) (some ([],set))).set a (some ([],set))):=
  putA_free (.inl (by rw [getD_setI,if_neg (by omega),a2 _ (by omega)];exact hn _ (by omega) (by omega)))
 have e1:rndA S1 ⟨22,(a:Int),0,0⟩ (i+c.length) dims d1=some ((S1.set (i+c.length+1) (some ([],set))).set a (some ([],set)),dims,max d1 0):=by
  unfold rndA
  rw [a3]
  simp only [ea]
  rw [if_neg (by show ¬24<0;omega)]
  simp only [if_neg (show ¬(22:Int)=21 by decide),or_true,if_true,p1,Int.toNat_natCast,p2]
  rfl
 refine⟨(S1.set (i+c.length+1) (some ([],set))).set a (some ([],set)),max d1 0,by rw [List.length_set,List.length_set,a1],fun j hj hja=>?_, ?_, ?_,fun r=>?_⟩
 ·rw [getD_setI,if_neg (by omega),getD_setI,if_neg (by omega),a2 j (by omega)]
 ·rw [getD_setI,if_neg (by omega),getD_setI,if_pos ⟨rfl,by omega⟩]
 ·rw [getD_setI,if_pos ⟨rfl,by rw [List.length_set];omega⟩]
 ·rw [a4,goA,e1]
end
section
variable {l : List Ins} {sl : List ByteArray} {v : Vw} {slots : List Val} {st : List (ByteArray × Val)} {i k : Nat} {x : Val}
end
def WfC(m n i:Nat)(c:List Ins):Prop:=∀k,k<c.length→wfF m n (i+k) (c.getD k default)=true
theorem WfC.nil{m n i:Nat}:WfC m n i []:=fun k hk=>by simp at hk
theorem WfC.app{m n i:Nat}{a b:List Ins}(ha:WfC m n i a)(hb:WfC m n (i+a.length) b):WfC m n i (a++b):=fun k hk=>by
 by_cases h:k<a.length
 ·have e:(a++b).getD k default=a.getD k default:=by simp [List.getD_eq_getElem?_getD,List.getElem?_append_left h]
  rw [e];exact ha k h
 ·have e:(a++b).getD k default=b.getD (k-a.length) default:=by simp [List.getD_eq_getElem?_getD,List.getElem?_append_right (Nat.le_of_not_lt h)]
  rw [List.length_append]at hk
  have:=hb (k-a.length) (by omega)
  rw [show i+a.length+(k-a.length)=i+k by omega]at this
  rw [e];exact this
theorem WfC.one{m n i:Nat}{x:Ins}(h:wfF m n i x=true):WfC m n i [x]:=fun k hk=>by
 obtain rfl:k=0:=by simp at hk;omega
 exact h
theorem WfC.cons{m n i:Nat}{x:Ins}{b:List Ins}(h:wfF m n i x=true)(hb:WfC m n (i+1) b):WfC m n i (x::b):=WfC.app (a:=[x]) (.one h) hb
theorem setsF_app(a b:List Ins):setsF (a++b)=setsF a++setsF b:=by unfold setsF;rw [List.filter_append,List.map_append]
theorem wf_jmp{m n i a:Nat}{o:Int}(ho:o=21∨o=22)(h1:i<a)(h2:a≤n):wfF m n i ⟨o,(a:Int),0,0⟩=true:=by
 unfold wfF
 dsimp only
 rw [if_neg (by omega),if_neg (by simp),if_neg (by omega),if_neg (by omega),if_neg (by omega),if_pos ho]
 simp;omega
theorem wf_slot{m n i k:Nat}{o:Int}(ho:o=3∨o=4)(h:k<m):wfF m n i ⟨o,(k:Int),0,0⟩=true:=by
 unfold wfF
 dsimp only
 rw [if_neg (by omega),if_neg (by simp),if_neg (by omega),if_pos ho]
 simp;omega
theorem wf_br{m n i:Nat}{A B C:Nat→List Ins}(h:i+(brC A B C i).length≤n)(hA:i+(A i).length≤n→WfC m n i (A i)∧setsF (A i)= [])(hB:∀k,k+(B k).length≤n→WfC m n k (B k)∧setsF (B k)= [])(hC:∀k,k+(C k).length≤n→WfC m n k (C k)∧setsF (C k)= []) :
 WfC m n i (brC A B C i)∧setsF (brC A B C i)= []:=by
 unfold brC at *
 have hB':=hB (i+(A i).length+1)
 generalize B (i+(A i).length+1)=cB at *
 have hC':=hC (i+(A i).length+1+cB.length+1)
 generalize C (i+(A i).length+1+cB.length+1)=cC at *
 generalize A i=cA at *
 simp only [List.length_append,List.length_cons]at h
 obtain⟨a1,a2⟩:=hA (by omega)
 obtain⟨b1,b2⟩:=hB' (by omega)
 obtain⟨c1,c2⟩:=hC' (by omega)
 refine⟨a1.app (.cons (wf_jmp (.inr rfl) (by omega) (by omega)) (b1.app (.cons (wf_jmp (.inl rfl) (by omega) (by omega)) c1))), ?_⟩
 rw [setsF_app,a2,setsF_cons,if_neg (by show ¬(22:Int)=4;decide),setsF_app,b2,setsF_cons,if_neg (by show ¬(21:Int)=4;decide),c2];rfl
def WfE(κ:ByteArray→Nat)(m n:Nat)(e:Ex):Prop:=
 formedB e=true→(∀s,mentB s e=true→inpK s=none→κ s<m)→∀i,i+(codeF κ e i).length≤n→WfC m n i (codeF κ e i)∧setsF (codeF κ e i)= []
theorem wf_node{κ:ByteArray→Nat}{m n:Nat}{op nn d mm:Int}{s:ByteArray}{xs:List Ex}(ih:∀a∈xs,WfE κ m n a):WfE κ m n (.mk op nn d mm s xs):=by
 intro hf hn i hl
 have hnames:∀a∈xs,∀u,mentB u a=true→inpK u=none→κ u<m:=fun a ha u h1 h2=>hn u (by rw [mentB,ments_of ha h1];simp) h2
 rw [formedB,Bool.and_eq_true,decide_eq_true_eq]at hf
 obtain⟨hlen,hf⟩:=hf
 rw [codeF]at hl ⊢
 unfold codeNode at hl ⊢
 by_cases h1:op=1
 ·simp only [if_pos h1]at hf hl ⊢
  refine⟨.one ?_,rfl⟩
  have hd:=decOk_bd (Bool.and_eq_true_iff.1 hf).1
  unfold wfF
  rw [if_pos rfl,hd.1]
  simp;omega
 by_cases h2:op=2
 ·simp only [if_neg h1,if_pos h2]at hf hl ⊢
  have hns:=hn s (by rw [mentB,h2];simp)
  unfold nameI
  cases hk:inpK s with
  |some k=>
   have hk11:=(inpK_some hk).1
   refine⟨.one ?_,rfl⟩
   unfold wfF
   dsimp only
   rw [if_neg (by decide),if_neg (by simp),if_pos rfl]
   simp;omega
  |none=>exact⟨.one (wf_slot (.inl rfl) (hns hk)),rfl⟩
 by_cases h3:op=3
 ·simp only [if_neg h1,if_neg h2,if_pos h3]at hf hl ⊢
  refine⟨.one ?_,rfl⟩
  simp only [Bool.and_eq_true,decide_eq_true_eq]at hf
  unfold wfF
  dsimp only
  rw [if_neg (by decide),if_neg (by simp),if_neg (by decide),if_neg (by decide),if_pos rfl]
  simp;omega
 simp only [if_neg h1,if_neg h2,if_neg h3]at hf hl ⊢
 have hfs:=(Bool.and_eq_true_iff.1 hf).1
 have hfa:=formeds_all hfs
 have hgo:∀a∈xs,∀k,k+(codeF κ a k).length≤n→WfC m n k (codeF κ a k)∧setsF (codeF κ a k)= []:=fun a ha k h=>ih a ha (hfa a ha) (hnames a ha) k h
 clear ih hn hnames hfs hf hfa
 have hyes:∀(o:Int),o=23∨o=24→∀k,WfC m n k [⟨o,0,0,0⟩]∧setsF [⟨o,0,0,0⟩]= []:=fun o ho k=>⟨.one (by
  unfold wfF
  dsimp only
  rw [if_neg (by omega),if_neg (by simp),if_neg (by omega),if_neg (by omega),if_neg (by omega),if_neg (by omega),if_pos ho]
  simp),by rw [setsF_cons,if_neg (by show ¬o=4;omega)];rfl⟩
 by_cases h17:op=17
 ·subst h17
  obtain⟨a,b,rfl⟩:∃a b,xs= [a,b]:=by
   exact fz17
  rw [if_pos rfl]at hl ⊢
  exact wf_br hl (fun h=>hgo a (by simp) i h) (fun k h=>hgo b (by simp) k h) (fun k _=>hyes 24 (.inr rfl) k)
 by_cases h18:op=18
 ·subst h18
  obtain⟨a,b,rfl⟩:∃a b,xs= [a,b]:=by
   exact fz17
  rw [if_neg (by decide),if_pos rfl]at hl ⊢
  exact wf_br hl (fun h=>hgo a (by simp) i h) (fun k _=>hyes 23 (.inl rfl) k) (fun k h=>hgo b (by simp) k h)
 by_cases h21:op=21
 ·subst h21
  obtain⟨a,b,c,rfl⟩:∃a b c,xs= [a,b,c]:=by
   exact fz38
  rw [if_neg (by decide),if_neg (by decide),if_pos rfl]at hl ⊢
  exact wf_br hl (fun h=>hgo a (by simp) i h) (fun k h=>hgo b (by simp) k h) (fun k h=>hgo c (by simp) k h)
 simp only [if_neg h17,if_neg h18,if_neg h21]at hl ⊢
 have hop:(4≤op∧op≤16)∨op=19∨op=20:=by
  unfold argsN at hlen
  (repeat' split at hlen)<;>omega
 obtain⟨m1,m2,m3⟩:=opF_mopF hop
 have hx:∀k,wfF m n k ⟨mopF op,0,0,0⟩=true:=fun k=>by
  unfold wfF
  dsimp only
  rw [if_neg (by omega),if_neg (by simp),if_neg (by omega),if_neg (by omega),if_neg (by omega),if_neg (by omega),if_neg (by omega),m1]
  simp;omega
 have hs1:setsF [(⟨mopF op,0,0,0⟩:Ins)]= []:=by rw [setsF_cons,if_neg (by show ¬mopF op=4;omega)];rfl
 have hseq:∀(ys:List Ex),(∀a∈ys,a∈xs)→∀k,k+(seqC (codesF κ ys) k).length≤n→WfC m n k (seqC (codesF κ ys) k)∧setsF (seqC (codesF κ ys) k)= []:=by
  intro ys
  induction ys with
  |nil=>intro _ k _;exact⟨.nil,rfl⟩
  |cons a r ihr=>
   intro hsub k hk
   simp only [codesF,seqC,List.length_append]at hk ⊢
   obtain⟨a1,a2⟩:=hgo a (hsub a (by simp)) k (by omega)
   obtain⟨b1,b2⟩:=ihr (fun b hb=>hsub b (List.mem_cons_of_mem _ hb)) (k+(codeF κ a k).length) (by omega)
   exact⟨a1.app b1,by rw [setsF_app,a2,b2];rfl⟩
 rw [List.length_append,List.length_singleton]at hl
 obtain⟨s1,s2⟩:=hseq xs (fun a h=>h) i (by omega)
 exact⟨s1.app (.one (hx _)),by rw [setsF_app,s2,hs1];rfl⟩
mutual
theorem wf_code{κ:ByteArray→Nat}{m n:Nat}:∀e:Ex,WfE κ m n e
 | .mk _ _ _ _ _ xs=>wf_node (wf_codes xs)
theorem wf_codes{κ:ByteArray→Nat}{m n:Nat}:∀xs:List Ex,∀a∈xs,WfE κ m n a
 | [],_,ha=>by cases ha
 |e::r,a,ha=>by
  rcases List.mem_cons.1 ha with h|ha
  ·rw [h];exact wf_code e
  ·exact wf_codes r a ha
end
structure Dfn where
 κ:ByteArray→Nat
 e:Ex
 k:Nat
 m:Int
 env:List (ByteArray × Int)
 ρ:List (ByteArray × Val)→List (ByteArray × Val):=id
def Dfn.code(d:Dfn)(i:Nat):List Ins:=codeF d.κ d.e i++[⟨4,(d.k:Int),0,0⟩]
def defsC:List Dfn→Nat→List Ins
 | [],_=>[]
 |d::r,i=>d.code i++defsC r (i+(d.code i).length)
def NmOk(κ:ByteArray→Nat)(e:Ex)(env:List (ByteArray × Int))(mm:Nat)(set:List Bool)(dims:List Int):Prop:=
 ∀s,mentB s e=true→inpK s=none→κ s<mm∧set.getD (κ s) false=true∧dims.getD (κ s) 0=(inferN env s).1
def DefsOk(mm:Nat):List Bool→List Int→List Dfn→Prop
 |_,_,[]=>True
 |set,dims,d::r=>(formedB d.e=true∧inferF d.env d.e=(d.m,0)∧d.e.depth≤24∧d.k<mm∧NmOk d.κ d.e d.env mm set dims)∧DefsOk mm (set.set d.k true) (dims.set d.k d.m) r
def setE(set:List Bool)(ds:List Dfn):List Bool:=ds.foldl (fun s d=>s.set d.k true) set
def dimE(dims:List Int)(ds:List Dfn):List Int:=ds.foldl (fun s d=>s.set d.k d.m) dims
theorem wf_defs{mm n:Nat}:∀(ds:List Dfn) (i:Nat) (set:List Bool) (dims:List Int),DefsOk mm set dims ds→i+(defsC ds i).length≤n→WfC mm n i (defsC ds i)∧setsF (defsC ds i)=ds.map Dfn.k
 | [],i,_,_,_,_=>⟨.nil,rfl⟩
 |d::r,i,set,dims,h,hl=>by
  obtain⟨⟨h1,h2,h3,h4,h5⟩,h6⟩:=h
  rw [defsC]at hl ⊢
  rw [List.length_append]at hl
  obtain⟨b1,b2⟩:=wf_defs (mm:=mm) (n:=n) r (i+(d.code i).length) _ _ h6 (by omega)
  have hcl:(d.code i).length=(codeF d.κ d.e i).length+1:=by unfold Dfn.code;rw [List.length_append];rfl
  obtain⟨a1,a2⟩:=wf_code (κ:=d.κ) (m:=mm) (n:=n) d.e h1 (fun s hs hk=>(h5 s hs hk).1) i (by omega)
  refine⟨WfC.app ?_ b1, ?_⟩
  ·exact a1.app (.one (wf_slot (.inr rfl) h4))
  ·rw [setsF_app,b2]
   unfold Dfn.code
   rw [setsF_app,a2,setsF_cons,if_pos rfl]
   simp [setsF]
theorem ver_defs{mm:Nat}:∀(ds:List Dfn) (i:Nat) (set:List Bool) (dims:List Int) (S:List (Option (List Int × List Bool))) (dep:Nat),ds≠[]→DefsOk mm set dims ds→i+(defsC ds i).length<S.length→S.getD i none=some ([],set)→
 (∀j,i<j→j<i+(defsC ds i).length→S.getD j none=none)→∀set',((S.getD (i+(defsC ds i).length) none=none∧set'=setE set ds)∨∃u,S.getD (i+(defsC ds i).length) none=some ([],u)∧set'=List.zipWith (· && ·) u (setE set ds))→
 ∃S' dep',S'.length=S.length∧(∀j,i+(defsC ds i).length<j→S'.getD j none=S.getD j none)∧S'.getD (i+(defsC ds i).length) none=some ([],set')∧∀r,goA (defsC ds i++r) i S dims dep=goA r (i+(defsC ds i).length) S' (dimE dims ds) dep'
 | [],_,_,_,_,_,h,_,_,_,_,_,_=>absurd rfl h
 |d::r,i,set,dims,S,dep,_,h,hl,h0,hn,set',hf=>by
  obtain⟨⟨h1,h2,h3,h4,h5⟩,h6⟩:=h
  have hcl:(d.code i).length=(codeF d.κ d.e i).length+1:=by unfold Dfn.code;rw [List.length_append];rfl
  have hv:=ver_code (κ:=d.κ) (set:=set) (dims:=dims) (env:=d.env) d.e h1 (by rw [h2]) (fun s hs hk=>(h5 s hs hk).2) i [] (by simpa using h3)
  rw [h2,List.nil_append]at hv
  rw [defsC]at hl hn hf ⊢
  rw [List.length_append]at hl hn hf ⊢
  by_cases hr:r= []
  ·subst hr
   simp only [defsC,List.length_nil,Nat.add_zero]at hl hn hf ⊢
   rw [hcl,←Nat.add_assoc]at hl hn hf ⊢
   obtain⟨S1,d1,a1,a2,a3,a4⟩:=ver_def (k:=d.k) (dep:=dep) hv (codeF_ne _ _ _) hl h0 (fun j k1 k2=>hn j k1 (by omega)) hf
   refine⟨S1,d1,a1,a2,a3,fun q=>?_⟩
   rw [List.append_nil]
   refine Eq.trans ?_ (a4 q)
   unfold Dfn.code
   rw [List.append_assoc];rfl
  ·have lr:0<(defsC r (i+(d.code i).length)).length:=by
    cases r with
    |nil=>exact absurd rfl hr
    |cons d2 r2=>rw [defsC];unfold Dfn.code;simp only [List.length_append,List.length_singleton];omega
   obtain⟨S1,d1,a1,a2,a3,a4⟩:=ver_def (k:=d.k) (dep:=dep) hv (codeF_ne _ _ _) (S:=S) (by omega) h0 (fun j k1 k2=>hn j k1 (by omega)) (.inl ⟨hn _ (by omega) (by omega),rfl⟩)
   have e1:i+(codeF d.κ d.e i).length+1=i+(d.code i).length:=by omega
   rw [e1]at a2 a3 a4
   obtain⟨S2,d2,b1,b2,b3,b4⟩:=ver_defs r (i+(d.code i).length) (set.set d.k true) (dims.set d.k d.m) S1 d1 hr h6 (by omega) a3 (fun j k1 k2=>by rw [a2 j (by omega)];exact hn j (by omega) (by omega)) set' (by rw [a2 _ (by omega),Nat.add_assoc];exact hf)
   refine⟨S2,d2,by omega,fun j hj=>by rw [b2 j (by omega),a2 j (by omega)],by rw [←Nat.add_assoc];exact b3,fun q=>?_⟩
   rw [List.append_assoc,←Nat.add_assoc]
   refine Eq.trans ?_ (b4 q)
   refine Eq.trans ?_ (a4 _)
   unfold Dfn.code
   rw [List.append_assoc];rfl
theorem rndA_dep{S S':List (Option (List Int × List Bool))}{x:Ins}{i dep dep':Nat}{dims dims':List Int}(h:rndA S x i dims dep=some (S',dims',dep')) :
 ∃s s',S.getD i none=some s∧appA x s dims=some (s',dims')∧s'.1.length≤24∧dep'=max dep s'.1.length:=by
 unfold rndA at h
 cases h1:S.getD i none with
 |none=>rw [h1]at h;cases h
 |some s=>
  rw [h1]at h
  cases h2:appA x s dims with
  |none=>simp only [h2]at h;cases h
  |some r=>
   obtain⟨s',d'⟩:=r
   simp only [h2]at h
   by_cases h3:24<s'.1.length
   ·rw [if_pos h3]at h;cases h
   rw [if_neg h3]at h
   cases h4:(if x.op=21 then some S else putA S (i+1) s')with
   |none=>simp only [h4]at h;cases h
   |some S1=>
    simp only [h4]at h
    cases h5:(if x.op=21∨x.op=22 then putA S1 x.a.toNat s' else some S1)with
    |none=>simp only [h5]at h;cases h
    |some S2=>
     simp only [h5]at h
     obtain⟨-,h6⟩:=Prod.mk.inj (Option.some.inj h)
     obtain⟨rfl,rfl⟩:=Prod.mk.inj h6
     exact⟨s,s',rfl,h2,by omega,rfl⟩
theorem goA_dep:∀(r:List Ins) (i:Nat) (S:List (Option (List Int × List Bool))) (dims:List Int) (dep:Nat) (d:Int),goA r i S dims dep=(d,0)→dep≤24→(dep:Int)≤d∧d≤24
 | [],i,S,dims,dep,d,h,h24=>by
   rw [goA]at h
   cases e:S.getD i none with
   |none=>
    rw [e]at h
    obtain⟨rfl,-⟩:=Prod.mk.inj h
    omega
   |some s=>
    rw [e]at h
    by_cases he:s.1= []
    ·simp only [if_pos he]at h
     obtain⟨rfl,-⟩:=Prod.mk.inj h
     omega
    ·simp only [if_neg he]at h
     cases(Prod.mk.inj h).2
 |x::r,i,S,dims,dep,d,h,h24=>by
  rw [goA]at h
  cases e:rndA S x i dims dep with
  |none=>rw [e]at h;cases(Prod.mk.inj h).2
  |some t=>
   obtain⟨S',dims',dep'⟩:=t
   rw [e]at h
   obtain⟨s,s',-,-,h3,rfl⟩:=rndA_dep e
   have:=goA_dep r (i+1) S' dims' _ d h (by omega)
   omega
theorem goA_first{x:Ins}{r:List Ins}{i:Nat}{S:List (Option (List Int × List Bool))}{dims:List Int}{d:Int}{set:List Bool}(hx:x.op≠21)(h0:S.getD i none=some ([],set))(h:goA (x::r) i S dims 0=(d,0)):1≤d:=by
 rw [goA]at h
 cases e:rndA S x i dims 0 with
 |none=>rw [e]at h;cases(Prod.mk.inj h).2
 |some t=>
  obtain⟨S',dims',dep'⟩:=t
  rw [e]at h
  obtain⟨s,s',e1,e2,h3,rfl⟩:=rndA_dep e
  rw [h0]at e1
  obtain rfl:=Option.some.inj e1
  have hl:1≤s'.1.length:=by
   unfold appA at e2
   dsimp only at e2
   have hp:∀z:Int,(([]:List Int)++[z]).length=1:=fun z=>rfl
   by_cases h1:x.op=1
   ·rw [if_pos h1]at e2;obtain⟨rfl,-⟩:=Prod.mk.inj (Option.some.inj e2);exact Nat.le_refl 1
   rw [if_neg h1]at e2
   by_cases h1:x.op=2
   ·rw [if_pos h1]at e2;obtain⟨rfl,-⟩:=Prod.mk.inj (Option.some.inj e2);exact Nat.le_refl 1
   rw [if_neg h1]at e2
   by_cases h1:x.op=5
   ·rw [if_pos h1]at e2;obtain⟨rfl,-⟩:=Prod.mk.inj (Option.some.inj e2);exact Nat.le_refl 1
   rw [if_neg h1]at e2
   by_cases h1:x.op=23∨x.op=24
   ·rw [if_pos h1]at e2;obtain⟨rfl,-⟩:=Prod.mk.inj (Option.some.inj e2);exact Nat.le_refl 1
   rw [if_neg h1]at e2
   by_cases h1:x.op=3
   ·rw [if_pos h1]at e2
    split at e2
    ·obtain⟨rfl,-⟩:=Prod.mk.inj (Option.some.inj e2);exact Nat.le_refl 1
    ·cases e2
   rw [if_neg h1]at e2
   by_cases h1:x.op=4
   ·rw [if_pos h1,if_pos rfl]at e2;cases e2
   rw [if_neg h1]at e2
   by_cases h1:x.op=22
   ·rw [if_pos h1,if_pos (.inl rfl)]at e2;cases e2
   rw [if_neg h1,if_neg hx,if_pos (by unfold ariF;split<;>simp)]at e2
   cases e2
  have:=goA_dep r (i+1) S' dims' _ d h (by omega)
  omega
mutual
theorem code_head{κ:ByteArray→Nat}:∀(e:Ex),formedB e=true→∀i,∃x r,codeF κ e i=x::r∧x.op≠21
 | .mk op n d m s xs,hf,i=>by
   rw [formedB,Bool.and_eq_true,decide_eq_true_eq]at hf
   obtain⟨hlen,hf⟩:=hf
   rw [codeF]
   unfold codeNode
   by_cases h1:op=1
   ·rw [if_pos h1];exact⟨_,_,rfl,by show(1:Int)≠21;decide⟩
   by_cases h2:op=2
   ·rw [if_neg h1,if_pos h2]
    refine⟨_,_,rfl, ?_⟩
    unfold nameI
    split
    ·show(2:Int)≠21;decide
    ·show(3:Int)≠21;decide
   by_cases h3:op=3
   ·rw [if_neg h1,if_neg h2,if_pos h3];exact⟨_,_,rfl,by show(5:Int)≠21;decide⟩
   rw [if_neg h1,if_neg h2,if_neg h3]at hf ⊢
   have hfs:=(Bool.and_eq_true_iff.1 hf).1
   have hne:xs≠[]:=fun e=>by
    subst e
    simp only [List.length_nil]at hlen
    unfold argsN at hlen
    (repeat' split at hlen)<;>omega
   obtain⟨a,r,rfl⟩:=List.exists_cons_of_ne_nil hne
   obtain⟨x,q,e,hx⟩:=code_heads (κ:=κ) (a::r) hfs a (by simp) i
   have hbr:∀B C:Nat→List Ins,∃y p,brC (codeF κ a) B C i=y::p∧y.op≠21:=fun B C=>by
    unfold brC
    rw [e]
    exact⟨x,_,rfl,hx⟩
   split
   ·exact hbr _ _
   split
   ·exact hbr _ _
   split
   ·exact hbr _ _
   ·simp only [codesF,seqC]
    rw [e]
    exact⟨x,_,rfl,hx⟩
theorem code_heads{κ:ByteArray→Nat}:∀(xs:List Ex),formedsB xs=true→∀a∈xs,∀i,∃x r,codeF κ a i=x::r∧x.op≠21
 | [],_,_,ha,_=>by cases ha
 |e::r,hf,a,ha,i=>by
  rw [formedsB,Bool.and_eq_true]at hf
  rcases List.mem_cons.1 ha with h|ha
  ·rw [h];exact code_head e hf.1 i
  ·exact code_heads r hf.2 a ha i
end
def guardC(g:Nat→List Ins)(ds:List Dfn)(i:Nat):List Ins:=g i++⟨22,((i+(g i).length+1+(defsC ds (i+(g i).length+1)).length:Nat):Int),0,0⟩::defsC ds (i+(g i).length+1)
def initS(n:Nat):List (Option (List Int × List Bool)):=some ([],List.replicate 12 false)::List.replicate n none
theorem initS_none{n j:Nat}(h:0<j):(initS n).getD j none=none:=by
 unfold initS
 cases j with
 |zero=>omega
 |succ j=>rw [List.getD_cons_succ,List.getD_eq_getElem?_getD,List.getElem?_replicate];split<;>rfl
theorem form_of{l:List Ins}{sl:List ByteArray}(h1:l.length≤4000)(h2:WfC sl.length l.length 0 l)(h3:wordsF sl=true)(h4:(setsF l).Nodup):formF l sl=true:=by
 unfold formF
 rw [decide_eq_true h1,h3,decide_eq_true h4]
 simp only [Bool.true_and,Bool.and_true]
 rw [List.all_eq_true]
 intro i hi
 have:=h2 i (List.mem_range.1 hi)
 rwa [Nat.zero_add]at this
theorem made_plain{p:List Dfn}{sl:List ByteArray}(h1:(defsC p 0).length≤4000)(h2:wordsF sl=true)(h3:(p.map Dfn.k).Nodup)(h4:DefsOk sl.length (List.replicate 12 false) (List.replicate 12 0) p) :
 ∃d:Int,verA (defsC p 0) sl=(d,0)∧d≤24∧(p≠[]→1≤d)∧(p= []→d=0):=by
 obtain⟨w1,w2⟩:=wf_defs (n:=(defsC p 0).length) p 0 _ _ h4 (by omega)
 have hf:=form_of h1 w1 h2 (by rw [w2];exact h3)
 unfold verA
 rw [if_pos hf]
 by_cases hp:p= []
 ·subst hp
  exact⟨0,rfl,by omega,fun h=>absurd rfl h,fun _=>rfl⟩
 obtain⟨S',dep',-,-,a3,a4⟩:=ver_defs p 0 (List.replicate 12 false) (List.replicate 12 0) (initS (defsC p 0).length) 0 hp h4 (by unfold initS;simp) rfl (fun j k1 _=>initS_none k1) _ (.inl ⟨initS_none (by
  cases p with
  |nil=>exact absurd rfl hp
  |cons d r=>rw [defsC];unfold Dfn.code;simp only [List.length_append,List.length_singleton];omega),rfl⟩)
 have e:=a4 []
 rw [List.append_nil,goA,a3]at e
 have e2:goA (defsC p 0) 0 (initS (defsC p 0).length) (List.replicate 12 0) 0=((dep':Int),0):=e
 refine⟨dep',e2,(goA_dep _ _ _ _ _ _ e2 (by omega)).2,fun _=>?_,fun h=>absurd h hp⟩
 cases p with
 |nil=>exact absurd rfl hp
 |cons d r=>
  obtain⟨x,q,hx,ho⟩:=code_head (κ:=d.κ) d.e h4.1.1 0
  rw [defsC]at e2
  unfold Dfn.code at e2
  rw [hx]at e2
  exact goA_first ho rfl e2
theorem defsC_pos{p:List Dfn}(h:p≠[])(i:Nat):0<(defsC p i).length:=by
 cases p with
 |nil=>exact absurd rfl h
 |cons d r=>rw [defsC];unfold Dfn.code;simp only [List.length_append,List.length_singleton];omega
theorem defsC_head{p:List Dfn}(h:p≠[]){mm:Nat}{set:List Bool}{dims:List Int}(hd:DefsOk mm set dims p)(i:Nat):∃x r,defsC p i=x::r∧x.op≠21:=by
 cases p with
 |nil=>exact absurd rfl h
 |cons d r=>
  obtain⟨x,q,hx,ho⟩:=code_head (κ:=d.κ) d.e hd.1.1 i
  rw [defsC]
  unfold Dfn.code
  rw [hx]
  exact⟨x,_,rfl,ho⟩
theorem made_guard{p q:List Dfn}{g:Nat→List Ins}{sl:List ByteArray}(h1:(defsC p 0++guardC g q (defsC p 0).length).length≤4000)(h2:wordsF sl=true)(h3:((p++q).map Dfn.k).Nodup)(h4:DefsOk sl.length (List.replicate 12 false) (List.replicate 12 0) p)
 (hg:∀i,Ver (setE (List.replicate 12 false) p) (dimE (List.replicate 12 0) p) (g i) i [] [1]) (hgh:∀i,∃x r,g i=x::r∧x.op≠21) (hgw:∀i n,i+(g i).length≤n→WfC sl.length n i (g i)∧setsF (g i)= [])
 (hq:q≠[]) (h5:DefsOk sl.length (setE (List.replicate 12 false) p) (dimE (List.replicate 12 0) p) q) :
 ∃d:Int,verA (defsC p 0++guardC g q (defsC p 0).length) sl=(d,0)∧1≤d∧d≤24:=by
 have hgn:∀i,g i≠[]:=fun i=>by
  obtain⟨x,r,e,-⟩:=hgh i
  rw [e];simp
 have lq:=defsC_pos hq ((defsC p 0).length+(g (defsC p 0).length).length+1)
 have lg:0<(g (defsC p 0).length).length:=List.length_pos_iff.2 (hgn _)
 have hlen:(defsC p 0++guardC g q (defsC p 0).length).length=(defsC p 0).length+(g (defsC p 0).length).length+1+(defsC q ((defsC p 0).length+(g (defsC p 0).length).length+1)).length:=by
  unfold guardC;simp only [List.length_append,List.length_cons];omega
 rw [hlen]at h1
 obtain⟨w1,w2⟩:=wf_defs (n:=(defsC p 0++guardC g q (defsC p 0).length).length) p 0 _ _ h4 (by omega)
 obtain⟨u1,u2⟩:=wf_defs (n:=(defsC p 0++guardC g q (defsC p 0).length).length) q ((defsC p 0).length+(g (defsC p 0).length).length+1) _ _ h5 (by omega)
 obtain⟨g1,g2⟩:=hgw (defsC p 0).length (defsC p 0++guardC g q (defsC p 0).length).length (by omega)
 have hf:formF (defsC p 0++guardC g q (defsC p 0).length) sl=true:=by
  refine form_of (by omega) ?_ h2 ?_
  ·refine w1.app ?_
   rw [Nat.zero_add]
   exact g1.app (.cons (wf_jmp (.inr rfl) (by omega) (by omega)) u1)
  ·rw [setsF_app,w2]
   unfold guardC
   rw [setsF_app,g2,setsF_cons,if_neg (by show ¬(22:Int)=4;decide),u2,List.nil_append,←List.map_append]
   exact h3
 unfold verA
 rw [if_pos hf]
 have hgo:∃dep:Nat,goA (defsC p 0++guardC g q (defsC p 0).length) 0 (initS (defsC p 0++guardC g q (defsC p 0).length).length) (List.replicate 12 0) 0=((dep:Int),0):=by
  -- the definitions ahead
  have hS:∃S1 d1,S1.length=(initS (defsC p 0++guardC g q (defsC p 0).length).length).length∧(∀j,(defsC p 0).length<j→S1.getD j none=none)∧S1.getD (defsC p 0).length none=some ([],setE (List.replicate 12 false) p)∧
   ∀r,goA (defsC p 0++r) 0 (initS (defsC p 0++guardC g q (defsC p 0).length).length) (List.replicate 12 0) 0=goA r (defsC p 0).length S1 (dimE (List.replicate 12 0) p) d1:=by
   by_cases hp:p= []
   ·subst hp
    exact⟨_,0,rfl,fun j hj=>initS_none (by omega),rfl,fun r=>rfl⟩
   ·have lp:=defsC_pos hp 0
    obtain⟨S1,d1,a1,a2,a3,a4⟩:=ver_defs p 0 (List.replicate 12 false) (List.replicate 12 0) (initS (defsC p 0++guardC g q (defsC p 0).length).length) 0 hp h4 (by unfold initS;simp only [List.length_cons,List.length_replicate];omega) rfl (fun j k1 _=>initS_none k1) _ (.inl ⟨initS_none (by omega),rfl⟩)
    rw [Nat.zero_add]at a2 a3 a4
    exact⟨S1,d1,a1,fun j hj=>by rw [a2 j hj];exact initS_none (by omega),a3,a4⟩
  obtain⟨S1,d1,a1,a2,a3,a4⟩:=hS
  have hl1:S1.length=(defsC p 0++guardC g q (defsC p 0).length).length+1:=by rw [a1];unfold initS;simp
  rw [hlen]at hl1
  rw [a4]
  unfold guardC
  obtain⟨S2,d2,b1,b2,b3,b4,b5⟩:=ver_guard (S:=S1) (dep:=d1) (a:=(defsC p 0).length+(g (defsC p 0).length).length+1+(defsC q ((defsC p 0).length+(g (defsC p 0).length).length+1)).length) (hg _) (hgn _) (by omega) (by omega) a3 (fun j k1 _=>a2 j k1)
  rw [b5]
  obtain⟨S3,d3,c1,c2,c3,c4⟩:=ver_defs q ((defsC p 0).length+(g (defsC p 0).length).length+1) _ _ S2 d2 hq h5 (by omega) b3 (fun j k1 k2=>by rw [b2 j (by omega) (by omega)];exact a2 j (by omega)) _ (.inr ⟨_,b4,rfl⟩)
  have e:=c4 []
  rw [List.append_nil,goA,c3]at e
  exact⟨d3,e⟩
 obtain⟨dep,hgo⟩:=hgo
 refine⟨dep,hgo, ?_,(goA_dep _ _ _ _ _ _ hgo (by omega)).2⟩
 have hh:∃x r,defsC p 0++guardC g q (defsC p 0).length=x::r∧x.op≠21:=by
  by_cases hp:p= []
  ·subst hp
   obtain⟨x,r,e,ho⟩:=hgh 0
   unfold guardC
   simp only [defsC,List.length_nil,List.nil_append]
   rw [e]
   exact⟨x,_,rfl,ho⟩
  ·obtain⟨x,r,e,ho⟩:=defsC_head hp h4 0
   rw [e]
   exact⟨x,_,rfl,ho⟩
 obtain⟨x,r,e,ho⟩:=hh
 rw [e]at hgo
 exact goA_first ho rfl hgo
end Go.Proofs.YtaghhncnicbedaaGreatDoor
namespace Go.Proofs.YtaghhncnicbedaaGreatDoor
open Go.RowKit

structure RowG(T:TypeId)(c:Nat)(base:Nat)(w:World)(v:Value)(l:List (List Value))(rs:List (Ex × Value)):Prop where
 own:w.ownsRow base T c v l.length l.flatten
 len:∀x∈l,x.length=c
 rep:∀x∈rs,RepE (fun b=>base≤b∧v.ownBlock≠some b) w x.1 x.2
section
variable {T : TypeId} {c base : Nat} {w w' : World} {v : Value} {l : List (List Value)} {rs : List (Ex × Value)}
theorem RowG.nil(T:TypeId)(c base:Nat)(w:World):RowG T c base w (.slice none 0 0) [] []:=⟨World.ownsRow_nil _ _ _ _,fun _ h=>by(cases h),fun _ h=>by(cases h)⟩
theorem RowG.keep(h:RowG T c base w v l rs)(hsz:w.heap.size≤w'.heap.size)(hw:∀k,base≤k→k<w.heap.size→w'.heap[k]? =w.heap[k]?):RowG T c base w' v l rs:=
 ⟨ownsRow_keep h.own hw,h.len,fun x hx=>(h.rep x hx).keep hsz fun b o hb hlt=>World.cell?_of_block (hw b hb.1 hlt)⟩
theorem RowG.alloc(h:RowG T c base w v l rs)(o:Obj):RowG T c base (w.alloc o) v l rs:=h.keep (by simp) fun k _ hlt=>Below.heap_alloc w o k hlt
theorem RowG.grow(h:RowG T c base w v l rs)(bs:Array Obj)(d:Nat):RowG T c base (w.grow bs d) v l rs:=h.keep (by simp) fun k _ hlt=>World.heap_grow _ _ _ hlt
theorem RowG.drewN(h:RowG T c base w v l rs)(n:Nat):RowG T c base (w.drewN n) v l rs:=h.keep (Nat.le_refl _) fun _ _ _=>rfl
theorem RowG.setCell(h:RowG T c base w v l rs){a:Addr}(ha:a.block<base)(u:Value):RowG T c base (w.setCell a u) v l rs:=
 h.keep (by simp) fun k hk _=>Below.heap_setCell _ _ _ _ (by omega)
theorem RowG.lt(h:RowG T c base w v l rs):∀k,v.ownBlock=some k→base≤k∧k<w.heap.size:=h.own.lt
theorem RowG.form(h:RowG T c base w v l rs):∃a cap,v= .slice a l.length cap:=by
 exact fz59
theorem flatten_get(l:List (List Value))(c:Nat)(h:∀x∈l,x.length=c)(i j:Nat)(hj:j<c)(hi:i<l.length):l.flatten[i*c+j]? =(l.getD i [])[j]?:=by
 induction l generalizing i with
 |nil=>simp at hi
 |cons x r ih=>
  have hx:=h x (List.mem_cons_self)
  rw [List.flatten_cons]
  cases i with
  |zero=>rw [List.getElem?_append_left (by omega)];simp
  |succ i=>
   rw [List.getElem?_append_right (by rw [hx,Nat.add_mul];omega),List.getD_cons_succ,←ih (fun y hy=>h y (List.mem_cons_of_mem _ hy)) i (by simpa using hi)]
   congr 1;rw [hx,Nat.add_mul];omega
theorem RowG.cells(h:RowG T c base w v l rs):∃a cap,v= .slice a l.length cap∧(l.length=0∨∃g,a=some ⟨g,0,none⟩∧base≤g∧g<w.heap.size∧∀i j u,i<l.length→j<c→(l.getD i [])[j]? =some u→w.cell? ⟨g,i*c+j,none⟩=some u):=by
 rcases h.own.2 with ⟨rfl,h0⟩|⟨g,cap,cur,rfl,hb,hg,_⟩
 ·exact⟨none,0,by rw [h0],.inl h0⟩
 ·refine⟨_,cap,rfl,.inr ⟨g,rfl,hb,(Array.getElem?_eq_some_iff.1 hg).1,fun i j u hi hj hu=>?_⟩⟩
  have:=World.ownsRow.cells (g:=g) h.own rfl (i*c+j) u (by rw [flatten_get l c h.len i j hj hi];exact hu)
  rw [addr_add]at this;exact this
theorem RowG.push{news:List Value}{rs2:List (Ex × Value)}{m g cap H n:Nat}{xs:List Value}(h:RowG T c base w v l rs)(hr:∀x∈rs2,RepE (fun b=>m≤b) w x.1 x.2)(hm:base≤m)(hv:∀k,v.ownBlock=some k→k<m)
 (hc:news.length=c) (hn:n=l.length+1) (hxs:xs=l.flatten++news) (ho:w'.ownsRow base T c (.slice (some ⟨g,0,none⟩) n cap) n xs) (hg:w.grownBy w' v.ownBlock) (hat:v.ownBlock=some g∨g=H) (hH:w.heap.size=H) :
 RowG T c base w' (.slice (some ⟨g,0,none⟩) n cap) (l++[news]) (rs++rs2):=by
 subst hH hn hxs
 refine⟨by rw [List.length_append,List.flatten_append];simpa using ho,fun x hx=>?_,fun x hx=>?_⟩
 ·rw [List.mem_append]at hx
  rcases hx with hx|hx
  ·exact h.len x hx
  ·obtain rfl:x=news:=by simpa using hx
   exact hc
 ·have key:∀(e':Ex) (u:Value),RepE (fun b=>base≤b∧v.ownBlock≠some b) w e' u→RepE (fun b=>base≤b∧(Value.slice (some ⟨g,0,none⟩) (l.length+1) cap).ownBlock≠some b) w' e' u:=by
   exact fz16
  rw [List.mem_append]at hx
  rcases hx with hx|hx
  ·exact key _ _ (h.rep x hx)
  ·exact key _ _ ((hr x hx).mono fun b hb=>⟨by omega,fun e=>by have:=hv b e;omega⟩)
end

structure RawV where
 frm:Int
 mode:Int
 unit:Int
 credits:List Int
 series:List Int
 lets:List (List Int)
 ifs:List (List Int)
 pays:List (List Int)
 cuts:List (List Int)
 twist:Int
def RowsAt(w:World)(v:Value)(zss:List (List Int)):Prop:=
 zss.length≤140737488355328∧∃a cap,v= .slice a zss.length cap∧(zss.length=0∨∃b off,a=some ⟨b,off,none⟩∧b<w.heap.size∧∀i,i<zss.length→∃u,w.cell? ⟨b,off+i,none⟩=some u∧IntsAt w u (zss.getD i []))
def RawAt(w:World)(cs:List Value)(R:RawV):Prop:=
 I64 R.frm∧I64 R.mode∧I64 R.unit∧I64 R.twist∧∃vc vs vl vi vp vu,cs= [.int .i64 R.frm,.int .i64 R.mode,.int .i64 R.unit,vc,vs,vl,vi,vp,vu,.int .i64 R.twist]∧
  IntsAt w vc R.credits∧IntsAt w vs R.series∧RowsAt w vl R.lets∧RowsAt w vi R.ifs∧RowsAt w vp R.pays∧RowsAt w vu R.cuts
def letN(i:Nat):ByteArray:=⟨#[(112+i % 8).toUInt8,95,(48+i / 8).toUInt8]⟩
def letD(R:RawV)(i:Nat):Int:=1+((R.lets.getD i []).length % 4:Nat)
def envF(R:RawV)(k:Nat):List (ByteArray × Int):=(List.range k).map fun i=>(letN i,letD R i)
def nLet(R:RawV):Nat:=min R.lets.length 5
def letE(R:RawV)(i:Nat):Ex:=topF (R.lets.getD i []) (envF R i) (letD R i)
def payE(R:RawV)(i:Nat):Ex:=topF (R.pays.getD i []) (envF R (nLet R)) 4
def ifE(R:RawV)(i:Nat):Ex:=topF (R.ifs.getD i []) (envF R (nLet R)) 1
def cutE(R:RawV)(i:Nat):Ex:=topF (R.cuts.getD i []) (envF R (nLet R)) 2
theorem letN_size(i:Nat):(letN i).size=3:=rfl
theorem three_bytes(w:World)(a b c:Int):(convert 142 9 (.slice (some ⟨w.heap.size,0,none⟩) 3 3)).run Tryz.prog (w.alloc (.cells #[.int .u8 a,.int .u8 b,.int .u8 c] 5))= .ok (.string (strOfNums [a,b,c])) (w.alloc (.cells #[.int .u8 a,.int .u8 b,.int .u8 c] 5)):=by
 exact fz23
theorem letName_0(w:World):Calls Tryz.prog 30 #[.int .i64 0] w fun e w'=>e= .returned (.string (letN 0))∧w.Grows w':=by
 have kc:=three_bytes w 112 95 48
 exact fz10
theorem letName_1(w:World):Calls Tryz.prog 30 #[.int .i64 1] w fun e w'=>e= .returned (.string (letN 1))∧w.Grows w':=by
 have kc:=three_bytes w 113 95 48
 exact fz10
theorem letName_2(w:World):Calls Tryz.prog 30 #[.int .i64 2] w fun e w'=>e= .returned (.string (letN 2))∧w.Grows w':=by
 have kc:=three_bytes w 114 95 48
 exact fz10
theorem letName_3(w:World):Calls Tryz.prog 30 #[.int .i64 3] w fun e w'=>e= .returned (.string (letN 3))∧w.Grows w':=by
 have kc:=three_bytes w 115 95 48
 exact fz10
theorem letName_4(w:World):Calls Tryz.prog 30 #[.int .i64 4] w fun e w'=>e= .returned (.string (letN 4))∧w.Grows w':=by
 have kc:=three_bytes w 116 95 48
 exact fz10
theorem letName_any(k:Nat)(w:World)(hk:k<5):Calls Tryz.prog 30 #[.int .i64 k] w fun e w'=>e= .returned (.string (letN k))∧w.Grows w':=by
 exact fz39

structure RowX(T:TypeId)(c base:Nat)(X:Nat→Prop)(w:World)(v:Value)(l:List (List Value))(rs:List (Ex × Value)):Prop where
 own:w.ownsRow base T c v l.length l.flatten
 len:∀x∈l,x.length=c
 ownX:∀k,v.ownBlock=some k→X k
 rep:∀x∈rs,RepE (fun b=>(base≤b∧X b)∧v.ownBlock≠some b) w x.1 x.2
section
variable {T : TypeId} {c base : Nat} {X X' : Nat → Prop} {w w' : World} {v : Value} {l : List (List Value)} {rs : List (Ex × Value)}
theorem RowX.nil(T:TypeId)(c base:Nat)(X:Nat→Prop)(w:World):RowX T c base X w (.slice none 0 0) [] []:=⟨World.ownsRow_nil _ _ _ _,fun _ h=>by(cases h),fun _ h=>by(cases h),fun _ h=>by(cases h)⟩
theorem RowX.toG(h:RowX T c base X w v l rs):RowG T c base w v l rs:=⟨h.own,h.len,fun x hx=>(h.rep x hx).mono fun _ hb=>⟨hb.1.1,hb.2⟩⟩
theorem RowX.keep(h:RowX T c base X w v l rs)(hsz:w.heap.size≤w'.heap.size)(hw:∀k,base≤k→X k→k<w.heap.size→w'.heap[k]? =w.heap[k]?):RowX T c base X w' v l rs:=by
 refine⟨?_,h.len,h.ownX,fun x hx=>(h.rep x hx).keep hsz fun b o hb hlt=>World.cell?_of_block (hw b hb.1.1 hb.1.2 hlt)⟩
 obtain⟨h1,h2⟩:=h.own
 refine⟨h1, ?_⟩
 rcases h2 with h2|⟨g,cap,cur,rfl,hb,hg,r⟩
 ·exact .inl h2
 ·have hlt:g<w.heap.size:=(Array.getElem?_eq_some_iff.1 hg).1
  exact .inr ⟨g,cap,cur,rfl,hb,by rw [hw g hb (h.ownX g rfl) hlt];exact hg,r⟩
theorem RowX.alloc(h:RowX T c base X w v l rs)(o:Obj):RowX T c base X (w.alloc o) v l rs:=h.keep (by simp) fun k _ _ hlt=>Below.heap_alloc w o k hlt
theorem RowX.grow(h:RowX T c base X w v l rs)(bs:Array Obj)(d:Nat):RowX T c base X (w.grow bs d) v l rs:=h.keep (by simp) fun k _ _ hlt=>World.heap_grow _ _ _ hlt
theorem RowX.drew(h:RowX T c base X w v l rs):RowX T c base X w.drew v l rs:=h.keep (Nat.le_refl _) fun _ _ _ _=>rfl
theorem RowX.setCell(h:RowX T c base X w v l rs){a:Addr}(ha:a.block<base)(u:Value):RowX T c base X (w.setCell a u) v l rs:=
 h.keep (by simp) fun k hk _ _=>Below.heap_setCell _ _ _ _ (by omega)
theorem RowX.grown{row:Option Nat}(h:RowX T c base X w v l rs)(hg:w.grownBy w' row)(hr:∀b,X b→some b≠row):RowX T c base X w' v l rs:=
 h.keep hg.size fun k _ hX hlt=>hg.block k hlt (hr k hX)
theorem RowX.mono(h:RowX T c base X w v l rs)(hX:∀b,X b→b<w.heap.size→X' b):RowX T c base X' w v l rs:=
 ⟨h.own,h.len,fun k hk=>hX k (h.ownX k hk) (h.own.lt k hk).2,fun x hx=>(h.rep x hx).mono' fun b hb hlt=>⟨⟨hb.1.1,hX b hb.1.2 hlt⟩,hb.2⟩⟩
theorem RowX.form(h:RowX T c base X w v l rs):∃a cap,v= .slice a l.length cap:=h.toG.form
theorem RowX.lt(h:RowX T c base X w v l rs):∀k,v.ownBlock=some k→base≤k∧k<w.heap.size:=h.own.lt
theorem RowX.push{news:List Value}{rs2:List (Ex × Value)}{m g cap H n:Nat}{xs:List Value}(h:RowX T c base X w v l rs)(hr:∀x∈rs2,RepE (fun b=>m≤b) w x.1 x.2)(hm:base≤m)(hXm:∀b,m≤b→X b)(hv:∀k,v.ownBlock=some k→k<m)
 (hc:news.length=c) (hn:n=l.length+1) (hxs:xs=l.flatten++news) (ho:w'.ownsRow base T c (.slice (some ⟨g,0,none⟩) n cap) n xs) (hg:w.grownBy w' v.ownBlock) (hat:v.ownBlock=some g∨g=H) (hH:w.heap.size=H) (hmH:m≤H) :
 RowX T c base X w' (.slice (some ⟨g,0,none⟩) n cap) (l++[news]) (rs++rs2):=by
 subst hH hn hxs
 refine⟨by rw [List.length_append,List.flatten_append];simpa using ho,fun x hx=>?_,fun k hk=>?_,fun x hx=>?_⟩
 ·rw [List.mem_append]at hx
  rcases hx with hx|hx
  ·exact h.len x hx
  ·obtain rfl:x=news:=by simpa using hx
   exact hc
 ·obtain rfl:g=k:=by simpa [Value.ownBlock]using hk
  rcases hat with hat|hat
  ·exact h.ownX _ hat
  ·exact hXm _ (by omega)
 ·have key:∀(e':Ex) (u:Value),RepE (fun b=>(base≤b∧X b)∧v.ownBlock≠some b) w e' u→RepE (fun b=>(base≤b∧X b)∧(Value.slice (some ⟨g,0,none⟩) (l.length+1) cap).ownBlock≠some b) w' e' u:=by
   intro e' u hu
   refine(hu.mono' (S':=fun b=>((base≤b∧X b)∧v.ownBlock≠some b)∧g≠b) ?_|>.keep hg.size ?_).mono ?_
   ·rintro b ⟨h1,h2⟩ hlt
    refine⟨⟨h1,h2⟩, ?_⟩
    rcases hat with hat|hat
    ·intro e;exact h2 (by rw [hat,e])
    ·omega
   ·rintro b o ⟨⟨_,h2⟩,_⟩ hlt
    exact World.cell?_of_block (hg.block b hlt (Ne.symm h2))
   ·rintro b ⟨⟨h1,_⟩,h3⟩
    exact⟨h1,by simpa [Value.ownBlock]using h3⟩
  rw [List.mem_append]at hx
  rcases hx with hx|hx
  ·exact key _ _ (h.rep x hx)
  ·exact key _ _ ((hr x hx).mono fun b hb=>⟨⟨by omega,hXm b hb⟩,fun e=>by have:=hv b e;omega⟩)
end
def LetQ(R:RawV)(k:Nat)(q:List (ByteArray × (Ex × Value))):Prop:=q.map (fun t=>(t.1,t.2.1))=(List.range k).map fun i=>(letN i,letE R i)
theorem LetQ.nil(R:RawV):LetQ R 0 []:=rfl
theorem LetQ.length{R:RawV}{k:Nat}{q:List (ByteArray × (Ex × Value))}(h:LetQ R k q):q.length=k:=by
 have:=congrArg List.length h
 simpa using this
theorem LetQ.push{R:RawV}{k:Nat}{q:List (ByteArray × (Ex × Value))}(h:LetQ R k q)(v:Value):LetQ R (k+1) (q++[(letN k,(letE R k,v))]):=by
 unfold LetQ at *
 exact fz61
theorem ListAt.of_ints{w W:World}{u:Value}{zs:List Int}(h:IntsAt w u zs)(hb:Below w.heap.size w W):ListAt W W.heap.size u zs:=by
 obtain⟨h0,_,a,cap,hv,h1⟩:=h
 refine⟨h0,a,cap,hv,h1.imp id ?_⟩
 rintro⟨b,off,ha,hlt,hc⟩
 have:=hb.size
 exact⟨b,off,ha,by omega,by omega,fun i hi=>by rw [hb.cell (by exact hlt)];exact hc i hi⟩
theorem IntsAt.form{w:World}{u:Value}{zs:List Int}(h:IntsAt w u zs):∃a cap,u= .slice a zs.length cap:=by
 obtain⟨_,_,a,cap,hv,_⟩:=h
 exact⟨a,cap,hv⟩
structure OfAt(w:World)(cs:Array Value)(g:Nat)(os:Array Value)(wr:World):Prop where
 bel:Below w.heap.size w wr
 box:wr.heap[w.heap.size]? =some (.cells cs 25 (0,0))
 res:wr.heap[w.heap.size+1]? =some (.cells #[.int .i64 0,.int .i64 0,.int .i64 0,.slice none 0 0,.slice none 0 0,.slice none 0 0,.slice none 0 0,.slice none 0 0] 36 (0,0))
 out:wr.heap[g]? =some (.cells os 36 (0,0))
 gge:w.heap.size+2≤g
section
variable {w wr w1 : World} {cs os : Array Value} {g : Nat}
theorem OfAt.lt(h:OfAt w cs g os wr):g<wr.heap.size:=(Array.getElem?_eq_some_iff.1 h.out).1
theorem OfAt.lt0(h:OfAt w cs g os wr):w.heap.size+1<wr.heap.size:=(Array.getElem?_eq_some_iff.1 h.res).1
theorem OfAt.of_blocks(h:OfAt w cs g os wr)(hb:Below w.heap.size w w1)(h1:∀k,k=w.heap.size∨k=w.heap.size+1∨k=g→w1.heap[k]? =wr.heap[k]?):OfAt w cs g os w1:=
 ⟨hb,by rw [h1 _ (.inl rfl)];exact h.box,by rw [h1 _ (.inr (.inl rfl))];exact h.res,by rw [h1 _ (.inr (.inr rfl))];exact h.out,h.gge⟩
theorem OfAt.kept(h:OfAt w cs g os wr)(hb:Below w.heap.size w w1)(h1:∀k,k<wr.heap.size→k=w.heap.size∨k=w.heap.size+1∨k=g→w1.heap[k]? =wr.heap[k]?):OfAt w cs g os w1:=by
 have a:=h.lt
 have b:=h.lt0
 refine h.of_blocks hb fun k hk=>h1 k ?_ hk
 rcases hk with rfl|rfl|rfl<;>omega
theorem OfAt.alloc(h:OfAt w cs g os wr)(o:Obj):OfAt w cs g os (wr.alloc o):=
 h.kept (h.bel.alloc h.bel.size o) fun k hk _=>Below.heap_alloc wr o k hk
theorem OfAt.grow(h:OfAt w cs g os wr)(bs:Array Obj)(d:Nat):OfAt w cs g os (wr.grow bs d):=
 h.kept (h.bel.grow h.bel.size bs d) fun k hk _=>World.heap_grow _ _ _ hk
theorem OfAt.drewN(h:OfAt w cs g os wr)(n:Nat):OfAt w cs g os (wr.drewN n):=h.kept (h.bel.drewN n) fun _ _ _=>rfl
theorem OfAt.grown{row:Option Nat}(h:OfAt w cs g os wr)(hg:wr.grownBy w1 row)(hr:∀k,row=some k→g<k∧w.heap.size+2≤k):OfAt w cs g os w1:=
 h.kept (h.bel.grown hg h.bel.size fun k hk=>by have:=hr k hk;omega) fun k hk hk2=>hg.block k hk fun e=>by
  have:=hr k e.symm
  have:=h.gge
  rcases hk2 with rfl|rfl|rfl<;>omega
theorem OfAt.store(h:OfAt w cs g os wr)(i:Nat)(v:Value):OfAt w cs g (os.setIfInBounds i v) (wr.setCell ⟨g,i,none⟩ v):=
 ⟨h.bel.setCell (by have:=h.gge;show w.heap.size≤g;omega) v,by rw [Below.heap_setCell _ _ _ _ (by have:=h.gge;show w.heap.size≠g;omega)];exact h.box,by rw [Below.heap_setCell _ _ _ _ (by have:=h.gge;show w.heap.size+1≠g;omega)];exact h.res,Joins.block_setCell h.out v,h.gge⟩
end
section
variable {g : Nat} {a b c : World}
theorem RowG.next{T:TypeId}{n base:Nat}{v:Value}{l:List (List Value)}{rs:List (Ex × Value)}(h:RowG T n base a v l rs)(hn:Next g a b)(hb:g<base):RowG T n base b v l rs:=
 h.keep hn.size fun k hk hlt=>hn.blk k hlt (by omega)
end
theorem OfAt.drew{w wr:World}{cs os:Array Value}{g:Nat}(h:OfAt w cs g os wr):OfAt w cs g os wr.drew:=h.kept h.bel.drew fun _ _ _=>rfl
theorem RowG.drew{T:TypeId}{c base:Nat}{w:World}{v:Value}{l:List (List Value)}{rs:List (Ex × Value)}(h:RowG T c base w v l rs):RowG T c base w.drew v l rs:=h.keep (Nat.le_refl _) fun _ _ _=>rfl
theorem RowX.next{g T n base:Nat}{X:Nat→Prop}{a b:World}{v:Value}{l:List (List Value)}{rs:List (Ex × Value)}(h:RowX T n base X a v l rs)(hn:Next g a b)(hb:g<base):RowX T n base X b v l rs:=
 h.keep hn.size fun k hk _ hlt=>hn.blk k hlt (by omega)

abbrev GrT:=Int × (Ex × Value) × (Ex × Value)
def GrQ(R:RawV)(k:Nat)(q:List GrT):Prop:=q.map (fun t=>(t.1,t.2.1.1,t.2.2.1))=(List.range k).map fun(i:Nat)=>((i:Int)+1,ifE R i,payE R i)
theorem GrQ.length{R:RawV}{k:Nat}{q:List GrT}(h:GrQ R k q):q.length=k:=by
 have:=congrArg List.length h
 simpa using this
theorem GrQ.push{R:RawV}{k:Nat}{q:List GrT}(h:GrQ R k q)(v u:Value):GrQ R (k+1) (q++[((k:Int)+1,(ifE R k,v),(payE R k,u))]):=by
 unfold GrQ at *
 exact fz61
theorem ListAt.nil(w:World)(s:Nat):ListAt w s (.slice none 0 0) []:=⟨by simp,none,0,rfl,.inl rfl⟩
def ReQ(R:RawV)(k:Nat)(q:List (Int × (Ex × Value))):Prop:=q.map (fun t=>(t.1,t.2.1))=(List.range k).map fun(i:Nat)=>((i:Int)+1,cutE R i)
theorem ReQ.length{R:RawV}{k:Nat}{q:List (Int × (Ex × Value))}(h:ReQ R k q):q.length=k:=by
 have:=congrArg List.length h
 simpa using this
theorem ReQ.push{R:RawV}{k:Nat}{q:List (Int × (Ex × Value))}(h:ReQ R k q)(v:Value):ReQ R (k+1) (q++[((k:Int)+1,(cutE R k,v))]):=by
 unfold ReQ at *
 exact fz61

theorem flatten_set(l:List (List Value))(c i j:Nat)(u:Value)(h:∀x∈l,x.length=c)(hj:j<c)(hi:i<l.length):l.flatten.set (i*c+j) u=(l.set i ((l.getD i []).set j u)).flatten:=by
 induction l generalizing i with
 |nil=>simp at hi
 |cons x r ih=>
  have hx:=h x (List.mem_cons_self)
  cases i with
  |zero=>
   simp only [List.flatten_cons,List.set_cons_zero,List.getD_cons_zero,Nat.zero_mul,Nat.zero_add]
   rw [List.set_append_left _ _ (by omega)]
  |succ i=>
   simp only [List.flatten_cons,List.set_cons_succ,List.getD_cons_succ]
   rw [List.set_append_right _ _ (by rw [hx,Nat.add_mul];omega),←ih i (fun y hy=>h y (List.mem_cons_of_mem _ hy)) (by simpa using hi)]
   congr 2;rw [hx,Nat.add_mul];omega
section
variable {T : TypeId} {c base g n cap : Nat} {X : Nat → Prop} {w : World} {l : List (List Value)} {rs rs' : List (Ex × Value)}
theorem RowX.stored(h:RowX T c base X w (.slice (some ⟨g,0,none⟩) n cap) l rs)(hn:n=l.length)(i j k:Nat)(hk:k=i*c+j)(hj:j<c)(hi:i<l.length)(u:Value)(hr:∀x∈rs',x∈rs∨RepE (fun b=>(base≤b∧X b)∧g≠b) w x.1 x.2) :
 RowX T c base X (w.setCell ⟨g,k,none⟩ u) (.slice (some ⟨g,0,none⟩) n cap) (l.set i ((l.getD i []).set j u)) rs':=by
 subst hn hk
 refine⟨?_,fun x hx=>?_,h.ownX,fun x hx=>?_⟩
 ·have:=(h.own.stored (i*c+j) u).1
  rw [flatten_set l c i j u h.len hj hi]at this
  rw [List.length_set];exact this
 ·rcases List.mem_or_eq_of_mem_set hx with hx|rfl
  ·exact h.len x hx
  ·rw [List.length_set,List.getD_eq_getElem?_getD,List.getElem?_eq_getElem hi];exact h.len _ (List.getElem_mem hi)
 ·have hrep:RepE (fun b=>(base≤b∧X b)∧g≠b) w x.1 x.2:=by
   rcases hr x hx with h2|h2
   ·exact(h.rep x h2).mono fun b hb=>⟨hb.1,fun e=>hb.2 (by rw [e];rfl)⟩
   ·exact h2
  refine(hrep.keep (by simp) fun b o hb hlt=>World.cell?_of_block (Below.heap_setCell _ _ _ _ (Ne.symm hb.2))).mono fun b hb=>⟨hb.1,fun e=>hb.2 (by simpa [Value.ownBlock]using e)⟩
theorem RowX.apart(h:RowX T c base X w (.slice (some ⟨g,0,none⟩) n cap) l rs):base≤g∧X g∧g<w.heap.size:=⟨(h.own.lt g rfl).1,h.ownX g rfl,(h.own.lt g rfl).2⟩
theorem RowX.kept{b o:Nat}{v:Value}(h:RowX T c base X w v l rs)(hb:¬(base≤b∧X b))(u:Value):RowX T c base X (w.setCell ⟨b,o,none⟩ u) v l rs:=
 h.keep (by simp) fun k hk hX _=>Below.heap_setCell _ _ _ _ (fun e=>hb ⟨(show k=b from e) ▸ hk,(show k=b from e) ▸ hX⟩)
theorem RowG.kept{b o:Nat}{v:Value}(h:RowG T c base w v l rs)(hb:b<base)(u:Value):RowG T c base (w.setCell ⟨b,o,none⟩ u) v l rs:=h.setCell hb u
theorem RowX.block{v:Value}(h:RowX T c base X w v l rs)(h0:0<l.length):∃g cap,v= .slice (some ⟨g,0,none⟩) l.length cap:=by
 rcases h.own.2 with ⟨_,h1⟩|⟨g,cap,cur,rfl,_⟩
 ·omega
 ·exact⟨g,cap,rfl⟩
theorem RowX.cellAt(h:RowX T c base X w (.slice (some ⟨g,0,none⟩) n cap) l rs)(hn:n=l.length)(i j:Nat)(hj:j<c)(hi:i<l.length):w.cell? ⟨g,i*c+j,none⟩=(l.getD i [])[j]?:=by
 subst hn
 rw [h.own.cellAt (i*c+j) (by have:=Nat.mul_le_mul_right c (show i+1≤l.length from hi);rw [Nat.add_mul]at this;omega),flatten_get l c h.len i j hj hi]
end
end Go.Proofs.YtaghhncnicbedaaGreatDoor
