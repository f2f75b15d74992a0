import Derived.Test.YtlheailebbngiaaGreatDoorLShelf4
import Derived.Test.YtlheailebbngiaaGreatDoorLTyS
import Derived.Test.YtlheailebbngiaaGreatDoorLK
import Derived.Sort.OwnSortedInts
import Derived.RangeFuncNested
import Derived.RangeFuncBound
import Derived.RangeFuncCalls
import Derived.RangeFuncLeaves
import Derived.RangeFuncBox
import Derived.Shelf.Abstract
import Derived.Shelf.RegionOpen
import Derived.WalkKit
import Derived.OwnWalkIn
import Derived.TacticsInMore
import Derived.LoopNIn
import Derived.LoopIn
import Derived.Maps.AppendAt
set_option linter.all false
set_option maxHeartbeats 16000000
set_option maxRecDepth 1000000
namespace Go.Proofs.YtlheailebbngiaaGreatDoor
open Go.RowKit

theorem node_any2(s:Nat)(lv ev:Value)(zs:List Int)(env:List (ByteArray × Int))(n:Nat)(IH:Hid (ExprOK s lv ev zs env n))(op deep:Int)(ds:List Int)(db:Nat)(p:Nat)(P left:Int)(l:List Ex)(p':Nat)(l':Int)(X:World)(hr:Hid (nodeF (exprF zs env n) ds p left=(l,p',l')))(hP:P=p)(hn:n≤5)(hdeep:deep+1=6-n)(hop:0≤op∧op≤100)
 (hs:s<X.heap.size) (hX:X.src s lv P left=X) (hl:Hid (ListAt X s lv zs)) (he:Hid (EnvAt X s ev env)) (hp:p+3*costN n≤900000) (hleft:-900000≤left-3*costN n) (hleft2:left≤900000)
 (hdl:ds.length≤3) (hdb:db<X.heap.size) (hdbs:db≠s) (hdr:∀d∈ds,1≤d∧d≤4) (hdc:∀i,i<ds.length→X.cell? ⟨db,i,none⟩=some (.int .i64 (ds.getD i 0))) :
 Calls Tryz.prog 105 #[.pointer (some ⟨s,0,none⟩),.int .i64 op,.int .i64 deep,ev,.slice (some ⟨db,0,none⟩) ds.length ds.length] X
  (ExPost s lv X (.mk op 0 0 0 ByteArray.empty l,p',l')):=by
 have:=node_any s lv ev zs env n IH op deep ds db p P left X hP hn hdeep hop hs hX hl he hp hleft hleft2 hdl hdb hdbs (Lib.hid fun i hi=>by
  have hm:ds.getD i 0∈ds:=by rw [List.getD_eq_getElem?_getD,List.getElem?_eq_getElem hi];exact List.getElem_mem hi
  exact hdr _ hm) (Lib.hid hdc)
 rw [hr.out]at this
 exact this
theorem cell_dims(w:World)(ds:List Int)(t:TypeId)(H:Nat)(hH:w.heap.size=H):∀i,i<ds.length→(w.alloc (.cells (ds.map (Value.int .i64)).toArray t)).cell? ⟨H,i,none⟩=some (.int .i64 (ds.getD i 0)):=by
 subst hH
 intro i hi
 rw [World.cell?_alloc_at _ _ _ _ rfl,List.getD_eq_getElem?_getD,List.getElem?_eq_getElem hi]
 simp [hi]
theorem dims1{a:Int}(ha:1≤a∧a≤4):∀d∈[a],1≤d∧d≤4:=by intro d hd;simp at hd;subst hd;exact ha
theorem dims2{a b:Int}(ha:1≤a∧a≤4)(hb:1≤b∧b≤4):∀d∈[a,b],1≤d∧d≤4:=by intro d hd;simp at hd;rcases hd with rfl|rfl<;>assumption
theorem dims3{a b c:Int}(ha:1≤a∧a≤4)(hb:1≤b∧b≤4)(hc:1≤c∧c≤4):∀d∈[a,b,c],1≤d∧d≤4:=by intro d hd;simp at hd;rcases hd with rfl|rfl|rfl<;>assumption
theorem alloc_drewN'(w:World)(n:Nat)(o:Obj):(w.drewN n).alloc o=(w.alloc o).drewN n:=rfl
theorem RepE.form{S:Nat→Prop}{w:World}{e:Ex}{v:Value}(h:RepE S w e v):∃a cap,v= .slice a e.args.length cap:=by cases h;exact⟨_,_,rfl⟩
theorem expr_zero(s:Nat)(lv ev:Value)(zs:List Int)(env:List (ByteArray × Int)):ExprOK s lv ev zs env 0:=by
 unfold ExprOK
 intro dim p P left deep r X hr hP hdeep hd1 hd4 hs hX hl he hp hleft hleft2
 subst hP
 suffices h:Calls Tryz.prog 64 #[.pointer (some ⟨s,0,none⟩),.int .i64 dim,.int .i64 deep,ev] (X.src s lv p left) (ExPost s lv X r)by rw [hX]at h;exact h
 clear hX
 obtain⟨E,p',l'⟩:=r
 have HL:Hid (leafF zs env dim p left=(E,p',l')):=Lib.hid hr.out
 have hc:costN 0=8:=rfl
 rw [hc]at hp hleft
 have h6:6≤deep:=by omega
 clear hdeep
 go_enter Tryz.func64,Tryz.ntmps64
 go_wp2_with fail
 refine(leaf_any s lv zs p _ left _ _ env _ rfl (by omega) (by omega) (by simp;omega) (by simp [go_sem,hs]) (Lib.hid (by(repeat' (first|(with_reducible exact hl.out)|(with_reducible refine ListAt.alloc ?_ _)|(with_reducible refine ListAt.grow ?_ _ _)|(with_reducible refine ListAt.drewN ?_ _)|(with_reducible refine ListAt.src ?_ _ _ _))))) (Lib.hid (by(repeat' (first|(with_reducible exact he.out)|(with_reducible refine EnvAt.alloc ?_ _)|(with_reducible refine EnvAt.grow ?_ _ _)|(with_reducible refine EnvAt.drewN ?_ _)|(with_reducible refine EnvAt.src ?_ _ _ _))))) (by omega) (by omega) (by omega)).mono ?_
 rintro e w' ⟨v,bs,d,rfl,rfl,hrep⟩
 rw [HL.out]at hrep
 simp only [HL.out]
 have H1:=Lib.hid hrep
 obtain⟨va,vc,hv⟩:=hrep.form
 subst hv
 clear hrep
 go_wp2_with fail
 go_returns
 refine ExPost.of_eq (P':=(p':Int)) rfl rfl rfl (.of_below belB) (((H1.out.eqw (w':=((X.src s lv (p':Int) l').alloc (.cells #[.int .i64 0,.int .i64 0,.int .i64 0,.int .i64 0,.string ⟨#[]⟩,.slice none 0 0] 51)).grow bs d) (by simp [go_sem,hs,alloc_drewN'])).lift0 ?_ ?_ d).mono ?_)
 all_goals first
  |(intro b hb;simp at hb;omega)
  |(simp;done)
  |(simp;omega)
theorem expr_low(s:Nat)(lv ev:Value)(zs:List Int)(env:List (ByteArray × Int))(n:Nat)(dim:Int)(p:Nat)(left deep:Int)(E:Ex)(p':Nat)(l':Int)(X:World)(hr:Hid (leafF zs env dim p left=(E,p',l')))(hleft0:left≤0)(hdeep:deep=5-n)(hn:n≤4)(hd1:1≤dim)(hd4:dim≤4)(hs:s<X.heap.size)
 (hl:Hid (ListAt X s lv zs)) (he:Hid (EnvAt X s ev env)) (hp:p≤900000) (hleft:-900000≤left) (hleft2:left≤900000):Calls Tryz.prog 64 #[.pointer (some ⟨s,0,none⟩),.int .i64 dim,.int .i64 deep,ev] (X.src s lv p left) (ExPost s lv X (E,p',l')):=by
 have h6:deep<6:=by omega
 have HL:=hr
 go_enter Tryz.func64,Tryz.ntmps64
 go_wp2_with fail
 refine(leaf_any s lv zs p _ left _ _ env _ rfl (by omega) (by omega) (by simp;omega) (by simp [go_sem,hs]) (Lib.hid (by(repeat' (first|(with_reducible exact hl.out)|(with_reducible refine ListAt.alloc ?_ _)|(with_reducible refine ListAt.grow ?_ _ _)|(with_reducible refine ListAt.drewN ?_ _)|(with_reducible refine ListAt.src ?_ _ _ _))))) (Lib.hid (by(repeat' (first|(with_reducible exact he.out)|(with_reducible refine EnvAt.alloc ?_ _)|(with_reducible refine EnvAt.grow ?_ _ _)|(with_reducible refine EnvAt.drewN ?_ _)|(with_reducible refine EnvAt.src ?_ _ _ _))))) (by omega) (by omega) (by omega)).mono ?_
 rintro e w' ⟨v,bs,d,rfl,rfl,hrep⟩
 rw [HL.out]at hrep
 simp only [HL.out]
 have H1:=Lib.hid hrep
 obtain⟨va,vc,hv⟩:=hrep.form
 subst hv
 clear hrep
 go_wp2_with fail
 go_returns
 refine ExPost.of_eq (P':=(p':Int)) rfl rfl rfl (.of_below belB) (((H1.out.eqw (w':=((X.src s lv (p':Int) l').alloc (.cells #[.int .i64 0,.int .i64 0,.int .i64 0,.int .i64 0,.string ⟨#[]⟩,.slice none 0 0] 51)).grow bs d) (by simp [go_sem,hs,alloc_drewN'])).lift0 ?_ ?_ d).mono ?_)
 all_goals first
  |(intro b hb;simp at hb;omega)
  |(simp;done)
  |(simp;omega)
theorem expr_b0
 (s:Nat) (lv ev:Value) (zs:List Int) (env:List (ByteArray × Int)) (n:Nat) (IH:Hid (ExprOK s lv ev zs env n)) (dim:Int) (p:Nat) (left deep:Int) (E:Ex) (p':Nat) (l':Int) (kk:Int) (X:World) (hr:Hid (exprF zs env (n+1) dim p left=(E,p',l'))) (HK:Hid (nextV zs p 14=kk)) (hleft0:0<left) (hdeep:Hid (deep=5-n)) (hn:n≤4) (hd4:dim≤4) (hs:s<X.heap.size) (hl:Hid (ListAt X s lv zs)) (he:Hid (EnvAt X s ev env)) (hp:p+(3*costN n+3)≤900000) (hleft:-900000≤left-(3*(costN n:Int)+3)) (hleft2:left≤900000)
 (hd1:dim=1) (hkk:kk=0):(Calls Tryz.prog 64 #[.pointer (some ⟨s,0,none⟩),.int .i64 dim,.int .i64 deep,ev] (X.src s lv p left) (ExPost s lv X (E,p',l'))):=by
 subst hd1
 subst hkk
 have hpr:prodF zs p 1=some (17,[1,1],p+1):=by simp [prodF,HK.out]
 have hF:=exprF_some zs env n _ p left hleft0 hpr
 rw [hr.out]at hF
 generalize hll:nodeF (exprF zs env n) [1,1] (p+1) (left-2)=rr at hF
 obtain⟨ll,pp,le⟩:=rr
 simp only [Prod.mk.injEq]at hF
 obtain⟨rfl,rfl,rfl⟩:=hF
 have HLL:=Lib.hid hll
 clear hll hpr
 have h6:deep<6:=by have:=hdeep.out;omega
 have hc8:=costN_8 n
 go_enter Tryz.func64,Tryz.ntmps64
 go_wp2_with fail
 refine(next_any s lv zs p p (left-2) _ _ rfl (by simp;omega) (by simp [go_sem,hs]) (by(repeat' (first|(with_reducible exact hl.out)|(with_reducible refine ListAt.alloc ?_ _)|(with_reducible refine ListAt.grow ?_ _ _)|(with_reducible refine ListAt.drewN ?_ _)|(with_reducible refine ListAt.src ?_ _ _ _)))) (by omega) (by omega)).mono ?_
 rintro e w' ⟨rfl,n1,rfl⟩
 rw [HK.out]
 go_wp2_with fail
 refine(node_any2 s lv ev zs env n IH _ _ [1,1] _ (p+1) ((p:Int)+1) _ ll p' l' _ HLL (by omega) (by omega) (by have:=hdeep.out;omega) (by omega) (by simp;omega) (by simp [go_sem,hs]) (Lib.hid (by(repeat' (first|(with_reducible exact hl.out)|(with_reducible refine ListAt.alloc ?_ _)|(with_reducible refine ListAt.grow ?_ _ _)|(with_reducible refine ListAt.drewN ?_ _)|(with_reducible refine ListAt.src ?_ _ _ _))))) (Lib.hid (by(repeat' (first|(with_reducible exact he.out)|(with_reducible refine EnvAt.alloc ?_ _)|(with_reducible refine EnvAt.grow ?_ _ _)|(with_reducible refine EnvAt.drewN ?_ _)|(with_reducible refine EnvAt.src ?_ _ _ _))))) (by omega) (by omega) (by omega) (by simp) (by simp) (by omega) (dims2 (by omega) (by omega)) (cell_dims _ [1,1] _ _ (by simp))).mono ?_
 rintro e w' ⟨v,bs,d,rfl,rfl,hrep⟩
 have H1:=Lib.hid hrep
 obtain⟨va,vc,hv⟩:=hrep.form
 subst hv
 clear hrep
 go_wp2_with fail
 go_returns
 refine ExPost.of_eq (P':=(p':Int)) rfl rfl rfl (.of_below belB) (((H1.out.eqw (w':=(((X.src s lv (p':Int) l').alloc (.cells #[.int .i64 0,.int .i64 0,.int .i64 0,.int .i64 0,.string ⟨#[]⟩,.slice none 0 0] 51)).alloc (.cells #[.int .i64 1,.int .i64 1] 3)).grow bs d) (by simp [go_sem,hs,alloc_drewN'])).lift0 ?_ ?_ d).mono ?_)
 all_goals first
  |(intro b hb;simp at hb;omega)
  |(simp;done)
  |(simp;omega)
theorem expr_b1
 (s:Nat) (lv ev:Value) (zs:List Int) (env:List (ByteArray × Int)) (n:Nat) (IH:Hid (ExprOK s lv ev zs env n)) (dim:Int) (p:Nat) (left deep:Int) (E:Ex) (p':Nat) (l':Int) (kk:Int) (X:World) (hr:Hid (exprF zs env (n+1) dim p left=(E,p',l'))) (HK:Hid (nextV zs p 14=kk)) (hleft0:0<left) (hdeep:Hid (deep=5-n)) (hn:n≤4) (hd4:dim≤4) (hs:s<X.heap.size) (hl:Hid (ListAt X s lv zs)) (he:Hid (EnvAt X s ev env)) (hp:p+(3*costN n+3)≤900000) (hleft:-900000≤left-(3*(costN n:Int)+3)) (hleft2:left≤900000)
 (hd1:dim=1) (hkk:kk=1):(Calls Tryz.prog 64 #[.pointer (some ⟨s,0,none⟩),.int .i64 dim,.int .i64 deep,ev] (X.src s lv p left) (ExPost s lv X (E,p',l'))):=by
 subst hd1
 subst hkk
 have hpr:prodF zs p 1=some (18,[1,1],p+1):=by simp [prodF,HK.out]
 have hF:=exprF_some zs env n _ p left hleft0 hpr
 rw [hr.out]at hF
 generalize hll:nodeF (exprF zs env n) [1,1] (p+1) (left-2)=rr at hF
 obtain⟨ll,pp,le⟩:=rr
 simp only [Prod.mk.injEq]at hF
 obtain⟨rfl,rfl,rfl⟩:=hF
 have HLL:=Lib.hid hll
 clear hll hpr
 have h6:deep<6:=by have:=hdeep.out;omega
 have hc8:=costN_8 n
 go_enter Tryz.func64,Tryz.ntmps64
 go_wp2_with fail
 refine(next_any s lv zs p p (left-2) _ _ rfl (by simp;omega) (by simp [go_sem,hs]) (by(repeat' (first|(with_reducible exact hl.out)|(with_reducible refine ListAt.alloc ?_ _)|(with_reducible refine ListAt.grow ?_ _ _)|(with_reducible refine ListAt.drewN ?_ _)|(with_reducible refine ListAt.src ?_ _ _ _)))) (by omega) (by omega)).mono ?_
 rintro e w' ⟨rfl,n1,rfl⟩
 rw [HK.out]
 go_wp2_with fail
 refine(node_any2 s lv ev zs env n IH _ _ [1,1] _ (p+1) ((p:Int)+1) _ ll p' l' _ HLL (by omega) (by omega) (by have:=hdeep.out;omega) (by omega) (by simp;omega) (by simp [go_sem,hs]) (Lib.hid (by(repeat' (first|(with_reducible exact hl.out)|(with_reducible refine ListAt.alloc ?_ _)|(with_reducible refine ListAt.grow ?_ _ _)|(with_reducible refine ListAt.drewN ?_ _)|(with_reducible refine ListAt.src ?_ _ _ _))))) (Lib.hid (by(repeat' (first|(with_reducible exact he.out)|(with_reducible refine EnvAt.alloc ?_ _)|(with_reducible refine EnvAt.grow ?_ _ _)|(with_reducible refine EnvAt.drewN ?_ _)|(with_reducible refine EnvAt.src ?_ _ _ _))))) (by omega) (by omega) (by omega) (by simp) (by simp) (by omega) (dims2 (by omega) (by omega)) (cell_dims _ [1,1] _ _ (by simp))).mono ?_
 rintro e w' ⟨v,bs,d,rfl,rfl,hrep⟩
 have H1:=Lib.hid hrep
 obtain⟨va,vc,hv⟩:=hrep.form
 subst hv
 clear hrep
 go_wp2_with fail
 go_returns
 refine ExPost.of_eq (P':=(p':Int)) rfl rfl rfl (.of_below belB) (((H1.out.eqw (w':=(((X.src s lv (p':Int) l').alloc (.cells #[.int .i64 0,.int .i64 0,.int .i64 0,.int .i64 0,.string ⟨#[]⟩,.slice none 0 0] 51)).alloc (.cells #[.int .i64 1,.int .i64 1] 3)).grow bs d) (by simp [go_sem,hs,alloc_drewN'])).lift0 ?_ ?_ d).mono ?_)
 all_goals first
  |(intro b hb;simp at hb;omega)
  |(simp;done)
  |(simp;omega)
theorem expr_b2
 (s:Nat) (lv ev:Value) (zs:List Int) (env:List (ByteArray × Int)) (n:Nat) (IH:Hid (ExprOK s lv ev zs env n)) (dim:Int) (p:Nat) (left deep:Int) (E:Ex) (p':Nat) (l':Int) (kk:Int) (X:World) (hr:Hid (exprF zs env (n+1) dim p left=(E,p',l'))) (HK:Hid (nextV zs p 14=kk)) (hleft0:0<left) (hdeep:Hid (deep=5-n)) (hn:n≤4) (hd4:dim≤4) (hs:s<X.heap.size) (hl:Hid (ListAt X s lv zs)) (he:Hid (EnvAt X s ev env)) (hp:p+(3*costN n+3)≤900000) (hleft:-900000≤left-(3*(costN n:Int)+3)) (hleft2:left≤900000)
 (hd1:dim=1) (hkk:kk=2):(Calls Tryz.prog 64 #[.pointer (some ⟨s,0,none⟩),.int .i64 dim,.int .i64 deep,ev] (X.src s lv p left) (ExPost s lv X (E,p',l'))):=by
 subst hd1
 subst hkk
 have hpr:prodF zs p 1=some (5,[1],p+1):=by simp [prodF,HK.out]
 have hF:=exprF_some zs env n _ p left hleft0 hpr
 rw [hr.out]at hF
 generalize hll:nodeF (exprF zs env n) [1] (p+1) (left-2)=rr at hF
 obtain⟨ll,pp,le⟩:=rr
 simp only [Prod.mk.injEq]at hF
 obtain⟨rfl,rfl,rfl⟩:=hF
 have HLL:=Lib.hid hll
 clear hll hpr
 have h6:deep<6:=by have:=hdeep.out;omega
 have hc8:=costN_8 n
 go_enter Tryz.func64,Tryz.ntmps64
 go_wp2_with fail
 refine(next_any s lv zs p p (left-2) _ _ rfl (by simp;omega) (by simp [go_sem,hs]) (by(repeat' (first|(with_reducible exact hl.out)|(with_reducible refine ListAt.alloc ?_ _)|(with_reducible refine ListAt.grow ?_ _ _)|(with_reducible refine ListAt.drewN ?_ _)|(with_reducible refine ListAt.src ?_ _ _ _)))) (by omega) (by omega)).mono ?_
 rintro e w' ⟨rfl,n1,rfl⟩
 rw [HK.out]
 go_wp2_with fail
 refine(node_any2 s lv ev zs env n IH _ _ [1] _ (p+1) ((p:Int)+1) _ ll p' l' _ HLL (by omega) (by omega) (by have:=hdeep.out;omega) (by omega) (by simp;omega) (by simp [go_sem,hs]) (Lib.hid (by(repeat' (first|(with_reducible exact hl.out)|(with_reducible refine ListAt.alloc ?_ _)|(with_reducible refine ListAt.grow ?_ _ _)|(with_reducible refine ListAt.drewN ?_ _)|(with_reducible refine ListAt.src ?_ _ _ _))))) (Lib.hid (by(repeat' (first|(with_reducible exact he.out)|(with_reducible refine EnvAt.alloc ?_ _)|(with_reducible refine EnvAt.grow ?_ _ _)|(with_reducible refine EnvAt.drewN ?_ _)|(with_reducible refine EnvAt.src ?_ _ _ _))))) (by omega) (by omega) (by omega) (by simp) (by simp) (by omega) (dims1 (by omega)) (cell_dims _ [1] _ _ (by simp))).mono ?_
 rintro e w' ⟨v,bs,d,rfl,rfl,hrep⟩
 have H1:=Lib.hid hrep
 obtain⟨va,vc,hv⟩:=hrep.form
 subst hv
 clear hrep
 go_wp2_with fail
 go_returns
 refine ExPost.of_eq (P':=(p':Int)) rfl rfl rfl (.of_below belB) (((H1.out.eqw (w':=(((X.src s lv (p':Int) l').alloc (.cells #[.int .i64 0,.int .i64 0,.int .i64 0,.int .i64 0,.string ⟨#[]⟩,.slice none 0 0] 51)).alloc (.cells #[.int .i64 1] 3)).grow bs d) (by simp [go_sem,hs,alloc_drewN'])).lift0 ?_ ?_ d).mono ?_)
 all_goals first
  |(intro b hb;simp at hb;omega)
  |(simp;done)
  |(simp;omega)
theorem expr_b3
 (s:Nat) (lv ev:Value) (zs:List Int) (env:List (ByteArray × Int)) (n:Nat) (IH:Hid (ExprOK s lv ev zs env n)) (dim:Int) (p:Nat) (left deep:Int) (E:Ex) (p':Nat) (l':Int) (kk:Int) (X:World) (hr:Hid (exprF zs env (n+1) dim p left=(E,p',l'))) (HK:Hid (nextV zs p 14=kk)) (hleft0:0<left) (hdeep:Hid (deep=5-n)) (hn:n≤4) (hd4:dim≤4) (hs:s<X.heap.size) (hl:Hid (ListAt X s lv zs)) (he:Hid (EnvAt X s ev env)) (hp:p+(3*costN n+3)≤900000) (hleft:-900000≤left-(3*(costN n:Int)+3)) (hleft2:left≤900000)
 (hd1:dim=1) (hkk:kk=3):(Calls Tryz.prog 64 #[.pointer (some ⟨s,0,none⟩),.int .i64 dim,.int .i64 deep,ev] (X.src s lv p left) (ExPost s lv X (E,p',l'))):=by
 subst hd1
 subst hkk
 have hpr:prodF zs p 1=some (21,[1,1,1],p+1):=by simp [prodF,HK.out]
 have hF:=exprF_some zs env n _ p left hleft0 hpr
 rw [hr.out]at hF
 generalize hll:nodeF (exprF zs env n) [1,1,1] (p+1) (left-2)=rr at hF
 obtain⟨ll,pp,le⟩:=rr
 simp only [Prod.mk.injEq]at hF
 obtain⟨rfl,rfl,rfl⟩:=hF
 have HLL:=Lib.hid hll
 clear hll hpr
 have h6:deep<6:=by have:=hdeep.out;omega
 have hc8:=costN_8 n
 go_enter Tryz.func64,Tryz.ntmps64
 go_wp2_with fail
 refine(next_any s lv zs p p (left-2) _ _ rfl (by simp;omega) (by simp [go_sem,hs]) (by(repeat' (first|(with_reducible exact hl.out)|(with_reducible refine ListAt.alloc ?_ _)|(with_reducible refine ListAt.grow ?_ _ _)|(with_reducible refine ListAt.drewN ?_ _)|(with_reducible refine ListAt.src ?_ _ _ _)))) (by omega) (by omega)).mono ?_
 rintro e w' ⟨rfl,n1,rfl⟩
 rw [HK.out]
 go_wp2_with fail
 refine(node_any2 s lv ev zs env n IH _ _ [1,1,1] _ (p+1) ((p:Int)+1) _ ll p' l' _ HLL (by omega) (by omega) (by have:=hdeep.out;omega) (by omega) (by simp;omega) (by simp [go_sem,hs]) (Lib.hid (by(repeat' (first|(with_reducible exact hl.out)|(with_reducible refine ListAt.alloc ?_ _)|(with_reducible refine ListAt.grow ?_ _ _)|(with_reducible refine ListAt.drewN ?_ _)|(with_reducible refine ListAt.src ?_ _ _ _))))) (Lib.hid (by(repeat' (first|(with_reducible exact he.out)|(with_reducible refine EnvAt.alloc ?_ _)|(with_reducible refine EnvAt.grow ?_ _ _)|(with_reducible refine EnvAt.drewN ?_ _)|(with_reducible refine EnvAt.src ?_ _ _ _))))) (by omega) (by omega) (by omega) (by simp) (by simp) (by omega) (dims3 (by omega) (by omega) (by omega)) (cell_dims _ [1,1,1] _ _ (by simp))).mono ?_
 rintro e w' ⟨v,bs,d,rfl,rfl,hrep⟩
 have H1:=Lib.hid hrep
 obtain⟨va,vc,hv⟩:=hrep.form
 subst hv
 clear hrep
 go_wp2_with fail
 go_returns
 refine ExPost.of_eq (P':=(p':Int)) rfl rfl rfl (.of_below belB) (((H1.out.eqw (w':=(((X.src s lv (p':Int) l').alloc (.cells #[.int .i64 0,.int .i64 0,.int .i64 0,.int .i64 0,.string ⟨#[]⟩,.slice none 0 0] 51)).alloc (.cells #[.int .i64 1,.int .i64 1,.int .i64 1] 3)).grow bs d) (by simp [go_sem,hs,alloc_drewN'])).lift0 ?_ ?_ d).mono ?_)
 all_goals first
  |(intro b hb;simp at hb;omega)
  |(simp;done)
  |(simp;omega)
theorem expr_bcmp
 (s:Nat) (lv ev:Value) (zs:List Int) (env:List (ByteArray × Int)) (n:Nat) (IH:Hid (ExprOK s lv ev zs env n)) (dim:Int) (p:Nat) (left deep:Int) (E:Ex) (p':Nat) (l':Int) (kk:Int) (X:World) (hr:Hid (exprF zs env (n+1) dim p left=(E,p',l'))) (HK:Hid (nextV zs p 14=kk)) (hleft0:0<left) (hdeep:Hid (deep=5-n)) (hn:n≤4) (hd4:dim≤4) (hs:s<X.heap.size) (hl:Hid (ListAt X s lv zs)) (he:Hid (EnvAt X s ev env)) (hp:p+(3*costN n+3)≤900000) (hleft:-900000≤left-(3*(costN n:Int)+3)) (hleft2:left≤900000)
 (hd1:dim=1) (hkk:kk=4∨kk=5∨kk=6∨kk=7∨kk=8):(Calls Tryz.prog 64 #[.pointer (some ⟨s,0,none⟩),.int .i64 dim,.int .i64 deep,ev] (X.src s lv p left) (ExPost s lv X (E,p',l'))):=by
 subst hd1
 have hb1:=nextV_bd zs (p+1) 3 (by omega)
 have hb2:=nextV_bd zs (p+2) 6 (by omega)
 have hpr0:prodF zs p 1=some (11+nextV zs (p+2) 6,[2+nextV zs (p+1) 3,2+nextV zs (p+1) 3],p+3):=by
  rcases hkk with rfl|rfl|rfl|rfl|rfl<;>simp [prodF,HK.out]
 generalize hA:nextV zs (p+1) 3=a at hb1 hpr0
 generalize hC:nextV zs (p+2) 6=c at hb2 hpr0
 have HA:=Lib.hid hA
 have HC:=Lib.hid hC
 clear hA hC
 have hpr:=hpr0
 clear hpr0
 have hF:=exprF_some zs env n _ p left hleft0 hpr
 rw [hr.out]at hF
 generalize hll:nodeF (exprF zs env n) [2+a,2+a] (p+3) (left-2)=rr at hF
 obtain⟨ll,pp,le⟩:=rr
 simp only [Prod.mk.injEq]at hF
 obtain⟨rfl,rfl,rfl⟩:=hF
 have HLL:=Lib.hid hll
 clear hll hpr
 rcases hkk with rfl|rfl|rfl|rfl|rfl
 all_goals
  have h6:deep<6:=by have:=hdeep.out;omega
  have hc8:=costN_8 n
  go_enter Tryz.func64,Tryz.ntmps64
  go_wp2_with fail
  refine(next_any s lv zs p p (left-2) _ _ rfl (by simp;omega) (by simp [go_sem,hs]) (by(repeat' (first|(with_reducible exact hl.out)|(with_reducible refine ListAt.alloc ?_ _)|(with_reducible refine ListAt.grow ?_ _ _)|(with_reducible refine ListAt.drewN ?_ _)|(with_reducible refine ListAt.src ?_ _ _ _)))) (by omega) (by omega)).mono ?_
  rintro e w' ⟨rfl,n1,rfl⟩
  rw [HK.out]
  go_wp2_with fail
  refine(next_any s lv zs (p+1) (p+1) (left-2) _ _ (by simp) (by simp;omega) (by simp [go_sem,hs]) (by(repeat' (first|(with_reducible exact hl.out)|(with_reducible refine ListAt.alloc ?_ _)|(with_reducible refine ListAt.grow ?_ _ _)|(with_reducible refine ListAt.drewN ?_ _)|(with_reducible refine ListAt.src ?_ _ _ _)))) (by omega) (by omega)).mono ?_
  rintro e w' ⟨rfl,n2,rfl⟩
  rw [HA.out]
  go_wp2_with fail
  refine(next_any s lv zs (p+2) (p+1+1) (left-2) _ _ (by omega) (by simp;omega) (by simp [go_sem,hs]) (by(repeat' (first|(with_reducible exact hl.out)|(with_reducible refine ListAt.alloc ?_ _)|(with_reducible refine ListAt.grow ?_ _ _)|(with_reducible refine ListAt.drewN ?_ _)|(with_reducible refine ListAt.src ?_ _ _ _)))) (by omega) (by omega)).mono ?_
  rintro e w' ⟨rfl,n3,rfl⟩
  rw [HC.out]
  go_wp2_with fail
  refine(node_any2 s lv ev zs env n IH _ _ [2+a,2+a] _ (p+3) ((p:Int)+1+1+1) _ ll p' l' _ HLL (by omega) (by omega) (by have:=hdeep.out;omega) (by omega) (by simp;omega) (by simp [go_sem,hs]) (Lib.hid (by(repeat' (first|(with_reducible exact hl.out)|(with_reducible refine ListAt.alloc ?_ _)|(with_reducible refine ListAt.grow ?_ _ _)|(with_reducible refine ListAt.drewN ?_ _)|(with_reducible refine ListAt.src ?_ _ _ _))))) (Lib.hid (by(repeat' (first|(with_reducible exact he.out)|(with_reducible refine EnvAt.alloc ?_ _)|(with_reducible refine EnvAt.grow ?_ _ _)|(with_reducible refine EnvAt.drewN ?_ _)|(with_reducible refine EnvAt.src ?_ _ _ _))))) (by omega) (by omega) (by omega) (by simp) (by simp) (by omega) (dims2 (by omega) (by omega)) (cell_dims _ [2+a,2+a] _ _ (by simp))).mono ?_
  rintro e w' ⟨v,bs,d,rfl,rfl,hrep⟩
  have H1:=Lib.hid hrep
  obtain⟨va,vc,hv⟩:=hrep.form
  subst hv
  clear hrep
  go_wp2_with fail
  go_returns
  refine ExPost.of_eq (P':=(p':Int)) rfl rfl rfl (.of_below belB) (((H1.out.eqw (w':=(((X.src s lv (p':Int) l').alloc (.cells #[.int .i64 0,.int .i64 0,.int .i64 0,.int .i64 0,.string ⟨#[]⟩,.slice none 0 0] 51)).alloc (.cells #[.int .i64 (2+a),.int .i64 (2+a)] 3)).grow bs d) (by simp [go_sem,hs,alloc_drewN'])).lift0 ?_ ?_ d).mono ?_)
  all_goals first
   |(intro b hb;simp at hb;omega)
   |(simp;done)
   |(simp;omega)
theorem expr_bleaf
 (s:Nat) (lv ev:Value) (zs:List Int) (env:List (ByteArray × Int)) (n:Nat) (IH:Hid (ExprOK s lv ev zs env n)) (dim:Int) (p:Nat) (left deep:Int) (E:Ex) (p':Nat) (l':Int) (kk:Int) (X:World) (hr:Hid (exprF zs env (n+1) dim p left=(E,p',l'))) (HK:Hid (nextV zs p 14=kk)) (hleft0:0<left) (hdeep:Hid (deep=5-n)) (hn:n≤4) (hd4:dim≤4) (hs:s<X.heap.size) (hl:Hid (ListAt X s lv zs)) (he:Hid (EnvAt X s ev env)) (hp:p+(3*costN n+3)≤900000) (hleft:-900000≤left-(3*(costN n:Int)+3)) (hleft2:left≤900000)
 (hd1:dim=1) (hkk:kk=9∨kk=10∨kk=11∨kk=12∨kk=13):(Calls Tryz.prog 64 #[.pointer (some ⟨s,0,none⟩),.int .i64 dim,.int .i64 deep,ev] (X.src s lv p left) (ExPost s lv X (E,p',l'))):=by
 subst hd1
 have hpr:prodF zs p 1=none:=by
  rcases hkk with rfl|rfl|rfl|rfl|rfl<;>simp [prodF,HK.out]
 have hF:=exprF_none zs env n 1 p left hleft0 hpr
 rw [hr.out]at hF
 have HL:=Lib.hid hF.symm
 clear hF hpr
 rcases hkk with rfl|rfl|rfl|rfl|rfl
 all_goals
  have h6:deep<6:=by have:=hdeep.out;omega
  have hc8:=costN_8 n
  go_enter Tryz.func64,Tryz.ntmps64
  go_wp2_with fail
  refine(next_any s lv zs p p (left-2) _ _ rfl (by simp;omega) (by simp [go_sem,hs]) (by(repeat' (first|(with_reducible exact hl.out)|(with_reducible refine ListAt.alloc ?_ _)|(with_reducible refine ListAt.grow ?_ _ _)|(with_reducible refine ListAt.drewN ?_ _)|(with_reducible refine ListAt.src ?_ _ _ _)))) (by omega) (by omega)).mono ?_
  rintro e w' ⟨rfl,n1,rfl⟩
  rw [HK.out]
  go_wp2_with fail
  refine(leaf_any s lv zs (p+1) _ (left-2) _ _ env _ rfl (by omega) (by omega) (by simp;omega) (by simp [go_sem,hs]) (Lib.hid (by(repeat' (first|(with_reducible exact hl.out)|(with_reducible refine ListAt.alloc ?_ _)|(with_reducible refine ListAt.grow ?_ _ _)|(with_reducible refine ListAt.drewN ?_ _)|(with_reducible refine ListAt.src ?_ _ _ _))))) (Lib.hid (by(repeat' (first|(with_reducible exact he.out)|(with_reducible refine EnvAt.alloc ?_ _)|(with_reducible refine EnvAt.grow ?_ _ _)|(with_reducible refine EnvAt.drewN ?_ _)|(with_reducible refine EnvAt.src ?_ _ _ _))))) (by omega) (by omega) (by omega)).mono ?_
  rintro e w' ⟨v,bs,d,rfl,rfl,hrep⟩
  rw [HL.out]at hrep
  simp only [HL.out]
  have H1:=Lib.hid hrep
  obtain⟨va,vc,hv⟩:=hrep.form
  subst hv
  clear hrep
  go_wp2_with fail
  go_returns
  refine ExPost.of_eq (P':=(p':Int)) rfl rfl rfl (.of_below belB) (((H1.out.eqw (w':=((X.src s lv (p':Int) l').alloc (.cells #[.int .i64 0,.int .i64 0,.int .i64 0,.int .i64 0,.string ⟨#[]⟩,.slice none 0 0] 51)).grow bs d) (by simp [go_sem,hs,alloc_drewN'])).lift0 ?_ ?_ d).mono ?_)
  all_goals first
   |(intro b hb;simp at hb;omega)
   |(simp;done)
   |(simp;omega)
end Go.Proofs.YtlheailebbngiaaGreatDoor
namespace Go.Proofs.YtlheailebbngiaaGreatDoor
open Go.RowKit Go.Shelf Go.Sort Go.Lib
attribute [local go_sem] Oper.semAt_some
def YrLies(n₀:Nat)(W:World)(v:Value)(l:List Int):Prop:=
 l.length≤1000∧∃a cap,v= .slice a l.length cap∧(l.length=0∨∃b off,a=some ⟨b,off,none⟩∧b<n₀∧∀i,i<l.length→W.cell? ⟨b,off+i,none⟩=some (.int .i64 (l.getD i 0)))
theorem YrLies.below{n₀:Nat}{W W':World}{v:Value}{l:List Int}(h:YrLies n₀ W v l)(hb:Below n₀ W W'):YrLies n₀ W' v l:=by
 obtain⟨h0,a,cap,hv,h1⟩:=h
 refine⟨h0,a,cap,hv,h1.imp id ?_⟩
 rintro⟨b,off,ha,hlt,hc⟩
 exact⟨b,off,ha,hlt,fun i hi=>(hb.cell (p:=⟨b,off+i,none⟩) hlt).trans (hc i hi)⟩
theorem YrAt.lies{w:World}{v:Value}{l:List Int}(h:YrAt w v l):YrLies w.heap.size w v l:=h
theorem take_snocI(l:List Int)(k:Nat)(hk:k<l.length):l.take (k+1)=l.take k++[l.getD k 0]:=by
 exact lz43
theorem valI1_in(F:Fence)(n:Nat)(hf:F.fn 98)(hro:F.round=none)(hn:1≤n)(l Bs n₀:Nat)(x:List Int)(v:Value)(J Jx:List Int→World→Prop)
 (hY:∀pre (i:Int) W,J pre W→pre.length<x.length→YieldAt F (n-1) Tryz.prog l #[.int .i64 i] W fun e W'=>
  (e= .returned (.bool true)∧J (pre++[i]) W'∧Below n₀ W W')∨(e= .returned (.bool false)∧Jx (pre++[i]) W'))
 (W:World) (hBs:W.cell? ⟨Bs,0,none⟩=some v) (hBl:Bs<n₀) (hL:YrLies n₀ W v x) (h0:J [] W) :
 CallsIn F n Tryz.prog 98 #[.func (.yield l) #[] #[],.pointer (some ⟨Bs,0,none⟩)] W fun e W'=>(∃v,e= .returned v)∧
  ((∃ys,ys=x∧J ys W')∨(∃pre,(∃k,k<x.length∧pre=x.take (k+1))∧Jx pre W')):=by
 have HL:=Lib.hid hL
 obtain⟨h1000,a,cap,rfl,-⟩:=hL
 refine callsIn_of_wp Tryz.func98 rfl hf ?_ hro
 simp only [Tryz.ntmps98,List.size_toArray,List.length_cons,List.length_nil,Nat.reduceAdd,Nat.reduceSub,Array.replicate_succ,Array.replicate_zero,List.push_toArray,List.append_toArray,List.nil_append,List.cons_append]
 gi_wp2
 gi_loopw [7] (fun vi wr=>∃k:Nat,k≤x.length∧vi= .int .i64 k∧J (x.take k) wr∧Below n₀ W wr) (fun vi _=>x.length-(intOf vi).toNat)
 case atStart=>exact⟨0,Nat.zero_le _,rfl,h0,Below.refl _ _⟩
 case round=>
  obtain⟨k,hk,rfl,hJs,hnx⟩:=hrel
  by_cases hlt:k<x.length
  ·have hLr:=HL.out.below hnx
   obtain⟨-,a',cap',hv,hx⟩:=hLr
   simp only [Value.slice.injEq,true_and]at hv
   obtain⟨rfl,rfl⟩:=hv
   rcases hx with hx|⟨b,off,rfl,hb,hx⟩
   ·omega
   have q0:=hx k hlt
   obtain⟨fn,tmps,assign,body,hy,hR⟩:=hY _ (x.getD k 0) wr hJs (by rw [List.length_take];omega)
   have HS:=Lib.hid (take_snocI x k hlt)
   generalize x.getD k 0=z0 at *
   have d1:(k:Int)<(x.length:Int):=by omega
   have hlen1:(x.length:Int)≤1000:=by omega
   clear hx hBs h0
   gi_wp2
   refine hR.mono ?_
   rintro e W3 (⟨rfl,hJ3,hk3⟩|⟨rfl,hJx3⟩)
   ·gi_wp2
    go_roundw
    case rel=>exact⟨k+1,by omega,by go_num,by rw [HS.out];exact hJ3,hnx.trans hk3⟩
    case measure=>simp [intOf];omega
   ·gi_wp2
    refine bodyPost_ret (results_none rfl _ _ _) rfl ?_
    exact⟨⟨_,rfl⟩,.inr ⟨_,⟨k,hlt,HS.out.symm⟩,hJx3⟩⟩
  ·obtain rfl:k=x.length:=by omega
   gi_wp2
   go_end0
   exact⟨⟨_,rfl⟩,.inl ⟨_,List.take_length,hJs⟩⟩
theorem valI_in(F:Fence)(n:Nat)(hf:F.fn 58)(hro:F.round=none)(a:Option Addr)(len cap:Nat)(w:World) :
 CallsIn F n Tryz.prog 58 #[.slice a len cap] w fun e w'=>e= .returned (.func (.func 98) #[] #[.pointer (some ⟨w.heap.size,0,none⟩)])∧w'=w.alloc (.cells #[.slice a len cap] 24):=by
 refine callsIn_of_wp Tryz.func58 rfl hf ?_ hro
 simp only [Tryz.ntmps58,List.size_toArray,List.length_cons,List.length_nil,Nat.reduceAdd,Nat.reduceSub,Array.replicate_succ,Array.replicate_zero,List.push_toArray,List.append_toArray,List.nil_append,List.cons_append]
 gi_wp2
 go_ret
 exact⟨rfl,rfl⟩
theorem valI_stops(F:Fence)(n:Nat)(hf:F.fn 98)(hro:F.round=none)(hn:1≤n)(Bs n₀:Nat)(v:Value)(x:List Int)(w:World)(hBs:Bs<n₀)(hn₀:n₀≤w.heap.size)
 (hc:w.cell? ⟨Bs,0,none⟩=some v) (hL:YrLies n₀ w v x) :
 SeqStopsK F n Tryz.prog 98 #[.pointer (some ⟨Bs,0,none⟩)] (fun i:Int=>#[Value.int .i64 i]) (Below n₀) (fun ys=>ys=x) (fun pre=>∃k,k<x.length∧pre=x.take (k+1)) x.length w:=fun l J Jx W hW _ _ hY h0=>
 valI1_in F n hf hro hn l Bs n₀ x v J Jx hY W ((hW.cell (p:=⟨Bs,0,none⟩) (by show Bs<w.heap.size;omega)).trans hc) hBs (hL.below (hW.mono hn₀)) h0
theorem infoY:(Tryz.prog.info? 3).map (fun i=>(i.zero,i.size,i.bytes))=some (some (.int .i64 0),1,8):=by kernel_rfl
theorem appI_in(x:List Int)(v:Value)(Bs:Nat)(w:World)(hb:Bs<w.heap.size)(hc0:w.cell? ⟨Bs,0,none⟩=some v)(hL:YrAt w v x) :
 CallsIn Fence.wide 5 Tryz.prog 130 #[.slice none 0 0,.func (.func 98) #[] #[.pointer (some ⟨Bs,0,none⟩)]] w fun e W'=>
  ∃v',e= .returned v'∧W'.ownsRow w.heap.size 3 1 v' x.length (x.map (Value.int .i64))∧Below w.heap.size w W':=by
 obtain⟨i0,hi,hz0,hz1,hz2⟩:=info_parts infoY
 have h1000:=hL.1
 refine callsIn_of_wp_marks Tryz.func130 rfl trivial ?_ rfl
 simp only [Tryz.ntmps130,List.size_toArray,List.length_cons,List.length_nil,Nat.reduceAdd,Nat.reduceSub,Array.replicate_succ,Array.replicate_zero,List.push_toArray,List.append_toArray,List.nil_append,List.cons_append]
 gi_wp2
 have bO:=Boxed.new w 24 (.slice none 0 0)
 have hB0:Below w.heap.size w (w.alloc (.cells #[.slice none 0 0] 24)):=(Below.refl _ w).alloc (Nat.le_refl _) _
 refine wpIn_rangeFunc_ownG (F:=Fence.wide) rfl (by omega) (gf:=98) (lb:=#[.pointer (some ⟨Bs,0,none⟩)]) rfl trivial (enters_of Tryz.func98 (by kernel_rfl) rfl)
  (valI_stops Fence.wide 4 trivial rfl (by omega) Bs w.heap.size v x _ hb (by simp) ((hB0.cell (p:=⟨Bs,0,none⟩) hb).trans hc0) (hL.lies.below hB0)) belowK_t (belowK_b (by simp)) (Below.refl _ _) (fun _=>rfl)
  (fun pre W=>(∃v,Boxed W w.heap.size 24 v∧W.ownsRow w.heap.size 3 1 v pre.length (pre.map (Value.int .i64))∧True)∧Below w.heap.size w W)
  (fun _ _ _=>False)
  (OwnFrom.and (Own.from (holdsRow_own w.heap.size w.heap.size 24 3 1 (fun pre:List Int=>pre.length) (fun pre=>pre.map (Value.int .i64)) (fun _ _=>True)) _) (ownFrom_below (Nat.le_refl _) (by simp)))
  (fun _ _ _ _ _ hs _ _=>hs)
  ⟨⟨_,bO,World.ownsRow_nil _ _ _ _,trivial⟩,hB0⟩
  (fun z=>{tmps:=#[.slice none 0 0,.func (.func 98) #[] #[.pointer (some ⟨Bs,0,none⟩)],.pointer (some ⟨w.heap.size,0,none⟩),undef,.slice none 0 0,.int .i64 z,.func (.func 98) #[] #[.pointer (some ⟨Bs,0,none⟩)],.int .i64 z,undef,undef,undef,undef,undef],defers:=[]}) ?assign ?body ?done ?stop
 case assign=>
  intro l z W K hK
  gi_wp2
  exact hK
 case body=>
  rintro l pre z W ⟨⟨v2,hv,hrow,-⟩,hB⟩ hlt
  have hc:=hv.cell
  gi_wp2_with (gi_at_builtin;refine wpListIn_append_own _ rfl _ _ 24 rfl w.heap.size 3 i0 (.int .i64 0) 1 8 Tryz.underlying24 hi hz0 hz1 hz2 rfl (by decide) _ _ _ rfl (hrow.alloc _) ⟨W.heap.size,0,none⟩ 1 1 [.int .i64 z] rfl rfl (cell_one_new _ _ _) (by simp [Value.oneCell']) (by unfold maxLen;omega) (by omega) (by have:=hB.size;simp;omega) ?_;intro v' w1 hown' hgrow _;obtain⟨g',cap',rfl⟩:=ownsRow_succ hown';obtain⟨hv1,hv2,hr2,hk2,hb2⟩:=hv.appended (by decide) hrow hB.size (Nat.le_refl _) hown' hgrow;have hc1:=hv1.cell;have hf1:=hv1.frozen)
  exact⟨hk2.from _,hb2,⟨_,hv2,by simpa using hr2,trivial⟩,hB.trans hb2⟩
 case done=>
  rintro D ys W hD rfl ⟨⟨v2,hv,hrow,-⟩,hB⟩ hK
  have hc:=hv.cell
  gi_wp2
  refine⟨by simp,.inl ⟨_,_,rfl,run_takeDeferred hK, ?_⟩⟩
  exact⟨_,results_tmp rfl _ _ _,v2,rfl,ownsRow_putObj hrow _ hK rfl,hB.trans (belowK_b (w:=w) (Nat.le_refl _) W D _ _ (by simp at hD;omega) hK rfl rfl)⟩
 case stop=>
  rintro D c pre W _ _ h _
  exact h.elim
theorem ownsRow_unpackY{w:World}{base g n cap:Nat}{e:TypeId}{zs:List Int}(h:w.ownsRow base e 1 (.slice (some ⟨g,0,none⟩) n cap) n (zs.map (Value.int .i64))) :
 ∃cur,zs.length=n∧base≤g∧w.heap[g]? =some (.cells cur e (0,0))∧n≤cap∧cap≤maxLen∧cur.size=cap*1∧cur.toList.take n=zs.map (Value.int .i64):=by
 obtain⟨h0,h1|⟨g',cap',cur,hv,hb,hg,h2,h3,h4,h5⟩⟩:=h
 ·cases h1.1
 ·simp only [Value.slice.injEq,Option.some.injEq,Addr.mk.injEq,and_true,true_and]at hv
  obtain⟨rfl,rfl⟩:=hv
  exact⟨cur,by simpa using h0,hb,hg,h2,h3,h4,by simpa using h5⟩
theorem sort_rowY{base g cap:Nat}{zs:List Int}{w:World}(h:w.ownsRow base 3 1 (.slice (some ⟨g,0,none⟩) zs.length cap) zs.length (zs.map (Value.int .i64)))(hl:zs.length≤1000) :
 Calls Tryz.prog 97 #[.slice (some ⟨g,0,none⟩) zs.length cap] w fun e w'=>e= .returned (.tuple #[])∧w.grownBy w' (some g)∧
  w'.ownsRow base 3 1 (.slice (some ⟨g,0,none⟩) zs.length cap) zs.length ((zs.mergeSort fun x y=>decide (x≤y)).map (Value.int .i64)):=by
 obtain⟨cur,-,hb,hg,h2,h3,h4,h5⟩:=ownsRow_unpackY h
 refine(Tryz.slices_Sort_int g 0 cap zs w (holds_of_blockI hg h5) (Array.getElem?_eq_some_iff.1 hg).1 (by omega)).mono ?_
 rintro e w' ⟨rfl,n,os,rfl⟩
 exact⟨rfl,grownBy_sortedI _,ownsRow_sortedI (by simp) hb hg h2 h3 h4⟩
end Go.Proofs.YtlheailebbngiaaGreatDoor
namespace Go.Proofs.YtlheailebbngiaaGreatDoor
open Go.RowKit Go.Sort Go.Lib
theorem YrAt.of_row{w:World}{base:Nat}{v:Value}{l:List Int}(h:w.ownsRow base 3 1 v l.length (l.map (Value.int .i64)))(hl:l.length≤1000):YrAt w v l:=by
 obtain⟨-,⟨rfl,h0⟩|⟨g,cap,cur,rfl,hb,hg,h2,h3,h4,h5⟩⟩:=id h
 ·exact⟨by omega,none,0,by rw [h0],.inl h0⟩
 ·refine⟨by omega,_,cap,rfl,.inr ⟨g,0,rfl,(Array.getElem?_eq_some_iff.1 hg).1,fun i hi=>?_⟩⟩
  rw [Nat.zero_add,h.cellAt i (by omega),List.getElem?_map,List.getElem?_eq_getElem hi,List.getD_eq_getElem?_getD,List.getElem?_eq_getElem hi]
  rfl
def SrtPost(x:List Int)(w:World)(e:Ending)(w':World):Prop:=∃(a:Option Addr) (cap:Nat) (ss:List Int),e= .returned (.slice a ss.length cap)∧ss.length≤cap∧ss.Perm x∧ss.Pairwise (·≤·)∧YrAt w' (.slice a ss.length cap) ss∧w.Grows w'
def ColPost(x:List Int)(w:World)(e:Ending)(w':World):Prop:=∃v',e= .returned v'∧w'.ownsRow w.heap.size 3 1 v' x.length (x.map (Value.int .i64))∧Below w.heap.size w w'
theorem collect_any(x:List Int)(v:Value)(Bs:Nat)(w:World)(hb:Bs<w.heap.size)(hc0:w.cell? ⟨Bs,0,none⟩=some v)(hL:YrAt w v x) :
 Calls Tryz.prog 96 #[.func (.func 98) #[] #[.pointer (some ⟨Bs,0,none⟩)]] w (ColPost x w):=by
 have HA:=Lib.hid (callsIn_wide.1 (appI_in x v Bs w hb hc0 hL))
 clear hc0 hL
 go_enter Tryz.func96,Tryz.ntmps96
 go_wp2_with (go_at_call 130;refine HA.out.mono ?_;rintro e' w' ⟨v',rfl,hown,hbel⟩)
 go_returns
 exact⟨_,rfl,hown,hbel⟩
theorem sort_pair(l:List Int):(l.mergeSort fun x y=>decide (x≤y)).Pairwise (·≤·):=by
 have:=List.pairwise_mergeSort (le:=fun x y:Int=>decide (x≤y)) (by intro a b c h1 h2;simp at *;omega) (by intro a b;simp;omega) l
 exact this.imp fun h=>by simpa using h
theorem below_row{w w1 w2:World}{g:Nat}(h:Below w.heap.size w w1)(hg:w1.grownBy w2 (some g))(hle:w.heap.size≤g):Below w.heap.size w w2:=h.grown hg h.size (fun k hk=>by cases hk;exact hle)
theorem sorted_any(x:List Int)(v:Value)(Bs:Nat)(w:World)(hb:Bs<w.heap.size)(hc0:w.cell? ⟨Bs,0,none⟩=some v)(hL:YrAt w v x) :
 Calls Tryz.prog 57 #[.func (.func 98) #[] #[.pointer (some ⟨Bs,0,none⟩)]] w (SrtPost x w):=by
 have HC:=Lib.hid (collect_any x v Bs w hb hc0 hL)
 have h1000:=hL.1
 clear hc0 hL
 go_enter Tryz.func57,Tryz.ntmps57
 go_wp2_with (go_at_call 96;refine HC.out.mono ?_;rintro e' w' ⟨v',rfl,hown,hbel⟩;have HO:=Lib.hid hown;have HB:=Lib.hid hbel;obtain⟨hl0,⟨rfl,hz⟩|⟨g,cap,cur,rfl,hbg,hg,h2,h3,h4,h5⟩⟩:=hown;clear hbel)
 ·obtain rfl:x= []:=List.eq_nil_of_length_eq_zero hz
  go_wp2_with (go_at_call 97;refine(Tryz.slices_Sort_int_none none 0 _).mono ?_;rintro e2 w2 ⟨rfl,rfl⟩)
  go_returns
  exact⟨none,0,[],rfl,Nat.le_refl _,.refl _,.nil,⟨by simp,none,0,rfl,.inl rfl⟩,.of_below HB.out⟩
 ·have HS:=Lib.hid (sort_rowY (zs:=x) HO.out h1000)
  have HH:=Lib.hid (And.intro hbg h2)
  clear hg h2 h3 h4 h5 hl0
  go_wp2_with (go_at_call 97;refine(HS.out).mono ?_;rintro e2 w2 ⟨rfl,hg2,hown2⟩)
  go_returns
  have hlen:(x.mergeSort fun x y=>decide (x≤y)).length=x.length:=by simp
  refine⟨some ⟨g,0,none⟩,cap,x.mergeSort fun x y=>decide (x≤y),by rw [hlen];rfl,by rw [hlen];exact HH.out.2,List.mergeSort_perm _ _,sort_pair x, ?_,.of_below (below_row HB.out hg2 HH.out.1)⟩
  have ho:=hown2
  rw [←hlen]at ho
  exact YrAt.of_row ho (by rw [hlen];exact h1000)
theorem dropK{ss:List Int}{m j:Nat}:(ss.drop m).getD j 0=ss.getD (m+j) 0:=by
 rw [List.getD_eq_getElem?_getD,List.getElem?_drop,←List.getD_eq_getElem?_getD]
end Go.Proofs.YtlheailebbngiaaGreatDoor
namespace Go.Proofs.YtlheailebbngiaaGreatDoor
open Go.RowKit
theorem resD_bd{op:Int}{d:List Int}(h:∀x∈d,1≤x∧x≤4)(hr:resD op d≠0):1≤resD op d∧resD op d≤4:=by
 have g:∀k,d.getD k 0=0∨(1≤d.getD k 0∧d.getD k 0≤4):=fun k=>by
  by_cases hk:k<d.length
  ·rw [List.getD_eq_getElem?_getD,List.getElem?_eq_getElem hk];exact .inr (h _ (List.getElem_mem hk))
  ·rw [List.getD_eq_getElem?_getD,List.getElem?_eq_none (by omega)];exact .inl rfl
 have g0:=g 0
 have g1:=g 1
 unfold resD at hr ⊢
 dsimp only at hr ⊢
 generalize d.getD 0 0=a at *
 generalize d.getD 1 0=b at *
 generalize d.getD 2 0=c at *
 clear h g
 (repeat' split)<;>(repeat' split at hr)<;>omega
theorem dimsOk_mem{env:List (ByteArray × Int)}(h:dimsOk env=true){p:ByteArray × Int}(hp:p∈env):1≤p.2∧p.2≤4:=by
 have:=List.all_eq_true.1 h p hp
 simpa using this
theorem lastN_in{α:Type}{env:List (ByteArray × α)}{s:ByteArray}{x:α}(h:lastN env s=some x):∃p∈env,p.2=x:=by
 exact lz57
mutual
theorem infer_dim{env:List (ByteArray × Int)}(hE:dimsOk env=true):∀e:Ex,formedB e=true→(inferF env e).2=0→1≤(inferF env e).1∧(inferF env e).1≤4
 | .mk op n d m s l=>by
   intro hf hi
   rw [formedB,Bool.and_eq_true,decide_eq_true_eq]at hf
   rw [inferF]at hi ⊢
   obtain⟨ha,hf⟩:=hf
   unfold infNode at hi ⊢
   by_cases c1:op=1
   ·subst c1
    rw [if_pos rfl]at hf
    simp only [Bool.and_eq_true]at hf
    have:=decOk_bd hf.1
    exact⟨by show 1≤m;omega,by show m≤4;omega⟩
   rw [if_neg c1]at hi hf ⊢
   by_cases c3:op=3
   ·rw [if_pos c3];exact⟨by show(1:Int)≤4;omega,by show(4:Int)≤4;omega⟩
   rw [if_neg c3]at hi ⊢
   by_cases c2:op=2
   ·rw [if_pos c2]at hi ⊢
    unfold inferN at hi ⊢
    by_cases cd:inpD s.toList≠0
    ·rw [if_pos cd]
     have:=inpD_bd s.toList
     exact⟨by show 1≤inpD s.toList;omega,by show inpD s.toList≤4;omega⟩
    ·rw [if_neg cd]at hi ⊢
     cases hl:lastN env s with
     |none=>rw [hl]at hi;simp at hi
     |some x=>
      obtain⟨p,hp,rfl⟩:=lastN_in hl
      exact dimsOk_mem hE hp
   rw [if_neg c2,if_neg c3]at hf
   rw [if_neg c2]at hi ⊢
   simp only [Bool.and_eq_true]at hf
   split at hi<;>rename_i c4
   ·exact absurd hi c4
   rw [if_neg c4]
   split at hi<;>rename_i c5
   ·simp at hi
   rw [if_neg c5]
   exact resD_bd (infers_dim hE l hf.1 (by omega)) c5
theorem infers_dim{env:List (ByteArray × Int)}(hE:dimsOk env=true):∀l:List Ex,formedsB l=true→(infersF env l).2=0→∀x∈(infersF env l).1,1≤x∧x≤4
 | []=>by intro _ _ x hx;simp [infersF]at hx
 |e::r=>by
  intro hf h x hx
  rw [formedsB,Bool.and_eq_true]at hf
  rw [infersF]at h hx
  split at h<;>rename_i c1
  ·exact absurd h c1
  split at h<;>rename_i c2
  ·exact absurd h c2
  rw [if_neg c1,if_neg c2]at hx
  rcases List.mem_cons.1 hx with rfl|hx
  ·exact infer_dim hE e hf.1 (by omega)
  ·exact infers_dim hE r hf.2 (by omega) x hx
end
theorem infers_bad(env:List (ByteArray × Int)):∀(l:List Ex) (k:Nat),k<l.length→(∀j,j<k→(inferF env (l.getD j default)).2=0)→(inferF env (l.getD k default)).2≠0→
 (infersF env l).2=(inferF env (l.getD k default)).2
 | [],k,hk,_,_=>by simp at hk
 |e::r,0,_,_,h=>by
  rw [infersF,if_pos (by simpa using h)];rfl
 |e::r,k+1,hk,hj,h=>by
  have h0:(inferF env e).2=0:=hj 0 (by omega)
  have hr:=infers_bad env r k (by simpa using hk) (fun j hjk=>hj (j+1) (by omega)) h
  have hne:(infersF env r).2≠0:=by rw [hr];exact h
  rw [infersF,if_neg (by omega),if_pos hne]
  exact hr
theorem infers_ok(env:List (ByteArray × Int)):∀l:List Ex,(∀j,j<l.length→(inferF env (l.getD j default)).2=0)→infersF env l=(l.map fun e=>(inferF env e).1,0)
 | [],_=>by rw [infersF];rfl
 |e::r,h=>by
  have h0:(inferF env e).2=0:=h 0 (by simp)
  have hr:=infers_ok env r (fun j hj=>h (j+1) (by simpa using hj))
  rw [infersF,if_neg (by omega),hr,if_neg (by simp)]
  rfl
theorem len1{d:List Int}(h:(d.length:Int)=1):∃x,d= [x]:=List.length_eq_one_iff.1 (by omega)
theorem len2{d:List Int}(h:(d.length:Int)=2):∃x y,d= [x,y]:=by
 match d,(show d.length=2 by omega)with
 | [a,b],_=>exact⟨a,b,rfl⟩
theorem len3{d:List Int}(h:(d.length:Int)=3):∃x y z,d= [x,y,z]:=by
 match d,(show d.length=3 by omega)with
 | [a,b,c],_=>exact⟨a,b,c,rfl⟩
theorem own_cell{w:World}{base g cap:Nat}{d:List Int}(h:w.ownsRow base 3 1 (.slice (some ⟨g,0,none⟩) d.length cap) d.length (d.map (Value.int .i64)))(k:Nat)(hk:k<d.length):w.cell? ⟨g,0+k,none⟩=some (.int .i64 (d.getD k 0)):=by
 have:=World.ownsRow.cells (g:=g) h rfl k (.int .i64 (d.getD k 0)) (by rw [List.getElem?_map,List.getD_eq_getElem?_getD,List.getElem?_eq_getElem hk];rfl)
 rw [addr_add]at this
 rw [Nat.zero_add];exact this
theorem res2_all(op:Int)(d:List Int)(base g cap:Nat)(w:World)(h4:4≤op)(h21:op≤21)(hl:(d.length:Int)=argsN op)(hx:∀x∈d,1≤x)(h:w.ownsRow base 3 1 (.slice (some ⟨g,0,none⟩) d.length cap) d.length (d.map (Value.int .i64))) :
 Calls Tryz.prog 139 #[.int .i64 op,.slice (some ⟨g,0,none⟩) d.length cap] w (Res2P (resD op d) w):=by
 have hc:=own_cell h
 clear h
 rcases(show op=4∨op=5∨op=6∨op=7∨op=8∨op=9∨op=10∨op=11∨op=12∨op=13∨op=14∨op=15∨op=16∨op=17∨op=18∨op=19∨op=20∨op=21 by omega)with rfl|rfl|rfl|rfl|rfl|rfl|rfl|rfl|rfl|rfl|rfl|rfl|rfl|rfl|rfl|rfl|rfl|rfl
 ·obtain⟨x,rfl⟩:=len1 (d:=d) (by rw [hl];rfl)
  exact res2_4 x g 0 cap w (hc 0 (by simp)) (hx _ (by simp))
 ·obtain⟨x,rfl⟩:=len1 (d:=d) (by rw [hl];rfl)
  exact res2_5 x g 0 cap w (hc 0 (by simp)) (hx _ (by simp))
 ·obtain⟨x,rfl⟩:=len1 (d:=d) (by rw [hl];rfl)
  exact res2_6 x g 0 cap w (hc 0 (by simp)) (hx _ (by simp))
 ·obtain⟨x,y,rfl⟩:=len2 (d:=d) (by rw [hl];rfl)
  exact res2_7 x y g 0 cap w (hc 0 (by simp)) (hc 1 (by simp)) ⟨hx _ (by simp),hx _ (by simp)⟩
 ·obtain⟨x,y,rfl⟩:=len2 (d:=d) (by rw [hl];rfl)
  exact res2_8 x y g 0 cap w (hc 0 (by simp)) (hc 1 (by simp)) ⟨hx _ (by simp),hx _ (by simp)⟩
 ·obtain⟨x,y,rfl⟩:=len2 (d:=d) (by rw [hl];rfl)
  exact res2_9 x y g 0 cap w (hc 0 (by simp)) (hc 1 (by simp)) ⟨hx _ (by simp),hx _ (by simp)⟩
 ·obtain⟨x,y,rfl⟩:=len2 (d:=d) (by rw [hl];rfl)
  exact res2_10 x y g 0 cap w (hc 0 (by simp)) (hc 1 (by simp)) ⟨hx _ (by simp),hx _ (by simp)⟩
 ·obtain⟨x,y,rfl⟩:=len2 (d:=d) (by rw [hl];rfl)
  exact res2_11 x y g 0 cap w (hc 0 (by simp)) (hc 1 (by simp)) ⟨hx _ (by simp),hx _ (by simp)⟩
 ·obtain⟨x,y,rfl⟩:=len2 (d:=d) (by rw [hl];rfl)
  exact res2_12 x y g 0 cap w (hc 0 (by simp)) (hc 1 (by simp)) ⟨hx _ (by simp),hx _ (by simp)⟩
 ·obtain⟨x,y,rfl⟩:=len2 (d:=d) (by rw [hl];rfl)
  exact res2_13 x y g 0 cap w (hc 0 (by simp)) (hc 1 (by simp)) ⟨hx _ (by simp),hx _ (by simp)⟩
 ·obtain⟨x,y,rfl⟩:=len2 (d:=d) (by rw [hl];rfl)
  exact res2_14 x y g 0 cap w (hc 0 (by simp)) (hc 1 (by simp)) ⟨hx _ (by simp),hx _ (by simp)⟩
 ·obtain⟨x,y,rfl⟩:=len2 (d:=d) (by rw [hl];rfl)
  exact res2_15 x y g 0 cap w (hc 0 (by simp)) (hc 1 (by simp)) ⟨hx _ (by simp),hx _ (by simp)⟩
 ·obtain⟨x,y,rfl⟩:=len2 (d:=d) (by rw [hl];rfl)
  exact res2_16 x y g 0 cap w (hc 0 (by simp)) (hc 1 (by simp)) ⟨hx _ (by simp),hx _ (by simp)⟩
 ·obtain⟨x,y,rfl⟩:=len2 (d:=d) (by rw [hl];rfl)
  exact res2_17 x y g 0 cap w (hc 0 (by simp)) (hc 1 (by simp)) ⟨hx _ (by simp),hx _ (by simp)⟩
 ·obtain⟨x,y,rfl⟩:=len2 (d:=d) (by rw [hl];rfl)
  exact res2_18 x y g 0 cap w (hc 0 (by simp)) (hc 1 (by simp)) ⟨hx _ (by simp),hx _ (by simp)⟩
 ·obtain⟨x,y,rfl⟩:=len2 (d:=d) (by rw [hl];rfl)
  exact res2_19 x y g 0 cap w (hc 0 (by simp)) (hc 1 (by simp)) ⟨hx _ (by simp),hx _ (by simp)⟩
 ·obtain⟨x,y,rfl⟩:=len2 (d:=d) (by rw [hl];rfl)
  exact res2_20 x y g 0 cap w (hc 0 (by simp)) (hc 1 (by simp)) ⟨hx _ (by simp),hx _ (by simp)⟩
 ·obtain⟨x,y,z,rfl⟩:=len3 (d:=d) (by rw [hl];rfl)
  exact res2_21 x y z g 0 cap w (hc 0 (by simp)) (hc 1 (by simp)) (hc 2 (by simp)) ⟨hx _ (by simp),hx _ (by simp),hx _ (by simp)⟩
theorem res5_all(op:Int)(d:List Int)(base g cap:Nat)(w:World)(h4:4≤op)(h21:op≤21)(hl:(d.length:Int)=argsN op)(hx:∀x∈d,1≤x)(h:w.ownsRow base 3 1 (.slice (some ⟨g,0,none⟩) d.length cap) d.length (d.map (Value.int .i64))) :
 Calls Tryz.prog 148 #[.int .i64 op,.slice (some ⟨g,0,none⟩) d.length cap] w (Res5P (resD op d) w):=by
 have hc:=own_cell h
 clear h
 rcases(show op=4∨op=5∨op=6∨op=7∨op=8∨op=9∨op=10∨op=11∨op=12∨op=13∨op=14∨op=15∨op=16∨op=17∨op=18∨op=19∨op=20∨op=21 by omega)with rfl|rfl|rfl|rfl|rfl|rfl|rfl|rfl|rfl|rfl|rfl|rfl|rfl|rfl|rfl|rfl|rfl|rfl
 ·obtain⟨x,rfl⟩:=len1 (d:=d) (by rw [hl];rfl)
  exact res5_4 x g 0 cap w (hc 0 (by simp)) (hx _ (by simp))
 ·obtain⟨x,rfl⟩:=len1 (d:=d) (by rw [hl];rfl)
  exact res5_5 x g 0 cap w (hc 0 (by simp)) (hx _ (by simp))
 ·obtain⟨x,rfl⟩:=len1 (d:=d) (by rw [hl];rfl)
  exact res5_6 x g 0 cap w (hc 0 (by simp)) (hx _ (by simp))
 ·obtain⟨x,y,rfl⟩:=len2 (d:=d) (by rw [hl];rfl)
  exact res5_7 x y g 0 cap w (hc 0 (by simp)) (hc 1 (by simp)) ⟨hx _ (by simp),hx _ (by simp)⟩
 ·obtain⟨x,y,rfl⟩:=len2 (d:=d) (by rw [hl];rfl)
  exact res5_8 x y g 0 cap w (hc 0 (by simp)) (hc 1 (by simp)) ⟨hx _ (by simp),hx _ (by simp)⟩
 ·obtain⟨x,y,rfl⟩:=len2 (d:=d) (by rw [hl];rfl)
  exact res5_9 x y g 0 cap w (hc 0 (by simp)) (hc 1 (by simp)) ⟨hx _ (by simp),hx _ (by simp)⟩
 ·obtain⟨x,y,rfl⟩:=len2 (d:=d) (by rw [hl];rfl)
  exact res5_10 x y g 0 cap w (hc 0 (by simp)) (hc 1 (by simp)) ⟨hx _ (by simp),hx _ (by simp)⟩
 ·obtain⟨x,y,rfl⟩:=len2 (d:=d) (by rw [hl];rfl)
  exact res5_11 x y g 0 cap w (hc 0 (by simp)) (hc 1 (by simp)) ⟨hx _ (by simp),hx _ (by simp)⟩
 ·obtain⟨x,y,rfl⟩:=len2 (d:=d) (by rw [hl];rfl)
  exact res5_12 x y g 0 cap w (hc 0 (by simp)) (hc 1 (by simp)) ⟨hx _ (by simp),hx _ (by simp)⟩
 ·obtain⟨x,y,rfl⟩:=len2 (d:=d) (by rw [hl];rfl)
  exact res5_13 x y g 0 cap w (hc 0 (by simp)) (hc 1 (by simp)) ⟨hx _ (by simp),hx _ (by simp)⟩
 ·obtain⟨x,y,rfl⟩:=len2 (d:=d) (by rw [hl];rfl)
  exact res5_14 x y g 0 cap w (hc 0 (by simp)) (hc 1 (by simp)) ⟨hx _ (by simp),hx _ (by simp)⟩
 ·obtain⟨x,y,rfl⟩:=len2 (d:=d) (by rw [hl];rfl)
  exact res5_15 x y g 0 cap w (hc 0 (by simp)) (hc 1 (by simp)) ⟨hx _ (by simp),hx _ (by simp)⟩
 ·obtain⟨x,y,rfl⟩:=len2 (d:=d) (by rw [hl];rfl)
  exact res5_16 x y g 0 cap w (hc 0 (by simp)) (hc 1 (by simp)) ⟨hx _ (by simp),hx _ (by simp)⟩
 ·obtain⟨x,y,rfl⟩:=len2 (d:=d) (by rw [hl];rfl)
  exact res5_17 x y g 0 cap w (hc 0 (by simp)) (hc 1 (by simp)) ⟨hx _ (by simp),hx _ (by simp)⟩
 ·obtain⟨x,y,rfl⟩:=len2 (d:=d) (by rw [hl];rfl)
  exact res5_18 x y g 0 cap w (hc 0 (by simp)) (hc 1 (by simp)) ⟨hx _ (by simp),hx _ (by simp)⟩
 ·obtain⟨x,y,rfl⟩:=len2 (d:=d) (by rw [hl];rfl)
  exact res5_19 x y g 0 cap w (hc 0 (by simp)) (hc 1 (by simp)) ⟨hx _ (by simp),hx _ (by simp)⟩
 ·obtain⟨x,y,rfl⟩:=len2 (d:=d) (by rw [hl];rfl)
  exact res5_20 x y g 0 cap w (hc 0 (by simp)) (hc 1 (by simp)) ⟨hx _ (by simp),hx _ (by simp)⟩
 ·obtain⟨x,y,z,rfl⟩:=len3 (d:=d) (by rw [hl];rfl)
  exact res5_21 x y z g 0 cap w (hc 0 (by simp)) (hc 1 (by simp)) (hc 2 (by simp)) ⟨hx _ (by simp),hx _ (by simp),hx _ (by simp)⟩
end Go.Proofs.YtlheailebbngiaaGreatDoor
