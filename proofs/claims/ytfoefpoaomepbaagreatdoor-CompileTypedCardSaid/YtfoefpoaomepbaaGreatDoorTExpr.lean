import Derived.Test.YtfoefpoaomepbaaGreatDoorTGen
set_option linter.all false
set_option maxHeartbeats 16000000
set_option maxRecDepth 1000000
namespace Go.Proofs.YtfoefpoaomepbaaGreatDoor
open Go.RowKit

theorem node_any2(s:Nat)(lv ev:Value)(zs:List Int)(env:List (ByteArray × Int))(n:Nat)(IH:Hid (ExprOK s lv ev zs env n))(op deep:Int)(ds:List Int)(db:Nat)(p:Nat)(P left:Int)(l:List Ex)(p':Nat)(l':Int)(X:World)(hr:Hid (nodeF (exprF zs env n) ds p left=(l,p',l')))(hP:P=p)(hn:n≤5)(hdeep:deep+1=6-n)(hop:0≤op∧op≤100)
 (hs:s<X.heap.size) (hX:X.src s lv P left=X) (hl:Hid (ListAt X s lv zs)) (he:Hid (EnvAt X s ev env)) (hp:p+3*costN n≤900000) (hleft:-900000≤left-3*costN n) (hleft2:left≤900000)
 (hdl:ds.length≤3) (hdb:db<X.heap.size) (hdbs:db≠s) (hdr:∀d∈ds,1≤d∧d≤4) (hdc:∀i,i<ds.length→X.cell? ⟨db,i,none⟩=some (.int .i64 (ds.getD i 0))) :
 Calls Tryz.prog 75 #[.pointer (some ⟨s,0,none⟩),.int .i64 op,.int .i64 deep,ev,.slice (some ⟨db,0,none⟩) ds.length ds.length] X
  (ExPost s lv X (.mk op 0 0 0 ByteArray.empty l,p',l')):=by
 have:=node_any s lv ev zs env n IH op deep ds db p P left X hP hn hdeep hop hs hX hl he hp hleft hleft2 hdl hdb hdbs (Lib.hid fun i hi=>by
  have hm:ds.getD i 0∈ds:=by rw [List.getD_eq_getElem?_getD,List.getElem?_eq_getElem hi];exact List.getElem_mem hi
  exact hdr _ hm) (Lib.hid hdc)
 rw [hr.out]at this
 exact this
theorem cell_dims(w:World)(ds:List Int)(t:TypeId)(H:Nat)(hH:w.heap.size=H):∀i,i<ds.length→(w.alloc (.cells (ds.map (Value.int .i64)).toArray t)).cell? ⟨H,i,none⟩=some (.int .i64 (ds.getD i 0)):=by
 subst hH
 intro i hi
 rw [World.cell?_alloc_at _ _ _ _ rfl,List.getD_eq_getElem?_getD,List.getElem?_eq_getElem hi]
 simp [hi]
theorem dims1{a:Int}(ha:1≤a∧a≤4):∀d∈[a],1≤d∧d≤4:=by intro d hd;simp at hd;subst hd;exact ha
theorem dims2{a b:Int}(ha:1≤a∧a≤4)(hb:1≤b∧b≤4):∀d∈[a,b],1≤d∧d≤4:=by intro d hd;simp at hd;rcases hd with rfl|rfl<;>assumption
theorem dims3{a b c:Int}(ha:1≤a∧a≤4)(hb:1≤b∧b≤4)(hc:1≤c∧c≤4):∀d∈[a,b,c],1≤d∧d≤4:=by intro d hd;simp at hd;rcases hd with rfl|rfl|rfl<;>assumption
theorem alloc_drewN'(w:World)(n:Nat)(o:Obj):(w.drewN n).alloc o=(w.alloc o).drewN n:=rfl
theorem RepE.form{S:Nat→Prop}{w:World}{e:Ex}{v:Value}(h:RepE S w e v):∃a cap,v= .slice a e.args.length cap:=by cases h;exact⟨_,_,rfl⟩
theorem expr_zero(s:Nat)(lv ev:Value)(zs:List Int)(env:List (ByteArray × Int)):ExprOK s lv ev zs env 0:=by
 unfold ExprOK
 intro dim p P left deep r X hr hP hdeep hd1 hd4 hs hX hl he hp hleft hleft2
 subst hP
 suffices h:Calls Tryz.prog 30 #[.pointer (some ⟨s,0,none⟩),.int .i64 dim,.int .i64 deep,ev] (X.src s lv p left) (ExPost s lv X r)by rw [hX]at h;exact h
 clear hX
 obtain⟨E,p',l'⟩:=r
 have HL:Hid (leafF zs env dim p left=(E,p',l')):=Lib.hid hr.out
 have hc:costN 0=8:=rfl
 rw [hc]at hp hleft
 have h6:6≤deep:=by omega
 clear hdeep
 go_enter Tryz.func30,Tryz.ntmps30
 go_wp2_with fail
 refine(leaf_any s lv zs p _ left _ _ env _ rfl (by omega) (by omega) (by simp;omega) (by simp [go_sem,hs]) (Lib.hid (by(repeat' (first|(with_reducible exact hl.out)|(with_reducible refine ListAt.alloc ?_ _)|(with_reducible refine ListAt.grow ?_ _ _)|(with_reducible refine ListAt.drewN ?_ _)|(with_reducible refine ListAt.src ?_ _ _ _))))) (Lib.hid (by(repeat' (first|(with_reducible exact he.out)|(with_reducible refine EnvAt.alloc ?_ _)|(with_reducible refine EnvAt.grow ?_ _ _)|(with_reducible refine EnvAt.drewN ?_ _)|(with_reducible refine EnvAt.src ?_ _ _ _))))) (by omega) (by omega) (by omega)).mono ?_
 rintro e w' ⟨v,bs,d,rfl,rfl,hrep⟩
 rw [HL.out]at hrep
 simp only [HL.out]
 have H1:=Lib.hid hrep
 obtain⟨va,vc,hv⟩:=hrep.form
 subst hv
 clear hrep
 go_wp2_with fail
 go_returns
 refine ExPost.of_eq (P':=(p':Int)) rfl rfl rfl (.of_below belB) (((H1.out.eqw (w':=((X.src s lv (p':Int) l').alloc (.cells #[.int .i64 0,.int .i64 0,.int .i64 0,.int .i64 0,.string ⟨#[]⟩,.slice none 0 0] 27)).grow bs d) (by simp [go_sem,hs,alloc_drewN'])).lift0 ?_ ?_ d).mono ?_)
 all_goals first
  |(intro b hb;simp at hb;omega)
  |(simp;done)
  |(simp;omega)
theorem expr_low(s:Nat)(lv ev:Value)(zs:List Int)(env:List (ByteArray × Int))(n:Nat)(dim:Int)(p:Nat)(left deep:Int)(E:Ex)(p':Nat)(l':Int)(X:World)(hr:Hid (leafF zs env dim p left=(E,p',l')))(hleft0:left≤0)(hdeep:deep=5-n)(hn:n≤4)(hd1:1≤dim)(hd4:dim≤4)(hs:s<X.heap.size)
 (hl:Hid (ListAt X s lv zs)) (he:Hid (EnvAt X s ev env)) (hp:p≤900000) (hleft:-900000≤left) (hleft2:left≤900000):Calls Tryz.prog 30 #[.pointer (some ⟨s,0,none⟩),.int .i64 dim,.int .i64 deep,ev] (X.src s lv p left) (ExPost s lv X (E,p',l')):=by
 have h6:deep<6:=by omega
 have HL:=hr
 go_enter Tryz.func30,Tryz.ntmps30
 go_wp2_with fail
 refine(leaf_any s lv zs p _ left _ _ env _ rfl (by omega) (by omega) (by simp;omega) (by simp [go_sem,hs]) (Lib.hid (by(repeat' (first|(with_reducible exact hl.out)|(with_reducible refine ListAt.alloc ?_ _)|(with_reducible refine ListAt.grow ?_ _ _)|(with_reducible refine ListAt.drewN ?_ _)|(with_reducible refine ListAt.src ?_ _ _ _))))) (Lib.hid (by(repeat' (first|(with_reducible exact he.out)|(with_reducible refine EnvAt.alloc ?_ _)|(with_reducible refine EnvAt.grow ?_ _ _)|(with_reducible refine EnvAt.drewN ?_ _)|(with_reducible refine EnvAt.src ?_ _ _ _))))) (by omega) (by omega) (by omega)).mono ?_
 rintro e w' ⟨v,bs,d,rfl,rfl,hrep⟩
 rw [HL.out]at hrep
 simp only [HL.out]
 have H1:=Lib.hid hrep
 obtain⟨va,vc,hv⟩:=hrep.form
 subst hv
 clear hrep
 go_wp2_with fail
 go_returns
 refine ExPost.of_eq (P':=(p':Int)) rfl rfl rfl (.of_below belB) (((H1.out.eqw (w':=((X.src s lv (p':Int) l').alloc (.cells #[.int .i64 0,.int .i64 0,.int .i64 0,.int .i64 0,.string ⟨#[]⟩,.slice none 0 0] 27)).grow bs d) (by simp [go_sem,hs,alloc_drewN'])).lift0 ?_ ?_ d).mono ?_)
 all_goals first
  |(intro b hb;simp at hb;omega)
  |(simp;done)
  |(simp;omega)
theorem expr_b0
 (s:Nat) (lv ev:Value) (zs:List Int) (env:List (ByteArray × Int)) (n:Nat) (IH:Hid (ExprOK s lv ev zs env n)) (dim:Int) (p:Nat) (left deep:Int) (E:Ex) (p':Nat) (l':Int) (kk:Int) (X:World) (hr:Hid (exprF zs env (n+1) dim p left=(E,p',l'))) (HK:Hid (nextV zs p 14=kk)) (hleft0:0<left) (hdeep:Hid (deep=5-n)) (hn:n≤4) (hd4:dim≤4) (hs:s<X.heap.size) (hl:Hid (ListAt X s lv zs)) (he:Hid (EnvAt X s ev env)) (hp:p+(3*costN n+3)≤900000) (hleft:-900000≤left-(3*(costN n:Int)+3)) (hleft2:left≤900000)
 (hd1:dim=1) (hkk:kk=0):(Calls Tryz.prog 30 #[.pointer (some ⟨s,0,none⟩),.int .i64 dim,.int .i64 deep,ev] (X.src s lv p left) (ExPost s lv X (E,p',l'))):=by
 subst hd1
 subst hkk
 have hpr:prodF zs p 1=some (17,[1,1],p+1):=by simp [prodF,HK.out]
 have hF:=exprF_some zs env n _ p left hleft0 hpr
 rw [hr.out]at hF
 generalize hll:nodeF (exprF zs env n) [1,1] (p+1) (left-2)=rr at hF
 obtain⟨ll,pp,le⟩:=rr
 simp only [Prod.mk.injEq]at hF
 obtain⟨rfl,rfl,rfl⟩:=hF
 have HLL:=Lib.hid hll
 clear hll hpr
 have h6:deep<6:=by have:=hdeep.out;omega
 have hc8:=costN_8 n
 go_enter Tryz.func30,Tryz.ntmps30
 go_wp2_with fail
 refine(next_any s lv zs p p (left-2) _ _ rfl (by simp;omega) (by simp [go_sem,hs]) (by(repeat' (first|(with_reducible exact hl.out)|(with_reducible refine ListAt.alloc ?_ _)|(with_reducible refine ListAt.grow ?_ _ _)|(with_reducible refine ListAt.drewN ?_ _)|(with_reducible refine ListAt.src ?_ _ _ _)))) (by omega) (by omega)).mono ?_
 rintro e w' ⟨rfl,n1,rfl⟩
 rw [HK.out]
 go_wp2_with fail
 refine(node_any2 s lv ev zs env n IH _ _ [1,1] _ (p+1) ((p:Int)+1) _ ll p' l' _ HLL (by omega) (by omega) (by have:=hdeep.out;omega) (by omega) (by simp;omega) (by simp [go_sem,hs]) (Lib.hid (by(repeat' (first|(with_reducible exact hl.out)|(with_reducible refine ListAt.alloc ?_ _)|(with_reducible refine ListAt.grow ?_ _ _)|(with_reducible refine ListAt.drewN ?_ _)|(with_reducible refine ListAt.src ?_ _ _ _))))) (Lib.hid (by(repeat' (first|(with_reducible exact he.out)|(with_reducible refine EnvAt.alloc ?_ _)|(with_reducible refine EnvAt.grow ?_ _ _)|(with_reducible refine EnvAt.drewN ?_ _)|(with_reducible refine EnvAt.src ?_ _ _ _))))) (by omega) (by omega) (by omega) (by simp) (by simp) (by omega) (dims2 (by omega) (by omega)) (cell_dims _ [1,1] _ _ (by simp))).mono ?_
 rintro e w' ⟨v,bs,d,rfl,rfl,hrep⟩
 have H1:=Lib.hid hrep
 obtain⟨va,vc,hv⟩:=hrep.form
 subst hv
 clear hrep
 go_wp2_with fail
 go_returns
 refine ExPost.of_eq (P':=(p':Int)) rfl rfl rfl (.of_below belB) (((H1.out.eqw (w':=(((X.src s lv (p':Int) l').alloc (.cells #[.int .i64 0,.int .i64 0,.int .i64 0,.int .i64 0,.string ⟨#[]⟩,.slice none 0 0] 27)).alloc (.cells #[.int .i64 1,.int .i64 1] 3)).grow bs d) (by simp [go_sem,hs,alloc_drewN'])).lift0 ?_ ?_ d).mono ?_)
 all_goals first
  |(intro b hb;simp at hb;omega)
  |(simp;done)
  |(simp;omega)
theorem expr_b1
 (s:Nat) (lv ev:Value) (zs:List Int) (env:List (ByteArray × Int)) (n:Nat) (IH:Hid (ExprOK s lv ev zs env n)) (dim:Int) (p:Nat) (left deep:Int) (E:Ex) (p':Nat) (l':Int) (kk:Int) (X:World) (hr:Hid (exprF zs env (n+1) dim p left=(E,p',l'))) (HK:Hid (nextV zs p 14=kk)) (hleft0:0<left) (hdeep:Hid (deep=5-n)) (hn:n≤4) (hd4:dim≤4) (hs:s<X.heap.size) (hl:Hid (ListAt X s lv zs)) (he:Hid (EnvAt X s ev env)) (hp:p+(3*costN n+3)≤900000) (hleft:-900000≤left-(3*(costN n:Int)+3)) (hleft2:left≤900000)
 (hd1:dim=1) (hkk:kk=1):(Calls Tryz.prog 30 #[.pointer (some ⟨s,0,none⟩),.int .i64 dim,.int .i64 deep,ev] (X.src s lv p left) (ExPost s lv X (E,p',l'))):=by
 subst hd1
 subst hkk
 have hpr:prodF zs p 1=some (18,[1,1],p+1):=by simp [prodF,HK.out]
 have hF:=exprF_some zs env n _ p left hleft0 hpr
 rw [hr.out]at hF
 generalize hll:nodeF (exprF zs env n) [1,1] (p+1) (left-2)=rr at hF
 obtain⟨ll,pp,le⟩:=rr
 simp only [Prod.mk.injEq]at hF
 obtain⟨rfl,rfl,rfl⟩:=hF
 have HLL:=Lib.hid hll
 clear hll hpr
 have h6:deep<6:=by have:=hdeep.out;omega
 have hc8:=costN_8 n
 go_enter Tryz.func30,Tryz.ntmps30
 go_wp2_with fail
 refine(next_any s lv zs p p (left-2) _ _ rfl (by simp;omega) (by simp [go_sem,hs]) (by(repeat' (first|(with_reducible exact hl.out)|(with_reducible refine ListAt.alloc ?_ _)|(with_reducible refine ListAt.grow ?_ _ _)|(with_reducible refine ListAt.drewN ?_ _)|(with_reducible refine ListAt.src ?_ _ _ _)))) (by omega) (by omega)).mono ?_
 rintro e w' ⟨rfl,n1,rfl⟩
 rw [HK.out]
 go_wp2_with fail
 refine(node_any2 s lv ev zs env n IH _ _ [1,1] _ (p+1) ((p:Int)+1) _ ll p' l' _ HLL (by omega) (by omega) (by have:=hdeep.out;omega) (by omega) (by simp;omega) (by simp [go_sem,hs]) (Lib.hid (by(repeat' (first|(with_reducible exact hl.out)|(with_reducible refine ListAt.alloc ?_ _)|(with_reducible refine ListAt.grow ?_ _ _)|(with_reducible refine ListAt.drewN ?_ _)|(with_reducible refine ListAt.src ?_ _ _ _))))) (Lib.hid (by(repeat' (first|(with_reducible exact he.out)|(with_reducible refine EnvAt.alloc ?_ _)|(with_reducible refine EnvAt.grow ?_ _ _)|(with_reducible refine EnvAt.drewN ?_ _)|(with_reducible refine EnvAt.src ?_ _ _ _))))) (by omega) (by omega) (by omega) (by simp) (by simp) (by omega) (dims2 (by omega) (by omega)) (cell_dims _ [1,1] _ _ (by simp))).mono ?_
 rintro e w' ⟨v,bs,d,rfl,rfl,hrep⟩
 have H1:=Lib.hid hrep
 obtain⟨va,vc,hv⟩:=hrep.form
 subst hv
 clear hrep
 go_wp2_with fail
 go_returns
 refine ExPost.of_eq (P':=(p':Int)) rfl rfl rfl (.of_below belB) (((H1.out.eqw (w':=(((X.src s lv (p':Int) l').alloc (.cells #[.int .i64 0,.int .i64 0,.int .i64 0,.int .i64 0,.string ⟨#[]⟩,.slice none 0 0] 27)).alloc (.cells #[.int .i64 1,.int .i64 1] 3)).grow bs d) (by simp [go_sem,hs,alloc_drewN'])).lift0 ?_ ?_ d).mono ?_)
 all_goals first
  |(intro b hb;simp at hb;omega)
  |(simp;done)
  |(simp;omega)
theorem expr_b2
 (s:Nat) (lv ev:Value) (zs:List Int) (env:List (ByteArray × Int)) (n:Nat) (IH:Hid (ExprOK s lv ev zs env n)) (dim:Int) (p:Nat) (left deep:Int) (E:Ex) (p':Nat) (l':Int) (kk:Int) (X:World) (hr:Hid (exprF zs env (n+1) dim p left=(E,p',l'))) (HK:Hid (nextV zs p 14=kk)) (hleft0:0<left) (hdeep:Hid (deep=5-n)) (hn:n≤4) (hd4:dim≤4) (hs:s<X.heap.size) (hl:Hid (ListAt X s lv zs)) (he:Hid (EnvAt X s ev env)) (hp:p+(3*costN n+3)≤900000) (hleft:-900000≤left-(3*(costN n:Int)+3)) (hleft2:left≤900000)
 (hd1:dim=1) (hkk:kk=2):(Calls Tryz.prog 30 #[.pointer (some ⟨s,0,none⟩),.int .i64 dim,.int .i64 deep,ev] (X.src s lv p left) (ExPost s lv X (E,p',l'))):=by
 subst hd1
 subst hkk
 have hpr:prodF zs p 1=some (5,[1],p+1):=by simp [prodF,HK.out]
 have hF:=exprF_some zs env n _ p left hleft0 hpr
 rw [hr.out]at hF
 generalize hll:nodeF (exprF zs env n) [1] (p+1) (left-2)=rr at hF
 obtain⟨ll,pp,le⟩:=rr
 simp only [Prod.mk.injEq]at hF
 obtain⟨rfl,rfl,rfl⟩:=hF
 have HLL:=Lib.hid hll
 clear hll hpr
 have h6:deep<6:=by have:=hdeep.out;omega
 have hc8:=costN_8 n
 go_enter Tryz.func30,Tryz.ntmps30
 go_wp2_with fail
 refine(next_any s lv zs p p (left-2) _ _ rfl (by simp;omega) (by simp [go_sem,hs]) (by(repeat' (first|(with_reducible exact hl.out)|(with_reducible refine ListAt.alloc ?_ _)|(with_reducible refine ListAt.grow ?_ _ _)|(with_reducible refine ListAt.drewN ?_ _)|(with_reducible refine ListAt.src ?_ _ _ _)))) (by omega) (by omega)).mono ?_
 rintro e w' ⟨rfl,n1,rfl⟩
 rw [HK.out]
 go_wp2_with fail
 refine(node_any2 s lv ev zs env n IH _ _ [1] _ (p+1) ((p:Int)+1) _ ll p' l' _ HLL (by omega) (by omega) (by have:=hdeep.out;omega) (by omega) (by simp;omega) (by simp [go_sem,hs]) (Lib.hid (by(repeat' (first|(with_reducible exact hl.out)|(with_reducible refine ListAt.alloc ?_ _)|(with_reducible refine ListAt.grow ?_ _ _)|(with_reducible refine ListAt.drewN ?_ _)|(with_reducible refine ListAt.src ?_ _ _ _))))) (Lib.hid (by(repeat' (first|(with_reducible exact he.out)|(with_reducible refine EnvAt.alloc ?_ _)|(with_reducible refine EnvAt.grow ?_ _ _)|(with_reducible refine EnvAt.drewN ?_ _)|(with_reducible refine EnvAt.src ?_ _ _ _))))) (by omega) (by omega) (by omega) (by simp) (by simp) (by omega) (dims1 (by omega)) (cell_dims _ [1] _ _ (by simp))).mono ?_
 rintro e w' ⟨v,bs,d,rfl,rfl,hrep⟩
 have H1:=Lib.hid hrep
 obtain⟨va,vc,hv⟩:=hrep.form
 subst hv
 clear hrep
 go_wp2_with fail
 go_returns
 refine ExPost.of_eq (P':=(p':Int)) rfl rfl rfl (.of_below belB) (((H1.out.eqw (w':=(((X.src s lv (p':Int) l').alloc (.cells #[.int .i64 0,.int .i64 0,.int .i64 0,.int .i64 0,.string ⟨#[]⟩,.slice none 0 0] 27)).alloc (.cells #[.int .i64 1] 3)).grow bs d) (by simp [go_sem,hs,alloc_drewN'])).lift0 ?_ ?_ d).mono ?_)
 all_goals first
  |(intro b hb;simp at hb;omega)
  |(simp;done)
  |(simp;omega)
theorem expr_b3
 (s:Nat) (lv ev:Value) (zs:List Int) (env:List (ByteArray × Int)) (n:Nat) (IH:Hid (ExprOK s lv ev zs env n)) (dim:Int) (p:Nat) (left deep:Int) (E:Ex) (p':Nat) (l':Int) (kk:Int) (X:World) (hr:Hid (exprF zs env (n+1) dim p left=(E,p',l'))) (HK:Hid (nextV zs p 14=kk)) (hleft0:0<left) (hdeep:Hid (deep=5-n)) (hn:n≤4) (hd4:dim≤4) (hs:s<X.heap.size) (hl:Hid (ListAt X s lv zs)) (he:Hid (EnvAt X s ev env)) (hp:p+(3*costN n+3)≤900000) (hleft:-900000≤left-(3*(costN n:Int)+3)) (hleft2:left≤900000)
 (hd1:dim=1) (hkk:kk=3):(Calls Tryz.prog 30 #[.pointer (some ⟨s,0,none⟩),.int .i64 dim,.int .i64 deep,ev] (X.src s lv p left) (ExPost s lv X (E,p',l'))):=by
 subst hd1
 subst hkk
 have hpr:prodF zs p 1=some (21,[1,1,1],p+1):=by simp [prodF,HK.out]
 have hF:=exprF_some zs env n _ p left hleft0 hpr
 rw [hr.out]at hF
 generalize hll:nodeF (exprF zs env n) [1,1,1] (p+1) (left-2)=rr at hF
 obtain⟨ll,pp,le⟩:=rr
 simp only [Prod.mk.injEq]at hF
 obtain⟨rfl,rfl,rfl⟩:=hF
 have HLL:=Lib.hid hll
 clear hll hpr
 have h6:deep<6:=by have:=hdeep.out;omega
 have hc8:=costN_8 n
 go_enter Tryz.func30,Tryz.ntmps30
 go_wp2_with fail
 refine(next_any s lv zs p p (left-2) _ _ rfl (by simp;omega) (by simp [go_sem,hs]) (by(repeat' (first|(with_reducible exact hl.out)|(with_reducible refine ListAt.alloc ?_ _)|(with_reducible refine ListAt.grow ?_ _ _)|(with_reducible refine ListAt.drewN ?_ _)|(with_reducible refine ListAt.src ?_ _ _ _)))) (by omega) (by omega)).mono ?_
 rintro e w' ⟨rfl,n1,rfl⟩
 rw [HK.out]
 go_wp2_with fail
 refine(node_any2 s lv ev zs env n IH _ _ [1,1,1] _ (p+1) ((p:Int)+1) _ ll p' l' _ HLL (by omega) (by omega) (by have:=hdeep.out;omega) (by omega) (by simp;omega) (by simp [go_sem,hs]) (Lib.hid (by(repeat' (first|(with_reducible exact hl.out)|(with_reducible refine ListAt.alloc ?_ _)|(with_reducible refine ListAt.grow ?_ _ _)|(with_reducible refine ListAt.drewN ?_ _)|(with_reducible refine ListAt.src ?_ _ _ _))))) (Lib.hid (by(repeat' (first|(with_reducible exact he.out)|(with_reducible refine EnvAt.alloc ?_ _)|(with_reducible refine EnvAt.grow ?_ _ _)|(with_reducible refine EnvAt.drewN ?_ _)|(with_reducible refine EnvAt.src ?_ _ _ _))))) (by omega) (by omega) (by omega) (by simp) (by simp) (by omega) (dims3 (by omega) (by omega) (by omega)) (cell_dims _ [1,1,1] _ _ (by simp))).mono ?_
 rintro e w' ⟨v,bs,d,rfl,rfl,hrep⟩
 have H1:=Lib.hid hrep
 obtain⟨va,vc,hv⟩:=hrep.form
 subst hv
 clear hrep
 go_wp2_with fail
 go_returns
 refine ExPost.of_eq (P':=(p':Int)) rfl rfl rfl (.of_below belB) (((H1.out.eqw (w':=(((X.src s lv (p':Int) l').alloc (.cells #[.int .i64 0,.int .i64 0,.int .i64 0,.int .i64 0,.string ⟨#[]⟩,.slice none 0 0] 27)).alloc (.cells #[.int .i64 1,.int .i64 1,.int .i64 1] 3)).grow bs d) (by simp [go_sem,hs,alloc_drewN'])).lift0 ?_ ?_ d).mono ?_)
 all_goals first
  |(intro b hb;simp at hb;omega)
  |(simp;done)
  |(simp;omega)
theorem expr_bcmp
 (s:Nat) (lv ev:Value) (zs:List Int) (env:List (ByteArray × Int)) (n:Nat) (IH:Hid (ExprOK s lv ev zs env n)) (dim:Int) (p:Nat) (left deep:Int) (E:Ex) (p':Nat) (l':Int) (kk:Int) (X:World) (hr:Hid (exprF zs env (n+1) dim p left=(E,p',l'))) (HK:Hid (nextV zs p 14=kk)) (hleft0:0<left) (hdeep:Hid (deep=5-n)) (hn:n≤4) (hd4:dim≤4) (hs:s<X.heap.size) (hl:Hid (ListAt X s lv zs)) (he:Hid (EnvAt X s ev env)) (hp:p+(3*costN n+3)≤900000) (hleft:-900000≤left-(3*(costN n:Int)+3)) (hleft2:left≤900000)
 (hd1:dim=1) (hkk:kk=4∨kk=5∨kk=6∨kk=7∨kk=8):(Calls Tryz.prog 30 #[.pointer (some ⟨s,0,none⟩),.int .i64 dim,.int .i64 deep,ev] (X.src s lv p left) (ExPost s lv X (E,p',l'))):=by
 subst hd1
 have hb1:=nextV_bd zs (p+1) 3 (by omega)
 have hb2:=nextV_bd zs (p+2) 6 (by omega)
 have hpr0:prodF zs p 1=some (11+nextV zs (p+2) 6,[2+nextV zs (p+1) 3,2+nextV zs (p+1) 3],p+3):=by
  rcases hkk with rfl|rfl|rfl|rfl|rfl<;>simp [prodF,HK.out]
 generalize hA:nextV zs (p+1) 3=a at hb1 hpr0
 generalize hC:nextV zs (p+2) 6=c at hb2 hpr0
 have HA:=Lib.hid hA
 have HC:=Lib.hid hC
 clear hA hC
 have hpr:=hpr0
 clear hpr0
 have hF:=exprF_some zs env n _ p left hleft0 hpr
 rw [hr.out]at hF
 generalize hll:nodeF (exprF zs env n) [2+a,2+a] (p+3) (left-2)=rr at hF
 obtain⟨ll,pp,le⟩:=rr
 simp only [Prod.mk.injEq]at hF
 obtain⟨rfl,rfl,rfl⟩:=hF
 have HLL:=Lib.hid hll
 clear hll hpr
 rcases hkk with rfl|rfl|rfl|rfl|rfl
 all_goals
  have h6:deep<6:=by have:=hdeep.out;omega
  have hc8:=costN_8 n
  go_enter Tryz.func30,Tryz.ntmps30
  go_wp2_with fail
  refine(next_any s lv zs p p (left-2) _ _ rfl (by simp;omega) (by simp [go_sem,hs]) (by(repeat' (first|(with_reducible exact hl.out)|(with_reducible refine ListAt.alloc ?_ _)|(with_reducible refine ListAt.grow ?_ _ _)|(with_reducible refine ListAt.drewN ?_ _)|(with_reducible refine ListAt.src ?_ _ _ _)))) (by omega) (by omega)).mono ?_
  rintro e w' ⟨rfl,n1,rfl⟩
  rw [HK.out]
  go_wp2_with fail
  refine(next_any s lv zs (p+1) (p+1) (left-2) _ _ (by simp) (by simp;omega) (by simp [go_sem,hs]) (by(repeat' (first|(with_reducible exact hl.out)|(with_reducible refine ListAt.alloc ?_ _)|(with_reducible refine ListAt.grow ?_ _ _)|(with_reducible refine ListAt.drewN ?_ _)|(with_reducible refine ListAt.src ?_ _ _ _)))) (by omega) (by omega)).mono ?_
  rintro e w' ⟨rfl,n2,rfl⟩
  rw [HA.out]
  go_wp2_with fail
  refine(next_any s lv zs (p+2) (p+1+1) (left-2) _ _ (by omega) (by simp;omega) (by simp [go_sem,hs]) (by(repeat' (first|(with_reducible exact hl.out)|(with_reducible refine ListAt.alloc ?_ _)|(with_reducible refine ListAt.grow ?_ _ _)|(with_reducible refine ListAt.drewN ?_ _)|(with_reducible refine ListAt.src ?_ _ _ _)))) (by omega) (by omega)).mono ?_
  rintro e w' ⟨rfl,n3,rfl⟩
  rw [HC.out]
  go_wp2_with fail
  refine(node_any2 s lv ev zs env n IH _ _ [2+a,2+a] _ (p+3) ((p:Int)+1+1+1) _ ll p' l' _ HLL (by omega) (by omega) (by have:=hdeep.out;omega) (by omega) (by simp;omega) (by simp [go_sem,hs]) (Lib.hid (by(repeat' (first|(with_reducible exact hl.out)|(with_reducible refine ListAt.alloc ?_ _)|(with_reducible refine ListAt.grow ?_ _ _)|(with_reducible refine ListAt.drewN ?_ _)|(with_reducible refine ListAt.src ?_ _ _ _))))) (Lib.hid (by(repeat' (first|(with_reducible exact he.out)|(with_reducible refine EnvAt.alloc ?_ _)|(with_reducible refine EnvAt.grow ?_ _ _)|(with_reducible refine EnvAt.drewN ?_ _)|(with_reducible refine EnvAt.src ?_ _ _ _))))) (by omega) (by omega) (by omega) (by simp) (by simp) (by omega) (dims2 (by omega) (by omega)) (cell_dims _ [2+a,2+a] _ _ (by simp))).mono ?_
  rintro e w' ⟨v,bs,d,rfl,rfl,hrep⟩
  have H1:=Lib.hid hrep
  obtain⟨va,vc,hv⟩:=hrep.form
  subst hv
  clear hrep
  go_wp2_with fail
  go_returns
  refine ExPost.of_eq (P':=(p':Int)) rfl rfl rfl (.of_below belB) (((H1.out.eqw (w':=(((X.src s lv (p':Int) l').alloc (.cells #[.int .i64 0,.int .i64 0,.int .i64 0,.int .i64 0,.string ⟨#[]⟩,.slice none 0 0] 27)).alloc (.cells #[.int .i64 (2+a),.int .i64 (2+a)] 3)).grow bs d) (by simp [go_sem,hs,alloc_drewN'])).lift0 ?_ ?_ d).mono ?_)
  all_goals first
   |(intro b hb;simp at hb;omega)
   |(simp;done)
   |(simp;omega)
theorem expr_bleaf
 (s:Nat) (lv ev:Value) (zs:List Int) (env:List (ByteArray × Int)) (n:Nat) (IH:Hid (ExprOK s lv ev zs env n)) (dim:Int) (p:Nat) (left deep:Int) (E:Ex) (p':Nat) (l':Int) (kk:Int) (X:World) (hr:Hid (exprF zs env (n+1) dim p left=(E,p',l'))) (HK:Hid (nextV zs p 14=kk)) (hleft0:0<left) (hdeep:Hid (deep=5-n)) (hn:n≤4) (hd4:dim≤4) (hs:s<X.heap.size) (hl:Hid (ListAt X s lv zs)) (he:Hid (EnvAt X s ev env)) (hp:p+(3*costN n+3)≤900000) (hleft:-900000≤left-(3*(costN n:Int)+3)) (hleft2:left≤900000)
 (hd1:dim=1) (hkk:kk=9∨kk=10∨kk=11∨kk=12∨kk=13):(Calls Tryz.prog 30 #[.pointer (some ⟨s,0,none⟩),.int .i64 dim,.int .i64 deep,ev] (X.src s lv p left) (ExPost s lv X (E,p',l'))):=by
 subst hd1
 have hpr:prodF zs p 1=none:=by
  rcases hkk with rfl|rfl|rfl|rfl|rfl<;>simp [prodF,HK.out]
 have hF:=exprF_none zs env n 1 p left hleft0 hpr
 rw [hr.out]at hF
 have HL:=Lib.hid hF.symm
 clear hF hpr
 rcases hkk with rfl|rfl|rfl|rfl|rfl
 all_goals
  have h6:deep<6:=by have:=hdeep.out;omega
  have hc8:=costN_8 n
  go_enter Tryz.func30,Tryz.ntmps30
  go_wp2_with fail
  refine(next_any s lv zs p p (left-2) _ _ rfl (by simp;omega) (by simp [go_sem,hs]) (by(repeat' (first|(with_reducible exact hl.out)|(with_reducible refine ListAt.alloc ?_ _)|(with_reducible refine ListAt.grow ?_ _ _)|(with_reducible refine ListAt.drewN ?_ _)|(with_reducible refine ListAt.src ?_ _ _ _)))) (by omega) (by omega)).mono ?_
  rintro e w' ⟨rfl,n1,rfl⟩
  rw [HK.out]
  go_wp2_with fail
  refine(leaf_any s lv zs (p+1) _ (left-2) _ _ env _ rfl (by omega) (by omega) (by simp;omega) (by simp [go_sem,hs]) (Lib.hid (by(repeat' (first|(with_reducible exact hl.out)|(with_reducible refine ListAt.alloc ?_ _)|(with_reducible refine ListAt.grow ?_ _ _)|(with_reducible refine ListAt.drewN ?_ _)|(with_reducible refine ListAt.src ?_ _ _ _))))) (Lib.hid (by(repeat' (first|(with_reducible exact he.out)|(with_reducible refine EnvAt.alloc ?_ _)|(with_reducible refine EnvAt.grow ?_ _ _)|(with_reducible refine EnvAt.drewN ?_ _)|(with_reducible refine EnvAt.src ?_ _ _ _))))) (by omega) (by omega) (by omega)).mono ?_
  rintro e w' ⟨v,bs,d,rfl,rfl,hrep⟩
  rw [HL.out]at hrep
  simp only [HL.out]
  have H1:=Lib.hid hrep
  obtain⟨va,vc,hv⟩:=hrep.form
  subst hv
  clear hrep
  go_wp2_with fail
  go_returns
  refine ExPost.of_eq (P':=(p':Int)) rfl rfl rfl (.of_below belB) (((H1.out.eqw (w':=((X.src s lv (p':Int) l').alloc (.cells #[.int .i64 0,.int .i64 0,.int .i64 0,.int .i64 0,.string ⟨#[]⟩,.slice none 0 0] 27)).grow bs d) (by simp [go_sem,hs,alloc_drewN'])).lift0 ?_ ?_ d).mono ?_)
  all_goals first
   |(intro b hb;simp at hb;omega)
   |(simp;done)
   |(simp;omega)

theorem expr_n0
 (s:Nat) (lv ev:Value) (zs:List Int) (env:List (ByteArray × Int)) (n:Nat) (IH:Hid (ExprOK s lv ev zs env n)) (dim:Int) (p:Nat) (left deep:Int) (E:Ex) (p':Nat) (l':Int) (kk:Int) (X:World) (hr:Hid (exprF zs env (n+1) dim p left=(E,p',l'))) (HK:Hid (nextV zs p 14=kk)) (hleft0:0<left) (hdeep:Hid (deep=5-n)) (hn:n≤4) (hd4:dim≤4) (hs:s<X.heap.size) (hl:Hid (ListAt X s lv zs)) (he:Hid (EnvAt X s ev env)) (hp:p+(3*costN n+3)≤900000) (hleft:-900000≤left-(3*(costN n:Int)+3)) (hleft2:left≤900000)
 (hd1:2≤dim) (hkk:kk=0):(Calls Tryz.prog 30 #[.pointer (some ⟨s,0,none⟩),.int .i64 dim,.int .i64 deep,ev] (X.src s lv p left) (ExPost s lv X (E,p',l'))):=by
 subst hkk
 have hne:¬dim=1:=by omega
 have hpr:prodF zs p dim=some (7,[dim,dim],p+1):=by simp [prodF,HK.out,hne]
 have hne1:(dim==1)=false:=by simp;omega
 clear hne
 have hF:=exprF_some zs env n _ p left hleft0 hpr
 rw [hr.out]at hF
 generalize hll:nodeF (exprF zs env n) [dim,dim] (p+1) (left-2)=rr at hF
 obtain⟨ll,pp,le⟩:=rr
 simp only [Prod.mk.injEq]at hF
 obtain⟨rfl,rfl,rfl⟩:=hF
 have HLL:=Lib.hid hll
 clear hll hpr
 have h6:deep<6:=by have:=hdeep.out;omega
 have hc8:=costN_8 n
 go_enter Tryz.func30,Tryz.ntmps30
 go_wp2_with fail
 refine(next_any s lv zs p p (left-2) _ _ rfl (by simp;omega) (by simp [go_sem,hs]) (by(repeat' (first|(with_reducible exact hl.out)|(with_reducible refine ListAt.alloc ?_ _)|(with_reducible refine ListAt.grow ?_ _ _)|(with_reducible refine ListAt.drewN ?_ _)|(with_reducible refine ListAt.src ?_ _ _ _)))) (by omega) (by omega)).mono ?_
 rintro e w' ⟨rfl,n1,rfl⟩
 rw [HK.out]
 go_wp2_with fail
 refine(node_any2 s lv ev zs env n IH _ _ [dim,dim] _ (p+1) ((p:Int)+1) _ ll p' l' _ HLL (by omega) (by omega) (by have:=hdeep.out;omega) (by omega) (by simp;omega) (by simp [go_sem,hs]) (Lib.hid (by(repeat' (first|(with_reducible exact hl.out)|(with_reducible refine ListAt.alloc ?_ _)|(with_reducible refine ListAt.grow ?_ _ _)|(with_reducible refine ListAt.drewN ?_ _)|(with_reducible refine ListAt.src ?_ _ _ _))))) (Lib.hid (by(repeat' (first|(with_reducible exact he.out)|(with_reducible refine EnvAt.alloc ?_ _)|(with_reducible refine EnvAt.grow ?_ _ _)|(with_reducible refine EnvAt.drewN ?_ _)|(with_reducible refine EnvAt.src ?_ _ _ _))))) (by omega) (by omega) (by omega) (by simp) (by simp) (by omega) (dims2 (by omega) (by omega)) (cell_dims _ [dim,dim] _ _ (by simp))).mono ?_
 rintro e w' ⟨v,bs,d,rfl,rfl,hrep⟩
 have H1:=Lib.hid hrep
 obtain⟨va,vc,hv⟩:=hrep.form
 subst hv
 clear hrep
 go_wp2_with fail
 go_returns
 refine ExPost.of_eq (P':=(p':Int)) rfl rfl rfl (.of_below belB) (((H1.out.eqw (w':=((((X.src s lv (p':Int) l').alloc (.cells #[.int .i64 0,.int .i64 0,.int .i64 0,.int .i64 0,.string ⟨#[]⟩,.slice none 0 0] 27)).alloc (.cells #[.int .i64 7,.int .i64 8,.int .i64 19,.int .i64 20] 3)).alloc (.cells #[.int .i64 dim,.int .i64 dim] 3)).grow bs d) (by simp [go_sem,hs,alloc_drewN'])).lift0 ?_ ?_ d).mono ?_)
 all_goals first
  |(intro b hb;simp at hb;omega)
  |(simp;done)
  |(simp;omega)
theorem expr_n1
 (s:Nat) (lv ev:Value) (zs:List Int) (env:List (ByteArray × Int)) (n:Nat) (IH:Hid (ExprOK s lv ev zs env n)) (dim:Int) (p:Nat) (left deep:Int) (E:Ex) (p':Nat) (l':Int) (kk:Int) (X:World) (hr:Hid (exprF zs env (n+1) dim p left=(E,p',l'))) (HK:Hid (nextV zs p 14=kk)) (hleft0:0<left) (hdeep:Hid (deep=5-n)) (hn:n≤4) (hd4:dim≤4) (hs:s<X.heap.size) (hl:Hid (ListAt X s lv zs)) (he:Hid (EnvAt X s ev env)) (hp:p+(3*costN n+3)≤900000) (hleft:-900000≤left-(3*(costN n:Int)+3)) (hleft2:left≤900000)
 (hd1:2≤dim) (hkk:kk=1):(Calls Tryz.prog 30 #[.pointer (some ⟨s,0,none⟩),.int .i64 dim,.int .i64 deep,ev] (X.src s lv p left) (ExPost s lv X (E,p',l'))):=by
 subst hkk
 have hne:¬dim=1:=by omega
 have hpr:prodF zs p dim=some (8,[dim,dim],p+1):=by simp [prodF,HK.out,hne]
 have hne1:(dim==1)=false:=by simp;omega
 clear hne
 have hF:=exprF_some zs env n _ p left hleft0 hpr
 rw [hr.out]at hF
 generalize hll:nodeF (exprF zs env n) [dim,dim] (p+1) (left-2)=rr at hF
 obtain⟨ll,pp,le⟩:=rr
 simp only [Prod.mk.injEq]at hF
 obtain⟨rfl,rfl,rfl⟩:=hF
 have HLL:=Lib.hid hll
 clear hll hpr
 have h6:deep<6:=by have:=hdeep.out;omega
 have hc8:=costN_8 n
 go_enter Tryz.func30,Tryz.ntmps30
 go_wp2_with fail
 refine(next_any s lv zs p p (left-2) _ _ rfl (by simp;omega) (by simp [go_sem,hs]) (by(repeat' (first|(with_reducible exact hl.out)|(with_reducible refine ListAt.alloc ?_ _)|(with_reducible refine ListAt.grow ?_ _ _)|(with_reducible refine ListAt.drewN ?_ _)|(with_reducible refine ListAt.src ?_ _ _ _)))) (by omega) (by omega)).mono ?_
 rintro e w' ⟨rfl,n1,rfl⟩
 rw [HK.out]
 go_wp2_with fail
 refine(node_any2 s lv ev zs env n IH _ _ [dim,dim] _ (p+1) ((p:Int)+1) _ ll p' l' _ HLL (by omega) (by omega) (by have:=hdeep.out;omega) (by omega) (by simp;omega) (by simp [go_sem,hs]) (Lib.hid (by(repeat' (first|(with_reducible exact hl.out)|(with_reducible refine ListAt.alloc ?_ _)|(with_reducible refine ListAt.grow ?_ _ _)|(with_reducible refine ListAt.drewN ?_ _)|(with_reducible refine ListAt.src ?_ _ _ _))))) (Lib.hid (by(repeat' (first|(with_reducible exact he.out)|(with_reducible refine EnvAt.alloc ?_ _)|(with_reducible refine EnvAt.grow ?_ _ _)|(with_reducible refine EnvAt.drewN ?_ _)|(with_reducible refine EnvAt.src ?_ _ _ _))))) (by omega) (by omega) (by omega) (by simp) (by simp) (by omega) (dims2 (by omega) (by omega)) (cell_dims _ [dim,dim] _ _ (by simp))).mono ?_
 rintro e w' ⟨v,bs,d,rfl,rfl,hrep⟩
 have H1:=Lib.hid hrep
 obtain⟨va,vc,hv⟩:=hrep.form
 subst hv
 clear hrep
 go_wp2_with fail
 go_returns
 refine ExPost.of_eq (P':=(p':Int)) rfl rfl rfl (.of_below belB) (((H1.out.eqw (w':=((((X.src s lv (p':Int) l').alloc (.cells #[.int .i64 0,.int .i64 0,.int .i64 0,.int .i64 0,.string ⟨#[]⟩,.slice none 0 0] 27)).alloc (.cells #[.int .i64 7,.int .i64 8,.int .i64 19,.int .i64 20] 3)).alloc (.cells #[.int .i64 dim,.int .i64 dim] 3)).grow bs d) (by simp [go_sem,hs,alloc_drewN'])).lift0 ?_ ?_ d).mono ?_)
 all_goals first
  |(intro b hb;simp at hb;omega)
  |(simp;done)
  |(simp;omega)
theorem expr_n2
 (s:Nat) (lv ev:Value) (zs:List Int) (env:List (ByteArray × Int)) (n:Nat) (IH:Hid (ExprOK s lv ev zs env n)) (dim:Int) (p:Nat) (left deep:Int) (E:Ex) (p':Nat) (l':Int) (kk:Int) (X:World) (hr:Hid (exprF zs env (n+1) dim p left=(E,p',l'))) (HK:Hid (nextV zs p 14=kk)) (hleft0:0<left) (hdeep:Hid (deep=5-n)) (hn:n≤4) (hd4:dim≤4) (hs:s<X.heap.size) (hl:Hid (ListAt X s lv zs)) (he:Hid (EnvAt X s ev env)) (hp:p+(3*costN n+3)≤900000) (hleft:-900000≤left-(3*(costN n:Int)+3)) (hleft2:left≤900000)
 (hd1:2≤dim) (hkk:kk=2):(Calls Tryz.prog 30 #[.pointer (some ⟨s,0,none⟩),.int .i64 dim,.int .i64 deep,ev] (X.src s lv p left) (ExPost s lv X (E,p',l'))):=by
 subst hkk
 have hne:¬dim=1:=by omega
 have hpr:prodF zs p dim=some (19,[dim,dim],p+1):=by simp [prodF,HK.out,hne]
 have hne1:(dim==1)=false:=by simp;omega
 clear hne
 have hF:=exprF_some zs env n _ p left hleft0 hpr
 rw [hr.out]at hF
 generalize hll:nodeF (exprF zs env n) [dim,dim] (p+1) (left-2)=rr at hF
 obtain⟨ll,pp,le⟩:=rr
 simp only [Prod.mk.injEq]at hF
 obtain⟨rfl,rfl,rfl⟩:=hF
 have HLL:=Lib.hid hll
 clear hll hpr
 have h6:deep<6:=by have:=hdeep.out;omega
 have hc8:=costN_8 n
 go_enter Tryz.func30,Tryz.ntmps30
 go_wp2_with fail
 refine(next_any s lv zs p p (left-2) _ _ rfl (by simp;omega) (by simp [go_sem,hs]) (by(repeat' (first|(with_reducible exact hl.out)|(with_reducible refine ListAt.alloc ?_ _)|(with_reducible refine ListAt.grow ?_ _ _)|(with_reducible refine ListAt.drewN ?_ _)|(with_reducible refine ListAt.src ?_ _ _ _)))) (by omega) (by omega)).mono ?_
 rintro e w' ⟨rfl,n1,rfl⟩
 rw [HK.out]
 go_wp2_with fail
 refine(node_any2 s lv ev zs env n IH _ _ [dim,dim] _ (p+1) ((p:Int)+1) _ ll p' l' _ HLL (by omega) (by omega) (by have:=hdeep.out;omega) (by omega) (by simp;omega) (by simp [go_sem,hs]) (Lib.hid (by(repeat' (first|(with_reducible exact hl.out)|(with_reducible refine ListAt.alloc ?_ _)|(with_reducible refine ListAt.grow ?_ _ _)|(with_reducible refine ListAt.drewN ?_ _)|(with_reducible refine ListAt.src ?_ _ _ _))))) (Lib.hid (by(repeat' (first|(with_reducible exact he.out)|(with_reducible refine EnvAt.alloc ?_ _)|(with_reducible refine EnvAt.grow ?_ _ _)|(with_reducible refine EnvAt.drewN ?_ _)|(with_reducible refine EnvAt.src ?_ _ _ _))))) (by omega) (by omega) (by omega) (by simp) (by simp) (by omega) (dims2 (by omega) (by omega)) (cell_dims _ [dim,dim] _ _ (by simp))).mono ?_
 rintro e w' ⟨v,bs,d,rfl,rfl,hrep⟩
 have H1:=Lib.hid hrep
 obtain⟨va,vc,hv⟩:=hrep.form
 subst hv
 clear hrep
 go_wp2_with fail
 go_returns
 refine ExPost.of_eq (P':=(p':Int)) rfl rfl rfl (.of_below belB) (((H1.out.eqw (w':=((((X.src s lv (p':Int) l').alloc (.cells #[.int .i64 0,.int .i64 0,.int .i64 0,.int .i64 0,.string ⟨#[]⟩,.slice none 0 0] 27)).alloc (.cells #[.int .i64 7,.int .i64 8,.int .i64 19,.int .i64 20] 3)).alloc (.cells #[.int .i64 dim,.int .i64 dim] 3)).grow bs d) (by simp [go_sem,hs,alloc_drewN'])).lift0 ?_ ?_ d).mono ?_)
 all_goals first
  |(intro b hb;simp at hb;omega)
  |(simp;done)
  |(simp;omega)
theorem expr_n3
 (s:Nat) (lv ev:Value) (zs:List Int) (env:List (ByteArray × Int)) (n:Nat) (IH:Hid (ExprOK s lv ev zs env n)) (dim:Int) (p:Nat) (left deep:Int) (E:Ex) (p':Nat) (l':Int) (kk:Int) (X:World) (hr:Hid (exprF zs env (n+1) dim p left=(E,p',l'))) (HK:Hid (nextV zs p 14=kk)) (hleft0:0<left) (hdeep:Hid (deep=5-n)) (hn:n≤4) (hd4:dim≤4) (hs:s<X.heap.size) (hl:Hid (ListAt X s lv zs)) (he:Hid (EnvAt X s ev env)) (hp:p+(3*costN n+3)≤900000) (hleft:-900000≤left-(3*(costN n:Int)+3)) (hleft2:left≤900000)
 (hd1:2≤dim) (hkk:kk=3):(Calls Tryz.prog 30 #[.pointer (some ⟨s,0,none⟩),.int .i64 dim,.int .i64 deep,ev] (X.src s lv p left) (ExPost s lv X (E,p',l'))):=by
 subst hkk
 have hne:¬dim=1:=by omega
 have hpr:prodF zs p dim=some (20,[dim,dim],p+1):=by simp [prodF,HK.out,hne]
 have hne1:(dim==1)=false:=by simp;omega
 clear hne
 have hF:=exprF_some zs env n _ p left hleft0 hpr
 rw [hr.out]at hF
 generalize hll:nodeF (exprF zs env n) [dim,dim] (p+1) (left-2)=rr at hF
 obtain⟨ll,pp,le⟩:=rr
 simp only [Prod.mk.injEq]at hF
 obtain⟨rfl,rfl,rfl⟩:=hF
 have HLL:=Lib.hid hll
 clear hll hpr
 have h6:deep<6:=by have:=hdeep.out;omega
 have hc8:=costN_8 n
 go_enter Tryz.func30,Tryz.ntmps30
 go_wp2_with fail
 refine(next_any s lv zs p p (left-2) _ _ rfl (by simp;omega) (by simp [go_sem,hs]) (by(repeat' (first|(with_reducible exact hl.out)|(with_reducible refine ListAt.alloc ?_ _)|(with_reducible refine ListAt.grow ?_ _ _)|(with_reducible refine ListAt.drewN ?_ _)|(with_reducible refine ListAt.src ?_ _ _ _)))) (by omega) (by omega)).mono ?_
 rintro e w' ⟨rfl,n1,rfl⟩
 rw [HK.out]
 go_wp2_with fail
 refine(node_any2 s lv ev zs env n IH _ _ [dim,dim] _ (p+1) ((p:Int)+1) _ ll p' l' _ HLL (by omega) (by omega) (by have:=hdeep.out;omega) (by omega) (by simp;omega) (by simp [go_sem,hs]) (Lib.hid (by(repeat' (first|(with_reducible exact hl.out)|(with_reducible refine ListAt.alloc ?_ _)|(with_reducible refine ListAt.grow ?_ _ _)|(with_reducible refine ListAt.drewN ?_ _)|(with_reducible refine ListAt.src ?_ _ _ _))))) (Lib.hid (by(repeat' (first|(with_reducible exact he.out)|(with_reducible refine EnvAt.alloc ?_ _)|(with_reducible refine EnvAt.grow ?_ _ _)|(with_reducible refine EnvAt.drewN ?_ _)|(with_reducible refine EnvAt.src ?_ _ _ _))))) (by omega) (by omega) (by omega) (by simp) (by simp) (by omega) (dims2 (by omega) (by omega)) (cell_dims _ [dim,dim] _ _ (by simp))).mono ?_
 rintro e w' ⟨v,bs,d,rfl,rfl,hrep⟩
 have H1:=Lib.hid hrep
 obtain⟨va,vc,hv⟩:=hrep.form
 subst hv
 clear hrep
 go_wp2_with fail
 go_returns
 refine ExPost.of_eq (P':=(p':Int)) rfl rfl rfl (.of_below belB) (((H1.out.eqw (w':=((((X.src s lv (p':Int) l').alloc (.cells #[.int .i64 0,.int .i64 0,.int .i64 0,.int .i64 0,.string ⟨#[]⟩,.slice none 0 0] 27)).alloc (.cells #[.int .i64 7,.int .i64 8,.int .i64 19,.int .i64 20] 3)).alloc (.cells #[.int .i64 dim,.int .i64 dim] 3)).grow bs d) (by simp [go_sem,hs,alloc_drewN'])).lift0 ?_ ?_ d).mono ?_)
 all_goals first
  |(intro b hb;simp at hb;omega)
  |(simp;done)
  |(simp;omega)
theorem expr_n4
 (s:Nat) (lv ev:Value) (zs:List Int) (env:List (ByteArray × Int)) (n:Nat) (IH:Hid (ExprOK s lv ev zs env n)) (dim:Int) (p:Nat) (left deep:Int) (E:Ex) (p':Nat) (l':Int) (kk:Int) (X:World) (hr:Hid (exprF zs env (n+1) dim p left=(E,p',l'))) (HK:Hid (nextV zs p 14=kk)) (hleft0:0<left) (hdeep:Hid (deep=5-n)) (hn:n≤4) (hd4:dim≤4) (hs:s<X.heap.size) (hl:Hid (ListAt X s lv zs)) (he:Hid (EnvAt X s ev env)) (hp:p+(3*costN n+3)≤900000) (hleft:-900000≤left-(3*(costN n:Int)+3)) (hleft2:left≤900000)
 (hd1:2≤dim) (hkk:kk=4):(Calls Tryz.prog 30 #[.pointer (some ⟨s,0,none⟩),.int .i64 dim,.int .i64 deep,ev] (X.src s lv p left) (ExPost s lv X (E,p',l'))):=by
 subst hkk
 have hne:¬dim=1:=by omega
 have hpr:prodF zs p dim=some (21,[1,dim,dim],p+1):=by simp [prodF,HK.out,hne]
 have hne1:(dim==1)=false:=by simp;omega
 clear hne
 have hF:=exprF_some zs env n _ p left hleft0 hpr
 rw [hr.out]at hF
 generalize hll:nodeF (exprF zs env n) [1,dim,dim] (p+1) (left-2)=rr at hF
 obtain⟨ll,pp,le⟩:=rr
 simp only [Prod.mk.injEq]at hF
 obtain⟨rfl,rfl,rfl⟩:=hF
 have HLL:=Lib.hid hll
 clear hll hpr
 have h6:deep<6:=by have:=hdeep.out;omega
 have hc8:=costN_8 n
 go_enter Tryz.func30,Tryz.ntmps30
 go_wp2_with fail
 refine(next_any s lv zs p p (left-2) _ _ rfl (by simp;omega) (by simp [go_sem,hs]) (by(repeat' (first|(with_reducible exact hl.out)|(with_reducible refine ListAt.alloc ?_ _)|(with_reducible refine ListAt.grow ?_ _ _)|(with_reducible refine ListAt.drewN ?_ _)|(with_reducible refine ListAt.src ?_ _ _ _)))) (by omega) (by omega)).mono ?_
 rintro e w' ⟨rfl,n1,rfl⟩
 rw [HK.out]
 go_wp2_with fail
 refine(node_any2 s lv ev zs env n IH _ _ [1,dim,dim] _ (p+1) ((p:Int)+1) _ ll p' l' _ HLL (by omega) (by omega) (by have:=hdeep.out;omega) (by omega) (by simp;omega) (by simp [go_sem,hs]) (Lib.hid (by(repeat' (first|(with_reducible exact hl.out)|(with_reducible refine ListAt.alloc ?_ _)|(with_reducible refine ListAt.grow ?_ _ _)|(with_reducible refine ListAt.drewN ?_ _)|(with_reducible refine ListAt.src ?_ _ _ _))))) (Lib.hid (by(repeat' (first|(with_reducible exact he.out)|(with_reducible refine EnvAt.alloc ?_ _)|(with_reducible refine EnvAt.grow ?_ _ _)|(with_reducible refine EnvAt.drewN ?_ _)|(with_reducible refine EnvAt.src ?_ _ _ _))))) (by omega) (by omega) (by omega) (by simp) (by simp) (by omega) (dims3 (by omega) (by omega) (by omega)) (cell_dims _ [1,dim,dim] _ _ (by simp))).mono ?_
 rintro e w' ⟨v,bs,d,rfl,rfl,hrep⟩
 have H1:=Lib.hid hrep
 obtain⟨va,vc,hv⟩:=hrep.form
 subst hv
 clear hrep
 go_wp2_with fail
 go_returns
 refine ExPost.of_eq (P':=(p':Int)) rfl rfl rfl (.of_below belB) (((H1.out.eqw (w':=((((X.src s lv (p':Int) l').alloc (.cells #[.int .i64 0,.int .i64 0,.int .i64 0,.int .i64 0,.string ⟨#[]⟩,.slice none 0 0] 27))).alloc (.cells #[.int .i64 1,.int .i64 dim,.int .i64 dim] 3)).grow bs d) (by simp [go_sem,hs,alloc_drewN'])).lift0 ?_ ?_ d).mono ?_)
 all_goals first
  |(intro b hb;simp at hb;omega)
  |(simp;done)
  |(simp;omega)
theorem expr_n5
 (s:Nat) (lv ev:Value) (zs:List Int) (env:List (ByteArray × Int)) (n:Nat) (IH:Hid (ExprOK s lv ev zs env n)) (dim:Int) (p:Nat) (left deep:Int) (E:Ex) (p':Nat) (l':Int) (kk:Int) (X:World) (hr:Hid (exprF zs env (n+1) dim p left=(E,p',l'))) (HK:Hid (nextV zs p 14=kk)) (hleft0:0<left) (hdeep:Hid (deep=5-n)) (hn:n≤4) (hd4:dim≤4) (hs:s<X.heap.size) (hl:Hid (ListAt X s lv zs)) (he:Hid (EnvAt X s ev env)) (hp:p+(3*costN n+3)≤900000) (hleft:-900000≤left-(3*(costN n:Int)+3)) (hleft2:left≤900000)
 (hd1:2≤dim) (hkk:kk=5):(Calls Tryz.prog 30 #[.pointer (some ⟨s,0,none⟩),.int .i64 dim,.int .i64 deep,ev] (X.src s lv p left) (ExPost s lv X (E,p',l'))):=by
 subst hkk
 have hne:¬dim=1:=by omega
 have hpr:prodF zs p dim=some (4,[dim],p+1):=by simp [prodF,HK.out,hne]
 have hne1:(dim==1)=false:=by simp;omega
 clear hne
 have hF:=exprF_some zs env n _ p left hleft0 hpr
 rw [hr.out]at hF
 generalize hll:nodeF (exprF zs env n) [dim] (p+1) (left-2)=rr at hF
 obtain⟨ll,pp,le⟩:=rr
 simp only [Prod.mk.injEq]at hF
 obtain⟨rfl,rfl,rfl⟩:=hF
 have HLL:=Lib.hid hll
 clear hll hpr
 have h6:deep<6:=by have:=hdeep.out;omega
 have hc8:=costN_8 n
 go_enter Tryz.func30,Tryz.ntmps30
 go_wp2_with fail
 refine(next_any s lv zs p p (left-2) _ _ rfl (by simp;omega) (by simp [go_sem,hs]) (by(repeat' (first|(with_reducible exact hl.out)|(with_reducible refine ListAt.alloc ?_ _)|(with_reducible refine ListAt.grow ?_ _ _)|(with_reducible refine ListAt.drewN ?_ _)|(with_reducible refine ListAt.src ?_ _ _ _)))) (by omega) (by omega)).mono ?_
 rintro e w' ⟨rfl,n1,rfl⟩
 rw [HK.out]
 go_wp2_with fail
 refine(node_any2 s lv ev zs env n IH _ _ [dim] _ (p+1) ((p:Int)+1) _ ll p' l' _ HLL (by omega) (by omega) (by have:=hdeep.out;omega) (by omega) (by simp;omega) (by simp [go_sem,hs]) (Lib.hid (by(repeat' (first|(with_reducible exact hl.out)|(with_reducible refine ListAt.alloc ?_ _)|(with_reducible refine ListAt.grow ?_ _ _)|(with_reducible refine ListAt.drewN ?_ _)|(with_reducible refine ListAt.src ?_ _ _ _))))) (Lib.hid (by(repeat' (first|(with_reducible exact he.out)|(with_reducible refine EnvAt.alloc ?_ _)|(with_reducible refine EnvAt.grow ?_ _ _)|(with_reducible refine EnvAt.drewN ?_ _)|(with_reducible refine EnvAt.src ?_ _ _ _))))) (by omega) (by omega) (by omega) (by simp) (by simp) (by omega) (dims1 (by omega)) (cell_dims _ [dim] _ _ (by simp))).mono ?_
 rintro e w' ⟨v,bs,d,rfl,rfl,hrep⟩
 have H1:=Lib.hid hrep
 obtain⟨va,vc,hv⟩:=hrep.form
 subst hv
 clear hrep
 go_wp2_with fail
 go_returns
 refine ExPost.of_eq (P':=(p':Int)) rfl rfl rfl (.of_below belB) (((H1.out.eqw (w':=((((X.src s lv (p':Int) l').alloc (.cells #[.int .i64 0,.int .i64 0,.int .i64 0,.int .i64 0,.string ⟨#[]⟩,.slice none 0 0] 27))).alloc (.cells #[.int .i64 dim] 3)).grow bs d) (by simp [go_sem,hs,alloc_drewN'])).lift0 ?_ ?_ d).mono ?_)
 all_goals first
  |(intro b hb;simp at hb;omega)
  |(simp;done)
  |(simp;omega)
theorem expr_n6
 (s:Nat) (lv ev:Value) (zs:List Int) (env:List (ByteArray × Int)) (n:Nat) (IH:Hid (ExprOK s lv ev zs env n)) (dim:Int) (p:Nat) (left deep:Int) (E:Ex) (p':Nat) (l':Int) (kk:Int) (X:World) (hr:Hid (exprF zs env (n+1) dim p left=(E,p',l'))) (HK:Hid (nextV zs p 14=kk)) (hleft0:0<left) (hdeep:Hid (deep=5-n)) (hn:n≤4) (hd4:dim≤4) (hs:s<X.heap.size) (hl:Hid (ListAt X s lv zs)) (he:Hid (EnvAt X s ev env)) (hp:p+(3*costN n+3)≤900000) (hleft:-900000≤left-(3*(costN n:Int)+3)) (hleft2:left≤900000)
 (hd1:2≤dim) (hkk:kk=6):(Calls Tryz.prog 30 #[.pointer (some ⟨s,0,none⟩),.int .i64 dim,.int .i64 deep,ev] (X.src s lv p left) (ExPost s lv X (E,p',l'))):=by
 subst hkk
 have hne:¬dim=1:=by omega
 have hpr:prodF zs p dim=some (6,[dim],p+1):=by simp [prodF,HK.out,hne]
 have hne1:(dim==1)=false:=by simp;omega
 clear hne
 have hF:=exprF_some zs env n _ p left hleft0 hpr
 rw [hr.out]at hF
 generalize hll:nodeF (exprF zs env n) [dim] (p+1) (left-2)=rr at hF
 obtain⟨ll,pp,le⟩:=rr
 simp only [Prod.mk.injEq]at hF
 obtain⟨rfl,rfl,rfl⟩:=hF
 have HLL:=Lib.hid hll
 clear hll hpr
 have h6:deep<6:=by have:=hdeep.out;omega
 have hc8:=costN_8 n
 go_enter Tryz.func30,Tryz.ntmps30
 go_wp2_with fail
 refine(next_any s lv zs p p (left-2) _ _ rfl (by simp;omega) (by simp [go_sem,hs]) (by(repeat' (first|(with_reducible exact hl.out)|(with_reducible refine ListAt.alloc ?_ _)|(with_reducible refine ListAt.grow ?_ _ _)|(with_reducible refine ListAt.drewN ?_ _)|(with_reducible refine ListAt.src ?_ _ _ _)))) (by omega) (by omega)).mono ?_
 rintro e w' ⟨rfl,n1,rfl⟩
 rw [HK.out]
 go_wp2_with fail
 refine(node_any2 s lv ev zs env n IH _ _ [dim] _ (p+1) ((p:Int)+1) _ ll p' l' _ HLL (by omega) (by omega) (by have:=hdeep.out;omega) (by omega) (by simp;omega) (by simp [go_sem,hs]) (Lib.hid (by(repeat' (first|(with_reducible exact hl.out)|(with_reducible refine ListAt.alloc ?_ _)|(with_reducible refine ListAt.grow ?_ _ _)|(with_reducible refine ListAt.drewN ?_ _)|(with_reducible refine ListAt.src ?_ _ _ _))))) (Lib.hid (by(repeat' (first|(with_reducible exact he.out)|(with_reducible refine EnvAt.alloc ?_ _)|(with_reducible refine EnvAt.grow ?_ _ _)|(with_reducible refine EnvAt.drewN ?_ _)|(with_reducible refine EnvAt.src ?_ _ _ _))))) (by omega) (by omega) (by omega) (by simp) (by simp) (by omega) (dims1 (by omega)) (cell_dims _ [dim] _ _ (by simp))).mono ?_
 rintro e w' ⟨v,bs,d,rfl,rfl,hrep⟩
 have H1:=Lib.hid hrep
 obtain⟨va,vc,hv⟩:=hrep.form
 subst hv
 clear hrep
 go_wp2_with fail
 go_returns
 refine ExPost.of_eq (P':=(p':Int)) rfl rfl rfl (.of_below belB) (((H1.out.eqw (w':=((((X.src s lv (p':Int) l').alloc (.cells #[.int .i64 0,.int .i64 0,.int .i64 0,.int .i64 0,.string ⟨#[]⟩,.slice none 0 0] 27))).alloc (.cells #[.int .i64 dim] 3)).grow bs d) (by simp [go_sem,hs,alloc_drewN'])).lift0 ?_ ?_ d).mono ?_)
 all_goals first
  |(intro b hb;simp at hb;omega)
  |(simp;done)
  |(simp;omega)
theorem expr_n7
 (s:Nat) (lv ev:Value) (zs:List Int) (env:List (ByteArray × Int)) (n:Nat) (IH:Hid (ExprOK s lv ev zs env n)) (dim:Int) (p:Nat) (left deep:Int) (E:Ex) (p':Nat) (l':Int) (kk:Int) (X:World) (hr:Hid (exprF zs env (n+1) dim p left=(E,p',l'))) (HK:Hid (nextV zs p 14=kk)) (hleft0:0<left) (hdeep:Hid (deep=5-n)) (hn:n≤4) (hd4:dim≤4) (hs:s<X.heap.size) (hl:Hid (ListAt X s lv zs)) (he:Hid (EnvAt X s ev env)) (hp:p+(3*costN n+3)≤900000) (hleft:-900000≤left-(3*(costN n:Int)+3)) (hleft2:left≤900000)
 (hd1:2≤dim) (hkk:kk=7):(Calls Tryz.prog 30 #[.pointer (some ⟨s,0,none⟩),.int .i64 dim,.int .i64 deep,ev] (X.src s lv p left) (ExPost s lv X (E,p',l'))):=by
 subst hkk
 have hne:¬dim=1:=by omega
 have hpr:prodF zs p dim=some (9,[2,dim],p+1):=by simp [prodF,HK.out,hne]
 have hne1:(dim==1)=false:=by simp;omega
 clear hne
 have hF:=exprF_some zs env n _ p left hleft0 hpr
 rw [hr.out]at hF
 generalize hll:nodeF (exprF zs env n) [2,dim] (p+1) (left-2)=rr at hF
 obtain⟨ll,pp,le⟩:=rr
 simp only [Prod.mk.injEq]at hF
 obtain⟨rfl,rfl,rfl⟩:=hF
 have HLL:=Lib.hid hll
 clear hll hpr
 have h6:deep<6:=by have:=hdeep.out;omega
 have hc8:=costN_8 n
 go_enter Tryz.func30,Tryz.ntmps30
 go_wp2_with fail
 refine(next_any s lv zs p p (left-2) _ _ rfl (by simp;omega) (by simp [go_sem,hs]) (by(repeat' (first|(with_reducible exact hl.out)|(with_reducible refine ListAt.alloc ?_ _)|(with_reducible refine ListAt.grow ?_ _ _)|(with_reducible refine ListAt.drewN ?_ _)|(with_reducible refine ListAt.src ?_ _ _ _)))) (by omega) (by omega)).mono ?_
 rintro e w' ⟨rfl,n1,rfl⟩
 rw [HK.out]
 go_wp2_with fail
 refine(node_any2 s lv ev zs env n IH _ _ [2,dim] _ (p+1) ((p:Int)+1) _ ll p' l' _ HLL (by omega) (by omega) (by have:=hdeep.out;omega) (by omega) (by simp;omega) (by simp [go_sem,hs]) (Lib.hid (by(repeat' (first|(with_reducible exact hl.out)|(with_reducible refine ListAt.alloc ?_ _)|(with_reducible refine ListAt.grow ?_ _ _)|(with_reducible refine ListAt.drewN ?_ _)|(with_reducible refine ListAt.src ?_ _ _ _))))) (Lib.hid (by(repeat' (first|(with_reducible exact he.out)|(with_reducible refine EnvAt.alloc ?_ _)|(with_reducible refine EnvAt.grow ?_ _ _)|(with_reducible refine EnvAt.drewN ?_ _)|(with_reducible refine EnvAt.src ?_ _ _ _))))) (by omega) (by omega) (by omega) (by simp) (by simp) (by omega) (dims2 (by omega) (by omega)) (cell_dims _ [2,dim] _ _ (by simp))).mono ?_
 rintro e w' ⟨v,bs,d,rfl,rfl,hrep⟩
 have H1:=Lib.hid hrep
 obtain⟨va,vc,hv⟩:=hrep.form
 subst hv
 clear hrep
 go_wp2_with fail
 go_returns
 refine ExPost.of_eq (P':=(p':Int)) rfl rfl rfl (.of_below belB) (((H1.out.eqw (w':=((((X.src s lv (p':Int) l').alloc (.cells #[.int .i64 0,.int .i64 0,.int .i64 0,.int .i64 0,.string ⟨#[]⟩,.slice none 0 0] 27))).alloc (.cells #[.int .i64 2,.int .i64 dim] 3)).grow bs d) (by simp [go_sem,hs,alloc_drewN'])).lift0 ?_ ?_ d).mono ?_)
 all_goals first
  |(intro b hb;simp at hb;omega)
  |(simp;done)
  |(simp;omega)
theorem expr_n8
 (s:Nat) (lv ev:Value) (zs:List Int) (env:List (ByteArray × Int)) (n:Nat) (IH:Hid (ExprOK s lv ev zs env n)) (dim:Int) (p:Nat) (left deep:Int) (E:Ex) (p':Nat) (l':Int) (kk:Int) (X:World) (hr:Hid (exprF zs env (n+1) dim p left=(E,p',l'))) (HK:Hid (nextV zs p 14=kk)) (hleft0:0<left) (hdeep:Hid (deep=5-n)) (hn:n≤4) (hd4:dim≤4) (hs:s<X.heap.size) (hl:Hid (ListAt X s lv zs)) (he:Hid (EnvAt X s ev env)) (hp:p+(3*costN n+3)≤900000) (hleft:-900000≤left-(3*(costN n:Int)+3)) (hleft2:left≤900000)
 (hd1:2≤dim) (hkk:kk=8):(Calls Tryz.prog 30 #[.pointer (some ⟨s,0,none⟩),.int .i64 dim,.int .i64 deep,ev] (X.src s lv p left) (ExPost s lv X (E,p',l'))):=by
 subst hkk
 have hne:¬dim=1:=by omega
 have hpr:prodF zs p dim=some (9,[dim,2],p+1):=by simp [prodF,HK.out,hne]
 have hne1:(dim==1)=false:=by simp;omega
 clear hne
 have hF:=exprF_some zs env n _ p left hleft0 hpr
 rw [hr.out]at hF
 generalize hll:nodeF (exprF zs env n) [dim,2] (p+1) (left-2)=rr at hF
 obtain⟨ll,pp,le⟩:=rr
 simp only [Prod.mk.injEq]at hF
 obtain⟨rfl,rfl,rfl⟩:=hF
 have HLL:=Lib.hid hll
 clear hll hpr
 have h6:deep<6:=by have:=hdeep.out;omega
 have hc8:=costN_8 n
 go_enter Tryz.func30,Tryz.ntmps30
 go_wp2_with fail
 refine(next_any s lv zs p p (left-2) _ _ rfl (by simp;omega) (by simp [go_sem,hs]) (by(repeat' (first|(with_reducible exact hl.out)|(with_reducible refine ListAt.alloc ?_ _)|(with_reducible refine ListAt.grow ?_ _ _)|(with_reducible refine ListAt.drewN ?_ _)|(with_reducible refine ListAt.src ?_ _ _ _)))) (by omega) (by omega)).mono ?_
 rintro e w' ⟨rfl,n1,rfl⟩
 rw [HK.out]
 go_wp2_with fail
 refine(node_any2 s lv ev zs env n IH _ _ [dim,2] _ (p+1) ((p:Int)+1) _ ll p' l' _ HLL (by omega) (by omega) (by have:=hdeep.out;omega) (by omega) (by simp;omega) (by simp [go_sem,hs]) (Lib.hid (by(repeat' (first|(with_reducible exact hl.out)|(with_reducible refine ListAt.alloc ?_ _)|(with_reducible refine ListAt.grow ?_ _ _)|(with_reducible refine ListAt.drewN ?_ _)|(with_reducible refine ListAt.src ?_ _ _ _))))) (Lib.hid (by(repeat' (first|(with_reducible exact he.out)|(with_reducible refine EnvAt.alloc ?_ _)|(with_reducible refine EnvAt.grow ?_ _ _)|(with_reducible refine EnvAt.drewN ?_ _)|(with_reducible refine EnvAt.src ?_ _ _ _))))) (by omega) (by omega) (by omega) (by simp) (by simp) (by omega) (dims2 (by omega) (by omega)) (cell_dims _ [dim,2] _ _ (by simp))).mono ?_
 rintro e w' ⟨v,bs,d,rfl,rfl,hrep⟩
 have H1:=Lib.hid hrep
 obtain⟨va,vc,hv⟩:=hrep.form
 subst hv
 clear hrep
 go_wp2_with fail
 go_returns
 refine ExPost.of_eq (P':=(p':Int)) rfl rfl rfl (.of_below belB) (((H1.out.eqw (w':=((((X.src s lv (p':Int) l').alloc (.cells #[.int .i64 0,.int .i64 0,.int .i64 0,.int .i64 0,.string ⟨#[]⟩,.slice none 0 0] 27))).alloc (.cells #[.int .i64 dim,.int .i64 2] 3)).grow bs d) (by simp [go_sem,hs,alloc_drewN'])).lift0 ?_ ?_ d).mono ?_)
 all_goals first
  |(intro b hb;simp at hb;omega)
  |(simp;done)
  |(simp;omega)
theorem expr_n9
 (s:Nat) (lv ev:Value) (zs:List Int) (env:List (ByteArray × Int)) (n:Nat) (IH:Hid (ExprOK s lv ev zs env n)) (dim:Int) (p:Nat) (left deep:Int) (E:Ex) (p':Nat) (l':Int) (kk:Int) (X:World) (hr:Hid (exprF zs env (n+1) dim p left=(E,p',l'))) (HK:Hid (nextV zs p 14=kk)) (hleft0:0<left) (hdeep:Hid (deep=5-n)) (hn:n≤4) (hd4:dim≤4) (hs:s<X.heap.size) (hl:Hid (ListAt X s lv zs)) (he:Hid (EnvAt X s ev env)) (hp:p+(3*costN n+3)≤900000) (hleft:-900000≤left-(3*(costN n:Int)+3)) (hleft2:left≤900000)
 (hd1:2≤dim) (hkk:kk=9):(Calls Tryz.prog 30 #[.pointer (some ⟨s,0,none⟩),.int .i64 dim,.int .i64 deep,ev] (X.src s lv p left) (ExPost s lv X (E,p',l'))):=by
 subst hkk
 have hne:¬dim=1:=by omega
 have hpr:prodF zs p dim=some (10,[dim,2],p+1):=by simp [prodF,HK.out,hne]
 have hne1:(dim==1)=false:=by simp;omega
 clear hne
 have hF:=exprF_some zs env n _ p left hleft0 hpr
 rw [hr.out]at hF
 generalize hll:nodeF (exprF zs env n) [dim,2] (p+1) (left-2)=rr at hF
 obtain⟨ll,pp,le⟩:=rr
 simp only [Prod.mk.injEq]at hF
 obtain⟨rfl,rfl,rfl⟩:=hF
 have HLL:=Lib.hid hll
 clear hll hpr
 have h6:deep<6:=by have:=hdeep.out;omega
 have hc8:=costN_8 n
 go_enter Tryz.func30,Tryz.ntmps30
 go_wp2_with fail
 refine(next_any s lv zs p p (left-2) _ _ rfl (by simp;omega) (by simp [go_sem,hs]) (by(repeat' (first|(with_reducible exact hl.out)|(with_reducible refine ListAt.alloc ?_ _)|(with_reducible refine ListAt.grow ?_ _ _)|(with_reducible refine ListAt.drewN ?_ _)|(with_reducible refine ListAt.src ?_ _ _ _)))) (by omega) (by omega)).mono ?_
 rintro e w' ⟨rfl,n1,rfl⟩
 rw [HK.out]
 go_wp2_with fail
 refine(node_any2 s lv ev zs env n IH _ _ [dim,2] _ (p+1) ((p:Int)+1) _ ll p' l' _ HLL (by omega) (by omega) (by have:=hdeep.out;omega) (by omega) (by simp;omega) (by simp [go_sem,hs]) (Lib.hid (by(repeat' (first|(with_reducible exact hl.out)|(with_reducible refine ListAt.alloc ?_ _)|(with_reducible refine ListAt.grow ?_ _ _)|(with_reducible refine ListAt.drewN ?_ _)|(with_reducible refine ListAt.src ?_ _ _ _))))) (Lib.hid (by(repeat' (first|(with_reducible exact he.out)|(with_reducible refine EnvAt.alloc ?_ _)|(with_reducible refine EnvAt.grow ?_ _ _)|(with_reducible refine EnvAt.drewN ?_ _)|(with_reducible refine EnvAt.src ?_ _ _ _))))) (by omega) (by omega) (by omega) (by simp) (by simp) (by omega) (dims2 (by omega) (by omega)) (cell_dims _ [dim,2] _ _ (by simp))).mono ?_
 rintro e w' ⟨v,bs,d,rfl,rfl,hrep⟩
 have H1:=Lib.hid hrep
 obtain⟨va,vc,hv⟩:=hrep.form
 subst hv
 clear hrep
 go_wp2_with fail
 go_returns
 refine ExPost.of_eq (P':=(p':Int)) rfl rfl rfl (.of_below belB) (((H1.out.eqw (w':=((((X.src s lv (p':Int) l').alloc (.cells #[.int .i64 0,.int .i64 0,.int .i64 0,.int .i64 0,.string ⟨#[]⟩,.slice none 0 0] 27))).alloc (.cells #[.int .i64 dim,.int .i64 2] 3)).grow bs d) (by simp [go_sem,hs,alloc_drewN'])).lift0 ?_ ?_ d).mono ?_)
 all_goals first
  |(intro b hb;simp at hb;omega)
  |(simp;done)
  |(simp;omega)
theorem expr_n10
 (s:Nat) (lv ev:Value) (zs:List Int) (env:List (ByteArray × Int)) (n:Nat) (IH:Hid (ExprOK s lv ev zs env n)) (dim:Int) (p:Nat) (left deep:Int) (E:Ex) (p':Nat) (l':Int) (kk:Int) (X:World) (hr:Hid (exprF zs env (n+1) dim p left=(E,p',l'))) (HK:Hid (nextV zs p 14=kk)) (hleft0:0<left) (hdeep:Hid (deep=5-n)) (hn:n≤4) (hd4:dim≤4) (hs:s<X.heap.size) (hl:Hid (ListAt X s lv zs)) (he:Hid (EnvAt X s ev env)) (hp:p+(3*costN n+3)≤900000) (hleft:-900000≤left-(3*(costN n:Int)+3)) (hleft2:left≤900000)
 (hd1:dim=2) (hkk:kk=10):(Calls Tryz.prog 30 #[.pointer (some ⟨s,0,none⟩),.int .i64 dim,.int .i64 deep,ev] (X.src s lv p left) (ExPost s lv X (E,p',l'))):=by
 subst hkk hd1
 have hb1:=nextV_bd zs (p+1) 3 (by omega)
 have hpr0:prodF zs p 2=some (10,[2+nextV zs (p+1) 3,2+nextV zs (p+1) 3],p+2):=by simp [prodF,HK.out]
 generalize hA:nextV zs (p+1) 3=a at hb1 hpr0
 have HA:=Lib.hid hA
 clear hA
 have hpr:=hpr0
 clear hpr0
 have hF:=exprF_some zs env n _ p left hleft0 hpr
 rw [hr.out]at hF
 generalize hll:nodeF (exprF zs env n) [2+a,2+a] (p+2) (left-2)=rr at hF
 obtain⟨ll,pp,le⟩:=rr
 simp only [Prod.mk.injEq]at hF
 obtain⟨rfl,rfl,rfl⟩:=hF
 have HLL:=Lib.hid hll
 clear hll hpr
 have h6:deep<6:=by have:=hdeep.out;omega
 have hc8:=costN_8 n
 go_enter Tryz.func30,Tryz.ntmps30
 go_wp2_with fail
 refine(next_any s lv zs p p (left-2) _ _ rfl (by simp;omega) (by simp [go_sem,hs]) (by(repeat' (first|(with_reducible exact hl.out)|(with_reducible refine ListAt.alloc ?_ _)|(with_reducible refine ListAt.grow ?_ _ _)|(with_reducible refine ListAt.drewN ?_ _)|(with_reducible refine ListAt.src ?_ _ _ _)))) (by omega) (by omega)).mono ?_
 rintro e w' ⟨rfl,n1,rfl⟩
 rw [HK.out]
 go_wp2_with fail
 refine(next_any s lv zs (p+1) (p+1) (left-2) _ _ (by simp) (by simp;omega) (by simp [go_sem,hs]) (by(repeat' (first|(with_reducible exact hl.out)|(with_reducible refine ListAt.alloc ?_ _)|(with_reducible refine ListAt.grow ?_ _ _)|(with_reducible refine ListAt.drewN ?_ _)|(with_reducible refine ListAt.src ?_ _ _ _)))) (by omega) (by omega)).mono ?_
 rintro e w' ⟨rfl,n2,rfl⟩
 rw [HA.out]
 go_wp2_with fail
 refine(node_any2 s lv ev zs env n IH _ _ [2+a,2+a] _ (p+2) ((p:Int)+1+1) _ ll p' l' _ HLL (by omega) (by omega) (by have:=hdeep.out;omega) (by omega) (by simp;omega) (by simp [go_sem,hs]) (Lib.hid (by(repeat' (first|(with_reducible exact hl.out)|(with_reducible refine ListAt.alloc ?_ _)|(with_reducible refine ListAt.grow ?_ _ _)|(with_reducible refine ListAt.drewN ?_ _)|(with_reducible refine ListAt.src ?_ _ _ _))))) (Lib.hid (by(repeat' (first|(with_reducible exact he.out)|(with_reducible refine EnvAt.alloc ?_ _)|(with_reducible refine EnvAt.grow ?_ _ _)|(with_reducible refine EnvAt.drewN ?_ _)|(with_reducible refine EnvAt.src ?_ _ _ _))))) (by omega) (by omega) (by omega) (by simp) (by simp) (by omega) (dims2 (by omega) (by omega)) (cell_dims _ [2+a,2+a] _ _ (by simp))).mono ?_
 rintro e w' ⟨v,bs,d,rfl,rfl,hrep⟩
 have H1:=Lib.hid hrep
 obtain⟨va,vc,hv⟩:=hrep.form
 subst hv
 clear hrep
 go_wp2_with fail
 go_returns
 refine ExPost.of_eq (P':=(p':Int)) rfl rfl rfl (.of_below belB) (((H1.out.eqw (w':=(((X.src s lv (p':Int) l').alloc (.cells #[.int .i64 0,.int .i64 0,.int .i64 0,.int .i64 0,.string ⟨#[]⟩,.slice none 0 0] 27)).alloc (.cells #[.int .i64 (2+a),.int .i64 (2+a)] 3)).grow bs d) (by simp [go_sem,hs,alloc_drewN'])).lift0 ?_ ?_ d).mono ?_)
 all_goals first
  |(intro b hb;simp at hb;omega)
  |(simp;done)
  |(simp;omega)
theorem expr_nleaf
 (s:Nat) (lv ev:Value) (zs:List Int) (env:List (ByteArray × Int)) (n:Nat) (IH:Hid (ExprOK s lv ev zs env n)) (dim:Int) (p:Nat) (left deep:Int) (E:Ex) (p':Nat) (l':Int) (kk:Int) (X:World) (hr:Hid (exprF zs env (n+1) dim p left=(E,p',l'))) (HK:Hid (nextV zs p 14=kk)) (hleft0:0<left) (hdeep:Hid (deep=5-n)) (hn:n≤4) (hd4:dim≤4) (hs:s<X.heap.size) (hl:Hid (ListAt X s lv zs)) (he:Hid (EnvAt X s ev env)) (hp:p+(3*costN n+3)≤900000) (hleft:-900000≤left-(3*(costN n:Int)+3)) (hleft2:left≤900000)
 (hd1:2≤dim) (hkk:kk=10∧dim≠2∨kk=11∨kk=12∨kk=13):(Calls Tryz.prog 30 #[.pointer (some ⟨s,0,none⟩),.int .i64 dim,.int .i64 deep,ev] (X.src s lv p left) (ExPost s lv X (E,p',l'))):=by
 have hne:¬dim=1:=by omega
 have hpr:prodF zs p dim=none:=by
  rcases hkk with ⟨rfl,h2⟩|rfl|rfl|rfl
  ·simp [prodF,HK.out,hne,h2]
  ·simp [prodF,HK.out,hne]
  ·simp [prodF,HK.out,hne]
  ·simp [prodF,HK.out,hne]
 have hF:=exprF_none zs env n dim p left hleft0 hpr
 rw [hr.out]at hF
 have HL:=Lib.hid hF.symm
 have hne1:(dim==1)=false:=by simp;omega
 clear hF hpr hne
 rcases hkk with ⟨rfl,h2⟩|rfl|rfl|rfl
 ·have h2b:(dim==2)=false:=by simpa using h2
  have h6:deep<6:=by have:=hdeep.out;omega
  have hc8:=costN_8 n
  go_enter Tryz.func30,Tryz.ntmps30
  go_wp2_with fail
  refine(next_any s lv zs p p (left-2) _ _ rfl (by simp;omega) (by simp [go_sem,hs]) (by(repeat' (first|(with_reducible exact hl.out)|(with_reducible refine ListAt.alloc ?_ _)|(with_reducible refine ListAt.grow ?_ _ _)|(with_reducible refine ListAt.drewN ?_ _)|(with_reducible refine ListAt.src ?_ _ _ _)))) (by omega) (by omega)).mono ?_
  rintro e w' ⟨rfl,n1,rfl⟩
  rw [HK.out]
  go_wp2_with fail
  refine(leaf_any s lv zs (p+1) _ (left-2) _ _ env _ rfl (by omega) (by omega) (by simp;omega) (by simp [go_sem,hs]) (Lib.hid (by(repeat' (first|(with_reducible exact hl.out)|(with_reducible refine ListAt.alloc ?_ _)|(with_reducible refine ListAt.grow ?_ _ _)|(with_reducible refine ListAt.drewN ?_ _)|(with_reducible refine ListAt.src ?_ _ _ _))))) (Lib.hid (by(repeat' (first|(with_reducible exact he.out)|(with_reducible refine EnvAt.alloc ?_ _)|(with_reducible refine EnvAt.grow ?_ _ _)|(with_reducible refine EnvAt.drewN ?_ _)|(with_reducible refine EnvAt.src ?_ _ _ _))))) (by omega) (by omega) (by omega)).mono ?_
  rintro e w' ⟨v,bs,d,rfl,rfl,hrep⟩
  rw [HL.out]at hrep
  simp only [HL.out]
  have H1:=Lib.hid hrep
  obtain⟨va,vc,hv⟩:=hrep.form
  subst hv
  clear hrep
  go_wp2_with fail
  go_returns
  refine ExPost.of_eq (P':=(p':Int)) rfl rfl rfl (.of_below belB) (((H1.out.eqw (w':=((X.src s lv (p':Int) l').alloc (.cells #[.int .i64 0,.int .i64 0,.int .i64 0,.int .i64 0,.string ⟨#[]⟩,.slice none 0 0] 27)).grow bs d) (by simp [go_sem,hs,alloc_drewN'])).lift0 ?_ ?_ d).mono ?_)
  all_goals first
   |(intro b hb;simp at hb;omega)
   |(simp;done)
   |(simp;omega)
 all_goals
  have h6:deep<6:=by have:=hdeep.out;omega
  have hc8:=costN_8 n
  go_enter Tryz.func30,Tryz.ntmps30
  go_wp2_with fail
  refine(next_any s lv zs p p (left-2) _ _ rfl (by simp;omega) (by simp [go_sem,hs]) (by(repeat' (first|(with_reducible exact hl.out)|(with_reducible refine ListAt.alloc ?_ _)|(with_reducible refine ListAt.grow ?_ _ _)|(with_reducible refine ListAt.drewN ?_ _)|(with_reducible refine ListAt.src ?_ _ _ _)))) (by omega) (by omega)).mono ?_
  rintro e w' ⟨rfl,n1,rfl⟩
  rw [HK.out]
  go_wp2_with fail
  refine(leaf_any s lv zs (p+1) _ (left-2) _ _ env _ rfl (by omega) (by omega) (by simp;omega) (by simp [go_sem,hs]) (Lib.hid (by(repeat' (first|(with_reducible exact hl.out)|(with_reducible refine ListAt.alloc ?_ _)|(with_reducible refine ListAt.grow ?_ _ _)|(with_reducible refine ListAt.drewN ?_ _)|(with_reducible refine ListAt.src ?_ _ _ _))))) (Lib.hid (by(repeat' (first|(with_reducible exact he.out)|(with_reducible refine EnvAt.alloc ?_ _)|(with_reducible refine EnvAt.grow ?_ _ _)|(with_reducible refine EnvAt.drewN ?_ _)|(with_reducible refine EnvAt.src ?_ _ _ _))))) (by omega) (by omega) (by omega)).mono ?_
  rintro e w' ⟨v,bs,d,rfl,rfl,hrep⟩
  rw [HL.out]at hrep
  simp only [HL.out]
  have H1:=Lib.hid hrep
  obtain⟨va,vc,hv⟩:=hrep.form
  subst hv
  clear hrep
  go_wp2_with fail
  go_returns
  refine ExPost.of_eq (P':=(p':Int)) rfl rfl rfl (.of_below belB) (((H1.out.eqw (w':=((X.src s lv (p':Int) l').alloc (.cells #[.int .i64 0,.int .i64 0,.int .i64 0,.int .i64 0,.string ⟨#[]⟩,.slice none 0 0] 27)).grow bs d) (by simp [go_sem,hs,alloc_drewN'])).lift0 ?_ ?_ d).mono ?_)
  all_goals first
   |(intro b hb;simp at hb;omega)
   |(simp;done)
   |(simp;omega)
theorem expr_step(s:Nat)(lv ev:Value)(zs:List Int)(env:List (ByteArray × Int))(n:Nat)(hn:n≤4)(IH:ExprOK s lv ev zs env n):ExprOK s lv ev zs env (n+1):=by
 unfold ExprOK
 intro dim p P left deep r X hr hP hdeep hd1 hd4 hs hX hl he hp hleft hleft2
 subst hP
 suffices h:Calls Tryz.prog 30 #[.pointer (some ⟨s,0,none⟩),.int .i64 dim,.int .i64 deep,ev] (X.src s lv p left) (ExPost s lv X r)by rw [hX]at h;exact h
 clear hX
 obtain⟨E,p',l'⟩:=r
 have hc:costN (n+1)=3*costN n+3:=rfl
 have hc8:=costN_8 n
 rw [hc]at hp hleft
 by_cases h0:left≤0
 ·exact expr_low s lv ev zs env n dim p left deep E p' l' X (Lib.hid (by have:=hr.out;rw [exprF_leaf _ _ _ _ _ _ (.inr h0)]at this;exact this)) h0 (by omega) hn hd1 hd4 hs hl he (by omega) (by omega) (by omega)
 ·have h1:0<left:=by omega
  have hp2:p+(3*costN n+3)≤900000:=hp
  have hl2:-900000≤left-(3*(costN n:Int)+3):=by omega
  have hdp:Hid (deep=5-n):=Lib.hid (by omega)
  have hkb:=nextV_bd zs p 14 (by omega)
  generalize hK:nextV zs p 14=kk at hkb
  have HK:=Lib.hid hK
  by_cases hd:dim=1
  ·obtain h|h|h|h|h|h:kk=0∨kk=1∨kk=2∨kk=3∨(kk=4∨kk=5∨kk=6∨kk=7∨kk=8)∨(kk=9∨kk=10∨kk=11∨kk=12∨kk=13):=by omega
   ·exact expr_b0 s lv ev zs env n (Lib.hid IH) dim p left deep E p' l' kk X hr HK h1 hdp hn hd4 hs hl he hp2 hl2 hleft2 hd h
   ·exact expr_b1 s lv ev zs env n (Lib.hid IH) dim p left deep E p' l' kk X hr HK h1 hdp hn hd4 hs hl he hp2 hl2 hleft2 hd h
   ·exact expr_b2 s lv ev zs env n (Lib.hid IH) dim p left deep E p' l' kk X hr HK h1 hdp hn hd4 hs hl he hp2 hl2 hleft2 hd h
   ·exact expr_b3 s lv ev zs env n (Lib.hid IH) dim p left deep E p' l' kk X hr HK h1 hdp hn hd4 hs hl he hp2 hl2 hleft2 hd h
   ·exact expr_bcmp s lv ev zs env n (Lib.hid IH) dim p left deep E p' l' kk X hr HK h1 hdp hn hd4 hs hl he hp2 hl2 hleft2 hd h
   ·exact expr_bleaf s lv ev zs env n (Lib.hid IH) dim p left deep E p' l' kk X hr HK h1 hdp hn hd4 hs hl he hp2 hl2 hleft2 hd h
  ·have hd2:2≤dim:=by omega
   obtain h|h|h|h|h|h|h|h|h|h|⟨h,h2⟩|h:kk=0∨kk=1∨kk=2∨kk=3∨kk=4∨kk=5∨kk=6∨kk=7∨kk=8∨kk=9∨(kk=10∧dim=2)∨(kk=10∧dim≠2∨kk=11∨kk=12∨kk=13):=by omega
   ·exact expr_n0 s lv ev zs env n (Lib.hid IH) dim p left deep E p' l' kk X hr HK h1 hdp hn hd4 hs hl he hp2 hl2 hleft2 hd2 h
   ·exact expr_n1 s lv ev zs env n (Lib.hid IH) dim p left deep E p' l' kk X hr HK h1 hdp hn hd4 hs hl he hp2 hl2 hleft2 hd2 h
   ·exact expr_n2 s lv ev zs env n (Lib.hid IH) dim p left deep E p' l' kk X hr HK h1 hdp hn hd4 hs hl he hp2 hl2 hleft2 hd2 h
   ·exact expr_n3 s lv ev zs env n (Lib.hid IH) dim p left deep E p' l' kk X hr HK h1 hdp hn hd4 hs hl he hp2 hl2 hleft2 hd2 h
   ·exact expr_n4 s lv ev zs env n (Lib.hid IH) dim p left deep E p' l' kk X hr HK h1 hdp hn hd4 hs hl he hp2 hl2 hleft2 hd2 h
   ·exact expr_n5 s lv ev zs env n (Lib.hid IH) dim p left deep E p' l' kk X hr HK h1 hdp hn hd4 hs hl he hp2 hl2 hleft2 hd2 h
   ·exact expr_n6 s lv ev zs env n (Lib.hid IH) dim p left deep E p' l' kk X hr HK h1 hdp hn hd4 hs hl he hp2 hl2 hleft2 hd2 h
   ·exact expr_n7 s lv ev zs env n (Lib.hid IH) dim p left deep E p' l' kk X hr HK h1 hdp hn hd4 hs hl he hp2 hl2 hleft2 hd2 h
   ·exact expr_n8 s lv ev zs env n (Lib.hid IH) dim p left deep E p' l' kk X hr HK h1 hdp hn hd4 hs hl he hp2 hl2 hleft2 hd2 h
   ·exact expr_n9 s lv ev zs env n (Lib.hid IH) dim p left deep E p' l' kk X hr HK h1 hdp hn hd4 hs hl he hp2 hl2 hleft2 hd2 h
   ·exact expr_n10 s lv ev zs env n (Lib.hid IH) dim p left deep E p' l' kk X hr HK h1 hdp hn hd4 hs hl he hp2 hl2 hleft2 h2 h
   ·exact expr_nleaf s lv ev zs env n (Lib.hid IH) dim p left deep E p' l' kk X hr HK h1 hdp hn hd4 hs hl he hp2 hl2 hleft2 hd2 h
theorem expr_ok(s:Nat)(lv ev:Value)(zs:List Int)(env:List (ByteArray × Int))(n:Nat)(hn:n≤5):ExprOK s lv ev zs env n:=by
 induction n with
 |zero=>exact expr_zero s lv ev zs env
 |succ n ih=>exact expr_step s lv ev zs env n (by omega) (ih (by omega))
end Go.Proofs.YtfoefpoaomepbaaGreatDoor
