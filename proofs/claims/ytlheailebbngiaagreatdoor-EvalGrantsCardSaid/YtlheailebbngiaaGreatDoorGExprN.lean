import Derived.Test.YtlheailebbngiaaGreatDoorGLeaf
set_option linter.all false
set_option maxHeartbeats 16000000
set_option maxRecDepth 1000000
namespace Go.Proofs.YtlheailebbngiaaGreatDoor
open Tryz List
open Go.RowKit

theorem NL
 (s:Nat) (lv ev:Value) (zs:List Int) (env:List (ByteArray × Int)) (n:Nat) (IH:Hid (cZ s lv ev zs env n)) (dim:Int) (p:Nat) (left deep:Int) (E:Ex) (p':Nat) (l':Int) (kk:Int) (X:World) (hr:Hid (aS zs env (n+1) dim p left=(E,p',l'))) (HK:Hid (aK zs p 14=kk)) (hleft0:0<left) (hdeep:Hid (deep=5-n)) (hn:n<=4) (hd4:dim<=4) (hs:s<X.heap.size) (hl:Hid (aI X s lv zs)) (he:Hid (bf X s ev env)) (hp:p+(3*aP n+3)<=900000) (hleft:-900000<=left-(3*(aP n:Int)+3)) (hleft2:left<=900000)
 (hd1:2<=dim) (hkk:kk=0):(Calls prog 64 #[.pointer (some ⟨s,0,none⟩),.int .i64 dim,.int .i64 deep,ev] (X.src s lv p left) (aN s lv X (E,p',l'))):=by
 subst hkk;have hne:¬dim=1:=by omega
 have hpr:bP zs p dim=some (7,[dim,dim],p+1):=by simp [bP,HK.out,hne]
 have hne1:(dim==1)=false:=by simp;omega
 clear hne;have hF:=cz zs env n _ p left hleft0 hpr;rw [hr.out]at hF;generalize hll:bR (aS zs env n) [dim,dim] (p+1) (left-2)=rr at hF;obtain⟨ll,pp,le⟩:=rr;simp only [Prod.mk.injEq]at hF;obtain⟨rfl,rfl,rfl⟩:=hF;have HLL:=zh hll;clear hll hpr;have h6:deep<6:=by have:=hdeep.out;omega
 have hc8:=dx n
 go_enter func64,ntmps64
 go_wp2_with fail
 refine(bv s lv zs p p (left-2) _ _ rfl zp zr zu ze ze).mono ?_;rintro e w' ⟨rfl,n1,rfl⟩;rw [HK.out]
 go_wp2_with fail
 refine(dG s lv ev zs env n IH _ _ [dim,dim] _ (p+1) ((p:Int)+1) _ ll p' l' _ HLL ze ze zK ze zp zr (zh zu) (zh zx) ze ze ze zg zg ze (mq ze ze) (dH _ [dim,dim] _ _ zg)).mono ?_;rintro e w' ⟨v,bs,d,rfl,rfl,hrep⟩;have H1:=zh hrep;obtain⟨va,vc,hv⟩:=hrep.form;subst hv;clear hrep
 go_wp2_with fail
 go_returns
 refine aN.of_eq (P':=(p':Int)) rfl rfl rfl (.of_below af) (((H1.out.eqw (w':=((((X.src s lv (p':Int) l').alloc (.cells #[.int .i64 0,.int .i64 0,.int .i64 0,.int .i64 0,.string ⟨#[]⟩,.slice none 0 0] 51)).alloc (.cells #[.int .i64 7,.int .i64 8,.int .i64 19,.int .i64 20] 3)).alloc (.cells #[.int .i64 dim,.int .i64 dim] 3)).grow bs d) zC).lift0 ?_ ?_ d).mono ?_)
 all_goals first
  |(intro b hb;simp at hb;omega)
  |(simp;done)
  |(simp;omega)
theorem NK
 (s:Nat) (lv ev:Value) (zs:List Int) (env:List (ByteArray × Int)) (n:Nat) (IH:Hid (cZ s lv ev zs env n)) (dim:Int) (p:Nat) (left deep:Int) (E:Ex) (p':Nat) (l':Int) (kk:Int) (X:World) (hr:Hid (aS zs env (n+1) dim p left=(E,p',l'))) (HK:Hid (aK zs p 14=kk)) (hleft0:0<left) (hdeep:Hid (deep=5-n)) (hn:n<=4) (hd4:dim<=4) (hs:s<X.heap.size) (hl:Hid (aI X s lv zs)) (he:Hid (bf X s ev env)) (hp:p+(3*aP n+3)<=900000) (hleft:-900000<=left-(3*(aP n:Int)+3)) (hleft2:left<=900000)
 (hd1:2<=dim) (hkk:kk=1):(Calls prog 64 #[.pointer (some ⟨s,0,none⟩),.int .i64 dim,.int .i64 deep,ev] (X.src s lv p left) (aN s lv X (E,p',l'))):=by
 subst hkk;have hne:¬dim=1:=by omega
 have hpr:bP zs p dim=some (8,[dim,dim],p+1):=by simp [bP,HK.out,hne]
 have hne1:(dim==1)=false:=by simp;omega
 clear hne;have hF:=cz zs env n _ p left hleft0 hpr;rw [hr.out]at hF;generalize hll:bR (aS zs env n) [dim,dim] (p+1) (left-2)=rr at hF;obtain⟨ll,pp,le⟩:=rr;simp only [Prod.mk.injEq]at hF;obtain⟨rfl,rfl,rfl⟩:=hF;have HLL:=zh hll;clear hll hpr;have h6:deep<6:=by have:=hdeep.out;omega
 have hc8:=dx n
 go_enter func64,ntmps64
 go_wp2_with fail
 refine(bv s lv zs p p (left-2) _ _ rfl zp zr zu ze ze).mono ?_;rintro e w' ⟨rfl,n1,rfl⟩;rw [HK.out]
 go_wp2_with fail
 refine(dG s lv ev zs env n IH _ _ [dim,dim] _ (p+1) ((p:Int)+1) _ ll p' l' _ HLL ze ze zK ze zp zr (zh zu) (zh zx) ze ze ze zg zg ze (mq ze ze) (dH _ [dim,dim] _ _ zg)).mono ?_;rintro e w' ⟨v,bs,d,rfl,rfl,hrep⟩;have H1:=zh hrep;obtain⟨va,vc,hv⟩:=hrep.form;subst hv;clear hrep
 go_wp2_with fail
 go_returns
 refine aN.of_eq (P':=(p':Int)) rfl rfl rfl (.of_below af) (((H1.out.eqw (w':=((((X.src s lv (p':Int) l').alloc (.cells #[.int .i64 0,.int .i64 0,.int .i64 0,.int .i64 0,.string ⟨#[]⟩,.slice none 0 0] 51)).alloc (.cells #[.int .i64 7,.int .i64 8,.int .i64 19,.int .i64 20] 3)).alloc (.cells #[.int .i64 dim,.int .i64 dim] 3)).grow bs d) zC).lift0 ?_ ?_ d).mono ?_)
 all_goals first
  |(intro b hb;simp at hb;omega)
  |(simp;done)
  |(simp;omega)
theorem NJ
 (s:Nat) (lv ev:Value) (zs:List Int) (env:List (ByteArray × Int)) (n:Nat) (IH:Hid (cZ s lv ev zs env n)) (dim:Int) (p:Nat) (left deep:Int) (E:Ex) (p':Nat) (l':Int) (kk:Int) (X:World) (hr:Hid (aS zs env (n+1) dim p left=(E,p',l'))) (HK:Hid (aK zs p 14=kk)) (hleft0:0<left) (hdeep:Hid (deep=5-n)) (hn:n<=4) (hd4:dim<=4) (hs:s<X.heap.size) (hl:Hid (aI X s lv zs)) (he:Hid (bf X s ev env)) (hp:p+(3*aP n+3)<=900000) (hleft:-900000<=left-(3*(aP n:Int)+3)) (hleft2:left<=900000)
 (hd1:2<=dim) (hkk:kk=2):(Calls prog 64 #[.pointer (some ⟨s,0,none⟩),.int .i64 dim,.int .i64 deep,ev] (X.src s lv p left) (aN s lv X (E,p',l'))):=by
 subst hkk;have hne:¬dim=1:=by omega
 have hpr:bP zs p dim=some (19,[dim,dim],p+1):=by simp [bP,HK.out,hne]
 have hne1:(dim==1)=false:=by simp;omega
 clear hne;have hF:=cz zs env n _ p left hleft0 hpr;rw [hr.out]at hF;generalize hll:bR (aS zs env n) [dim,dim] (p+1) (left-2)=rr at hF;obtain⟨ll,pp,le⟩:=rr;simp only [Prod.mk.injEq]at hF;obtain⟨rfl,rfl,rfl⟩:=hF;have HLL:=zh hll;clear hll hpr;have h6:deep<6:=by have:=hdeep.out;omega
 have hc8:=dx n
 go_enter func64,ntmps64
 go_wp2_with fail
 refine(bv s lv zs p p (left-2) _ _ rfl zp zr zu ze ze).mono ?_;rintro e w' ⟨rfl,n1,rfl⟩;rw [HK.out]
 go_wp2_with fail
 refine(dG s lv ev zs env n IH _ _ [dim,dim] _ (p+1) ((p:Int)+1) _ ll p' l' _ HLL ze ze zK ze zp zr (zh zu) (zh zx) ze ze ze zg zg ze (mq ze ze) (dH _ [dim,dim] _ _ zg)).mono ?_;rintro e w' ⟨v,bs,d,rfl,rfl,hrep⟩;have H1:=zh hrep;obtain⟨va,vc,hv⟩:=hrep.form;subst hv;clear hrep
 go_wp2_with fail
 go_returns
 refine aN.of_eq (P':=(p':Int)) rfl rfl rfl (.of_below af) (((H1.out.eqw (w':=((((X.src s lv (p':Int) l').alloc (.cells #[.int .i64 0,.int .i64 0,.int .i64 0,.int .i64 0,.string ⟨#[]⟩,.slice none 0 0] 51)).alloc (.cells #[.int .i64 7,.int .i64 8,.int .i64 19,.int .i64 20] 3)).alloc (.cells #[.int .i64 dim,.int .i64 dim] 3)).grow bs d) zC).lift0 ?_ ?_ d).mono ?_)
 all_goals first
  |(intro b hb;simp at hb;omega)
  |(simp;done)
  |(simp;omega)
theorem NI
 (s:Nat) (lv ev:Value) (zs:List Int) (env:List (ByteArray × Int)) (n:Nat) (IH:Hid (cZ s lv ev zs env n)) (dim:Int) (p:Nat) (left deep:Int) (E:Ex) (p':Nat) (l':Int) (kk:Int) (X:World) (hr:Hid (aS zs env (n+1) dim p left=(E,p',l'))) (HK:Hid (aK zs p 14=kk)) (hleft0:0<left) (hdeep:Hid (deep=5-n)) (hn:n<=4) (hd4:dim<=4) (hs:s<X.heap.size) (hl:Hid (aI X s lv zs)) (he:Hid (bf X s ev env)) (hp:p+(3*aP n+3)<=900000) (hleft:-900000<=left-(3*(aP n:Int)+3)) (hleft2:left<=900000)
 (hd1:2<=dim) (hkk:kk=3):(Calls prog 64 #[.pointer (some ⟨s,0,none⟩),.int .i64 dim,.int .i64 deep,ev] (X.src s lv p left) (aN s lv X (E,p',l'))):=by
 subst hkk;have hne:¬dim=1:=by omega
 have hpr:bP zs p dim=some (20,[dim,dim],p+1):=by simp [bP,HK.out,hne]
 have hne1:(dim==1)=false:=by simp;omega
 clear hne;have hF:=cz zs env n _ p left hleft0 hpr;rw [hr.out]at hF;generalize hll:bR (aS zs env n) [dim,dim] (p+1) (left-2)=rr at hF;obtain⟨ll,pp,le⟩:=rr;simp only [Prod.mk.injEq]at hF;obtain⟨rfl,rfl,rfl⟩:=hF;have HLL:=zh hll;clear hll hpr;have h6:deep<6:=by have:=hdeep.out;omega
 have hc8:=dx n
 go_enter func64,ntmps64
 go_wp2_with fail
 refine(bv s lv zs p p (left-2) _ _ rfl zp zr zu ze ze).mono ?_;rintro e w' ⟨rfl,n1,rfl⟩;rw [HK.out]
 go_wp2_with fail
 refine(dG s lv ev zs env n IH _ _ [dim,dim] _ (p+1) ((p:Int)+1) _ ll p' l' _ HLL ze ze zK ze zp zr (zh zu) (zh zx) ze ze ze zg zg ze (mq ze ze) (dH _ [dim,dim] _ _ zg)).mono ?_;rintro e w' ⟨v,bs,d,rfl,rfl,hrep⟩;have H1:=zh hrep;obtain⟨va,vc,hv⟩:=hrep.form;subst hv;clear hrep
 go_wp2_with fail
 go_returns
 refine aN.of_eq (P':=(p':Int)) rfl rfl rfl (.of_below af) (((H1.out.eqw (w':=((((X.src s lv (p':Int) l').alloc (.cells #[.int .i64 0,.int .i64 0,.int .i64 0,.int .i64 0,.string ⟨#[]⟩,.slice none 0 0] 51)).alloc (.cells #[.int .i64 7,.int .i64 8,.int .i64 19,.int .i64 20] 3)).alloc (.cells #[.int .i64 dim,.int .i64 dim] 3)).grow bs d) zC).lift0 ?_ ?_ d).mono ?_)
 all_goals first
  |(intro b hb;simp at hb;omega)
  |(simp;done)
  |(simp;omega)
theorem NH
 (s:Nat) (lv ev:Value) (zs:List Int) (env:List (ByteArray × Int)) (n:Nat) (IH:Hid (cZ s lv ev zs env n)) (dim:Int) (p:Nat) (left deep:Int) (E:Ex) (p':Nat) (l':Int) (kk:Int) (X:World) (hr:Hid (aS zs env (n+1) dim p left=(E,p',l'))) (HK:Hid (aK zs p 14=kk)) (hleft0:0<left) (hdeep:Hid (deep=5-n)) (hn:n<=4) (hd4:dim<=4) (hs:s<X.heap.size) (hl:Hid (aI X s lv zs)) (he:Hid (bf X s ev env)) (hp:p+(3*aP n+3)<=900000) (hleft:-900000<=left-(3*(aP n:Int)+3)) (hleft2:left<=900000)
 (hd1:2<=dim) (hkk:kk=4):(Calls prog 64 #[.pointer (some ⟨s,0,none⟩),.int .i64 dim,.int .i64 deep,ev] (X.src s lv p left) (aN s lv X (E,p',l'))):=by
 subst hkk;have hne:¬dim=1:=by omega
 have hpr:bP zs p dim=some (21,[1,dim,dim],p+1):=by simp [bP,HK.out,hne]
 have hne1:(dim==1)=false:=by simp;omega
 clear hne;have hF:=cz zs env n _ p left hleft0 hpr;rw [hr.out]at hF;generalize hll:bR (aS zs env n) [1,dim,dim] (p+1) (left-2)=rr at hF;obtain⟨ll,pp,le⟩:=rr;simp only [Prod.mk.injEq]at hF;obtain⟨rfl,rfl,rfl⟩:=hF;have HLL:=zh hll;clear hll hpr;have h6:deep<6:=by have:=hdeep.out;omega
 have hc8:=dx n
 go_enter func64,ntmps64
 go_wp2_with fail
 refine(bv s lv zs p p (left-2) _ _ rfl zp zr zu ze ze).mono ?_;rintro e w' ⟨rfl,n1,rfl⟩;rw [HK.out]
 go_wp2_with fail
 refine(dG s lv ev zs env n IH _ _ [1,dim,dim] _ (p+1) ((p:Int)+1) _ ll p' l' _ HLL ze ze zK ze zp zr (zh zu) (zh zx) ze ze ze zg zg ze (OD ze ze ze) (dH _ [1,dim,dim] _ _ zg)).mono ?_;rintro e w' ⟨v,bs,d,rfl,rfl,hrep⟩;have H1:=zh hrep;obtain⟨va,vc,hv⟩:=hrep.form;subst hv;clear hrep
 go_wp2_with fail
 go_returns
 refine aN.of_eq (P':=(p':Int)) rfl rfl rfl (.of_below af) (((H1.out.eqw (w':=((((X.src s lv (p':Int) l').alloc (.cells #[.int .i64 0,.int .i64 0,.int .i64 0,.int .i64 0,.string ⟨#[]⟩,.slice none 0 0] 51))).alloc (.cells #[.int .i64 1,.int .i64 dim,.int .i64 dim] 3)).grow bs d) zC).lift0 ?_ ?_ d).mono ?_)
 all_goals first
  |(intro b hb;simp at hb;omega)
  |(simp;done)
  |(simp;omega)
theorem NG
 (s:Nat) (lv ev:Value) (zs:List Int) (env:List (ByteArray × Int)) (n:Nat) (IH:Hid (cZ s lv ev zs env n)) (dim:Int) (p:Nat) (left deep:Int) (E:Ex) (p':Nat) (l':Int) (kk:Int) (X:World) (hr:Hid (aS zs env (n+1) dim p left=(E,p',l'))) (HK:Hid (aK zs p 14=kk)) (hleft0:0<left) (hdeep:Hid (deep=5-n)) (hn:n<=4) (hd4:dim<=4) (hs:s<X.heap.size) (hl:Hid (aI X s lv zs)) (he:Hid (bf X s ev env)) (hp:p+(3*aP n+3)<=900000) (hleft:-900000<=left-(3*(aP n:Int)+3)) (hleft2:left<=900000)
 (hd1:2<=dim) (hkk:kk=5):(Calls prog 64 #[.pointer (some ⟨s,0,none⟩),.int .i64 dim,.int .i64 deep,ev] (X.src s lv p left) (aN s lv X (E,p',l'))):=by
 subst hkk;have hne:¬dim=1:=by omega
 have hpr:bP zs p dim=some (4,[dim],p+1):=by simp [bP,HK.out,hne]
 have hne1:(dim==1)=false:=by simp;omega
 clear hne;have hF:=cz zs env n _ p left hleft0 hpr;rw [hr.out]at hF;generalize hll:bR (aS zs env n) [dim] (p+1) (left-2)=rr at hF;obtain⟨ll,pp,le⟩:=rr;simp only [Prod.mk.injEq]at hF;obtain⟨rfl,rfl,rfl⟩:=hF;have HLL:=zh hll;clear hll hpr;have h6:deep<6:=by have:=hdeep.out;omega
 have hc8:=dx n
 go_enter func64,ntmps64
 go_wp2_with fail
 refine(bv s lv zs p p (left-2) _ _ rfl zp zr zu ze ze).mono ?_;rintro e w' ⟨rfl,n1,rfl⟩;rw [HK.out]
 go_wp2_with fail
 refine(dG s lv ev zs env n IH _ _ [dim] _ (p+1) ((p:Int)+1) _ ll p' l' _ HLL ze ze zK ze zp zr (zh zu) (zh zx) ze ze ze zg zg ze (Kr ze) (dH _ [dim] _ _ zg)).mono ?_;rintro e w' ⟨v,bs,d,rfl,rfl,hrep⟩;have H1:=zh hrep;obtain⟨va,vc,hv⟩:=hrep.form;subst hv;clear hrep
 go_wp2_with fail
 go_returns
 refine aN.of_eq (P':=(p':Int)) rfl rfl rfl (.of_below af) (((H1.out.eqw (w':=((((X.src s lv (p':Int) l').alloc (.cells #[.int .i64 0,.int .i64 0,.int .i64 0,.int .i64 0,.string ⟨#[]⟩,.slice none 0 0] 51))).alloc (.cells #[.int .i64 dim] 3)).grow bs d) zC).lift0 ?_ ?_ d).mono ?_)
 all_goals first
  |(intro b hb;simp at hb;omega)
  |(simp;done)
  |(simp;omega)
theorem NF
 (s:Nat) (lv ev:Value) (zs:List Int) (env:List (ByteArray × Int)) (n:Nat) (IH:Hid (cZ s lv ev zs env n)) (dim:Int) (p:Nat) (left deep:Int) (E:Ex) (p':Nat) (l':Int) (kk:Int) (X:World) (hr:Hid (aS zs env (n+1) dim p left=(E,p',l'))) (HK:Hid (aK zs p 14=kk)) (hleft0:0<left) (hdeep:Hid (deep=5-n)) (hn:n<=4) (hd4:dim<=4) (hs:s<X.heap.size) (hl:Hid (aI X s lv zs)) (he:Hid (bf X s ev env)) (hp:p+(3*aP n+3)<=900000) (hleft:-900000<=left-(3*(aP n:Int)+3)) (hleft2:left<=900000)
 (hd1:2<=dim) (hkk:kk=6):(Calls prog 64 #[.pointer (some ⟨s,0,none⟩),.int .i64 dim,.int .i64 deep,ev] (X.src s lv p left) (aN s lv X (E,p',l'))):=by
 subst hkk;have hne:¬dim=1:=by omega
 have hpr:bP zs p dim=some (6,[dim],p+1):=by simp [bP,HK.out,hne]
 have hne1:(dim==1)=false:=by simp;omega
 clear hne;have hF:=cz zs env n _ p left hleft0 hpr;rw [hr.out]at hF;generalize hll:bR (aS zs env n) [dim] (p+1) (left-2)=rr at hF;obtain⟨ll,pp,le⟩:=rr;simp only [Prod.mk.injEq]at hF;obtain⟨rfl,rfl,rfl⟩:=hF;have HLL:=zh hll;clear hll hpr;have h6:deep<6:=by have:=hdeep.out;omega
 have hc8:=dx n
 go_enter func64,ntmps64
 go_wp2_with fail
 refine(bv s lv zs p p (left-2) _ _ rfl zp zr zu ze ze).mono ?_;rintro e w' ⟨rfl,n1,rfl⟩;rw [HK.out]
 go_wp2_with fail
 refine(dG s lv ev zs env n IH _ _ [dim] _ (p+1) ((p:Int)+1) _ ll p' l' _ HLL ze ze zK ze zp zr (zh zu) (zh zx) ze ze ze zg zg ze (Kr ze) (dH _ [dim] _ _ zg)).mono ?_;rintro e w' ⟨v,bs,d,rfl,rfl,hrep⟩;have H1:=zh hrep;obtain⟨va,vc,hv⟩:=hrep.form;subst hv;clear hrep
 go_wp2_with fail
 go_returns
 refine aN.of_eq (P':=(p':Int)) rfl rfl rfl (.of_below af) (((H1.out.eqw (w':=((((X.src s lv (p':Int) l').alloc (.cells #[.int .i64 0,.int .i64 0,.int .i64 0,.int .i64 0,.string ⟨#[]⟩,.slice none 0 0] 51))).alloc (.cells #[.int .i64 dim] 3)).grow bs d) zC).lift0 ?_ ?_ d).mono ?_)
 all_goals first
  |(intro b hb;simp at hb;omega)
  |(simp;done)
  |(simp;omega)
theorem NE
 (s:Nat) (lv ev:Value) (zs:List Int) (env:List (ByteArray × Int)) (n:Nat) (IH:Hid (cZ s lv ev zs env n)) (dim:Int) (p:Nat) (left deep:Int) (E:Ex) (p':Nat) (l':Int) (kk:Int) (X:World) (hr:Hid (aS zs env (n+1) dim p left=(E,p',l'))) (HK:Hid (aK zs p 14=kk)) (hleft0:0<left) (hdeep:Hid (deep=5-n)) (hn:n<=4) (hd4:dim<=4) (hs:s<X.heap.size) (hl:Hid (aI X s lv zs)) (he:Hid (bf X s ev env)) (hp:p+(3*aP n+3)<=900000) (hleft:-900000<=left-(3*(aP n:Int)+3)) (hleft2:left<=900000)
 (hd1:2<=dim) (hkk:kk=7):(Calls prog 64 #[.pointer (some ⟨s,0,none⟩),.int .i64 dim,.int .i64 deep,ev] (X.src s lv p left) (aN s lv X (E,p',l'))):=by
 subst hkk;have hne:¬dim=1:=by omega
 have hpr:bP zs p dim=some (9,[2,dim],p+1):=by simp [bP,HK.out,hne]
 have hne1:(dim==1)=false:=by simp;omega
 clear hne;have hF:=cz zs env n _ p left hleft0 hpr;rw [hr.out]at hF;generalize hll:bR (aS zs env n) [2,dim] (p+1) (left-2)=rr at hF;obtain⟨ll,pp,le⟩:=rr;simp only [Prod.mk.injEq]at hF;obtain⟨rfl,rfl,rfl⟩:=hF;have HLL:=zh hll;clear hll hpr;have h6:deep<6:=by have:=hdeep.out;omega
 have hc8:=dx n
 go_enter func64,ntmps64
 go_wp2_with fail
 refine(bv s lv zs p p (left-2) _ _ rfl zp zr zu ze ze).mono ?_;rintro e w' ⟨rfl,n1,rfl⟩;rw [HK.out]
 go_wp2_with fail
 refine(dG s lv ev zs env n IH _ _ [2,dim] _ (p+1) ((p:Int)+1) _ ll p' l' _ HLL ze ze zK ze zp zr (zh zu) (zh zx) ze ze ze zg zg ze (mq ze ze) (dH _ [2,dim] _ _ zg)).mono ?_;rintro e w' ⟨v,bs,d,rfl,rfl,hrep⟩;have H1:=zh hrep;obtain⟨va,vc,hv⟩:=hrep.form;subst hv;clear hrep
 go_wp2_with fail
 go_returns
 refine aN.of_eq (P':=(p':Int)) rfl rfl rfl (.of_below af) (((H1.out.eqw (w':=((((X.src s lv (p':Int) l').alloc (.cells #[.int .i64 0,.int .i64 0,.int .i64 0,.int .i64 0,.string ⟨#[]⟩,.slice none 0 0] 51))).alloc (.cells #[.int .i64 2,.int .i64 dim] 3)).grow bs d) zC).lift0 ?_ ?_ d).mono ?_)
 all_goals first
  |(intro b hb;simp at hb;omega)
  |(simp;done)
  |(simp;omega)
theorem ND
 (s:Nat) (lv ev:Value) (zs:List Int) (env:List (ByteArray × Int)) (n:Nat) (IH:Hid (cZ s lv ev zs env n)) (dim:Int) (p:Nat) (left deep:Int) (E:Ex) (p':Nat) (l':Int) (kk:Int) (X:World) (hr:Hid (aS zs env (n+1) dim p left=(E,p',l'))) (HK:Hid (aK zs p 14=kk)) (hleft0:0<left) (hdeep:Hid (deep=5-n)) (hn:n<=4) (hd4:dim<=4) (hs:s<X.heap.size) (hl:Hid (aI X s lv zs)) (he:Hid (bf X s ev env)) (hp:p+(3*aP n+3)<=900000) (hleft:-900000<=left-(3*(aP n:Int)+3)) (hleft2:left<=900000)
 (hd1:2<=dim) (hkk:kk=8):(Calls prog 64 #[.pointer (some ⟨s,0,none⟩),.int .i64 dim,.int .i64 deep,ev] (X.src s lv p left) (aN s lv X (E,p',l'))):=by
 subst hkk;have hne:¬dim=1:=by omega
 have hpr:bP zs p dim=some (9,[dim,2],p+1):=by simp [bP,HK.out,hne]
 have hne1:(dim==1)=false:=by simp;omega
 clear hne;have hF:=cz zs env n _ p left hleft0 hpr;rw [hr.out]at hF;generalize hll:bR (aS zs env n) [dim,2] (p+1) (left-2)=rr at hF;obtain⟨ll,pp,le⟩:=rr;simp only [Prod.mk.injEq]at hF;obtain⟨rfl,rfl,rfl⟩:=hF;have HLL:=zh hll;clear hll hpr;have h6:deep<6:=by have:=hdeep.out;omega
 have hc8:=dx n
 go_enter func64,ntmps64
 go_wp2_with fail
 refine(bv s lv zs p p (left-2) _ _ rfl zp zr zu ze ze).mono ?_;rintro e w' ⟨rfl,n1,rfl⟩;rw [HK.out]
 go_wp2_with fail
 refine(dG s lv ev zs env n IH _ _ [dim,2] _ (p+1) ((p:Int)+1) _ ll p' l' _ HLL ze ze zK ze zp zr (zh zu) (zh zx) ze ze ze zg zg ze (mq ze ze) (dH _ [dim,2] _ _ zg)).mono ?_;rintro e w' ⟨v,bs,d,rfl,rfl,hrep⟩;have H1:=zh hrep;obtain⟨va,vc,hv⟩:=hrep.form;subst hv;clear hrep
 go_wp2_with fail
 go_returns
 refine aN.of_eq (P':=(p':Int)) rfl rfl rfl (.of_below af) (((H1.out.eqw (w':=((((X.src s lv (p':Int) l').alloc (.cells #[.int .i64 0,.int .i64 0,.int .i64 0,.int .i64 0,.string ⟨#[]⟩,.slice none 0 0] 51))).alloc (.cells #[.int .i64 dim,.int .i64 2] 3)).grow bs d) zC).lift0 ?_ ?_ d).mono ?_)
 all_goals first
  |(intro b hb;simp at hb;omega)
  |(simp;done)
  |(simp;omega)
theorem NC
 (s:Nat) (lv ev:Value) (zs:List Int) (env:List (ByteArray × Int)) (n:Nat) (IH:Hid (cZ s lv ev zs env n)) (dim:Int) (p:Nat) (left deep:Int) (E:Ex) (p':Nat) (l':Int) (kk:Int) (X:World) (hr:Hid (aS zs env (n+1) dim p left=(E,p',l'))) (HK:Hid (aK zs p 14=kk)) (hleft0:0<left) (hdeep:Hid (deep=5-n)) (hn:n<=4) (hd4:dim<=4) (hs:s<X.heap.size) (hl:Hid (aI X s lv zs)) (he:Hid (bf X s ev env)) (hp:p+(3*aP n+3)<=900000) (hleft:-900000<=left-(3*(aP n:Int)+3)) (hleft2:left<=900000)
 (hd1:2<=dim) (hkk:kk=9):(Calls prog 64 #[.pointer (some ⟨s,0,none⟩),.int .i64 dim,.int .i64 deep,ev] (X.src s lv p left) (aN s lv X (E,p',l'))):=by
 subst hkk;have hne:¬dim=1:=by omega
 have hpr:bP zs p dim=some (10,[dim,2],p+1):=by simp [bP,HK.out,hne]
 have hne1:(dim==1)=false:=by simp;omega
 clear hne;have hF:=cz zs env n _ p left hleft0 hpr;rw [hr.out]at hF;generalize hll:bR (aS zs env n) [dim,2] (p+1) (left-2)=rr at hF;obtain⟨ll,pp,le⟩:=rr;simp only [Prod.mk.injEq]at hF;obtain⟨rfl,rfl,rfl⟩:=hF;have HLL:=zh hll;clear hll hpr;have h6:deep<6:=by have:=hdeep.out;omega
 have hc8:=dx n
 go_enter func64,ntmps64
 go_wp2_with fail
 refine(bv s lv zs p p (left-2) _ _ rfl zp zr zu ze ze).mono ?_;rintro e w' ⟨rfl,n1,rfl⟩;rw [HK.out]
 go_wp2_with fail
 refine(dG s lv ev zs env n IH _ _ [dim,2] _ (p+1) ((p:Int)+1) _ ll p' l' _ HLL ze ze zK ze zp zr (zh zu) (zh zx) ze ze ze zg zg ze (mq ze ze) (dH _ [dim,2] _ _ zg)).mono ?_;rintro e w' ⟨v,bs,d,rfl,rfl,hrep⟩;have H1:=zh hrep;obtain⟨va,vc,hv⟩:=hrep.form;subst hv;clear hrep
 go_wp2_with fail
 go_returns
 refine aN.of_eq (P':=(p':Int)) rfl rfl rfl (.of_below af) (((H1.out.eqw (w':=((((X.src s lv (p':Int) l').alloc (.cells #[.int .i64 0,.int .i64 0,.int .i64 0,.int .i64 0,.string ⟨#[]⟩,.slice none 0 0] 51))).alloc (.cells #[.int .i64 dim,.int .i64 2] 3)).grow bs d) zC).lift0 ?_ ?_ d).mono ?_)
 all_goals first
  |(intro b hb;simp at hb;omega)
  |(simp;done)
  |(simp;omega)
theorem Kh
 (s:Nat) (lv ev:Value) (zs:List Int) (env:List (ByteArray × Int)) (n:Nat) (IH:Hid (cZ s lv ev zs env n)) (dim:Int) (p:Nat) (left deep:Int) (E:Ex) (p':Nat) (l':Int) (kk:Int) (X:World) (hr:Hid (aS zs env (n+1) dim p left=(E,p',l'))) (HK:Hid (aK zs p 14=kk)) (hleft0:0<left) (hdeep:Hid (deep=5-n)) (hn:n<=4) (hd4:dim<=4) (hs:s<X.heap.size) (hl:Hid (aI X s lv zs)) (he:Hid (bf X s ev env)) (hp:p+(3*aP n+3)<=900000) (hleft:-900000<=left-(3*(aP n:Int)+3)) (hleft2:left<=900000)
 (hd1:dim=2) (hkk:kk=10):(Calls prog 64 #[.pointer (some ⟨s,0,none⟩),.int .i64 dim,.int .i64 deep,ev] (X.src s lv p left) (aN s lv X (E,p',l'))):=by
 subst hkk hd1;have hb1:=fB zs (p+1) 3 ze;have hpr0:bP zs p 2=some (10,[2+aK zs (p+1) 3,2+aK zs (p+1) 3],p+2):=by simp [bP,HK.out]
 generalize hA:aK zs (p+1) 3=a at hb1 hpr0;have HA:=zh hA;clear hA;have hpr:=hpr0;clear hpr0;have hF:=cz zs env n _ p left hleft0 hpr;rw [hr.out]at hF;generalize hll:bR (aS zs env n) [2+a,2+a] (p+2) (left-2)=rr at hF;obtain⟨ll,pp,le⟩:=rr;simp only [Prod.mk.injEq]at hF;obtain⟨rfl,rfl,rfl⟩:=hF;have HLL:=zh hll;clear hll hpr;have h6:deep<6:=by have:=hdeep.out;omega
 have hc8:=dx n
 go_enter func64,ntmps64
 go_wp2_with fail
 refine(bv s lv zs p p (left-2) _ _ rfl zp zr zu ze ze).mono ?_;rintro e w' ⟨rfl,n1,rfl⟩;rw [HK.out]
 go_wp2_with fail
 refine(bv s lv zs (p+1) (p+1) (left-2) _ _ zg zp zr zu ze ze).mono ?_;rintro e w' ⟨rfl,n2,rfl⟩;rw [HA.out]
 go_wp2_with fail
 refine(dG s lv ev zs env n IH _ _ [2+a,2+a] _ (p+2) ((p:Int)+1+1) _ ll p' l' _ HLL ze ze zK ze zp zr (zh zu) (zh zx) ze ze ze zg zg ze (mq ze ze) (dH _ [2+a,2+a] _ _ zg)).mono ?_;rintro e w' ⟨v,bs,d,rfl,rfl,hrep⟩;have H1:=zh hrep;obtain⟨va,vc,hv⟩:=hrep.form;subst hv;clear hrep
 go_wp2_with fail
 go_returns
 refine aN.of_eq (P':=(p':Int)) rfl rfl rfl (.of_below af) (((H1.out.eqw (w':=(((X.src s lv (p':Int) l').alloc (.cells #[.int .i64 0,.int .i64 0,.int .i64 0,.int .i64 0,.string ⟨#[]⟩,.slice none 0 0] 51)).alloc (.cells #[.int .i64 (2+a),.int .i64 (2+a)] 3)).grow bs d) zC).lift0 ?_ ?_ d).mono ?_)
 all_goals first
  |(intro b hb;simp at hb;omega)
  |(simp;done)
  |(simp;omega)
theorem DN
 (s:Nat) (lv ev:Value) (zs:List Int) (env:List (ByteArray × Int)) (n:Nat) (IH:Hid (cZ s lv ev zs env n)) (dim:Int) (p:Nat) (left deep:Int) (E:Ex) (p':Nat) (l':Int) (kk:Int) (X:World) (hr:Hid (aS zs env (n+1) dim p left=(E,p',l'))) (HK:Hid (aK zs p 14=kk)) (hleft0:0<left) (hdeep:Hid (deep=5-n)) (hn:n<=4) (hd4:dim<=4) (hs:s<X.heap.size) (hl:Hid (aI X s lv zs)) (he:Hid (bf X s ev env)) (hp:p+(3*aP n+3)<=900000) (hleft:-900000<=left-(3*(aP n:Int)+3)) (hleft2:left<=900000)
 (hd1:2<=dim) (hkk:kk=10/\dim≠2\/kk=11\/kk=12\/kk=13):(Calls prog 64 #[.pointer (some ⟨s,0,none⟩),.int .i64 dim,.int .i64 deep,ev] (X.src s lv p left) (aN s lv X (E,p',l'))):=by
 have hne:¬dim=1:=by omega
 have hpr:bP zs p dim=none:=by
  rcases hkk with ⟨rfl,h2⟩|rfl|rfl|rfl
  ·simp [bP,HK.out,hne,h2]
  ·simp [bP,HK.out,hne]
  ·simp [bP,HK.out,hne]
  ·simp [bP,HK.out,hne]
 have hF:=uB zs env n dim p left hleft0 hpr;rw [hr.out]at hF;have HL:=zh hF.symm;have hne1:(dim==1)=false:=by simp;omega
 clear hF hpr hne;rcases hkk with ⟨rfl,h2⟩|rfl|rfl|rfl
 ·have h2b:(dim==2)=false:=by simpa using h2
  have h6:deep<6:=by have:=hdeep.out;omega
  have hc8:=dx n
  go_enter func64,ntmps64
  go_wp2_with fail
  refine(bv s lv zs p p (left-2) _ _ rfl zp zr zu ze ze).mono ?_;rintro e w' ⟨rfl,n1,rfl⟩;rw [HK.out]
  go_wp2_with fail
  refine(kG s lv zs (p+1) _ (left-2) _ _ env _ rfl ze ze zp zr (zh zu) (zh zx) ze ze ze).mono ?_;rintro e w' ⟨v,bs,d,rfl,rfl,hrep⟩;rw [HL.out]at hrep;simp only [HL.out];have H1:=zh hrep;obtain⟨va,vc,hv⟩:=hrep.form;subst hv;clear hrep
  go_wp2_with fail
  go_returns
  refine aN.of_eq (P':=(p':Int)) rfl rfl rfl (.of_below af) (((H1.out.eqw (w':=((X.src s lv (p':Int) l').alloc (.cells #[.int .i64 0,.int .i64 0,.int .i64 0,.int .i64 0,.string ⟨#[]⟩,.slice none 0 0] 51)).grow bs d) zC).lift0 ?_ ?_ d).mono ?_)
  all_goals first
   |(intro b hb;simp at hb;omega)
   |(simp;done)
   |(simp;omega)
 all_goals
  have h6:deep<6:=by have:=hdeep.out;omega
  have hc8:=dx n
  go_enter func64,ntmps64
  go_wp2_with fail
  refine(bv s lv zs p p (left-2) _ _ rfl zp zr zu ze ze).mono ?_;rintro e w' ⟨rfl,n1,rfl⟩;rw [HK.out]
  go_wp2_with fail
  refine(kG s lv zs (p+1) _ (left-2) _ _ env _ rfl ze ze zp zr (zh zu) (zh zx) ze ze ze).mono ?_;rintro e w' ⟨v,bs,d,rfl,rfl,hrep⟩;rw [HL.out]at hrep;simp only [HL.out];have H1:=zh hrep;obtain⟨va,vc,hv⟩:=hrep.form;subst hv;clear hrep
  go_wp2_with fail
  go_returns
  refine aN.of_eq (P':=(p':Int)) rfl rfl rfl (.of_below af) (((H1.out.eqw (w':=((X.src s lv (p':Int) l').alloc (.cells #[.int .i64 0,.int .i64 0,.int .i64 0,.int .i64 0,.string ⟨#[]⟩,.slice none 0 0] 51)).grow bs d) zC).lift0 ?_ ?_ d).mono ?_)
  all_goals first
   |(intro b hb;simp at hb;omega)
   |(simp;done)
   |(simp;omega)
theorem GJ(s:Nat)(lv ev:Value)(zs:List Int)(env:List (ByteArray × Int))(n:Nat)(hn:n<=4)(IH:cZ s lv ev zs env n):cZ s lv ev zs env (n+1):=by
 unfold cZ;intro dim p P left deep r X hr hP hdeep hd1 hd4 hs hX hl he hp hleft hleft2;subst hP
 suffices h:Calls prog 64 #[.pointer (some ⟨s,0,none⟩),.int .i64 dim,.int .i64 deep,ev] (X.src s lv p left) (aN s lv X r)by rw [hX]at h;exact h
 clear hX;obtain⟨E,p',l'⟩:=r;have hc:aP (n+1)=3*aP n+3:=rfl;have hc8:=dx n;rw [hc]at hp hleft;by_cases h0:left<=0
 ·exact Ki s lv ev zs env n dim p left deep E p' l' X (zh (by have:=hr.out;rw [DU _ _ _ _ _ _ (.inr h0)]at this;exact this)) h0 ze hn hd1 hd4 hs hl he ze ze ze
 ·have h1:0<left:=by omega
  have hp2:p+(3*aP n+3)<=900000:=hp;have hl2:-900000<=left-(3*(aP n:Int)+3):=by omega
  have hdp:Hid (deep=5-n):=zh ze;have hkb:=fB zs p 14 ze;generalize hK:aK zs p 14=kk at hkb;have HK:=zh hK;by_cases hd:dim=1
  ·obtain h|h|h|h|h|h:kk=0\/kk=1\/kk=2\/kk=3\/(kk=4\/kk=5\/kk=6\/kk=7\/kk=8)\/(kk=9\/kk=10\/kk=11\/kk=12\/kk=13):=by omega
   ·exact NQ s lv ev zs env n (zh IH) dim p left deep E p' l' kk X hr HK h1 hdp hn hd4 hs hl he hp2 hl2 hleft2 hd h
   ·exact NP s lv ev zs env n (zh IH) dim p left deep E p' l' kk X hr HK h1 hdp hn hd4 hs hl he hp2 hl2 hleft2 hd h
   ·exact NN s lv ev zs env n (zh IH) dim p left deep E p' l' kk X hr HK h1 hdp hn hd4 hs hl he hp2 hl2 hleft2 hd h
   ·exact NM s lv ev zs env n (zh IH) dim p left deep E p' l' kk X hr HK h1 hdp hn hd4 hs hl he hp2 hl2 hleft2 hd h
   ·exact GM s lv ev zs env n (zh IH) dim p left deep E p' l' kk X hr HK h1 hdp hn hd4 hs hl he hp2 hl2 hleft2 hd h
   ·exact DT s lv ev zs env n (zh IH) dim p left deep E p' l' kk X hr HK h1 hdp hn hd4 hs hl he hp2 hl2 hleft2 hd h
  ·have hd2:2<=dim:=by omega
   obtain h|h|h|h|h|h|h|h|h|h|⟨h,h2⟩|h:kk=0\/kk=1\/kk=2\/kk=3\/kk=4\/kk=5\/kk=6\/kk=7\/kk=8\/kk=9\/(kk=10/\dim=2)\/(kk=10/\dim≠2\/kk=11\/kk=12\/kk=13):=by omega
   ·exact NL s lv ev zs env n (zh IH) dim p left deep E p' l' kk X hr HK h1 hdp hn hd4 hs hl he hp2 hl2 hleft2 hd2 h
   ·exact NK s lv ev zs env n (zh IH) dim p left deep E p' l' kk X hr HK h1 hdp hn hd4 hs hl he hp2 hl2 hleft2 hd2 h
   ·exact NJ s lv ev zs env n (zh IH) dim p left deep E p' l' kk X hr HK h1 hdp hn hd4 hs hl he hp2 hl2 hleft2 hd2 h
   ·exact NI s lv ev zs env n (zh IH) dim p left deep E p' l' kk X hr HK h1 hdp hn hd4 hs hl he hp2 hl2 hleft2 hd2 h
   ·exact NH s lv ev zs env n (zh IH) dim p left deep E p' l' kk X hr HK h1 hdp hn hd4 hs hl he hp2 hl2 hleft2 hd2 h
   ·exact NG s lv ev zs env n (zh IH) dim p left deep E p' l' kk X hr HK h1 hdp hn hd4 hs hl he hp2 hl2 hleft2 hd2 h
   ·exact NF s lv ev zs env n (zh IH) dim p left deep E p' l' kk X hr HK h1 hdp hn hd4 hs hl he hp2 hl2 hleft2 hd2 h
   ·exact NE s lv ev zs env n (zh IH) dim p left deep E p' l' kk X hr HK h1 hdp hn hd4 hs hl he hp2 hl2 hleft2 hd2 h
   ·exact ND s lv ev zs env n (zh IH) dim p left deep E p' l' kk X hr HK h1 hdp hn hd4 hs hl he hp2 hl2 hleft2 hd2 h
   ·exact NC s lv ev zs env n (zh IH) dim p left deep E p' l' kk X hr HK h1 hdp hn hd4 hs hl he hp2 hl2 hleft2 hd2 h
   ·exact Kh s lv ev zs env n (zh IH) dim p left deep E p' l' kk X hr HK h1 hdp hn hd4 hs hl he hp2 hl2 hleft2 h2 h
   ·exact DN s lv ev zs env n (zh IH) dim p left deep E p' l' kk X hr HK h1 hdp hn hd4 hs hl he hp2 hl2 hleft2 hd2 h
theorem NB(s:Nat)(lv ev:Value)(zs:List Int)(env:List (ByteArray × Int))(n:Nat)(hn:n<=5):cZ s lv ev zs env n:=by
 induction n with
 |zero=>exact GI s lv ev zs env
 |succ n ih=>exact GJ s lv ev zs env n ze (ih ze)
end Go.Proofs.YtlheailebbngiaaGreatDoor
