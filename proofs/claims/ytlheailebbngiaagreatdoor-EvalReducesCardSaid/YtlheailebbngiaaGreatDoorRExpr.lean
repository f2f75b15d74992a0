import Derived.Test.YtlheailebbngiaaGreatDoorRNames
import Derived.Test.YtlheailebbngiaaGreatDoorRSyW
import Derived.Lib.OthersKept
set_option linter.all false
set_option maxHeartbeats 16000000
set_option maxRecDepth 1000000
namespace Go.Proofs.YtlheailebbngiaaGreatDoor
open Tryz List
open Go.RowKit

theorem dI(s:Nat)(lv ev:Value)(zs:List Int)(env:List (ByteArray × Int))(n:Nat)(IH:Hid (dx s lv ev zs env n))(op deep:Int)(ds:List Int)(db:Nat)(p:Nat)(P left:Int)(l:List Ex)(p':Nat)(l':Int)(X:World)(hr:Hid (bS (aS zs env n) ds p left=(l,p',l')))(hP:P=p)(hn:n<=5)(hdeep:deep+1=6-n)(hop:0<=op/\op<=100)
 (hs:s<X.heap.size) (hX:X.src s lv P left=X) (hl:Hid (aJ X s lv zs)) (he:Hid (bF X s ev env)) (hp:p+3*aQ n<=900000) (hleft:-900000<=left-3*aQ n) (hleft2:left<=900000)
 (hdl:ds.length<=3) (hdb:db<X.heap.size) (hdbs:db≠s) (hdr:∀d∈ds,1<=d/\d<=4) (hdc:∀i,i<ds.length->X.cell? ⟨db,i,none⟩=some (.int .i64 (ds.getD i 0))) :
 Calls prog 105 #[.pointer (some ⟨s,0,none⟩),.int .i64 op,.int .i64 deep,ev,.slice (some ⟨db,0,none⟩) ds.length ds.length] X
  (aP s lv X (.mk op 0 0 0 ByteArray.empty l,p',l')):=by
 have:=Ka s lv ev zs env n IH op deep ds db p P left X hP hn hdeep hop hs hX hl he hp hleft hleft2 hdl hdb hdbs (zh fun i hi=>by
  have hm:ds.getD i 0∈ds:=by rw [getD_eq_getElem?_getD,getElem?_eq_getElem hi];exact getElem_mem hi
  exact hdr _ hm) (zh hdc)
 rw [hr.out]at this;exact this
theorem dJ(w:World)(ds:List Int)(t:TypeId)(H:Nat)(hH:w.heap.size=H):∀i,i<ds.length->(w.alloc (.cells (ds.map (Value.int .i64)).toArray t)).cell? ⟨H,i,none⟩=some (.int .i64 (ds.getD i 0)):=by
 subst hH;intro i hi;rw [World.cell?_alloc_at _ _ _ _ rfl,getD_eq_getElem?_getD,getElem?_eq_getElem hi];simp [hi]
theorem KU{a:Int}(ha:1<=a/\a<=4):∀d∈[a],1<=d/\d<=4:=by intro d hd;simp at hd;subst hd;exact ha
theorem mJ{a b:Int}(ha:1<=a/\a<=4)(hb:1<=b/\b<=4):∀d∈[a,b],1<=d/\d<=4:=by intro d hd;simp at hd;rcases hd with rfl|rfl<;>assumption
theorem O9{a b c:Int}(ha:1<=a/\a<=4)(hb:1<=b/\b<=4)(hc:1<=c/\c<=4):∀d∈[a,b,c],1<=d/\d<=4:=by intro d hd;simp at hd;rcases hd with rfl|rfl|rfl<;>assumption
theorem Ae(w:World)(n:Nat)(o:Obj):(w.drewN n).alloc o=(w.alloc o).drewN n:=rfl
theorem aC.form{S:Nat->Prop}{w:World}{e:Ex}{v:Value}(h:aC S w e v):∃a cap,v= .slice a e.args.length cap:=by cases h;exact⟨_,_,rfl⟩
theorem Ia(s:Nat)(lv ev:Value)(zs:List Int)(env:List (ByteArray × Int)):dx s lv ev zs env 0:=by
 unfold dx;intro dim p P left deep r X hr hP hdeep hd1 hd4 hs hX hl he hp hleft hleft2;subst hP
 suffices h:Calls prog 64 #[.pointer (some ⟨s,0,none⟩),.int .i64 dim,.int .i64 deep,ev] (X.src s lv p left) (aP s lv X r)by rw [hX]at h;exact h
 clear hX;obtain⟨E,p',l'⟩:=r;have HL:Hid (eB zs env dim p left=(E,p',l')):=zh hr.out;have hc:aQ 0=8:=rfl;rw [hc]at hp hleft;have h6:6<=deep:=by omega
 clear hdeep
 go_enter func64,ntmps64
 go_wp2_with fail
 refine(kL s lv zs p _ left _ _ env _ rfl ze ze zp zr (zh zu) (zh zx) ze ze ze).mono ?_;rintro e w' ⟨v,bs,d,rfl,rfl,hrep⟩;rw [HL.out]at hrep;simp only [HL.out];have H1:=zh hrep;obtain⟨va,vc,hv⟩:=hrep.form;subst hv;clear hrep
 go_wp2_with fail
 go_returns
 refine aP.of_eq (P':=(p':Int)) rfl rfl rfl (.of_below ag) (((H1.out.eqw (w':=((X.src s lv (p':Int) l').alloc (.cells #[.int .i64 0,.int .i64 0,.int .i64 0,.int .i64 0,.string ⟨#[]⟩,.slice none 0 0] 51)).grow bs d) zD).lift0 ?_ ?_ d).mono ?_)
 all_goals first
  |(intro b hb;simp at hb;omega)
  |(simp;done)
  |(simp;omega)
theorem KM(s:Nat)(lv ev:Value)(zs:List Int)(env:List (ByteArray × Int))(n:Nat)(dim:Int)(p:Nat)(left deep:Int)(E:Ex)(p':Nat)(l':Int)(X:World)(hr:Hid (eB zs env dim p left=(E,p',l')))(hleft0:left<=0)(hdeep:deep=5-n)(hn:n<=4)(hd1:1<=dim)(hd4:dim<=4)(hs:s<X.heap.size)
 (hl:Hid (aJ X s lv zs)) (he:Hid (bF X s ev env)) (hp:p<=900000) (hleft:-900000<=left) (hleft2:left<=900000):Calls prog 64 #[.pointer (some ⟨s,0,none⟩),.int .i64 dim,.int .i64 deep,ev] (X.src s lv p left) (aP s lv X (E,p',l')):=by
 have h6:deep<6:=by omega
 have HL:=hr
 go_enter func64,ntmps64
 go_wp2_with fail
 refine(kL s lv zs p _ left _ _ env _ rfl ze ze zp zr (zh zu) (zh zx) ze ze ze).mono ?_;rintro e w' ⟨v,bs,d,rfl,rfl,hrep⟩;rw [HL.out]at hrep;simp only [HL.out];have H1:=zh hrep;obtain⟨va,vc,hv⟩:=hrep.form;subst hv;clear hrep
 go_wp2_with fail
 go_returns
 refine aP.of_eq (P':=(p':Int)) rfl rfl rfl (.of_below ag) (((H1.out.eqw (w':=((X.src s lv (p':Int) l').alloc (.cells #[.int .i64 0,.int .i64 0,.int .i64 0,.int .i64 0,.string ⟨#[]⟩,.slice none 0 0] 51)).grow bs d) zD).lift0 ?_ ?_ d).mono ?_)
 all_goals first
  |(intro b hb;simp at hb;omega)
  |(simp;done)
  |(simp;omega)
theorem Ol
 (s:Nat) (lv ev:Value) (zs:List Int) (env:List (ByteArray × Int)) (n:Nat) (IH:Hid (dx s lv ev zs env n)) (dim:Int) (p:Nat) (left deep:Int) (E:Ex) (p':Nat) (l':Int) (kk:Int) (X:World) (hr:Hid (aS zs env (n+1) dim p left=(E,p',l'))) (HK:Hid (aM zs p 14=kk)) (hleft0:0<left) (hdeep:Hid (deep=5-n)) (hn:n<=4) (hd4:dim<=4) (hs:s<X.heap.size) (hl:Hid (aJ X s lv zs)) (he:Hid (bF X s ev env)) (hp:p+(3*aQ n+3)<=900000) (hleft:-900000<=left-(3*(aQ n:Int)+3)) (hleft2:left<=900000)
 (hd1:dim=1) (hkk:kk=0):(Calls prog 64 #[.pointer (some ⟨s,0,none⟩),.int .i64 dim,.int .i64 deep,ev] (X.src s lv p left) (aP s lv X (E,p',l'))):=by
 subst hd1;subst hkk;have hpr:bR zs p 1=some (17,[1,1],p+1):=by simp [bR,HK.out]
 have hF:=cB zs env n _ p left hleft0 hpr;rw [hr.out]at hF;generalize hll:bS (aS zs env n) [1,1] (p+1) (left-2)=rr at hF;obtain⟨ll,pp,le⟩:=rr;simp only [Prod.mk.injEq]at hF;obtain⟨rfl,rfl,rfl⟩:=hF;have HLL:=zh hll;clear hll hpr;have h6:deep<6:=by have:=hdeep.out;omega
 have hc8:=dG n
 go_enter func64,ntmps64
 go_wp2_with fail
 refine(bG s lv zs p p (left-2) _ _ rfl zp zr zu ze ze).mono ?_;rintro e w' ⟨rfl,n1,rfl⟩;rw [HK.out]
 go_wp2_with fail
 refine(dI s lv ev zs env n IH _ _ [1,1] _ (p+1) ((p:Int)+1) _ ll p' l' _ HLL ze ze zK ze zp zr (zh zu) (zh zx) ze ze ze zg zg ze (mJ ze ze) (dJ _ [1,1] _ _ zg)).mono ?_;rintro e w' ⟨v,bs,d,rfl,rfl,hrep⟩;have H1:=zh hrep;obtain⟨va,vc,hv⟩:=hrep.form;subst hv;clear hrep
 go_wp2_with fail
 go_returns
 refine aP.of_eq (P':=(p':Int)) rfl rfl rfl (.of_below ag) (((H1.out.eqw (w':=(((X.src s lv (p':Int) l').alloc (.cells #[.int .i64 0,.int .i64 0,.int .i64 0,.int .i64 0,.string ⟨#[]⟩,.slice none 0 0] 51)).alloc (.cells #[.int .i64 1,.int .i64 1] 3)).grow bs d) zD).lift0 ?_ ?_ d).mono ?_)
 all_goals first
  |(intro b hb;simp at hb;omega)
  |(simp;done)
  |(simp;omega)
theorem Oj
 (s:Nat) (lv ev:Value) (zs:List Int) (env:List (ByteArray × Int)) (n:Nat) (IH:Hid (dx s lv ev zs env n)) (dim:Int) (p:Nat) (left deep:Int) (E:Ex) (p':Nat) (l':Int) (kk:Int) (X:World) (hr:Hid (aS zs env (n+1) dim p left=(E,p',l'))) (HK:Hid (aM zs p 14=kk)) (hleft0:0<left) (hdeep:Hid (deep=5-n)) (hn:n<=4) (hd4:dim<=4) (hs:s<X.heap.size) (hl:Hid (aJ X s lv zs)) (he:Hid (bF X s ev env)) (hp:p+(3*aQ n+3)<=900000) (hleft:-900000<=left-(3*(aQ n:Int)+3)) (hleft2:left<=900000)
 (hd1:dim=1) (hkk:kk=1):(Calls prog 64 #[.pointer (some ⟨s,0,none⟩),.int .i64 dim,.int .i64 deep,ev] (X.src s lv p left) (aP s lv X (E,p',l'))):=by
 subst hd1;subst hkk;have hpr:bR zs p 1=some (18,[1,1],p+1):=by simp [bR,HK.out]
 have hF:=cB zs env n _ p left hleft0 hpr;rw [hr.out]at hF;generalize hll:bS (aS zs env n) [1,1] (p+1) (left-2)=rr at hF;obtain⟨ll,pp,le⟩:=rr;simp only [Prod.mk.injEq]at hF;obtain⟨rfl,rfl,rfl⟩:=hF;have HLL:=zh hll;clear hll hpr;have h6:deep<6:=by have:=hdeep.out;omega
 have hc8:=dG n
 go_enter func64,ntmps64
 go_wp2_with fail
 refine(bG s lv zs p p (left-2) _ _ rfl zp zr zu ze ze).mono ?_;rintro e w' ⟨rfl,n1,rfl⟩;rw [HK.out]
 go_wp2_with fail
 refine(dI s lv ev zs env n IH _ _ [1,1] _ (p+1) ((p:Int)+1) _ ll p' l' _ HLL ze ze zK ze zp zr (zh zu) (zh zx) ze ze ze zg zg ze (mJ ze ze) (dJ _ [1,1] _ _ zg)).mono ?_;rintro e w' ⟨v,bs,d,rfl,rfl,hrep⟩;have H1:=zh hrep;obtain⟨va,vc,hv⟩:=hrep.form;subst hv;clear hrep
 go_wp2_with fail
 go_returns
 refine aP.of_eq (P':=(p':Int)) rfl rfl rfl (.of_below ag) (((H1.out.eqw (w':=(((X.src s lv (p':Int) l').alloc (.cells #[.int .i64 0,.int .i64 0,.int .i64 0,.int .i64 0,.string ⟨#[]⟩,.slice none 0 0] 51)).alloc (.cells #[.int .i64 1,.int .i64 1] 3)).grow bs d) zD).lift0 ?_ ?_ d).mono ?_)
 all_goals first
  |(intro b hb;simp at hb;omega)
  |(simp;done)
  |(simp;omega)
theorem Oi
 (s:Nat) (lv ev:Value) (zs:List Int) (env:List (ByteArray × Int)) (n:Nat) (IH:Hid (dx s lv ev zs env n)) (dim:Int) (p:Nat) (left deep:Int) (E:Ex) (p':Nat) (l':Int) (kk:Int) (X:World) (hr:Hid (aS zs env (n+1) dim p left=(E,p',l'))) (HK:Hid (aM zs p 14=kk)) (hleft0:0<left) (hdeep:Hid (deep=5-n)) (hn:n<=4) (hd4:dim<=4) (hs:s<X.heap.size) (hl:Hid (aJ X s lv zs)) (he:Hid (bF X s ev env)) (hp:p+(3*aQ n+3)<=900000) (hleft:-900000<=left-(3*(aQ n:Int)+3)) (hleft2:left<=900000)
 (hd1:dim=1) (hkk:kk=2):(Calls prog 64 #[.pointer (some ⟨s,0,none⟩),.int .i64 dim,.int .i64 deep,ev] (X.src s lv p left) (aP s lv X (E,p',l'))):=by
 subst hd1;subst hkk;have hpr:bR zs p 1=some (5,[1],p+1):=by simp [bR,HK.out]
 have hF:=cB zs env n _ p left hleft0 hpr;rw [hr.out]at hF;generalize hll:bS (aS zs env n) [1] (p+1) (left-2)=rr at hF;obtain⟨ll,pp,le⟩:=rr;simp only [Prod.mk.injEq]at hF;obtain⟨rfl,rfl,rfl⟩:=hF;have HLL:=zh hll;clear hll hpr;have h6:deep<6:=by have:=hdeep.out;omega
 have hc8:=dG n
 go_enter func64,ntmps64
 go_wp2_with fail
 refine(bG s lv zs p p (left-2) _ _ rfl zp zr zu ze ze).mono ?_;rintro e w' ⟨rfl,n1,rfl⟩;rw [HK.out]
 go_wp2_with fail
 refine(dI s lv ev zs env n IH _ _ [1] _ (p+1) ((p:Int)+1) _ ll p' l' _ HLL ze ze zK ze zp zr (zh zu) (zh zx) ze ze ze zg zg ze (KU ze) (dJ _ [1] _ _ zg)).mono ?_;rintro e w' ⟨v,bs,d,rfl,rfl,hrep⟩;have H1:=zh hrep;obtain⟨va,vc,hv⟩:=hrep.form;subst hv;clear hrep
 go_wp2_with fail
 go_returns
 refine aP.of_eq (P':=(p':Int)) rfl rfl rfl (.of_below ag) (((H1.out.eqw (w':=(((X.src s lv (p':Int) l').alloc (.cells #[.int .i64 0,.int .i64 0,.int .i64 0,.int .i64 0,.string ⟨#[]⟩,.slice none 0 0] 51)).alloc (.cells #[.int .i64 1] 3)).grow bs d) zD).lift0 ?_ ?_ d).mono ?_)
 all_goals first
  |(intro b hb;simp at hb;omega)
  |(simp;done)
  |(simp;omega)
theorem Oh
 (s:Nat) (lv ev:Value) (zs:List Int) (env:List (ByteArray × Int)) (n:Nat) (IH:Hid (dx s lv ev zs env n)) (dim:Int) (p:Nat) (left deep:Int) (E:Ex) (p':Nat) (l':Int) (kk:Int) (X:World) (hr:Hid (aS zs env (n+1) dim p left=(E,p',l'))) (HK:Hid (aM zs p 14=kk)) (hleft0:0<left) (hdeep:Hid (deep=5-n)) (hn:n<=4) (hd4:dim<=4) (hs:s<X.heap.size) (hl:Hid (aJ X s lv zs)) (he:Hid (bF X s ev env)) (hp:p+(3*aQ n+3)<=900000) (hleft:-900000<=left-(3*(aQ n:Int)+3)) (hleft2:left<=900000)
 (hd1:dim=1) (hkk:kk=3):(Calls prog 64 #[.pointer (some ⟨s,0,none⟩),.int .i64 dim,.int .i64 deep,ev] (X.src s lv p left) (aP s lv X (E,p',l'))):=by
 subst hd1;subst hkk;have hpr:bR zs p 1=some (21,[1,1,1],p+1):=by simp [bR,HK.out]
 have hF:=cB zs env n _ p left hleft0 hpr;rw [hr.out]at hF;generalize hll:bS (aS zs env n) [1,1,1] (p+1) (left-2)=rr at hF;obtain⟨ll,pp,le⟩:=rr;simp only [Prod.mk.injEq]at hF;obtain⟨rfl,rfl,rfl⟩:=hF;have HLL:=zh hll;clear hll hpr;have h6:deep<6:=by have:=hdeep.out;omega
 have hc8:=dG n
 go_enter func64,ntmps64
 go_wp2_with fail
 refine(bG s lv zs p p (left-2) _ _ rfl zp zr zu ze ze).mono ?_;rintro e w' ⟨rfl,n1,rfl⟩;rw [HK.out]
 go_wp2_with fail
 refine(dI s lv ev zs env n IH _ _ [1,1,1] _ (p+1) ((p:Int)+1) _ ll p' l' _ HLL ze ze zK ze zp zr (zh zu) (zh zx) ze ze ze zg zg ze (O9 ze ze ze) (dJ _ [1,1,1] _ _ zg)).mono ?_;rintro e w' ⟨v,bs,d,rfl,rfl,hrep⟩;have H1:=zh hrep;obtain⟨va,vc,hv⟩:=hrep.form;subst hv;clear hrep
 go_wp2_with fail
 go_returns
 refine aP.of_eq (P':=(p':Int)) rfl rfl rfl (.of_below ag) (((H1.out.eqw (w':=(((X.src s lv (p':Int) l').alloc (.cells #[.int .i64 0,.int .i64 0,.int .i64 0,.int .i64 0,.string ⟨#[]⟩,.slice none 0 0] 51)).alloc (.cells #[.int .i64 1,.int .i64 1,.int .i64 1] 3)).grow bs d) zD).lift0 ?_ ?_ d).mono ?_)
 all_goals first
  |(intro b hb;simp at hb;omega)
  |(simp;done)
  |(simp;omega)
theorem Ig
 (s:Nat) (lv ev:Value) (zs:List Int) (env:List (ByteArray × Int)) (n:Nat) (IH:Hid (dx s lv ev zs env n)) (dim:Int) (p:Nat) (left deep:Int) (E:Ex) (p':Nat) (l':Int) (kk:Int) (X:World) (hr:Hid (aS zs env (n+1) dim p left=(E,p',l'))) (HK:Hid (aM zs p 14=kk)) (hleft0:0<left) (hdeep:Hid (deep=5-n)) (hn:n<=4) (hd4:dim<=4) (hs:s<X.heap.size) (hl:Hid (aJ X s lv zs)) (he:Hid (bF X s ev env)) (hp:p+(3*aQ n+3)<=900000) (hleft:-900000<=left-(3*(aQ n:Int)+3)) (hleft2:left<=900000)
 (hd1:dim=1) (hkk:kk=4\/kk=5\/kk=6\/kk=7\/kk=8):(Calls prog 64 #[.pointer (some ⟨s,0,none⟩),.int .i64 dim,.int .i64 deep,ev] (X.src s lv p left) (aP s lv X (E,p',l'))):=by
 subst hd1;have hb1:=fB zs (p+1) 3 ze;have hb2:=fB zs (p+2) 6 ze
 have hpr0:bR zs p 1=some (11+aM zs (p+2) 6,[2+aM zs (p+1) 3,2+aM zs (p+1) 3],p+3):=by
  rcases hkk with rfl|rfl|rfl|rfl|rfl<;>simp [bR,HK.out]
 generalize hA:aM zs (p+1) 3=a at hb1 hpr0;generalize hC:aM zs (p+2) 6=c at hb2 hpr0;have HA:=zh hA;have HC:=zh hC;clear hA hC;have hpr:=hpr0;clear hpr0;have hF:=cB zs env n _ p left hleft0 hpr;rw [hr.out]at hF;generalize hll:bS (aS zs env n) [2+a,2+a] (p+3) (left-2)=rr at hF;obtain⟨ll,pp,le⟩:=rr;simp only [Prod.mk.injEq]at hF;obtain⟨rfl,rfl,rfl⟩:=hF;have HLL:=zh hll;clear hll hpr;rcases hkk with rfl|rfl|rfl|rfl|rfl
 all_goals
  have h6:deep<6:=by have:=hdeep.out;omega
  have hc8:=dG n
  go_enter func64,ntmps64
  go_wp2_with fail
  refine(bG s lv zs p p (left-2) _ _ rfl zp zr zu ze ze).mono ?_;rintro e w' ⟨rfl,n1,rfl⟩;rw [HK.out]
  go_wp2_with fail
  refine(bG s lv zs (p+1) (p+1) (left-2) _ _ zg zp zr zu ze ze).mono ?_;rintro e w' ⟨rfl,n2,rfl⟩;rw [HA.out]
  go_wp2_with fail
  refine(bG s lv zs (p+2) (p+1+1) (left-2) _ _ ze zp zr zu ze ze).mono ?_;rintro e w' ⟨rfl,n3,rfl⟩;rw [HC.out]
  go_wp2_with fail
  refine(dI s lv ev zs env n IH _ _ [2+a,2+a] _ (p+3) ((p:Int)+1+1+1) _ ll p' l' _ HLL ze ze zK ze zp zr (zh zu) (zh zx) ze ze ze zg zg ze (mJ ze ze) (dJ _ [2+a,2+a] _ _ zg)).mono ?_;rintro e w' ⟨v,bs,d,rfl,rfl,hrep⟩;have H1:=zh hrep;obtain⟨va,vc,hv⟩:=hrep.form;subst hv;clear hrep
  go_wp2_with fail
  go_returns
  refine aP.of_eq (P':=(p':Int)) rfl rfl rfl (.of_below ag) (((H1.out.eqw (w':=(((X.src s lv (p':Int) l').alloc (.cells #[.int .i64 0,.int .i64 0,.int .i64 0,.int .i64 0,.string ⟨#[]⟩,.slice none 0 0] 51)).alloc (.cells #[.int .i64 (2+a),.int .i64 (2+a)] 3)).grow bs d) zD).lift0 ?_ ?_ d).mono ?_)
  all_goals first
   |(intro b hb;simp at hb;omega)
   |(simp;done)
   |(simp;omega)
theorem En
 (s:Nat) (lv ev:Value) (zs:List Int) (env:List (ByteArray × Int)) (n:Nat) (IH:Hid (dx s lv ev zs env n)) (dim:Int) (p:Nat) (left deep:Int) (E:Ex) (p':Nat) (l':Int) (kk:Int) (X:World) (hr:Hid (aS zs env (n+1) dim p left=(E,p',l'))) (HK:Hid (aM zs p 14=kk)) (hleft0:0<left) (hdeep:Hid (deep=5-n)) (hn:n<=4) (hd4:dim<=4) (hs:s<X.heap.size) (hl:Hid (aJ X s lv zs)) (he:Hid (bF X s ev env)) (hp:p+(3*aQ n+3)<=900000) (hleft:-900000<=left-(3*(aQ n:Int)+3)) (hleft2:left<=900000)
 (hd1:dim=1) (hkk:kk=9\/kk=10\/kk=11\/kk=12\/kk=13):(Calls prog 64 #[.pointer (some ⟨s,0,none⟩),.int .i64 dim,.int .i64 deep,ev] (X.src s lv p left) (aP s lv X (E,p',l'))):=by
 subst hd1
 have hpr:bR zs p 1=none:=by
  rcases hkk with rfl|rfl|rfl|rfl|rfl<;>simp [bR,HK.out]
 have hF:=uO zs env n 1 p left hleft0 hpr;rw [hr.out]at hF;have HL:=zh hF.symm;clear hF hpr;rcases hkk with rfl|rfl|rfl|rfl|rfl
 all_goals
  have h6:deep<6:=by have:=hdeep.out;omega
  have hc8:=dG n
  go_enter func64,ntmps64
  go_wp2_with fail
  refine(bG s lv zs p p (left-2) _ _ rfl zp zr zu ze ze).mono ?_;rintro e w' ⟨rfl,n1,rfl⟩;rw [HK.out]
  go_wp2_with fail
  refine(kL s lv zs (p+1) _ (left-2) _ _ env _ rfl ze ze zp zr (zh zu) (zh zx) ze ze ze).mono ?_;rintro e w' ⟨v,bs,d,rfl,rfl,hrep⟩;rw [HL.out]at hrep;simp only [HL.out];have H1:=zh hrep;obtain⟨va,vc,hv⟩:=hrep.form;subst hv;clear hrep
  go_wp2_with fail
  go_returns
  refine aP.of_eq (P':=(p':Int)) rfl rfl rfl (.of_below ag) (((H1.out.eqw (w':=((X.src s lv (p':Int) l').alloc (.cells #[.int .i64 0,.int .i64 0,.int .i64 0,.int .i64 0,.string ⟨#[]⟩,.slice none 0 0] 51)).grow bs d) zD).lift0 ?_ ?_ d).mono ?_)
  all_goals first
   |(intro b hb;simp at hb;omega)
   |(simp;done)
   |(simp;omega)

def tlD:Code->Code
 | .seq _ b=>b
 |c=>c
def mM(r:Option (Int × Int × Int)):Value:=match r with|some t=>.tuple #[.agg #[.int .i64 t.1,.int .i64 t.2.1],.int .i64 t.2.2,.bool true]|none=>.tuple #[.agg #[.int .i64 0,.int .i64 0],.int .i64 0,.bool false]
theorem Ho(Y:World)(bs:Array Obj)(d:Nat)(s:ByteArray)(pos:Nat):(Y.grow bs d).iter s pos=Y.grow (bs.push (.stringIter s pos)) d:=by
 simp [World.iter,World.grow,World.alloc]
theorem Fv(Y:World)(bs:Array Obj)(d j:Nat):(Y.grow bs d).heap[Y.heap.size+j]? =bs[j]?:=by
 simp only [World.grow];rw [Array.getElem?_append_right ze]
 congr 1;omega
theorem Bi(Y:World)(bs:Array Obj)(d j:Nat)(s:ByteArray)(pos:Nat):(Y.grow bs d).iterAt (Y.heap.size+j) s pos=Y.grow (bs.setIfInBounds j (.stringIter s pos)) d:=by
 simp only [World.iterAt,World.grow]
 congr 1
 rw [Array.setIfInBounds_append_right ze]
 congr 2;omega
theorem Np{p:Int}{f:Nat}{A B:Int}(h:A % p=0/\B % p=0):iI p (f+1) A B=iI p f (A / p) (B / p):=by rw [iI,if_pos h]
theorem nA{p:Int}{f:Nat}{A B:Int}(h:¬(A % p=0/\B % p=0)):iI p f A B=(A,B):=by
 cases f with
 |zero=>rfl
 |succ f=>rw [iI,if_neg h]
def CK(p:Int)(f0:Nat)(A0 B0:Int)(f:Nat)(A B:Int):Prop:=iI p f A B=iI p f0 A0 B0/\B<p ^ f
theorem CK.next{p:Int}{f0:Nat}{A0 B0:Int}{f:Nat}{A B:Int}(hp:2<=p)(h:CK p f0 A0 B0 f A B)(hB:1<=B)(hm:A % p=0/\B % p=0):∃g,CK p f0 A0 B0 g (A / p) (B / p)/\1<=B / p/\B / p<B:=by
 obtain⟨h1,h2⟩:=h
 cases f with
 |zero=>simp at h2;omega
 |succ g=>
  have e:=Int.mul_ediv_add_emod B p;rw [hm.2,Int.add_zero]at e
  have hq:1<=B / p:=by
   rcases Int.lt_or_le (B / p) 1 with h|h
   ·have:p*(B / p)<=p*0:=Int.mul_le_mul_of_nonneg_left ze ze;omega
   ·exact h
  refine⟨g,⟨by rw [<-h1,Np hm], ?_⟩,hq, ?_⟩
  ·rw [Int.pow_succ,<-e,Int.mul_comm _ p]at h2;exact Int.lt_of_mul_lt_mul_left h2 ze
  ·have:2*(B / p)<=p*(B / p):=Int.mul_le_mul_of_nonneg_right hp ze;omega
theorem Fp(w:World):(Instr.index 253 (.agg #[.int .i64 2,.int .i64 5]) (.int .i64 0)).run prog w= .ok (.int .i64 2) w:=by simp [Instr.index,go_sem]
theorem BB(w:World):(Instr.index 253 (.agg #[.int .i64 2,.int .i64 5]) (.int .i64 1)).run prog w= .ok (.int .i64 5) w:=by simp [Instr.index,go_sem]
def OD(w0 wr:World):Nat:=match wr.cell? ⟨w0.heap.size,1,none⟩with|some (.int _ z)=>z.toNat|_=>0
theorem Qn(b:ByteArray)(x p m:Int)(w:World)(bs:Array Obj)(d:Nat)(hb:b.size<=4)(hasc:∀i (h:i<b.size),(b[i]'h).toNat<128)(hx0:0<=x)(hx1:x<=1000000000)(hp0:0<=p)(hp1:p<=10000)
 (u0 u1 u4 u5 u6 u8 u10 u12 u13 u14 u15 u16 u17 u18 u19 u20 u21 u22 u23 u24 u25 u26 u27 u28 u29 u30 u31 u32 u33 u34 u35 u36 u37 u38 u39 u40 u41 u42 u43 u44 u45 u46 u47 u48 u49 u50 u51 u52 u53 u54 u55 u56 u57 u58 u59 u60 u61 u62 u63 u64 u65 u66 u67 u68 u69 u70 u71 u72 u73 u74 u75 u76 u77 u78 u79 u80 u81 u82 u83 u84 u85 u86 u87 u88 u89 u90 u91 u92 u93 u94 u95 u96 u97 u98 u99 u100 u101 u102 u103 u104 u105 u106 u107 u108 u109 u110 u111 u112 u113 u114 u115 u116 u117 u118 u119 u120 u121 u122 u123 u124 u125 u126 u127 u128 u129 u130 u131 u132 u133 u134 u135 u136 u137 u138 u139 u140 u141:Value) :
 Code.wp prog (tlD (tlD (tlD (tlD (tlD (tlD (tlD (tlD (f212.body.getD .skip))))))))) (bodyPost prog f212 (fun e w'=>e= .returned (mM (some ((kr (x*10 ^ b.size+p) (10 ^ b.size)).1,(kr (x*10 ^ b.size+p) (10 ^ b.size)).2,m)))/\w.Grows w')) {tmps:=#[u0,u1,.pointer (some ⟨w.heap.size,0,none⟩),.int .i64 m,u4,u5,u6,.string b,u8,.int .i64 x,u10,.int .i64 p,u12,u13,u14,u15,u16,u17,u18,u19,u20,u21,u22,u23,u24,u25,u26,u27,u28,u29,u30,u31,u32,u33,u34,u35,u36,u37,u38,u39,u40,u41,u42,u43,u44,u45,u46,u47,u48,u49,u50,u51,u52,u53,u54,u55,u56,u57,u58,u59,u60,u61,u62,u63,u64,u65,u66,u67,u68,u69,u70,u71,u72,u73,u74,u75,u76,u77,u78,u79,u80,u81,u82,u83,u84,u85,u86,u87,u88,u89,u90,u91,u92,u93,u94,u95,u96,u97,u98,u99,u100,u101,u102,u103,u104,u105,u106,u107,u108,u109,u110,u111,u112,u113,u114,u115,u116,u117,u118,u119,u120,u121,u122,u123,u124,u125,u126,u127,u128,u129,u130,u131,u132,u133,u134,u135,u136,u137,u138,u139,u140,u141],defers:=[]} ((w.alloc (.cells #[.int .i64 0,.int .i64 0] 23)).grow bs d):=by
 conv=>arg 2;whnf
 have HASC:=zh hasc;clear hasc
 go_wp2_with fail
 go_loopw [9] (fun v9 wr=>∃k:Nat,∃X E:Int,∃bs' d',k<=b.size/\v9= .int .i64 X/\wr=((w.alloc (.cells #[.int .i64 0,.int .i64 E] 23)).grow bs' d')/\bs'[bs.size]? =some (.stringIter b k)/\Hid (X=x*10 ^ k/\E=10 ^ k)/\0<=X/\X<=10000000000000/\1<=E/\E<=10000) (fun _ wr=>b.size-wr.iterPos (w.heap.size+1+bs.size))
 case atStart=>exact⟨0,x,1,_,_,Nat.zero_le _,rfl,Ho _ _ _ _ _,by simp,zh zg,by omega,by omega,by omega,by omega⟩
 case round=>
  obtain⟨k,X,E,bs2,d2,hk,rfl,rfl,hit,HXE,hX0,hX1,hE0,hE1⟩:=hrel
  have hkk:((w.alloc (.cells #[.int .i64 0,.int .i64 E] 23)).grow bs2 d2).heap[w.heap.size+1+bs.size]? =some (.stringIter b k):=by
   have:=Fv (w.alloc (.cells #[.int .i64 0,.int .i64 E] 23)) bs2 d2 bs.size;rw [World.size_alloc]at this;rw [this];exact hit
  by_cases hlt:k<b.size
  ·have hnext:∀ty,(Instr.next (.pointer (some ⟨w.heap.size+1+bs.size,0,none⟩)) true ty).run prog ((w.alloc (.cells #[.int .i64 0,.int .i64 E] 23)).grow bs2 d2)=_:=fun ty=>Lib.run_next_ascii_at _ _ b k ty hkk hlt (HASC.out k hlt);have hia:=Bi (w.alloc (.cells #[.int .i64 0,.int .i64 E] 23)) bs2 d2 bs.size b (k+1);rw [World.size_alloc]at hia;rw [hia]at hnext;have hbl:bs.size<bs2.size:=(Array.getElem?_eq_some_iff.1 hit).1;have hit2:(bs2.setIfInBounds bs.size (.stringIter b (k+1)))[bs.size]? =some (.stringIter b (k+1)):=by simp [hbl]
   have hpos:((w.alloc (.cells #[.int .i64 0,.int .i64 E] 23)).grow bs2 d2).iterPos (w.heap.size+1+bs.size)=k:=by simp [World.iterPos,hkk]
   generalize bs2.setIfInBounds bs.size (.stringIter b (k+1))=bs3 at hnext hit2;have hk3:k<=3:=by omega
   have hE3:E<=1000:=by
    have:=HXE.out.2;obtain h|h|h|h:k=0\/k=1\/k=2\/k=3:=by omega
    all_goals rw [this,h];decide
   have hX3:X<=1000000000000:=by
    have e:=HXE.out.1;rw [<-HXE.out.2]at e;have h1:x*E<=1000000000*E:=Int.mul_le_mul_of_nonneg_right hx1 ze;omega
   have w6:IntKind.i64.wrap (10*X)=10*X:=IntWalk.i64_in _ ze;have w7:IntKind.i64.wrap (10*E)=10*E:=IntWalk.i64_in _ ze;have HIT:=zh (And.intro hit2 (And.intro hkk hpos));clear hit hit2 hkk hpos hia
   go_wp2_with fail
   clear hnext
   go_region
   go_wp2_with fail
   go_roundw
   case rel=>exact⟨k+1,_,_,_,_,by omega,rfl,rfl,HIT.out.1,zh ⟨by rw [Int.pow_succ,<-Int.mul_assoc,<-HXE.out.1,Int.mul_comm],by rw [Int.pow_succ,<-HXE.out.2,Int.mul_comm]⟩,by omega,by omega,by omega,by omega⟩
   case measure=>
    have h2:∀dd,((w.alloc (.cells #[.int .i64 0,.int .i64 (10*E)] 23)).grow bs3 dd).heap[w.heap.size+1+bs.size]? =some (.stringIter b (k+1)):=fun dd=>by
     have:=Fv (w.alloc (.cells #[.int .i64 0,.int .i64 (10*E)] 23)) bs3 dd bs.size;rw [World.size_alloc,HIT.out.1]at this;exact this
    have h1:=HIT.out.2.2;rw [h1];simp only [World.iterPos,h2];omega
  ·have hnext:∀ty,(Instr.next (.pointer (some ⟨w.heap.size+1+bs.size,0,none⟩)) true ty).run prog ((w.alloc (.cells #[.int .i64 0,.int .i64 E] 23)).grow bs2 d2)=_:=fun ty=>Lib.run_next_end_at _ _ b k ty hkk hlt;obtain rfl:k=b.size:=by omega
   have hN:X+p<=10000000010000:=by omega
   have HXP:=zh (show X+p=x*10 ^ b.size+p by rw [HXE.out.1]);have HE:=zh HXE.out.2;have h214:E<2 ^ 14:=by rw [show(2:Int) ^ 14=16384 by decide];omega
   clear hkk hit HXE hlt
   go_wp2_with fail
   clear hnext
   go_loopw [114] (fun v114 wr=>∃A B:Int,∃bs' d',wr=((w.alloc (.cells #[.int .i64 A,.int .i64 B] 23)).grow bs' d')/\0<=A/\A<=100000000000000/\1<=B/\B<=10000/\
    ((v114= .int .i64 0/\A=X+p/\B=E)\/(v114= .int .i64 1/\Hid ((A,B)=iI 2 14 (X+p) E))\/(v114= .int .i64 2/\Hid ((A,B)=kr (X+p) E)))) (fun v114 _=>2-(intOf v114).toNat)
   case atStart=>exact⟨_,_,_,_,rfl,by omega,by omega,by omega,by omega,.inl ⟨rfl,rfl,rfl⟩⟩
   case round=>
    obtain⟨A0,B0,bs4,d4,rfl,hA00,hA01,hB00,hB01,hcase⟩:=hrel;rcases hcase with ⟨rfl,rfl,rfl⟩|⟨rfl,H1⟩|⟨rfl,H2⟩
    ·have idx2:=Fp;have idx5:=BB
     go_wp2_with fail
     clear idx2 idx5
     go_loopw [117] (fun _ wr=>∃f:Nat,∃A B:Int,∃bs' d',wr=((w.alloc (.cells #[.int .i64 A,.int .i64 B] 23)).grow bs' d')/\Hid (CK 2 14 (X+p) B0 f A B)/\0<=A/\A<=100000000000000/\1<=B/\B<=10000) (fun _ wr=>OD w wr)
     case atStart=>exact⟨14,_,_,_,_,rfl,zh ⟨rfl,h214⟩,by omega,by omega,by omega,by omega⟩
     case round=>
      obtain⟨f,A,B,bs3,d3,rfl,HRD,hA0,hA1,hB0,hB1⟩:=hrel;have e0:=Int.tmod_eq_emod_of_nonneg (b:=2) (show 0<=A from hA0);have e1:=Int.tmod_eq_emod_of_nonneg (b:=2) (show 0<=B by omega);have e2:=Int.tdiv_eq_ediv_of_nonneg (b:=2) (show 0<=A from hA0);have e3:=Int.tdiv_eq_ediv_of_nonneg (b:=2) (show 0<=B by omega);have E:=zh (And.intro e0 (And.intro e1 (And.intro e2 e3)));by_cases ha:A % 2=0
      ·by_cases hb2:B % 2=0
       ·obtain⟨g,hg1,hg2,hg3⟩:=HRD.out.next ze hB0 ⟨ha,hb2⟩;have HG:=zh hg1;have hq0:0<=A / 2:=by omega
        have hq1:A / 2<=100000000000000:=by omega
        have m0:(A.tmod 2==0)=true:=by rw [e0];simpa using ha
        have m1:(B.tmod 2==0)=true:=by rw [e1];simpa using hb2
        have w2:IntKind.i64.wrap (A.tdiv 2)=A / 2:=by rw [e2];exact IntWalk.i64_in _ ze
        have w3:IntKind.i64.wrap (B.tdiv 2)=B / 2:=by rw [e3];exact IntWalk.i64_in _ ze
        have w4:IntKind.i64.wrap (A.tmod 2)=0:=by rw [e0,ha];rfl
        have w5:IntKind.i64.wrap (B.tmod 2)=0:=by rw [e1,hb2];rfl
        clear hg1;clear e0 e1 e2 e3
        go_wp2_with fail
        refine TG.begin 11 (fun w'=>w'.cell? ⟨w.heap.size,1,none⟩=some (.int .i64 B)) zf zf zG (fun hS=>?_);refine TG.tkB 0 hS ?_;refine TG.tkB 2 hS ?_;refine TG.tkB 4 hS ?_;refine TG.tkB 6 hS ?_;refine TG.tkB 5 hS ?_;refine TG.tkB 7 hS ?_;refine TG.one (i:=1) zf rfl (fun K1 hK1=>?_)
        go_simp
        refine TG.go hK1 ?_ (fun hS=>?_)
        focus
         (try dsimp only)
         simp [go_sem]
        clear hK1 K1
        (try simp only [nS])
        refine TG.tkB 3 hS ?_;refine TG.tkB 8 hS ?_;refine TG.one (i:=9) zf rfl (fun K1 hK1=>?_)
        go_simp
        refine TG.go hK1 ?_ (fun hS=>?_)
        focus
         (try dsimp only)
         simp [go_sem]
        clear hK1 K1
        (try simp only [nS])
        refine TG.tkB 10 hS ?_;refine TG.one (i:=11) zf rfl (fun K1 hK1=>?_)
        go_simp
        refine hK1 _ _ (fun h=>absurd rfl h) (TG.done zf ?_);clear hK1 K1 hS
        (try simp only [nS])
        go_wp2_with fail
        go_roundw
        case rel=>exact⟨g,_,_,_,_,rfl,HG,by omega,by omega,by omega,by omega⟩
        case measure=>simp [OD,go_sem];omega
       ·have HX:=zh (nA (p:=2) (f:=f) (A:=A) (B:=B) (fun h=>hb2 h.2));have m0:(A.tmod 2==0)=true:=by rw [e0];simpa using ha
        have m1:(B.tmod 2==0)=false:=by rw [e1];simpa using hb2
        have w4:IntKind.i64.wrap (A.tmod 2)=0:=by rw [e0,ha];rfl
        have w5:IntKind.i64.wrap (B.tmod 2)=B.tmod 2:=IntWalk.i64_in _ (by rw [e1];omega);have hbd:1<=B.tmod 2:=by rw [e1];omega
        clear e0 e1 e2 e3;have hb3:(B % 2==0)=false:=by simpa using hb2
        go_wp2_with fail
        go_roundw
        case rel=>exact⟨_,_,_,_,rfl,by omega,by omega,by omega,by omega,.inr (.inl ⟨rfl,zh (by rw [<-HRD.out.1,HX.out])⟩)⟩
        case measure=>simp [intOf]
      ·have HX:=zh (nA (p:=2) (f:=f) (A:=A) (B:=B) (fun h=>ha h.1));have m0:(A.tmod 2==0)=false:=by rw [e0];simpa using ha
       have w4:IntKind.i64.wrap (A.tmod 2)=A.tmod 2:=IntWalk.i64_in _ (by rw [e0];omega);have hbd:1<=A.tmod 2:=by rw [e0];omega
       clear e0 e1 e2 e3;have ha3:(A % 2==0)=false:=by simpa using ha
       go_wp2_with fail
       go_roundw
       case rel=>exact⟨_,_,_,_,rfl,by omega,by omega,by omega,by omega,.inr (.inl ⟨rfl,zh (by rw [<-HRD.out.1,HX.out])⟩)⟩
       case measure=>simp [intOf]
    ·have idx2:=Fp;have idx5:=BB
     go_wp2_with fail
     clear idx2 idx5
     go_loopw [117] (fun _ wr=>∃f:Nat,∃A B:Int,∃bs' d',wr=((w.alloc (.cells #[.int .i64 A,.int .i64 B] 23)).grow bs' d')/\Hid (CK 5 6 A0 B0 f A B)/\0<=A/\A<=100000000000000/\1<=B/\B<=10000) (fun _ wr=>OD w wr)
     case atStart=>exact⟨6,_,_,_,_,rfl,zh ⟨rfl,(by rw [show(5:Int) ^ 6=15625 by decide];omega)⟩,by omega,by omega,by omega,by omega⟩
     case round=>
      obtain⟨f,A,B,bs3,d3,rfl,HRD,hA0,hA1,hB0,hB1⟩:=hrel;have e0:=Int.tmod_eq_emod_of_nonneg (b:=5) (show 0<=A from hA0);have e1:=Int.tmod_eq_emod_of_nonneg (b:=5) (show 0<=B by omega);have e2:=Int.tdiv_eq_ediv_of_nonneg (b:=5) (show 0<=A from hA0);have e3:=Int.tdiv_eq_ediv_of_nonneg (b:=5) (show 0<=B by omega);have E:=zh (And.intro e0 (And.intro e1 (And.intro e2 e3)));by_cases ha:A % 5=0
      ·by_cases hb2:B % 5=0
       ·obtain⟨g,hg1,hg2,hg3⟩:=HRD.out.next ze hB0 ⟨ha,hb2⟩;have HG:=zh hg1;have hq0:0<=A / 5:=by omega
        have hq1:A / 5<=100000000000000:=by omega
        have m0:(A.tmod 5==0)=true:=by rw [e0];simpa using ha
        have m1:(B.tmod 5==0)=true:=by rw [e1];simpa using hb2
        have w2:IntKind.i64.wrap (A.tdiv 5)=A / 5:=by rw [e2];exact IntWalk.i64_in _ ze
        have w3:IntKind.i64.wrap (B.tdiv 5)=B / 5:=by rw [e3];exact IntWalk.i64_in _ ze
        have w4:IntKind.i64.wrap (A.tmod 5)=0:=by rw [e0,ha];rfl
        have w5:IntKind.i64.wrap (B.tmod 5)=0:=by rw [e1,hb2];rfl
        clear hg1;clear e0 e1 e2 e3
        go_wp2_with fail
        refine TG.begin 11 (fun w'=>w'.cell? ⟨w.heap.size,1,none⟩=some (.int .i64 B)) zf zf zG (fun hS=>?_);refine TG.tkB 0 hS ?_;refine TG.tkB 2 hS ?_;refine TG.tkB 4 hS ?_;refine TG.tkB 6 hS ?_;refine TG.tkB 5 hS ?_;refine TG.tkB 7 hS ?_;refine TG.one (i:=1) zf rfl (fun K1 hK1=>?_)
        go_simp
        refine TG.go hK1 ?_ (fun hS=>?_)
        focus
         (try dsimp only)
         simp [go_sem]
        clear hK1 K1
        (try simp only [nS])
        refine TG.tkB 3 hS ?_;refine TG.tkB 8 hS ?_;refine TG.one (i:=9) zf rfl (fun K1 hK1=>?_)
        go_simp
        refine TG.go hK1 ?_ (fun hS=>?_)
        focus
         (try dsimp only)
         simp [go_sem]
        clear hK1 K1
        (try simp only [nS])
        refine TG.tkB 10 hS ?_;refine TG.one (i:=11) zf rfl (fun K1 hK1=>?_)
        go_simp
        refine hK1 _ _ (fun h=>absurd rfl h) (TG.done zf ?_);clear hK1 K1 hS
        (try simp only [nS])
        go_wp2_with fail
        go_roundw
        case rel=>exact⟨g,_,_,_,_,rfl,HG,by omega,by omega,by omega,by omega⟩
        case measure=>simp [OD,go_sem];omega
       ·have HX:=zh (nA (p:=5) (f:=f) (A:=A) (B:=B) (fun h=>hb2 h.2));have m0:(A.tmod 5==0)=true:=by rw [e0];simpa using ha
        have m1:(B.tmod 5==0)=false:=by rw [e1];simpa using hb2
        have w4:IntKind.i64.wrap (A.tmod 5)=0:=by rw [e0,ha];rfl
        have w5:IntKind.i64.wrap (B.tmod 5)=B.tmod 5:=IntWalk.i64_in _ (by rw [e1];omega);have hbd:1<=B.tmod 5:=by rw [e1];omega
        clear e0 e1 e2 e3;have hb3:(B % 5==0)=false:=by simpa using hb2
        go_wp2_with fail
        go_roundw
        case rel=>exact⟨_,_,_,_,rfl,by omega,by omega,by omega,by omega,.inr (.inr ⟨rfl,zh (by unfold kr;rw [<-H1.out,<-HX.out];exact HRD.out.1)⟩)⟩
        case measure=>simp [intOf]
      ·have HX:=zh (nA (p:=5) (f:=f) (A:=A) (B:=B) (fun h=>ha h.1));have m0:(A.tmod 5==0)=false:=by rw [e0];simpa using ha
       have w4:IntKind.i64.wrap (A.tmod 5)=A.tmod 5:=IntWalk.i64_in _ (by rw [e0];omega);have hbd:1<=A.tmod 5:=by rw [e0];omega
       clear e0 e1 e2 e3;have ha3:(A % 5==0)=false:=by simpa using ha
       go_wp2_with fail
       go_roundw
       case rel=>exact⟨_,_,_,_,rfl,by omega,by omega,by omega,by omega,.inr (.inr ⟨rfl,zh (by unfold kr;rw [<-H1.out,<-HX.out];exact HRD.out.1)⟩)⟩
       case measure=>simp [intOf]
    ·go_wp2_with fail
     go_returns
     refine⟨?_,.of_below ag⟩;have e:=H2.out;rw [HXP.out,HE.out]at e;rw [<-e];rfl

theorem ug:∀(l:List UInt8) (x y:Int),gF x l=some y->∀c∈l,c.toNat<128
 | [],_,_,_,c,hc=>by cases hc
 |e::r,x,y,h,c,hc=>by
  simp only [gF]at h
  split at h
  ·rename_i hd
   rcases mem_cons.1 hc with rfl|hc
   ·simp only [oD,Bool.and_eq_true,decide_eq_true_eq]at hd;omega
   ·exact ug r _ y h c hc
  ·cases h
def Iw(a b:ByteArray)(m:Int):Option (Int × Int × Int):=(gF 0 a.data.toList).bind fun x=>(gF 0 b.data.toList).map fun p=>((kr (x*10 ^ b.size+p) (10 ^ b.size)).1,(kr (x*10 ^ b.size+p) (10 ^ b.size)).2,m)
theorem yZ(a b:ByteArray)(m:Int)(w:World)(bs:Array Obj)(d:Nat)(ha:a.size<=9)(hb:b.size<=4)
 (u0 u1 u4 u5 u8 u9 u10 u11 u12 u13 u14 u15 u16 u17 u18 u19 u20 u21 u22 u23 u24 u25 u26 u27 u28 u29 u30 u31 u32 u33 u34 u35 u36 u37 u38 u39 u40 u41 u42 u43 u44 u45 u46 u47 u48 u49 u50 u51 u52 u53 u54 u55 u56 u57 u58 u59 u60 u61 u62 u63 u64 u65 u66 u67 u68 u69 u70 u71 u72 u73 u74 u75 u76 u77 u78 u79 u80 u81 u82 u83 u84 u85 u86 u87 u88 u89 u90 u91 u92 u93 u94 u95 u96 u97 u98 u99 u100 u101 u102 u103 u104 u105 u106 u107 u108 u109 u110 u111 u112 u113 u114 u115 u116 u117 u118 u119 u120 u121 u122 u123 u124 u125 u126 u127 u128 u129 u130 u131 u132 u133 u134 u135 u136 u137 u138 u139 u140 u141:Value) :
 Code.wp prog (tlD (tlD (tlD (tlD (tlD (f212.body.getD .skip)))))) (bodyPost prog f212 (fun e w'=>e= .returned (mM (Iw a b m))/\w.Grows w')) {tmps:=#[u0,u1,.pointer (some ⟨w.heap.size,0,none⟩),.int .i64 m,u4,u5,.string a,.string b,u8,u9,u10,u11,u12,u13,u14,u15,u16,u17,u18,u19,u20,u21,u22,u23,u24,u25,u26,u27,u28,u29,u30,u31,u32,u33,u34,u35,u36,u37,u38,u39,u40,u41,u42,u43,u44,u45,u46,u47,u48,u49,u50,u51,u52,u53,u54,u55,u56,u57,u58,u59,u60,u61,u62,u63,u64,u65,u66,u67,u68,u69,u70,u71,u72,u73,u74,u75,u76,u77,u78,u79,u80,u81,u82,u83,u84,u85,u86,u87,u88,u89,u90,u91,u92,u93,u94,u95,u96,u97,u98,u99,u100,u101,u102,u103,u104,u105,u106,u107,u108,u109,u110,u111,u112,u113,u114,u115,u116,u117,u118,u119,u120,u121,u122,u123,u124,u125,u126,u127,u128,u129,u130,u131,u132,u133,u134,u135,u136,u137,u138,u139,u140,u141],defers:=[]} ((w.alloc (.cells #[.int .i64 0,.int .i64 0] 23)).grow bs d):=by
 have HA:Hid _:=zh (fun w=>o8 a w ze);have HB:Hid _:=zh (fun w=>o8 b w ze);unfold Iw
 cases hna:gF 0 a.data.toList with
 |none=>
  rw [hna]at HA;simp only [Dy,Option.bind_none]at HA ⊢;clear hna
  cases hnb:gF 0 b.data.toList with
  |none=>
   rw [hnb]at HB;simp only [Dy]at HB;clear hnb
   conv=>arg 2;whnf
   go_wp2_with ((go_at_call 217;first|(with_reducible refine(HA.out _).mono ?_)|(with_reducible refine(HB.out _).mono ?_));rintro e w' ⟨rfl,rfl⟩)
   go_returns
   exact⟨rfl,.of_below ag⟩
  |some p=>
   rw [hnb]at HB;simp only [Dy]at HB;clear hnb
   conv=>arg 2;whnf
   go_wp2_with ((go_at_call 217;first|(with_reducible refine(HA.out _).mono ?_)|(with_reducible refine(HB.out _).mono ?_));rintro e w' ⟨rfl,rfl⟩)
   go_returns
   exact⟨rfl,.of_below ag⟩
 |some x=>
  have bx:=xW _ 0 x ze hna;rw [hna]at HA;simp only [Dy,Option.bind_some]at HA ⊢;clear hna
  cases hnb:gF 0 b.data.toList with
  |none=>
   rw [hnb]at HB;simp only [Dy,Option.map_none]at HB ⊢;clear hnb
   conv=>arg 2;whnf
   go_wp2_with ((go_at_call 217;first|(with_reducible refine(HA.out _).mono ?_)|(with_reducible refine(HB.out _).mono ?_));rintro e w' ⟨rfl,rfl⟩)
   go_returns
   exact⟨rfl,.of_below ag⟩
  |some p=>
   have bp:=xW _ 0 p ze hnb;have hasc:=ug _ _ _ hnb
   have hx:x<=1000000000:=by
    have h1:a.data.toList.length=a.size:=by simp
    rw [h1]at bx;have h2:=Nat.pow_le_pow_right (show 1<=10 by omega) ha;have h3:((10 ^ a.size:Nat):Int)<=((10 ^ 9:Nat):Int):=by exact_mod_cast h2
    simp at h3;omega
   have hp:p<=10000:=by
    have h1:b.data.toList.length=b.size:=by simp
    rw [h1]at bp;have h2:=Nat.pow_le_pow_right (show 1<=10 by omega) hb;have h3:((10 ^ b.size:Nat):Int)<=((10 ^ 4:Nat):Int):=by exact_mod_cast h2
    simp at h3;omega
   have hx0:=bx.1;have hp0:=bp.1;rw [hnb]at HB;simp only [Dy,Option.map_some]at HB ⊢;clear hnb bx bp
   have hasc2:∀i (h:i<b.size),(b[i]'h).toNat<128:=fun i h=>hasc _ (by
    have:b[i]'h=b.data.toList[i]' zI:=by simp;rfl
    rw [this];exact getElem_mem _)
   have HH:=zh (And.intro hasc2 (And.intro hx (And.intro hp (And.intro hx0 hp0))));clear hasc hasc2 hx hp hx0 hp0
   conv=>arg 2;whnf
   apply wp_seq_k;intro K1 hK1;have HK1:=zh hK1;clear hK1
   go_wp2_with ((go_at_call 217;first|(with_reducible refine(HA.out _).mono ?_)|(with_reducible refine(HB.out _).mono ?_));rintro e w' ⟨rfl,rfl⟩)
   refine HK1.out _ _ ?_;clear HK1 K1;apply wp_seq_k;intro K2 hK2;have HK2:=zh hK2;clear hK2
   go_wp2_with ((go_at_call 217;first|(with_reducible refine(HA.out _).mono ?_)|(with_reducible refine(HB.out _).mono ?_));rintro e w' ⟨rfl,rfl⟩)
   refine HK2.out _ _ ?_;clear HK2 K2;apply wp_seq_k;intro K3 hK3;have HK3:=zh hK3;clear hK3
   go_wp2_with ((go_at_call 217;first|(with_reducible refine(HA.out _).mono ?_)|(with_reducible refine(HB.out _).mono ?_));rintro e w' ⟨rfl,rfl⟩)
   refine HK3.out _ _ ?_;exact Qn b x p m w bs _ hb HH.out.1 HH.out.2.2.2.1 HH.out.2.1 HH.out.2.2.2.2 HH.out.2.2.1 _ _ _ _ _ _ _ _ _ _ _ _ _ _ _ _ _ _ _ _ _ _ _ _ _ _ _ _ _ _ _ _ _ _ _ _ _ _ _ _ _ _ _ _ _ _ _ _ _ _ _ _ _ _ _ _ _ _ _ _ _ _ _ _ _ _ _ _ _ _ _ _ _ _ _ _ _ _ _ _ _ _ _ _ _ _ _ _ _ _ _ _ _ _ _ _ _ _ _ _ _ _ _ _ _ _ _ _ _ _ _ _ _ _ _ _ _ _ _ _ _ _ _ _ _ _ _ _ _ _ _ _ _ _ _ _ _
end Go.Proofs.YtlheailebbngiaaGreatDoor
