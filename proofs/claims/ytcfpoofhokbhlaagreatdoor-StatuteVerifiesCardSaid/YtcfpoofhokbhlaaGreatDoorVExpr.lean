import Derived.Test.YtcfpoofhokbhlaaGreatDoorVGen
set_option linter.all false
set_option maxHeartbeats 16000000
set_option maxRecDepth 1000000
namespace Go.Proofs.YtcfpoofhokbhlaaGreatDoor
open Tryz List
open Go.RowKit

theorem dx(s:Nat)(lv ev:Value)(zs:List Int)(env:List (ByteArray × Int))(n:Nat)(IH:Hid (cK s lv ev zs env n))(op deep:Int)(ds:List Int)(db:Nat)(p:Nat)(P left:Int)(l:List Ex)(p':Nat)(l':Int)(X:World)(hr:Hid (bM (aP zs env n) ds p left=(l,p',l')))(hP:P=p)(hn:n<=5)(hdeep:deep+1=6-n)(hop:0<=op/\op<=100)
 (hs:s<X.heap.size) (hX:X.src s lv P left=X) (hl:Hid (aH X s lv zs)) (he:Hid (aZ X s ev env)) (hp:p+3*aO n<=900000) (hleft:-900000<=left-3*aO n) (hleft2:left<=900000)
 (hdl:ds.length<=3) (hdb:db<X.heap.size) (hdbs:db≠s) (hdr:∀d∈ds,1<=d/\d<=4) (hdc:∀i,i<ds.length->X.cell? ⟨db,i,none⟩=some (.int .i64 (ds.getD i 0))) :
 Calls prog 47 #[.pointer (some ⟨s,0,none⟩),.int .i64 op,.int .i64 deep,ev,.slice (some ⟨db,0,none⟩) ds.length ds.length] X
  (aM s lv X (.mk op 0 0 0 ByteArray.empty l,p',l')):=by
 have:=KZ s lv ev zs env n IH op deep ds db p P left X hP hn hdeep hop hs hX hl he hp hleft hleft2 hdl hdb hdbs (yq fun i hi=>by
  have hm:ds.getD i 0∈ds:=by rw [getD_eq_getElem?_getD,getElem?_eq_getElem hi];exact getElem_mem hi
  exact hdr _ hm) (yq hdc)
 rw [hr.out]at this;exact this
theorem dD(w:World)(ds:List Int)(t:TypeId)(H:Nat)(hH:w.heap.size=H):∀i,i<ds.length->(w.alloc (.cells (ds.map (Value.int .i64)).toArray t)).cell? ⟨H,i,none⟩=some (.int .i64 (ds.getD i 0)):=by
 subst hH;intro i hi;rw [World.cell?_alloc_at _ _ _ _ rfl,getD_eq_getElem?_getD,getElem?_eq_getElem hi];simp [hi]
theorem Mc{a:Int}(ha:1<=a/\a<=4):∀d∈[a],1<=d/\d<=4:=by intro d hd;simp at hd;subst hd;exact ha
theorem mE{a b:Int}(ha:1<=a/\a<=4)(hb:1<=b/\b<=4):∀d∈[a,b],1<=d/\d<=4:=by intro d hd;simp at hd;rcases hd with rfl|rfl<;>assumption
theorem Qb{a b c:Int}(ha:1<=a/\a<=4)(hb:1<=b/\b<=4)(hc:1<=c/\c<=4):∀d∈[a,b,c],1<=d/\d<=4:=by intro d hd;simp at hd;rcases hd with rfl|rfl|rfl<;>assumption
theorem AP(w:World)(n:Nat)(o:Obj):(w.drewN n).alloc o=(w.alloc o).drewN n:=rfl
theorem aB.form{S:Nat->Prop}{w:World}{e:Ex}{v:Value}(h:aB S w e v):∃a cap,v= .slice a e.args.length cap:=by cases h;exact⟨_,_,rfl⟩
theorem I6(s:Nat)(lv ev:Value)(zs:List Int)(env:List (ByteArray × Int)):cK s lv ev zs env 0:=by
 unfold cK;intro dim p P left deep r X hr hP hdeep hd1 hd4 hs hX hl he hp hleft hleft2;subst hP
 suffices h:Calls prog 24 #[.pointer (some ⟨s,0,none⟩),.int .i64 dim,.int .i64 deep,ev] (X.src s lv p left) (aM s lv X r)by rw [hX]at h;exact h
 clear hX;obtain⟨E,p',l'⟩:=r;have HL:Hid (dU zs env dim p left=(E,p',l')):=yq hr.out;have hc:aO 0=8:=rfl;rw [hc]at hp hleft;have h6:6<=deep:=by omega
 clear hdeep
 go_enter func24,ntmps24
 go_wp2_with fail
 refine(kK s lv zs p _ left _ _ env _ rfl ze ze zp zr (yq zu) (yq zx) ze ze ze).mono ?_;rintro e w' ⟨v,bs,d,rfl,rfl,hrep⟩;rw [HL.out]at hrep;simp only [HL.out];have H1:=yq hrep;obtain⟨va,vc,hv⟩:=hrep.form;subst hv;clear hrep
 go_wp2_with fail
 go_returns
 refine aM.of_eq (P':=(p':Int)) rfl rfl rfl (.of_below af) (((H1.out.eqw (w':=((X.src s lv (p':Int) l').alloc (.cells #[.int .i64 0,.int .i64 0,.int .i64 0,.int .i64 0,.string ⟨#[]⟩,.slice none 0 0] 69)).grow bs d) zC).lift0 ?_ ?_ d).mono ?_)
 all_goals first
  |(intro b hb;simp at hb;omega)
  |(simp;done)
  |(simp;omega)
theorem LW(s:Nat)(lv ev:Value)(zs:List Int)(env:List (ByteArray × Int))(n:Nat)(dim:Int)(p:Nat)(left deep:Int)(E:Ex)(p':Nat)(l':Int)(X:World)(hr:Hid (dU zs env dim p left=(E,p',l')))(hleft0:left<=0)(hdeep:deep=5-n)(hn:n<=4)(hd1:1<=dim)(hd4:dim<=4)(hs:s<X.heap.size)
 (hl:Hid (aH X s lv zs)) (he:Hid (aZ X s ev env)) (hp:p<=900000) (hleft:-900000<=left) (hleft2:left<=900000):Calls prog 24 #[.pointer (some ⟨s,0,none⟩),.int .i64 dim,.int .i64 deep,ev] (X.src s lv p left) (aM s lv X (E,p',l')):=by
 have h6:deep<6:=by omega
 have HL:=hr
 go_enter func24,ntmps24
 go_wp2_with fail
 refine(kK s lv zs p _ left _ _ env _ rfl ze ze zp zr (yq zu) (yq zx) ze ze ze).mono ?_;rintro e w' ⟨v,bs,d,rfl,rfl,hrep⟩;rw [HL.out]at hrep;simp only [HL.out];have H1:=yq hrep;obtain⟨va,vc,hv⟩:=hrep.form;subst hv;clear hrep
 go_wp2_with fail
 go_returns
 refine aM.of_eq (P':=(p':Int)) rfl rfl rfl (.of_below af) (((H1.out.eqw (w':=((X.src s lv (p':Int) l').alloc (.cells #[.int .i64 0,.int .i64 0,.int .i64 0,.int .i64 0,.string ⟨#[]⟩,.slice none 0 0] 69)).grow bs d) zC).lift0 ?_ ?_ d).mono ?_)
 all_goals first
  |(intro b hb;simp at hb;omega)
  |(simp;done)
  |(simp;omega)
theorem Pp
 (s:Nat) (lv ev:Value) (zs:List Int) (env:List (ByteArray × Int)) (n:Nat) (IH:Hid (cK s lv ev zs env n)) (dim:Int) (p:Nat) (left deep:Int) (E:Ex) (p':Nat) (l':Int) (kk:Int) (X:World) (hr:Hid (aP zs env (n+1) dim p left=(E,p',l'))) (HK:Hid (aJ zs p 14=kk)) (hleft0:0<left) (hdeep:Hid (deep=5-n)) (hn:n<=4) (hd4:dim<=4) (hs:s<X.heap.size) (hl:Hid (aH X s lv zs)) (he:Hid (aZ X s ev env)) (hp:p+(3*aO n+3)<=900000) (hleft:-900000<=left-(3*(aO n:Int)+3)) (hleft2:left<=900000)
 (hd1:dim=1) (hkk:kk=0):(Calls prog 24 #[.pointer (some ⟨s,0,none⟩),.int .i64 dim,.int .i64 deep,ev] (X.src s lv p left) (aM s lv X (E,p',l'))):=by
 subst hd1;subst hkk;have hpr:bL zs p 1=some (17,[1,1],p+1):=by simp [bL,HK.out]
 have hF:=bX zs env n _ p left hleft0 hpr;rw [hr.out]at hF;generalize hll:bM (aP zs env n) [1,1] (p+1) (left-2)=rr at hF;obtain⟨ll,pp,le⟩:=rr;simp only [Prod.mk.injEq]at hF;obtain⟨rfl,rfl,rfl⟩:=hF;have HLL:=yq hll;clear hll hpr;have h6:deep<6:=by have:=hdeep.out;omega
 have hc8:=df n
 go_enter func24,ntmps24
 go_wp2_with fail
 refine(bf s lv zs p p (left-2) _ _ rfl zp zr zu ze ze).mono ?_;rintro e w' ⟨rfl,n1,rfl⟩;rw [HK.out]
 go_wp2_with fail
 refine(dx s lv ev zs env n IH _ _ [1,1] _ (p+1) ((p:Int)+1) _ ll p' l' _ HLL ze ze zK ze zp zr (yq zu) (yq zx) ze ze ze zg zg ze (mE ze ze) (dD _ [1,1] _ _ zg)).mono ?_;rintro e w' ⟨v,bs,d,rfl,rfl,hrep⟩;have H1:=yq hrep;obtain⟨va,vc,hv⟩:=hrep.form;subst hv;clear hrep
 go_wp2_with fail
 go_returns
 refine aM.of_eq (P':=(p':Int)) rfl rfl rfl (.of_below af) (((H1.out.eqw (w':=(((X.src s lv (p':Int) l').alloc (.cells #[.int .i64 0,.int .i64 0,.int .i64 0,.int .i64 0,.string ⟨#[]⟩,.slice none 0 0] 69)).alloc (.cells #[.int .i64 1,.int .i64 1] 3)).grow bs d) zC).lift0 ?_ ?_ d).mono ?_)
 all_goals first
  |(intro b hb;simp at hb;omega)
  |(simp;done)
  |(simp;omega)
theorem Po
 (s:Nat) (lv ev:Value) (zs:List Int) (env:List (ByteArray × Int)) (n:Nat) (IH:Hid (cK s lv ev zs env n)) (dim:Int) (p:Nat) (left deep:Int) (E:Ex) (p':Nat) (l':Int) (kk:Int) (X:World) (hr:Hid (aP zs env (n+1) dim p left=(E,p',l'))) (HK:Hid (aJ zs p 14=kk)) (hleft0:0<left) (hdeep:Hid (deep=5-n)) (hn:n<=4) (hd4:dim<=4) (hs:s<X.heap.size) (hl:Hid (aH X s lv zs)) (he:Hid (aZ X s ev env)) (hp:p+(3*aO n+3)<=900000) (hleft:-900000<=left-(3*(aO n:Int)+3)) (hleft2:left<=900000)
 (hd1:dim=1) (hkk:kk=1):(Calls prog 24 #[.pointer (some ⟨s,0,none⟩),.int .i64 dim,.int .i64 deep,ev] (X.src s lv p left) (aM s lv X (E,p',l'))):=by
 subst hd1;subst hkk;have hpr:bL zs p 1=some (18,[1,1],p+1):=by simp [bL,HK.out]
 have hF:=bX zs env n _ p left hleft0 hpr;rw [hr.out]at hF;generalize hll:bM (aP zs env n) [1,1] (p+1) (left-2)=rr at hF;obtain⟨ll,pp,le⟩:=rr;simp only [Prod.mk.injEq]at hF;obtain⟨rfl,rfl,rfl⟩:=hF;have HLL:=yq hll;clear hll hpr;have h6:deep<6:=by have:=hdeep.out;omega
 have hc8:=df n
 go_enter func24,ntmps24
 go_wp2_with fail
 refine(bf s lv zs p p (left-2) _ _ rfl zp zr zu ze ze).mono ?_;rintro e w' ⟨rfl,n1,rfl⟩;rw [HK.out]
 go_wp2_with fail
 refine(dx s lv ev zs env n IH _ _ [1,1] _ (p+1) ((p:Int)+1) _ ll p' l' _ HLL ze ze zK ze zp zr (yq zu) (yq zx) ze ze ze zg zg ze (mE ze ze) (dD _ [1,1] _ _ zg)).mono ?_;rintro e w' ⟨v,bs,d,rfl,rfl,hrep⟩;have H1:=yq hrep;obtain⟨va,vc,hv⟩:=hrep.form;subst hv;clear hrep
 go_wp2_with fail
 go_returns
 refine aM.of_eq (P':=(p':Int)) rfl rfl rfl (.of_below af) (((H1.out.eqw (w':=(((X.src s lv (p':Int) l').alloc (.cells #[.int .i64 0,.int .i64 0,.int .i64 0,.int .i64 0,.string ⟨#[]⟩,.slice none 0 0] 69)).alloc (.cells #[.int .i64 1,.int .i64 1] 3)).grow bs d) zC).lift0 ?_ ?_ d).mono ?_)
 all_goals first
  |(intro b hb;simp at hb;omega)
  |(simp;done)
  |(simp;omega)
theorem Pn
 (s:Nat) (lv ev:Value) (zs:List Int) (env:List (ByteArray × Int)) (n:Nat) (IH:Hid (cK s lv ev zs env n)) (dim:Int) (p:Nat) (left deep:Int) (E:Ex) (p':Nat) (l':Int) (kk:Int) (X:World) (hr:Hid (aP zs env (n+1) dim p left=(E,p',l'))) (HK:Hid (aJ zs p 14=kk)) (hleft0:0<left) (hdeep:Hid (deep=5-n)) (hn:n<=4) (hd4:dim<=4) (hs:s<X.heap.size) (hl:Hid (aH X s lv zs)) (he:Hid (aZ X s ev env)) (hp:p+(3*aO n+3)<=900000) (hleft:-900000<=left-(3*(aO n:Int)+3)) (hleft2:left<=900000)
 (hd1:dim=1) (hkk:kk=2):(Calls prog 24 #[.pointer (some ⟨s,0,none⟩),.int .i64 dim,.int .i64 deep,ev] (X.src s lv p left) (aM s lv X (E,p',l'))):=by
 subst hd1;subst hkk;have hpr:bL zs p 1=some (5,[1],p+1):=by simp [bL,HK.out]
 have hF:=bX zs env n _ p left hleft0 hpr;rw [hr.out]at hF;generalize hll:bM (aP zs env n) [1] (p+1) (left-2)=rr at hF;obtain⟨ll,pp,le⟩:=rr;simp only [Prod.mk.injEq]at hF;obtain⟨rfl,rfl,rfl⟩:=hF;have HLL:=yq hll;clear hll hpr;have h6:deep<6:=by have:=hdeep.out;omega
 have hc8:=df n
 go_enter func24,ntmps24
 go_wp2_with fail
 refine(bf s lv zs p p (left-2) _ _ rfl zp zr zu ze ze).mono ?_;rintro e w' ⟨rfl,n1,rfl⟩;rw [HK.out]
 go_wp2_with fail
 refine(dx s lv ev zs env n IH _ _ [1] _ (p+1) ((p:Int)+1) _ ll p' l' _ HLL ze ze zK ze zp zr (yq zu) (yq zx) ze ze ze zg zg ze (Mc ze) (dD _ [1] _ _ zg)).mono ?_;rintro e w' ⟨v,bs,d,rfl,rfl,hrep⟩;have H1:=yq hrep;obtain⟨va,vc,hv⟩:=hrep.form;subst hv;clear hrep
 go_wp2_with fail
 go_returns
 refine aM.of_eq (P':=(p':Int)) rfl rfl rfl (.of_below af) (((H1.out.eqw (w':=(((X.src s lv (p':Int) l').alloc (.cells #[.int .i64 0,.int .i64 0,.int .i64 0,.int .i64 0,.string ⟨#[]⟩,.slice none 0 0] 69)).alloc (.cells #[.int .i64 1] 3)).grow bs d) zC).lift0 ?_ ?_ d).mono ?_)
 all_goals first
  |(intro b hb;simp at hb;omega)
  |(simp;done)
  |(simp;omega)
theorem Pm
 (s:Nat) (lv ev:Value) (zs:List Int) (env:List (ByteArray × Int)) (n:Nat) (IH:Hid (cK s lv ev zs env n)) (dim:Int) (p:Nat) (left deep:Int) (E:Ex) (p':Nat) (l':Int) (kk:Int) (X:World) (hr:Hid (aP zs env (n+1) dim p left=(E,p',l'))) (HK:Hid (aJ zs p 14=kk)) (hleft0:0<left) (hdeep:Hid (deep=5-n)) (hn:n<=4) (hd4:dim<=4) (hs:s<X.heap.size) (hl:Hid (aH X s lv zs)) (he:Hid (aZ X s ev env)) (hp:p+(3*aO n+3)<=900000) (hleft:-900000<=left-(3*(aO n:Int)+3)) (hleft2:left<=900000)
 (hd1:dim=1) (hkk:kk=3):(Calls prog 24 #[.pointer (some ⟨s,0,none⟩),.int .i64 dim,.int .i64 deep,ev] (X.src s lv p left) (aM s lv X (E,p',l'))):=by
 subst hd1;subst hkk;have hpr:bL zs p 1=some (21,[1,1,1],p+1):=by simp [bL,HK.out]
 have hF:=bX zs env n _ p left hleft0 hpr;rw [hr.out]at hF;generalize hll:bM (aP zs env n) [1,1,1] (p+1) (left-2)=rr at hF;obtain⟨ll,pp,le⟩:=rr;simp only [Prod.mk.injEq]at hF;obtain⟨rfl,rfl,rfl⟩:=hF;have HLL:=yq hll;clear hll hpr;have h6:deep<6:=by have:=hdeep.out;omega
 have hc8:=df n
 go_enter func24,ntmps24
 go_wp2_with fail
 refine(bf s lv zs p p (left-2) _ _ rfl zp zr zu ze ze).mono ?_;rintro e w' ⟨rfl,n1,rfl⟩;rw [HK.out]
 go_wp2_with fail
 refine(dx s lv ev zs env n IH _ _ [1,1,1] _ (p+1) ((p:Int)+1) _ ll p' l' _ HLL ze ze zK ze zp zr (yq zu) (yq zx) ze ze ze zg zg ze (Qb ze ze ze) (dD _ [1,1,1] _ _ zg)).mono ?_;rintro e w' ⟨v,bs,d,rfl,rfl,hrep⟩;have H1:=yq hrep;obtain⟨va,vc,hv⟩:=hrep.form;subst hv;clear hrep
 go_wp2_with fail
 go_returns
 refine aM.of_eq (P':=(p':Int)) rfl rfl rfl (.of_below af) (((H1.out.eqw (w':=(((X.src s lv (p':Int) l').alloc (.cells #[.int .i64 0,.int .i64 0,.int .i64 0,.int .i64 0,.string ⟨#[]⟩,.slice none 0 0] 69)).alloc (.cells #[.int .i64 1,.int .i64 1,.int .i64 1] 3)).grow bs d) zC).lift0 ?_ ?_ d).mono ?_)
 all_goals first
  |(intro b hb;simp at hb;omega)
  |(simp;done)
  |(simp;omega)
theorem Jb
 (s:Nat) (lv ev:Value) (zs:List Int) (env:List (ByteArray × Int)) (n:Nat) (IH:Hid (cK s lv ev zs env n)) (dim:Int) (p:Nat) (left deep:Int) (E:Ex) (p':Nat) (l':Int) (kk:Int) (X:World) (hr:Hid (aP zs env (n+1) dim p left=(E,p',l'))) (HK:Hid (aJ zs p 14=kk)) (hleft0:0<left) (hdeep:Hid (deep=5-n)) (hn:n<=4) (hd4:dim<=4) (hs:s<X.heap.size) (hl:Hid (aH X s lv zs)) (he:Hid (aZ X s ev env)) (hp:p+(3*aO n+3)<=900000) (hleft:-900000<=left-(3*(aO n:Int)+3)) (hleft2:left<=900000)
 (hd1:dim=1) (hkk:kk=4\/kk=5\/kk=6\/kk=7\/kk=8):(Calls prog 24 #[.pointer (some ⟨s,0,none⟩),.int .i64 dim,.int .i64 deep,ev] (X.src s lv p left) (aM s lv X (E,p',l'))):=by
 subst hd1;have hb1:=fA zs (p+1) 3 ze;have hb2:=fA zs (p+2) 6 ze
 have hpr0:bL zs p 1=some (11+aJ zs (p+2) 6,[2+aJ zs (p+1) 3,2+aJ zs (p+1) 3],p+3):=by
  rcases hkk with rfl|rfl|rfl|rfl|rfl<;>simp [bL,HK.out]
 generalize hA:aJ zs (p+1) 3=a at hb1 hpr0;generalize hC:aJ zs (p+2) 6=c at hb2 hpr0;have HA:=yq hA;have HC:=yq hC;clear hA hC;have hpr:=hpr0;clear hpr0;have hF:=bX zs env n _ p left hleft0 hpr;rw [hr.out]at hF;generalize hll:bM (aP zs env n) [2+a,2+a] (p+3) (left-2)=rr at hF;obtain⟨ll,pp,le⟩:=rr;simp only [Prod.mk.injEq]at hF;obtain⟨rfl,rfl,rfl⟩:=hF;have HLL:=yq hll;clear hll hpr;rcases hkk with rfl|rfl|rfl|rfl|rfl
 all_goals
  have h6:deep<6:=by have:=hdeep.out;omega
  have hc8:=df n
  go_enter func24,ntmps24
  go_wp2_with fail
  refine(bf s lv zs p p (left-2) _ _ rfl zp zr zu ze ze).mono ?_;rintro e w' ⟨rfl,n1,rfl⟩;rw [HK.out]
  go_wp2_with fail
  refine(bf s lv zs (p+1) (p+1) (left-2) _ _ zg zp zr zu ze ze).mono ?_;rintro e w' ⟨rfl,n2,rfl⟩;rw [HA.out]
  go_wp2_with fail
  refine(bf s lv zs (p+2) (p+1+1) (left-2) _ _ ze zp zr zu ze ze).mono ?_;rintro e w' ⟨rfl,n3,rfl⟩;rw [HC.out]
  go_wp2_with fail
  refine(dx s lv ev zs env n IH _ _ [2+a,2+a] _ (p+3) ((p:Int)+1+1+1) _ ll p' l' _ HLL ze ze zK ze zp zr (yq zu) (yq zx) ze ze ze zg zg ze (mE ze ze) (dD _ [2+a,2+a] _ _ zg)).mono ?_;rintro e w' ⟨v,bs,d,rfl,rfl,hrep⟩;have H1:=yq hrep;obtain⟨va,vc,hv⟩:=hrep.form;subst hv;clear hrep
  go_wp2_with fail
  go_returns
  refine aM.of_eq (P':=(p':Int)) rfl rfl rfl (.of_below af) (((H1.out.eqw (w':=(((X.src s lv (p':Int) l').alloc (.cells #[.int .i64 0,.int .i64 0,.int .i64 0,.int .i64 0,.string ⟨#[]⟩,.slice none 0 0] 69)).alloc (.cells #[.int .i64 (2+a),.int .i64 (2+a)] 3)).grow bs d) zC).lift0 ?_ ?_ d).mono ?_)
  all_goals first
   |(intro b hb;simp at hb;omega)
   |(simp;done)
   |(simp;omega)
theorem EX
 (s:Nat) (lv ev:Value) (zs:List Int) (env:List (ByteArray × Int)) (n:Nat) (IH:Hid (cK s lv ev zs env n)) (dim:Int) (p:Nat) (left deep:Int) (E:Ex) (p':Nat) (l':Int) (kk:Int) (X:World) (hr:Hid (aP zs env (n+1) dim p left=(E,p',l'))) (HK:Hid (aJ zs p 14=kk)) (hleft0:0<left) (hdeep:Hid (deep=5-n)) (hn:n<=4) (hd4:dim<=4) (hs:s<X.heap.size) (hl:Hid (aH X s lv zs)) (he:Hid (aZ X s ev env)) (hp:p+(3*aO n+3)<=900000) (hleft:-900000<=left-(3*(aO n:Int)+3)) (hleft2:left<=900000)
 (hd1:dim=1) (hkk:kk=9\/kk=10\/kk=11\/kk=12\/kk=13):(Calls prog 24 #[.pointer (some ⟨s,0,none⟩),.int .i64 dim,.int .i64 deep,ev] (X.src s lv p left) (aM s lv X (E,p',l'))):=by
 subst hd1
 have hpr:bL zs p 1=none:=by
  rcases hkk with rfl|rfl|rfl|rfl|rfl<;>simp [bL,HK.out]
 have hF:=uR zs env n 1 p left hleft0 hpr;rw [hr.out]at hF;have HL:=yq hF.symm;clear hF hpr;rcases hkk with rfl|rfl|rfl|rfl|rfl
 all_goals
  have h6:deep<6:=by have:=hdeep.out;omega
  have hc8:=df n
  go_enter func24,ntmps24
  go_wp2_with fail
  refine(bf s lv zs p p (left-2) _ _ rfl zp zr zu ze ze).mono ?_;rintro e w' ⟨rfl,n1,rfl⟩;rw [HK.out]
  go_wp2_with fail
  refine(kK s lv zs (p+1) _ (left-2) _ _ env _ rfl ze ze zp zr (yq zu) (yq zx) ze ze ze).mono ?_;rintro e w' ⟨v,bs,d,rfl,rfl,hrep⟩;rw [HL.out]at hrep;simp only [HL.out];have H1:=yq hrep;obtain⟨va,vc,hv⟩:=hrep.form;subst hv;clear hrep
  go_wp2_with fail
  go_returns
  refine aM.of_eq (P':=(p':Int)) rfl rfl rfl (.of_below af) (((H1.out.eqw (w':=((X.src s lv (p':Int) l').alloc (.cells #[.int .i64 0,.int .i64 0,.int .i64 0,.int .i64 0,.string ⟨#[]⟩,.slice none 0 0] 69)).grow bs d) zC).lift0 ?_ ?_ d).mono ?_)
  all_goals first
   |(intro b hb;simp at hb;omega)
   |(simp;done)
   |(simp;omega)

theorem Pk
 (s:Nat) (lv ev:Value) (zs:List Int) (env:List (ByteArray × Int)) (n:Nat) (IH:Hid (cK s lv ev zs env n)) (dim:Int) (p:Nat) (left deep:Int) (E:Ex) (p':Nat) (l':Int) (kk:Int) (X:World) (hr:Hid (aP zs env (n+1) dim p left=(E,p',l'))) (HK:Hid (aJ zs p 14=kk)) (hleft0:0<left) (hdeep:Hid (deep=5-n)) (hn:n<=4) (hd4:dim<=4) (hs:s<X.heap.size) (hl:Hid (aH X s lv zs)) (he:Hid (aZ X s ev env)) (hp:p+(3*aO n+3)<=900000) (hleft:-900000<=left-(3*(aO n:Int)+3)) (hleft2:left<=900000)
 (hd1:2<=dim) (hkk:kk=0):(Calls prog 24 #[.pointer (some ⟨s,0,none⟩),.int .i64 dim,.int .i64 deep,ev] (X.src s lv p left) (aM s lv X (E,p',l'))):=by
 subst hkk;have hne:¬dim=1:=by omega
 have hpr:bL zs p dim=some (7,[dim,dim],p+1):=by simp [bL,HK.out,hne]
 have hne1:(dim==1)=false:=by simp;omega
 clear hne;have hF:=bX zs env n _ p left hleft0 hpr;rw [hr.out]at hF;generalize hll:bM (aP zs env n) [dim,dim] (p+1) (left-2)=rr at hF;obtain⟨ll,pp,le⟩:=rr;simp only [Prod.mk.injEq]at hF;obtain⟨rfl,rfl,rfl⟩:=hF;have HLL:=yq hll;clear hll hpr;have h6:deep<6:=by have:=hdeep.out;omega
 have hc8:=df n
 go_enter func24,ntmps24
 go_wp2_with fail
 refine(bf s lv zs p p (left-2) _ _ rfl zp zr zu ze ze).mono ?_;rintro e w' ⟨rfl,n1,rfl⟩;rw [HK.out]
 go_wp2_with fail
 refine(dx s lv ev zs env n IH _ _ [dim,dim] _ (p+1) ((p:Int)+1) _ ll p' l' _ HLL ze ze zK ze zp zr (yq zu) (yq zx) ze ze ze zg zg ze (mE ze ze) (dD _ [dim,dim] _ _ zg)).mono ?_;rintro e w' ⟨v,bs,d,rfl,rfl,hrep⟩;have H1:=yq hrep;obtain⟨va,vc,hv⟩:=hrep.form;subst hv;clear hrep
 go_wp2_with fail
 go_returns
 refine aM.of_eq (P':=(p':Int)) rfl rfl rfl (.of_below af) (((H1.out.eqw (w':=((((X.src s lv (p':Int) l').alloc (.cells #[.int .i64 0,.int .i64 0,.int .i64 0,.int .i64 0,.string ⟨#[]⟩,.slice none 0 0] 69)).alloc (.cells #[.int .i64 7,.int .i64 8,.int .i64 19,.int .i64 20] 3)).alloc (.cells #[.int .i64 dim,.int .i64 dim] 3)).grow bs d) zC).lift0 ?_ ?_ d).mono ?_)
 all_goals first
  |(intro b hb;simp at hb;omega)
  |(simp;done)
  |(simp;omega)
theorem Pj
 (s:Nat) (lv ev:Value) (zs:List Int) (env:List (ByteArray × Int)) (n:Nat) (IH:Hid (cK s lv ev zs env n)) (dim:Int) (p:Nat) (left deep:Int) (E:Ex) (p':Nat) (l':Int) (kk:Int) (X:World) (hr:Hid (aP zs env (n+1) dim p left=(E,p',l'))) (HK:Hid (aJ zs p 14=kk)) (hleft0:0<left) (hdeep:Hid (deep=5-n)) (hn:n<=4) (hd4:dim<=4) (hs:s<X.heap.size) (hl:Hid (aH X s lv zs)) (he:Hid (aZ X s ev env)) (hp:p+(3*aO n+3)<=900000) (hleft:-900000<=left-(3*(aO n:Int)+3)) (hleft2:left<=900000)
 (hd1:2<=dim) (hkk:kk=1):(Calls prog 24 #[.pointer (some ⟨s,0,none⟩),.int .i64 dim,.int .i64 deep,ev] (X.src s lv p left) (aM s lv X (E,p',l'))):=by
 subst hkk;have hne:¬dim=1:=by omega
 have hpr:bL zs p dim=some (8,[dim,dim],p+1):=by simp [bL,HK.out,hne]
 have hne1:(dim==1)=false:=by simp;omega
 clear hne;have hF:=bX zs env n _ p left hleft0 hpr;rw [hr.out]at hF;generalize hll:bM (aP zs env n) [dim,dim] (p+1) (left-2)=rr at hF;obtain⟨ll,pp,le⟩:=rr;simp only [Prod.mk.injEq]at hF;obtain⟨rfl,rfl,rfl⟩:=hF;have HLL:=yq hll;clear hll hpr;have h6:deep<6:=by have:=hdeep.out;omega
 have hc8:=df n
 go_enter func24,ntmps24
 go_wp2_with fail
 refine(bf s lv zs p p (left-2) _ _ rfl zp zr zu ze ze).mono ?_;rintro e w' ⟨rfl,n1,rfl⟩;rw [HK.out]
 go_wp2_with fail
 refine(dx s lv ev zs env n IH _ _ [dim,dim] _ (p+1) ((p:Int)+1) _ ll p' l' _ HLL ze ze zK ze zp zr (yq zu) (yq zx) ze ze ze zg zg ze (mE ze ze) (dD _ [dim,dim] _ _ zg)).mono ?_;rintro e w' ⟨v,bs,d,rfl,rfl,hrep⟩;have H1:=yq hrep;obtain⟨va,vc,hv⟩:=hrep.form;subst hv;clear hrep
 go_wp2_with fail
 go_returns
 refine aM.of_eq (P':=(p':Int)) rfl rfl rfl (.of_below af) (((H1.out.eqw (w':=((((X.src s lv (p':Int) l').alloc (.cells #[.int .i64 0,.int .i64 0,.int .i64 0,.int .i64 0,.string ⟨#[]⟩,.slice none 0 0] 69)).alloc (.cells #[.int .i64 7,.int .i64 8,.int .i64 19,.int .i64 20] 3)).alloc (.cells #[.int .i64 dim,.int .i64 dim] 3)).grow bs d) zC).lift0 ?_ ?_ d).mono ?_)
 all_goals first
  |(intro b hb;simp at hb;omega)
  |(simp;done)
  |(simp;omega)
theorem Pi
 (s:Nat) (lv ev:Value) (zs:List Int) (env:List (ByteArray × Int)) (n:Nat) (IH:Hid (cK s lv ev zs env n)) (dim:Int) (p:Nat) (left deep:Int) (E:Ex) (p':Nat) (l':Int) (kk:Int) (X:World) (hr:Hid (aP zs env (n+1) dim p left=(E,p',l'))) (HK:Hid (aJ zs p 14=kk)) (hleft0:0<left) (hdeep:Hid (deep=5-n)) (hn:n<=4) (hd4:dim<=4) (hs:s<X.heap.size) (hl:Hid (aH X s lv zs)) (he:Hid (aZ X s ev env)) (hp:p+(3*aO n+3)<=900000) (hleft:-900000<=left-(3*(aO n:Int)+3)) (hleft2:left<=900000)
 (hd1:2<=dim) (hkk:kk=2):(Calls prog 24 #[.pointer (some ⟨s,0,none⟩),.int .i64 dim,.int .i64 deep,ev] (X.src s lv p left) (aM s lv X (E,p',l'))):=by
 subst hkk;have hne:¬dim=1:=by omega
 have hpr:bL zs p dim=some (19,[dim,dim],p+1):=by simp [bL,HK.out,hne]
 have hne1:(dim==1)=false:=by simp;omega
 clear hne;have hF:=bX zs env n _ p left hleft0 hpr;rw [hr.out]at hF;generalize hll:bM (aP zs env n) [dim,dim] (p+1) (left-2)=rr at hF;obtain⟨ll,pp,le⟩:=rr;simp only [Prod.mk.injEq]at hF;obtain⟨rfl,rfl,rfl⟩:=hF;have HLL:=yq hll;clear hll hpr;have h6:deep<6:=by have:=hdeep.out;omega
 have hc8:=df n
 go_enter func24,ntmps24
 go_wp2_with fail
 refine(bf s lv zs p p (left-2) _ _ rfl zp zr zu ze ze).mono ?_;rintro e w' ⟨rfl,n1,rfl⟩;rw [HK.out]
 go_wp2_with fail
 refine(dx s lv ev zs env n IH _ _ [dim,dim] _ (p+1) ((p:Int)+1) _ ll p' l' _ HLL ze ze zK ze zp zr (yq zu) (yq zx) ze ze ze zg zg ze (mE ze ze) (dD _ [dim,dim] _ _ zg)).mono ?_;rintro e w' ⟨v,bs,d,rfl,rfl,hrep⟩;have H1:=yq hrep;obtain⟨va,vc,hv⟩:=hrep.form;subst hv;clear hrep
 go_wp2_with fail
 go_returns
 refine aM.of_eq (P':=(p':Int)) rfl rfl rfl (.of_below af) (((H1.out.eqw (w':=((((X.src s lv (p':Int) l').alloc (.cells #[.int .i64 0,.int .i64 0,.int .i64 0,.int .i64 0,.string ⟨#[]⟩,.slice none 0 0] 69)).alloc (.cells #[.int .i64 7,.int .i64 8,.int .i64 19,.int .i64 20] 3)).alloc (.cells #[.int .i64 dim,.int .i64 dim] 3)).grow bs d) zC).lift0 ?_ ?_ d).mono ?_)
 all_goals first
  |(intro b hb;simp at hb;omega)
  |(simp;done)
  |(simp;omega)
theorem Ph
 (s:Nat) (lv ev:Value) (zs:List Int) (env:List (ByteArray × Int)) (n:Nat) (IH:Hid (cK s lv ev zs env n)) (dim:Int) (p:Nat) (left deep:Int) (E:Ex) (p':Nat) (l':Int) (kk:Int) (X:World) (hr:Hid (aP zs env (n+1) dim p left=(E,p',l'))) (HK:Hid (aJ zs p 14=kk)) (hleft0:0<left) (hdeep:Hid (deep=5-n)) (hn:n<=4) (hd4:dim<=4) (hs:s<X.heap.size) (hl:Hid (aH X s lv zs)) (he:Hid (aZ X s ev env)) (hp:p+(3*aO n+3)<=900000) (hleft:-900000<=left-(3*(aO n:Int)+3)) (hleft2:left<=900000)
 (hd1:2<=dim) (hkk:kk=3):(Calls prog 24 #[.pointer (some ⟨s,0,none⟩),.int .i64 dim,.int .i64 deep,ev] (X.src s lv p left) (aM s lv X (E,p',l'))):=by
 subst hkk;have hne:¬dim=1:=by omega
 have hpr:bL zs p dim=some (20,[dim,dim],p+1):=by simp [bL,HK.out,hne]
 have hne1:(dim==1)=false:=by simp;omega
 clear hne;have hF:=bX zs env n _ p left hleft0 hpr;rw [hr.out]at hF;generalize hll:bM (aP zs env n) [dim,dim] (p+1) (left-2)=rr at hF;obtain⟨ll,pp,le⟩:=rr;simp only [Prod.mk.injEq]at hF;obtain⟨rfl,rfl,rfl⟩:=hF;have HLL:=yq hll;clear hll hpr;have h6:deep<6:=by have:=hdeep.out;omega
 have hc8:=df n
 go_enter func24,ntmps24
 go_wp2_with fail
 refine(bf s lv zs p p (left-2) _ _ rfl zp zr zu ze ze).mono ?_;rintro e w' ⟨rfl,n1,rfl⟩;rw [HK.out]
 go_wp2_with fail
 refine(dx s lv ev zs env n IH _ _ [dim,dim] _ (p+1) ((p:Int)+1) _ ll p' l' _ HLL ze ze zK ze zp zr (yq zu) (yq zx) ze ze ze zg zg ze (mE ze ze) (dD _ [dim,dim] _ _ zg)).mono ?_;rintro e w' ⟨v,bs,d,rfl,rfl,hrep⟩;have H1:=yq hrep;obtain⟨va,vc,hv⟩:=hrep.form;subst hv;clear hrep
 go_wp2_with fail
 go_returns
 refine aM.of_eq (P':=(p':Int)) rfl rfl rfl (.of_below af) (((H1.out.eqw (w':=((((X.src s lv (p':Int) l').alloc (.cells #[.int .i64 0,.int .i64 0,.int .i64 0,.int .i64 0,.string ⟨#[]⟩,.slice none 0 0] 69)).alloc (.cells #[.int .i64 7,.int .i64 8,.int .i64 19,.int .i64 20] 3)).alloc (.cells #[.int .i64 dim,.int .i64 dim] 3)).grow bs d) zC).lift0 ?_ ?_ d).mono ?_)
 all_goals first
  |(intro b hb;simp at hb;omega)
  |(simp;done)
  |(simp;omega)
theorem Pg
 (s:Nat) (lv ev:Value) (zs:List Int) (env:List (ByteArray × Int)) (n:Nat) (IH:Hid (cK s lv ev zs env n)) (dim:Int) (p:Nat) (left deep:Int) (E:Ex) (p':Nat) (l':Int) (kk:Int) (X:World) (hr:Hid (aP zs env (n+1) dim p left=(E,p',l'))) (HK:Hid (aJ zs p 14=kk)) (hleft0:0<left) (hdeep:Hid (deep=5-n)) (hn:n<=4) (hd4:dim<=4) (hs:s<X.heap.size) (hl:Hid (aH X s lv zs)) (he:Hid (aZ X s ev env)) (hp:p+(3*aO n+3)<=900000) (hleft:-900000<=left-(3*(aO n:Int)+3)) (hleft2:left<=900000)
 (hd1:2<=dim) (hkk:kk=4):(Calls prog 24 #[.pointer (some ⟨s,0,none⟩),.int .i64 dim,.int .i64 deep,ev] (X.src s lv p left) (aM s lv X (E,p',l'))):=by
 subst hkk;have hne:¬dim=1:=by omega
 have hpr:bL zs p dim=some (21,[1,dim,dim],p+1):=by simp [bL,HK.out,hne]
 have hne1:(dim==1)=false:=by simp;omega
 clear hne;have hF:=bX zs env n _ p left hleft0 hpr;rw [hr.out]at hF;generalize hll:bM (aP zs env n) [1,dim,dim] (p+1) (left-2)=rr at hF;obtain⟨ll,pp,le⟩:=rr;simp only [Prod.mk.injEq]at hF;obtain⟨rfl,rfl,rfl⟩:=hF;have HLL:=yq hll;clear hll hpr;have h6:deep<6:=by have:=hdeep.out;omega
 have hc8:=df n
 go_enter func24,ntmps24
 go_wp2_with fail
 refine(bf s lv zs p p (left-2) _ _ rfl zp zr zu ze ze).mono ?_;rintro e w' ⟨rfl,n1,rfl⟩;rw [HK.out]
 go_wp2_with fail
 refine(dx s lv ev zs env n IH _ _ [1,dim,dim] _ (p+1) ((p:Int)+1) _ ll p' l' _ HLL ze ze zK ze zp zr (yq zu) (yq zx) ze ze ze zg zg ze (Qb ze ze ze) (dD _ [1,dim,dim] _ _ zg)).mono ?_;rintro e w' ⟨v,bs,d,rfl,rfl,hrep⟩;have H1:=yq hrep;obtain⟨va,vc,hv⟩:=hrep.form;subst hv;clear hrep
 go_wp2_with fail
 go_returns
 refine aM.of_eq (P':=(p':Int)) rfl rfl rfl (.of_below af) (((H1.out.eqw (w':=((((X.src s lv (p':Int) l').alloc (.cells #[.int .i64 0,.int .i64 0,.int .i64 0,.int .i64 0,.string ⟨#[]⟩,.slice none 0 0] 69))).alloc (.cells #[.int .i64 1,.int .i64 dim,.int .i64 dim] 3)).grow bs d) zC).lift0 ?_ ?_ d).mono ?_)
 all_goals first
  |(intro b hb;simp at hb;omega)
  |(simp;done)
  |(simp;omega)
theorem Pf
 (s:Nat) (lv ev:Value) (zs:List Int) (env:List (ByteArray × Int)) (n:Nat) (IH:Hid (cK s lv ev zs env n)) (dim:Int) (p:Nat) (left deep:Int) (E:Ex) (p':Nat) (l':Int) (kk:Int) (X:World) (hr:Hid (aP zs env (n+1) dim p left=(E,p',l'))) (HK:Hid (aJ zs p 14=kk)) (hleft0:0<left) (hdeep:Hid (deep=5-n)) (hn:n<=4) (hd4:dim<=4) (hs:s<X.heap.size) (hl:Hid (aH X s lv zs)) (he:Hid (aZ X s ev env)) (hp:p+(3*aO n+3)<=900000) (hleft:-900000<=left-(3*(aO n:Int)+3)) (hleft2:left<=900000)
 (hd1:2<=dim) (hkk:kk=5):(Calls prog 24 #[.pointer (some ⟨s,0,none⟩),.int .i64 dim,.int .i64 deep,ev] (X.src s lv p left) (aM s lv X (E,p',l'))):=by
 subst hkk;have hne:¬dim=1:=by omega
 have hpr:bL zs p dim=some (4,[dim],p+1):=by simp [bL,HK.out,hne]
 have hne1:(dim==1)=false:=by simp;omega
 clear hne;have hF:=bX zs env n _ p left hleft0 hpr;rw [hr.out]at hF;generalize hll:bM (aP zs env n) [dim] (p+1) (left-2)=rr at hF;obtain⟨ll,pp,le⟩:=rr;simp only [Prod.mk.injEq]at hF;obtain⟨rfl,rfl,rfl⟩:=hF;have HLL:=yq hll;clear hll hpr;have h6:deep<6:=by have:=hdeep.out;omega
 have hc8:=df n
 go_enter func24,ntmps24
 go_wp2_with fail
 refine(bf s lv zs p p (left-2) _ _ rfl zp zr zu ze ze).mono ?_;rintro e w' ⟨rfl,n1,rfl⟩;rw [HK.out]
 go_wp2_with fail
 refine(dx s lv ev zs env n IH _ _ [dim] _ (p+1) ((p:Int)+1) _ ll p' l' _ HLL ze ze zK ze zp zr (yq zu) (yq zx) ze ze ze zg zg ze (Mc ze) (dD _ [dim] _ _ zg)).mono ?_;rintro e w' ⟨v,bs,d,rfl,rfl,hrep⟩;have H1:=yq hrep;obtain⟨va,vc,hv⟩:=hrep.form;subst hv;clear hrep
 go_wp2_with fail
 go_returns
 refine aM.of_eq (P':=(p':Int)) rfl rfl rfl (.of_below af) (((H1.out.eqw (w':=((((X.src s lv (p':Int) l').alloc (.cells #[.int .i64 0,.int .i64 0,.int .i64 0,.int .i64 0,.string ⟨#[]⟩,.slice none 0 0] 69))).alloc (.cells #[.int .i64 dim] 3)).grow bs d) zC).lift0 ?_ ?_ d).mono ?_)
 all_goals first
  |(intro b hb;simp at hb;omega)
  |(simp;done)
  |(simp;omega)
theorem Pb
 (s:Nat) (lv ev:Value) (zs:List Int) (env:List (ByteArray × Int)) (n:Nat) (IH:Hid (cK s lv ev zs env n)) (dim:Int) (p:Nat) (left deep:Int) (E:Ex) (p':Nat) (l':Int) (kk:Int) (X:World) (hr:Hid (aP zs env (n+1) dim p left=(E,p',l'))) (HK:Hid (aJ zs p 14=kk)) (hleft0:0<left) (hdeep:Hid (deep=5-n)) (hn:n<=4) (hd4:dim<=4) (hs:s<X.heap.size) (hl:Hid (aH X s lv zs)) (he:Hid (aZ X s ev env)) (hp:p+(3*aO n+3)<=900000) (hleft:-900000<=left-(3*(aO n:Int)+3)) (hleft2:left<=900000)
 (hd1:2<=dim) (hkk:kk=6):(Calls prog 24 #[.pointer (some ⟨s,0,none⟩),.int .i64 dim,.int .i64 deep,ev] (X.src s lv p left) (aM s lv X (E,p',l'))):=by
 subst hkk;have hne:¬dim=1:=by omega
 have hpr:bL zs p dim=some (6,[dim],p+1):=by simp [bL,HK.out,hne]
 have hne1:(dim==1)=false:=by simp;omega
 clear hne;have hF:=bX zs env n _ p left hleft0 hpr;rw [hr.out]at hF;generalize hll:bM (aP zs env n) [dim] (p+1) (left-2)=rr at hF;obtain⟨ll,pp,le⟩:=rr;simp only [Prod.mk.injEq]at hF;obtain⟨rfl,rfl,rfl⟩:=hF;have HLL:=yq hll;clear hll hpr;have h6:deep<6:=by have:=hdeep.out;omega
 have hc8:=df n
 go_enter func24,ntmps24
 go_wp2_with fail
 refine(bf s lv zs p p (left-2) _ _ rfl zp zr zu ze ze).mono ?_;rintro e w' ⟨rfl,n1,rfl⟩;rw [HK.out]
 go_wp2_with fail
 refine(dx s lv ev zs env n IH _ _ [dim] _ (p+1) ((p:Int)+1) _ ll p' l' _ HLL ze ze zK ze zp zr (yq zu) (yq zx) ze ze ze zg zg ze (Mc ze) (dD _ [dim] _ _ zg)).mono ?_;rintro e w' ⟨v,bs,d,rfl,rfl,hrep⟩;have H1:=yq hrep;obtain⟨va,vc,hv⟩:=hrep.form;subst hv;clear hrep
 go_wp2_with fail
 go_returns
 refine aM.of_eq (P':=(p':Int)) rfl rfl rfl (.of_below af) (((H1.out.eqw (w':=((((X.src s lv (p':Int) l').alloc (.cells #[.int .i64 0,.int .i64 0,.int .i64 0,.int .i64 0,.string ⟨#[]⟩,.slice none 0 0] 69))).alloc (.cells #[.int .i64 dim] 3)).grow bs d) zC).lift0 ?_ ?_ d).mono ?_)
 all_goals first
  |(intro b hb;simp at hb;omega)
  |(simp;done)
  |(simp;omega)
theorem O9
 (s:Nat) (lv ev:Value) (zs:List Int) (env:List (ByteArray × Int)) (n:Nat) (IH:Hid (cK s lv ev zs env n)) (dim:Int) (p:Nat) (left deep:Int) (E:Ex) (p':Nat) (l':Int) (kk:Int) (X:World) (hr:Hid (aP zs env (n+1) dim p left=(E,p',l'))) (HK:Hid (aJ zs p 14=kk)) (hleft0:0<left) (hdeep:Hid (deep=5-n)) (hn:n<=4) (hd4:dim<=4) (hs:s<X.heap.size) (hl:Hid (aH X s lv zs)) (he:Hid (aZ X s ev env)) (hp:p+(3*aO n+3)<=900000) (hleft:-900000<=left-(3*(aO n:Int)+3)) (hleft2:left<=900000)
 (hd1:2<=dim) (hkk:kk=7):(Calls prog 24 #[.pointer (some ⟨s,0,none⟩),.int .i64 dim,.int .i64 deep,ev] (X.src s lv p left) (aM s lv X (E,p',l'))):=by
 subst hkk;have hne:¬dim=1:=by omega
 have hpr:bL zs p dim=some (9,[2,dim],p+1):=by simp [bL,HK.out,hne]
 have hne1:(dim==1)=false:=by simp;omega
 clear hne;have hF:=bX zs env n _ p left hleft0 hpr;rw [hr.out]at hF;generalize hll:bM (aP zs env n) [2,dim] (p+1) (left-2)=rr at hF;obtain⟨ll,pp,le⟩:=rr;simp only [Prod.mk.injEq]at hF;obtain⟨rfl,rfl,rfl⟩:=hF;have HLL:=yq hll;clear hll hpr;have h6:deep<6:=by have:=hdeep.out;omega
 have hc8:=df n
 go_enter func24,ntmps24
 go_wp2_with fail
 refine(bf s lv zs p p (left-2) _ _ rfl zp zr zu ze ze).mono ?_;rintro e w' ⟨rfl,n1,rfl⟩;rw [HK.out]
 go_wp2_with fail
 refine(dx s lv ev zs env n IH _ _ [2,dim] _ (p+1) ((p:Int)+1) _ ll p' l' _ HLL ze ze zK ze zp zr (yq zu) (yq zx) ze ze ze zg zg ze (mE ze ze) (dD _ [2,dim] _ _ zg)).mono ?_;rintro e w' ⟨v,bs,d,rfl,rfl,hrep⟩;have H1:=yq hrep;obtain⟨va,vc,hv⟩:=hrep.form;subst hv;clear hrep
 go_wp2_with fail
 go_returns
 refine aM.of_eq (P':=(p':Int)) rfl rfl rfl (.of_below af) (((H1.out.eqw (w':=((((X.src s lv (p':Int) l').alloc (.cells #[.int .i64 0,.int .i64 0,.int .i64 0,.int .i64 0,.string ⟨#[]⟩,.slice none 0 0] 69))).alloc (.cells #[.int .i64 2,.int .i64 dim] 3)).grow bs d) zC).lift0 ?_ ?_ d).mono ?_)
 all_goals first
  |(intro b hb;simp at hb;omega)
  |(simp;done)
  |(simp;omega)
theorem O8
 (s:Nat) (lv ev:Value) (zs:List Int) (env:List (ByteArray × Int)) (n:Nat) (IH:Hid (cK s lv ev zs env n)) (dim:Int) (p:Nat) (left deep:Int) (E:Ex) (p':Nat) (l':Int) (kk:Int) (X:World) (hr:Hid (aP zs env (n+1) dim p left=(E,p',l'))) (HK:Hid (aJ zs p 14=kk)) (hleft0:0<left) (hdeep:Hid (deep=5-n)) (hn:n<=4) (hd4:dim<=4) (hs:s<X.heap.size) (hl:Hid (aH X s lv zs)) (he:Hid (aZ X s ev env)) (hp:p+(3*aO n+3)<=900000) (hleft:-900000<=left-(3*(aO n:Int)+3)) (hleft2:left<=900000)
 (hd1:2<=dim) (hkk:kk=8):(Calls prog 24 #[.pointer (some ⟨s,0,none⟩),.int .i64 dim,.int .i64 deep,ev] (X.src s lv p left) (aM s lv X (E,p',l'))):=by
 subst hkk;have hne:¬dim=1:=by omega
 have hpr:bL zs p dim=some (9,[dim,2],p+1):=by simp [bL,HK.out,hne]
 have hne1:(dim==1)=false:=by simp;omega
 clear hne;have hF:=bX zs env n _ p left hleft0 hpr;rw [hr.out]at hF;generalize hll:bM (aP zs env n) [dim,2] (p+1) (left-2)=rr at hF;obtain⟨ll,pp,le⟩:=rr;simp only [Prod.mk.injEq]at hF;obtain⟨rfl,rfl,rfl⟩:=hF;have HLL:=yq hll;clear hll hpr;have h6:deep<6:=by have:=hdeep.out;omega
 have hc8:=df n
 go_enter func24,ntmps24
 go_wp2_with fail
 refine(bf s lv zs p p (left-2) _ _ rfl zp zr zu ze ze).mono ?_;rintro e w' ⟨rfl,n1,rfl⟩;rw [HK.out]
 go_wp2_with fail
 refine(dx s lv ev zs env n IH _ _ [dim,2] _ (p+1) ((p:Int)+1) _ ll p' l' _ HLL ze ze zK ze zp zr (yq zu) (yq zx) ze ze ze zg zg ze (mE ze ze) (dD _ [dim,2] _ _ zg)).mono ?_;rintro e w' ⟨v,bs,d,rfl,rfl,hrep⟩;have H1:=yq hrep;obtain⟨va,vc,hv⟩:=hrep.form;subst hv;clear hrep
 go_wp2_with fail
 go_returns
 refine aM.of_eq (P':=(p':Int)) rfl rfl rfl (.of_below af) (((H1.out.eqw (w':=((((X.src s lv (p':Int) l').alloc (.cells #[.int .i64 0,.int .i64 0,.int .i64 0,.int .i64 0,.string ⟨#[]⟩,.slice none 0 0] 69))).alloc (.cells #[.int .i64 dim,.int .i64 2] 3)).grow bs d) zC).lift0 ?_ ?_ d).mono ?_)
 all_goals first
  |(intro b hb;simp at hb;omega)
  |(simp;done)
  |(simp;omega)
theorem O7
 (s:Nat) (lv ev:Value) (zs:List Int) (env:List (ByteArray × Int)) (n:Nat) (IH:Hid (cK s lv ev zs env n)) (dim:Int) (p:Nat) (left deep:Int) (E:Ex) (p':Nat) (l':Int) (kk:Int) (X:World) (hr:Hid (aP zs env (n+1) dim p left=(E,p',l'))) (HK:Hid (aJ zs p 14=kk)) (hleft0:0<left) (hdeep:Hid (deep=5-n)) (hn:n<=4) (hd4:dim<=4) (hs:s<X.heap.size) (hl:Hid (aH X s lv zs)) (he:Hid (aZ X s ev env)) (hp:p+(3*aO n+3)<=900000) (hleft:-900000<=left-(3*(aO n:Int)+3)) (hleft2:left<=900000)
 (hd1:2<=dim) (hkk:kk=9):(Calls prog 24 #[.pointer (some ⟨s,0,none⟩),.int .i64 dim,.int .i64 deep,ev] (X.src s lv p left) (aM s lv X (E,p',l'))):=by
 subst hkk;have hne:¬dim=1:=by omega
 have hpr:bL zs p dim=some (10,[dim,2],p+1):=by simp [bL,HK.out,hne]
 have hne1:(dim==1)=false:=by simp;omega
 clear hne;have hF:=bX zs env n _ p left hleft0 hpr;rw [hr.out]at hF;generalize hll:bM (aP zs env n) [dim,2] (p+1) (left-2)=rr at hF;obtain⟨ll,pp,le⟩:=rr;simp only [Prod.mk.injEq]at hF;obtain⟨rfl,rfl,rfl⟩:=hF;have HLL:=yq hll;clear hll hpr;have h6:deep<6:=by have:=hdeep.out;omega
 have hc8:=df n
 go_enter func24,ntmps24
 go_wp2_with fail
 refine(bf s lv zs p p (left-2) _ _ rfl zp zr zu ze ze).mono ?_;rintro e w' ⟨rfl,n1,rfl⟩;rw [HK.out]
 go_wp2_with fail
 refine(dx s lv ev zs env n IH _ _ [dim,2] _ (p+1) ((p:Int)+1) _ ll p' l' _ HLL ze ze zK ze zp zr (yq zu) (yq zx) ze ze ze zg zg ze (mE ze ze) (dD _ [dim,2] _ _ zg)).mono ?_;rintro e w' ⟨v,bs,d,rfl,rfl,hrep⟩;have H1:=yq hrep;obtain⟨va,vc,hv⟩:=hrep.form;subst hv;clear hrep
 go_wp2_with fail
 go_returns
 refine aM.of_eq (P':=(p':Int)) rfl rfl rfl (.of_below af) (((H1.out.eqw (w':=((((X.src s lv (p':Int) l').alloc (.cells #[.int .i64 0,.int .i64 0,.int .i64 0,.int .i64 0,.string ⟨#[]⟩,.slice none 0 0] 69))).alloc (.cells #[.int .i64 dim,.int .i64 2] 3)).grow bs d) zC).lift0 ?_ ?_ d).mono ?_)
 all_goals first
  |(intro b hb;simp at hb;omega)
  |(simp;done)
  |(simp;omega)
theorem LV
 (s:Nat) (lv ev:Value) (zs:List Int) (env:List (ByteArray × Int)) (n:Nat) (IH:Hid (cK s lv ev zs env n)) (dim:Int) (p:Nat) (left deep:Int) (E:Ex) (p':Nat) (l':Int) (kk:Int) (X:World) (hr:Hid (aP zs env (n+1) dim p left=(E,p',l'))) (HK:Hid (aJ zs p 14=kk)) (hleft0:0<left) (hdeep:Hid (deep=5-n)) (hn:n<=4) (hd4:dim<=4) (hs:s<X.heap.size) (hl:Hid (aH X s lv zs)) (he:Hid (aZ X s ev env)) (hp:p+(3*aO n+3)<=900000) (hleft:-900000<=left-(3*(aO n:Int)+3)) (hleft2:left<=900000)
 (hd1:dim=2) (hkk:kk=10):(Calls prog 24 #[.pointer (some ⟨s,0,none⟩),.int .i64 dim,.int .i64 deep,ev] (X.src s lv p left) (aM s lv X (E,p',l'))):=by
 subst hkk hd1;have hb1:=fA zs (p+1) 3 ze;have hpr0:bL zs p 2=some (10,[2+aJ zs (p+1) 3,2+aJ zs (p+1) 3],p+2):=by simp [bL,HK.out]
 generalize hA:aJ zs (p+1) 3=a at hb1 hpr0;have HA:=yq hA;clear hA;have hpr:=hpr0;clear hpr0;have hF:=bX zs env n _ p left hleft0 hpr;rw [hr.out]at hF;generalize hll:bM (aP zs env n) [2+a,2+a] (p+2) (left-2)=rr at hF;obtain⟨ll,pp,le⟩:=rr;simp only [Prod.mk.injEq]at hF;obtain⟨rfl,rfl,rfl⟩:=hF;have HLL:=yq hll;clear hll hpr;have h6:deep<6:=by have:=hdeep.out;omega
 have hc8:=df n
 go_enter func24,ntmps24
 go_wp2_with fail
 refine(bf s lv zs p p (left-2) _ _ rfl zp zr zu ze ze).mono ?_;rintro e w' ⟨rfl,n1,rfl⟩;rw [HK.out]
 go_wp2_with fail
 refine(bf s lv zs (p+1) (p+1) (left-2) _ _ zg zp zr zu ze ze).mono ?_;rintro e w' ⟨rfl,n2,rfl⟩;rw [HA.out]
 go_wp2_with fail
 refine(dx s lv ev zs env n IH _ _ [2+a,2+a] _ (p+2) ((p:Int)+1+1) _ ll p' l' _ HLL ze ze zK ze zp zr (yq zu) (yq zx) ze ze ze zg zg ze (mE ze ze) (dD _ [2+a,2+a] _ _ zg)).mono ?_;rintro e w' ⟨v,bs,d,rfl,rfl,hrep⟩;have H1:=yq hrep;obtain⟨va,vc,hv⟩:=hrep.form;subst hv;clear hrep
 go_wp2_with fail
 go_returns
 refine aM.of_eq (P':=(p':Int)) rfl rfl rfl (.of_below af) (((H1.out.eqw (w':=(((X.src s lv (p':Int) l').alloc (.cells #[.int .i64 0,.int .i64 0,.int .i64 0,.int .i64 0,.string ⟨#[]⟩,.slice none 0 0] 69)).alloc (.cells #[.int .i64 (2+a),.int .i64 (2+a)] 3)).grow bs d) zC).lift0 ?_ ?_ d).mono ?_)
 all_goals first
  |(intro b hb;simp at hb;omega)
  |(simp;done)
  |(simp;omega)
theorem EU
 (s:Nat) (lv ev:Value) (zs:List Int) (env:List (ByteArray × Int)) (n:Nat) (IH:Hid (cK s lv ev zs env n)) (dim:Int) (p:Nat) (left deep:Int) (E:Ex) (p':Nat) (l':Int) (kk:Int) (X:World) (hr:Hid (aP zs env (n+1) dim p left=(E,p',l'))) (HK:Hid (aJ zs p 14=kk)) (hleft0:0<left) (hdeep:Hid (deep=5-n)) (hn:n<=4) (hd4:dim<=4) (hs:s<X.heap.size) (hl:Hid (aH X s lv zs)) (he:Hid (aZ X s ev env)) (hp:p+(3*aO n+3)<=900000) (hleft:-900000<=left-(3*(aO n:Int)+3)) (hleft2:left<=900000)
 (hd1:2<=dim) (hkk:kk=10/\dim≠2\/kk=11\/kk=12\/kk=13):(Calls prog 24 #[.pointer (some ⟨s,0,none⟩),.int .i64 dim,.int .i64 deep,ev] (X.src s lv p left) (aM s lv X (E,p',l'))):=by
 have hne:¬dim=1:=by omega
 have hpr:bL zs p dim=none:=by
  rcases hkk with ⟨rfl,h2⟩|rfl|rfl|rfl
  ·simp [bL,HK.out,hne,h2]
  ·simp [bL,HK.out,hne]
  ·simp [bL,HK.out,hne]
  ·simp [bL,HK.out,hne]
 have hF:=uR zs env n dim p left hleft0 hpr;rw [hr.out]at hF;have HL:=yq hF.symm;have hne1:(dim==1)=false:=by simp;omega
 clear hF hpr hne;rcases hkk with ⟨rfl,h2⟩|rfl|rfl|rfl
 ·have h2b:(dim==2)=false:=by simpa using h2
  have h6:deep<6:=by have:=hdeep.out;omega
  have hc8:=df n
  go_enter func24,ntmps24
  go_wp2_with fail
  refine(bf s lv zs p p (left-2) _ _ rfl zp zr zu ze ze).mono ?_;rintro e w' ⟨rfl,n1,rfl⟩;rw [HK.out]
  go_wp2_with fail
  refine(kK s lv zs (p+1) _ (left-2) _ _ env _ rfl ze ze zp zr (yq zu) (yq zx) ze ze ze).mono ?_;rintro e w' ⟨v,bs,d,rfl,rfl,hrep⟩;rw [HL.out]at hrep;simp only [HL.out];have H1:=yq hrep;obtain⟨va,vc,hv⟩:=hrep.form;subst hv;clear hrep
  go_wp2_with fail
  go_returns
  refine aM.of_eq (P':=(p':Int)) rfl rfl rfl (.of_below af) (((H1.out.eqw (w':=((X.src s lv (p':Int) l').alloc (.cells #[.int .i64 0,.int .i64 0,.int .i64 0,.int .i64 0,.string ⟨#[]⟩,.slice none 0 0] 69)).grow bs d) zC).lift0 ?_ ?_ d).mono ?_)
  all_goals first
   |(intro b hb;simp at hb;omega)
   |(simp;done)
   |(simp;omega)
 all_goals
  have h6:deep<6:=by have:=hdeep.out;omega
  have hc8:=df n
  go_enter func24,ntmps24
  go_wp2_with fail
  refine(bf s lv zs p p (left-2) _ _ rfl zp zr zu ze ze).mono ?_;rintro e w' ⟨rfl,n1,rfl⟩;rw [HK.out]
  go_wp2_with fail
  refine(kK s lv zs (p+1) _ (left-2) _ _ env _ rfl ze ze zp zr (yq zu) (yq zx) ze ze ze).mono ?_;rintro e w' ⟨v,bs,d,rfl,rfl,hrep⟩;rw [HL.out]at hrep;simp only [HL.out];have H1:=yq hrep;obtain⟨va,vc,hv⟩:=hrep.form;subst hv;clear hrep
  go_wp2_with fail
  go_returns
  refine aM.of_eq (P':=(p':Int)) rfl rfl rfl (.of_below af) (((H1.out.eqw (w':=((X.src s lv (p':Int) l').alloc (.cells #[.int .i64 0,.int .i64 0,.int .i64 0,.int .i64 0,.string ⟨#[]⟩,.slice none 0 0] 69)).grow bs d) zC).lift0 ?_ ?_ d).mono ?_)
  all_goals first
   |(intro b hb;simp at hb;omega)
   |(simp;done)
   |(simp;omega)
theorem I7(s:Nat)(lv ev:Value)(zs:List Int)(env:List (ByteArray × Int))(n:Nat)(hn:n<=4)(IH:cK s lv ev zs env n):cK s lv ev zs env (n+1):=by
 unfold cK;intro dim p P left deep r X hr hP hdeep hd1 hd4 hs hX hl he hp hleft hleft2;subst hP
 suffices h:Calls prog 24 #[.pointer (some ⟨s,0,none⟩),.int .i64 dim,.int .i64 deep,ev] (X.src s lv p left) (aM s lv X r)by rw [hX]at h;exact h
 clear hX;obtain⟨E,p',l'⟩:=r;have hc:aO (n+1)=3*aO n+3:=rfl;have hc8:=df n;rw [hc]at hp hleft;by_cases h0:left<=0
 ·exact LW s lv ev zs env n dim p left deep E p' l' X (yq (by have:=hr.out;rw [EY _ _ _ _ _ _ (.inr h0)]at this;exact this)) h0 ze hn hd1 hd4 hs hl he ze ze ze
 ·have h1:0<left:=by omega
  have hp2:p+(3*aO n+3)<=900000:=hp;have hl2:-900000<=left-(3*(aO n:Int)+3):=by omega
  have hdp:Hid (deep=5-n):=yq ze;have hkb:=fA zs p 14 ze;generalize hK:aJ zs p 14=kk at hkb;have HK:=yq hK;by_cases hd:dim=1
  ·obtain h|h|h|h|h|h:kk=0\/kk=1\/kk=2\/kk=3\/(kk=4\/kk=5\/kk=6\/kk=7\/kk=8)\/(kk=9\/kk=10\/kk=11\/kk=12\/kk=13):=by omega
   ·exact Pp s lv ev zs env n (yq IH) dim p left deep E p' l' kk X hr HK h1 hdp hn hd4 hs hl he hp2 hl2 hleft2 hd h
   ·exact Po s lv ev zs env n (yq IH) dim p left deep E p' l' kk X hr HK h1 hdp hn hd4 hs hl he hp2 hl2 hleft2 hd h
   ·exact Pn s lv ev zs env n (yq IH) dim p left deep E p' l' kk X hr HK h1 hdp hn hd4 hs hl he hp2 hl2 hleft2 hd h
   ·exact Pm s lv ev zs env n (yq IH) dim p left deep E p' l' kk X hr HK h1 hdp hn hd4 hs hl he hp2 hl2 hleft2 hd h
   ·exact Jb s lv ev zs env n (yq IH) dim p left deep E p' l' kk X hr HK h1 hdp hn hd4 hs hl he hp2 hl2 hleft2 hd h
   ·exact EX s lv ev zs env n (yq IH) dim p left deep E p' l' kk X hr HK h1 hdp hn hd4 hs hl he hp2 hl2 hleft2 hd h
  ·have hd2:2<=dim:=by omega
   obtain h|h|h|h|h|h|h|h|h|h|⟨h,h2⟩|h:kk=0\/kk=1\/kk=2\/kk=3\/kk=4\/kk=5\/kk=6\/kk=7\/kk=8\/kk=9\/(kk=10/\dim=2)\/(kk=10/\dim≠2\/kk=11\/kk=12\/kk=13):=by omega
   ·exact Pk s lv ev zs env n (yq IH) dim p left deep E p' l' kk X hr HK h1 hdp hn hd4 hs hl he hp2 hl2 hleft2 hd2 h
   ·exact Pj s lv ev zs env n (yq IH) dim p left deep E p' l' kk X hr HK h1 hdp hn hd4 hs hl he hp2 hl2 hleft2 hd2 h
   ·exact Pi s lv ev zs env n (yq IH) dim p left deep E p' l' kk X hr HK h1 hdp hn hd4 hs hl he hp2 hl2 hleft2 hd2 h
   ·exact Ph s lv ev zs env n (yq IH) dim p left deep E p' l' kk X hr HK h1 hdp hn hd4 hs hl he hp2 hl2 hleft2 hd2 h
   ·exact Pg s lv ev zs env n (yq IH) dim p left deep E p' l' kk X hr HK h1 hdp hn hd4 hs hl he hp2 hl2 hleft2 hd2 h
   ·exact Pf s lv ev zs env n (yq IH) dim p left deep E p' l' kk X hr HK h1 hdp hn hd4 hs hl he hp2 hl2 hleft2 hd2 h
   ·exact Pb s lv ev zs env n (yq IH) dim p left deep E p' l' kk X hr HK h1 hdp hn hd4 hs hl he hp2 hl2 hleft2 hd2 h
   ·exact O9 s lv ev zs env n (yq IH) dim p left deep E p' l' kk X hr HK h1 hdp hn hd4 hs hl he hp2 hl2 hleft2 hd2 h
   ·exact O8 s lv ev zs env n (yq IH) dim p left deep E p' l' kk X hr HK h1 hdp hn hd4 hs hl he hp2 hl2 hleft2 hd2 h
   ·exact O7 s lv ev zs env n (yq IH) dim p left deep E p' l' kk X hr HK h1 hdp hn hd4 hs hl he hp2 hl2 hleft2 hd2 h
   ·exact LV s lv ev zs env n (yq IH) dim p left deep E p' l' kk X hr HK h1 hdp hn hd4 hs hl he hp2 hl2 hleft2 h2 h
   ·exact EU s lv ev zs env n (yq IH) dim p left deep E p' l' kk X hr HK h1 hdp hn hd4 hs hl he hp2 hl2 hleft2 hd2 h
theorem O6(s:Nat)(lv ev:Value)(zs:List Int)(env:List (ByteArray × Int))(n:Nat)(hn:n<=5):cK s lv ev zs env n:=by
 induction n with
 |zero=>exact I6 s lv ev zs env
 |succ n ih=>exact I7 s lv ev zs env n ze (ih ze)
end Go.Proofs.YtcfpoofhokbhlaaGreatDoor
