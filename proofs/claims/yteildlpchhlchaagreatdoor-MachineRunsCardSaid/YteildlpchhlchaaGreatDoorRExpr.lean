import Derived.Test.YteildlpchhlchaaGreatDoorRGen
import Derived.Test.YteildlpchhlchaaGreatDoorRForm
set_option linter.all false
set_option maxHeartbeats 16000000
set_option maxRecDepth 1000000
namespace Go.Proofs.YteildlpchhlchaaGreatDoor
open Tryz List
open Go.RowKit

theorem cz(s:Nat)(lv ev:Value)(zs:List Int)(env:List (ByteArray × Int))(n:Nat)(IH:Hid (bT s lv ev zs env n))(op deep:Int)(ds:List Int)(db:Nat)(p:Nat)(P left:Int)(l:List Ex)(p':Nat)(l':Int)(X:World)(hr:Hid (bJ (aS zs env n) ds p left=(l,p',l')))(hP:P=p)(hn:n<=5)(hdeep:deep+1=6-n)(hop:0<=op/\op<=100)
 (hs:s<X.heap.size) (hX:X.src s lv P left=X) (hl:Hid (aR X s lv zs)) (he:Hid (bz X s ev env)) (hp:p+3*aP n<=900000) (hleft:-900000<=left-3*aP n) (hleft2:left<=900000)
 (hdl:ds.length<=3) (hdb:db<X.heap.size) (hdbs:db≠s) (hdr:∀d∈ds,1<=d/\d<=4) (hdc:∀i,i<ds.length->X.cell? ⟨db,i,none⟩=some (.int .i64 (ds.getD i 0))) :
 Calls prog 75 #[.pointer (some ⟨s,0,none⟩),.int .i64 op,.int .i64 deep,ev,.slice (some ⟨db,0,none⟩) ds.length ds.length] X
  (aJ s lv X (.mk op 0 0 0 ByteArray.empty l,p',l')):=by
 have:=KN s lv ev zs env n IH op deep ds db p P left X hP hn hdeep hop hs hX hl he hp hleft hleft2 hdl hdb hdbs (yq fun i hi=>by
  have hm:ds.getD i 0∈ds:=by rw [getD_eq_getElem?_getD,getElem?_eq_getElem hi];exact getElem_mem hi
  exact hdr _ hm) (yq hdc)
 rw [hr.out]at this;exact this
theorem cO(w:World)(ds:List Int)(t:TypeId)(H:Nat)(hH:w.heap.size=H):∀i,i<ds.length->(w.alloc (.cells (ds.map (Value.int .i64)).toArray t)).cell? ⟨H,i,none⟩=some (.int .i64 (ds.getD i 0)):=by
 subst hH;intro i hi;rw [World.cell?_alloc_at _ _ _ _ rfl,getD_eq_getElem?_getD,getElem?_eq_getElem hi];simp [hi]
theorem LY{a:Int}(ha:1<=a/\a<=4):∀d∈[a],1<=d/\d<=4:=by intro d hd;simp at hd;subst hd;exact ha
theorem l7{a b:Int}(ha:1<=a/\a<=4)(hb:1<=b/\b<=4):∀d∈[a,b],1<=d/\d<=4:=by intro d hd;simp at hd;rcases hd with rfl|rfl<;>assumption
theorem PK{a b c:Int}(ha:1<=a/\a<=4)(hb:1<=b/\b<=4)(hc:1<=c/\c<=4):∀d∈[a,b,c],1<=d/\d<=4:=by intro d hd;simp at hd;rcases hd with rfl|rfl|rfl<;>assumption
theorem AL(w:World)(n:Nat)(o:Obj):(w.drewN n).alloc o=(w.alloc o).drewN n:=rfl
theorem aT.form{S:Nat->Prop}{w:World}{e:Ex}{v:Value}(h:aT S w e v):∃a cap,v= .slice a e.args.length cap:=by cases h;exact⟨_,_,rfl⟩
theorem IP(s:Nat)(lv ev:Value)(zs:List Int)(env:List (ByteArray × Int)):bT s lv ev zs env 0:=by
 unfold bT;intro dim p P left deep r X hr hP hdeep hd1 hd4 hs hX hl he hp hleft hleft2;subst hP
 suffices h:Calls prog 31 #[.pointer (some ⟨s,0,none⟩),.int .i64 dim,.int .i64 deep,ev] (X.src s lv p left) (aJ s lv X r)by rw [hX]at h;exact h
 clear hX;obtain⟨E,p',l'⟩:=r;have HL:Hid (dz zs env dim p left=(E,p',l')):=yq hr.out;have hc:aP 0=8:=rfl;rw [hc]at hp hleft;have h6:6<=deep:=by omega
 clear hdeep
 go_enter func31,ntmps31
 go_wp2_with fail
 refine(kz s lv zs p _ left _ _ env _ rfl zb zb zg zi (yq zj) (yq zo) zb zb zb).mono ?_;rintro e w' ⟨v,bs,d,rfl,rfl,hrep⟩;rw [HL.out]at hrep;simp only [HL.out];have H1:=yq hrep;obtain⟨va,vc,hv⟩:=hrep.form;subst hv;clear hrep
 go_wp2_with fail
 go_returns
 refine aJ.of_eq (P':=(p':Int)) rfl rfl rfl (.of_below au) (((H1.out.eqw (w':=((X.src s lv (p':Int) l').alloc (.cells #[.int .i64 0,.int .i64 0,.int .i64 0,.int .i64 0,.string ⟨#[]⟩,.slice none 0 0] 27)).grow bs d) zr).lift0 ?_ ?_ d).mono ?_)
 all_goals first
  |(intro b hb;simp at hb;omega)
  |(simp;done)
  |(simp;omega)
theorem LP(s:Nat)(lv ev:Value)(zs:List Int)(env:List (ByteArray × Int))(n:Nat)(dim:Int)(p:Nat)(left deep:Int)(E:Ex)(p':Nat)(l':Int)(X:World)(hr:Hid (dz zs env dim p left=(E,p',l')))(hleft0:left<=0)(hdeep:deep=5-n)(hn:n<=4)(hd1:1<=dim)(hd4:dim<=4)(hs:s<X.heap.size)
 (hl:Hid (aR X s lv zs)) (he:Hid (bz X s ev env)) (hp:p<=900000) (hleft:-900000<=left) (hleft2:left<=900000):Calls prog 31 #[.pointer (some ⟨s,0,none⟩),.int .i64 dim,.int .i64 deep,ev] (X.src s lv p left) (aJ s lv X (E,p',l')):=by
 have h6:deep<6:=by omega
 have HL:=hr
 go_enter func31,ntmps31
 go_wp2_with fail
 refine(kz s lv zs p _ left _ _ env _ rfl zb zb zg zi (yq zj) (yq zo) zb zb zb).mono ?_;rintro e w' ⟨v,bs,d,rfl,rfl,hrep⟩;rw [HL.out]at hrep;simp only [HL.out];have H1:=yq hrep;obtain⟨va,vc,hv⟩:=hrep.form;subst hv;clear hrep
 go_wp2_with fail
 go_returns
 refine aJ.of_eq (P':=(p':Int)) rfl rfl rfl (.of_below au) (((H1.out.eqw (w':=((X.src s lv (p':Int) l').alloc (.cells #[.int .i64 0,.int .i64 0,.int .i64 0,.int .i64 0,.string ⟨#[]⟩,.slice none 0 0] 27)).grow bs d) zr).lift0 ?_ ?_ d).mono ?_)
 all_goals first
  |(intro b hb;simp at hb;omega)
  |(simp;done)
  |(simp;omega)
theorem OY
 (s:Nat) (lv ev:Value) (zs:List Int) (env:List (ByteArray × Int)) (n:Nat) (IH:Hid (bT s lv ev zs env n)) (dim:Int) (p:Nat) (left deep:Int) (E:Ex) (p':Nat) (l':Int) (kk:Int) (X:World) (hr:Hid (aS zs env (n+1) dim p left=(E,p',l'))) (HK:Hid (aC zs p 14=kk)) (hleft0:0<left) (hdeep:Hid (deep=5-n)) (hn:n<=4) (hd4:dim<=4) (hs:s<X.heap.size) (hl:Hid (aR X s lv zs)) (he:Hid (bz X s ev env)) (hp:p+(3*aP n+3)<=900000) (hleft:-900000<=left-(3*(aP n:Int)+3)) (hleft2:left<=900000)
 (hd1:dim=1) (hkk:kk=0):(Calls prog 31 #[.pointer (some ⟨s,0,none⟩),.int .i64 dim,.int .i64 deep,ev] (X.src s lv p left) (aJ s lv X (E,p',l'))):=by
 subst hd1;subst hkk;have hpr:bG zs p 1=some (17,[1,1],p+1):=by simp [bG,HK.out]
 have hF:=bL zs env n _ p left hleft0 hpr;rw [hr.out]at hF;generalize hll:bJ (aS zs env n) [1,1] (p+1) (left-2)=rr at hF;obtain⟨ll,pp,le⟩:=rr;simp only [Prod.mk.injEq]at hF;obtain⟨rfl,rfl,rfl⟩:=hF;have HLL:=yq hll;clear hll hpr;have h6:deep<6:=by have:=hdeep.out;omega
 have hc8:=bX n
 go_enter func31,ntmps31
 go_wp2_with fail
 refine(bg s lv zs p p (left-2) _ _ rfl zg zi zj zb zb).mono ?_;rintro e w' ⟨rfl,n1,rfl⟩;rw [HK.out]
 go_wp2_with fail
 refine(cz s lv ev zs env n IH _ _ [1,1] _ (p+1) ((p:Int)+1) _ ll p' l' _ HLL zb zb zw zb zg zi (yq zj) (yq zo) zb zb zb ze ze zb (l7 zb zb) (cO _ [1,1] _ _ ze)).mono ?_;rintro e w' ⟨v,bs,d,rfl,rfl,hrep⟩;have H1:=yq hrep;obtain⟨va,vc,hv⟩:=hrep.form;subst hv;clear hrep
 go_wp2_with fail
 go_returns
 refine aJ.of_eq (P':=(p':Int)) rfl rfl rfl (.of_below au) (((H1.out.eqw (w':=(((X.src s lv (p':Int) l').alloc (.cells #[.int .i64 0,.int .i64 0,.int .i64 0,.int .i64 0,.string ⟨#[]⟩,.slice none 0 0] 27)).alloc (.cells #[.int .i64 1,.int .i64 1] 3)).grow bs d) zr).lift0 ?_ ?_ d).mono ?_)
 all_goals first
  |(intro b hb;simp at hb;omega)
  |(simp;done)
  |(simp;omega)
theorem OX
 (s:Nat) (lv ev:Value) (zs:List Int) (env:List (ByteArray × Int)) (n:Nat) (IH:Hid (bT s lv ev zs env n)) (dim:Int) (p:Nat) (left deep:Int) (E:Ex) (p':Nat) (l':Int) (kk:Int) (X:World) (hr:Hid (aS zs env (n+1) dim p left=(E,p',l'))) (HK:Hid (aC zs p 14=kk)) (hleft0:0<left) (hdeep:Hid (deep=5-n)) (hn:n<=4) (hd4:dim<=4) (hs:s<X.heap.size) (hl:Hid (aR X s lv zs)) (he:Hid (bz X s ev env)) (hp:p+(3*aP n+3)<=900000) (hleft:-900000<=left-(3*(aP n:Int)+3)) (hleft2:left<=900000)
 (hd1:dim=1) (hkk:kk=1):(Calls prog 31 #[.pointer (some ⟨s,0,none⟩),.int .i64 dim,.int .i64 deep,ev] (X.src s lv p left) (aJ s lv X (E,p',l'))):=by
 subst hd1;subst hkk;have hpr:bG zs p 1=some (18,[1,1],p+1):=by simp [bG,HK.out]
 have hF:=bL zs env n _ p left hleft0 hpr;rw [hr.out]at hF;generalize hll:bJ (aS zs env n) [1,1] (p+1) (left-2)=rr at hF;obtain⟨ll,pp,le⟩:=rr;simp only [Prod.mk.injEq]at hF;obtain⟨rfl,rfl,rfl⟩:=hF;have HLL:=yq hll;clear hll hpr;have h6:deep<6:=by have:=hdeep.out;omega
 have hc8:=bX n
 go_enter func31,ntmps31
 go_wp2_with fail
 refine(bg s lv zs p p (left-2) _ _ rfl zg zi zj zb zb).mono ?_;rintro e w' ⟨rfl,n1,rfl⟩;rw [HK.out]
 go_wp2_with fail
 refine(cz s lv ev zs env n IH _ _ [1,1] _ (p+1) ((p:Int)+1) _ ll p' l' _ HLL zb zb zw zb zg zi (yq zj) (yq zo) zb zb zb ze ze zb (l7 zb zb) (cO _ [1,1] _ _ ze)).mono ?_;rintro e w' ⟨v,bs,d,rfl,rfl,hrep⟩;have H1:=yq hrep;obtain⟨va,vc,hv⟩:=hrep.form;subst hv;clear hrep
 go_wp2_with fail
 go_returns
 refine aJ.of_eq (P':=(p':Int)) rfl rfl rfl (.of_below au) (((H1.out.eqw (w':=(((X.src s lv (p':Int) l').alloc (.cells #[.int .i64 0,.int .i64 0,.int .i64 0,.int .i64 0,.string ⟨#[]⟩,.slice none 0 0] 27)).alloc (.cells #[.int .i64 1,.int .i64 1] 3)).grow bs d) zr).lift0 ?_ ?_ d).mono ?_)
 all_goals first
  |(intro b hb;simp at hb;omega)
  |(simp;done)
  |(simp;omega)
theorem OW
 (s:Nat) (lv ev:Value) (zs:List Int) (env:List (ByteArray × Int)) (n:Nat) (IH:Hid (bT s lv ev zs env n)) (dim:Int) (p:Nat) (left deep:Int) (E:Ex) (p':Nat) (l':Int) (kk:Int) (X:World) (hr:Hid (aS zs env (n+1) dim p left=(E,p',l'))) (HK:Hid (aC zs p 14=kk)) (hleft0:0<left) (hdeep:Hid (deep=5-n)) (hn:n<=4) (hd4:dim<=4) (hs:s<X.heap.size) (hl:Hid (aR X s lv zs)) (he:Hid (bz X s ev env)) (hp:p+(3*aP n+3)<=900000) (hleft:-900000<=left-(3*(aP n:Int)+3)) (hleft2:left<=900000)
 (hd1:dim=1) (hkk:kk=2):(Calls prog 31 #[.pointer (some ⟨s,0,none⟩),.int .i64 dim,.int .i64 deep,ev] (X.src s lv p left) (aJ s lv X (E,p',l'))):=by
 subst hd1;subst hkk;have hpr:bG zs p 1=some (5,[1],p+1):=by simp [bG,HK.out]
 have hF:=bL zs env n _ p left hleft0 hpr;rw [hr.out]at hF;generalize hll:bJ (aS zs env n) [1] (p+1) (left-2)=rr at hF;obtain⟨ll,pp,le⟩:=rr;simp only [Prod.mk.injEq]at hF;obtain⟨rfl,rfl,rfl⟩:=hF;have HLL:=yq hll;clear hll hpr;have h6:deep<6:=by have:=hdeep.out;omega
 have hc8:=bX n
 go_enter func31,ntmps31
 go_wp2_with fail
 refine(bg s lv zs p p (left-2) _ _ rfl zg zi zj zb zb).mono ?_;rintro e w' ⟨rfl,n1,rfl⟩;rw [HK.out]
 go_wp2_with fail
 refine(cz s lv ev zs env n IH _ _ [1] _ (p+1) ((p:Int)+1) _ ll p' l' _ HLL zb zb zw zb zg zi (yq zj) (yq zo) zb zb zb ze ze zb (LY zb) (cO _ [1] _ _ ze)).mono ?_;rintro e w' ⟨v,bs,d,rfl,rfl,hrep⟩;have H1:=yq hrep;obtain⟨va,vc,hv⟩:=hrep.form;subst hv;clear hrep
 go_wp2_with fail
 go_returns
 refine aJ.of_eq (P':=(p':Int)) rfl rfl rfl (.of_below au) (((H1.out.eqw (w':=(((X.src s lv (p':Int) l').alloc (.cells #[.int .i64 0,.int .i64 0,.int .i64 0,.int .i64 0,.string ⟨#[]⟩,.slice none 0 0] 27)).alloc (.cells #[.int .i64 1] 3)).grow bs d) zr).lift0 ?_ ?_ d).mono ?_)
 all_goals first
  |(intro b hb;simp at hb;omega)
  |(simp;done)
  |(simp;omega)
theorem OV
 (s:Nat) (lv ev:Value) (zs:List Int) (env:List (ByteArray × Int)) (n:Nat) (IH:Hid (bT s lv ev zs env n)) (dim:Int) (p:Nat) (left deep:Int) (E:Ex) (p':Nat) (l':Int) (kk:Int) (X:World) (hr:Hid (aS zs env (n+1) dim p left=(E,p',l'))) (HK:Hid (aC zs p 14=kk)) (hleft0:0<left) (hdeep:Hid (deep=5-n)) (hn:n<=4) (hd4:dim<=4) (hs:s<X.heap.size) (hl:Hid (aR X s lv zs)) (he:Hid (bz X s ev env)) (hp:p+(3*aP n+3)<=900000) (hleft:-900000<=left-(3*(aP n:Int)+3)) (hleft2:left<=900000)
 (hd1:dim=1) (hkk:kk=3):(Calls prog 31 #[.pointer (some ⟨s,0,none⟩),.int .i64 dim,.int .i64 deep,ev] (X.src s lv p left) (aJ s lv X (E,p',l'))):=by
 subst hd1;subst hkk;have hpr:bG zs p 1=some (21,[1,1,1],p+1):=by simp [bG,HK.out]
 have hF:=bL zs env n _ p left hleft0 hpr;rw [hr.out]at hF;generalize hll:bJ (aS zs env n) [1,1,1] (p+1) (left-2)=rr at hF;obtain⟨ll,pp,le⟩:=rr;simp only [Prod.mk.injEq]at hF;obtain⟨rfl,rfl,rfl⟩:=hF;have HLL:=yq hll;clear hll hpr;have h6:deep<6:=by have:=hdeep.out;omega
 have hc8:=bX n
 go_enter func31,ntmps31
 go_wp2_with fail
 refine(bg s lv zs p p (left-2) _ _ rfl zg zi zj zb zb).mono ?_;rintro e w' ⟨rfl,n1,rfl⟩;rw [HK.out]
 go_wp2_with fail
 refine(cz s lv ev zs env n IH _ _ [1,1,1] _ (p+1) ((p:Int)+1) _ ll p' l' _ HLL zb zb zw zb zg zi (yq zj) (yq zo) zb zb zb ze ze zb (PK zb zb zb) (cO _ [1,1,1] _ _ ze)).mono ?_;rintro e w' ⟨v,bs,d,rfl,rfl,hrep⟩;have H1:=yq hrep;obtain⟨va,vc,hv⟩:=hrep.form;subst hv;clear hrep
 go_wp2_with fail
 go_returns
 refine aJ.of_eq (P':=(p':Int)) rfl rfl rfl (.of_below au) (((H1.out.eqw (w':=(((X.src s lv (p':Int) l').alloc (.cells #[.int .i64 0,.int .i64 0,.int .i64 0,.int .i64 0,.string ⟨#[]⟩,.slice none 0 0] 27)).alloc (.cells #[.int .i64 1,.int .i64 1,.int .i64 1] 3)).grow bs d) zr).lift0 ?_ ?_ d).mono ?_)
 all_goals first
  |(intro b hb;simp at hb;omega)
  |(simp;done)
  |(simp;omega)
theorem IR
 (s:Nat) (lv ev:Value) (zs:List Int) (env:List (ByteArray × Int)) (n:Nat) (IH:Hid (bT s lv ev zs env n)) (dim:Int) (p:Nat) (left deep:Int) (E:Ex) (p':Nat) (l':Int) (kk:Int) (X:World) (hr:Hid (aS zs env (n+1) dim p left=(E,p',l'))) (HK:Hid (aC zs p 14=kk)) (hleft0:0<left) (hdeep:Hid (deep=5-n)) (hn:n<=4) (hd4:dim<=4) (hs:s<X.heap.size) (hl:Hid (aR X s lv zs)) (he:Hid (bz X s ev env)) (hp:p+(3*aP n+3)<=900000) (hleft:-900000<=left-(3*(aP n:Int)+3)) (hleft2:left<=900000)
 (hd1:dim=1) (hkk:kk=4\/kk=5\/kk=6\/kk=7\/kk=8):(Calls prog 31 #[.pointer (some ⟨s,0,none⟩),.int .i64 dim,.int .i64 deep,ev] (X.src s lv p left) (aJ s lv X (E,p',l'))):=by
 subst hd1;have hb1:=bV zs (p+1) 3 zb;have hb2:=bV zs (p+2) 6 zb
 have hpr0:bG zs p 1=some (11+aC zs (p+2) 6,[2+aC zs (p+1) 3,2+aC zs (p+1) 3],p+3):=by
  rcases hkk with rfl|rfl|rfl|rfl|rfl<;>simp [bG,HK.out]
 generalize hA:aC zs (p+1) 3=a at hb1 hpr0;generalize hC:aC zs (p+2) 6=c at hb2 hpr0;have HA:=yq hA;have HC:=yq hC;clear hA hC;have hpr:=hpr0;clear hpr0;have hF:=bL zs env n _ p left hleft0 hpr;rw [hr.out]at hF;generalize hll:bJ (aS zs env n) [2+a,2+a] (p+3) (left-2)=rr at hF;obtain⟨ll,pp,le⟩:=rr;simp only [Prod.mk.injEq]at hF;obtain⟨rfl,rfl,rfl⟩:=hF;have HLL:=yq hll;clear hll hpr;rcases hkk with rfl|rfl|rfl|rfl|rfl
 all_goals
  have h6:deep<6:=by have:=hdeep.out;omega
  have hc8:=bX n
  go_enter func31,ntmps31
  go_wp2_with fail
  refine(bg s lv zs p p (left-2) _ _ rfl zg zi zj zb zb).mono ?_;rintro e w' ⟨rfl,n1,rfl⟩;rw [HK.out]
  go_wp2_with fail
  refine(bg s lv zs (p+1) (p+1) (left-2) _ _ ze zg zi zj zb zb).mono ?_;rintro e w' ⟨rfl,n2,rfl⟩;rw [HA.out]
  go_wp2_with fail
  refine(bg s lv zs (p+2) (p+1+1) (left-2) _ _ zb zg zi zj zb zb).mono ?_;rintro e w' ⟨rfl,n3,rfl⟩;rw [HC.out]
  go_wp2_with fail
  refine(cz s lv ev zs env n IH _ _ [2+a,2+a] _ (p+3) ((p:Int)+1+1+1) _ ll p' l' _ HLL zb zb zw zb zg zi (yq zj) (yq zo) zb zb zb ze ze zb (l7 zb zb) (cO _ [2+a,2+a] _ _ ze)).mono ?_;rintro e w' ⟨v,bs,d,rfl,rfl,hrep⟩;have H1:=yq hrep;obtain⟨va,vc,hv⟩:=hrep.form;subst hv;clear hrep
  go_wp2_with fail
  go_returns
  refine aJ.of_eq (P':=(p':Int)) rfl rfl rfl (.of_below au) (((H1.out.eqw (w':=(((X.src s lv (p':Int) l').alloc (.cells #[.int .i64 0,.int .i64 0,.int .i64 0,.int .i64 0,.string ⟨#[]⟩,.slice none 0 0] 27)).alloc (.cells #[.int .i64 (2+a),.int .i64 (2+a)] 3)).grow bs d) zr).lift0 ?_ ?_ d).mono ?_)
  all_goals first
   |(intro b hb;simp at hb;omega)
   |(simp;done)
   |(simp;omega)
theorem EK
 (s:Nat) (lv ev:Value) (zs:List Int) (env:List (ByteArray × Int)) (n:Nat) (IH:Hid (bT s lv ev zs env n)) (dim:Int) (p:Nat) (left deep:Int) (E:Ex) (p':Nat) (l':Int) (kk:Int) (X:World) (hr:Hid (aS zs env (n+1) dim p left=(E,p',l'))) (HK:Hid (aC zs p 14=kk)) (hleft0:0<left) (hdeep:Hid (deep=5-n)) (hn:n<=4) (hd4:dim<=4) (hs:s<X.heap.size) (hl:Hid (aR X s lv zs)) (he:Hid (bz X s ev env)) (hp:p+(3*aP n+3)<=900000) (hleft:-900000<=left-(3*(aP n:Int)+3)) (hleft2:left<=900000)
 (hd1:dim=1) (hkk:kk=9\/kk=10\/kk=11\/kk=12\/kk=13):(Calls prog 31 #[.pointer (some ⟨s,0,none⟩),.int .i64 dim,.int .i64 deep,ev] (X.src s lv p left) (aJ s lv X (E,p',l'))):=by
 subst hd1
 have hpr:bG zs p 1=none:=by
  rcases hkk with rfl|rfl|rfl|rfl|rfl<;>simp [bG,HK.out]
 have hF:=nL zs env n 1 p left hleft0 hpr;rw [hr.out]at hF;have HL:=yq hF.symm;clear hF hpr;rcases hkk with rfl|rfl|rfl|rfl|rfl
 all_goals
  have h6:deep<6:=by have:=hdeep.out;omega
  have hc8:=bX n
  go_enter func31,ntmps31
  go_wp2_with fail
  refine(bg s lv zs p p (left-2) _ _ rfl zg zi zj zb zb).mono ?_;rintro e w' ⟨rfl,n1,rfl⟩;rw [HK.out]
  go_wp2_with fail
  refine(kz s lv zs (p+1) _ (left-2) _ _ env _ rfl zb zb zg zi (yq zj) (yq zo) zb zb zb).mono ?_;rintro e w' ⟨v,bs,d,rfl,rfl,hrep⟩;rw [HL.out]at hrep;simp only [HL.out];have H1:=yq hrep;obtain⟨va,vc,hv⟩:=hrep.form;subst hv;clear hrep
  go_wp2_with fail
  go_returns
  refine aJ.of_eq (P':=(p':Int)) rfl rfl rfl (.of_below au) (((H1.out.eqw (w':=((X.src s lv (p':Int) l').alloc (.cells #[.int .i64 0,.int .i64 0,.int .i64 0,.int .i64 0,.string ⟨#[]⟩,.slice none 0 0] 27)).grow bs d) zr).lift0 ?_ ?_ d).mono ?_)
  all_goals first
   |(intro b hb;simp at hb;omega)
   |(simp;done)
   |(simp;omega)

theorem OU
 (s:Nat) (lv ev:Value) (zs:List Int) (env:List (ByteArray × Int)) (n:Nat) (IH:Hid (bT s lv ev zs env n)) (dim:Int) (p:Nat) (left deep:Int) (E:Ex) (p':Nat) (l':Int) (kk:Int) (X:World) (hr:Hid (aS zs env (n+1) dim p left=(E,p',l'))) (HK:Hid (aC zs p 14=kk)) (hleft0:0<left) (hdeep:Hid (deep=5-n)) (hn:n<=4) (hd4:dim<=4) (hs:s<X.heap.size) (hl:Hid (aR X s lv zs)) (he:Hid (bz X s ev env)) (hp:p+(3*aP n+3)<=900000) (hleft:-900000<=left-(3*(aP n:Int)+3)) (hleft2:left<=900000)
 (hd1:2<=dim) (hkk:kk=0):(Calls prog 31 #[.pointer (some ⟨s,0,none⟩),.int .i64 dim,.int .i64 deep,ev] (X.src s lv p left) (aJ s lv X (E,p',l'))):=by
 subst hkk;have hne:¬dim=1:=by omega
 have hpr:bG zs p dim=some (7,[dim,dim],p+1):=by simp [bG,HK.out,hne]
 have hne1:(dim==1)=false:=by simp;omega
 clear hne;have hF:=bL zs env n _ p left hleft0 hpr;rw [hr.out]at hF;generalize hll:bJ (aS zs env n) [dim,dim] (p+1) (left-2)=rr at hF;obtain⟨ll,pp,le⟩:=rr;simp only [Prod.mk.injEq]at hF;obtain⟨rfl,rfl,rfl⟩:=hF;have HLL:=yq hll;clear hll hpr;have h6:deep<6:=by have:=hdeep.out;omega
 have hc8:=bX n
 go_enter func31,ntmps31
 go_wp2_with fail
 refine(bg s lv zs p p (left-2) _ _ rfl zg zi zj zb zb).mono ?_;rintro e w' ⟨rfl,n1,rfl⟩;rw [HK.out]
 go_wp2_with fail
 refine(cz s lv ev zs env n IH _ _ [dim,dim] _ (p+1) ((p:Int)+1) _ ll p' l' _ HLL zb zb zw zb zg zi (yq zj) (yq zo) zb zb zb ze ze zb (l7 zb zb) (cO _ [dim,dim] _ _ ze)).mono ?_;rintro e w' ⟨v,bs,d,rfl,rfl,hrep⟩;have H1:=yq hrep;obtain⟨va,vc,hv⟩:=hrep.form;subst hv;clear hrep
 go_wp2_with fail
 go_returns
 refine aJ.of_eq (P':=(p':Int)) rfl rfl rfl (.of_below au) (((H1.out.eqw (w':=((((X.src s lv (p':Int) l').alloc (.cells #[.int .i64 0,.int .i64 0,.int .i64 0,.int .i64 0,.string ⟨#[]⟩,.slice none 0 0] 27)).alloc (.cells #[.int .i64 7,.int .i64 8,.int .i64 19,.int .i64 20] 3)).alloc (.cells #[.int .i64 dim,.int .i64 dim] 3)).grow bs d) zr).lift0 ?_ ?_ d).mono ?_)
 all_goals first
  |(intro b hb;simp at hb;omega)
  |(simp;done)
  |(simp;omega)
theorem OT
 (s:Nat) (lv ev:Value) (zs:List Int) (env:List (ByteArray × Int)) (n:Nat) (IH:Hid (bT s lv ev zs env n)) (dim:Int) (p:Nat) (left deep:Int) (E:Ex) (p':Nat) (l':Int) (kk:Int) (X:World) (hr:Hid (aS zs env (n+1) dim p left=(E,p',l'))) (HK:Hid (aC zs p 14=kk)) (hleft0:0<left) (hdeep:Hid (deep=5-n)) (hn:n<=4) (hd4:dim<=4) (hs:s<X.heap.size) (hl:Hid (aR X s lv zs)) (he:Hid (bz X s ev env)) (hp:p+(3*aP n+3)<=900000) (hleft:-900000<=left-(3*(aP n:Int)+3)) (hleft2:left<=900000)
 (hd1:2<=dim) (hkk:kk=1):(Calls prog 31 #[.pointer (some ⟨s,0,none⟩),.int .i64 dim,.int .i64 deep,ev] (X.src s lv p left) (aJ s lv X (E,p',l'))):=by
 subst hkk;have hne:¬dim=1:=by omega
 have hpr:bG zs p dim=some (8,[dim,dim],p+1):=by simp [bG,HK.out,hne]
 have hne1:(dim==1)=false:=by simp;omega
 clear hne;have hF:=bL zs env n _ p left hleft0 hpr;rw [hr.out]at hF;generalize hll:bJ (aS zs env n) [dim,dim] (p+1) (left-2)=rr at hF;obtain⟨ll,pp,le⟩:=rr;simp only [Prod.mk.injEq]at hF;obtain⟨rfl,rfl,rfl⟩:=hF;have HLL:=yq hll;clear hll hpr;have h6:deep<6:=by have:=hdeep.out;omega
 have hc8:=bX n
 go_enter func31,ntmps31
 go_wp2_with fail
 refine(bg s lv zs p p (left-2) _ _ rfl zg zi zj zb zb).mono ?_;rintro e w' ⟨rfl,n1,rfl⟩;rw [HK.out]
 go_wp2_with fail
 refine(cz s lv ev zs env n IH _ _ [dim,dim] _ (p+1) ((p:Int)+1) _ ll p' l' _ HLL zb zb zw zb zg zi (yq zj) (yq zo) zb zb zb ze ze zb (l7 zb zb) (cO _ [dim,dim] _ _ ze)).mono ?_;rintro e w' ⟨v,bs,d,rfl,rfl,hrep⟩;have H1:=yq hrep;obtain⟨va,vc,hv⟩:=hrep.form;subst hv;clear hrep
 go_wp2_with fail
 go_returns
 refine aJ.of_eq (P':=(p':Int)) rfl rfl rfl (.of_below au) (((H1.out.eqw (w':=((((X.src s lv (p':Int) l').alloc (.cells #[.int .i64 0,.int .i64 0,.int .i64 0,.int .i64 0,.string ⟨#[]⟩,.slice none 0 0] 27)).alloc (.cells #[.int .i64 7,.int .i64 8,.int .i64 19,.int .i64 20] 3)).alloc (.cells #[.int .i64 dim,.int .i64 dim] 3)).grow bs d) zr).lift0 ?_ ?_ d).mono ?_)
 all_goals first
  |(intro b hb;simp at hb;omega)
  |(simp;done)
  |(simp;omega)
theorem OQ
 (s:Nat) (lv ev:Value) (zs:List Int) (env:List (ByteArray × Int)) (n:Nat) (IH:Hid (bT s lv ev zs env n)) (dim:Int) (p:Nat) (left deep:Int) (E:Ex) (p':Nat) (l':Int) (kk:Int) (X:World) (hr:Hid (aS zs env (n+1) dim p left=(E,p',l'))) (HK:Hid (aC zs p 14=kk)) (hleft0:0<left) (hdeep:Hid (deep=5-n)) (hn:n<=4) (hd4:dim<=4) (hs:s<X.heap.size) (hl:Hid (aR X s lv zs)) (he:Hid (bz X s ev env)) (hp:p+(3*aP n+3)<=900000) (hleft:-900000<=left-(3*(aP n:Int)+3)) (hleft2:left<=900000)
 (hd1:2<=dim) (hkk:kk=2):(Calls prog 31 #[.pointer (some ⟨s,0,none⟩),.int .i64 dim,.int .i64 deep,ev] (X.src s lv p left) (aJ s lv X (E,p',l'))):=by
 subst hkk;have hne:¬dim=1:=by omega
 have hpr:bG zs p dim=some (19,[dim,dim],p+1):=by simp [bG,HK.out,hne]
 have hne1:(dim==1)=false:=by simp;omega
 clear hne;have hF:=bL zs env n _ p left hleft0 hpr;rw [hr.out]at hF;generalize hll:bJ (aS zs env n) [dim,dim] (p+1) (left-2)=rr at hF;obtain⟨ll,pp,le⟩:=rr;simp only [Prod.mk.injEq]at hF;obtain⟨rfl,rfl,rfl⟩:=hF;have HLL:=yq hll;clear hll hpr;have h6:deep<6:=by have:=hdeep.out;omega
 have hc8:=bX n
 go_enter func31,ntmps31
 go_wp2_with fail
 refine(bg s lv zs p p (left-2) _ _ rfl zg zi zj zb zb).mono ?_;rintro e w' ⟨rfl,n1,rfl⟩;rw [HK.out]
 go_wp2_with fail
 refine(cz s lv ev zs env n IH _ _ [dim,dim] _ (p+1) ((p:Int)+1) _ ll p' l' _ HLL zb zb zw zb zg zi (yq zj) (yq zo) zb zb zb ze ze zb (l7 zb zb) (cO _ [dim,dim] _ _ ze)).mono ?_;rintro e w' ⟨v,bs,d,rfl,rfl,hrep⟩;have H1:=yq hrep;obtain⟨va,vc,hv⟩:=hrep.form;subst hv;clear hrep
 go_wp2_with fail
 go_returns
 refine aJ.of_eq (P':=(p':Int)) rfl rfl rfl (.of_below au) (((H1.out.eqw (w':=((((X.src s lv (p':Int) l').alloc (.cells #[.int .i64 0,.int .i64 0,.int .i64 0,.int .i64 0,.string ⟨#[]⟩,.slice none 0 0] 27)).alloc (.cells #[.int .i64 7,.int .i64 8,.int .i64 19,.int .i64 20] 3)).alloc (.cells #[.int .i64 dim,.int .i64 dim] 3)).grow bs d) zr).lift0 ?_ ?_ d).mono ?_)
 all_goals first
  |(intro b hb;simp at hb;omega)
  |(simp;done)
  |(simp;omega)
theorem OP
 (s:Nat) (lv ev:Value) (zs:List Int) (env:List (ByteArray × Int)) (n:Nat) (IH:Hid (bT s lv ev zs env n)) (dim:Int) (p:Nat) (left deep:Int) (E:Ex) (p':Nat) (l':Int) (kk:Int) (X:World) (hr:Hid (aS zs env (n+1) dim p left=(E,p',l'))) (HK:Hid (aC zs p 14=kk)) (hleft0:0<left) (hdeep:Hid (deep=5-n)) (hn:n<=4) (hd4:dim<=4) (hs:s<X.heap.size) (hl:Hid (aR X s lv zs)) (he:Hid (bz X s ev env)) (hp:p+(3*aP n+3)<=900000) (hleft:-900000<=left-(3*(aP n:Int)+3)) (hleft2:left<=900000)
 (hd1:2<=dim) (hkk:kk=3):(Calls prog 31 #[.pointer (some ⟨s,0,none⟩),.int .i64 dim,.int .i64 deep,ev] (X.src s lv p left) (aJ s lv X (E,p',l'))):=by
 subst hkk;have hne:¬dim=1:=by omega
 have hpr:bG zs p dim=some (20,[dim,dim],p+1):=by simp [bG,HK.out,hne]
 have hne1:(dim==1)=false:=by simp;omega
 clear hne;have hF:=bL zs env n _ p left hleft0 hpr;rw [hr.out]at hF;generalize hll:bJ (aS zs env n) [dim,dim] (p+1) (left-2)=rr at hF;obtain⟨ll,pp,le⟩:=rr;simp only [Prod.mk.injEq]at hF;obtain⟨rfl,rfl,rfl⟩:=hF;have HLL:=yq hll;clear hll hpr;have h6:deep<6:=by have:=hdeep.out;omega
 have hc8:=bX n
 go_enter func31,ntmps31
 go_wp2_with fail
 refine(bg s lv zs p p (left-2) _ _ rfl zg zi zj zb zb).mono ?_;rintro e w' ⟨rfl,n1,rfl⟩;rw [HK.out]
 go_wp2_with fail
 refine(cz s lv ev zs env n IH _ _ [dim,dim] _ (p+1) ((p:Int)+1) _ ll p' l' _ HLL zb zb zw zb zg zi (yq zj) (yq zo) zb zb zb ze ze zb (l7 zb zb) (cO _ [dim,dim] _ _ ze)).mono ?_;rintro e w' ⟨v,bs,d,rfl,rfl,hrep⟩;have H1:=yq hrep;obtain⟨va,vc,hv⟩:=hrep.form;subst hv;clear hrep
 go_wp2_with fail
 go_returns
 refine aJ.of_eq (P':=(p':Int)) rfl rfl rfl (.of_below au) (((H1.out.eqw (w':=((((X.src s lv (p':Int) l').alloc (.cells #[.int .i64 0,.int .i64 0,.int .i64 0,.int .i64 0,.string ⟨#[]⟩,.slice none 0 0] 27)).alloc (.cells #[.int .i64 7,.int .i64 8,.int .i64 19,.int .i64 20] 3)).alloc (.cells #[.int .i64 dim,.int .i64 dim] 3)).grow bs d) zr).lift0 ?_ ?_ d).mono ?_)
 all_goals first
  |(intro b hb;simp at hb;omega)
  |(simp;done)
  |(simp;omega)
theorem OO
 (s:Nat) (lv ev:Value) (zs:List Int) (env:List (ByteArray × Int)) (n:Nat) (IH:Hid (bT s lv ev zs env n)) (dim:Int) (p:Nat) (left deep:Int) (E:Ex) (p':Nat) (l':Int) (kk:Int) (X:World) (hr:Hid (aS zs env (n+1) dim p left=(E,p',l'))) (HK:Hid (aC zs p 14=kk)) (hleft0:0<left) (hdeep:Hid (deep=5-n)) (hn:n<=4) (hd4:dim<=4) (hs:s<X.heap.size) (hl:Hid (aR X s lv zs)) (he:Hid (bz X s ev env)) (hp:p+(3*aP n+3)<=900000) (hleft:-900000<=left-(3*(aP n:Int)+3)) (hleft2:left<=900000)
 (hd1:2<=dim) (hkk:kk=4):(Calls prog 31 #[.pointer (some ⟨s,0,none⟩),.int .i64 dim,.int .i64 deep,ev] (X.src s lv p left) (aJ s lv X (E,p',l'))):=by
 subst hkk;have hne:¬dim=1:=by omega
 have hpr:bG zs p dim=some (21,[1,dim,dim],p+1):=by simp [bG,HK.out,hne]
 have hne1:(dim==1)=false:=by simp;omega
 clear hne;have hF:=bL zs env n _ p left hleft0 hpr;rw [hr.out]at hF;generalize hll:bJ (aS zs env n) [1,dim,dim] (p+1) (left-2)=rr at hF;obtain⟨ll,pp,le⟩:=rr;simp only [Prod.mk.injEq]at hF;obtain⟨rfl,rfl,rfl⟩:=hF;have HLL:=yq hll;clear hll hpr;have h6:deep<6:=by have:=hdeep.out;omega
 have hc8:=bX n
 go_enter func31,ntmps31
 go_wp2_with fail
 refine(bg s lv zs p p (left-2) _ _ rfl zg zi zj zb zb).mono ?_;rintro e w' ⟨rfl,n1,rfl⟩;rw [HK.out]
 go_wp2_with fail
 refine(cz s lv ev zs env n IH _ _ [1,dim,dim] _ (p+1) ((p:Int)+1) _ ll p' l' _ HLL zb zb zw zb zg zi (yq zj) (yq zo) zb zb zb ze ze zb (PK zb zb zb) (cO _ [1,dim,dim] _ _ ze)).mono ?_;rintro e w' ⟨v,bs,d,rfl,rfl,hrep⟩;have H1:=yq hrep;obtain⟨va,vc,hv⟩:=hrep.form;subst hv;clear hrep
 go_wp2_with fail
 go_returns
 refine aJ.of_eq (P':=(p':Int)) rfl rfl rfl (.of_below au) (((H1.out.eqw (w':=((((X.src s lv (p':Int) l').alloc (.cells #[.int .i64 0,.int .i64 0,.int .i64 0,.int .i64 0,.string ⟨#[]⟩,.slice none 0 0] 27))).alloc (.cells #[.int .i64 1,.int .i64 dim,.int .i64 dim] 3)).grow bs d) zr).lift0 ?_ ?_ d).mono ?_)
 all_goals first
  |(intro b hb;simp at hb;omega)
  |(simp;done)
  |(simp;omega)
theorem OM
 (s:Nat) (lv ev:Value) (zs:List Int) (env:List (ByteArray × Int)) (n:Nat) (IH:Hid (bT s lv ev zs env n)) (dim:Int) (p:Nat) (left deep:Int) (E:Ex) (p':Nat) (l':Int) (kk:Int) (X:World) (hr:Hid (aS zs env (n+1) dim p left=(E,p',l'))) (HK:Hid (aC zs p 14=kk)) (hleft0:0<left) (hdeep:Hid (deep=5-n)) (hn:n<=4) (hd4:dim<=4) (hs:s<X.heap.size) (hl:Hid (aR X s lv zs)) (he:Hid (bz X s ev env)) (hp:p+(3*aP n+3)<=900000) (hleft:-900000<=left-(3*(aP n:Int)+3)) (hleft2:left<=900000)
 (hd1:2<=dim) (hkk:kk=5):(Calls prog 31 #[.pointer (some ⟨s,0,none⟩),.int .i64 dim,.int .i64 deep,ev] (X.src s lv p left) (aJ s lv X (E,p',l'))):=by
 subst hkk;have hne:¬dim=1:=by omega
 have hpr:bG zs p dim=some (4,[dim],p+1):=by simp [bG,HK.out,hne]
 have hne1:(dim==1)=false:=by simp;omega
 clear hne;have hF:=bL zs env n _ p left hleft0 hpr;rw [hr.out]at hF;generalize hll:bJ (aS zs env n) [dim] (p+1) (left-2)=rr at hF;obtain⟨ll,pp,le⟩:=rr;simp only [Prod.mk.injEq]at hF;obtain⟨rfl,rfl,rfl⟩:=hF;have HLL:=yq hll;clear hll hpr;have h6:deep<6:=by have:=hdeep.out;omega
 have hc8:=bX n
 go_enter func31,ntmps31
 go_wp2_with fail
 refine(bg s lv zs p p (left-2) _ _ rfl zg zi zj zb zb).mono ?_;rintro e w' ⟨rfl,n1,rfl⟩;rw [HK.out]
 go_wp2_with fail
 refine(cz s lv ev zs env n IH _ _ [dim] _ (p+1) ((p:Int)+1) _ ll p' l' _ HLL zb zb zw zb zg zi (yq zj) (yq zo) zb zb zb ze ze zb (LY zb) (cO _ [dim] _ _ ze)).mono ?_;rintro e w' ⟨v,bs,d,rfl,rfl,hrep⟩;have H1:=yq hrep;obtain⟨va,vc,hv⟩:=hrep.form;subst hv;clear hrep
 go_wp2_with fail
 go_returns
 refine aJ.of_eq (P':=(p':Int)) rfl rfl rfl (.of_below au) (((H1.out.eqw (w':=((((X.src s lv (p':Int) l').alloc (.cells #[.int .i64 0,.int .i64 0,.int .i64 0,.int .i64 0,.string ⟨#[]⟩,.slice none 0 0] 27))).alloc (.cells #[.int .i64 dim] 3)).grow bs d) zr).lift0 ?_ ?_ d).mono ?_)
 all_goals first
  |(intro b hb;simp at hb;omega)
  |(simp;done)
  |(simp;omega)
theorem OL
 (s:Nat) (lv ev:Value) (zs:List Int) (env:List (ByteArray × Int)) (n:Nat) (IH:Hid (bT s lv ev zs env n)) (dim:Int) (p:Nat) (left deep:Int) (E:Ex) (p':Nat) (l':Int) (kk:Int) (X:World) (hr:Hid (aS zs env (n+1) dim p left=(E,p',l'))) (HK:Hid (aC zs p 14=kk)) (hleft0:0<left) (hdeep:Hid (deep=5-n)) (hn:n<=4) (hd4:dim<=4) (hs:s<X.heap.size) (hl:Hid (aR X s lv zs)) (he:Hid (bz X s ev env)) (hp:p+(3*aP n+3)<=900000) (hleft:-900000<=left-(3*(aP n:Int)+3)) (hleft2:left<=900000)
 (hd1:2<=dim) (hkk:kk=6):(Calls prog 31 #[.pointer (some ⟨s,0,none⟩),.int .i64 dim,.int .i64 deep,ev] (X.src s lv p left) (aJ s lv X (E,p',l'))):=by
 subst hkk;have hne:¬dim=1:=by omega
 have hpr:bG zs p dim=some (6,[dim],p+1):=by simp [bG,HK.out,hne]
 have hne1:(dim==1)=false:=by simp;omega
 clear hne;have hF:=bL zs env n _ p left hleft0 hpr;rw [hr.out]at hF;generalize hll:bJ (aS zs env n) [dim] (p+1) (left-2)=rr at hF;obtain⟨ll,pp,le⟩:=rr;simp only [Prod.mk.injEq]at hF;obtain⟨rfl,rfl,rfl⟩:=hF;have HLL:=yq hll;clear hll hpr;have h6:deep<6:=by have:=hdeep.out;omega
 have hc8:=bX n
 go_enter func31,ntmps31
 go_wp2_with fail
 refine(bg s lv zs p p (left-2) _ _ rfl zg zi zj zb zb).mono ?_;rintro e w' ⟨rfl,n1,rfl⟩;rw [HK.out]
 go_wp2_with fail
 refine(cz s lv ev zs env n IH _ _ [dim] _ (p+1) ((p:Int)+1) _ ll p' l' _ HLL zb zb zw zb zg zi (yq zj) (yq zo) zb zb zb ze ze zb (LY zb) (cO _ [dim] _ _ ze)).mono ?_;rintro e w' ⟨v,bs,d,rfl,rfl,hrep⟩;have H1:=yq hrep;obtain⟨va,vc,hv⟩:=hrep.form;subst hv;clear hrep
 go_wp2_with fail
 go_returns
 refine aJ.of_eq (P':=(p':Int)) rfl rfl rfl (.of_below au) (((H1.out.eqw (w':=((((X.src s lv (p':Int) l').alloc (.cells #[.int .i64 0,.int .i64 0,.int .i64 0,.int .i64 0,.string ⟨#[]⟩,.slice none 0 0] 27))).alloc (.cells #[.int .i64 dim] 3)).grow bs d) zr).lift0 ?_ ?_ d).mono ?_)
 all_goals first
  |(intro b hb;simp at hb;omega)
  |(simp;done)
  |(simp;omega)
theorem OJ
 (s:Nat) (lv ev:Value) (zs:List Int) (env:List (ByteArray × Int)) (n:Nat) (IH:Hid (bT s lv ev zs env n)) (dim:Int) (p:Nat) (left deep:Int) (E:Ex) (p':Nat) (l':Int) (kk:Int) (X:World) (hr:Hid (aS zs env (n+1) dim p left=(E,p',l'))) (HK:Hid (aC zs p 14=kk)) (hleft0:0<left) (hdeep:Hid (deep=5-n)) (hn:n<=4) (hd4:dim<=4) (hs:s<X.heap.size) (hl:Hid (aR X s lv zs)) (he:Hid (bz X s ev env)) (hp:p+(3*aP n+3)<=900000) (hleft:-900000<=left-(3*(aP n:Int)+3)) (hleft2:left<=900000)
 (hd1:2<=dim) (hkk:kk=7):(Calls prog 31 #[.pointer (some ⟨s,0,none⟩),.int .i64 dim,.int .i64 deep,ev] (X.src s lv p left) (aJ s lv X (E,p',l'))):=by
 subst hkk;have hne:¬dim=1:=by omega
 have hpr:bG zs p dim=some (9,[2,dim],p+1):=by simp [bG,HK.out,hne]
 have hne1:(dim==1)=false:=by simp;omega
 clear hne;have hF:=bL zs env n _ p left hleft0 hpr;rw [hr.out]at hF;generalize hll:bJ (aS zs env n) [2,dim] (p+1) (left-2)=rr at hF;obtain⟨ll,pp,le⟩:=rr;simp only [Prod.mk.injEq]at hF;obtain⟨rfl,rfl,rfl⟩:=hF;have HLL:=yq hll;clear hll hpr;have h6:deep<6:=by have:=hdeep.out;omega
 have hc8:=bX n
 go_enter func31,ntmps31
 go_wp2_with fail
 refine(bg s lv zs p p (left-2) _ _ rfl zg zi zj zb zb).mono ?_;rintro e w' ⟨rfl,n1,rfl⟩;rw [HK.out]
 go_wp2_with fail
 refine(cz s lv ev zs env n IH _ _ [2,dim] _ (p+1) ((p:Int)+1) _ ll p' l' _ HLL zb zb zw zb zg zi (yq zj) (yq zo) zb zb zb ze ze zb (l7 zb zb) (cO _ [2,dim] _ _ ze)).mono ?_;rintro e w' ⟨v,bs,d,rfl,rfl,hrep⟩;have H1:=yq hrep;obtain⟨va,vc,hv⟩:=hrep.form;subst hv;clear hrep
 go_wp2_with fail
 go_returns
 refine aJ.of_eq (P':=(p':Int)) rfl rfl rfl (.of_below au) (((H1.out.eqw (w':=((((X.src s lv (p':Int) l').alloc (.cells #[.int .i64 0,.int .i64 0,.int .i64 0,.int .i64 0,.string ⟨#[]⟩,.slice none 0 0] 27))).alloc (.cells #[.int .i64 2,.int .i64 dim] 3)).grow bs d) zr).lift0 ?_ ?_ d).mono ?_)
 all_goals first
  |(intro b hb;simp at hb;omega)
  |(simp;done)
  |(simp;omega)
theorem OI
 (s:Nat) (lv ev:Value) (zs:List Int) (env:List (ByteArray × Int)) (n:Nat) (IH:Hid (bT s lv ev zs env n)) (dim:Int) (p:Nat) (left deep:Int) (E:Ex) (p':Nat) (l':Int) (kk:Int) (X:World) (hr:Hid (aS zs env (n+1) dim p left=(E,p',l'))) (HK:Hid (aC zs p 14=kk)) (hleft0:0<left) (hdeep:Hid (deep=5-n)) (hn:n<=4) (hd4:dim<=4) (hs:s<X.heap.size) (hl:Hid (aR X s lv zs)) (he:Hid (bz X s ev env)) (hp:p+(3*aP n+3)<=900000) (hleft:-900000<=left-(3*(aP n:Int)+3)) (hleft2:left<=900000)
 (hd1:2<=dim) (hkk:kk=8):(Calls prog 31 #[.pointer (some ⟨s,0,none⟩),.int .i64 dim,.int .i64 deep,ev] (X.src s lv p left) (aJ s lv X (E,p',l'))):=by
 subst hkk;have hne:¬dim=1:=by omega
 have hpr:bG zs p dim=some (9,[dim,2],p+1):=by simp [bG,HK.out,hne]
 have hne1:(dim==1)=false:=by simp;omega
 clear hne;have hF:=bL zs env n _ p left hleft0 hpr;rw [hr.out]at hF;generalize hll:bJ (aS zs env n) [dim,2] (p+1) (left-2)=rr at hF;obtain⟨ll,pp,le⟩:=rr;simp only [Prod.mk.injEq]at hF;obtain⟨rfl,rfl,rfl⟩:=hF;have HLL:=yq hll;clear hll hpr;have h6:deep<6:=by have:=hdeep.out;omega
 have hc8:=bX n
 go_enter func31,ntmps31
 go_wp2_with fail
 refine(bg s lv zs p p (left-2) _ _ rfl zg zi zj zb zb).mono ?_;rintro e w' ⟨rfl,n1,rfl⟩;rw [HK.out]
 go_wp2_with fail
 refine(cz s lv ev zs env n IH _ _ [dim,2] _ (p+1) ((p:Int)+1) _ ll p' l' _ HLL zb zb zw zb zg zi (yq zj) (yq zo) zb zb zb ze ze zb (l7 zb zb) (cO _ [dim,2] _ _ ze)).mono ?_;rintro e w' ⟨v,bs,d,rfl,rfl,hrep⟩;have H1:=yq hrep;obtain⟨va,vc,hv⟩:=hrep.form;subst hv;clear hrep
 go_wp2_with fail
 go_returns
 refine aJ.of_eq (P':=(p':Int)) rfl rfl rfl (.of_below au) (((H1.out.eqw (w':=((((X.src s lv (p':Int) l').alloc (.cells #[.int .i64 0,.int .i64 0,.int .i64 0,.int .i64 0,.string ⟨#[]⟩,.slice none 0 0] 27))).alloc (.cells #[.int .i64 dim,.int .i64 2] 3)).grow bs d) zr).lift0 ?_ ?_ d).mono ?_)
 all_goals first
  |(intro b hb;simp at hb;omega)
  |(simp;done)
  |(simp;omega)
theorem OH
 (s:Nat) (lv ev:Value) (zs:List Int) (env:List (ByteArray × Int)) (n:Nat) (IH:Hid (bT s lv ev zs env n)) (dim:Int) (p:Nat) (left deep:Int) (E:Ex) (p':Nat) (l':Int) (kk:Int) (X:World) (hr:Hid (aS zs env (n+1) dim p left=(E,p',l'))) (HK:Hid (aC zs p 14=kk)) (hleft0:0<left) (hdeep:Hid (deep=5-n)) (hn:n<=4) (hd4:dim<=4) (hs:s<X.heap.size) (hl:Hid (aR X s lv zs)) (he:Hid (bz X s ev env)) (hp:p+(3*aP n+3)<=900000) (hleft:-900000<=left-(3*(aP n:Int)+3)) (hleft2:left<=900000)
 (hd1:2<=dim) (hkk:kk=9):(Calls prog 31 #[.pointer (some ⟨s,0,none⟩),.int .i64 dim,.int .i64 deep,ev] (X.src s lv p left) (aJ s lv X (E,p',l'))):=by
 subst hkk;have hne:¬dim=1:=by omega
 have hpr:bG zs p dim=some (10,[dim,2],p+1):=by simp [bG,HK.out,hne]
 have hne1:(dim==1)=false:=by simp;omega
 clear hne;have hF:=bL zs env n _ p left hleft0 hpr;rw [hr.out]at hF;generalize hll:bJ (aS zs env n) [dim,2] (p+1) (left-2)=rr at hF;obtain⟨ll,pp,le⟩:=rr;simp only [Prod.mk.injEq]at hF;obtain⟨rfl,rfl,rfl⟩:=hF;have HLL:=yq hll;clear hll hpr;have h6:deep<6:=by have:=hdeep.out;omega
 have hc8:=bX n
 go_enter func31,ntmps31
 go_wp2_with fail
 refine(bg s lv zs p p (left-2) _ _ rfl zg zi zj zb zb).mono ?_;rintro e w' ⟨rfl,n1,rfl⟩;rw [HK.out]
 go_wp2_with fail
 refine(cz s lv ev zs env n IH _ _ [dim,2] _ (p+1) ((p:Int)+1) _ ll p' l' _ HLL zb zb zw zb zg zi (yq zj) (yq zo) zb zb zb ze ze zb (l7 zb zb) (cO _ [dim,2] _ _ ze)).mono ?_;rintro e w' ⟨v,bs,d,rfl,rfl,hrep⟩;have H1:=yq hrep;obtain⟨va,vc,hv⟩:=hrep.form;subst hv;clear hrep
 go_wp2_with fail
 go_returns
 refine aJ.of_eq (P':=(p':Int)) rfl rfl rfl (.of_below au) (((H1.out.eqw (w':=((((X.src s lv (p':Int) l').alloc (.cells #[.int .i64 0,.int .i64 0,.int .i64 0,.int .i64 0,.string ⟨#[]⟩,.slice none 0 0] 27))).alloc (.cells #[.int .i64 dim,.int .i64 2] 3)).grow bs d) zr).lift0 ?_ ?_ d).mono ?_)
 all_goals first
  |(intro b hb;simp at hb;omega)
  |(simp;done)
  |(simp;omega)
theorem LM
 (s:Nat) (lv ev:Value) (zs:List Int) (env:List (ByteArray × Int)) (n:Nat) (IH:Hid (bT s lv ev zs env n)) (dim:Int) (p:Nat) (left deep:Int) (E:Ex) (p':Nat) (l':Int) (kk:Int) (X:World) (hr:Hid (aS zs env (n+1) dim p left=(E,p',l'))) (HK:Hid (aC zs p 14=kk)) (hleft0:0<left) (hdeep:Hid (deep=5-n)) (hn:n<=4) (hd4:dim<=4) (hs:s<X.heap.size) (hl:Hid (aR X s lv zs)) (he:Hid (bz X s ev env)) (hp:p+(3*aP n+3)<=900000) (hleft:-900000<=left-(3*(aP n:Int)+3)) (hleft2:left<=900000)
 (hd1:dim=2) (hkk:kk=10):(Calls prog 31 #[.pointer (some ⟨s,0,none⟩),.int .i64 dim,.int .i64 deep,ev] (X.src s lv p left) (aJ s lv X (E,p',l'))):=by
 subst hkk hd1;have hb1:=bV zs (p+1) 3 zb;have hpr0:bG zs p 2=some (10,[2+aC zs (p+1) 3,2+aC zs (p+1) 3],p+2):=by simp [bG,HK.out]
 generalize hA:aC zs (p+1) 3=a at hb1 hpr0;have HA:=yq hA;clear hA;have hpr:=hpr0;clear hpr0;have hF:=bL zs env n _ p left hleft0 hpr;rw [hr.out]at hF;generalize hll:bJ (aS zs env n) [2+a,2+a] (p+2) (left-2)=rr at hF;obtain⟨ll,pp,le⟩:=rr;simp only [Prod.mk.injEq]at hF;obtain⟨rfl,rfl,rfl⟩:=hF;have HLL:=yq hll;clear hll hpr;have h6:deep<6:=by have:=hdeep.out;omega
 have hc8:=bX n
 go_enter func31,ntmps31
 go_wp2_with fail
 refine(bg s lv zs p p (left-2) _ _ rfl zg zi zj zb zb).mono ?_;rintro e w' ⟨rfl,n1,rfl⟩;rw [HK.out]
 go_wp2_with fail
 refine(bg s lv zs (p+1) (p+1) (left-2) _ _ ze zg zi zj zb zb).mono ?_;rintro e w' ⟨rfl,n2,rfl⟩;rw [HA.out]
 go_wp2_with fail
 refine(cz s lv ev zs env n IH _ _ [2+a,2+a] _ (p+2) ((p:Int)+1+1) _ ll p' l' _ HLL zb zb zw zb zg zi (yq zj) (yq zo) zb zb zb ze ze zb (l7 zb zb) (cO _ [2+a,2+a] _ _ ze)).mono ?_;rintro e w' ⟨v,bs,d,rfl,rfl,hrep⟩;have H1:=yq hrep;obtain⟨va,vc,hv⟩:=hrep.form;subst hv;clear hrep
 go_wp2_with fail
 go_returns
 refine aJ.of_eq (P':=(p':Int)) rfl rfl rfl (.of_below au) (((H1.out.eqw (w':=(((X.src s lv (p':Int) l').alloc (.cells #[.int .i64 0,.int .i64 0,.int .i64 0,.int .i64 0,.string ⟨#[]⟩,.slice none 0 0] 27)).alloc (.cells #[.int .i64 (2+a),.int .i64 (2+a)] 3)).grow bs d) zr).lift0 ?_ ?_ d).mono ?_)
 all_goals first
  |(intro b hb;simp at hb;omega)
  |(simp;done)
  |(simp;omega)
theorem EJ
 (s:Nat) (lv ev:Value) (zs:List Int) (env:List (ByteArray × Int)) (n:Nat) (IH:Hid (bT s lv ev zs env n)) (dim:Int) (p:Nat) (left deep:Int) (E:Ex) (p':Nat) (l':Int) (kk:Int) (X:World) (hr:Hid (aS zs env (n+1) dim p left=(E,p',l'))) (HK:Hid (aC zs p 14=kk)) (hleft0:0<left) (hdeep:Hid (deep=5-n)) (hn:n<=4) (hd4:dim<=4) (hs:s<X.heap.size) (hl:Hid (aR X s lv zs)) (he:Hid (bz X s ev env)) (hp:p+(3*aP n+3)<=900000) (hleft:-900000<=left-(3*(aP n:Int)+3)) (hleft2:left<=900000)
 (hd1:2<=dim) (hkk:kk=10/\dim≠2\/kk=11\/kk=12\/kk=13):(Calls prog 31 #[.pointer (some ⟨s,0,none⟩),.int .i64 dim,.int .i64 deep,ev] (X.src s lv p left) (aJ s lv X (E,p',l'))):=by
 have hne:¬dim=1:=by omega
 have hpr:bG zs p dim=none:=by
  rcases hkk with ⟨rfl,h2⟩|rfl|rfl|rfl
  ·simp [bG,HK.out,hne,h2]
  ·simp [bG,HK.out,hne]
  ·simp [bG,HK.out,hne]
  ·simp [bG,HK.out,hne]
 have hF:=nL zs env n dim p left hleft0 hpr;rw [hr.out]at hF;have HL:=yq hF.symm;have hne1:(dim==1)=false:=by simp;omega
 clear hF hpr hne;rcases hkk with ⟨rfl,h2⟩|rfl|rfl|rfl
 ·have h2b:(dim==2)=false:=by simpa using h2
  have h6:deep<6:=by have:=hdeep.out;omega
  have hc8:=bX n
  go_enter func31,ntmps31
  go_wp2_with fail
  refine(bg s lv zs p p (left-2) _ _ rfl zg zi zj zb zb).mono ?_;rintro e w' ⟨rfl,n1,rfl⟩;rw [HK.out]
  go_wp2_with fail
  refine(kz s lv zs (p+1) _ (left-2) _ _ env _ rfl zb zb zg zi (yq zj) (yq zo) zb zb zb).mono ?_;rintro e w' ⟨v,bs,d,rfl,rfl,hrep⟩;rw [HL.out]at hrep;simp only [HL.out];have H1:=yq hrep;obtain⟨va,vc,hv⟩:=hrep.form;subst hv;clear hrep
  go_wp2_with fail
  go_returns
  refine aJ.of_eq (P':=(p':Int)) rfl rfl rfl (.of_below au) (((H1.out.eqw (w':=((X.src s lv (p':Int) l').alloc (.cells #[.int .i64 0,.int .i64 0,.int .i64 0,.int .i64 0,.string ⟨#[]⟩,.slice none 0 0] 27)).grow bs d) zr).lift0 ?_ ?_ d).mono ?_)
  all_goals first
   |(intro b hb;simp at hb;omega)
   |(simp;done)
   |(simp;omega)
 all_goals
  have h6:deep<6:=by have:=hdeep.out;omega
  have hc8:=bX n
  go_enter func31,ntmps31
  go_wp2_with fail
  refine(bg s lv zs p p (left-2) _ _ rfl zg zi zj zb zb).mono ?_;rintro e w' ⟨rfl,n1,rfl⟩;rw [HK.out]
  go_wp2_with fail
  refine(kz s lv zs (p+1) _ (left-2) _ _ env _ rfl zb zb zg zi (yq zj) (yq zo) zb zb zb).mono ?_;rintro e w' ⟨v,bs,d,rfl,rfl,hrep⟩;rw [HL.out]at hrep;simp only [HL.out];have H1:=yq hrep;obtain⟨va,vc,hv⟩:=hrep.form;subst hv;clear hrep
  go_wp2_with fail
  go_returns
  refine aJ.of_eq (P':=(p':Int)) rfl rfl rfl (.of_below au) (((H1.out.eqw (w':=((X.src s lv (p':Int) l').alloc (.cells #[.int .i64 0,.int .i64 0,.int .i64 0,.int .i64 0,.string ⟨#[]⟩,.slice none 0 0] 27)).grow bs d) zr).lift0 ?_ ?_ d).mono ?_)
  all_goals first
   |(intro b hb;simp at hb;omega)
   |(simp;done)
   |(simp;omega)
theorem IQ(s:Nat)(lv ev:Value)(zs:List Int)(env:List (ByteArray × Int))(n:Nat)(hn:n<=4)(IH:bT s lv ev zs env n):bT s lv ev zs env (n+1):=by
 unfold bT;intro dim p P left deep r X hr hP hdeep hd1 hd4 hs hX hl he hp hleft hleft2;subst hP
 suffices h:Calls prog 31 #[.pointer (some ⟨s,0,none⟩),.int .i64 dim,.int .i64 deep,ev] (X.src s lv p left) (aJ s lv X r)by rw [hX]at h;exact h
 clear hX;obtain⟨E,p',l'⟩:=r;have hc:aP (n+1)=3*aP n+3:=rfl;have hc8:=bX n;rw [hc]at hp hleft;by_cases h0:left<=0
 ·exact LP s lv ev zs env n dim p left deep E p' l' X (yq (by have:=hr.out;rw [tN _ _ _ _ _ _ (.inr h0)]at this;exact this)) h0 zb hn hd1 hd4 hs hl he zb zb zb
 ·have h1:0<left:=by omega
  have hp2:p+(3*aP n+3)<=900000:=hp;have hl2:-900000<=left-(3*(aP n:Int)+3):=by omega
  have hdp:Hid (deep=5-n):=yq zb;have hkb:=bV zs p 14 zb;generalize hK:aC zs p 14=kk at hkb;have HK:=yq hK;by_cases hd:dim=1
  ·obtain h|h|h|h|h|h:kk=0\/kk=1\/kk=2\/kk=3\/(kk=4\/kk=5\/kk=6\/kk=7\/kk=8)\/(kk=9\/kk=10\/kk=11\/kk=12\/kk=13):=by omega
   ·exact OY s lv ev zs env n (yq IH) dim p left deep E p' l' kk X hr HK h1 hdp hn hd4 hs hl he hp2 hl2 hleft2 hd h
   ·exact OX s lv ev zs env n (yq IH) dim p left deep E p' l' kk X hr HK h1 hdp hn hd4 hs hl he hp2 hl2 hleft2 hd h
   ·exact OW s lv ev zs env n (yq IH) dim p left deep E p' l' kk X hr HK h1 hdp hn hd4 hs hl he hp2 hl2 hleft2 hd h
   ·exact OV s lv ev zs env n (yq IH) dim p left deep E p' l' kk X hr HK h1 hdp hn hd4 hs hl he hp2 hl2 hleft2 hd h
   ·exact IR s lv ev zs env n (yq IH) dim p left deep E p' l' kk X hr HK h1 hdp hn hd4 hs hl he hp2 hl2 hleft2 hd h
   ·exact EK s lv ev zs env n (yq IH) dim p left deep E p' l' kk X hr HK h1 hdp hn hd4 hs hl he hp2 hl2 hleft2 hd h
  ·have hd2:2<=dim:=by omega
   obtain h|h|h|h|h|h|h|h|h|h|⟨h,h2⟩|h:kk=0\/kk=1\/kk=2\/kk=3\/kk=4\/kk=5\/kk=6\/kk=7\/kk=8\/kk=9\/(kk=10/\dim=2)\/(kk=10/\dim≠2\/kk=11\/kk=12\/kk=13):=by omega
   ·exact OU s lv ev zs env n (yq IH) dim p left deep E p' l' kk X hr HK h1 hdp hn hd4 hs hl he hp2 hl2 hleft2 hd2 h
   ·exact OT s lv ev zs env n (yq IH) dim p left deep E p' l' kk X hr HK h1 hdp hn hd4 hs hl he hp2 hl2 hleft2 hd2 h
   ·exact OQ s lv ev zs env n (yq IH) dim p left deep E p' l' kk X hr HK h1 hdp hn hd4 hs hl he hp2 hl2 hleft2 hd2 h
   ·exact OP s lv ev zs env n (yq IH) dim p left deep E p' l' kk X hr HK h1 hdp hn hd4 hs hl he hp2 hl2 hleft2 hd2 h
   ·exact OO s lv ev zs env n (yq IH) dim p left deep E p' l' kk X hr HK h1 hdp hn hd4 hs hl he hp2 hl2 hleft2 hd2 h
   ·exact OM s lv ev zs env n (yq IH) dim p left deep E p' l' kk X hr HK h1 hdp hn hd4 hs hl he hp2 hl2 hleft2 hd2 h
   ·exact OL s lv ev zs env n (yq IH) dim p left deep E p' l' kk X hr HK h1 hdp hn hd4 hs hl he hp2 hl2 hleft2 hd2 h
   ·exact OJ s lv ev zs env n (yq IH) dim p left deep E p' l' kk X hr HK h1 hdp hn hd4 hs hl he hp2 hl2 hleft2 hd2 h
   ·exact OI s lv ev zs env n (yq IH) dim p left deep E p' l' kk X hr HK h1 hdp hn hd4 hs hl he hp2 hl2 hleft2 hd2 h
   ·exact OH s lv ev zs env n (yq IH) dim p left deep E p' l' kk X hr HK h1 hdp hn hd4 hs hl he hp2 hl2 hleft2 hd2 h
   ·exact LM s lv ev zs env n (yq IH) dim p left deep E p' l' kk X hr HK h1 hdp hn hd4 hs hl he hp2 hl2 hleft2 h2 h
   ·exact EJ s lv ev zs env n (yq IH) dim p left deep E p' l' kk X hr HK h1 hdp hn hd4 hs hl he hp2 hl2 hleft2 hd2 h
theorem OG(s:Nat)(lv ev:Value)(zs:List Int)(env:List (ByteArray × Int))(n:Nat)(hn:n<=5):bT s lv ev zs env n:=by
 induction n with
 |zero=>exact IP s lv ev zs env
 |succ n ih=>exact IQ s lv ev zs env n zb (ih zb)
end Go.Proofs.YteildlpchhlchaaGreatDoor
namespace Go
open Go.RowKit
@[go_sem] theorem World.setCell_src_other{w:World}{s:Nat}{lv:Value}{p left:Int}{b i:Nat}(h:b≠s)(v:Value):(w.src s lv p left).setCell ⟨b,i,none⟩ v=(w.setCell ⟨b,i,none⟩ v).src s lv p left:=by
  simp only [World.src,World.setCell]
  congr 1
  apply Array.ext_getElem?;intro k;simp only [Array.getElem?_modify,Array.getElem?_setIfInBounds,Array.size_modify];by_cases hk:b=k
  ·subst hk;simp [Ne.symm h]
  ·simp [hk]
theorem RowKit.Below.src{B:Nat}{a w:World}{s:Nat}(h:Below B a w)(hB:B<=s)(lv:Value)(p left:Int):Below B a (w.src s lv p left):=
 h.trans ⟨rfl,rfl,rfl,by simp,fun k hk=>World.heap_src_other zb⟩
end Go
namespace Go.Proofs.YteildlpchhlchaaGreatDoor
open Tryz List
open Go.RowKit

theorem sU(zs:List Int)(env:List (ByteArray × Int))(p:Nat)(dim:Int):(eO zs env p dim).1.size=1:=by
 unfold eO
 split
 ·simp [Ex.size,Ex.sizes]
 ·split<;>simp [Ex.size,Ex.sizes]
theorem jl(zs:List Int)(env:List (ByteArray × Int))(dim:Int)(p:Nat)(left:Int):(dz zs env dim p left).1.size<=3:=by
 unfold dz
 split
 ·simp [Ex.size,Ex.sizes,sU]
 ·simp [sU]
theorem BM(E:Int->Nat->Int->Ex × Nat × Int)(c:Nat)(hE:∀d p left,(E d p left).1.size<=c)(ds:List Int):∀(p:Nat) (left:Int),Ex.sizes (bJ E ds p left).1<=ds.length*c:=by
 induction ds with
 |nil=>intro p left;simp [bJ,Ex.sizes]
 |cons d ds ih=>
  intro p left;have a:=hE d p left;have b:=ih (E d p left).2.1 (E d p left).2.2;simp only [bJ,Ex.sizes,length_cons,Nat.add_mul,Nat.one_mul];omega
theorem EL(zs:List Int)(env:List (ByteArray × Int))(n:Nat):∀(dim:Int) (p:Nat) (left:Int),(aS zs env n dim p left).1.size<=aP n:=by
 induction n with
 |zero=>intro dim p left;have:=jl zs env dim p left;simp only [aS,aP];omega
 |succ n ih=>
  intro dim p left;have h8:=bX n;rw [aS,aP]
  split
  ·have:=jl zs env dim p left;omega
  ·cases h:bG zs p dim with
   |none=>have:=jl zs env dim (p+1) (left-2);simp only;omega
   |some t=>
    obtain⟨op,ds,q⟩:=t;have a:=BB zs p dim h;have b:=BM (aS zs env n) (aP n) ih ds q (left-2);have c:ds.length*aP n<=3*aP n:=Nat.mul_le_mul_right _ a.2.2;simp only [Ex.size];omega
def dZ(zs:List Int)(env:List (ByteArray × Int))(dim:Int):Ex:=
 if eF (aS zs env 5 dim 0 24).1=true then(aS zs env 5 dim 0 24).1 else(dz zs env dim (aS zs env 5 dim 0 24).2.1 0).1
theorem JV{zs:List Int}{env:List (ByteArray × Int)}{dim:Int}{e:Ex}{r:Nat × Int}(h:aS zs env 5 dim 0 24=(e,r))(hv:eF e=true):dZ zs env dim=e:=by
 unfold dZ;rw [h,if_pos hv]
theorem MZ{zs:List Int}{env:List (ByteArray × Int)}{dim:Int}{e:Ex}{p':Nat}{l':Int}(h:aS zs env 5 dim 0 24=(e,p',l'))(hv:eF e=false):dZ zs env dim=(dz zs env dim p' 0).1:=by
 unfold dZ;rw [h,if_neg (by simp [hv])]
theorem aR.other{w:World}{s s':Nat}{lv:Value}{zs:List Int}(h:aR w s lv zs)(hs:w.heap.size<=s'):aR w s' lv zs:=by
 obtain⟨h0,a,cap,hv,h1⟩:=h;refine⟨h0,a,cap,hv,h1.imp id ?_⟩;rintro⟨b,off,ha,hb,hbs,hcc⟩;exact⟨b,off,ha,hb,by omega,hcc⟩
theorem bz.other{w:World}{s s':Nat}{v:Value}{env:List (ByteArray × Int)}(h:bz w s v env)(hs:w.heap.size<=s'):bz w s' v env:=by
 obtain⟨h0,hn,a,cap,hv,h1⟩:=h;refine⟨h0,hn,a,cap,hv,h1.imp id ?_⟩;rintro⟨b,off,ha,hb,hbs,hcc⟩;exact⟨b,off,ha,hb,by omega,hcc⟩
theorem J3(w:World)(lv:Value)(p left:Int)(H:Nat)(hH:w.heap.size=H):(w.alloc (.cells #[lv,.int .i64 p,.int .i64 left] 81)).src H lv p left=w.alloc (.cells #[lv,.int .i64 p,.int .i64 left] 81):=by
 subst hH;exact World.src_new w lv p left

def MI(w:World)(E:Ex)(e:Ending)(w':World):Prop:=∃v,e= .returned (exV E v)/\w.Grows w'/\aT (fun b=>w.heap.size<=b) w' E v
theorem ML(lv ev:Value)(zs:List Int)(env:List (ByteArray × Int))(dim:Int)(w:World)(hl0:aR w w.heap.size lv zs)(he0:bz w w.heap.size ev env)(hd1:1<=dim)(hd4:dim<=4) :
 Calls prog 9 #[lv,.int .i64 dim,ev] w (MI w (dZ zs env dim)):=by
 have hl:=yq (hl0.other (s':=w.heap.size+1) zb);have he:=yq (he0.other (s':=w.heap.size+1) zb);have hlf:=hl0;obtain⟨-,la,lc,hlv,-⟩:=hlf;subst hlv;clear hl0 he0;have hrb:=tO zs env 5 dim 0 24;have hsz:=EL zs env 5 dim 0 24;have hc5:aP 5=2307:=rfl;rw [hc5]at hrb hsz;generalize hR:aS zs env 5 dim 0 24=r at hrb hsz;have HR:=yq hR;clear hR hc5;obtain⟨E,p',l'⟩:=r;simp only at hrb hsz;have HSZ:=yq (show E.size<=2305843009213693952 by omega);clear hsz
 go_enter func9,ntmps9
 go_wp2_with fail
 refine(bT.call (OG (w.heap.size+1) _ _ zs env 5 zb) dim 0 0 24 1 _ _ HR rfl zb hd1 hd4 ze (J3 _ _ _ _ _ ze) (yq zj) (yq zo) zf zf zb).mono ?_;rintro e' w' ⟨v,bs,d,rfl,rfl,hrep⟩;obtain⟨va,vc,hv⟩:=hrep.form;subst hv;have REP:Hid (aT (fun b=>w.heap.size+2<=b) ((((w.alloc (.cells #[.int .i64 0,.int .i64 0,.int .i64 0,.int .i64 0,.string ⟨#[]⟩,.slice none 0 0] 27)).alloc (.cells #[.slice la zs.length lc,.int .i64 0,.int .i64 24] 81)).src (w.heap.size+1) (.slice la zs.length lc) p' l').grow bs d) E (.slice va E.args.length vc)):=yq (hrep.mono fun b hb=>by simpa using hb);clear hrep;cases hb:eF E
 ·have HB:=yq hb;have HT:=yq (MZ HR.out hb);clear hb
  go_wp2_with fail
  refine gvq (nz _ E _ _ (yq (REP.out.alloc _)) HSZ) ?_;intro bs2 d2;simp only [HB.out]
  go_wp2_with fail
  have hlb:=jl zs env dim p' 0;generalize hL:dz zs env dim p' 0=q at HT hlb;have HL:=yq hL;clear hL hlb;obtain⟨E2,p2,l2⟩:=q;refine(kz (w.heap.size+1) (.slice la zs.length lc) zs p' _ 0 dim _ env _ rfl hd1 hd4 zg zq (yq zj) (yq zo) zb zb zb).mono ?_;rintro e' w' ⟨v2,bs3,d3,rfl,rfl,hrep2⟩;obtain⟨v2a,v2c,hv2⟩:=hrep2.form;subst hv2;rw [HL.out]at hrep2;simp only [HL.out];have H2:=yq (hrep2.eqw (w':=(((((w.alloc (.cells #[.int .i64 0,.int .i64 0,.int .i64 0,.int .i64 0,.string ⟨#[]⟩,.slice none 0 0] 27)).alloc (.cells #[.slice la zs.length lc,.int .i64 0,.int .i64 24] 81)).src (w.heap.size+1) (.slice la zs.length lc) p2 l2).grow bs d).alloc (.cells #[.int .i64 E.op,.int .i64 E.num,.int .i64 E.den,.int .i64 E.dim,.string E.name,.slice va E.args.length vc] 27)).grow (bs2++bs3) d3) zq);clear hrep2
  go_wp2_with fail
  go_returns
  refine⟨_,by rw [HT.out],.of_below xf, ?_⟩;rw [HT.out];refine(H2.out.lift0 ?_ ?_ _).mono ?_
  all_goals first
   |(intro b hb;simp at hb;omega)
   |(intro b hb;omega)
   |(simp;done)
   |(simp;omega)
 ·have HB:=yq hb;have HT:=yq (JV HR.out hb);clear hb
  go_wp2_with fail
  refine gvq (nz _ E _ _ (yq (REP.out.alloc _)) HSZ) ?_;intro bs2 d2;simp only [HB.out]
  go_wp2_with fail
  go_returns
  refine⟨_,by rw [HT.out],.of_below xf, ?_⟩;rw [HT.out];refine((((REP.out.lift0 ?_ ?_ d).alloc _).grow _ _).mono ?_)
  all_goals first
   |(intro b hb;simp at hb;omega)
   |(intro b hb;omega)
   |(simp;done)
   |(simp;omega)

structure fw(T:TypeId)(c:Nat)(base:Nat)(w:World)(v:Value)(l:List (List Value))(rs:List (Ex × Value)):Prop where
 own:w.ownsRow base T c v l.length l.flatten
 len:∀x∈l,x.length=c
 rep:∀x∈rs,aT (fun b=>base<=b/\v.ownBlock≠some b) w x.1 x.2
section
variable {T : TypeId} {c base : Nat} {w w' : World} {v : Value} {l : List (List Value)} {rs : List (Ex × Value)}
theorem fw.nil(T:TypeId)(c base:Nat)(w:World):fw T c base w (.slice none 0 0) [] []:=⟨World.ownsRow_nil _ _ _ _,fun _ h=>by(cases h),fun _ h=>by(cases h)⟩
theorem fw.keep(h:fw T c base w v l rs)(hsz:w.heap.size<=w'.heap.size)(hw:∀k,base<=k->k<w.heap.size->w'.heap[k]? =w.heap[k]?):fw T c base w' v l rs:=
 ⟨kP h.own hw,h.len,fun x hx=>(h.rep x hx).keep hsz fun b o hb hlt=>World.cell?_of_block (hw b hb.1 hlt)⟩
theorem fw.alloc(h:fw T c base w v l rs)(o:Obj):fw T c base (w.alloc o) v l rs:=h.keep ze fun k _ hlt=>Below.heap_alloc w o k hlt
theorem fw.grow(h:fw T c base w v l rs)(bs:Array Obj)(d:Nat):fw T c base (w.grow bs d) v l rs:=h.keep ze fun k _ hlt=>World.heap_grow _ _ _ hlt
theorem fw.drewN(h:fw T c base w v l rs)(n:Nat):fw T c base (w.drewN n) v l rs:=h.keep (Nat.le_refl _) fun _ _ _=>rfl
theorem fw.setCell(h:fw T c base w v l rs){a:Addr}(ha:a.block<base)(u:Value):fw T c base (w.setCell a u) v l rs:=
 h.keep ze fun k hk _=>Below.heap_setCell _ _ _ _ zb
theorem fw.lt(h:fw T c base w v l rs):∀k,v.ownBlock=some k->base<=k/\k<w.heap.size:=h.own.lt
theorem fw.form(h:fw T c base w v l rs):∃a cap,v= .slice a l.length cap:=by
 exact Rm
theorem qH(l:List (List Value))(c:Nat)(h:∀x∈l,x.length=c)(i j:Nat)(hj:j<c)(hi:i<l.length):l.flatten[i*c+j]? =(l.getD i [])[j]?:=by
 induction l generalizing i with
 |nil=>simp at hi
 |cons x r ih=>
  have hx:=h x (mem_cons_self);rw [flatten_cons]
  cases i with
  |zero=>rw [getElem?_append_left zb];simp
  |succ i=>
   rw [getElem?_append_right (by rw [hx,Nat.add_mul];omega),getD_cons_succ,<-ih (fun y hy=>h y (mem_cons_of_mem _ hy)) i zG]
   congr 1;rw [hx,Nat.add_mul];omega
theorem fw.cells(h:fw T c base w v l rs):∃a cap,v= .slice a l.length cap/\(l.length=0\/∃g,a=some ⟨g,0,none⟩/\base<=g/\g<w.heap.size/\∀i j u,i<l.length->j<c->(l.getD i [])[j]? =some u->w.cell? ⟨g,i*c+j,none⟩=some u):=by
 rcases h.own.2 with ⟨rfl,h0⟩|⟨g,cap,cur,rfl,hb,hg,_⟩
 ·exact⟨none,0,by rw [h0],.inl h0⟩
 ·refine⟨_,cap,rfl,.inr ⟨g,rfl,hb,(Array.getElem?_eq_some_iff.1 hg).1,fun i j u hi hj hu=>?_⟩⟩;have:=World.ownsRow.cells (g:=g) h.own rfl (i*c+j) u (by rw [qH l c h.len i j hj hi];exact hu);rw [addr_add]at this;exact this
theorem fw.push{news:List Value}{rs2:List (Ex × Value)}{m g cap H n:Nat}{xs:List Value}(h:fw T c base w v l rs)(hr:∀x∈rs2,aT (fun b=>m<=b) w x.1 x.2)(hm:base<=m)(hv:∀k,v.ownBlock=some k->k<m)
 (hc:news.length=c) (hn:n=l.length+1) (hxs:xs=l.flatten++news) (ho:w'.ownsRow base T c (.slice (some ⟨g,0,none⟩) n cap) n xs) (hg:w.grownBy w' v.ownBlock) (hat:v.ownBlock=some g\/g=H) (hH:w.heap.size=H) :
 fw T c base w' (.slice (some ⟨g,0,none⟩) n cap) (l++[news]) (rs++rs2):=by
 subst hH hn hxs;refine⟨by rw [length_append,flatten_append];simpa using ho,fun x hx=>?_,fun x hx=>?_⟩
 ·rw [mem_append]at hx;rcases hx with hx|hx
  ·exact h.len x hx
  ·obtain rfl:x=news:=by simpa using hx
   exact hc
 ·have key:∀(e':Ex) (u:Value),aT (fun b=>base<=b/\v.ownBlock≠some b) w e' u->aT (fun b=>base<=b/\(Value.slice (some ⟨g,0,none⟩) (l.length+1) cap).ownBlock≠some b) w' e' u:=by
   exact RV
  rw [mem_append]at hx;rcases hx with hx|hx
  ·exact key _ _ (h.rep x hx)
  ·exact key _ _ ((hr x hx).mono fun b hb=>⟨by omega,fun e=>by have:=hv b e;omega⟩)
end

structure lD where
 frm:Int
 mode:Int
 unit:Int
 credits:List Int
 series:List Int
 lets:List (List Int)
 ifs:List (List Int)
 pays:List (List Int)
 cuts:List (List Int)
 twist:Int
def fu(w:World)(v:Value)(zss:List (List Int)):Prop:=
 zss.length<=140737488355328/\∃a cap,v= .slice a zss.length cap/\(zss.length=0\/∃b off,a=some ⟨b,off,none⟩/\b<w.heap.size/\∀i,i<zss.length->∃u,w.cell? ⟨b,off+i,none⟩=some u/\bH w u (zss.getD i []))
def PN(w:World)(cs:List Value)(R:lD):Prop:=
 I64 R.frm/\I64 R.mode/\I64 R.unit/\I64 R.twist/\∃vc vs vl vi vp vu,cs= [.int .i64 R.frm,.int .i64 R.mode,.int .i64 R.unit,vc,vs,vl,vi,vp,vu,.int .i64 R.twist]/\
  bH w vc R.credits/\bH w vs R.series/\fu w vl R.lets/\fu w vi R.ifs/\fu w vp R.pays/\fu w vu R.cuts
def eQ(i:Nat):ByteArray:=⟨#[(112+i % 8).toUInt8,95,(48+i / 8).toUInt8]⟩
def Sy(R:lD)(i:Nat):Int:=1+((R.lets.getD i []).length % 4:Nat)
def O0(R:lD)(k:Nat):List (ByteArray × Int):=(List.range k).map fun i=>(eQ i,Sy R i)
def QB(R:lD):Nat:=min R.lets.length 5
def Sw(R:lD)(i:Nat):Ex:=dZ (R.lets.getD i []) (O0 R i) (Sy R i)
def Sg(R:lD)(i:Nat):Ex:=dZ (R.pays.getD i []) (O0 R (QB R)) 4
def ifE(R:lD)(i:Nat):Ex:=dZ (R.ifs.getD i []) (O0 R (QB R)) 1
def SF(R:lD)(i:Nat):Ex:=dZ (R.cuts.getD i []) (O0 R (QB R)) 2
theorem vW(i:Nat):(eQ i).size=3:=rfl

structure dU(T:TypeId)(c base:Nat)(X:Nat->Prop)(w:World)(v:Value)(l:List (List Value))(rs:List (Ex × Value)):Prop where
 own:w.ownsRow base T c v l.length l.flatten
 len:∀x∈l,x.length=c
 ownX:∀k,v.ownBlock=some k->X k
 rep:∀x∈rs,aT (fun b=>(base<=b/\X b)/\v.ownBlock≠some b) w x.1 x.2
section
variable {T : TypeId} {c base : Nat} {X X' : Nat -> Prop} {w w' : World} {v : Value} {l : List (List Value)} {rs : List (Ex × Value)}
theorem dU.nil(T:TypeId)(c base:Nat)(X:Nat->Prop)(w:World):dU T c base X w (.slice none 0 0) [] []:=⟨World.ownsRow_nil _ _ _ _,fun _ h=>by(cases h),fun _ h=>by(cases h),fun _ h=>by(cases h)⟩
theorem dU.toG(h:dU T c base X w v l rs):fw T c base w v l rs:=⟨h.own,h.len,fun x hx=>(h.rep x hx).mono fun _ hb=>⟨hb.1.1,hb.2⟩⟩
theorem dU.keep(h:dU T c base X w v l rs)(hsz:w.heap.size<=w'.heap.size)(hw:∀k,base<=k->X k->k<w.heap.size->w'.heap[k]? =w.heap[k]?):dU T c base X w' v l rs:=by
 refine⟨?_,h.len,h.ownX,fun x hx=>(h.rep x hx).keep hsz fun b o hb hlt=>World.cell?_of_block (hw b hb.1.1 hb.1.2 hlt)⟩;obtain⟨h1,h2⟩:=h.own;refine⟨h1, ?_⟩;rcases h2 with h2|⟨g,cap,cur,rfl,hb,hg,r⟩
 ·exact .inl h2
 ·have hlt:g<w.heap.size:=(Array.getElem?_eq_some_iff.1 hg).1;exact .inr ⟨g,cap,cur,rfl,hb,by rw [hw g hb (h.ownX g rfl) hlt];exact hg,r⟩
theorem dU.alloc(h:dU T c base X w v l rs)(o:Obj):dU T c base X (w.alloc o) v l rs:=h.keep ze fun k _ _ hlt=>Below.heap_alloc w o k hlt
theorem dU.grow(h:dU T c base X w v l rs)(bs:Array Obj)(d:Nat):dU T c base X (w.grow bs d) v l rs:=h.keep ze fun k _ _ hlt=>World.heap_grow _ _ _ hlt
theorem dU.drew(h:dU T c base X w v l rs):dU T c base X w.drew v l rs:=h.keep (Nat.le_refl _) fun _ _ _ _=>rfl
theorem dU.setCell(h:dU T c base X w v l rs){a:Addr}(ha:a.block<base)(u:Value):dU T c base X (w.setCell a u) v l rs:=
 h.keep ze fun k hk _ _=>Below.heap_setCell _ _ _ _ zb
theorem dU.grown{row:Option Nat}(h:dU T c base X w v l rs)(hg:w.grownBy w' row)(hr:∀b,X b->some b≠row):dU T c base X w' v l rs:=
 h.keep hg.size fun k _ hX hlt=>hg.block k hlt (hr k hX)
theorem dU.mono(h:dU T c base X w v l rs)(hX:∀b,X b->b<w.heap.size->X' b):dU T c base X' w v l rs:=
 ⟨h.own,h.len,fun k hk=>hX k (h.ownX k hk) (h.own.lt k hk).2,fun x hx=>(h.rep x hx).mono' fun b hb hlt=>⟨⟨hb.1.1,hX b hb.1.2 hlt⟩,hb.2⟩⟩
theorem dU.form(h:dU T c base X w v l rs):∃a cap,v= .slice a l.length cap:=h.toG.form
theorem dU.lt(h:dU T c base X w v l rs):∀k,v.ownBlock=some k->base<=k/\k<w.heap.size:=h.own.lt
theorem dU.push{news:List Value}{rs2:List (Ex × Value)}{m g cap H n:Nat}{xs:List Value}(h:dU T c base X w v l rs)(hr:∀x∈rs2,aT (fun b=>m<=b) w x.1 x.2)(hm:base<=m)(hXm:∀b,m<=b->X b)(hv:∀k,v.ownBlock=some k->k<m)
 (hc:news.length=c) (hn:n=l.length+1) (hxs:xs=l.flatten++news) (ho:w'.ownsRow base T c (.slice (some ⟨g,0,none⟩) n cap) n xs) (hg:w.grownBy w' v.ownBlock) (hat:v.ownBlock=some g\/g=H) (hH:w.heap.size=H) (hmH:m<=H) :
 dU T c base X w' (.slice (some ⟨g,0,none⟩) n cap) (l++[news]) (rs++rs2):=by
 subst hH hn hxs;refine⟨by rw [length_append,flatten_append];simpa using ho,fun x hx=>?_,fun k hk=>?_,fun x hx=>?_⟩
 ·rw [mem_append]at hx;rcases hx with hx|hx
  ·exact h.len x hx
  ·obtain rfl:x=news:=by simpa using hx
   exact hc
 ·obtain rfl:g=k:=by simpa [Value.ownBlock]using hk
  rcases hat with hat|hat
  ·exact h.ownX _ hat
  ·exact hXm _ zb
 ·have key:∀(e':Ex) (u:Value),aT (fun b=>(base<=b/\X b)/\v.ownBlock≠some b) w e' u->aT (fun b=>(base<=b/\X b)/\(Value.slice (some ⟨g,0,none⟩) (l.length+1) cap).ownBlock≠some b) w' e' u:=by
   intro e' u hu;refine(hu.mono' (S':=fun b=>((base<=b/\X b)/\v.ownBlock≠some b)/\g≠b) ?_|>.keep hg.size ?_).mono ?_
   ·rintro b ⟨h1,h2⟩ hlt;refine⟨⟨h1,h2⟩, ?_⟩;rcases hat with hat|hat
    ·intro e;exact h2 (by rw [hat,e])
    ·omega
   ·rintro b o ⟨⟨_,h2⟩,_⟩ hlt;exact World.cell?_of_block (hg.block b hlt (Ne.symm h2))
   ·rintro b ⟨⟨h1,_⟩,h3⟩;exact⟨h1,by simpa [Value.ownBlock]using h3⟩
  rw [mem_append]at hx;rcases hx with hx|hx
  ·exact key _ _ (h.rep x hx)
  ·exact key _ _ ((hr x hx).mono fun b hb=>⟨⟨by omega,hXm b hb⟩,fun e=>by have:=hv b e;omega⟩)
end
def Dn(R:lD)(k:Nat)(q:List (ByteArray × (Ex × Value))):Prop:=q.map (fun t=>(t.1,t.2.1))=(List.range k).map fun i=>(eQ i,Sw R i)
theorem Dn.nil(R:lD):Dn R 0 []:=rfl
theorem Dn.length{R:lD}{k:Nat}{q:List (ByteArray × (Ex × Value))}(h:Dn R k q):q.length=k:=by
 have:=congrArg List.length h;simpa using this
theorem Dn.push{R:lD}{k:Nat}{q:List (ByteArray × (Ex × Value))}(h:Dn R k q)(v:Value):Dn R (k+1) (q++[(eQ k,(Sw R k,v))]):=by
 unfold Dn at *;exact P6
def LQ(env:List (ByteArray × Int)):List (List Value):=env.map fun b=>[.string b.1,.int .i64 b.2]
theorem bz.of_row{w:World}{base T:Nat}{v:Value}{env:List (ByteArray × Int)}(h:fw T 2 base w v (LQ env) [])(hl:env.length<=1000)(hs:∀x∈env,x.1.size<=140737488355328):bz w w.heap.size v env:=by
 obtain⟨a,cap,hv,hc⟩:=h.cells;have hlen:(LQ env).length=env.length:=by simp [LQ]
 rw [hlen]at hv hc;refine⟨hl,hs,a,cap,hv,hc.imp id ?_⟩;rintro⟨g,ha,hb,hlt,hx⟩;refine⟨g,0,ha,hlt,by omega,fun i hi=>?_⟩
 have hget:(LQ env).getD i []= [.string (env.getD i iy).1,.int .i64 (env.getD i iy).2]:=by
  simp only [LQ,getD_eq_getElem?_getD,getElem?_map,getElem?_eq_getElem hi];rfl
 refine⟨?_, ?_⟩
 ·have:=hx i 0 (.string (env.getD i iy).1) hi zb (by rw [hget];rfl);rw [show 0+i*2=i*2+0 by omega];exact this
 ·have:=hx i 1 (.int .i64 (env.getD i iy).2) hi zb (by rw [hget];rfl);rw [show 0+i*2+1=i*2+1 by omega];exact this
theorem aR.of_ints{w W:World}{u:Value}{zs:List Int}(h:bH w u zs)(hb:Below w.heap.size w W):aR W W.heap.size u zs:=by
 obtain⟨h0,_,a,cap,hv,h1⟩:=h;refine⟨h0,a,cap,hv,h1.imp id ?_⟩;rintro⟨b,off,ha,hlt,hc⟩;have:=hb.size;exact⟨b,off,ha,by omega,by omega,fun i hi=>by rw [hb.cell (by exact hlt)];exact hc i hi⟩
theorem bH.form{w:World}{u:Value}{zs:List Int}(h:bH w u zs):∃a cap,u= .slice a zs.length cap:=by
 obtain⟨_,_,a,cap,hv,_⟩:=h;exact⟨a,cap,hv⟩
structure gZ(w:World)(cs:Array Value)(g:Nat)(os:Array Value)(wr:World):Prop where
 bel:Below w.heap.size w wr
 box:wr.heap[w.heap.size]? =some (.cells cs 49 (0,0))
 res:wr.heap[w.heap.size+1]? =some (.cells #[.int .i64 0,.int .i64 0,.int .i64 0,.slice none 0 0,.slice none 0 0,.slice none 0 0,.slice none 0 0,.slice none 0 0] 104 (0,0))
 out:wr.heap[g]? =some (.cells os 104 (0,0))
 gge:w.heap.size+2<=g
section
variable {w wr w1 : World} {cs os : Array Value} {g : Nat}
theorem gZ.lt(h:gZ w cs g os wr):g<wr.heap.size:=(Array.getElem?_eq_some_iff.1 h.out).1
theorem gZ.lt0(h:gZ w cs g os wr):w.heap.size+1<wr.heap.size:=(Array.getElem?_eq_some_iff.1 h.res).1
theorem gZ.of_blocks(h:gZ w cs g os wr)(hb:Below w.heap.size w w1)(h1:∀k,k=w.heap.size\/k=w.heap.size+1\/k=g->w1.heap[k]? =wr.heap[k]?):gZ w cs g os w1:=
 ⟨hb,by rw [h1 _ (.inl rfl)];exact h.box,by rw [h1 _ (.inr (.inl rfl))];exact h.res,by rw [h1 _ (.inr (.inr rfl))];exact h.out,h.gge⟩
theorem gZ.kept(h:gZ w cs g os wr)(hb:Below w.heap.size w w1)(h1:∀k,k<wr.heap.size->k=w.heap.size\/k=w.heap.size+1\/k=g->w1.heap[k]? =wr.heap[k]?):gZ w cs g os w1:=by
 have a:=h.lt;have b:=h.lt0;refine h.of_blocks hb fun k hk=>h1 k ?_ hk;rcases hk with rfl|rfl|rfl<;>omega
theorem gZ.alloc(h:gZ w cs g os wr)(o:Obj):gZ w cs g os (wr.alloc o):=
 h.kept (h.bel.alloc h.bel.size o) fun k hk _=>Below.heap_alloc wr o k hk
theorem gZ.grow(h:gZ w cs g os wr)(bs:Array Obj)(d:Nat):gZ w cs g os (wr.grow bs d):=
 h.kept (h.bel.grow h.bel.size bs d) fun k hk _=>World.heap_grow _ _ _ hk
theorem gZ.drewN(h:gZ w cs g os wr)(n:Nat):gZ w cs g os (wr.drewN n):=h.kept (h.bel.drewN n) fun _ _ _=>rfl
theorem gZ.grown{row:Option Nat}(h:gZ w cs g os wr)(hg:wr.grownBy w1 row)(hr:∀k,row=some k->g<k/\w.heap.size+2<=k):gZ w cs g os w1:=
 h.kept (h.bel.grown hg h.bel.size fun k hk=>by have:=hr k hk;omega) fun k hk hk2=>hg.block k hk fun e=>by
  have:=hr k e.symm;have:=h.gge;rcases hk2 with rfl|rfl|rfl<;>omega
theorem gZ.store(h:gZ w cs g os wr)(i:Nat)(v:Value):gZ w cs g (os.setIfInBounds i v) (wr.setCell ⟨g,i,none⟩ v):=
 ⟨h.bel.setCell (by have:=h.gge;show w.heap.size<=g;omega) v,by rw [Below.heap_setCell _ _ _ _ (by have:=h.gge;show w.heap.size≠g;omega)];exact h.box,by rw [Below.heap_setCell _ _ _ _ (by have:=h.gge;show w.heap.size+1≠g;omega)];exact h.res,Joins.block_setCell h.out v,h.gge⟩
end
section
variable {g : Nat} {a b c : World}
theorem fw.next{T:TypeId}{n base:Nat}{v:Value}{l:List (List Value)}{rs:List (Ex × Value)}(h:fw T n base a v l rs)(hn:Next g a b)(hb:g<base):fw T n base b v l rs:=
 h.keep hn.size fun k hk hlt=>hn.blk k hlt zb
end
theorem gZ.drew{w wr:World}{cs os:Array Value}{g:Nat}(h:gZ w cs g os wr):gZ w cs g os wr.drew:=h.kept h.bel.drew fun _ _ _=>rfl
theorem fw.drew{T:TypeId}{c base:Nat}{w:World}{v:Value}{l:List (List Value)}{rs:List (Ex × Value)}(h:fw T c base w v l rs):fw T c base w.drew v l rs:=h.keep (Nat.le_refl _) fun _ _ _=>rfl
theorem dU.next{g T n base:Nat}{X:Nat->Prop}{a b:World}{v:Value}{l:List (List Value)}{rs:List (Ex × Value)}(h:dU T n base X a v l rs)(hn:Next g a b)(hb:g<base):dU T n base X b v l rs:=
 h.keep hn.size fun k hk _ hlt=>hn.blk k hlt zb

abbrev GrT:=Int × (Ex × Value) × (Ex × Value)
def GrQ(R:lD)(k:Nat)(q:List GrT):Prop:=q.map (fun t=>(t.1,t.2.1.1,t.2.2.1))=(List.range k).map fun(i:Nat)=>((i:Int)+1,ifE R i,Sg R i)
theorem GrQ.length{R:lD}{k:Nat}{q:List GrT}(h:GrQ R k q):q.length=k:=by
 have:=congrArg List.length h;simpa using this
theorem GrQ.push{R:lD}{k:Nat}{q:List GrT}(h:GrQ R k q)(v u:Value):GrQ R (k+1) (q++[((k:Int)+1,(ifE R k,v),(Sg R k,u))]):=by
 unfold GrQ at *;exact P6
theorem aR.nil(w:World)(s:Nat):aR w s (.slice none 0 0) []:=⟨by simp,none,0,rfl,.inl rfl⟩
def ReQ(R:lD)(k:Nat)(q:List (Int × (Ex × Value))):Prop:=q.map (fun t=>(t.1,t.2.1))=(List.range k).map fun(i:Nat)=>((i:Int)+1,SF R i)
theorem ReQ.length{R:lD}{k:Nat}{q:List (Int × (Ex × Value))}(h:ReQ R k q):q.length=k:=by
 have:=congrArg List.length h;simpa using this
theorem ReQ.push{R:lD}{k:Nat}{q:List (Int × (Ex × Value))}(h:ReQ R k q)(v:Value):ReQ R (k+1) (q++[((k:Int)+1,(SF R k,v))]):=by
 unfold ReQ at *;exact P6

theorem CG(l:List (List Value))(c i j:Nat)(u:Value)(h:∀x∈l,x.length=c)(hj:j<c)(hi:i<l.length):l.flatten.set (i*c+j) u=(l.set i ((l.getD i []).set j u)).flatten:=by
 induction l generalizing i with
 |nil=>simp at hi
 |cons x r ih=>
  have hx:=h x (mem_cons_self)
  cases i with
  |zero=>
   simp only [flatten_cons,set_cons_zero,getD_cons_zero,Nat.zero_mul,Nat.zero_add];rw [set_append_left _ _ zb]
  |succ i=>
   simp only [flatten_cons,set_cons_succ,getD_cons_succ];rw [set_append_right _ _ (by rw [hx,Nat.add_mul];omega),<-ih i (fun y hy=>h y (mem_cons_of_mem _ hy)) zG]
   congr 2;rw [hx,Nat.add_mul];omega
section
variable {T : TypeId} {c base g n cap : Nat} {X : Nat -> Prop} {w : World} {l : List (List Value)} {rs rs' : List (Ex × Value)}
theorem dU.stored(h:dU T c base X w (.slice (some ⟨g,0,none⟩) n cap) l rs)(hn:n=l.length)(i j k:Nat)(hk:k=i*c+j)(hj:j<c)(hi:i<l.length)(u:Value)(hr:∀x∈rs',x∈rs\/aT (fun b=>(base<=b/\X b)/\g≠b) w x.1 x.2) :
 dU T c base X (w.setCell ⟨g,k,none⟩ u) (.slice (some ⟨g,0,none⟩) n cap) (l.set i ((l.getD i []).set j u)) rs':=by
 subst hn hk;refine⟨?_,fun x hx=>?_,h.ownX,fun x hx=>?_⟩
 ·have:=(h.own.stored (i*c+j) u).1;rw [CG l c i j u h.len hj hi]at this;rw [length_set];exact this
 ·rcases mem_or_eq_of_mem_set hx with hx|rfl
  ·exact h.len x hx
  ·rw [length_set,getD_eq_getElem?_getD,getElem?_eq_getElem hi];exact h.len _ (getElem_mem hi)
 ·have hrep:aT (fun b=>(base<=b/\X b)/\g≠b) w x.1 x.2:=by
   rcases hr x hx with h2|h2
   ·exact(h.rep x h2).mono fun b hb=>⟨hb.1,fun e=>hb.2 (by rw [e];rfl)⟩
   ·exact h2
  refine(hrep.keep ze fun b o hb hlt=>World.cell?_of_block (Below.heap_setCell _ _ _ _ (Ne.symm hb.2))).mono fun b hb=>⟨hb.1,fun e=>hb.2 (by simpa [Value.ownBlock]using e)⟩
theorem dU.apart(h:dU T c base X w (.slice (some ⟨g,0,none⟩) n cap) l rs):base<=g/\X g/\g<w.heap.size:=⟨(h.own.lt g rfl).1,h.ownX g rfl,(h.own.lt g rfl).2⟩
theorem dU.kept{b o:Nat}{v:Value}(h:dU T c base X w v l rs)(hb:¬(base<=b/\X b))(u:Value):dU T c base X (w.setCell ⟨b,o,none⟩ u) v l rs:=
 h.keep ze fun k hk hX _=>Below.heap_setCell _ _ _ _ (fun e=>hb ⟨(show k=b from e) ▸ hk,(show k=b from e) ▸ hX⟩)
theorem fw.kept{b o:Nat}{v:Value}(h:fw T c base w v l rs)(hb:b<base)(u:Value):fw T c base (w.setCell ⟨b,o,none⟩ u) v l rs:=h.setCell hb u
theorem dU.block{v:Value}(h:dU T c base X w v l rs)(h0:0<l.length):∃g cap,v= .slice (some ⟨g,0,none⟩) l.length cap:=by
 rcases h.own.2 with ⟨_,h1⟩|⟨g,cap,cur,rfl,_⟩
 ·omega
 ·exact⟨g,cap,rfl⟩
theorem dU.cellAt(h:dU T c base X w (.slice (some ⟨g,0,none⟩) n cap) l rs)(hn:n=l.length)(i j:Nat)(hj:j<c)(hi:i<l.length):w.cell? ⟨g,i*c+j,none⟩=(l.getD i [])[j]?:=by
 subst hn;rw [h.own.cellAt (i*c+j) (by have:=Nat.mul_le_mul_right c (show i+1<=l.length from hi);rw [Nat.add_mul]at this;omega),qH l c h.len i j hj hi]
end
end Go.Proofs.YteildlpchhlchaaGreatDoor
