import Derived.Test.YtfoefpoaomepbaaGreatDoorTTyF
import Derived.Test.YtfoefpoaomepbaaGreatDoorTFrA2S
import Derived.Test.YtfoefpoaomepbaaGreatDoorTK
set_option linter.all false
set_option maxHeartbeats 16000000
set_option maxRecDepth 1000000
namespace Go.Proofs.YtfoefpoaomepbaaGreatDoor
open Go.RowKit
theorem Infer2_any(S:Nat→Prop)(env:List (ByteArray × Int))(e:Ex)(v ve:Value)(w:World)(h:RepE S w e v)(hbig:e.size≤2305843009213693952)(ht:Tab w)(hv:BindAt w ve env) :
 Calls Tryz.prog 46 #[exV e v,ve] w (InfP (inferE env e) w):=Infer2_g S env e v ve w h hbig ht hv (Lib.hid (.inl nodeLit))
theorem foldable_any(op:Int)(w:World):Calls Tryz.prog 88 #[.int .i64 op] w fun e w'=>e= .returned (.bool (foldOp op))∧w=w':=by
 by_cases h4:op=4
 ·subst h4
  exact tz28
 by_cases h6:op=6
 ·subst h6
  exact tz28
 by_cases h7:op=7
 ·subst h7
  exact tz28
 by_cases h8:op=8
 ·subst h8
  exact tz28
 by_cases h9:op=9
 ·subst h9
  exact tz28
 by_cases h10:op=10
 ·subst h10
  exact tz28
 by_cases h19:op=19
 ·subst h19
  exact tz28
 by_cases h20:op=20
 ·subst h20
  exact tz28
 have hf:foldOp op=false:=by unfold foldOp;simp only [decide_eq_false_iff_not];omega
 have b4:(op==4)=false:=by simpa using h4
 have b6:(op==6)=false:=by simpa using h6
 have b7:(op==7)=false:=by simpa using h7
 have b8:(op==8)=false:=by simpa using h8
 have b9:(op==9)=false:=by simpa using h9
 have b10:(op==10)=false:=by simpa using h10
 have b19:(op==19)=false:=by simpa using h19
 have b20:(op==20)=false:=by simpa using h20
 rw [hf]
 clear h4 h6 h7 h8 h9 h10 h19 h20 hf
 exact tz28
theorem okF_i64{r:Int × Int × Int}(h:okF r):I64 r.1∧I64 r.2.1:=by
 unfold I64
 rcases h with ⟨-,h⟩|⟨h1,h2,-⟩
 ·have:=vfrac_bd h;omega
 ·rw [h1,h2];omega
theorem resD_bd2{op a b:Int}(ha:2≤a∧a≤4)(hb:2≤b∧b≤4):I64 (resD op [a,b]):=by
 unfold resD I64
 have e0:([a,b]:List Int).getD 0 0=a:=rfl
 have e1:([a,b]:List Int).getD 1 0=b:=rfl
 have e2:([a,b]:List Int).getD 2 0=0:=rfl
 simp only [e0,e1,e2]
 (repeat' split)<;>omega
theorem resD_bd1{op a:Int}(ha:2≤a∧a≤4):I64 (resD op [a]):=by
 unfold resD I64
 have e0:([a]:List Int).getD 0 0=a:=rfl
 have e1:([a]:List Int).getD 1 0=0:=rfl
 have e2:([a]:List Int).getD 2 0=0:=rfl
 simp only [e0,e1,e2]
 (repeat' split)<;>omega
theorem lit_bd{e:Ex}(ok:CalcOk e){i:Nat}(hi:i<e.args.length):(2≤(e.arg i).dim∧(e.arg i).dim≤4)∧vfrac (e.arg i).num (e.arg i).den=true:=by
 have hm:e.arg i∈e.args:=by
  exact tz62
 have:=decOk_bd (lit_dec (formeds_mem ok.args.1 _ hm) (ok.lit _ hm))
 exact⟨this.2,this.1⟩
theorem bind_nil(w:World):BindAt w (.slice none 0 0) []:=⟨by simp,none,0,rfl,.inl rfl⟩
theorem foldOp_two{op:Int}(h:foldOp op=true)(h6:¬op≤6):op=7∨op=8∨op=9∨op=10∨op=19∨op=20:=by
 unfold foldOp at h
 simp only [decide_eq_true_eq]at h
 omega
def clcV(r:Option (Int × Int × Int))(e:Ex)(v:Value):Value:=
 match r with
 |some r=>.tuple #[.agg #[.int .i64 1,.int .i64 r.1,.int .i64 r.2.1,.int .i64 r.2.2,.string ⟨#[]⟩,.slice none 0 0],.bool true]
 |none=>.tuple #[exV e v,.bool false]
def ClcP(r:Option (Int × Int × Int))(e:Ex)(v:Value)(w:World)(en:Ending)(w':World):Prop:=en= .returned (clcV r e v)∧w.Grows w'
theorem ClcP.no{r:Option (Int × Int × Int)}{e:Ex}{v x:Value}{w w':World}(h:r=none)(hx:x=exV e v)(hg:w.Grows w'):ClcP r e v w (.returned (.tuple #[x,.bool false])) w':=by
 subst h hx;exact⟨rfl,hg⟩
theorem ClcP.yes{r:Option (Int × Int × Int)}{n d m:Int}{e:Ex}{v:Value}{w w':World}(h:r=some (n,d,m))(hg:w.Grows w'):ClcP r e v w (.returned (.tuple #[.agg #[.int .i64 1,.int .i64 n,.int .i64 d,.int .i64 m,.string ⟨#[]⟩,.slice none 0 0],.bool true])) w':=by
 subst h;exact⟨rfl,hg⟩
theorem opMin{e:Ex}(ho:e.op=19)(ha:e.args= [e.arg 0,e.arg 1]):opV e.op (e.args.map litV)=(if cmpI (e.arg 0).num (e.arg 0).den (e.arg 1).num (e.arg 1).den≤0 then .num (e.arg 0).dim (e.arg 0).num (e.arg 0).den else .num (e.arg 0).dim (e.arg 1).num (e.arg 1).den,0):=by
 rw [ha,ho];rfl
theorem opMax{e:Ex}(ho:e.op=20)(ha:e.args= [e.arg 0,e.arg 1]):opV e.op (e.args.map litV)=(if 0≤cmpI (e.arg 0).num (e.arg 0).den (e.arg 1).num (e.arg 1).den then .num (e.arg 0).dim (e.arg 0).num (e.arg 0).den else .num (e.arg 0).dim (e.arg 1).num (e.arg 1).den,0):=by
 rw [ha,ho];rfl
theorem clc_bad(S:Nat→Prop)(e:Ex)(v:Value)(w:World)(h:RepE S w e v)(ok:CalcOk e)(ht:Tab w)(hres:resD e.op (e.args.map Ex.dim)=0):Calls Tryz.prog 89 #[exV e v] w (ClcP (calcF e.op e.args) e v w):=by
 have hb:=foldOp_bd ok.op
 have hrng:=h.rng
 have HI:=Lib.hid (fun W (hg:w.Grows W)=>Infer2_any S [] e v (.slice none 0 0) W (h.grows hg) (by have:=ok.valid;unfold validB at this;simp only [Bool.and_eq_true,decide_eq_true_eq]at this;omega) (ht.grows hg) (bind_nil W))
 rw [ok.infer]at HI
 have HO:=Lib.hid ok
 cases h with
 |mk _ a cap vs hr hc hs=>
 rw [if_pos hres]at HI
 have HN:Hid (calcF e.op e.args=none):=Lib.hid (CalcOk.no hres)
 unfold InfP exV at HI
 clear hres ok hs hc
 go_enter Tryz.func89,Tryz.ntmps89
 go_wp2_with (go_at_call 46;refine(HI.out _ growsR).mono ?_;rintro e' w' ⟨rfl,bs1,d1,rfl⟩)
 go_returns
 exact .no HN.out rfl growsR
theorem clc_neg(S:Nat→Prop)(e:Ex)(v:Value)(w:World)(h:RepE S w e v)(ok:CalcOk e)(ht:Tab w)(hres:resD e.op (e.args.map Ex.dim)≠0)(ho:e.op=4):Calls Tryz.prog 89 #[exV e v] w (ClcP (calcF e.op e.args) e v w):=by
 have hb:=foldOp_bd ok.op
 have hrng:=h.rng
 have HI:=Lib.hid (fun W (hg:w.Grows W)=>Infer2_any S [] e v (.slice none 0 0) W (h.grows hg) (by have:=ok.valid;unfold validB at this;simp only [Bool.and_eq_true,decide_eq_true_eq]at this;omega) (ht.grows hg) (bind_nil W))
 rw [ok.infer]at HI
 have HO:=Lib.hid ok
 cases h with
 |mk _ a cap vs hr hc hs=>
 rw [if_neg hres]at HI
 have hCC:=fun r hR=>CalcOk.calc ok r hR hres
 obtain⟨dm,hdm⟩:∃d,resD e.op (e.args.map Ex.dim)=d:=⟨_,rfl⟩
 rw [hdm]at HI hCC
 unfold InfP exV at HI
 have hlen:=hr.len
 have h6:e.op≤6:=by omega
 have ha:=ok.one h6
 have hl:e.args.length=1:=by rw [ha];rfl
 have hxk:=lit_bd ok (i:=0) (by omega)
 rw [ha]at hdm
 have hdb:I64 dm:=by rw [←hdm];exact resD_bd1 hxk.1
 have HFD0:=Lib.hid (fun n d (h1:I64 n) (h2:I64 d) W (hg:w.Grows W)=>FormatDecimal2_any n d dm W h1 h2 hdb (ht.grows hg))
 obtain⟨b,off,rfl,hS,hlt,hx⟩:=hc.resolve_left (by omega)
 obtain⟨-,x1,x2,-,-,-⟩:=hx 0 (by omega)
 simp only [Nat.zero_mul,Nat.add_zero]at x1 x2
 obtain⟨-,hv⟩:=hxk
 have hbd:=vfrac_bd hv
 unfold exV
 rw [hl]at HI ⊢
 have hok:=negF_ok hv
 have HN:=Lib.hid (fun W=>Neg2_any (e.arg 0).num (e.arg 0).den W (by omega) (by omega) (by omega) (by omega))
 have HCC:=Lib.hid (hCC (negF (e.arg 0).num (e.arg 0).den) (by
  have:opV e.op (e.args.map litV)=numR (e.arg 0).dim (negF (e.arg 0).num (e.arg 0).den):=by rw [ho,ha];rfl
  rw [this];exact numR_res _ _))
 unfold frV at HN
 generalize negF (e.arg 0).num (e.arg 0).den=r at *
 obtain⟨rn,rd,rc⟩:=r
 generalize(e.arg 0).num=xn at *
 generalize(e.arg 0).den=xd at *
 clear hCC hres ok hs hc hx hS ha hdm hbd hv HO hdb hr hrng
 have HOH:=Lib.hid ho
 rw [ho]at HI HCC ⊢
 clear ho h6 hb hl
 have hrI:I64 rn∧I64 rd:=by
  exact tz60
 clear hok
 dsimp only at HN
 obtain⟨dk,hdk⟩:∃k,decOk rn rd dm=k:=⟨_,rfl⟩
 have HFD:=Lib.hid (fun W hg=>HFD0.out rn rd hrI.1 hrI.2 W hg)
 unfold FdPost at HFD
 rw [hdk]at HFD
 dsimp only at HCC
 rw [hdk]at HCC
 clear hdk HFD0 hrI
 go_enter Tryz.func89,Tryz.ntmps89
 go_upto_region 25 with (first
  |(go_at_call 46;refine(HI.out _ growsR).mono ?_;rintro e' w' ⟨rfl,bs1,d1,rfl⟩)
  |(go_at_call 137;refine(HN.out _).mono ?_;rintro e' w' ⟨rfl,bs2,d2,rfl⟩))
 exact tz15
theorem clc_floor(S:Nat→Prop)(e:Ex)(v:Value)(w:World)(h:RepE S w e v)(ok:CalcOk e)(ht:Tab w)(hres:resD e.op (e.args.map Ex.dim)≠0)(ho:e.op=6):Calls Tryz.prog 89 #[exV e v] w (ClcP (calcF e.op e.args) e v w):=by
 have hb:=foldOp_bd ok.op
 have hrng:=h.rng
 have HI:=Lib.hid (fun W (hg:w.Grows W)=>Infer2_any S [] e v (.slice none 0 0) W (h.grows hg) (by have:=ok.valid;unfold validB at this;simp only [Bool.and_eq_true,decide_eq_true_eq]at this;omega) (ht.grows hg) (bind_nil W))
 rw [ok.infer]at HI
 have HO:=Lib.hid ok
 cases h with
 |mk _ a cap vs hr hc hs=>
 rw [if_neg hres]at HI
 have hCC:=fun r hR=>CalcOk.calc ok r hR hres
 obtain⟨dm,hdm⟩:∃d,resD e.op (e.args.map Ex.dim)=d:=⟨_,rfl⟩
 rw [hdm]at HI hCC
 unfold InfP exV at HI
 have hlen:=hr.len
 have h6:e.op≤6:=by omega
 have ha:=ok.one h6
 have hl:e.args.length=1:=by rw [ha];rfl
 have hxk:=lit_bd ok (i:=0) (by omega)
 rw [ha]at hdm
 have hdb:I64 dm:=by rw [←hdm];exact resD_bd1 hxk.1
 have HFD0:=Lib.hid (fun n d (h1:I64 n) (h2:I64 d) W (hg:w.Grows W)=>FormatDecimal2_any n d dm W h1 h2 hdb (ht.grows hg))
 obtain⟨b,off,rfl,hS,hlt,hx⟩:=hc.resolve_left (by omega)
 obtain⟨-,x1,x2,-,-,-⟩:=hx 0 (by omega)
 simp only [Nat.zero_mul,Nat.add_zero]at x1 x2
 obtain⟨-,hv⟩:=hxk
 have hbd:=vfrac_bd hv
 unfold exV
 rw [hl]at HI ⊢
 have hok:=floor_ok hv
 have HN:=Lib.hid (fun W=>Floor2_any (e.arg 0).num (e.arg 0).den W (by omega) (by omega) (by omega) (by omega))
 have HCC:=Lib.hid (hCC ((floorF (e.arg 0).num (e.arg 0).den).1,1,(floorF (e.arg 0).num (e.arg 0).den).2) (by
  have:opV e.op (e.args.map litV)=numR (e.arg 0).dim ((floorF (e.arg 0).num (e.arg 0).den).1,1,(floorF (e.arg 0).num (e.arg 0).den).2):=by rw [ho,ha];rfl
  rw [this];exact numR_res _ _))
 unfold frI at HN
 generalize floorF (e.arg 0).num (e.arg 0).den=r at *
 obtain⟨rn,rc⟩:=r
 generalize(e.arg 0).num=xn at *
 generalize(e.arg 0).den=xd at *
 clear hCC hres ok hs hc hx hS ha hdm hbd hv HO hdb hr hrng
 have HOH:=Lib.hid ho
 rw [ho]at HI HCC ⊢
 clear ho h6 hb hl
 have hrI:I64 rn∧I64 1:=by
  exact tz60
 clear hok
 dsimp only at HN
 obtain⟨dk,hdk⟩:∃k,decOk rn 1 dm=k:=⟨_,rfl⟩
 have HFD:=Lib.hid (fun W hg=>HFD0.out rn 1 hrI.1 hrI.2 W hg)
 unfold FdPost at HFD
 rw [hdk]at HFD
 dsimp only at HCC
 rw [hdk]at HCC
 clear hdk HFD0 hrI
 go_enter Tryz.func89,Tryz.ntmps89
 go_upto_region 25 with (first
  |(go_at_call 46;refine(HI.out _ growsR).mono ?_;rintro e' w' ⟨rfl,bs1,d1,rfl⟩)
  |(go_at_call 138;refine(HN.out _).mono ?_;rintro e' w' ⟨rfl,bs2,d2,rfl⟩))
 exact tz15
theorem clc_add(S:Nat→Prop)(e:Ex)(v:Value)(w:World)(h:RepE S w e v)(ok:CalcOk e)(ht:Tab w)(hres:resD e.op (e.args.map Ex.dim)≠0)(ho:e.op=7):Calls Tryz.prog 89 #[exV e v] w (ClcP (calcF e.op e.args) e v w):=by
 have hb:=foldOp_bd ok.op
 have hrng:=h.rng
 have HI:=Lib.hid (fun W (hg:w.Grows W)=>Infer2_any S [] e v (.slice none 0 0) W (h.grows hg) (by have:=ok.valid;unfold validB at this;simp only [Bool.and_eq_true,decide_eq_true_eq]at this;omega) (ht.grows hg) (bind_nil W))
 rw [ok.infer]at HI
 have HO:=Lib.hid ok
 cases h with
 |mk _ a cap vs hr hc hs=>
 rw [if_neg hres]at HI
 have hCC:=fun r hR=>CalcOk.calc ok r hR hres
 obtain⟨dm,hdm⟩:∃d,resD e.op (e.args.map Ex.dim)=d:=⟨_,rfl⟩
 rw [hdm]at HI hCC
 unfold InfP exV at HI
 have hlen:=hr.len
 have h6:7≤e.op:=by omega
 have ha:=ok.two h6
 have hl:e.args.length=2:=by rw [ha];rfl
 obtain⟨hxd,hv⟩:=lit_bd ok (i:=0) (by omega)
 obtain⟨hyd,hv2⟩:=lit_bd ok (i:=1) (by omega)
 rw [ha]at hdm
 have hdb:I64 dm:=by rw [←hdm];exact resD_bd2 hxd hyd
 have HFD0:=Lib.hid (fun n d (h1:I64 n) (h2:I64 d) W (hg:w.Grows W)=>FormatDecimal2_any n d dm W h1 h2 hdb (ht.grows hg))
 obtain⟨b,off,rfl,hS,hlt,hx⟩:=hc.resolve_left (by omega)
 obtain⟨-,x1,x2,-,-,-⟩:=hx 0 (by omega)
 obtain⟨-,y1,y2,-,-,-⟩:=hx 1 (by omega)
 simp only [Nat.zero_mul,Nat.add_zero,Nat.one_mul]at x1 x2 y1 y2
 have hbd:=vfrac_bd hv
 have hbd2:=vfrac_bd hv2
 have hi:I64x4 (e.arg 0).num (e.arg 0).den (e.arg 1).num (e.arg 1).den:=⟨⟨by omega,by omega⟩,⟨by omega,by omega⟩,⟨by omega,by omega⟩,⟨by omega,by omega⟩⟩
 unfold exV
 rw [hl]at HI ⊢
 have HN:=Lib.hid (fun W=>Add2_any (e.arg 0).num (e.arg 0).den (e.arg 1).num (e.arg 1).den W hi)
 have hok:=addF_ok hv hv2
 have HCC:=Lib.hid (hCC (addF (e.arg 0).num (e.arg 0).den (e.arg 1).num (e.arg 1).den) (by
  have:opV e.op (e.args.map litV)=numR ((e.arg 0).dim) (addF (e.arg 0).num (e.arg 0).den (e.arg 1).num (e.arg 1).den):=by rw [ho,ha];rfl
  rw [this];exact numR_res _ _))
 unfold frV at HN
 generalize addF (e.arg 0).num (e.arg 0).den (e.arg 1).num (e.arg 1).den=r at *
 obtain⟨rn,rd,rc⟩:=r
 generalize(e.arg 0).num=xn at *
 generalize(e.arg 0).den=xd at *
 generalize(e.arg 1).num=yn at *
 generalize(e.arg 1).den=yd at *
 clear hCC hres ok hs hc hx hS ha hdm hbd hbd2 hi hv hv2 HO hdb hr hrng
 have HOH:=Lib.hid ho
 rw [ho]at HI HCC ⊢
 clear ho h6 hb hl
 have hrI:I64 rn∧I64 rd:=by
  exact tz60
 clear hok
 dsimp only at HN
 obtain⟨dk,hdk⟩:∃k,decOk rn rd dm=k:=⟨_,rfl⟩
 have HFD:=Lib.hid (fun W hg=>HFD0.out rn rd hrI.1 hrI.2 W hg)
 unfold FdPost at HFD
 rw [hdk]at HFD
 dsimp only at HCC
 rw [hdk]at HCC
 clear hdk HFD0 hrI
 go_enter Tryz.func89,Tryz.ntmps89
 go_upto_region 18 with (go_at_call 46;refine(HI.out _ growsR).mono ?_;rintro e' w' ⟨rfl,bs1,d1,rfl⟩)
 refine TS.begin [11] (World.Grows ((((w.alloc (.cells #[.int .i64 7,.int .i64 e.num,.int .i64 e.den,.int .i64 e.dim,.string e.name,.slice (some ⟨b,off,none⟩) 2 cap] 27)).alloc (.cells #[.int .i64 0,.int .i64 0,.int .i64 0,.int .i64 0,.string ⟨#[]⟩,.slice none 0 0] 27)).grow bs1 d1).alloc (.cells #[.int .i64 xn,.int .i64 xd] 24))) (by kernel_rfl) (by kernel_rfl) growsR (fun hS=>?_)
 refine TS.wkB 0 hS ?_
 refine TS.wkB 1 hS ?_
 refine TS.wkB 2 hS ?_
 refine TS.wkB 3 hS ?_
 refine TS.wkB 4 hS ?_
 refine TS.wkB 5 hS ?_
 refine TS.one (i:=6) (by kernel_rfl) rfl (fun K1 hK1=>?_)
 have HK1:=Lib.hid hK1
 clear hK1 hS
 dsimp only [List.getElem_toArray,List.getElem_cons_succ,List.getElem_cons_zero]
 go_simp
 go_at_call 139
 exact tz2
theorem clc_sub(S:Nat→Prop)(e:Ex)(v:Value)(w:World)(h:RepE S w e v)(ok:CalcOk e)(ht:Tab w)(hres:resD e.op (e.args.map Ex.dim)≠0)(ho:e.op=8):Calls Tryz.prog 89 #[exV e v] w (ClcP (calcF e.op e.args) e v w):=by
 have hb:=foldOp_bd ok.op
 have hrng:=h.rng
 have HI:=Lib.hid (fun W (hg:w.Grows W)=>Infer2_any S [] e v (.slice none 0 0) W (h.grows hg) (by have:=ok.valid;unfold validB at this;simp only [Bool.and_eq_true,decide_eq_true_eq]at this;omega) (ht.grows hg) (bind_nil W))
 rw [ok.infer]at HI
 have HO:=Lib.hid ok
 cases h with
 |mk _ a cap vs hr hc hs=>
 rw [if_neg hres]at HI
 have hCC:=fun r hR=>CalcOk.calc ok r hR hres
 obtain⟨dm,hdm⟩:∃d,resD e.op (e.args.map Ex.dim)=d:=⟨_,rfl⟩
 rw [hdm]at HI hCC
 unfold InfP exV at HI
 have hlen:=hr.len
 have h6:7≤e.op:=by omega
 have ha:=ok.two h6
 have hl:e.args.length=2:=by rw [ha];rfl
 obtain⟨hxd,hv⟩:=lit_bd ok (i:=0) (by omega)
 obtain⟨hyd,hv2⟩:=lit_bd ok (i:=1) (by omega)
 rw [ha]at hdm
 have hdb:I64 dm:=by rw [←hdm];exact resD_bd2 hxd hyd
 have HFD0:=Lib.hid (fun n d (h1:I64 n) (h2:I64 d) W (hg:w.Grows W)=>FormatDecimal2_any n d dm W h1 h2 hdb (ht.grows hg))
 obtain⟨b,off,rfl,hS,hlt,hx⟩:=hc.resolve_left (by omega)
 obtain⟨-,x1,x2,-,-,-⟩:=hx 0 (by omega)
 obtain⟨-,y1,y2,-,-,-⟩:=hx 1 (by omega)
 simp only [Nat.zero_mul,Nat.add_zero,Nat.one_mul]at x1 x2 y1 y2
 have hbd:=vfrac_bd hv
 have hbd2:=vfrac_bd hv2
 have hi:I64x4 (e.arg 0).num (e.arg 0).den (e.arg 1).num (e.arg 1).den:=⟨⟨by omega,by omega⟩,⟨by omega,by omega⟩,⟨by omega,by omega⟩,⟨by omega,by omega⟩⟩
 unfold exV
 rw [hl]at HI ⊢
 have HN:=Lib.hid (fun W=>Sub2_any (e.arg 0).num (e.arg 0).den (e.arg 1).num (e.arg 1).den W hi)
 have hok:=subF_ok hv hv2
 have HCC:=Lib.hid (hCC (subF (e.arg 0).num (e.arg 0).den (e.arg 1).num (e.arg 1).den) (by
  have:opV e.op (e.args.map litV)=numR ((e.arg 0).dim) (subF (e.arg 0).num (e.arg 0).den (e.arg 1).num (e.arg 1).den):=by rw [ho,ha];rfl
  rw [this];exact numR_res _ _))
 unfold frV at HN
 generalize subF (e.arg 0).num (e.arg 0).den (e.arg 1).num (e.arg 1).den=r at *
 obtain⟨rn,rd,rc⟩:=r
 generalize(e.arg 0).num=xn at *
 generalize(e.arg 0).den=xd at *
 generalize(e.arg 1).num=yn at *
 generalize(e.arg 1).den=yd at *
 clear hCC hres ok hs hc hx hS ha hdm hbd hbd2 hi hv hv2 HO hdb hr hrng
 have HOH:=Lib.hid ho
 rw [ho]at HI HCC ⊢
 clear ho h6 hb hl
 have hrI:I64 rn∧I64 rd:=by
  exact tz60
 clear hok
 dsimp only at HN
 obtain⟨dk,hdk⟩:∃k,decOk rn rd dm=k:=⟨_,rfl⟩
 have HFD:=Lib.hid (fun W hg=>HFD0.out rn rd hrI.1 hrI.2 W hg)
 unfold FdPost at HFD
 rw [hdk]at HFD
 dsimp only at HCC
 rw [hdk]at HCC
 clear hdk HFD0 hrI
 go_enter Tryz.func89,Tryz.ntmps89
 go_upto_region 20 with (go_at_call 46;refine(HI.out _ growsR).mono ?_;rintro e' w' ⟨rfl,bs1,d1,rfl⟩)
 refine TS.begin [11] (World.Grows ((((w.alloc (.cells #[.int .i64 8,.int .i64 e.num,.int .i64 e.den,.int .i64 e.dim,.string e.name,.slice (some ⟨b,off,none⟩) 2 cap] 27)).alloc (.cells #[.int .i64 0,.int .i64 0,.int .i64 0,.int .i64 0,.string ⟨#[]⟩,.slice none 0 0] 27)).grow bs1 d1).alloc (.cells #[.int .i64 xn,.int .i64 xd] 24))) (by kernel_rfl) (by kernel_rfl) growsR (fun hS=>?_)
 refine TS.wkB 0 hS ?_
 refine TS.wkB 1 hS ?_
 refine TS.wkB 2 hS ?_
 refine TS.wkB 3 hS ?_
 refine TS.wkB 4 hS ?_
 refine TS.wkB 5 hS ?_
 refine TS.one (i:=6) (by kernel_rfl) rfl (fun K1 hK1=>?_)
 have HK1:=Lib.hid hK1
 clear hK1 hS
 dsimp only [List.getElem_toArray,List.getElem_cons_succ,List.getElem_cons_zero]
 go_simp
 go_at_call 140
 exact tz2
theorem clc_mul(S:Nat→Prop)(e:Ex)(v:Value)(w:World)(h:RepE S w e v)(ok:CalcOk e)(ht:Tab w)(hres:resD e.op (e.args.map Ex.dim)≠0)(ho:e.op=9):Calls Tryz.prog 89 #[exV e v] w (ClcP (calcF e.op e.args) e v w):=by
 have hb:=foldOp_bd ok.op
 have hrng:=h.rng
 have HI:=Lib.hid (fun W (hg:w.Grows W)=>Infer2_any S [] e v (.slice none 0 0) W (h.grows hg) (by have:=ok.valid;unfold validB at this;simp only [Bool.and_eq_true,decide_eq_true_eq]at this;omega) (ht.grows hg) (bind_nil W))
 rw [ok.infer]at HI
 have HO:=Lib.hid ok
 cases h with
 |mk _ a cap vs hr hc hs=>
 rw [if_neg hres]at HI
 have hCC:=fun r hR=>CalcOk.calc ok r hR hres
 obtain⟨dm,hdm⟩:∃d,resD e.op (e.args.map Ex.dim)=d:=⟨_,rfl⟩
 rw [hdm]at HI hCC
 unfold InfP exV at HI
 have hlen:=hr.len
 have h6:7≤e.op:=by omega
 have ha:=ok.two h6
 have hl:e.args.length=2:=by rw [ha];rfl
 obtain⟨hxd,hv⟩:=lit_bd ok (i:=0) (by omega)
 obtain⟨hyd,hv2⟩:=lit_bd ok (i:=1) (by omega)
 rw [ha]at hdm
 have hdb:I64 dm:=by rw [←hdm];exact resD_bd2 hxd hyd
 have HFD0:=Lib.hid (fun n d (h1:I64 n) (h2:I64 d) W (hg:w.Grows W)=>FormatDecimal2_any n d dm W h1 h2 hdb (ht.grows hg))
 obtain⟨b,off,rfl,hS,hlt,hx⟩:=hc.resolve_left (by omega)
 obtain⟨-,x1,x2,-,-,-⟩:=hx 0 (by omega)
 obtain⟨-,y1,y2,-,-,-⟩:=hx 1 (by omega)
 simp only [Nat.zero_mul,Nat.add_zero,Nat.one_mul]at x1 x2 y1 y2
 have hbd:=vfrac_bd hv
 have hbd2:=vfrac_bd hv2
 have hi:I64x4 (e.arg 0).num (e.arg 0).den (e.arg 1).num (e.arg 1).den:=⟨⟨by omega,by omega⟩,⟨by omega,by omega⟩,⟨by omega,by omega⟩,⟨by omega,by omega⟩⟩
 unfold exV
 rw [hl]at HI ⊢
 have HN:=Lib.hid (fun W=>Mul2_any (e.arg 0).num (e.arg 0).den (e.arg 1).num (e.arg 1).den W hi)
 have hok:=mulF_ok hv hv2
 have HCC:=Lib.hid (hCC (mulF (e.arg 0).num (e.arg 0).den (e.arg 1).num (e.arg 1).den) (by
  have:opV e.op (e.args.map litV)=numR (resD 9 [(e.arg 0).dim,(e.arg 1).dim]) (mulF (e.arg 0).num (e.arg 0).den (e.arg 1).num (e.arg 1).den):=by rw [ho,ha];rfl
  rw [this];exact numR_res _ _))
 unfold frV at HN
 generalize mulF (e.arg 0).num (e.arg 0).den (e.arg 1).num (e.arg 1).den=r at *
 obtain⟨rn,rd,rc⟩:=r
 generalize(e.arg 0).num=xn at *
 generalize(e.arg 0).den=xd at *
 generalize(e.arg 1).num=yn at *
 generalize(e.arg 1).den=yd at *
 clear hCC hres ok hs hc hx hS ha hdm hbd hbd2 hi hv hv2 HO hdb hr hrng
 have HOH:=Lib.hid ho
 rw [ho]at HI HCC ⊢
 clear ho h6 hb hl
 have hrI:I64 rn∧I64 rd:=by
  exact tz60
 clear hok
 dsimp only at HN
 obtain⟨dk,hdk⟩:∃k,decOk rn rd dm=k:=⟨_,rfl⟩
 have HFD:=Lib.hid (fun W hg=>HFD0.out rn rd hrI.1 hrI.2 W hg)
 unfold FdPost at HFD
 rw [hdk]at HFD
 dsimp only at HCC
 rw [hdk]at HCC
 clear hdk HFD0 hrI
 go_enter Tryz.func89,Tryz.ntmps89
 go_upto_region 22 with (go_at_call 46;refine(HI.out _ growsR).mono ?_;rintro e' w' ⟨rfl,bs1,d1,rfl⟩)
 refine TS.begin [11] (World.Grows ((((w.alloc (.cells #[.int .i64 9,.int .i64 e.num,.int .i64 e.den,.int .i64 e.dim,.string e.name,.slice (some ⟨b,off,none⟩) 2 cap] 27)).alloc (.cells #[.int .i64 0,.int .i64 0,.int .i64 0,.int .i64 0,.string ⟨#[]⟩,.slice none 0 0] 27)).grow bs1 d1).alloc (.cells #[.int .i64 xn,.int .i64 xd] 24))) (by kernel_rfl) (by kernel_rfl) growsR (fun hS=>?_)
 refine TS.wkB 0 hS ?_
 refine TS.wkB 1 hS ?_
 refine TS.wkB 2 hS ?_
 refine TS.wkB 3 hS ?_
 refine TS.wkB 4 hS ?_
 refine TS.wkB 5 hS ?_
 refine TS.one (i:=6) (by kernel_rfl) rfl (fun K1 hK1=>?_)
 have HK1:=Lib.hid hK1
 clear hK1 hS
 dsimp only [List.getElem_toArray,List.getElem_cons_succ,List.getElem_cons_zero]
 go_simp
 go_at_call 141
 exact tz2
theorem clc_div(S:Nat→Prop)(e:Ex)(v:Value)(w:World)(h:RepE S w e v)(ok:CalcOk e)(ht:Tab w)(hres:resD e.op (e.args.map Ex.dim)≠0)(ho:e.op=10):Calls Tryz.prog 89 #[exV e v] w (ClcP (calcF e.op e.args) e v w):=by
 have hb:=foldOp_bd ok.op
 have hrng:=h.rng
 have HI:=Lib.hid (fun W (hg:w.Grows W)=>Infer2_any S [] e v (.slice none 0 0) W (h.grows hg) (by have:=ok.valid;unfold validB at this;simp only [Bool.and_eq_true,decide_eq_true_eq]at this;omega) (ht.grows hg) (bind_nil W))
 rw [ok.infer]at HI
 have HO:=Lib.hid ok
 cases h with
 |mk _ a cap vs hr hc hs=>
 rw [if_neg hres]at HI
 have hCC:=fun r hR=>CalcOk.calc ok r hR hres
 obtain⟨dm,hdm⟩:∃d,resD e.op (e.args.map Ex.dim)=d:=⟨_,rfl⟩
 rw [hdm]at HI hCC
 unfold InfP exV at HI
 have hlen:=hr.len
 have h6:7≤e.op:=by omega
 have ha:=ok.two h6
 have hl:e.args.length=2:=by rw [ha];rfl
 obtain⟨hxd,hv⟩:=lit_bd ok (i:=0) (by omega)
 obtain⟨hyd,hv2⟩:=lit_bd ok (i:=1) (by omega)
 rw [ha]at hdm
 have hdb:I64 dm:=by rw [←hdm];exact resD_bd2 hxd hyd
 have HFD0:=Lib.hid (fun n d (h1:I64 n) (h2:I64 d) W (hg:w.Grows W)=>FormatDecimal2_any n d dm W h1 h2 hdb (ht.grows hg))
 obtain⟨b,off,rfl,hS,hlt,hx⟩:=hc.resolve_left (by omega)
 obtain⟨-,x1,x2,-,-,-⟩:=hx 0 (by omega)
 obtain⟨-,y1,y2,-,-,-⟩:=hx 1 (by omega)
 simp only [Nat.zero_mul,Nat.add_zero,Nat.one_mul]at x1 x2 y1 y2
 have hbd:=vfrac_bd hv
 have hbd2:=vfrac_bd hv2
 have hi:I64x4 (e.arg 0).num (e.arg 0).den (e.arg 1).num (e.arg 1).den:=⟨⟨by omega,by omega⟩,⟨by omega,by omega⟩,⟨by omega,by omega⟩,⟨by omega,by omega⟩⟩
 unfold exV
 rw [hl]at HI ⊢
 have HN:=Lib.hid (fun W=>Div2_any (e.arg 0).num (e.arg 0).den (e.arg 1).num (e.arg 1).den W hi)
 have hok:=divF_ok hv hv2
 have HCC:=Lib.hid (hCC (divF (e.arg 0).num (e.arg 0).den (e.arg 1).num (e.arg 1).den) (by
  have:opV e.op (e.args.map litV)=numR (resD 10 [(e.arg 0).dim,(e.arg 1).dim]) (divF (e.arg 0).num (e.arg 0).den (e.arg 1).num (e.arg 1).den):=by rw [ho,ha];rfl
  rw [this];exact numR_res _ _))
 unfold frV at HN
 generalize divF (e.arg 0).num (e.arg 0).den (e.arg 1).num (e.arg 1).den=r at *
 obtain⟨rn,rd,rc⟩:=r
 generalize(e.arg 0).num=xn at *
 generalize(e.arg 0).den=xd at *
 generalize(e.arg 1).num=yn at *
 generalize(e.arg 1).den=yd at *
 clear hCC hres ok hs hc hx hS ha hdm hbd hbd2 hi hv hv2 HO hdb hr hrng
 have HOH:=Lib.hid ho
 rw [ho]at HI HCC ⊢
 clear ho h6 hb hl
 have hrI:I64 rn∧I64 rd:=by
  exact tz60
 clear hok
 dsimp only at HN
 obtain⟨dk,hdk⟩:∃k,decOk rn rd dm=k:=⟨_,rfl⟩
 have HFD:=Lib.hid (fun W hg=>HFD0.out rn rd hrI.1 hrI.2 W hg)
 unfold FdPost at HFD
 rw [hdk]at HFD
 dsimp only at HCC
 rw [hdk]at HCC
 clear hdk HFD0 hrI
 go_enter Tryz.func89,Tryz.ntmps89
 go_upto_region 24 with (go_at_call 46;refine(HI.out _ growsR).mono ?_;rintro e' w' ⟨rfl,bs1,d1,rfl⟩)
 refine TS.begin [11] (World.Grows ((((w.alloc (.cells #[.int .i64 10,.int .i64 e.num,.int .i64 e.den,.int .i64 e.dim,.string e.name,.slice (some ⟨b,off,none⟩) 2 cap] 27)).alloc (.cells #[.int .i64 0,.int .i64 0,.int .i64 0,.int .i64 0,.string ⟨#[]⟩,.slice none 0 0] 27)).grow bs1 d1).alloc (.cells #[.int .i64 xn,.int .i64 xd] 24))) (by kernel_rfl) (by kernel_rfl) growsR (fun hS=>?_)
 refine TS.wkB 0 hS ?_
 refine TS.wkB 1 hS ?_
 refine TS.wkB 2 hS ?_
 refine TS.wkB 3 hS ?_
 refine TS.wkB 4 hS ?_
 refine TS.wkB 5 hS ?_
 refine TS.one (i:=6) (by kernel_rfl) rfl (fun K1 hK1=>?_)
 have HK1:=Lib.hid hK1
 clear hK1 hS
 dsimp only [List.getElem_toArray,List.getElem_cons_succ,List.getElem_cons_zero]
 go_simp
 go_at_call 142
 exact tz2
end Go.Proofs.YtfoefpoaomepbaaGreatDoor
