import Derived.Test.YtfoefpoaomepbaaGreatDoorFEvQ
import Derived.Test.YtfoefpoaomepbaaGreatDoorFK
import Derived.ProofKit
import Derived.SizedLaws
import Derived.Deep.Matrix
import Derived.Deep.Fields
import Derived.OpenShut
import Derived.Test.YtfoefpoaomepbaaGreatDoorRows
import Derived.Below
import Derived.Handed
import Derived.LaidLaws
import Derived.LaidSub
import Derived.Lay
import Derived.Stop.LaidErr
import Derived.MakeChecks
import Derived.Lib.LaidTab
set_option linter.all false
set_option maxHeartbeats 16000000
set_option maxRecDepth 1000000
namespace Go.Proofs.YtfoefpoaomepbaaGreatDoor
open Go.RowKit
theorem foldable_any(op:Int)(w:World):Calls Tryz.prog 88 #[.int .i64 op] w fun e w'=>e= .returned (.bool (foldOp op))∧w=w':=by
 by_cases h4:op=4
 ·subst h4
  exact fz31
 by_cases h6:op=6
 ·subst h6
  exact fz31
 by_cases h7:op=7
 ·subst h7
  exact fz31
 by_cases h8:op=8
 ·subst h8
  exact fz31
 by_cases h9:op=9
 ·subst h9
  exact fz31
 by_cases h10:op=10
 ·subst h10
  exact fz31
 by_cases h19:op=19
 ·subst h19
  exact fz31
 by_cases h20:op=20
 ·subst h20
  exact fz31
 have hf:foldOp op=false:=by unfold foldOp;simp only [decide_eq_false_iff_not];omega
 have b4:(op==4)=false:=by simpa using h4
 have b6:(op==6)=false:=by simpa using h6
 have b7:(op==7)=false:=by simpa using h7
 have b8:(op==8)=false:=by simpa using h8
 have b9:(op==9)=false:=by simpa using h9
 have b10:(op==10)=false:=by simpa using h10
 have b19:(op==19)=false:=by simpa using h19
 have b20:(op==20)=false:=by simpa using h20
 rw [hf]
 clear h4 h6 h7 h8 h9 h10 h19 h20 hf
 exact fz31
theorem okF_i64{r:Int × Int × Int}(h:okF r):I64 r.1∧I64 r.2.1:=by
 unfold I64
 rcases h with ⟨-,h⟩|⟨h1,h2,-⟩
 ·have:=vfrac_bd h;omega
 ·rw [h1,h2];omega
theorem resD_bd2{op a b:Int}(ha:2≤a∧a≤4)(hb:2≤b∧b≤4):I64 (resD op [a,b]):=by
 unfold resD I64
 have e0:([a,b]:List Int).getD 0 0=a:=rfl
 have e1:([a,b]:List Int).getD 1 0=b:=rfl
 have e2:([a,b]:List Int).getD 2 0=0:=rfl
 simp only [e0,e1,e2]
 (repeat' split)<;>omega
theorem resD_bd1{op a:Int}(ha:2≤a∧a≤4):I64 (resD op [a]):=by
 unfold resD I64
 have e0:([a]:List Int).getD 0 0=a:=rfl
 have e1:([a]:List Int).getD 1 0=0:=rfl
 have e2:([a]:List Int).getD 2 0=0:=rfl
 simp only [e0,e1,e2]
 (repeat' split)<;>omega
theorem lit_bd{e:Ex}(ok:CalcOk e){i:Nat}(hi:i<e.args.length):(2≤(e.arg i).dim∧(e.arg i).dim≤4)∧vfrac (e.arg i).num (e.arg i).den=true:=by
 have hm:e.arg i∈e.args:=by
  exact fz76
 have:=decOk_bd (lit_dec (formeds_mem ok.args.1 _ hm) (ok.lit _ hm))
 exact⟨this.2,this.1⟩
theorem bind_nil(w:World):BindAt w (.slice none 0 0) []:=⟨by simp,none,0,rfl,.inl rfl⟩
theorem foldOp_two{op:Int}(h:foldOp op=true)(h6:¬op≤6):op=7∨op=8∨op=9∨op=10∨op=19∨op=20:=by
 unfold foldOp at h
 simp only [decide_eq_true_eq]at h
 omega
def clcV(r:Option (Int × Int × Int))(e:Ex)(v:Value):Value:=
 match r with
 |some r=>.tuple #[.agg #[.int .i64 1,.int .i64 r.1,.int .i64 r.2.1,.int .i64 r.2.2,.string ⟨#[]⟩,.slice none 0 0],.bool true]
 |none=>.tuple #[exV e v,.bool false]
def ClcP(r:Option (Int × Int × Int))(e:Ex)(v:Value)(w:World)(en:Ending)(w':World):Prop:=en= .returned (clcV r e v)∧w.Grows w'
theorem ClcP.no{r:Option (Int × Int × Int)}{e:Ex}{v x:Value}{w w':World}(h:r=none)(hx:x=exV e v)(hg:w.Grows w'):ClcP r e v w (.returned (.tuple #[x,.bool false])) w':=by
 subst h hx;exact⟨rfl,hg⟩
theorem ClcP.yes{r:Option (Int × Int × Int)}{n d m:Int}{e:Ex}{v:Value}{w w':World}(h:r=some (n,d,m))(hg:w.Grows w'):ClcP r e v w (.returned (.tuple #[.agg #[.int .i64 1,.int .i64 n,.int .i64 d,.int .i64 m,.string ⟨#[]⟩,.slice none 0 0],.bool true])) w':=by
 subst h;exact⟨rfl,hg⟩
theorem opMin{e:Ex}(ho:e.op=19)(ha:e.args= [e.arg 0,e.arg 1]):opV e.op (e.args.map litV)=(if cmpI (e.arg 0).num (e.arg 0).den (e.arg 1).num (e.arg 1).den≤0 then .num (e.arg 0).dim (e.arg 0).num (e.arg 0).den else .num (e.arg 0).dim (e.arg 1).num (e.arg 1).den,0):=by
 rw [ha,ho];rfl
theorem opMax{e:Ex}(ho:e.op=20)(ha:e.args= [e.arg 0,e.arg 1]):opV e.op (e.args.map litV)=(if 0≤cmpI (e.arg 0).num (e.arg 0).den (e.arg 1).num (e.arg 1).den then .num (e.arg 0).dim (e.arg 0).num (e.arg 0).den else .num (e.arg 0).dim (e.arg 1).num (e.arg 1).den,0):=by
 rw [ha,ho];rfl
theorem clc_bad(S:Nat→Prop)(e:Ex)(v:Value)(w:World)(h:RepE S w e v)(ok:CalcOk e)(ht:Tab w)(hres:resD e.op (e.args.map Ex.dim)=0):Calls Tryz.prog 89 #[exV e v] w (ClcP (calcF e.op e.args) e v w):=by
 have hb:=foldOp_bd ok.op
 have hrng:=h.rng
 have HI:=Lib.hid (fun W (hg:w.Grows W)=>Infer2_any S [] e v (.slice none 0 0) W (h.grows hg) (by have:=ok.valid;unfold validB at this;simp only [Bool.and_eq_true,decide_eq_true_eq]at this;omega) (ht.grows hg) (bind_nil W))
 rw [ok.infer]at HI
 have HO:=Lib.hid ok
 cases h with
 |mk _ a cap vs hr hc hs=>
 rw [if_pos hres]at HI
 have HN:Hid (calcF e.op e.args=none):=Lib.hid (CalcOk.no hres)
 unfold InfP exV at HI
 clear hres ok hs hc
 go_enter Tryz.func89,Tryz.ntmps89
 go_wp2_with (go_at_call 46;refine(HI.out _ growsR).mono ?_;rintro e' w' ⟨rfl,bs1,d1,rfl⟩)
 go_returns
 exact .no HN.out rfl growsR
theorem clc_neg(S:Nat→Prop)(e:Ex)(v:Value)(w:World)(h:RepE S w e v)(ok:CalcOk e)(ht:Tab w)(hres:resD e.op (e.args.map Ex.dim)≠0)(ho:e.op=4):Calls Tryz.prog 89 #[exV e v] w (ClcP (calcF e.op e.args) e v w):=by
 have hb:=foldOp_bd ok.op
 have hrng:=h.rng
 have HI:=Lib.hid (fun W (hg:w.Grows W)=>Infer2_any S [] e v (.slice none 0 0) W (h.grows hg) (by have:=ok.valid;unfold validB at this;simp only [Bool.and_eq_true,decide_eq_true_eq]at this;omega) (ht.grows hg) (bind_nil W))
 rw [ok.infer]at HI
 have HO:=Lib.hid ok
 cases h with
 |mk _ a cap vs hr hc hs=>
 rw [if_neg hres]at HI
 have hCC:=fun r hR=>CalcOk.calc ok r hR hres
 obtain⟨dm,hdm⟩:∃d,resD e.op (e.args.map Ex.dim)=d:=⟨_,rfl⟩
 rw [hdm]at HI hCC
 unfold InfP exV at HI
 have hlen:=hr.len
 have h6:e.op≤6:=by omega
 have ha:=ok.one h6
 have hl:e.args.length=1:=by rw [ha];rfl
 have hxk:=lit_bd ok (i:=0) (by omega)
 rw [ha]at hdm
 have hdb:I64 dm:=by rw [←hdm];exact resD_bd1 hxk.1
 have HFD0:=Lib.hid (fun n d (h1:I64 n) (h2:I64 d) W (hg:w.Grows W)=>FormatDecimal2_any n d dm W h1 h2 hdb (ht.grows hg))
 obtain⟨b,off,rfl,hS,hlt,hx⟩:=hc.resolve_left (by omega)
 obtain⟨-,x1,x2,-,-,-⟩:=hx 0 (by omega)
 simp only [Nat.zero_mul,Nat.add_zero]at x1 x2
 obtain⟨-,hv⟩:=hxk
 have hbd:=vfrac_bd hv
 unfold exV
 rw [hl]at HI ⊢
 have hok:=negF_ok hv
 have HN:=Lib.hid (fun W=>Neg2_any (e.arg 0).num (e.arg 0).den W (by omega) (by omega) (by omega) (by omega))
 have HCC:=Lib.hid (hCC (negF (e.arg 0).num (e.arg 0).den) (by
  have:opV e.op (e.args.map litV)=numR (e.arg 0).dim (negF (e.arg 0).num (e.arg 0).den):=by rw [ho,ha];rfl
  rw [this];exact numR_res _ _))
 unfold frV at HN
 generalize negF (e.arg 0).num (e.arg 0).den=r at *
 obtain⟨rn,rd,rc⟩:=r
 generalize(e.arg 0).num=xn at *
 generalize(e.arg 0).den=xd at *
 clear hCC hres ok hs hc hx hS ha hdm hbd hv HO hdb hr hrng
 have HOH:=Lib.hid ho
 rw [ho]at HI HCC ⊢
 clear ho h6 hb hl
 have hrI:I64 rn∧I64 rd:=by
  exact fz75
 clear hok
 dsimp only at HN
 obtain⟨dk,hdk⟩:∃k,decOk rn rd dm=k:=⟨_,rfl⟩
 have HFD:=Lib.hid (fun W hg=>HFD0.out rn rd hrI.1 hrI.2 W hg)
 unfold FdPost at HFD
 rw [hdk]at HFD
 dsimp only at HCC
 rw [hdk]at HCC
 clear hdk HFD0 hrI
 go_enter Tryz.func89,Tryz.ntmps89
 go_upto_region 25 with (first
  |(go_at_call 46;refine(HI.out _ growsR).mono ?_;rintro e' w' ⟨rfl,bs1,d1,rfl⟩)
  |(go_at_call 137;refine(HN.out _).mono ?_;rintro e' w' ⟨rfl,bs2,d2,rfl⟩))
 exact fz19
theorem clc_floor(S:Nat→Prop)(e:Ex)(v:Value)(w:World)(h:RepE S w e v)(ok:CalcOk e)(ht:Tab w)(hres:resD e.op (e.args.map Ex.dim)≠0)(ho:e.op=6):Calls Tryz.prog 89 #[exV e v] w (ClcP (calcF e.op e.args) e v w):=by
 have hb:=foldOp_bd ok.op
 have hrng:=h.rng
 have HI:=Lib.hid (fun W (hg:w.Grows W)=>Infer2_any S [] e v (.slice none 0 0) W (h.grows hg) (by have:=ok.valid;unfold validB at this;simp only [Bool.and_eq_true,decide_eq_true_eq]at this;omega) (ht.grows hg) (bind_nil W))
 rw [ok.infer]at HI
 have HO:=Lib.hid ok
 cases h with
 |mk _ a cap vs hr hc hs=>
 rw [if_neg hres]at HI
 have hCC:=fun r hR=>CalcOk.calc ok r hR hres
 obtain⟨dm,hdm⟩:∃d,resD e.op (e.args.map Ex.dim)=d:=⟨_,rfl⟩
 rw [hdm]at HI hCC
 unfold InfP exV at HI
 have hlen:=hr.len
 have h6:e.op≤6:=by omega
 have ha:=ok.one h6
 have hl:e.args.length=1:=by rw [ha];rfl
 have hxk:=lit_bd ok (i:=0) (by omega)
 rw [ha]at hdm
 have hdb:I64 dm:=by rw [←hdm];exact resD_bd1 hxk.1
 have HFD0:=Lib.hid (fun n d (h1:I64 n) (h2:I64 d) W (hg:w.Grows W)=>FormatDecimal2_any n d dm W h1 h2 hdb (ht.grows hg))
 obtain⟨b,off,rfl,hS,hlt,hx⟩:=hc.resolve_left (by omega)
 obtain⟨-,x1,x2,-,-,-⟩:=hx 0 (by omega)
 simp only [Nat.zero_mul,Nat.add_zero]at x1 x2
 obtain⟨-,hv⟩:=hxk
 have hbd:=vfrac_bd hv
 unfold exV
 rw [hl]at HI ⊢
 have hok:=floor_ok hv
 have HN:=Lib.hid (fun W=>Floor2_any (e.arg 0).num (e.arg 0).den W (by omega) (by omega) (by omega) (by omega))
 have HCC:=Lib.hid (hCC ((floorF (e.arg 0).num (e.arg 0).den).1,1,(floorF (e.arg 0).num (e.arg 0).den).2) (by
  have:opV e.op (e.args.map litV)=numR (e.arg 0).dim ((floorF (e.arg 0).num (e.arg 0).den).1,1,(floorF (e.arg 0).num (e.arg 0).den).2):=by rw [ho,ha];rfl
  rw [this];exact numR_res _ _))
 unfold frI at HN
 generalize floorF (e.arg 0).num (e.arg 0).den=r at *
 obtain⟨rn,rc⟩:=r
 generalize(e.arg 0).num=xn at *
 generalize(e.arg 0).den=xd at *
 clear hCC hres ok hs hc hx hS ha hdm hbd hv HO hdb hr hrng
 have HOH:=Lib.hid ho
 rw [ho]at HI HCC ⊢
 clear ho h6 hb hl
 have hrI:I64 rn∧I64 1:=by
  exact fz75
 clear hok
 dsimp only at HN
 obtain⟨dk,hdk⟩:∃k,decOk rn 1 dm=k:=⟨_,rfl⟩
 have HFD:=Lib.hid (fun W hg=>HFD0.out rn 1 hrI.1 hrI.2 W hg)
 unfold FdPost at HFD
 rw [hdk]at HFD
 dsimp only at HCC
 rw [hdk]at HCC
 clear hdk HFD0 hrI
 go_enter Tryz.func89,Tryz.ntmps89
 go_upto_region 25 with (first
  |(go_at_call 46;refine(HI.out _ growsR).mono ?_;rintro e' w' ⟨rfl,bs1,d1,rfl⟩)
  |(go_at_call 138;refine(HN.out _).mono ?_;rintro e' w' ⟨rfl,bs2,d2,rfl⟩))
 exact fz19
theorem clc_add(S:Nat→Prop)(e:Ex)(v:Value)(w:World)(h:RepE S w e v)(ok:CalcOk e)(ht:Tab w)(hres:resD e.op (e.args.map Ex.dim)≠0)(ho:e.op=7):Calls Tryz.prog 89 #[exV e v] w (ClcP (calcF e.op e.args) e v w):=by
 have hb:=foldOp_bd ok.op
 have hrng:=h.rng
 have HI:=Lib.hid (fun W (hg:w.Grows W)=>Infer2_any S [] e v (.slice none 0 0) W (h.grows hg) (by have:=ok.valid;unfold validB at this;simp only [Bool.and_eq_true,decide_eq_true_eq]at this;omega) (ht.grows hg) (bind_nil W))
 rw [ok.infer]at HI
 have HO:=Lib.hid ok
 cases h with
 |mk _ a cap vs hr hc hs=>
 rw [if_neg hres]at HI
 have hCC:=fun r hR=>CalcOk.calc ok r hR hres
 obtain⟨dm,hdm⟩:∃d,resD e.op (e.args.map Ex.dim)=d:=⟨_,rfl⟩
 rw [hdm]at HI hCC
 unfold InfP exV at HI
 have hlen:=hr.len
 have h6:7≤e.op:=by omega
 have ha:=ok.two h6
 have hl:e.args.length=2:=by rw [ha];rfl
 obtain⟨hxd,hv⟩:=lit_bd ok (i:=0) (by omega)
 obtain⟨hyd,hv2⟩:=lit_bd ok (i:=1) (by omega)
 rw [ha]at hdm
 have hdb:I64 dm:=by rw [←hdm];exact resD_bd2 hxd hyd
 have HFD0:=Lib.hid (fun n d (h1:I64 n) (h2:I64 d) W (hg:w.Grows W)=>FormatDecimal2_any n d dm W h1 h2 hdb (ht.grows hg))
 obtain⟨b,off,rfl,hS,hlt,hx⟩:=hc.resolve_left (by omega)
 obtain⟨-,x1,x2,-,-,-⟩:=hx 0 (by omega)
 obtain⟨-,y1,y2,-,-,-⟩:=hx 1 (by omega)
 simp only [Nat.zero_mul,Nat.add_zero,Nat.one_mul]at x1 x2 y1 y2
 have hbd:=vfrac_bd hv
 have hbd2:=vfrac_bd hv2
 have hi:I64x4 (e.arg 0).num (e.arg 0).den (e.arg 1).num (e.arg 1).den:=⟨⟨by omega,by omega⟩,⟨by omega,by omega⟩,⟨by omega,by omega⟩,⟨by omega,by omega⟩⟩
 unfold exV
 rw [hl]at HI ⊢
 have HN:=Lib.hid (fun W=>Add2_any (e.arg 0).num (e.arg 0).den (e.arg 1).num (e.arg 1).den W hi)
 have hok:=addF_ok hv hv2
 have HCC:=Lib.hid (hCC (addF (e.arg 0).num (e.arg 0).den (e.arg 1).num (e.arg 1).den) (by
  have:opV e.op (e.args.map litV)=numR ((e.arg 0).dim) (addF (e.arg 0).num (e.arg 0).den (e.arg 1).num (e.arg 1).den):=by rw [ho,ha];rfl
  rw [this];exact numR_res _ _))
 unfold frV at HN
 generalize addF (e.arg 0).num (e.arg 0).den (e.arg 1).num (e.arg 1).den=r at *
 obtain⟨rn,rd,rc⟩:=r
 generalize(e.arg 0).num=xn at *
 generalize(e.arg 0).den=xd at *
 generalize(e.arg 1).num=yn at *
 generalize(e.arg 1).den=yd at *
 clear hCC hres ok hs hc hx hS ha hdm hbd hbd2 hi hv hv2 HO hdb hr hrng
 have HOH:=Lib.hid ho
 rw [ho]at HI HCC ⊢
 clear ho h6 hb hl
 have hrI:I64 rn∧I64 rd:=by
  exact fz75
 clear hok
 dsimp only at HN
 obtain⟨dk,hdk⟩:∃k,decOk rn rd dm=k:=⟨_,rfl⟩
 have HFD:=Lib.hid (fun W hg=>HFD0.out rn rd hrI.1 hrI.2 W hg)
 unfold FdPost at HFD
 rw [hdk]at HFD
 dsimp only at HCC
 rw [hdk]at HCC
 clear hdk HFD0 hrI
 go_enter Tryz.func89,Tryz.ntmps89
 go_upto_region 18 with (go_at_call 46;refine(HI.out _ growsR).mono ?_;rintro e' w' ⟨rfl,bs1,d1,rfl⟩)
 refine TS.begin [11] (World.Grows ((((w.alloc (.cells #[.int .i64 7,.int .i64 e.num,.int .i64 e.den,.int .i64 e.dim,.string e.name,.slice (some ⟨b,off,none⟩) 2 cap] 27)).alloc (.cells #[.int .i64 0,.int .i64 0,.int .i64 0,.int .i64 0,.string ⟨#[]⟩,.slice none 0 0] 27)).grow bs1 d1).alloc (.cells #[.int .i64 xn,.int .i64 xd] 24))) (by kernel_rfl) (by kernel_rfl) growsR (fun hS=>?_)
 refine TS.wkB 0 hS ?_
 refine TS.wkB 1 hS ?_
 refine TS.wkB 2 hS ?_
 refine TS.wkB 3 hS ?_
 refine TS.wkB 4 hS ?_
 refine TS.wkB 5 hS ?_
 refine TS.one (i:=6) (by kernel_rfl) rfl (fun K1 hK1=>?_)
 have HK1:=Lib.hid hK1
 clear hK1 hS
 dsimp only [List.getElem_toArray,List.getElem_cons_succ,List.getElem_cons_zero]
 go_simp
 go_at_call 139
 exact fz2
theorem clc_sub(S:Nat→Prop)(e:Ex)(v:Value)(w:World)(h:RepE S w e v)(ok:CalcOk e)(ht:Tab w)(hres:resD e.op (e.args.map Ex.dim)≠0)(ho:e.op=8):Calls Tryz.prog 89 #[exV e v] w (ClcP (calcF e.op e.args) e v w):=by
 have hb:=foldOp_bd ok.op
 have hrng:=h.rng
 have HI:=Lib.hid (fun W (hg:w.Grows W)=>Infer2_any S [] e v (.slice none 0 0) W (h.grows hg) (by have:=ok.valid;unfold validB at this;simp only [Bool.and_eq_true,decide_eq_true_eq]at this;omega) (ht.grows hg) (bind_nil W))
 rw [ok.infer]at HI
 have HO:=Lib.hid ok
 cases h with
 |mk _ a cap vs hr hc hs=>
 rw [if_neg hres]at HI
 have hCC:=fun r hR=>CalcOk.calc ok r hR hres
 obtain⟨dm,hdm⟩:∃d,resD e.op (e.args.map Ex.dim)=d:=⟨_,rfl⟩
 rw [hdm]at HI hCC
 unfold InfP exV at HI
 have hlen:=hr.len
 have h6:7≤e.op:=by omega
 have ha:=ok.two h6
 have hl:e.args.length=2:=by rw [ha];rfl
 obtain⟨hxd,hv⟩:=lit_bd ok (i:=0) (by omega)
 obtain⟨hyd,hv2⟩:=lit_bd ok (i:=1) (by omega)
 rw [ha]at hdm
 have hdb:I64 dm:=by rw [←hdm];exact resD_bd2 hxd hyd
 have HFD0:=Lib.hid (fun n d (h1:I64 n) (h2:I64 d) W (hg:w.Grows W)=>FormatDecimal2_any n d dm W h1 h2 hdb (ht.grows hg))
 obtain⟨b,off,rfl,hS,hlt,hx⟩:=hc.resolve_left (by omega)
 obtain⟨-,x1,x2,-,-,-⟩:=hx 0 (by omega)
 obtain⟨-,y1,y2,-,-,-⟩:=hx 1 (by omega)
 simp only [Nat.zero_mul,Nat.add_zero,Nat.one_mul]at x1 x2 y1 y2
 have hbd:=vfrac_bd hv
 have hbd2:=vfrac_bd hv2
 have hi:I64x4 (e.arg 0).num (e.arg 0).den (e.arg 1).num (e.arg 1).den:=⟨⟨by omega,by omega⟩,⟨by omega,by omega⟩,⟨by omega,by omega⟩,⟨by omega,by omega⟩⟩
 unfold exV
 rw [hl]at HI ⊢
 have HN:=Lib.hid (fun W=>Sub2_any (e.arg 0).num (e.arg 0).den (e.arg 1).num (e.arg 1).den W hi)
 have hok:=subF_ok hv hv2
 have HCC:=Lib.hid (hCC (subF (e.arg 0).num (e.arg 0).den (e.arg 1).num (e.arg 1).den) (by
  have:opV e.op (e.args.map litV)=numR ((e.arg 0).dim) (subF (e.arg 0).num (e.arg 0).den (e.arg 1).num (e.arg 1).den):=by rw [ho,ha];rfl
  rw [this];exact numR_res _ _))
 unfold frV at HN
 generalize subF (e.arg 0).num (e.arg 0).den (e.arg 1).num (e.arg 1).den=r at *
 obtain⟨rn,rd,rc⟩:=r
 generalize(e.arg 0).num=xn at *
 generalize(e.arg 0).den=xd at *
 generalize(e.arg 1).num=yn at *
 generalize(e.arg 1).den=yd at *
 clear hCC hres ok hs hc hx hS ha hdm hbd hbd2 hi hv hv2 HO hdb hr hrng
 have HOH:=Lib.hid ho
 rw [ho]at HI HCC ⊢
 clear ho h6 hb hl
 have hrI:I64 rn∧I64 rd:=by
  exact fz75
 clear hok
 dsimp only at HN
 obtain⟨dk,hdk⟩:∃k,decOk rn rd dm=k:=⟨_,rfl⟩
 have HFD:=Lib.hid (fun W hg=>HFD0.out rn rd hrI.1 hrI.2 W hg)
 unfold FdPost at HFD
 rw [hdk]at HFD
 dsimp only at HCC
 rw [hdk]at HCC
 clear hdk HFD0 hrI
 go_enter Tryz.func89,Tryz.ntmps89
 go_upto_region 20 with (go_at_call 46;refine(HI.out _ growsR).mono ?_;rintro e' w' ⟨rfl,bs1,d1,rfl⟩)
 refine TS.begin [11] (World.Grows ((((w.alloc (.cells #[.int .i64 8,.int .i64 e.num,.int .i64 e.den,.int .i64 e.dim,.string e.name,.slice (some ⟨b,off,none⟩) 2 cap] 27)).alloc (.cells #[.int .i64 0,.int .i64 0,.int .i64 0,.int .i64 0,.string ⟨#[]⟩,.slice none 0 0] 27)).grow bs1 d1).alloc (.cells #[.int .i64 xn,.int .i64 xd] 24))) (by kernel_rfl) (by kernel_rfl) growsR (fun hS=>?_)
 refine TS.wkB 0 hS ?_
 refine TS.wkB 1 hS ?_
 refine TS.wkB 2 hS ?_
 refine TS.wkB 3 hS ?_
 refine TS.wkB 4 hS ?_
 refine TS.wkB 5 hS ?_
 refine TS.one (i:=6) (by kernel_rfl) rfl (fun K1 hK1=>?_)
 have HK1:=Lib.hid hK1
 clear hK1 hS
 dsimp only [List.getElem_toArray,List.getElem_cons_succ,List.getElem_cons_zero]
 go_simp
 go_at_call 140
 exact fz2
theorem clc_mul(S:Nat→Prop)(e:Ex)(v:Value)(w:World)(h:RepE S w e v)(ok:CalcOk e)(ht:Tab w)(hres:resD e.op (e.args.map Ex.dim)≠0)(ho:e.op=9):Calls Tryz.prog 89 #[exV e v] w (ClcP (calcF e.op e.args) e v w):=by
 have hb:=foldOp_bd ok.op
 have hrng:=h.rng
 have HI:=Lib.hid (fun W (hg:w.Grows W)=>Infer2_any S [] e v (.slice none 0 0) W (h.grows hg) (by have:=ok.valid;unfold validB at this;simp only [Bool.and_eq_true,decide_eq_true_eq]at this;omega) (ht.grows hg) (bind_nil W))
 rw [ok.infer]at HI
 have HO:=Lib.hid ok
 cases h with
 |mk _ a cap vs hr hc hs=>
 rw [if_neg hres]at HI
 have hCC:=fun r hR=>CalcOk.calc ok r hR hres
 obtain⟨dm,hdm⟩:∃d,resD e.op (e.args.map Ex.dim)=d:=⟨_,rfl⟩
 rw [hdm]at HI hCC
 unfold InfP exV at HI
 have hlen:=hr.len
 have h6:7≤e.op:=by omega
 have ha:=ok.two h6
 have hl:e.args.length=2:=by rw [ha];rfl
 obtain⟨hxd,hv⟩:=lit_bd ok (i:=0) (by omega)
 obtain⟨hyd,hv2⟩:=lit_bd ok (i:=1) (by omega)
 rw [ha]at hdm
 have hdb:I64 dm:=by rw [←hdm];exact resD_bd2 hxd hyd
 have HFD0:=Lib.hid (fun n d (h1:I64 n) (h2:I64 d) W (hg:w.Grows W)=>FormatDecimal2_any n d dm W h1 h2 hdb (ht.grows hg))
 obtain⟨b,off,rfl,hS,hlt,hx⟩:=hc.resolve_left (by omega)
 obtain⟨-,x1,x2,-,-,-⟩:=hx 0 (by omega)
 obtain⟨-,y1,y2,-,-,-⟩:=hx 1 (by omega)
 simp only [Nat.zero_mul,Nat.add_zero,Nat.one_mul]at x1 x2 y1 y2
 have hbd:=vfrac_bd hv
 have hbd2:=vfrac_bd hv2
 have hi:I64x4 (e.arg 0).num (e.arg 0).den (e.arg 1).num (e.arg 1).den:=⟨⟨by omega,by omega⟩,⟨by omega,by omega⟩,⟨by omega,by omega⟩,⟨by omega,by omega⟩⟩
 unfold exV
 rw [hl]at HI ⊢
 have HN:=Lib.hid (fun W=>Mul2_any (e.arg 0).num (e.arg 0).den (e.arg 1).num (e.arg 1).den W hi)
 have hok:=mulF_ok hv hv2
 have HCC:=Lib.hid (hCC (mulF (e.arg 0).num (e.arg 0).den (e.arg 1).num (e.arg 1).den) (by
  have:opV e.op (e.args.map litV)=numR (resD 9 [(e.arg 0).dim,(e.arg 1).dim]) (mulF (e.arg 0).num (e.arg 0).den (e.arg 1).num (e.arg 1).den):=by rw [ho,ha];rfl
  rw [this];exact numR_res _ _))
 unfold frV at HN
 generalize mulF (e.arg 0).num (e.arg 0).den (e.arg 1).num (e.arg 1).den=r at *
 obtain⟨rn,rd,rc⟩:=r
 generalize(e.arg 0).num=xn at *
 generalize(e.arg 0).den=xd at *
 generalize(e.arg 1).num=yn at *
 generalize(e.arg 1).den=yd at *
 clear hCC hres ok hs hc hx hS ha hdm hbd hbd2 hi hv hv2 HO hdb hr hrng
 have HOH:=Lib.hid ho
 rw [ho]at HI HCC ⊢
 clear ho h6 hb hl
 have hrI:I64 rn∧I64 rd:=by
  exact fz75
 clear hok
 dsimp only at HN
 obtain⟨dk,hdk⟩:∃k,decOk rn rd dm=k:=⟨_,rfl⟩
 have HFD:=Lib.hid (fun W hg=>HFD0.out rn rd hrI.1 hrI.2 W hg)
 unfold FdPost at HFD
 rw [hdk]at HFD
 dsimp only at HCC
 rw [hdk]at HCC
 clear hdk HFD0 hrI
 go_enter Tryz.func89,Tryz.ntmps89
 go_upto_region 22 with (go_at_call 46;refine(HI.out _ growsR).mono ?_;rintro e' w' ⟨rfl,bs1,d1,rfl⟩)
 refine TS.begin [11] (World.Grows ((((w.alloc (.cells #[.int .i64 9,.int .i64 e.num,.int .i64 e.den,.int .i64 e.dim,.string e.name,.slice (some ⟨b,off,none⟩) 2 cap] 27)).alloc (.cells #[.int .i64 0,.int .i64 0,.int .i64 0,.int .i64 0,.string ⟨#[]⟩,.slice none 0 0] 27)).grow bs1 d1).alloc (.cells #[.int .i64 xn,.int .i64 xd] 24))) (by kernel_rfl) (by kernel_rfl) growsR (fun hS=>?_)
 refine TS.wkB 0 hS ?_
 refine TS.wkB 1 hS ?_
 refine TS.wkB 2 hS ?_
 refine TS.wkB 3 hS ?_
 refine TS.wkB 4 hS ?_
 refine TS.wkB 5 hS ?_
 refine TS.one (i:=6) (by kernel_rfl) rfl (fun K1 hK1=>?_)
 have HK1:=Lib.hid hK1
 clear hK1 hS
 dsimp only [List.getElem_toArray,List.getElem_cons_succ,List.getElem_cons_zero]
 go_simp
 go_at_call 141
 exact fz2
theorem clc_div(S:Nat→Prop)(e:Ex)(v:Value)(w:World)(h:RepE S w e v)(ok:CalcOk e)(ht:Tab w)(hres:resD e.op (e.args.map Ex.dim)≠0)(ho:e.op=10):Calls Tryz.prog 89 #[exV e v] w (ClcP (calcF e.op e.args) e v w):=by
 have hb:=foldOp_bd ok.op
 have hrng:=h.rng
 have HI:=Lib.hid (fun W (hg:w.Grows W)=>Infer2_any S [] e v (.slice none 0 0) W (h.grows hg) (by have:=ok.valid;unfold validB at this;simp only [Bool.and_eq_true,decide_eq_true_eq]at this;omega) (ht.grows hg) (bind_nil W))
 rw [ok.infer]at HI
 have HO:=Lib.hid ok
 cases h with
 |mk _ a cap vs hr hc hs=>
 rw [if_neg hres]at HI
 have hCC:=fun r hR=>CalcOk.calc ok r hR hres
 obtain⟨dm,hdm⟩:∃d,resD e.op (e.args.map Ex.dim)=d:=⟨_,rfl⟩
 rw [hdm]at HI hCC
 unfold InfP exV at HI
 have hlen:=hr.len
 have h6:7≤e.op:=by omega
 have ha:=ok.two h6
 have hl:e.args.length=2:=by rw [ha];rfl
 obtain⟨hxd,hv⟩:=lit_bd ok (i:=0) (by omega)
 obtain⟨hyd,hv2⟩:=lit_bd ok (i:=1) (by omega)
 rw [ha]at hdm
 have hdb:I64 dm:=by rw [←hdm];exact resD_bd2 hxd hyd
 have HFD0:=Lib.hid (fun n d (h1:I64 n) (h2:I64 d) W (hg:w.Grows W)=>FormatDecimal2_any n d dm W h1 h2 hdb (ht.grows hg))
 obtain⟨b,off,rfl,hS,hlt,hx⟩:=hc.resolve_left (by omega)
 obtain⟨-,x1,x2,-,-,-⟩:=hx 0 (by omega)
 obtain⟨-,y1,y2,-,-,-⟩:=hx 1 (by omega)
 simp only [Nat.zero_mul,Nat.add_zero,Nat.one_mul]at x1 x2 y1 y2
 have hbd:=vfrac_bd hv
 have hbd2:=vfrac_bd hv2
 have hi:I64x4 (e.arg 0).num (e.arg 0).den (e.arg 1).num (e.arg 1).den:=⟨⟨by omega,by omega⟩,⟨by omega,by omega⟩,⟨by omega,by omega⟩,⟨by omega,by omega⟩⟩
 unfold exV
 rw [hl]at HI ⊢
 have HN:=Lib.hid (fun W=>Div2_any (e.arg 0).num (e.arg 0).den (e.arg 1).num (e.arg 1).den W hi)
 have hok:=divF_ok hv hv2
 have HCC:=Lib.hid (hCC (divF (e.arg 0).num (e.arg 0).den (e.arg 1).num (e.arg 1).den) (by
  have:opV e.op (e.args.map litV)=numR (resD 10 [(e.arg 0).dim,(e.arg 1).dim]) (divF (e.arg 0).num (e.arg 0).den (e.arg 1).num (e.arg 1).den):=by rw [ho,ha];rfl
  rw [this];exact numR_res _ _))
 unfold frV at HN
 generalize divF (e.arg 0).num (e.arg 0).den (e.arg 1).num (e.arg 1).den=r at *
 obtain⟨rn,rd,rc⟩:=r
 generalize(e.arg 0).num=xn at *
 generalize(e.arg 0).den=xd at *
 generalize(e.arg 1).num=yn at *
 generalize(e.arg 1).den=yd at *
 clear hCC hres ok hs hc hx hS ha hdm hbd hbd2 hi hv hv2 HO hdb hr hrng
 have HOH:=Lib.hid ho
 rw [ho]at HI HCC ⊢
 clear ho h6 hb hl
 have hrI:I64 rn∧I64 rd:=by
  exact fz75
 clear hok
 dsimp only at HN
 obtain⟨dk,hdk⟩:∃k,decOk rn rd dm=k:=⟨_,rfl⟩
 have HFD:=Lib.hid (fun W hg=>HFD0.out rn rd hrI.1 hrI.2 W hg)
 unfold FdPost at HFD
 rw [hdk]at HFD
 dsimp only at HCC
 rw [hdk]at HCC
 clear hdk HFD0 hrI
 go_enter Tryz.func89,Tryz.ntmps89
 go_upto_region 24 with (go_at_call 46;refine(HI.out _ growsR).mono ?_;rintro e' w' ⟨rfl,bs1,d1,rfl⟩)
 refine TS.begin [11] (World.Grows ((((w.alloc (.cells #[.int .i64 10,.int .i64 e.num,.int .i64 e.den,.int .i64 e.dim,.string e.name,.slice (some ⟨b,off,none⟩) 2 cap] 27)).alloc (.cells #[.int .i64 0,.int .i64 0,.int .i64 0,.int .i64 0,.string ⟨#[]⟩,.slice none 0 0] 27)).grow bs1 d1).alloc (.cells #[.int .i64 xn,.int .i64 xd] 24))) (by kernel_rfl) (by kernel_rfl) growsR (fun hS=>?_)
 refine TS.wkB 0 hS ?_
 refine TS.wkB 1 hS ?_
 refine TS.wkB 2 hS ?_
 refine TS.wkB 3 hS ?_
 refine TS.wkB 4 hS ?_
 refine TS.wkB 5 hS ?_
 refine TS.one (i:=6) (by kernel_rfl) rfl (fun K1 hK1=>?_)
 have HK1:=Lib.hid hK1
 clear hK1 hS
 dsimp only [List.getElem_toArray,List.getElem_cons_succ,List.getElem_cons_zero]
 go_simp
 go_at_call 142
 exact fz2
theorem clc_min(S:Nat→Prop)(e:Ex)(v:Value)(w:World)(h:RepE S w e v)(ok:CalcOk e)(ht:Tab w)(hres:resD e.op (e.args.map Ex.dim)≠0)(ho:e.op=19):Calls Tryz.prog 89 #[exV e v] w (ClcP (calcF e.op e.args) e v w):=by
 have hb:=foldOp_bd ok.op
 have hrng:=h.rng
 have HI:=Lib.hid (fun W (hg:w.Grows W)=>Infer2_any S [] e v (.slice none 0 0) W (h.grows hg) (by have:=ok.valid;unfold validB at this;simp only [Bool.and_eq_true,decide_eq_true_eq]at this;omega) (ht.grows hg) (bind_nil W))
 rw [ok.infer]at HI
 have HO:=Lib.hid ok
 cases h with
 |mk _ a cap vs hr hc hs=>
 rw [if_neg hres]at HI
 have hCC:=fun r hR=>CalcOk.calc ok r hR hres
 obtain⟨dm,hdm⟩:∃d,resD e.op (e.args.map Ex.dim)=d:=⟨_,rfl⟩
 rw [hdm]at HI hCC
 unfold InfP exV at HI
 have hlen:=hr.len
 have h6:7≤e.op:=by omega
 have ha:=ok.two h6
 have hl:e.args.length=2:=by rw [ha];rfl
 obtain⟨hxd,hv⟩:=lit_bd ok (i:=0) (by omega)
 obtain⟨hyd,hv2⟩:=lit_bd ok (i:=1) (by omega)
 rw [ha]at hdm
 have hdb:I64 dm:=by rw [←hdm];exact resD_bd2 hxd hyd
 have HFD0:=Lib.hid (fun n d (h1:I64 n) (h2:I64 d) W (hg:w.Grows W)=>FormatDecimal2_any n d dm W h1 h2 hdb (ht.grows hg))
 obtain⟨b,off,rfl,hS,hlt,hx⟩:=hc.resolve_left (by omega)
 obtain⟨-,x1,x2,-,-,-⟩:=hx 0 (by omega)
 obtain⟨-,y1,y2,-,-,-⟩:=hx 1 (by omega)
 simp only [Nat.zero_mul,Nat.add_zero,Nat.one_mul]at x1 x2 y1 y2
 have hbd:=vfrac_bd hv
 have hbd2:=vfrac_bd hv2
 have hi:I64x4 (e.arg 0).num (e.arg 0).den (e.arg 1).num (e.arg 1).den:=⟨⟨by omega,by omega⟩,⟨by omega,by omega⟩,⟨by omega,by omega⟩,⟨by omega,by omega⟩⟩
 unfold exV
 rw [hl]at HI ⊢
 have HQ:=Lib.hid (opMin ho ha)
 have HEQ:=Lib.hid (fun h=>frac_same hv hv2 h)
 have HN:=Lib.hid (fun W=>Compare2_any (e.arg 0).num (e.arg 0).den (e.arg 1).num (e.arg 1).den W hi)
 have hcf:=cmpF_ok hv hv2
 unfold frI at HN
 rw [hcf]at HN
 dsimp only at HN
 have hox:I64 (e.arg 0).num∧I64 (e.arg 0).den:=⟨⟨by omega,by omega⟩,⟨by omega,by omega⟩⟩
 have hoy:I64 (e.arg 1).num∧I64 (e.arg 1).den:=⟨⟨by omega,by omega⟩,⟨by omega,by omega⟩⟩
 generalize cmpI (e.arg 0).num (e.arg 0).den (e.arg 1).num (e.arg 1).den=c at *
 have HXC:=Lib.hid (hCC ((e.arg 0).num,(e.arg 0).den,0))
 have HYC:=Lib.hid (hCC ((e.arg 1).num,(e.arg 1).den,0))
 generalize(e.arg 0).num=xn at *
 generalize(e.arg 0).den=xd at *
 generalize(e.arg 1).num=yn at *
 generalize(e.arg 1).den=yd at *
 clear hCC hres ok hs hc hx hS ha hdm hbd hbd2 hi hv hv2 HO hdb hr hrng hcf
 have HOH:=Lib.hid ho
 rw [ho]at HI HQ HXC HYC ⊢
 clear ho h6 hb hl
 rcases(show c<0∨c=0∨0<c by omega)with h1|h1|h1
 focus
  have d1:decide (c<0)=true:=decide_eq_true h1
  have HCC:=Lib.hid (HXC.out ⟨by rw [HQ.out],fun _=>by rw [HQ.out];(first|rw [if_pos (by omega)]|rw [if_neg (by omega)]);exact⟨rfl,rfl⟩⟩)
  have hrI:=hox
  clear HQ HEQ HXC HYC hox hoy
  obtain⟨dk,hdk⟩:∃k,decOk xn xd dm=k:=⟨_,rfl⟩
  have HFD:=Lib.hid (fun W hg=>HFD0.out xn xd hrI.1 hrI.2 W hg)
 rotate_left
 focus
  subst h1
  obtain⟨rfl,rfl⟩:=HEQ.out rfl
  have HCC:=Lib.hid (HXC.out ⟨by rw [HQ.out],fun _=>by rw [HQ.out];exact⟨rfl,rfl⟩⟩)
  have hrI:=hox
  clear HQ HEQ HXC HYC hox hoy
  obtain⟨dk,hdk⟩:∃k,decOk xn xd dm=k:=⟨_,rfl⟩
  have HFD:=Lib.hid (fun W hg=>HFD0.out xn xd hrI.1 hrI.2 W hg)
 rotate_left
 focus
  have d1:decide (c<0)=false:=decide_eq_false (by omega)
  have HCC:=Lib.hid (HYC.out ⟨by rw [HQ.out],fun _=>by rw [HQ.out];(first|rw [if_pos (by omega)]|rw [if_neg (by omega)]);exact⟨rfl,rfl⟩⟩)
  have hrI:=hoy
  clear HQ HEQ HXC HYC hox hoy
  obtain⟨dk,hdk⟩:∃k,decOk yn yd dm=k:=⟨_,rfl⟩
  have HFD:=Lib.hid (fun W hg=>HFD0.out yn yd hrI.1 hrI.2 W hg)
 rotate_left
 all_goals
  unfold FdPost at HFD
  rw [hdk]at HFD
  dsimp only at HCC
  rw [hdk]at HCC
  clear hdk HFD0 hrI
  go_enter Tryz.func89,Tryz.ntmps89
  go_upto_region 8 with (go_at_call 46;refine(HI.out _ growsR).mono ?_;rintro e' w' ⟨rfl,bs1,d1,rfl⟩)
  refine TS.begin [11] (World.Grows ((((w.alloc (.cells #[.int .i64 19,.int .i64 e.num,.int .i64 e.den,.int .i64 e.dim,.string e.name,.slice (some ⟨b,off,none⟩) 2 cap] 27)).alloc (.cells #[.int .i64 0,.int .i64 0,.int .i64 0,.int .i64 0,.string ⟨#[]⟩,.slice none 0 0] 27)).grow bs1 d1).alloc (.cells #[.int .i64 xn,.int .i64 xd] 24))) (by kernel_rfl) (by kernel_rfl) growsR (fun hS=>?_)
  exact fz11
theorem clc_max(S:Nat→Prop)(e:Ex)(v:Value)(w:World)(h:RepE S w e v)(ok:CalcOk e)(ht:Tab w)(hres:resD e.op (e.args.map Ex.dim)≠0)(ho:e.op=20):Calls Tryz.prog 89 #[exV e v] w (ClcP (calcF e.op e.args) e v w):=by
 have hb:=foldOp_bd ok.op
 have hrng:=h.rng
 have HI:=Lib.hid (fun W (hg:w.Grows W)=>Infer2_any S [] e v (.slice none 0 0) W (h.grows hg) (by have:=ok.valid;unfold validB at this;simp only [Bool.and_eq_true,decide_eq_true_eq]at this;omega) (ht.grows hg) (bind_nil W))
 rw [ok.infer]at HI
 have HO:=Lib.hid ok
 cases h with
 |mk _ a cap vs hr hc hs=>
 rw [if_neg hres]at HI
 have hCC:=fun r hR=>CalcOk.calc ok r hR hres
 obtain⟨dm,hdm⟩:∃d,resD e.op (e.args.map Ex.dim)=d:=⟨_,rfl⟩
 rw [hdm]at HI hCC
 unfold InfP exV at HI
 have hlen:=hr.len
 have h6:7≤e.op:=by omega
 have ha:=ok.two h6
 have hl:e.args.length=2:=by rw [ha];rfl
 obtain⟨hxd,hv⟩:=lit_bd ok (i:=0) (by omega)
 obtain⟨hyd,hv2⟩:=lit_bd ok (i:=1) (by omega)
 rw [ha]at hdm
 have hdb:I64 dm:=by rw [←hdm];exact resD_bd2 hxd hyd
 have HFD0:=Lib.hid (fun n d (h1:I64 n) (h2:I64 d) W (hg:w.Grows W)=>FormatDecimal2_any n d dm W h1 h2 hdb (ht.grows hg))
 obtain⟨b,off,rfl,hS,hlt,hx⟩:=hc.resolve_left (by omega)
 obtain⟨-,x1,x2,-,-,-⟩:=hx 0 (by omega)
 obtain⟨-,y1,y2,-,-,-⟩:=hx 1 (by omega)
 simp only [Nat.zero_mul,Nat.add_zero,Nat.one_mul]at x1 x2 y1 y2
 have hbd:=vfrac_bd hv
 have hbd2:=vfrac_bd hv2
 have hi:I64x4 (e.arg 0).num (e.arg 0).den (e.arg 1).num (e.arg 1).den:=⟨⟨by omega,by omega⟩,⟨by omega,by omega⟩,⟨by omega,by omega⟩,⟨by omega,by omega⟩⟩
 unfold exV
 rw [hl]at HI ⊢
 have HQ:=Lib.hid (opMax ho ha)
 have HEQ:=Lib.hid (fun h=>frac_same hv hv2 h)
 have HN:=Lib.hid (fun W=>Compare2_any (e.arg 0).num (e.arg 0).den (e.arg 1).num (e.arg 1).den W hi)
 have hcf:=cmpF_ok hv hv2
 unfold frI at HN
 rw [hcf]at HN
 dsimp only at HN
 have hox:I64 (e.arg 0).num∧I64 (e.arg 0).den:=⟨⟨by omega,by omega⟩,⟨by omega,by omega⟩⟩
 have hoy:I64 (e.arg 1).num∧I64 (e.arg 1).den:=⟨⟨by omega,by omega⟩,⟨by omega,by omega⟩⟩
 generalize cmpI (e.arg 0).num (e.arg 0).den (e.arg 1).num (e.arg 1).den=c at *
 have HXC:=Lib.hid (hCC ((e.arg 0).num,(e.arg 0).den,0))
 have HYC:=Lib.hid (hCC ((e.arg 1).num,(e.arg 1).den,0))
 generalize(e.arg 0).num=xn at *
 generalize(e.arg 0).den=xd at *
 generalize(e.arg 1).num=yn at *
 generalize(e.arg 1).den=yd at *
 clear hCC hres ok hs hc hx hS ha hdm hbd hbd2 hi hv hv2 HO hdb hr hrng hcf
 have HOH:=Lib.hid ho
 rw [ho]at HI HQ HXC HYC ⊢
 clear ho h6 hb hl
 rcases(show c<0∨c=0∨0<c by omega)with h1|h1|h1
 focus
  have d1:decide (c<0)=true:=decide_eq_true h1
  have HCC:=Lib.hid (HYC.out ⟨by rw [HQ.out],fun _=>by rw [HQ.out];(first|rw [if_pos (by omega)]|rw [if_neg (by omega)]);exact⟨rfl,rfl⟩⟩)
  have hrI:=hoy
  clear HQ HEQ HXC HYC hox hoy
  obtain⟨dk,hdk⟩:∃k,decOk yn yd dm=k:=⟨_,rfl⟩
  have HFD:=Lib.hid (fun W hg=>HFD0.out yn yd hrI.1 hrI.2 W hg)
 rotate_left
 focus
  subst h1
  obtain⟨rfl,rfl⟩:=HEQ.out rfl
  have HCC:=Lib.hid (HXC.out ⟨by rw [HQ.out],fun _=>by rw [HQ.out];exact⟨rfl,rfl⟩⟩)
  have hrI:=hox
  clear HQ HEQ HXC HYC hox hoy
  obtain⟨dk,hdk⟩:∃k,decOk xn xd dm=k:=⟨_,rfl⟩
  have HFD:=Lib.hid (fun W hg=>HFD0.out xn xd hrI.1 hrI.2 W hg)
 rotate_left
 focus
  have d1:decide (c<0)=false:=decide_eq_false (by omega)
  have HCC:=Lib.hid (HXC.out ⟨by rw [HQ.out],fun _=>by rw [HQ.out];(first|rw [if_pos (by omega)]|rw [if_neg (by omega)]);exact⟨rfl,rfl⟩⟩)
  have hrI:=hox
  clear HQ HEQ HXC HYC hox hoy
  obtain⟨dk,hdk⟩:∃k,decOk xn xd dm=k:=⟨_,rfl⟩
  have HFD:=Lib.hid (fun W hg=>HFD0.out xn xd hrI.1 hrI.2 W hg)
 rotate_left
 all_goals
  unfold FdPost at HFD
  rw [hdk]at HFD
  dsimp only at HCC
  rw [hdk]at HCC
  clear hdk HFD0 hrI
  go_enter Tryz.func89,Tryz.ntmps89
  go_upto_region 8 with (go_at_call 46;refine(HI.out _ growsR).mono ?_;rintro e' w' ⟨rfl,bs1,d1,rfl⟩)
  refine TS.begin [11] (World.Grows ((((w.alloc (.cells #[.int .i64 20,.int .i64 e.num,.int .i64 e.den,.int .i64 e.dim,.string e.name,.slice (some ⟨b,off,none⟩) 2 cap] 27)).alloc (.cells #[.int .i64 0,.int .i64 0,.int .i64 0,.int .i64 0,.string ⟨#[]⟩,.slice none 0 0] 27)).grow bs1 d1).alloc (.cells #[.int .i64 xn,.int .i64 xd] 24))) (by kernel_rfl) (by kernel_rfl) growsR (fun hS=>?_)
  exact fz11
theorem calculate_any(S:Nat→Prop)(e:Ex)(v:Value)(w:World)(h:RepE S w e v)(ok:CalcOk e)(ht:Tab w):Calls Tryz.prog 89 #[exV e v] w (ClcP (calcF e.op e.args) e v w):=by
 by_cases hres:resD e.op (e.args.map Ex.dim)=0
 ·exact clc_bad S e v w h ok ht hres
 have:=foldOp_bd ok.op
 rcases(show e.op=4∨e.op=6∨(¬e.op≤6)by omega)with ho|ho|ho
 ·exact clc_neg S e v w h ok ht hres ho
 ·exact clc_floor S e v w h ok ht hres ho
 rcases foldOp_two ok.op ho with ho|ho|ho|ho|ho|ho
 ·exact clc_add S e v w h ok ht hres ho
 ·exact clc_sub S e v w h ok ht hres ho
 ·exact clc_mul S e v w h ok ht hres ho
 ·exact clc_div S e v w h ok ht hres ho
 ·exact clc_min S e v w h ok ht hres ho
 ·exact clc_max S e v w h ok ht hres ho
theorem RowE.growsF{m:Nat}{w w':World}{v:Value}{l:List (Ex × Value)}(h:RowE m w v l)(hg:w.Grows w'):RowE m w' v l:=h.keep hg.below.size fun k _ hlt=>hg.below.block k hlt
def litL(l:List (Ex × Value)):Bool:=l.all fun x=>x.1.op==1
theorem litL_snoc(l:List (Ex × Value))(z:Ex)(v:Value):litL (l++[(z,v)])=(litL l&&(z.op==1)):=by
 unfold litL
 rw [List.all_append];simp
theorem fold_node{e:Ex}{l:List (Ex × Value)}(hl:e.args.map foldF=l.map (·.1)):foldF e=foldNode e.op e.num e.den e.dim e.name (l.map (·.1)):=by rw [foldF_eq,hl]
theorem fold_calc{e:Ex}{l:List (Ex × Value)}(hl:e.args.map foldF=l.map (·.1))(hf:formedB e=true)(ho:foldOp e.op=true)(ha:litL l=true):CalcOk (.mk e.op e.num e.den e.dim e.name (l.map (·.1))):=by
 refine⟨ho,fun y hy=>?_, ?_⟩
 ·obtain⟨x,hx,rfl⟩:=List.mem_map.1 (show y∈l.map (·.1)from hy)
  have:=List.all_eq_true.1 ha x hx
  simpa using this
 ·rw [←hl];cases e;exact node_formed hf
theorem fold_keep{e:Ex}{l:List (Ex × Value)}(hl:e.args.map foldF=l.map (·.1))(h:calcF e.op (l.map (·.1))=none):foldF e= .mk e.op e.num e.den e.dim e.name (l.map (·.1)):=by
 rw [fold_node hl];unfold foldNode;rw [h]
theorem fold_not{e:Ex}{l:List (Ex × Value)}(h:litL l=false∨foldOp e.op=false):calcF e.op (l.map (·.1))=none:=by
 unfold calcF
 refine if_neg fun c=>?_
 rcases h with h|h
 ·have:litL l=true:=List.all_eq_true.2 fun x hx=>by
   have:=c.2.1 x.1 (List.mem_map_of_mem hx)
   simpa using this
  rw [h]at this;cases this
 ·rw [h]at c;cases c.1
theorem rng_lit{n d m:Int}(h:decOk n d m=true):ExRng (.mk 1 n d m ByteArray.empty []):=by
 have:=decOk_bd h
 have:=vfrac_bd this.1
 exact⟨⟨by show _≤(1:Int);omega,by show(1:Int)≤_;omega⟩,⟨by show _≤n;omega,by show n≤_;omega⟩,⟨by show _≤d;omega,by show d≤_;omega⟩,⟨by show _≤m;omega,by show m≤_;omega⟩,by show(0:Nat)≤_;omega,by show(0:Nat)≤_;omega⟩
theorem rng_args{e:Ex}(h:ExRng e){l:List Ex}(hl:l.length=e.args.length):ExRng (.mk e.op e.num e.den e.dim e.name l):=⟨h.op,h.num,h.den,h.dim,by show l.length≤_;rw [hl];exact h.len,h.name⟩
theorem calc_dec{op:Int}{ys:List Ex}{r:Int × Int × Int}(h:calcF op ys=some r):decOk r.1 r.2.1 r.2.2=true:=by
 unfold calcF at h
 split at h
 ·rename_i c
  obtain rfl:=Option.some.inj h
  exact c.2.2.2.2
 ·cases h
theorem literal_any(e:Ex)(a:Option Addr)(cap:Nat)(w:World):Calls Tryz.prog 87 #[.agg #[.int .i64 e.op,.int .i64 e.num,.int .i64 e.den,.int .i64 e.dim,.string e.name,.slice a e.args.length cap]] w fun r w'=>r= .returned (.bool (e.op==1))∧w.Grows w':=by
 go_enter Tryz.func87,Tryz.ntmps87
 go_wp2_with fail
 exact fz27
theorem cfold_walk(n:Nat):∀(e:Ex),e.size≤n→Hid (e.size≤1000000)→Hid (formedB e=true)→∀(S:Nat→Prop) (v:Value) (w:World),RepE S w e v→Tab w→Calls Tryz.prog 37 #[exV e v] w (MadeEx w (foldF e)):=by
 induction n with
 |zero=>intro e he;have:=e.size_pos;omega
 |succ n ih=>
  intro e he hbig hform S v w h ht
  have IH:=Lib.hid ih
  have HT:=Lib.hid ht
  clear ih ht
  obtain⟨i0,hi,hz0,hz1,hz2⟩:=info_parts infoExpr
  cases h with
  |mk _ a cap vs hr hc hs=>
   have hlen:e.args.length≤1000000:=by have:=hbig.out;have:=e.size_eq;have:=Ex.length_sizes e.args;omega
   have Hr:=Lib.hid hr
   have Hs:=Lib.hid hs
   have He:=Lib.hid he
   have Hc:=Lib.hid hc
   have HLE:=Lib.hid hlen
   clear hr hs he hc
   go_enter Tryz.func37,Tryz.ntmps37
   go_wp2_with fail
   go_loopw [3,4,12] (fun v3 v4 v12 wr=>∃k:Nat,∃l:List (Ex × Value),∃va:Value,∃al:Bool,∃bs d,k≤e.args.length∧v12= .int .i64 k∧v3=va∧v4= .bool al∧Hid ((e.args.take k).map foldF=l.map (·.1))∧Hid (l.length=k)∧Hid (al=litL l)∧
    wr=((w.alloc ((.cells #[.int .i64 e.op,.int .i64 e.num,.int .i64 e.den,.int .i64 e.dim,.string e.name,.slice a e.args.length cap] 27))).alloc ((.cells #[.int .i64 0,.int .i64 0,.int .i64 0,.int .i64 0,.string ⟨#[]⟩,.slice none 0 0] 27))).grow bs d∧RowE (w.heap.size+2) wr va l) (fun _ _ v12 _=>e.args.length-(intOf v12).toNat)
   case atStart=>exact⟨0,[],.slice none 0 0,true,#[],_,by omega,rfl,rfl,rfl,Lib.hid rfl,Lib.hid rfl,Lib.hid rfl,World.grow_self _,.nil _ _⟩
   case round=>
    obtain⟨k,l,va,al,bs,d,hk,rfl,rfl,rfl,HN,HLL,HAL,rfl,hrow⟩:=hrel
    by_cases hlt:k<e.args.length
    ·rcases Hc.out with h0|⟨b,off,rfl,hS,hbw,hx⟩
     ·omega
     ·obtain⟨x0,x1,x2,x3,x4,x5⟩:=hx k hlt
      clear hx
      have hlt1:(k:Int)<(e.args.length:Int):=by omega
      have hr1:=Hs.out k hlt
      obtain⟨ka,kc,hvk⟩:=hr1.form0
      rw [hvk]at hr1 x5
      have HR1:=Lib.hid hr1
      clear hvk hr1
      have HA:=Lib.hid (e.size_arg k hlt)
      have HZ:=Lib.hid (show(e.arg k).size≤n by have:=He.out;have:=HA.out;omega)
      have HB:=Lib.hid (show(e.arg k).size≤1000000 by have:=hbig.out;have:=HA.out;omega)
      have HFA:=Lib.hid (formed_arg hform.out k hlt)
      have HTK:=Lib.hid (fun ve=>foldsF_take e k hlt HN.out ve)
      generalize e.arg k=y at *
      obtain⟨z,hz⟩:∃z,foldF y=z:=⟨_,rfl⟩
      rw [hz]at HTK
      have HZF:=Lib.hid hz
      have HVB:=Lib.hid hrow.lt
      obtain⟨aa,acap,hva⟩:=hrow.form
      have HROW:=Lib.hid hrow
      have HKL:=Lib.hid hlt
      clear hz hrow hk hlt
      rw [HLL.out]at hva
      subst hva
      have HOWN:=Lib.hid (fun W (hg:World.Grows _ W)=>(show W.ownsRow (w.heap.size+2) 27 6 (.slice aa k acap) k (cellsL l)from by have:=(HROW.out.growsF hg).own;rw [HLL.out]at this;exact this))
      go_upto_region 7 with (go_at_call 37;refine(IH.out y HZ.out HB HFA S (.slice ka y.args.length kc) _ (HR1.out.grows growsR) (HT.out.grows growsR)).mono ?_;rintro e' w' ⟨ve,rfl,⟨bs2,d2,rfl⟩,hrep⟩;rw [HZF.out]at hrep;obtain⟨za,zc,rfl⟩:=hrep.form0;have H1:=Lib.hid hrep;clear hrep;rw [HZF.out])
      cases al
      focus
       go_wp2_with ((at_builtin;refine wpList_append_lies _ rfl _ _ 25 rfl (w.heap.size+2) 27 i0 _ 6 72 Tryz.underlying25 hi hz0 hz1 hz2 rfl (by decide) (.slice aa k acap) k (cellsL l) rfl (HOWN.out _ growsR) ⟨_,0,none⟩ 1 1 (cells1 z (.slice za z.args.length zc)) rfl rfl ?c1 ?c2 (by decide) ?c3 ?c4 ?c5 _ rfl ?_))
       case c1=>exact news_cells _ (cells1 z (.slice za z.args.length zc)) _ _ (by simp)
       case c2=>exact cells1_one _ _ rfl
       case c3=>have:=HLL.out;have:=HLE.out;have:=HKL.out;unfold maxLen;omega
       case c4=>have:=HLL.out;omega
       case c5=>simp;omega
       intro g' cap' w1 hown' hgrow hat hlt'
       have RW:RowE (w.heap.size+2) (((((((w.alloc (.cells #[.int .i64 e.op,.int .i64 e.num,.int .i64 e.den,.int .i64 e.dim,.string e.name,.slice (some ⟨b,off,none⟩) e.args.length cap] 27)).alloc ((.cells #[.int .i64 0,.int .i64 0,.int .i64 0,.int .i64 0,.string ⟨#[]⟩,.slice none 0 0] 27)))).grow bs d).alloc (.cells #[.int .i64 z.op,.int .i64 z.num,.int .i64 z.den,.int .i64 z.dim,.string z.name,.slice za z.args.length zc] 27))).grow bs2 d2) (.slice aa k acap) l:=HROW.out.growsF growsR
       have HR:RepE (fun b=>w.heap.size+2+bs.size+1≤b) (((((((w.alloc (.cells #[.int .i64 e.op,.int .i64 e.num,.int .i64 e.den,.int .i64 e.dim,.string e.name,.slice (some ⟨b,off,none⟩) e.args.length cap] 27)).alloc ((.cells #[.int .i64 0,.int .i64 0,.int .i64 0,.int .i64 0,.string ⟨#[]⟩,.slice none 0 0] 27)))).grow bs d).alloc (.cells #[.int .i64 z.op,.int .i64 z.num,.int .i64 z.den,.int .i64 z.dim,.string z.name,.slice za z.args.length zc] 27))).grow bs2 d2) z (.slice za z.args.length zc):=(((H1.out.eqw (w':=((((((w.alloc (.cells #[.int .i64 e.op,.int .i64 e.num,.int .i64 e.den,.int .i64 e.dim,.string e.name,.slice (some ⟨b,off,none⟩) e.args.length cap] 27)).alloc ((.cells #[.int .i64 0,.int .i64 0,.int .i64 0,.int .i64 0,.string ⟨#[]⟩,.slice none 0 0] 27)))).grow bs d).alloc (.cells #[.int .i64 y.op,.int .i64 y.num,.int .i64 y.den,.int .i64 y.dim,.string y.name,.slice ka y.args.length kc] 27))).grow bs2 d2) (by simp)).mono (S':=fun b=>w.heap.size+2+bs.size+1≤b) (fun b hb=>by simpa using hb)).lift0 (A':=((((((w.alloc (.cells #[.int .i64 e.op,.int .i64 e.num,.int .i64 e.den,.int .i64 e.dim,.string e.name,.slice (some ⟨b,off,none⟩) e.args.length cap] 27)).alloc ((.cells #[.int .i64 0,.int .i64 0,.int .i64 0,.int .i64 0,.string ⟨#[]⟩,.slice none 0 0] 27)))).grow bs d).alloc (.cells #[.int .i64 z.op,.int .i64 z.num,.int .i64 z.den,.int .i64 z.dim,.string z.name,.slice za z.args.length zc] 27)))) (by simp) (by simp) d2).grows growsR
       have R1:=RowE.push (m:=w.heap.size+2+bs.size+1) (RW.alloc _) (HR.alloc _) (by omega) (fun j hj=>by have:=(HVB.out j hj).2;simp at this;omega) (by rw [HLL.out]) rfl hown' hgrow hat (by simp)
       have G1:=World.Grows.of_below (w:=(((w.alloc (.cells #[.int .i64 e.op,.int .i64 e.num,.int .i64 e.den,.int .i64 e.dim,.string e.name,.slice (some ⟨b,off,none⟩) e.args.length cap] 27)).alloc ((.cells #[.int .i64 0,.int .i64 0,.int .i64 0,.int .i64 0,.string ⟨#[]⟩,.slice none 0 0] 27))))) (((((Below.refl _ _).grow (Nat.le_refl _) bs d).alloc (by simp) _).grow (by simp;omega) bs2 d2).alloc (by simp;omega) _|>.grown hgrow (by simp;omega) (fun j hj=>by have:=(HVB.out j hj).1;simpa using this))
      rotate_left
      focus
       go_wp2_with (first|(go_at_call 87;refine(literal_any z _ _ _).mono ?_;rintro e' w' ⟨rfl,bs4,d4,rfl⟩)|((at_builtin;refine wpList_append_lies _ rfl _ _ 25 rfl (w.heap.size+2) 27 i0 _ 6 72 Tryz.underlying25 hi hz0 hz1 hz2 rfl (by decide) (.slice aa k acap) k (cellsL l) rfl (HOWN.out _ growsR) ⟨_,0,none⟩ 1 1 (cells1 z (.slice za z.args.length zc)) rfl rfl ?c1 ?c2 (by decide) ?c3 ?c4 ?c5 _ rfl ?_)))
       case c1=>exact news_cells _ (cells1 z (.slice za z.args.length zc)) _ _ (by simp)
       case c2=>exact cells1_one _ _ rfl
       case c3=>have:=HLL.out;have:=HLE.out;have:=HKL.out;unfold maxLen;omega
       case c4=>have:=HLL.out;omega
       case c5=>simp;omega
       intro g' cap' w1 hown' hgrow hat hlt'
       have RW:RowE (w.heap.size+2) (((((((w.alloc (.cells #[.int .i64 e.op,.int .i64 e.num,.int .i64 e.den,.int .i64 e.dim,.string e.name,.slice (some ⟨b,off,none⟩) e.args.length cap] 27)).alloc ((.cells #[.int .i64 0,.int .i64 0,.int .i64 0,.int .i64 0,.string ⟨#[]⟩,.slice none 0 0] 27)))).grow bs d).alloc (.cells #[.int .i64 z.op,.int .i64 z.num,.int .i64 z.den,.int .i64 z.dim,.string z.name,.slice za z.args.length zc] 27))).grow (bs2++bs4) d4) (.slice aa k acap) l:=HROW.out.growsF growsR
       have HR:RepE (fun b=>w.heap.size+2+bs.size+1≤b) (((((((w.alloc (.cells #[.int .i64 e.op,.int .i64 e.num,.int .i64 e.den,.int .i64 e.dim,.string e.name,.slice (some ⟨b,off,none⟩) e.args.length cap] 27)).alloc ((.cells #[.int .i64 0,.int .i64 0,.int .i64 0,.int .i64 0,.string ⟨#[]⟩,.slice none 0 0] 27)))).grow bs d).alloc (.cells #[.int .i64 z.op,.int .i64 z.num,.int .i64 z.den,.int .i64 z.dim,.string z.name,.slice za z.args.length zc] 27))).grow (bs2++bs4) d4) z (.slice za z.args.length zc):=(((H1.out.eqw (w':=((((((w.alloc (.cells #[.int .i64 e.op,.int .i64 e.num,.int .i64 e.den,.int .i64 e.dim,.string e.name,.slice (some ⟨b,off,none⟩) e.args.length cap] 27)).alloc ((.cells #[.int .i64 0,.int .i64 0,.int .i64 0,.int .i64 0,.string ⟨#[]⟩,.slice none 0 0] 27)))).grow bs d).alloc (.cells #[.int .i64 y.op,.int .i64 y.num,.int .i64 y.den,.int .i64 y.dim,.string y.name,.slice ka y.args.length kc] 27))).grow bs2 d2) (by simp)).mono (S':=fun b=>w.heap.size+2+bs.size+1≤b) (fun b hb=>by simpa using hb)).lift0 (A':=((((((w.alloc (.cells #[.int .i64 e.op,.int .i64 e.num,.int .i64 e.den,.int .i64 e.dim,.string e.name,.slice (some ⟨b,off,none⟩) e.args.length cap] 27)).alloc ((.cells #[.int .i64 0,.int .i64 0,.int .i64 0,.int .i64 0,.string ⟨#[]⟩,.slice none 0 0] 27)))).grow bs d).alloc (.cells #[.int .i64 z.op,.int .i64 z.num,.int .i64 z.den,.int .i64 z.dim,.string z.name,.slice za z.args.length zc] 27)))) (by simp) (by simp) d2).grows growsR
       have R1:=RowE.push (m:=w.heap.size+2+bs.size+1) (RW.alloc _) (HR.alloc _) (by omega) (fun j hj=>by have:=(HVB.out j hj).2;simp at this;omega) (by rw [HLL.out]) rfl hown' hgrow hat (by simp)
       have G1:=World.Grows.of_below (w:=(((w.alloc (.cells #[.int .i64 e.op,.int .i64 e.num,.int .i64 e.den,.int .i64 e.dim,.string e.name,.slice (some ⟨b,off,none⟩) e.args.length cap] 27)).alloc ((.cells #[.int .i64 0,.int .i64 0,.int .i64 0,.int .i64 0,.string ⟨#[]⟩,.slice none 0 0] 27))))) (((((Below.refl _ _).grow (Nat.le_refl _) bs d).alloc (by simp) _).grow (by simp;omega) (bs2++bs4) d4).alloc (by simp;omega) _|>.grown hgrow (by simp;omega) (fun j hj=>by have:=(HVB.out j hj).1;simpa using this))
      rotate_left
      all_goals
       clear hown' hgrow hat hlt' RW HR
       obtain⟨bs9,d9,rfl⟩:=G1
       have HR9:=Lib.hid R1
       clear R1
       go_wp2_with fail
       go_roundw
       case rel=>exact⟨k+1,l++[(z,.slice za z.args.length zc)],_,_,bs9,d9,HKL.out,by go_num,rfl,rfl,Lib.hid (HTK.out _),Lib.hid (by simp;exact HLL.out),Lib.hid (by rw [litL_snoc,←HAL.out];rfl),rfl,HR9.out.lift0 (by simp) (by simp) d9⟩
       case measure=>simp [intOf];have:=HKL.out;omega
    ·obtain rfl:k=e.args.length:=by omega
     have HN2:=Lib.hid (show e.args.map foldF=l.map (·.1)by have:=HN.out;rw [List.take_length]at this;exact this)
     obtain⟨aa,acap,hva⟩:=hrow.form
     rw [HLL.out]at hva
     subst hva
     have hrc:=fun(o:Obj)=>((hrow.lift0 (A':=(w.alloc ((.cells #[.int .i64 e.op,.int .i64 e.num,.int .i64 e.den,.int .i64 e.dim,.string e.name,.slice aa e.args.length acap] 27))).alloc o) (by simp) (by simp) d).repE (e:=.mk e.op e.num e.den e.dim e.name (l.map (·.1))) (rng_args Hr.out (by rw [List.length_map,HLL.out])) rfl)
     have HRC:=Lib.hid hrc
     clear hrc hrow HN hk hlt
     cases al with
     |false=>
      have HK:=Lib.hid (fold_keep HN2.out (fold_not (.inl HAL.out.symm)))
      go_wp2_with fail
      go_returns
      rw [HK.out]
      exact⟨.slice aa e.args.length acap,rfl,growsR,((HRC.out ((.cells #[.int .i64 e.op,.int .i64 e.num,.int .i64 e.den,.int .i64 e.dim,.string e.name,.slice aa e.args.length acap] 27))).mono (S':=fun b=>w.heap.size≤b) (fun b hb=>by show w.heap.size≤b;omega)).grows growsR⟩
     |true=>
      cases hfo:foldOp e.op with
      |false=>
       have HK:=Lib.hid (fold_keep HN2.out (fold_not (.inr hfo)))
       have HFO:=Lib.hid (fun W=>foldable_any e.op W)
       rw [hfo]at HFO
       clear hfo
       go_wp2_with (go_at_call 88;refine(HFO.out _).mono ?_;rintro e' w' ⟨rfl,rfl⟩)
       go_returns
       rw [HK.out]
       exact⟨.slice aa e.args.length acap,rfl,growsR,((HRC.out ((.cells #[.int .i64 e.op,.int .i64 e.num,.int .i64 e.den,.int .i64 e.dim,.string e.name,.slice aa e.args.length acap] 27))).mono (S':=fun b=>w.heap.size≤b) (fun b hb=>by show w.heap.size≤b;omega)).grows growsR⟩
      |true=>
       have HCA:Hid (∀W,(((w.alloc ((.cells #[.int .i64 e.op,.int .i64 e.num,.int .i64 e.den,.int .i64 e.dim,.string e.name,.slice aa e.args.length acap] 27))).alloc ((.cells #[.int .i64 0,.int .i64 0,.int .i64 0,.int .i64 0,.string ⟨#[]⟩,.slice none 0 0] 27))).grow bs d).Grows W→Calls Tryz.prog 89 #[.agg #[.int .i64 e.op,.int .i64 e.num,.int .i64 e.den,.int .i64 e.dim,.string e.name,.slice aa e.args.length acap]] W (ClcP (calcF e.op (l.map (·.1))) (.mk e.op e.num e.den e.dim e.name (l.map (·.1))) (.slice aa e.args.length acap) W)):=
        Lib.hid (fun W hg=>calculate_any _ (.mk e.op e.num e.den e.dim e.name (List.map (fun x:Ex × Value=>x.1) l)) (.slice aa e.args.length acap) W ((HRC.out ((.cells #[.int .i64 0,.int .i64 0,.int .i64 0,.int .i64 0,.string ⟨#[]⟩,.slice none 0 0] 27))).grows hg) (fold_calc HN2.out hform.out hfo HAL.out.symm) ((HT.out.grows growsR).grows hg))
       have HFO:=Lib.hid (fun W=>foldable_any e.op W)
       rw [hfo]at HFO
       unfold ClcP clcV exV at HCA
       cases hcf:calcF e.op (l.map (·.1))with
       |none=>
        have HK:=Lib.hid (fold_keep HN2.out hcf)
        rw [hcf]at HCA
        dsimp only at HCA
        clear hfo hcf
        go_wp2_with (first|(go_at_call 88;refine(HFO.out _).mono ?_;rintro e' w' ⟨rfl,rfl⟩)|(go_at_call 89;refine(HCA.out _ growsR).mono ?_;rintro e' w' ⟨rfl,bs6,d6,rfl⟩))
        go_returns
        rw [HK.out]
        exact⟨.slice aa e.args.length acap,rfl,growsR,((HRC.out ((.cells #[.int .i64 e.op,.int .i64 e.num,.int .i64 e.den,.int .i64 e.dim,.string e.name,.slice aa e.args.length acap] 27))).mono (S':=fun b=>w.heap.size≤b) (fun b hb=>by show w.heap.size≤b;omega)).grows growsR⟩
       |some r=>
        obtain⟨rn,rd,rm⟩:=r
        have HK:=Lib.hid (show foldF e= .mk 1 rn rd rm ByteArray.empty []by rw [fold_node HN2.out];unfold foldNode;rw [hcf])
        have HRL:=Lib.hid (rng_lit (calc_dec hcf))
        rw [hcf]at HCA
        dsimp only at HCA
        clear hfo hcf
        go_wp2_with (first|(go_at_call 88;refine(HFO.out _).mono ?_;rintro e' w' ⟨rfl,rfl⟩)|(go_at_call 89;refine(HCA.out _ growsR).mono ?_;rintro e' w' ⟨rfl,bs6,d6,rfl⟩))
        go_returns
        rw [HK.out]
        exact⟨.slice none 0 0,rfl,growsR,RepE.nil HRL.out rfl⟩
theorem cfold_any{S:Nat→Prop}{e:Ex}{v:Value}{w:World}(h:RepE S w e v)(ht:Tab w)(hb:e.size≤1000000)(hf:formedB e=true):Calls Tryz.prog 37 #[exV e v] w (MadeEx w (foldF e)):=cfold_walk e.size e (Nat.le_refl _) (Lib.hid hb) (Lib.hid hf) S v w h ht
def vlF(l:List Val):List Value:=l.flatMap fun x=>[.int .i64 x.dim,.bool x.yes,.int .i64 x.n,.int .i64 x.d]
theorem vlF_app(a b:List Val):vlF (a++b)=vlF a++vlF b:=by unfold vlF;rw [List.flatMap_append]
theorem own_other{w w':World}{base:Nat}{T:TypeId}{c n:Nat}{v:Value}{xs:List Value}{r:Option Nat}(h:w.ownsRow base T c v n xs)(hg:w.grownBy w' r)(hne:∀k,v.ownBlock=some k→r≠some k):w'.ownsRow base T c v n xs:=by
 obtain⟨h1,h2⟩:=h
 refine⟨h1, ?_⟩
 rcases h2 with h2|⟨g,cap,cur,rfl,hb,hh,r'⟩
 ·exact .inl h2
 ·have hlt:g<w.heap.size:=(Array.getElem?_eq_some_iff.1 hh).1
  exact .inr ⟨g,cap,cur,rfl,hb,by rw [hg.block g hlt (fun e=>hne g rfl e.symm)];exact hh,r'⟩
theorem heap_sameF{X Y:World}(hs:X.heap.size=Y.heap.size)(bs:Array Obj)(d d':Nat){k:Nat}(hk:X.heap.size≤k):(Y.grow bs d').heap[k]? =(X.grow bs d).heap[k]?:=by
 exact fz68
structure Fl3(base:Nat)(w:World)(va vl vd:Value)(l:List (Ex × Value))(xs:List Val)(ds:List Int):Prop where
 oa:w.ownsRow base 27 6 va l.length (cellsL l)
 ol:w.ownsRow base 41 4 vl xs.length (vlF xs)
 od:w.ownsRow base 3 1 vd ds.length (ds.map (Value.int .i64))
 rep:∀x∈l,RepE (fun b=>base≤b∧va.ownBlock≠some b∧vl.ownBlock≠some b∧vd.ownBlock≠some b) w x.1 x.2
 al:∀g,va.ownBlock=some g→vl.ownBlock≠some g∧vd.ownBlock≠some g
 ld:∀g,vl.ownBlock=some g→vd.ownBlock≠some g
section
variable {base : Nat} {w w' : World} {va vl vd : Value} {l : List (Ex × Value)} {xs : List Val} {ds : List Int}
theorem Fl3.nil(base:Nat)(w:World):Fl3 base w (.slice none 0 0) (.slice none 0 0) (.slice none 0 0) [] [] []:=
 ⟨World.ownsRow_nil _ _ _ _,World.ownsRow_nil _ _ _ _,World.ownsRow_nil _ _ _ _,fun _ h=>(by cases h),fun _ h=>(by cases h),fun _ h=>(by cases h)⟩
theorem Fl3.keep(h:Fl3 base w va vl vd l xs ds)(hsz:w.heap.size≤w'.heap.size)(hw:∀k,base≤k→k<w.heap.size→w'.heap[k]? =w.heap[k]?):Fl3 base w' va vl vd l xs ds:=
 ⟨ownsRow_keep h.oa hw,ownsRow_keep h.ol hw,ownsRow_keep h.od hw,fun x hx=>(h.rep x hx).keep hsz fun b o hb hlt=>World.cell?_of_block (hw b hb.1 hlt),h.al,h.ld⟩
theorem Fl3.grows(h:Fl3 base w va vl vd l xs ds)(hg:w.Grows w'):Fl3 base w' va vl vd l xs ds:=h.keep hg.below.size fun k _ hlt=>hg.below.block k hlt
theorem Fl3.alloc(h:Fl3 base w va vl vd l xs ds)(o:Obj):Fl3 base (w.alloc o) va vl vd l xs ds:=h.grows growsR
theorem Fl3.lift0{A A':World}{bs:Array Obj}{d:Nat}(h:Fl3 base (A.grow bs d) va vl vd l xs ds)(hm:A.heap.size≤base)(hsz:A'.heap.size=A.heap.size)(d2:Nat):Fl3 base (A'.grow bs d2) va vl vd l xs ds:=
 h.keep (by simp;omega) fun k hk _=>heap_sameF hsz.symm bs d d2 (Nat.le_trans hm hk)
theorem Fl3.toRow(h:Fl3 base w va vl vd l xs ds):RowE base w va l:=⟨h.oa,fun x hx=>(h.rep x hx).mono fun b hb=>⟨hb.1,hb.2.1⟩⟩
theorem Fl3.pushA{e:Ex}{ve:Value}{m g cap H n:Nat}{ys:List Value}(h:Fl3 base w va vl vd l xs ds)(he:RepE (fun b=>m≤b) w e ve)(hm:base≤m)(ha:∀k,va.ownBlock=some k→k<m)(hl:∀k,vl.ownBlock=some k→k<m)(hd:∀k,vd.ownBlock=some k→k<m)
 (hn:n=l.length+1) (hxs:ys=cellsL l++cells1 e ve) (ho:w'.ownsRow base 27 6 (.slice (some ⟨g,0,none⟩) n cap) n ys) (hg:w.grownBy w' va.ownBlock) (hat:va.ownBlock=some g∨g=H) (hH:w.heap.size=H) :
 Fl3 base w' (.slice (some ⟨g,0,none⟩) n cap) vl vd (l++[(e,ve)]) xs ds:=by
 subst hH hn hxs
 refine⟨by rw [List.length_append,cellsL_append];simpa [cellsL]using ho,own_other h.ol hg (fun k hk e=>(h.al k e).1 hk),own_other h.od hg (fun k hk e=>(h.al k e).2 hk), ?_, ?_,h.ld⟩
 ·have key:∀(e':Ex) (u:Value),RepE (fun b=>base≤b∧va.ownBlock≠some b∧vl.ownBlock≠some b∧vd.ownBlock≠some b) w e' u→RepE (fun b=>base≤b∧(Value.slice (some ⟨g,0,none⟩) (l.length+1) cap).ownBlock≠some b∧vl.ownBlock≠some b∧vd.ownBlock≠some b) w' e' u:=by
   intro e' u hu
   refine(hu.mono' (S':=fun b=>(base≤b∧va.ownBlock≠some b∧vl.ownBlock≠some b∧vd.ownBlock≠some b)∧g≠b) ?_|>.keep hg.size ?_).mono ?_
   ·rintro b h1 hlt
    refine⟨h1, ?_⟩
    rcases hat with hat|hat
    ·intro e;exact h1.2.1 (by rw [hat,e])
    ·omega
   ·rintro b o ⟨h1,_⟩ hlt
    exact World.cell?_of_block (hg.block b hlt (Ne.symm h1.2.1))
   ·rintro b ⟨h1,h3⟩
    exact⟨h1.1,by simpa [Value.ownBlock]using h3,h1.2.2.1,h1.2.2.2⟩
  intro x hx
  rw [List.mem_append]at hx
  rcases hx with hx|hx
  ·exact key _ _ (h.rep x hx)
  ·obtain rfl:x=(e,ve):=by simpa using hx
   exact key _ _ (he.mono fun b hb=>⟨by omega,fun e=>by have:=ha b e;omega,fun e=>by have:=hl b e;omega,fun e=>by have:=hd b e;omega⟩)
 ·intro k hk
  obtain rfl:g=k:=by simpa [Value.ownBlock]using hk
  rcases hat with hat|hat
  ·exact h.al _ hat
  ·exact⟨fun e=>by have:=(h.ol.lt g e).2;omega,fun e=>by have:=(h.od.lt g e).2;omega⟩
theorem Fl3.pushL{x:Val}{g cap H n:Nat}{ys:List Value}(h:Fl3 base w va vl vd l xs ds)
 (hn:n=xs.length+1) (hxs:ys=vlF xs++[.int .i64 x.dim,.bool x.yes,.int .i64 x.n,.int .i64 x.d]) (ho:w'.ownsRow base 41 4 (.slice (some ⟨g,0,none⟩) n cap) n ys) (hg:w.grownBy w' vl.ownBlock) (hat:vl.ownBlock=some g∨g=H) (hH:w.heap.size=H) :
 Fl3 base w' va (.slice (some ⟨g,0,none⟩) n cap) vd l (xs++[x]) ds:=by
 subst hH hn hxs
 refine⟨own_other h.oa hg (fun k hk e=>(h.al k hk).1 e),by rw [List.length_append,vlF_app];exact ho,own_other h.od hg (fun k hk e=>h.ld k e hk), ?_, ?_, ?_⟩
 ·intro y hy
  refine((h.rep y hy).mono' (S':=fun b=>(base≤b∧va.ownBlock≠some b∧vl.ownBlock≠some b∧vd.ownBlock≠some b)∧g≠b) ?_|>.keep hg.size ?_).mono ?_
  ·rintro b h1 hlt
   refine⟨h1, ?_⟩
   rcases hat with hat|hat
   ·intro e;exact h1.2.2.1 (by rw [hat,e])
   ·omega
  ·rintro b o ⟨h1,_⟩ hlt
   exact World.cell?_of_block (hg.block b hlt (Ne.symm h1.2.2.1))
  ·rintro b ⟨h1,h3⟩
   exact⟨h1.1,h1.2.1,by simpa [Value.ownBlock]using h3,h1.2.2.2⟩
 ·intro k hk
  refine⟨fun e=>?_,(h.al k hk).2⟩
  obtain rfl:g=k:=by simpa [Value.ownBlock]using e
  rcases hat with hat|hat
  ·exact(h.al _ hk).1 hat
  ·have:=(h.oa.lt g hk).2;omega
 ·intro k hk
  obtain rfl:g=k:=by simpa [Value.ownBlock]using hk
  rcases hat with hat|hat
  ·exact h.ld _ hat
  ·intro e;have:=(h.od.lt g e).2;omega
theorem Fl3.pushD{x:Int}{g cap H n:Nat}{ys:List Value}(h:Fl3 base w va vl vd l xs ds)
 (hn:n=ds.length+1) (hxs:ys=ds.map (Value.int .i64)++[.int .i64 x]) (ho:w'.ownsRow base 3 1 (.slice (some ⟨g,0,none⟩) n cap) n ys) (hg:w.grownBy w' vd.ownBlock) (hat:vd.ownBlock=some g∨g=H) (hH:w.heap.size=H) :
 Fl3 base w' va vl (.slice (some ⟨g,0,none⟩) n cap) l xs (ds++[x]):=by
 subst hH hn hxs
 refine⟨own_other h.oa hg (fun k hk e=>(h.al k hk).2 e),own_other h.ol hg (fun k hk e=>h.ld k hk e),by rw [List.length_append,List.map_append];exact ho, ?_, ?_, ?_⟩
 ·intro y hy
  refine((h.rep y hy).mono' (S':=fun b=>(base≤b∧va.ownBlock≠some b∧vl.ownBlock≠some b∧vd.ownBlock≠some b)∧g≠b) ?_|>.keep hg.size ?_).mono ?_
  ·rintro b h1 hlt
   refine⟨h1, ?_⟩
   rcases hat with hat|hat
   ·intro e;exact h1.2.2.2 (by rw [hat,e])
   ·omega
  ·rintro b o ⟨h1,_⟩ hlt
   exact World.cell?_of_block (hg.block b hlt (Ne.symm h1.2.2.2))
  ·rintro b ⟨h1,h3⟩
   exact⟨h1.1,h1.2.1,h1.2.2.1,by simpa [Value.ownBlock]using h3⟩
 ·intro k hk
  refine⟨(h.al k hk).1,fun e=>?_⟩
  obtain rfl:g=k:=by simpa [Value.ownBlock]using e
  rcases hat with hat|hat
  ·exact(h.al _ hk).2 hat
  ·have:=(h.oa.lt g hk).2;omega
 ·intro k hk e
  obtain rfl:g=k:=by simpa [Value.ownBlock]using e
  rcases hat with hat|hat
  ·exact h.ld _ hk hat
  ·have:=(h.ol.lt g hk).2;omega
end
end Go.Proofs.YtfoefpoaomepbaaGreatDoor
namespace Go.Proofs.YtfoefpoaomepbaaGreatDoor
open Go.RowKit Go.ChangeShapes Go.WideShapes Go.Deep
section
variable {H : Type} {enc : TypeId × Value → H} {P : Program} {w : World}
def fits(P:Program)(t:TypeId)(d:DataW H):Prop:=∀n∈d.weights P t,n≤140737488351232

theorem add_at'(b off i:Nat):(⟨b,off,none⟩:Addr).add i=⟨b,off+i,none⟩:=by unfold Addr.add;split<;>simp_all
theorem cell_lt{w:World}{b o:Nat}{v:Value}(h:w.cell? ⟨b,o,none⟩=some v):b<w.heap.size:=by
 rcases Nat.lt_or_ge b w.heap.size with h1|h1
 ·exact h1
 ·simp [World.cell?,Array.getElem?_eq_none h1]at h
theorem i64_of_wf{n:Int}(h:(Lit.int .i64 n).wf=true):I64 n:=bounds_i64 h
theorem IntsAt.of_cells{a:Option Addr}{len cap:Nat}{zs:List Int}(hl:len≤cap)(hz:zs.length=cap)(hw:∀n∈zs,(Lit.int .i64 n).wf=true)(hb:len≤140737488355328)(ha:a=none→len=0)
 (hc:∀x,a=some x→∀i,i<cap→w.cell? (x.add i)=some (.int .i64 (zs.getD i 0))):IntsAt w (.slice a len cap) (zs.take len):=by
 have hlen:(zs.take len).length=len:=by rw [List.length_take];omega
 refine⟨by omega,fun z hz2=>i64_of_wf (hw z (List.mem_of_mem_take hz2)),a,cap,by rw [hlen], ?_⟩
 rw [hlen]
 by_cases h0:len=0
 ·exact .inl h0
 ·cases a with
  |none=>exact .inl (ha rfl)
  |some x=>
   obtain⟨b,off,spot⟩:=x
   have h1:=hc _ rfl 0 (by omega)
   have hspot:spot=none:=by simpa [Addr.add]using World.cell?_spot h1
   subst hspot
   have h2:∀i,i<cap→w.cell? ⟨b,off+i,none⟩=some (.int .i64 (zs.getD i 0)):=fun i hi=>by
    rw [←add_at'];exact hc _ rfl i hi
   refine .inr ⟨b,off,rfl,cell_lt (h2 0 (by omega)),fun i hi=>?_⟩
   rw [h2 i (by omega)]
   simp [List.getD_eq_getElem?_getD,hi]
theorem IntsAt.of_trod{t e:TypeId}{fuel:Nat}{v:Value}{x:DataW H × List MemPlace}(ht:P.underlying t=some (.slice e))(he:P.underlying e=some (.int .i64))(hc:P.cellsOf e=1)(hb:P.bytesOf e=8)
 (h:DataW.trod enc P w 0 (fun _=>true) true fuel t [v]=some x) (hf:fits P t x.1):∃zs,IntsAt w v zs:=by
 rcases open_ints ht he hc h with ⟨hcs,_⟩|⟨a,l,c,zs,hcs,_,hl,hm,hz,hx,hcell,hwz⟩
 ·simp at hcs
  subst hcs
  exact⟨[],by simp,by simp,none,0,rfl,.inl rfl⟩
 ·simp at hcs
  subst hcs
  simp only [if_true]at hz
  have h8:l≤140737488355328:=by
   have h9:=hf ((l+(c-l))*8) (by rw [hx];simp [DataW.weights,ht,lits,hb,hz,Nat.min_eq_left hl])
   omega
  exact⟨zs.take l,IntsAt.of_cells hl hz hwz h8 (fun e=>by cases e) fun x' hx' i hi=>by cases hx';exact hcell i (by omega)⟩
end
theorem c3:(Tryz.prog).cellsOf 3=1:=by kernel_rfl
theorem c22:(Tryz.prog).cellsOf 22=1:=by kernel_rfl
theorem b3:(Tryz.prog).bytesOf 3=8:=by kernel_rfl
theorem b22:(Tryz.prog).bytesOf 22=24:=by kernel_rfl
theorem fits_part{H:Type}{P:Program}{t:TypeId}{fs:Array Field}{l:List (DataW H)}{i:Nat}{f:Field}{d:DataW H}(ht:P.underlying t=some (.struct fs))(h:fits P t (.agg l))(hf:fs[i]? =some f)(hd:l[i]? =some d):fits P f.type d:=by
 intro n hn
 refine h n ?_
 simp only [DataW.weights,ht]
 exact DataW.weights_mem_each (j:=i) (by simp [hf]) hd n hn
theorem int_of_trod{H:Type}{enc:TypeId × Value→H}{w:World}{fuel:Nat}{v:Value}{x:DataW H × List MemPlace}(h:DataW.trod enc Tryz.prog w 0 (fun _=>true) true fuel 3 [v]=some x):∃n,v= .int .i64 n∧I64 n:=by
 obtain⟨n,hcs,_,hw⟩:=DataW.trod_int Tryz.underlying3 h
 exact⟨n,by simpa using hcs,i64_of_wf hw⟩
end Go.Proofs.YtfoefpoaomepbaaGreatDoor
namespace Go.Proofs.YtfoefpoaomepbaaGreatDoor
open Go.ChangeShapes Go.WideShapes Go.ChangeAt Go.RowKit
abbrev laidsX:List (String × DataW Unit):=[("math/bits.deBruijn32tab",Rows.laid_math_bits_deBruijn32tab),("math/bits.deBruijn64tab",Rows.laid_math_bits_deBruijn64tab),("internal/strconv.uint64pow10",Rows.laid_internal_strconv_uint64pow10)]
theorem pow10_data:(Rows.laid_internal_strconv_uint64pow10:DataW Unit)=Lib.tabData .u64 Lib.pow10Tab:=by kernel_rfl
theorem laids_plain{W:World}(h:laidMetH Tryz.prog laidsX W):laidMet Tryz.prog laidsX W:=by
 rwa [MakeChecks.laidMetH_plain _ _ _ (by kernel_rfl)]at h
theorem below_trodAll{H:Type}{enc:TypeId × Value→H}{P:Program}{W W':World}(hl:laidOutB P=true)(hb:Below W.heap.size W W'):∀(ts:List TypeId) (vs:List Value) (ds:List (DataW H)) (ps:List MemPlace),(∀t∈ts,P.readableRec t=true∧t<P.types.size)→
 DataW.TrodAll enc P W 0 (fun _=>true) true ts vs ds ps→(∀x∈ps,x.block<W.heap.size)→DataW.TrodAll enc P W' 0 (fun b=>decide (b<W.heap.size)) true ts vs ds ps
 | [],[],[],_,_,h,_=>h
 |t::ts,v::vs,d::ds,ps,hr,h,hlt=>by
  obtain⟨p,q,h1,h2,rfl⟩:=h
  exact⟨p,q,Below.trod hl (hr t List.mem_cons_self).1 (hr t List.mem_cons_self).2 h1 hb fun x hx=>hlt x (List.mem_append_left _ hx),
   below_trodAll hl hb ts vs ds q (fun t ht=>hr t (List.mem_cons_of_mem _ ht)) h2 fun x hx=>hlt x (List.mem_append_right _ hx),rfl⟩
 | [],_::_,_,_,_,h,_=>h.elim
 | [],[],_::_,_,_,h,_=>h.elim
 |_::_,[],_,_,_,h,_=>h.elim
 |_::_,_::_,[],_,_,h,_=>h.elim
def LawWalk{H:Type}(enc:TypeId × Value→H)(P:Program)(f:FuncId)(ts:List TypeId):Prop:=
 ∀(W:World) (base:Nat) (args:Array Value) (ds:List (DataW H)) (p:List MemPlace),laidMetH P laidsX W→(∀(j:Nat) t v,ts[j]? =some t→args[j]? =some v→Value.okWide P W .any base t v)→
  DataW.TrodAll enc P W 0 (fun _=>true) true ts args.toList ds p→(∀(j:Nat) t d,ts[j]? =some t→ds[j]? =some d→fits P t d)→
  Calls P f args W fun e W'=>e= .returned (.bool true)∧Below W.heap.size W W'
theorem law_post{H:Type}{enc:TypeId × Value→H}{P:Program}{fn:Func}{s:ChangeSpec}{W W':World}{args:Array Value}{ds gs:List (DataW H)}{before:List MemPlace}(hl:laidOutB P=true)
 (hr:fn.params.toList.all (fun t=>P.readableRec t&&decide (t<P.types.size))=true) (hres:fn.resultTypes=#[4]) (hu:P.underlying 4=some .bool) (hvars:s.vars= [])
 (hspec:∀ds:List (DataW H),ds.length=fn.params.size→s.fn H (ds++[])= {results:=[.lit (.bool true)],args:=ds})
 (hW:DataW.Whole enc P fn.params.toList s.vars false W args.toList ds gs before) (hb:Below W.heap.size W W'):s.post enc P fn false true false false W args (.bool true) W':=by
 have hW':=hW
 obtain⟨p,q,hA,hV,rfl,hfz,hnd⟩:=hW
 rw [hvars]at hV
 obtain⟨rfl,rfl⟩:=trodVars_none hV
 have hlen:∀(ts:List TypeId) (vs:List Value) (ds:List (DataW H)) (ps:List MemPlace),DataW.TrodAll enc P W 0 (fun _=>true) true ts vs ds ps→ds.length=ts.length:=by
  intro ts
  induction ts with
  |nil=>intro vs ds ps h;cases vs<;>cases ds<;>simp_all [DataW.TrodAll]
  |cons t ts ih=>
   intro vs ds ps h
   cases vs with
   |nil=>exact h.elim
   |cons v vs=>
    cases ds with
    |nil=>exact h.elim
    |cons d ds=>
     obtain⟨_,_,_,h2,_⟩:=h
     simp [ih _ _ _ h2]
 have hds:ds.length=fn.params.size:=by rw [hlen _ _ _ _ hA];simp
 have hs:=hspec ds hds
 have hlt:∀x∈p,x.block<W.heap.size:=fun x hx=>by have:=hW'.lt x (by simpa using hx);simpa using this
 refine⟨ds,[],p++[],[],p,[],hW', ?_, ?_, ?_,hb.frame _,fun h=>by cases h⟩
 ·rw [hs,hres]
  exact trodAll_mk1 (shut_bool hu _)
 ·rw [hs]
  refine below_trodAll hl hb _ _ _ _ (fun t ht=>?_) hA hlt
  have:=List.all_eq_true.1 hr t ht
  simpa using this
 ·rw [hs,hvars];rfl
theorem law_lift{H:Type}{enc:TypeId × Value→H}{C:Checked}{os:Os}{f:FuncId}{fn:Func}{s:ChangeSpec}{conds:List PathCond}(own:ownKnob C.prog.godebug=none)(started:os.Started)(noInit:C.prog.inits.idxOf? f=none)(hfn:C.prog.funcs[f]? =some fn)
 (witness:∃(w:World) (tape:Tape) (i:Input),w.os=os∧(w.forCall tape i).Shaped C.prog∧i.vars= []∧Input.okWide C.prog (w.forCall tape i) .any w.heap.size f i∧
  ((s.pre enc C.prog fn conds false (w.forCall tape i).memory i.args∧laidMetH C.prog laidsX (w.forCall tape i).memory)∧sizedMet enc C.prog fn (OpenSpec.ofChange s) false (w.forCall tape i).memory i.args)∧({}:Assume).holds C.prog (lone (Frame.enter C.prog f i.args .normal) [] (w.forCall tape i)))
 (hl:laidOutB C.prog=true) (hr:fn.params.toList.all (fun t=>C.prog.readableRec t&&decide (t<C.prog.types.size))=true) (hres:fn.resultTypes=#[4]) (hu:C.prog.underlying 4=some .bool) (hvars:s.vars= [])
 (hspec:∀ds:List (DataW H),ds.length=fn.params.size→s.fn H (ds++[])= {results:=[.lit (.bool true)],args:=ds}) (walk:LawWalk enc C.prog f fn.params.toList) :
 ReturnsInHanded {} C os f .any (fun w args=>(s.pre enc C.prog fn conds false w args∧laidMetH C.prog laidsX w)∧sizedMet enc C.prog fn (OpenSpec.ofChange s) false w args) (s.post enc C.prog fn false true false false):=by
 refine returnsInHanded_of_change_and (C:=C) (X:=fun w _=>laidMetH C.prog laidsX w) (fun _ _ _ hh h=>h.of_heap hh) own started noInit hfn witness ?_
 intro W base args ds gs before hval hW _ hsz hL _
 have hW':=hW
 obtain⟨p,q,hA,hV,rfl,hfz,hnd⟩:=hW
 have e:s.vars= []:=hvars
 rw [e]at hV
 obtain⟨rfl,rfl⟩:=trodVars_none hV
 refine(walk W base args ds p hL (fun j t v ht ha=>hval j t v (by simpa using ht) ha) hA (fun j t d ht hd n hn=>?_)).mono fun e W' ⟨he,hb⟩=>⟨_,he,law_post hl hr hres hu hvars hspec hW' hb⟩
 have:=List.all_eq_true.1 hsz n (DataW.weights_mem_each (j:=j) (by rw [List.getElem?_append_left (List.getElem?_eq_some_iff.1 ht).1];exact ht) (by rw [List.append_nil];exact hd) n hn)
 exact of_decide_eq_true this
theorem own:ownKnob Tryz.prog.godebug=none:=by kernel_rfl
theorem laidOut:laidOutB Tryz.prog=true:=by kernel_rfl
theorem laidsMet(os:Os)(args:Array Value):laidMetH Tryz.prog laidsX ((World.laidAll Tryz.prog os laidsX).forCall (fun _ _=>0) ⟨#[],args,[]⟩).memory:=by
 rw [MakeChecks.laidMetH_plain _ _ _ (by kernel_rfl)]
 exact laidMet_laidAll args (by kernel_rfl) (by kernel_rfl)
theorem tab_of_laid{W:World}(h:laidMetH Tryz.prog laidsX W):Tab W:=by
 have h2:=(laids_plain h).tail.tail
 rw [pow10_data]at h2
 exact Lib.tabIs_of_head (P:=Tryz.prog) (g:=2) (t:=257) (n:=20) (e:=165) (by kernel_rfl) (by kernel_rfl) (by kernel_rfl) (by kernel_rfl) (by kernel_rfl) (by kernel_rfl) h2
end Go.Proofs.YtfoefpoaomepbaaGreatDoor
namespace Go.Proofs.YtfoefpoaomepbaaGreatDoor
open Go.RowKit Go.ChangeShapes Go.WideShapes Go.Deep
theorem array7{α:Type}{cs:Array α}(h:cs.size=7):∃c0 c1 c2 c3 c4 c5 c6,cs=#[c0,c1,c2,c3,c4,c5,c6]:=by
 obtain⟨l⟩:=cs
 match l,h with
 | [c0,c1,c2,c3,c4,c5,c6],_=>exact⟨c0,c1,c2,c3,c4,c5,c6,rfl⟩
theorem c7w:(Tryz.prog).cellsOf 36=7:=by kernel_rfl
theorem VwR.of_trod{H:Type}{enc:TypeId × Value→H}{w:World}{r:Reach}{b0:Nat}{v:Value}{d:DataW H}{p:List MemPlace}(hv:Value.okWide Tryz.prog w r b0 36 v)
 (h:DataW.Trod enc Tryz.prog w 0 (fun _=>true) true 36 v d p) (hf:fits Tryz.prog 36 d) :
 ∃(R:VwR) (vd vy:Value),v= .agg #[.int .i64 R.age,.int .i64 R.year,.int .i64 R.children,.int .i64 R.base,.int .i64 R.den,vd,vy]∧IntsAt w vd R.days∧IntsAt w vy R.years:=by
 have ht:=Tryz.underlying36
 obtain⟨cs,rfl,hsz⟩:=okWide_struct ht hv
 obtain⟨c0,c1,c2,c3',c4,c5,c6,rfl⟩:=array7 (hsz.trans c7w)
 obtain⟨fuel,h⟩:=h
 obtain⟨xs,n,_,hx,_,hlen,hF⟩:=DataW.trod_struct ht h
 simp only [Prod.mk.injEq]at hx
 obtain⟨rfl,-⟩:=hx
 have k0:=hF 0 _ rfl
 have k1:=hF 1 _ rfl
 have k2:=hF 2 _ rfl
 have k3:=hF 3 _ rfl
 have k4:=hF 4 _ rfl
 have k5:=hF 5 _ rfl
 have k6:=hF 6 _ rfl
 simp only [Value.cells,List.drop_zero,List.drop_succ_cons,List.take_succ_cons,List.take_zero]at k0 k1 k2 k3 k4 k5 k6
 match xs,hlen with
 | [y0,y1,y2,y3,y4,y5,y6],_=>
   obtain⟨n0,rfl,w0⟩:=int_of_trod k0
   obtain⟨n1,rfl,w1⟩:=int_of_trod k1
   obtain⟨n2,rfl,w2⟩:=int_of_trod k2
   obtain⟨n3,rfl,w3⟩:=int_of_trod k3
   obtain⟨n4,rfl,w4⟩:=int_of_trod k4
   obtain⟨z5,w5⟩:=IntsAt.of_trod Tryz.underlying22 Tryz.underlying3 c3 b3 k5 (fits_part ht hf (i:=5) rfl rfl)
   obtain⟨z6,w6⟩:=IntsAt.of_trod Tryz.underlying22 Tryz.underlying3 c3 b3 k6 (fits_part ht hf (i:=6) rfl rfl)
   exact⟨⟨n0,n1,n2,n3,n4,z5,z6⟩,_,_,rfl,w5,w6⟩
theorem ints_of{H:Type}{enc:TypeId × Value→H}{W:World}{v:Value}{d:DataW H}{p:List MemPlace}{r:Reach}{b0:Nat}(hv:Value.okWide Tryz.prog W r b0 22 v)(h:DataW.Trod enc Tryz.prog W 0 (fun _=>true) true 22 v d p)(hf:fits Tryz.prog 22 d):∃zs,IntsAt W v zs:=by
 obtain⟨fuel,h⟩:=h
 obtain⟨a,len,cap,rfl⟩:=okWide_slice Tryz.underlying22 hv
 exact IntsAt.of_trod (v:=.slice a len cap) Tryz.underlying22 Tryz.underlying3 c3 b3 (by simpa [Value.cells]using h) hf
end Go.Proofs.YtfoefpoaomepbaaGreatDoor
