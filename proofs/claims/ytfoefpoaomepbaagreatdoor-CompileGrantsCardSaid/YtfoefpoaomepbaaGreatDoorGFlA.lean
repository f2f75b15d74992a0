import Derived.Test.YtfoefpoaomepbaaGreatDoorGLt5
import Derived.Test.YtfoefpoaomepbaaGreatDoorGCxP
import Derived.Test.YtfoefpoaomepbaaGreatDoorGUs2
set_option linter.all false
set_option maxHeartbeats 16000000
set_option maxRecDepth 1000000
namespace Go.Proofs.YtfoefpoaomepbaaGreatDoor
open Go.Proofs.Tryz Tryz List
open Go.RowKit
theorem pR(op:Int)(w:World):Calls prog 88 #[.int .i64 op] w fun e w'=>e= .returned (.bool (gH op))/\w=w':=by
 by_cases h4:op=4
 ·subst h4;exact AC
 by_cases h6:op=6
 ·subst h6;exact AC
 by_cases h7:op=7
 ·subst h7;exact AC
 by_cases h8:op=8
 ·subst h8;exact AC
 by_cases h9:op=9
 ·subst h9;exact AC
 by_cases h10:op=10
 ·subst h10;exact AC
 by_cases h19:op=19
 ·subst h19;exact AC
 by_cases h20:op=20
 ·subst h20;exact AC
 have hf:gH op=false:=by unfold gH;simp only [decide_eq_false_iff_not];omega
 have b4:(op==4)=false:=by simpa using h4
 have b6:(op==6)=false:=by simpa using h6
 have b7:(op==7)=false:=by simpa using h7
 have b8:(op==8)=false:=by simpa using h8
 have b9:(op==9)=false:=by simpa using h9
 have b10:(op==10)=false:=by simpa using h10
 have b19:(op==19)=false:=by simpa using h19
 have b20:(op==20)=false:=by simpa using h20
 rw [hf];clear h4 h6 h7 h8 h9 h10 h19 h20 hf;exact AC
theorem OV{r:Int × Int × Int}(h:okF r):I64 r.1/\I64 r.2.1:=by
 unfold I64;rcases h with ⟨-,h⟩|⟨h1,h2,-⟩
 ·have:=aG h;omega
 ·rw [h1,h2];omega
theorem jZ{op a b:Int}(ha:2<=a/\a<=4)(hb:2<=b/\b<=4):I64 (ag op [a,b]):=by
 unfold ag I64;have e0:([a,b]:List Int).getD 0 0=a:=rfl;have e1:([a,b]:List Int).getD 1 0=b:=rfl;have e2:([a,b]:List Int).getD 2 0=0:=rfl;simp only [e0,e1,e2]
 (repeat' split)<;>omega
theorem BD{op a:Int}(ha:2<=a/\a<=4):I64 (ag op [a]):=by
 unfold ag I64;have e0:([a]:List Int).getD 0 0=a:=rfl;have e1:([a]:List Int).getD 1 0=0:=rfl;have e2:([a]:List Int).getD 2 0=0:=rfl;simp only [e0,e1,e2]
 (repeat' split)<;>omega
theorem gB{e:Ex}(ok:bi e){i:Nat}(hi:i<e.args.length):(2<=(e.arg i).dim/\(e.arg i).dim<=4)/\aL (e.arg i).num (e.arg i).den=true:=by
 have hm:e.arg i∈e.args:=by
  exact SL
 have:=kG (Aw (iC ok.args.1 _ hm) (ok.lit _ hm));exact⟨this.2,this.1⟩
theorem gJ(w:World):aR w (.slice none 0 0) []:=⟨by simp,none,0,rfl,.inl rfl⟩
theorem EX{op:Int}(h:gH op=true)(h6:¬op<=6):op=7\/op=8\/op=9\/op=10\/op=19\/op=20:=by
 unfold gH at h;simp only [decide_eq_true_eq]at h;omega
def TM(r:Option (Int × Int × Int))(e:Ex)(v:Value):Value:=
 match r with
 |some r=>.tuple #[.agg #[.int .i64 1,.int .i64 r.1,.int .i64 r.2.1,.int .i64 r.2.2,.string ⟨#[]⟩,.slice none 0 0],.bool true]
 |none=>.tuple #[exV e v,.bool false]
def nL(r:Option (Int × Int × Int))(e:Ex)(v:Value)(w:World)(en:Ending)(w':World):Prop:=en= .returned (TM r e v)/\w.Grows w'
theorem nL.no{r:Option (Int × Int × Int)}{e:Ex}{v x:Value}{w w':World}(h:r=none)(hx:x=exV e v)(hg:w.Grows w'):nL r e v w (.returned (.tuple #[x,.bool false])) w':=by
 subst h hx;exact⟨rfl,hg⟩
theorem nL.yes{r:Option (Int × Int × Int)}{n d m:Int}{e:Ex}{v:Value}{w w':World}(h:r=some (n,d,m))(hg:w.Grows w'):nL r e v w (.returned (.tuple #[.agg #[.int .i64 1,.int .i64 n,.int .i64 d,.int .i64 m,.string ⟨#[]⟩,.slice none 0 0],.bool true])) w':=by
 subst h;exact⟨rfl,hg⟩
theorem Sy{e:Ex}(ho:e.op=19)(ha:e.args= [e.arg 0,e.arg 1]):opV e.op (e.args.map gU)=(if kT (e.arg 0).num (e.arg 0).den (e.arg 1).num (e.arg 1).den<=0 then .num (e.arg 0).dim (e.arg 0).num (e.arg 0).den else .num (e.arg 0).dim (e.arg 1).num (e.arg 1).den,0):=by
 rw [ha,ho];rfl
theorem Sz{e:Ex}(ho:e.op=20)(ha:e.args= [e.arg 0,e.arg 1]):opV e.op (e.args.map gU)=(if 0<=kT (e.arg 0).num (e.arg 0).den (e.arg 1).num (e.arg 1).den then .num (e.arg 0).dim (e.arg 0).num (e.arg 0).den else .num (e.arg 0).dim (e.arg 1).num (e.arg 1).den,0):=by
 rw [ha,ho];rfl
theorem Qn(S:Nat->Prop)(e:Ex)(v:Value)(w:World)(h:ax S w e v)(ok:bi e)(ht:Tab w)(hres:ag e.op (e.args.map Ex.dim)=0):Calls prog 89 #[exV e v] w (nL (eu e.op e.args) e v w):=by
 have hb:=bQ ok.op;have hrng:=h.rng;have HI:=yq (fun W (hg:w.Grows W)=>dH S [] e v (.slice none 0 0) W (h.grows hg) zJ (ht.grows hg) (gJ W));rw [ok.infer]at HI;have HO:=yq ok
 cases h with
 |mk _ a cap vs hr hc hs=>
 rw [if_pos hres]at HI;have HN:Hid (eu e.op e.args=none):=yq (bi.no hres);unfold gq exV at HI;clear hres ok hs hc
 go_enter func89,ntmps89
 go_wp2_with (go_at_call 46;refine gv (HI.out _ growsR) ?_;intro bs1 d1)
 go_returns
 exact .no HN.out rfl growsR
theorem Qi(S:Nat->Prop)(e:Ex)(v:Value)(w:World)(h:ax S w e v)(ok:bi e)(ht:Tab w)(hres:ag e.op (e.args.map Ex.dim)≠0)(ho:e.op=4):Calls prog 89 #[exV e v] w (nL (eu e.op e.args) e v w):=by
 have hb:=bQ ok.op;have hrng:=h.rng;have HI:=yq (fun W (hg:w.Grows W)=>dH S [] e v (.slice none 0 0) W (h.grows hg) zJ (ht.grows hg) (gJ W));rw [ok.infer]at HI;have HO:=yq ok
 cases h with
 |mk _ a cap vs hr hc hs=>
 rw [if_neg hres]at HI;have hCC:=fun r hR=>bi.calc ok r hR hres;obtain⟨dm,hdm⟩:∃d,ag e.op (e.args.map Ex.dim)=d:=⟨_,rfl⟩;rw [hdm]at HI hCC;unfold gq exV at HI;have hlen:=hr.len;have h6:e.op<=6:=by omega
 have ha:=ok.one h6;have hl:e.args.length=1:=by rw [ha];rfl
 have hxk:=gB ok (i:=0) zb;rw [ha]at hdm;have hdb:I64 dm:=by rw [<-hdm];exact BD hxk.1
 have HFD0:=yq (fun n d (h1:I64 n) (h2:I64 d) W (hg:w.Grows W)=>bv n d dm W h1 h2 hdb (ht.grows hg));obtain⟨b,off,rfl,hS,hlt,hx⟩:=hc.resolve_left zb;obtain⟨-,x1,x2,-,-,-⟩:=hx 0 zb;simp only [Nat.zero_mul,Nat.add_zero]at x1 x2;obtain⟨-,hv⟩:=hxk;have hbd:=aG hv;unfold exV;rw [hl]at HI ⊢;have hok:=Gj hv;have HN:=yq (fun W=>DF (e.arg 0).num (e.arg 0).den W zb zb zb zb)
 have HCC:=yq (hCC (nW (e.arg 0).num (e.arg 0).den) (by
  have:opV e.op (e.args.map gU)=kr (e.arg 0).dim (nW (e.arg 0).num (e.arg 0).den):=by rw [ho,ha];rfl
  rw [this];exact ko _ _))
 unfold frV at HN;generalize nW (e.arg 0).num (e.arg 0).den=r at *;obtain⟨rn,rd,rc⟩:=r;generalize(e.arg 0).num=xn at *;generalize(e.arg 0).den=xd at *;clear hCC hres ok hs hc hx hS ha hdm hbd hv HO hdb hr hrng;have HOH:=yq ho;rw [ho]at HI HCC ⊢;clear ho h6 hb hl
 have hrI:I64 rn/\I64 rd:=by
  exact Jp
 clear hok;dsimp only at HN;obtain⟨dk,hdk⟩:∃k,aV rn rd dm=k:=⟨_,rfl⟩;have HFD:=yq (fun W hg=>HFD0.out rn rd hrI.1 hrI.2 W hg);unfold dX at HFD;rw [hdk]at HFD;dsimp only at HCC;rw [hdk]at HCC;clear hdk HFD0 hrI
 go_enter func89,ntmps89
 go_upto_region 25 with (first
  |(go_at_call 46;refine gv (HI.out _ growsR) ?_;intro bs1 d1)
  |(go_at_call 137;refine gv (HN.out _) ?_;intro bs2 d2))
 exact TC
theorem JV(S:Nat->Prop)(e:Ex)(v:Value)(w:World)(h:ax S w e v)(ok:bi e)(ht:Tab w)(hres:ag e.op (e.args.map Ex.dim)≠0)(ho:e.op=6):Calls prog 89 #[exV e v] w (nL (eu e.op e.args) e v w):=by
 have hb:=bQ ok.op;have hrng:=h.rng;have HI:=yq (fun W (hg:w.Grows W)=>dH S [] e v (.slice none 0 0) W (h.grows hg) zJ (ht.grows hg) (gJ W));rw [ok.infer]at HI;have HO:=yq ok
 cases h with
 |mk _ a cap vs hr hc hs=>
 rw [if_neg hres]at HI;have hCC:=fun r hR=>bi.calc ok r hR hres;obtain⟨dm,hdm⟩:∃d,ag e.op (e.args.map Ex.dim)=d:=⟨_,rfl⟩;rw [hdm]at HI hCC;unfold gq exV at HI;have hlen:=hr.len;have h6:e.op<=6:=by omega
 have ha:=ok.one h6;have hl:e.args.length=1:=by rw [ha];rfl
 have hxk:=gB ok (i:=0) zb;rw [ha]at hdm;have hdb:I64 dm:=by rw [<-hdm];exact BD hxk.1
 have HFD0:=yq (fun n d (h1:I64 n) (h2:I64 d) W (hg:w.Grows W)=>bv n d dm W h1 h2 hdb (ht.grows hg));obtain⟨b,off,rfl,hS,hlt,hx⟩:=hc.resolve_left zb;obtain⟨-,x1,x2,-,-,-⟩:=hx 0 zb;simp only [Nat.zero_mul,Nat.add_zero]at x1 x2;obtain⟨-,hv⟩:=hxk;have hbd:=aG hv;unfold exV;rw [hl]at HI ⊢;have hok:=C9 hv;have HN:=yq (fun W=>FH (e.arg 0).num (e.arg 0).den W zb zb zb zb)
 have HCC:=yq (hCC ((fF (e.arg 0).num (e.arg 0).den).1,1,(fF (e.arg 0).num (e.arg 0).den).2) (by
  have:opV e.op (e.args.map gU)=kr (e.arg 0).dim ((fF (e.arg 0).num (e.arg 0).den).1,1,(fF (e.arg 0).num (e.arg 0).den).2):=by rw [ho,ha];rfl
  rw [this];exact ko _ _))
 unfold frI at HN;generalize fF (e.arg 0).num (e.arg 0).den=r at *;obtain⟨rn,rc⟩:=r;generalize(e.arg 0).num=xn at *;generalize(e.arg 0).den=xd at *;clear hCC hres ok hs hc hx hS ha hdm hbd hv HO hdb hr hrng;have HOH:=yq ho;rw [ho]at HI HCC ⊢;clear ho h6 hb hl
 have hrI:I64 rn/\I64 1:=by
  exact Jp
 clear hok;dsimp only at HN;obtain⟨dk,hdk⟩:∃k,aV rn 1 dm=k:=⟨_,rfl⟩;have HFD:=yq (fun W hg=>HFD0.out rn 1 hrI.1 hrI.2 W hg);unfold dX at HFD;rw [hdk]at HFD;dsimp only at HCC;rw [hdk]at HCC;clear hdk HFD0 hrI
 go_enter func89,ntmps89
 go_upto_region 25 with (first
  |(go_at_call 46;refine gv (HI.out _ growsR) ?_;intro bs1 d1)
  |(go_at_call 138;refine gv (HN.out _) ?_;intro bs2 d2))
 exact TC
theorem Qo(S:Nat->Prop)(e:Ex)(v:Value)(w:World)(h:ax S w e v)(ok:bi e)(ht:Tab w)(hres:ag e.op (e.args.map Ex.dim)≠0)(ho:e.op=7):Calls prog 89 #[exV e v] w (nL (eu e.op e.args) e v w):=by
 have hb:=bQ ok.op;have hrng:=h.rng;have HI:=yq (fun W (hg:w.Grows W)=>dH S [] e v (.slice none 0 0) W (h.grows hg) zJ (ht.grows hg) (gJ W));rw [ok.infer]at HI;have HO:=yq ok
 cases h with
 |mk _ a cap vs hr hc hs=>
 rw [if_neg hres]at HI;have hCC:=fun r hR=>bi.calc ok r hR hres;obtain⟨dm,hdm⟩:∃d,ag e.op (e.args.map Ex.dim)=d:=⟨_,rfl⟩;rw [hdm]at HI hCC;unfold gq exV at HI;have hlen:=hr.len;have h6:7<=e.op:=by omega
 have ha:=ok.two h6;have hl:e.args.length=2:=by rw [ha];rfl
 obtain⟨hxd,hv⟩:=gB ok (i:=0) zb;obtain⟨hyd,hv2⟩:=gB ok (i:=1) zb;rw [ha]at hdm;have hdb:I64 dm:=by rw [<-hdm];exact jZ hxd hyd
 have HFD0:=yq (fun n d (h1:I64 n) (h2:I64 d) W (hg:w.Grows W)=>bv n d dm W h1 h2 hdb (ht.grows hg));obtain⟨b,off,rfl,hS,hlt,hx⟩:=hc.resolve_left zb;obtain⟨-,x1,x2,-,-,-⟩:=hx 0 zb;obtain⟨-,y1,y2,-,-,-⟩:=hx 1 zb;simp only [Nat.zero_mul,Nat.add_zero,Nat.one_mul]at x1 x2 y1 y2;have hbd:=aG hv;have hbd2:=aG hv2;have hi:mK (e.arg 0).num (e.arg 0).den (e.arg 1).num (e.arg 1).den:=⟨⟨by omega,by omega⟩,⟨by omega,by omega⟩,⟨by omega,by omega⟩,⟨by omega,by omega⟩⟩;unfold exV;rw [hl]at HI ⊢;have HN:=yq (fun W=>DN (e.arg 0).num (e.arg 0).den (e.arg 1).num (e.arg 1).den W hi);have hok:=Bd hv hv2
 have HCC:=yq (hCC (pX (e.arg 0).num (e.arg 0).den (e.arg 1).num (e.arg 1).den) (by
  have:opV e.op (e.args.map gU)=kr ((e.arg 0).dim) (pX (e.arg 0).num (e.arg 0).den (e.arg 1).num (e.arg 1).den):=by rw [ho,ha];rfl
  rw [this];exact ko _ _))
 unfold frV at HN;generalize pX (e.arg 0).num (e.arg 0).den (e.arg 1).num (e.arg 1).den=r at *;obtain⟨rn,rd,rc⟩:=r;generalize(e.arg 0).num=xn at *;generalize(e.arg 0).den=xd at *;generalize(e.arg 1).num=yn at *;generalize(e.arg 1).den=yd at *;clear hCC hres ok hs hc hx hS ha hdm hbd hbd2 hi hv hv2 HO hdb hr hrng;have HOH:=yq ho;rw [ho]at HI HCC ⊢;clear ho h6 hb hl
 have hrI:I64 rn/\I64 rd:=by
  exact Jp
 clear hok;dsimp only at HN;obtain⟨dk,hdk⟩:∃k,aV rn rd dm=k:=⟨_,rfl⟩;have HFD:=yq (fun W hg=>HFD0.out rn rd hrI.1 hrI.2 W hg);unfold dX at HFD;rw [hdk]at HFD;dsimp only at HCC;rw [hdk]at HCC;clear hdk HFD0 hrI
 go_enter func89,ntmps89
 go_upto_region 18 with (go_at_call 46;refine gv (HI.out _ growsR) ?_;intro bs1 d1)
 refine TS.begin [11] (World.Grows ((((w.alloc (.cells #[.int .i64 7,.int .i64 e.num,.int .i64 e.den,.int .i64 e.dim,.string e.name,.slice (some ⟨b,off,none⟩) 2 cap] 27)).alloc (.cells #[.int .i64 0,.int .i64 0,.int .i64 0,.int .i64 0,.string ⟨#[]⟩,.slice none 0 0] 27)).grow bs1 d1).alloc (.cells #[.int .i64 xn,.int .i64 xd] 24))) ze ze growsR (fun hS=>?_);refine kq 0 hS ?_;refine kq 1 hS ?_;refine kq 2 hS ?_;refine kq 3 hS ?_;refine kq 4 hS ?_;refine kq 5 hS ?_;refine TS.one (i:=6) ze rfl (fun K1 hK1=>?_);have HK1:=yq hK1;clear hK1 hS;dsimp only [getElem_toArray,getElem_cons_succ,getElem_cons_zero]
 go_simp
 go_at_call 139
 exact gz2
theorem Qh(S:Nat->Prop)(e:Ex)(v:Value)(w:World)(h:ax S w e v)(ok:bi e)(ht:Tab w)(hres:ag e.op (e.args.map Ex.dim)≠0)(ho:e.op=8):Calls prog 89 #[exV e v] w (nL (eu e.op e.args) e v w):=by
 have hb:=bQ ok.op;have hrng:=h.rng;have HI:=yq (fun W (hg:w.Grows W)=>dH S [] e v (.slice none 0 0) W (h.grows hg) zJ (ht.grows hg) (gJ W));rw [ok.infer]at HI;have HO:=yq ok
 cases h with
 |mk _ a cap vs hr hc hs=>
 rw [if_neg hres]at HI;have hCC:=fun r hR=>bi.calc ok r hR hres;obtain⟨dm,hdm⟩:∃d,ag e.op (e.args.map Ex.dim)=d:=⟨_,rfl⟩;rw [hdm]at HI hCC;unfold gq exV at HI;have hlen:=hr.len;have h6:7<=e.op:=by omega
 have ha:=ok.two h6;have hl:e.args.length=2:=by rw [ha];rfl
 obtain⟨hxd,hv⟩:=gB ok (i:=0) zb;obtain⟨hyd,hv2⟩:=gB ok (i:=1) zb;rw [ha]at hdm;have hdb:I64 dm:=by rw [<-hdm];exact jZ hxd hyd
 have HFD0:=yq (fun n d (h1:I64 n) (h2:I64 d) W (hg:w.Grows W)=>bv n d dm W h1 h2 hdb (ht.grows hg));obtain⟨b,off,rfl,hS,hlt,hx⟩:=hc.resolve_left zb;obtain⟨-,x1,x2,-,-,-⟩:=hx 0 zb;obtain⟨-,y1,y2,-,-,-⟩:=hx 1 zb;simp only [Nat.zero_mul,Nat.add_zero,Nat.one_mul]at x1 x2 y1 y2;have hbd:=aG hv;have hbd2:=aG hv2;have hi:mK (e.arg 0).num (e.arg 0).den (e.arg 1).num (e.arg 1).den:=⟨⟨by omega,by omega⟩,⟨by omega,by omega⟩,⟨by omega,by omega⟩,⟨by omega,by omega⟩⟩;unfold exV;rw [hl]at HI ⊢;have HN:=yq (fun W=>Ns (e.arg 0).num (e.arg 0).den (e.arg 1).num (e.arg 1).den W hi);have hok:=FO hv hv2
 have HCC:=yq (hCC (sZ (e.arg 0).num (e.arg 0).den (e.arg 1).num (e.arg 1).den) (by
  have:opV e.op (e.args.map gU)=kr ((e.arg 0).dim) (sZ (e.arg 0).num (e.arg 0).den (e.arg 1).num (e.arg 1).den):=by rw [ho,ha];rfl
  rw [this];exact ko _ _))
 unfold frV at HN;generalize sZ (e.arg 0).num (e.arg 0).den (e.arg 1).num (e.arg 1).den=r at *;obtain⟨rn,rd,rc⟩:=r;generalize(e.arg 0).num=xn at *;generalize(e.arg 0).den=xd at *;generalize(e.arg 1).num=yn at *;generalize(e.arg 1).den=yd at *;clear hCC hres ok hs hc hx hS ha hdm hbd hbd2 hi hv hv2 HO hdb hr hrng;have HOH:=yq ho;rw [ho]at HI HCC ⊢;clear ho h6 hb hl
 have hrI:I64 rn/\I64 rd:=by
  exact Jp
 clear hok;dsimp only at HN;obtain⟨dk,hdk⟩:∃k,aV rn rd dm=k:=⟨_,rfl⟩;have HFD:=yq (fun W hg=>HFD0.out rn rd hrI.1 hrI.2 W hg);unfold dX at HFD;rw [hdk]at HFD;dsimp only at HCC;rw [hdk]at HCC;clear hdk HFD0 hrI
 go_enter func89,ntmps89
 go_upto_region 20 with (go_at_call 46;refine gv (HI.out _ growsR) ?_;intro bs1 d1)
 refine TS.begin [11] (World.Grows ((((w.alloc (.cells #[.int .i64 8,.int .i64 e.num,.int .i64 e.den,.int .i64 e.dim,.string e.name,.slice (some ⟨b,off,none⟩) 2 cap] 27)).alloc (.cells #[.int .i64 0,.int .i64 0,.int .i64 0,.int .i64 0,.string ⟨#[]⟩,.slice none 0 0] 27)).grow bs1 d1).alloc (.cells #[.int .i64 xn,.int .i64 xd] 24))) ze ze growsR (fun hS=>?_);refine kq 0 hS ?_;refine kq 1 hS ?_;refine kq 2 hS ?_;refine kq 3 hS ?_;refine kq 4 hS ?_;refine kq 5 hS ?_;refine TS.one (i:=6) ze rfl (fun K1 hK1=>?_);have HK1:=yq hK1;clear hK1 hS;dsimp only [getElem_toArray,getElem_cons_succ,getElem_cons_zero]
 go_simp
 go_at_call 140
 exact gz2
theorem Qj(S:Nat->Prop)(e:Ex)(v:Value)(w:World)(h:ax S w e v)(ok:bi e)(ht:Tab w)(hres:ag e.op (e.args.map Ex.dim)≠0)(ho:e.op=9):Calls prog 89 #[exV e v] w (nL (eu e.op e.args) e v w):=by
 have hb:=bQ ok.op;have hrng:=h.rng;have HI:=yq (fun W (hg:w.Grows W)=>dH S [] e v (.slice none 0 0) W (h.grows hg) zJ (ht.grows hg) (gJ W));rw [ok.infer]at HI;have HO:=yq ok
 cases h with
 |mk _ a cap vs hr hc hs=>
 rw [if_neg hres]at HI;have hCC:=fun r hR=>bi.calc ok r hR hres;obtain⟨dm,hdm⟩:∃d,ag e.op (e.args.map Ex.dim)=d:=⟨_,rfl⟩;rw [hdm]at HI hCC;unfold gq exV at HI;have hlen:=hr.len;have h6:7<=e.op:=by omega
 have ha:=ok.two h6;have hl:e.args.length=2:=by rw [ha];rfl
 obtain⟨hxd,hv⟩:=gB ok (i:=0) zb;obtain⟨hyd,hv2⟩:=gB ok (i:=1) zb;rw [ha]at hdm;have hdb:I64 dm:=by rw [<-hdm];exact jZ hxd hyd
 have HFD0:=yq (fun n d (h1:I64 n) (h2:I64 d) W (hg:w.Grows W)=>bv n d dm W h1 h2 hdb (ht.grows hg));obtain⟨b,off,rfl,hS,hlt,hx⟩:=hc.resolve_left zb;obtain⟨-,x1,x2,-,-,-⟩:=hx 0 zb;obtain⟨-,y1,y2,-,-,-⟩:=hx 1 zb;simp only [Nat.zero_mul,Nat.add_zero,Nat.one_mul]at x1 x2 y1 y2;have hbd:=aG hv;have hbd2:=aG hv2;have hi:mK (e.arg 0).num (e.arg 0).den (e.arg 1).num (e.arg 1).den:=⟨⟨by omega,by omega⟩,⟨by omega,by omega⟩,⟨by omega,by omega⟩,⟨by omega,by omega⟩⟩;unfold exV;rw [hl]at HI ⊢;have HN:=yq (fun W=>Nz (e.arg 0).num (e.arg 0).den (e.arg 1).num (e.arg 1).den W hi);have hok:=Gl hv hv2
 have HCC:=yq (hCC (rW (e.arg 0).num (e.arg 0).den (e.arg 1).num (e.arg 1).den) (by
  have:opV e.op (e.args.map gU)=kr (ag 9 [(e.arg 0).dim,(e.arg 1).dim]) (rW (e.arg 0).num (e.arg 0).den (e.arg 1).num (e.arg 1).den):=by rw [ho,ha];rfl
  rw [this];exact ko _ _))
 unfold frV at HN;generalize rW (e.arg 0).num (e.arg 0).den (e.arg 1).num (e.arg 1).den=r at *;obtain⟨rn,rd,rc⟩:=r;generalize(e.arg 0).num=xn at *;generalize(e.arg 0).den=xd at *;generalize(e.arg 1).num=yn at *;generalize(e.arg 1).den=yd at *;clear hCC hres ok hs hc hx hS ha hdm hbd hbd2 hi hv hv2 HO hdb hr hrng;have HOH:=yq ho;rw [ho]at HI HCC ⊢;clear ho h6 hb hl
 have hrI:I64 rn/\I64 rd:=by
  exact Jp
 clear hok;dsimp only at HN;obtain⟨dk,hdk⟩:∃k,aV rn rd dm=k:=⟨_,rfl⟩;have HFD:=yq (fun W hg=>HFD0.out rn rd hrI.1 hrI.2 W hg);unfold dX at HFD;rw [hdk]at HFD;dsimp only at HCC;rw [hdk]at HCC;clear hdk HFD0 hrI
 go_enter func89,ntmps89
 go_upto_region 22 with (go_at_call 46;refine gv (HI.out _ growsR) ?_;intro bs1 d1)
 refine TS.begin [11] (World.Grows ((((w.alloc (.cells #[.int .i64 9,.int .i64 e.num,.int .i64 e.den,.int .i64 e.dim,.string e.name,.slice (some ⟨b,off,none⟩) 2 cap] 27)).alloc (.cells #[.int .i64 0,.int .i64 0,.int .i64 0,.int .i64 0,.string ⟨#[]⟩,.slice none 0 0] 27)).grow bs1 d1).alloc (.cells #[.int .i64 xn,.int .i64 xd] 24))) ze ze growsR (fun hS=>?_);refine kq 0 hS ?_;refine kq 1 hS ?_;refine kq 2 hS ?_;refine kq 3 hS ?_;refine kq 4 hS ?_;refine kq 5 hS ?_;refine TS.one (i:=6) ze rfl (fun K1 hK1=>?_);have HK1:=yq hK1;clear hK1 hS;dsimp only [getElem_toArray,getElem_cons_succ,getElem_cons_zero]
 go_simp
 go_at_call 141
 exact gz2
theorem Qm(S:Nat->Prop)(e:Ex)(v:Value)(w:World)(h:ax S w e v)(ok:bi e)(ht:Tab w)(hres:ag e.op (e.args.map Ex.dim)≠0)(ho:e.op=10):Calls prog 89 #[exV e v] w (nL (eu e.op e.args) e v w):=by
 have hb:=bQ ok.op;have hrng:=h.rng;have HI:=yq (fun W (hg:w.Grows W)=>dH S [] e v (.slice none 0 0) W (h.grows hg) zJ (ht.grows hg) (gJ W));rw [ok.infer]at HI;have HO:=yq ok
 cases h with
 |mk _ a cap vs hr hc hs=>
 rw [if_neg hres]at HI;have hCC:=fun r hR=>bi.calc ok r hR hres;obtain⟨dm,hdm⟩:∃d,ag e.op (e.args.map Ex.dim)=d:=⟨_,rfl⟩;rw [hdm]at HI hCC;unfold gq exV at HI;have hlen:=hr.len;have h6:7<=e.op:=by omega
 have ha:=ok.two h6;have hl:e.args.length=2:=by rw [ha];rfl
 obtain⟨hxd,hv⟩:=gB ok (i:=0) zb;obtain⟨hyd,hv2⟩:=gB ok (i:=1) zb;rw [ha]at hdm;have hdb:I64 dm:=by rw [<-hdm];exact jZ hxd hyd
 have HFD0:=yq (fun n d (h1:I64 n) (h2:I64 d) W (hg:w.Grows W)=>bv n d dm W h1 h2 hdb (ht.grows hg));obtain⟨b,off,rfl,hS,hlt,hx⟩:=hc.resolve_left zb;obtain⟨-,x1,x2,-,-,-⟩:=hx 0 zb;obtain⟨-,y1,y2,-,-,-⟩:=hx 1 zb;simp only [Nat.zero_mul,Nat.add_zero,Nat.one_mul]at x1 x2 y1 y2;have hbd:=aG hv;have hbd2:=aG hv2;have hi:mK (e.arg 0).num (e.arg 0).den (e.arg 1).num (e.arg 1).den:=⟨⟨by omega,by omega⟩,⟨by omega,by omega⟩,⟨by omega,by omega⟩,⟨by omega,by omega⟩⟩;unfold exV;rw [hl]at HI ⊢;have HN:=yq (fun W=>NF (e.arg 0).num (e.arg 0).den (e.arg 1).num (e.arg 1).den W hi);have hok:=GJ hv hv2
 have HCC:=yq (hCC (rY (e.arg 0).num (e.arg 0).den (e.arg 1).num (e.arg 1).den) (by
  have:opV e.op (e.args.map gU)=kr (ag 10 [(e.arg 0).dim,(e.arg 1).dim]) (rY (e.arg 0).num (e.arg 0).den (e.arg 1).num (e.arg 1).den):=by rw [ho,ha];rfl
  rw [this];exact ko _ _))
 unfold frV at HN;generalize rY (e.arg 0).num (e.arg 0).den (e.arg 1).num (e.arg 1).den=r at *;obtain⟨rn,rd,rc⟩:=r;generalize(e.arg 0).num=xn at *;generalize(e.arg 0).den=xd at *;generalize(e.arg 1).num=yn at *;generalize(e.arg 1).den=yd at *;clear hCC hres ok hs hc hx hS ha hdm hbd hbd2 hi hv hv2 HO hdb hr hrng;have HOH:=yq ho;rw [ho]at HI HCC ⊢;clear ho h6 hb hl
 have hrI:I64 rn/\I64 rd:=by
  exact Jp
 clear hok;dsimp only at HN;obtain⟨dk,hdk⟩:∃k,aV rn rd dm=k:=⟨_,rfl⟩;have HFD:=yq (fun W hg=>HFD0.out rn rd hrI.1 hrI.2 W hg);unfold dX at HFD;rw [hdk]at HFD;dsimp only at HCC;rw [hdk]at HCC;clear hdk HFD0 hrI
 go_enter func89,ntmps89
 go_upto_region 24 with (go_at_call 46;refine gv (HI.out _ growsR) ?_;intro bs1 d1)
 refine TS.begin [11] (World.Grows ((((w.alloc (.cells #[.int .i64 10,.int .i64 e.num,.int .i64 e.den,.int .i64 e.dim,.string e.name,.slice (some ⟨b,off,none⟩) 2 cap] 27)).alloc (.cells #[.int .i64 0,.int .i64 0,.int .i64 0,.int .i64 0,.string ⟨#[]⟩,.slice none 0 0] 27)).grow bs1 d1).alloc (.cells #[.int .i64 xn,.int .i64 xd] 24))) ze ze growsR (fun hS=>?_);refine kq 0 hS ?_;refine kq 1 hS ?_;refine kq 2 hS ?_;refine kq 3 hS ?_;refine kq 4 hS ?_;refine kq 5 hS ?_;refine TS.one (i:=6) ze rfl (fun K1 hK1=>?_);have HK1:=yq hK1;clear hK1 hS;dsimp only [getElem_toArray,getElem_cons_succ,getElem_cons_zero]
 go_simp
 go_at_call 142
 exact gz2
theorem Qk(S:Nat->Prop)(e:Ex)(v:Value)(w:World)(h:ax S w e v)(ok:bi e)(ht:Tab w)(hres:ag e.op (e.args.map Ex.dim)≠0)(ho:e.op=19):Calls prog 89 #[exV e v] w (nL (eu e.op e.args) e v w):=by
 have hb:=bQ ok.op;have hrng:=h.rng;have HI:=yq (fun W (hg:w.Grows W)=>dH S [] e v (.slice none 0 0) W (h.grows hg) zJ (ht.grows hg) (gJ W));rw [ok.infer]at HI;have HO:=yq ok
 cases h with
 |mk _ a cap vs hr hc hs=>
 rw [if_neg hres]at HI;have hCC:=fun r hR=>bi.calc ok r hR hres;obtain⟨dm,hdm⟩:∃d,ag e.op (e.args.map Ex.dim)=d:=⟨_,rfl⟩;rw [hdm]at HI hCC;unfold gq exV at HI;have hlen:=hr.len;have h6:7<=e.op:=by omega
 have ha:=ok.two h6;have hl:e.args.length=2:=by rw [ha];rfl
 obtain⟨hxd,hv⟩:=gB ok (i:=0) zb;obtain⟨hyd,hv2⟩:=gB ok (i:=1) zb;rw [ha]at hdm;have hdb:I64 dm:=by rw [<-hdm];exact jZ hxd hyd
 have HFD0:=yq (fun n d (h1:I64 n) (h2:I64 d) W (hg:w.Grows W)=>bv n d dm W h1 h2 hdb (ht.grows hg));obtain⟨b,off,rfl,hS,hlt,hx⟩:=hc.resolve_left zb;obtain⟨-,x1,x2,-,-,-⟩:=hx 0 zb;obtain⟨-,y1,y2,-,-,-⟩:=hx 1 zb;simp only [Nat.zero_mul,Nat.add_zero,Nat.one_mul]at x1 x2 y1 y2;have hbd:=aG hv;have hbd2:=aG hv2;have hi:mK (e.arg 0).num (e.arg 0).den (e.arg 1).num (e.arg 1).den:=⟨⟨by omega,by omega⟩,⟨by omega,by omega⟩,⟨by omega,by omega⟩,⟨by omega,by omega⟩⟩;unfold exV;rw [hl]at HI ⊢;have HQ:=yq (Sy ho ha);have HEQ:=yq (fun h=>xB hv hv2 h);have HN:=yq (fun W=>qf (e.arg 0).num (e.arg 0).den (e.arg 1).num (e.arg 1).den W hi);have hcf:=GR hv hv2;unfold frI at HN;rw [hcf]at HN;dsimp only at HN;have hox:I64 (e.arg 0).num/\I64 (e.arg 0).den:=⟨⟨by omega,by omega⟩,⟨by omega,by omega⟩⟩;have hoy:I64 (e.arg 1).num/\I64 (e.arg 1).den:=⟨⟨by omega,by omega⟩,⟨by omega,by omega⟩⟩;generalize kT (e.arg 0).num (e.arg 0).den (e.arg 1).num (e.arg 1).den=c at *;have HXC:=yq (hCC ((e.arg 0).num,(e.arg 0).den,0));have HYC:=yq (hCC ((e.arg 1).num,(e.arg 1).den,0));generalize(e.arg 0).num=xn at *;generalize(e.arg 0).den=xd at *;generalize(e.arg 1).num=yn at *;generalize(e.arg 1).den=yd at *;clear hCC hres ok hs hc hx hS ha hdm hbd hbd2 hi hv hv2 HO hdb hr hrng hcf;have HOH:=yq ho;rw [ho]at HI HQ HXC HYC ⊢;clear ho h6 hb hl;rcases(show c<0\/c=0\/0<c by omega)with h1|h1|h1
 focus
  have d1:decide (c<0)=true:=decide_eq_true h1;have HCC:=yq (HXC.out ⟨by rw [HQ.out],fun _=>by rw [HQ.out];(first|rw [if_pos zb]|rw [if_neg zb]);exact⟨rfl,rfl⟩⟩);have hrI:=hox;clear HQ HEQ HXC HYC hox hoy;obtain⟨dk,hdk⟩:∃k,aV xn xd dm=k:=⟨_,rfl⟩;have HFD:=yq (fun W hg=>HFD0.out xn xd hrI.1 hrI.2 W hg)
 rotate_left
 focus
  subst h1;obtain⟨rfl,rfl⟩:=HEQ.out rfl;have HCC:=yq (HXC.out ⟨by rw [HQ.out],fun _=>by rw [HQ.out];exact⟨rfl,rfl⟩⟩);have hrI:=hox;clear HQ HEQ HXC HYC hox hoy;obtain⟨dk,hdk⟩:∃k,aV xn xd dm=k:=⟨_,rfl⟩;have HFD:=yq (fun W hg=>HFD0.out xn xd hrI.1 hrI.2 W hg)
 rotate_left
 focus
  have d1:decide (c<0)=false:=decide_eq_false zb;have HCC:=yq (HYC.out ⟨by rw [HQ.out],fun _=>by rw [HQ.out];(first|rw [if_pos zb]|rw [if_neg zb]);exact⟨rfl,rfl⟩⟩);have hrI:=hoy;clear HQ HEQ HXC HYC hox hoy;obtain⟨dk,hdk⟩:∃k,aV yn yd dm=k:=⟨_,rfl⟩;have HFD:=yq (fun W hg=>HFD0.out yn yd hrI.1 hrI.2 W hg)
 rotate_left
 all_goals
  unfold dX at HFD;rw [hdk]at HFD;dsimp only at HCC;rw [hdk]at HCC;clear hdk HFD0 hrI
  go_enter func89,ntmps89
  go_upto_region 8 with (go_at_call 46;refine gv (HI.out _ growsR) ?_;intro bs1 d1)
  refine TS.begin [11] (World.Grows ((((w.alloc (.cells #[.int .i64 19,.int .i64 e.num,.int .i64 e.den,.int .i64 e.dim,.string e.name,.slice (some ⟨b,off,none⟩) 2 cap] 27)).alloc (.cells #[.int .i64 0,.int .i64 0,.int .i64 0,.int .i64 0,.string ⟨#[]⟩,.slice none 0 0] 27)).grow bs1 d1).alloc (.cells #[.int .i64 xn,.int .i64 xd] 24))) ze ze growsR (fun hS=>?_);exact gz9
theorem Ql(S:Nat->Prop)(e:Ex)(v:Value)(w:World)(h:ax S w e v)(ok:bi e)(ht:Tab w)(hres:ag e.op (e.args.map Ex.dim)≠0)(ho:e.op=20):Calls prog 89 #[exV e v] w (nL (eu e.op e.args) e v w):=by
 have hb:=bQ ok.op;have hrng:=h.rng;have HI:=yq (fun W (hg:w.Grows W)=>dH S [] e v (.slice none 0 0) W (h.grows hg) zJ (ht.grows hg) (gJ W));rw [ok.infer]at HI;have HO:=yq ok
 cases h with
 |mk _ a cap vs hr hc hs=>
 rw [if_neg hres]at HI;have hCC:=fun r hR=>bi.calc ok r hR hres;obtain⟨dm,hdm⟩:∃d,ag e.op (e.args.map Ex.dim)=d:=⟨_,rfl⟩;rw [hdm]at HI hCC;unfold gq exV at HI;have hlen:=hr.len;have h6:7<=e.op:=by omega
 have ha:=ok.two h6;have hl:e.args.length=2:=by rw [ha];rfl
 obtain⟨hxd,hv⟩:=gB ok (i:=0) zb;obtain⟨hyd,hv2⟩:=gB ok (i:=1) zb;rw [ha]at hdm;have hdb:I64 dm:=by rw [<-hdm];exact jZ hxd hyd
 have HFD0:=yq (fun n d (h1:I64 n) (h2:I64 d) W (hg:w.Grows W)=>bv n d dm W h1 h2 hdb (ht.grows hg));obtain⟨b,off,rfl,hS,hlt,hx⟩:=hc.resolve_left zb;obtain⟨-,x1,x2,-,-,-⟩:=hx 0 zb;obtain⟨-,y1,y2,-,-,-⟩:=hx 1 zb;simp only [Nat.zero_mul,Nat.add_zero,Nat.one_mul]at x1 x2 y1 y2;have hbd:=aG hv;have hbd2:=aG hv2;have hi:mK (e.arg 0).num (e.arg 0).den (e.arg 1).num (e.arg 1).den:=⟨⟨by omega,by omega⟩,⟨by omega,by omega⟩,⟨by omega,by omega⟩,⟨by omega,by omega⟩⟩;unfold exV;rw [hl]at HI ⊢;have HQ:=yq (Sz ho ha);have HEQ:=yq (fun h=>xB hv hv2 h);have HN:=yq (fun W=>qf (e.arg 0).num (e.arg 0).den (e.arg 1).num (e.arg 1).den W hi);have hcf:=GR hv hv2;unfold frI at HN;rw [hcf]at HN;dsimp only at HN;have hox:I64 (e.arg 0).num/\I64 (e.arg 0).den:=⟨⟨by omega,by omega⟩,⟨by omega,by omega⟩⟩;have hoy:I64 (e.arg 1).num/\I64 (e.arg 1).den:=⟨⟨by omega,by omega⟩,⟨by omega,by omega⟩⟩;generalize kT (e.arg 0).num (e.arg 0).den (e.arg 1).num (e.arg 1).den=c at *;have HXC:=yq (hCC ((e.arg 0).num,(e.arg 0).den,0));have HYC:=yq (hCC ((e.arg 1).num,(e.arg 1).den,0));generalize(e.arg 0).num=xn at *;generalize(e.arg 0).den=xd at *;generalize(e.arg 1).num=yn at *;generalize(e.arg 1).den=yd at *;clear hCC hres ok hs hc hx hS ha hdm hbd hbd2 hi hv hv2 HO hdb hr hrng hcf;have HOH:=yq ho;rw [ho]at HI HQ HXC HYC ⊢;clear ho h6 hb hl;rcases(show c<0\/c=0\/0<c by omega)with h1|h1|h1
 focus
  have d1:decide (c<0)=true:=decide_eq_true h1;have HCC:=yq (HYC.out ⟨by rw [HQ.out],fun _=>by rw [HQ.out];(first|rw [if_pos zb]|rw [if_neg zb]);exact⟨rfl,rfl⟩⟩);have hrI:=hoy;clear HQ HEQ HXC HYC hox hoy;obtain⟨dk,hdk⟩:∃k,aV yn yd dm=k:=⟨_,rfl⟩;have HFD:=yq (fun W hg=>HFD0.out yn yd hrI.1 hrI.2 W hg)
 rotate_left
 focus
  subst h1;obtain⟨rfl,rfl⟩:=HEQ.out rfl;have HCC:=yq (HXC.out ⟨by rw [HQ.out],fun _=>by rw [HQ.out];exact⟨rfl,rfl⟩⟩);have hrI:=hox;clear HQ HEQ HXC HYC hox hoy;obtain⟨dk,hdk⟩:∃k,aV xn xd dm=k:=⟨_,rfl⟩;have HFD:=yq (fun W hg=>HFD0.out xn xd hrI.1 hrI.2 W hg)
 rotate_left
 focus
  have d1:decide (c<0)=false:=decide_eq_false zb;have HCC:=yq (HXC.out ⟨by rw [HQ.out],fun _=>by rw [HQ.out];(first|rw [if_pos zb]|rw [if_neg zb]);exact⟨rfl,rfl⟩⟩);have hrI:=hox;clear HQ HEQ HXC HYC hox hoy;obtain⟨dk,hdk⟩:∃k,aV xn xd dm=k:=⟨_,rfl⟩;have HFD:=yq (fun W hg=>HFD0.out xn xd hrI.1 hrI.2 W hg)
 rotate_left
 all_goals
  unfold dX at HFD;rw [hdk]at HFD;dsimp only at HCC;rw [hdk]at HCC;clear hdk HFD0 hrI
  go_enter func89,ntmps89
  go_upto_region 8 with (go_at_call 46;refine gv (HI.out _ growsR) ?_;intro bs1 d1)
  refine TS.begin [11] (World.Grows ((((w.alloc (.cells #[.int .i64 20,.int .i64 e.num,.int .i64 e.den,.int .i64 e.dim,.string e.name,.slice (some ⟨b,off,none⟩) 2 cap] 27)).alloc (.cells #[.int .i64 0,.int .i64 0,.int .i64 0,.int .i64 0,.string ⟨#[]⟩,.slice none 0 0] 27)).grow bs1 d1).alloc (.cells #[.int .i64 xn,.int .i64 xd] 24))) ze ze growsR (fun hS=>?_);exact gz9
theorem vX(S:Nat->Prop)(e:Ex)(v:Value)(w:World)(h:ax S w e v)(ok:bi e)(ht:Tab w):Calls prog 89 #[exV e v] w (nL (eu e.op e.args) e v w):=by
 by_cases hres:ag e.op (e.args.map Ex.dim)=0
 ·exact Qn S e v w h ok ht hres
 have:=bQ ok.op;rcases(show e.op=4\/e.op=6\/(¬e.op<=6)by omega)with ho|ho|ho
 ·exact Qi S e v w h ok ht hres ho
 ·exact JV S e v w h ok ht hres ho
 rcases EX ok.op ho with ho|ho|ho|ho|ho|ho
 ·exact Qo S e v w h ok ht hres ho
 ·exact Qh S e v w h ok ht hres ho
 ·exact Qj S e v w h ok ht hres ho
 ·exact Qm S e v w h ok ht hres ho
 ·exact Qk S e v w h ok ht hres ho
 ·exact Ql S e v w h ok ht hres ho
theorem eB.growsF{m:Nat}{w w':World}{v:Value}{l:List (Ex × Value)}(h:eB m w v l)(hg:w.Grows w'):eB m w' v l:=h.keep hg.below.size fun k _ hlt=>hg.below.block k hlt
def Ez(l:List (Ex × Value)):Bool:=l.all fun x=>x.1.op==1
theorem I7(l:List (Ex × Value))(z:Ex)(v:Value):Ez (l++[(z,v)])=(Ez l&&(z.op==1)):=by
 unfold Ez;rw [all_append];simp
theorem xE{e:Ex}{l:List (Ex × Value)}(hl:e.args.map aN=l.map (·.1)):aN e=iD e.op e.num e.den e.dim e.name (l.map (·.1)):=by rw [MG,hl]
theorem Jw{e:Ex}{l:List (Ex × Value)}(hl:e.args.map aN=l.map (·.1))(hf:ay e=true)(ho:gH e.op=true)(ha:Ez l=true):bi (.mk e.op e.num e.den e.dim e.name (l.map (·.1))):=by
 refine⟨ho,fun y hy=>?_, ?_⟩
 ·obtain⟨x,hx,rfl⟩:=mem_map.1 (show y∈l.map (·.1)from hy);have:=all_eq_true.1 ha x hx;simpa using this
 ·rw [<-hl];cases e;exact BP hf
theorem qI{e:Ex}{l:List (Ex × Value)}(hl:e.args.map aN=l.map (·.1))(h:eu e.op (l.map (·.1))=none):aN e= .mk e.op e.num e.den e.dim e.name (l.map (·.1)):=by
 rw [xE hl];unfold iD;rw [h]
theorem C8{e:Ex}{l:List (Ex × Value)}(h:Ez l=false\/gH e.op=false):eu e.op (l.map (·.1))=none:=by
 unfold eu;refine if_neg fun c=>?_;rcases h with h|h
 ·have:Ez l=true:=all_eq_true.2 fun x hx=>by
   have:=c.2.1 x.1 (mem_map_of_mem hx);simpa using this
  rw [h]at this;cases this
 ·rw [h]at c;cases c.1
theorem Oj{n d m:Int}(h:aV n d m=true):fE (.mk 1 n d m ByteArray.empty []):=by
 have:=kG h;have:=aG this.1;exact⟨⟨by show _<=(1:Int);omega,by show(1:Int)<=_;omega⟩,⟨by show _<=n;omega,by show n<=_;omega⟩,⟨by show _<=d;omega,by show d<=_;omega⟩,⟨by show _<=m;omega,by show m<=_;omega⟩,by show(0:Nat)<=_;omega,by show(0:Nat)<=_;omega⟩
theorem KU{e:Ex}(h:fE e){l:List Ex}(hl:l.length=e.args.length):fE (.mk e.op e.num e.den e.dim e.name l):=⟨h.op,h.num,h.den,h.dim,by show l.length<=_;rw [hl];exact h.len,h.name⟩
theorem M9{op:Int}{ys:List Ex}{r:Int × Int × Int}(h:eu op ys=some r):aV r.1 r.2.1 r.2.2=true:=by
 unfold eu at h
 split at h
 ·rename_i c
  obtain rfl:=Option.some.inj h;exact c.2.2.2.2
 ·cases h
theorem Cg(e:Ex)(a:Option Addr)(cap:Nat)(w:World):Calls prog 87 #[.agg #[.int .i64 e.op,.int .i64 e.num,.int .i64 e.den,.int .i64 e.dim,.string e.name,.slice a e.args.length cap]] w fun r w'=>r= .returned (.bool (e.op==1))/\w.Grows w':=by
 go_enter func87,ntmps87
 go_wp2_with fail
 exact uH
theorem Fv(n:Nat):∀(e:Ex),e.size<=n->Hid (e.size<=1000000)->Hid (ay e=true)->∀(S:Nat->Prop) (v:Value) (w:World),ax S w e v->Tab w->Calls prog 37 #[exV e v] w (mI w (aN e)):=by
 induction n with
 |zero=>intro e he;have:=e.size_pos;omega
 |succ n ih=>
  intro e he hbig hform S v w h ht;have IH:=yq ih;have HT:=yq ht;clear ih ht;obtain⟨i0,hi,hz0,hz1,hz2⟩:=info_parts uC
  cases h with
  |mk _ a cap vs hr hc hs=>
   have hlen:e.args.length<=1000000:=by have:=hbig.out;have:=e.size_eq;have:=Ex.length_sizes e.args;omega
   have Hr:=yq hr;have Hs:=yq hs;have He:=yq he;have Hc:=yq hc;have HLE:=yq hlen;clear hr hs he hc
   go_enter func37,ntmps37
   go_wp2_with fail
   go_loopw [3,4,12] (fun v3 v4 v12 wr=>∃k:Nat,∃l:List (Ex × Value),∃va:Value,∃al:Bool,∃bs d,k<=e.args.length/\v12= .int .i64 k/\v3=va/\v4= .bool al/\Hid ((e.args.take k).map aN=l.map (·.1))/\Hid (l.length=k)/\Hid (al=Ez l)/\
    wr=((w.alloc ((.cells #[.int .i64 e.op,.int .i64 e.num,.int .i64 e.den,.int .i64 e.dim,.string e.name,.slice a e.args.length cap] 27))).alloc ((.cells #[.int .i64 0,.int .i64 0,.int .i64 0,.int .i64 0,.string ⟨#[]⟩,.slice none 0 0] 27))).grow bs d/\eB (w.heap.size+2) wr va l) (fun _ _ v12 _=>e.args.length-(intOf v12).toNat)
   case atStart=>exact⟨0,[],.slice none 0 0,true,#[],_,by omega,rfl,rfl,rfl,yq rfl,yq rfl,yq rfl,World.grow_self _,.nil _ _⟩
   case round=>
    obtain⟨k,l,va,al,bs,d,hk,rfl,rfl,rfl,HN,HLL,HAL,rfl,hrow⟩:=hrel;by_cases hlt:k<e.args.length
    ·rcases Hc.out with h0|⟨b,off,rfl,hS,hbw,hx⟩
     ·omega
     ·obtain⟨x0,x1,x2,x3,x4,x5⟩:=hx k hlt;clear hx;have hlt1:(k:Int)<(e.args.length:Int):=by omega
      have hr1:=Hs.out k hlt;obtain⟨ka,kc,hvk⟩:=hr1.form0;rw [hvk]at hr1 x5;have HR1:=yq hr1;clear hvk hr1;have HA:=yq (e.size_arg k hlt);have HZ:=yq (show(e.arg k).size<=n by have:=He.out;have:=HA.out;omega);have HB:=yq (show(e.arg k).size<=1000000 by have:=hbig.out;have:=HA.out;omega);have HFA:=yq (ES hform.out k hlt);have HTK:=yq (fun ve=>CZ e k hlt HN.out ve);generalize e.arg k=y at *;obtain⟨z,hz⟩:∃z,aN y=z:=⟨_,rfl⟩;rw [hz]at HTK;have HZF:=yq hz;have HVB:=yq hrow.lt;obtain⟨aa,acap,hva⟩:=hrow.form;have HROW:=yq hrow;have HKL:=yq hlt;clear hz hrow hk hlt;rw [HLL.out]at hva;subst hva;have HOWN:=yq (fun W (hg:World.Grows _ W)=>(show W.ownsRow (w.heap.size+2) 27 6 (.slice aa k acap) k (ig l)from by have:=(HROW.out.growsF hg).own;rw [HLL.out]at this;exact this))
      go_upto_region 7 with (go_at_call 37;refine(IH.out y HZ.out HB HFA S (.slice ka y.args.length kc) _ (HR1.out.grows growsR) (HT.out.grows growsR)).mono ?_;rintro e' w' ⟨ve,rfl,⟨bs2,d2,rfl⟩,hrep⟩;rw [HZF.out]at hrep;obtain⟨za,zc,rfl⟩:=hrep.form0;have H1:=yq hrep;clear hrep;rw [HZF.out])
      cases al
      focus
       go_wp2_with ((at_builtin;refine wpList_append_lies _ rfl _ _ 25 rfl (w.heap.size+2) 27 i0 _ 6 72 underlying25 hi hz0 hz1 hz2 rfl zf (.slice aa k acap) k (ig l) rfl (HOWN.out _ growsR) ⟨_,0,none⟩ 1 1 (aZ z (.slice za z.args.length zc)) rfl rfl ?c1 ?c2 zf ?c3 ?c4 ?c5 _ rfl ?_))
       case c1=>exact news_cells _ (aZ z (.slice za z.args.length zc)) _ _ zd
       case c2=>exact eT _ _ rfl
       case c3=>have:=HLL.out;have:=HLE.out;have:=HKL.out;unfold maxLen;omega
       case c4=>have:=HLL.out;omega
       case c5=>simp;omega
       intro g' cap' w1 hown' hgrow hat hlt';have RW:eB (w.heap.size+2) (((((((w.alloc (.cells #[.int .i64 e.op,.int .i64 e.num,.int .i64 e.den,.int .i64 e.dim,.string e.name,.slice (some ⟨b,off,none⟩) e.args.length cap] 27)).alloc ((.cells #[.int .i64 0,.int .i64 0,.int .i64 0,.int .i64 0,.string ⟨#[]⟩,.slice none 0 0] 27)))).grow bs d).alloc (.cells #[.int .i64 z.op,.int .i64 z.num,.int .i64 z.den,.int .i64 z.dim,.string z.name,.slice za z.args.length zc] 27))).grow bs2 d2) (.slice aa k acap) l:=HROW.out.growsF growsR;have HR:ax (fun b=>w.heap.size+2+bs.size+1<=b) (((((((w.alloc (.cells #[.int .i64 e.op,.int .i64 e.num,.int .i64 e.den,.int .i64 e.dim,.string e.name,.slice (some ⟨b,off,none⟩) e.args.length cap] 27)).alloc ((.cells #[.int .i64 0,.int .i64 0,.int .i64 0,.int .i64 0,.string ⟨#[]⟩,.slice none 0 0] 27)))).grow bs d).alloc (.cells #[.int .i64 z.op,.int .i64 z.num,.int .i64 z.den,.int .i64 z.dim,.string z.name,.slice za z.args.length zc] 27))).grow bs2 d2) z (.slice za z.args.length zc):=(((H1.out.eqw (w':=((((((w.alloc (.cells #[.int .i64 e.op,.int .i64 e.num,.int .i64 e.den,.int .i64 e.dim,.string e.name,.slice (some ⟨b,off,none⟩) e.args.length cap] 27)).alloc ((.cells #[.int .i64 0,.int .i64 0,.int .i64 0,.int .i64 0,.string ⟨#[]⟩,.slice none 0 0] 27)))).grow bs d).alloc (.cells #[.int .i64 y.op,.int .i64 y.num,.int .i64 y.den,.int .i64 y.dim,.string y.name,.slice ka y.args.length kc] 27))).grow bs2 d2) zd).mono (S':=fun b=>w.heap.size+2+bs.size+1<=b) (fun b hb=>by simpa using hb)).lift0 (A':=((((((w.alloc (.cells #[.int .i64 e.op,.int .i64 e.num,.int .i64 e.den,.int .i64 e.dim,.string e.name,.slice (some ⟨b,off,none⟩) e.args.length cap] 27)).alloc ((.cells #[.int .i64 0,.int .i64 0,.int .i64 0,.int .i64 0,.string ⟨#[]⟩,.slice none 0 0] 27)))).grow bs d).alloc (.cells #[.int .i64 z.op,.int .i64 z.num,.int .i64 z.den,.int .i64 z.dim,.string z.name,.slice za z.args.length zc] 27)))) zd zd d2).grows growsR;have R1:=eB.push (m:=w.heap.size+2+bs.size+1) (RW.alloc _) (HR.alloc _) zb (fun j hj=>by have:=(HVB.out j hj).2;simp at this;omega) (by rw [HLL.out]) rfl hown' hgrow hat zd;have G1:=World.Grows.of_below (w:=(((w.alloc (.cells #[.int .i64 e.op,.int .i64 e.num,.int .i64 e.den,.int .i64 e.dim,.string e.name,.slice (some ⟨b,off,none⟩) e.args.length cap] 27)).alloc ((.cells #[.int .i64 0,.int .i64 0,.int .i64 0,.int .i64 0,.string ⟨#[]⟩,.slice none 0 0] 27))))) (((((Below.refl _ _).grow (Nat.le_refl _) bs d).alloc zd _).grow zg bs2 d2).alloc zg _|>.grown hgrow zg (fun j hj=>by have:=(HVB.out j hj).1;simpa using this))
      rotate_left
      focus
       go_wp2_with (first|(go_at_call 87;refine gv (Cg z _ _ _) ?_;intro bs4 d4)|((at_builtin;refine wpList_append_lies _ rfl _ _ 25 rfl (w.heap.size+2) 27 i0 _ 6 72 underlying25 hi hz0 hz1 hz2 rfl zf (.slice aa k acap) k (ig l) rfl (HOWN.out _ growsR) ⟨_,0,none⟩ 1 1 (aZ z (.slice za z.args.length zc)) rfl rfl ?c1 ?c2 zf ?c3 ?c4 ?c5 _ rfl ?_)))
       case c1=>exact news_cells _ (aZ z (.slice za z.args.length zc)) _ _ zd
       case c2=>exact eT _ _ rfl
       case c3=>have:=HLL.out;have:=HLE.out;have:=HKL.out;unfold maxLen;omega
       case c4=>have:=HLL.out;omega
       case c5=>simp;omega
       intro g' cap' w1 hown' hgrow hat hlt';have RW:eB (w.heap.size+2) (((((((w.alloc (.cells #[.int .i64 e.op,.int .i64 e.num,.int .i64 e.den,.int .i64 e.dim,.string e.name,.slice (some ⟨b,off,none⟩) e.args.length cap] 27)).alloc ((.cells #[.int .i64 0,.int .i64 0,.int .i64 0,.int .i64 0,.string ⟨#[]⟩,.slice none 0 0] 27)))).grow bs d).alloc (.cells #[.int .i64 z.op,.int .i64 z.num,.int .i64 z.den,.int .i64 z.dim,.string z.name,.slice za z.args.length zc] 27))).grow (bs2++bs4) d4) (.slice aa k acap) l:=HROW.out.growsF growsR;have HR:ax (fun b=>w.heap.size+2+bs.size+1<=b) (((((((w.alloc (.cells #[.int .i64 e.op,.int .i64 e.num,.int .i64 e.den,.int .i64 e.dim,.string e.name,.slice (some ⟨b,off,none⟩) e.args.length cap] 27)).alloc ((.cells #[.int .i64 0,.int .i64 0,.int .i64 0,.int .i64 0,.string ⟨#[]⟩,.slice none 0 0] 27)))).grow bs d).alloc (.cells #[.int .i64 z.op,.int .i64 z.num,.int .i64 z.den,.int .i64 z.dim,.string z.name,.slice za z.args.length zc] 27))).grow (bs2++bs4) d4) z (.slice za z.args.length zc):=(((H1.out.eqw (w':=((((((w.alloc (.cells #[.int .i64 e.op,.int .i64 e.num,.int .i64 e.den,.int .i64 e.dim,.string e.name,.slice (some ⟨b,off,none⟩) e.args.length cap] 27)).alloc ((.cells #[.int .i64 0,.int .i64 0,.int .i64 0,.int .i64 0,.string ⟨#[]⟩,.slice none 0 0] 27)))).grow bs d).alloc (.cells #[.int .i64 y.op,.int .i64 y.num,.int .i64 y.den,.int .i64 y.dim,.string y.name,.slice ka y.args.length kc] 27))).grow bs2 d2) zd).mono (S':=fun b=>w.heap.size+2+bs.size+1<=b) (fun b hb=>by simpa using hb)).lift0 (A':=((((((w.alloc (.cells #[.int .i64 e.op,.int .i64 e.num,.int .i64 e.den,.int .i64 e.dim,.string e.name,.slice (some ⟨b,off,none⟩) e.args.length cap] 27)).alloc ((.cells #[.int .i64 0,.int .i64 0,.int .i64 0,.int .i64 0,.string ⟨#[]⟩,.slice none 0 0] 27)))).grow bs d).alloc (.cells #[.int .i64 z.op,.int .i64 z.num,.int .i64 z.den,.int .i64 z.dim,.string z.name,.slice za z.args.length zc] 27)))) zd zd d2).grows growsR;have R1:=eB.push (m:=w.heap.size+2+bs.size+1) (RW.alloc _) (HR.alloc _) zb (fun j hj=>by have:=(HVB.out j hj).2;simp at this;omega) (by rw [HLL.out]) rfl hown' hgrow hat zd;have G1:=World.Grows.of_below (w:=(((w.alloc (.cells #[.int .i64 e.op,.int .i64 e.num,.int .i64 e.den,.int .i64 e.dim,.string e.name,.slice (some ⟨b,off,none⟩) e.args.length cap] 27)).alloc ((.cells #[.int .i64 0,.int .i64 0,.int .i64 0,.int .i64 0,.string ⟨#[]⟩,.slice none 0 0] 27))))) (((((Below.refl _ _).grow (Nat.le_refl _) bs d).alloc zd _).grow zg (bs2++bs4) d4).alloc zg _|>.grown hgrow zg (fun j hj=>by have:=(HVB.out j hj).1;simpa using this))
      rotate_left
      all_goals
       clear hown' hgrow hat hlt' RW HR;obtain⟨bs9,d9,rfl⟩:=G1;have HR9:=yq R1;clear R1
       go_wp2_with fail
       go_roundw
       case rel=>exact⟨k+1,l++[(z,.slice za z.args.length zc)],_,_,bs9,d9,HKL.out,by go_num,rfl,rfl,yq (HTK.out _),yq (by simp;exact HLL.out),yq (by rw [I7,<-HAL.out];rfl),rfl,HR9.out.lift0 zd zd d9⟩
       case measure=>simp [intOf];have:=HKL.out;omega
    ·obtain rfl:k=e.args.length:=by omega
     have HN2:=yq (show e.args.map aN=l.map (·.1)by have:=HN.out;rw [take_length]at this;exact this);obtain⟨aa,acap,hva⟩:=hrow.form;rw [HLL.out]at hva;subst hva;have hrc:=fun(o:Obj)=>((hrow.lift0 (A':=(w.alloc ((.cells #[.int .i64 e.op,.int .i64 e.num,.int .i64 e.den,.int .i64 e.dim,.string e.name,.slice aa e.args.length acap] 27))).alloc o) zd zd d).repE (e:=.mk e.op e.num e.den e.dim e.name (l.map (·.1))) (KU Hr.out (by rw [length_map,HLL.out])) rfl);have HRC:=yq hrc;clear hrc hrow HN hk hlt
     cases al with
     |false=>
      have HK:=yq (qI HN2.out (C8 (.inl HAL.out.symm)))
      go_wp2_with fail
      go_returns
      rw [HK.out];exact⟨.slice aa e.args.length acap,rfl,growsR,((HRC.out ((.cells #[.int .i64 e.op,.int .i64 e.num,.int .i64 e.den,.int .i64 e.dim,.string e.name,.slice aa e.args.length acap] 27))).mono (S':=fun b=>w.heap.size<=b) (fun b hb=>by show w.heap.size<=b;omega)).grows growsR⟩
     |true=>
      cases hfo:gH e.op with
      |false=>
       have HK:=yq (qI HN2.out (C8 (.inr hfo)));have HFO:=yq (fun W=>pR e.op W);rw [hfo]at HFO;clear hfo
       go_wp2_with (go_at_call 88;refine gw (HFO.out _) ?_)
       go_returns
       rw [HK.out];exact⟨.slice aa e.args.length acap,rfl,growsR,((HRC.out ((.cells #[.int .i64 e.op,.int .i64 e.num,.int .i64 e.den,.int .i64 e.dim,.string e.name,.slice aa e.args.length acap] 27))).mono (S':=fun b=>w.heap.size<=b) (fun b hb=>by show w.heap.size<=b;omega)).grows growsR⟩
      |true=>
       have HCA:Hid (∀W,(((w.alloc ((.cells #[.int .i64 e.op,.int .i64 e.num,.int .i64 e.den,.int .i64 e.dim,.string e.name,.slice aa e.args.length acap] 27))).alloc ((.cells #[.int .i64 0,.int .i64 0,.int .i64 0,.int .i64 0,.string ⟨#[]⟩,.slice none 0 0] 27))).grow bs d).Grows W->Calls prog 89 #[.agg #[.int .i64 e.op,.int .i64 e.num,.int .i64 e.den,.int .i64 e.dim,.string e.name,.slice aa e.args.length acap]] W (nL (eu e.op (l.map (·.1))) (.mk e.op e.num e.den e.dim e.name (l.map (·.1))) (.slice aa e.args.length acap) W)):=
        yq (fun W hg=>vX _ (.mk e.op e.num e.den e.dim e.name (List.map (fun x:Ex × Value=>x.1) l)) (.slice aa e.args.length acap) W ((HRC.out ((.cells #[.int .i64 0,.int .i64 0,.int .i64 0,.int .i64 0,.string ⟨#[]⟩,.slice none 0 0] 27))).grows hg) (Jw HN2.out hform.out hfo HAL.out.symm) ((HT.out.grows growsR).grows hg))
       have HFO:=yq (fun W=>pR e.op W);rw [hfo]at HFO;unfold nL TM exV at HCA
       cases hcf:eu e.op (l.map (·.1))with
       |none=>
        have HK:=yq (qI HN2.out hcf);rw [hcf]at HCA;dsimp only at HCA;clear hfo hcf
        go_wp2_with (first|(go_at_call 88;refine gw (HFO.out _) ?_)|(go_at_call 89;refine gv (HCA.out _ growsR) ?_;intro bs6 d6))
        go_returns
        rw [HK.out];exact⟨.slice aa e.args.length acap,rfl,growsR,((HRC.out ((.cells #[.int .i64 e.op,.int .i64 e.num,.int .i64 e.den,.int .i64 e.dim,.string e.name,.slice aa e.args.length acap] 27))).mono (S':=fun b=>w.heap.size<=b) (fun b hb=>by show w.heap.size<=b;omega)).grows growsR⟩
       |some r=>
        obtain⟨rn,rd,rm⟩:=r;have HK:=yq (show aN e= .mk 1 rn rd rm ByteArray.empty []by rw [xE HN2.out];unfold iD;rw [hcf]);have HRL:=yq (Oj (M9 hcf));rw [hcf]at HCA;dsimp only at HCA;clear hfo hcf
        go_wp2_with (first|(go_at_call 88;refine gw (HFO.out _) ?_)|(go_at_call 89;refine gv (HCA.out _ growsR) ?_;intro bs6 d6))
        go_returns
        rw [HK.out];exact⟨.slice none 0 0,rfl,growsR,ax.nil HRL.out rfl⟩
theorem xR{S:Nat->Prop}{e:Ex}{v:Value}{w:World}(h:ax S w e v)(ht:Tab w)(hb:e.size<=1000000)(hf:ay e=true):Calls prog 37 #[exV e v] w (mI w (aN e)):=Fv e.size e (Nat.le_refl _) (yq hb) (yq hf) S v w h ht
section
variable {S S2 : Nat -> Prop} {N N2 base g : Nat} {w0 w w2 w' W : World} {v v2 v' vs : Value} {l l2 : List Ins} {sl : List ByteArray}
theorem bL.more(h:bL S N base g w v vs l sl)(hg:w.Grows W):bL (fun b=>S b\/(w.heap.size<=b/\b<W.heap.size)) W.heap.size base g W v vs l sl:=by
 have h1:=h.grows hg;have hsz:=hg.below.size;refine⟨⟨h1.pre.row, ?_,Nat.le_refl _, ?_,h1.pre.bs, ?_⟩,h1.blk,h1.gb, ?_⟩
 ·rintro b (hb|hb)
  ·have:=h.pre.lt b hb;have:=h.pre.sz;omega
  ·exact hb.2
 ·rintro b (hb|hb) e
  ·exact h1.pre.ap b hb e
  ·have:=(h.pre.row.lt b e.symm).2;omega
 ·obtain⟨k1,k2,a,cap,k3,k4,k5⟩:=h1.pre.sl;refine⟨k1,k2,a,cap,k3,k4,k5.imp id ?_⟩;rintro⟨b,off,ha,hS,hb⟩;exact⟨b,off,ha,.inl hS,hb⟩
 ·rintro b (hb|hb) e
  ·exact h1.gS b hb e
  ·have:=h.glt;omega
theorem bL.back(h:bL S N base g w v vs l sl)(hg:w.Grows W)(h2:bL S2 N2 base g w2 v2 vs l2 sl)(hx:bR g W w2 v v2):bL S N base g w2 v2 vs l2 sl:=
 (h.grows hg).step hx h2.pre.row h2.blk
theorem bL.kept(h:bL S N base g w v vs l sl)(h0:w0.Grows w)(hg:w0.heap.size<=g)(hx:bR g w w' v v'):w0.Grows w':=
 .of_below ⟨hx.os.trans h0.below.os,hx.tape.trans h0.below.tape,hx.output.trans h0.below.output,Nat.le_trans h0.below.size hx.size,fun k hk=>
  (hx.block k (Nat.lt_of_lt_of_le hk h0.below.size) (fun e=>by have:=(h.pre.row.lt k e.symm).1;have:=h.gb;omega) zb).trans (h0.below.block k hk)⟩
end
theorem uT{S S0:Nat->Prop}{N base g:Nat}{w0 w:World}{v vs ve:Value}{l:List Ins}{sl:List ByteArray}(e:Ex)(nm:ByteArray)(hn:nm∈sl)(h:bL S N base g w v vs l sl)(h0:w0.Grows w)(ht:Tab w0)(hr:ax S0 w e ve)(hsz:e.size<=1000000)(hf:ay e=true)
 (hns:∀s,aP s (aN e)=true->jd s=none->s∈sl) (hl:l.length+(codeF (slK sl) (aN e) l.length).length+1<=1000000) :
 Calls prog 49 #[.pointer (some ⟨g,0,none⟩),.string nm,exV e ve] w (mM (.tuple #[]) S N base g w v vs (l++(codeF (slK sl) (aN e) l.length++[⟨4,slK sl nm,0,0⟩])) sl):=by
 obtain⟨ea,ec,rfl⟩:=hr.form0;have hff:=(qJ e hf).1;have HIS:Hid (pK sl nm=(slK sl nm:Nat)):=yq (by unfold pK;rw [if_pos (any_eq_true.2 ⟨nm,hn,by simp⟩)]);have HFO:=yq (xR (hr.grows (w':=((w.alloc (.cells #[.int .i64 e.op,.int .i64 e.num,.int .i64 e.den,.int .i64 e.dim,.string e.name,.slice ea e.args.length ec] 27)))) growsR) (ht.grows (h0.trans' growsR)) hsz hf);have HGE:=yq (fun W v2 (hg:w.Grows W) (hr2:ax (fun b=>w.heap.size<=b) W (aN e) v2)=>CK (aN e) hff hns _ _ base g W v vs v2 l (h.more hg) (hr2.mono' fun b hb hlt=>.inr ⟨hb,hlt⟩) zb);have HP:=yq h;rw [<-append_assoc];have hln:(l++codeF (slK sl) (aN e) l.length).length<=1000000:=by rw [length_append];omega
 generalize l++codeF (slK sl) (aN e) l.length=L at *;have HEM:=yq (fun W v2 (hp:bL S N base g W v2 vs L sl)=>jk 4 (slK sl nm:Nat) hp hln);generalize slK sl nm=k at *;generalize aN e=F at *;unfold mI exV at HFO;unfold exV at HGE;clear hn h h0 ht hr hsz hf hns hl hff hln;unfold exV
 go_enter func49,ntmps49
 go_upto_region 2 with (first
  |(go_at_call 37;refine HFO.out.mono ?_;rintro e' w' ⟨v2,rfl,⟨bs,d,rfl⟩,HRF⟩;obtain⟨fa,fc,rfl⟩:=ax.form0 HRF;have HRF:=yq (HRF.mono (S':=fun b=>w.heap.size<=b) (fun b hb=>by simp at hb;omega)))
  |(go_at_call 107;refine(HGE.out _ _ growsR HRF.out).mono ?_;rintro e' w2 ⟨a2,c2,rfl,hp2,hx2⟩))
 have HP2:=yq (HP.out.back growsR hp2 hx2);have HX2:=yq (bR.grows (w:=w) growsR hx2);clear hp2 hx2;have x1:=HP2.out.c1;have hgl:=HP2.out.glt;obtain⟨sa,sc,rfl⟩:=HP2.out.pre.sl.txt.form
 go_wp2_with (first
  |(go_at_call 71;refine(kD sl nm _ _ HP2.out.pre.sl.txt).mono ?_;rintro e' w' ⟨rfl,⟨bs3,d3,rfl⟩⟩;rw [HIS.out])
  |(go_at_call 70;refine(HEM.out _ _ (HP2.out.grows growsR)).mono ?_;rintro e' w4 ⟨a4,c4,rfl,hp4,hx4⟩;have HP4:=yq hp4;have HX4:=yq (bR.grows (w:=w2) growsR hx4);clear hp4 hx4))
 go_returns
 exact⟨a4,c4,rfl,HP4.out,HX2.out.trans HX4.out⟩
theorem TS.beginH{P:Program}{ops:Array Oper}{Q:Exit->Act->World->Prop}{id:Nat}{a:Act}{w:World}(T:List Nat)(hm:P.follows .mixedOrders=true)(hB:Region.tailsB ops T=true)
 (h:w.Grows w.drew->TS P ops Q (World.Grows w) T ops.size (Array.replicate ops.size false) a w.drew):(Code.region id ops true).wp P Q a w:=TS.begin T (World.Grows w) hm hB grows_drew0 h
theorem Fj(D:List Dfn)(k i:Nat)(hk:k<D.length):aj (D.take (k+1)) i=aj (D.take k) i++(D[k]).code (i+(aj (D.take k) i).length):=by
 rw [take_succ_eq_append_getElem hk,oC]
theorem uS:∀(D:List Dfn) (k i:Nat),(aj (D.take k) i).length<=(aj D i).length
 | [],k,i=>by simp
 |d::r,0,i=>by simp [aj]
 |d::r,k+1,i=>by
  rw [take_succ_cons,aj,aj,length_append,length_append];have:=uS r k (i+(d.code i).length);omega
def IntsIn(S:Nat->Prop)(w:World)(v:Value)(zs:List Int):Prop:=zs.length<=1000/\∃a c,v= .slice a zs.length c/\(zs.length=0\/∃b off,a=some ⟨b,off,none⟩/\S b/\b<w.heap.size/\∀i,i<zs.length->w.cell? ⟨b,off+i,none⟩=some (.int .i64 (zs.getD i 0)))
theorem IntsIn.keep{S:Nat->Prop}{N base g:Nat}{w w':World}{v v' vs vu:Value}{l:List Ins}{sl:List ByteArray}{zs:List Int}(h:IntsIn S w vu zs)(hp:bL S N base g w v vs l sl)(hx:bR g w w' v v'):IntsIn S w' vu zs:=by
 obtain⟨h1,a,c,h2,h3⟩:=h;refine⟨h1,a,c,h2,h3.imp id ?_⟩;rintro⟨b,off,ha,hS,hb,hc⟩;exact⟨b,off,ha,hS,Nat.lt_of_lt_of_le hb hx.size,fun i hi=>(World.cell?_of_block (a:=⟨b,off+i,none⟩) (hx.block b hb (hp.pre.ap b hS) (hp.gS b hS))).trans (hc i hi)⟩
def NG(sl:List ByteArray)(nm:ByteArray)(e:Ex):Prop:=nm∈sl/\e.size<=1000000/\ay e=true/\∀s,aP s (aN e)=true->jd s=none->s∈sl
theorem MO{S:Nat->Prop}{N base g:Nat}{w0 w:World}{v vs vl vu:Value}{l:List Ins}{sl:List ByteArray}(ls:List (ByteArray × Ex))(env:List (ByteArray × Int))(U:List Nat)(hU:∀i∈U,i<ls.length/\NG sl (ls.getD i default).1 (ls.getD i default).2)
 (h:bL S N base g w v vs l sl) (h0:w0.Grows w) (hg0:w0.heap.size<=g) (ht:Tab w0) (hls:LetsAt w0 vl ls) (hus:IntsIn S w vu (U.map Int.ofNat)) (hl:l.length+(aj (U.map (eG sl ls env)) l.length).length<=1000000) :
 Calls prog 48 #[.pointer (some ⟨g,0,none⟩),vl,vu] w (mM (.tuple #[]) S N base g w v vs (l++aj (U.map (eG sl ls env)) l.length) sl):=by
 have HP:=yq h;have HU:=yq hU;have H0:=yq h0;have HG:=yq hg0;have HT:=yq ht;have HLS:=yq hls;have HUS:=yq hus;have HL:=yq hl;obtain⟨-,la,lc,rfl,-⟩:=hls;obtain⟨hu1,ua,uc,rfl,-⟩:=hus;rw [length_map]at hu1;clear h hU h0 hg0 ht hl
 go_enter func48,ntmps48
 rw [length_map]at *
 go_wp2_with fail
 go_loopw [10] (fun v10 wr=>∃k:Nat,k<=U.length/\v10= .int .i64 k/\∃vr,Hid (bL S N base g wr vr vs (l++aj ((U.map (eG sl ls env)).take k) l.length) sl)/\Hid (bR g w wr v vr)) (fun v10 _=>U.length-(intOf v10).toNat)
 case atStart=>exact⟨0,by omega,rfl,v,yq (by simpa [aj]using HP.out),yq (bR.of (.refl _))⟩
 case round=>
  obtain⟨k,hk,rfl,vr,HR,HX⟩:=hrel;by_cases hlt:k<U.length
  ·have h0r:=HP.out.kept H0.out HG.out HX.out;obtain⟨-,a',c',hv,hcu⟩:=HUS.out.keep HP.out HX.out;simp only [Value.slice.injEq]at hv;obtain⟨rfl,-,rfl⟩:=hv;obtain hz|⟨ub,uo,rfl,-,hub,huc⟩:=hcu
   ·rw [length_map]at hz;omega
   have hxu:=huc k yA;obtain⟨i,hi⟩:∃i,U[k]=i:=⟨_,rfl⟩;have hui:(U.map Int.ofNat).getD k 0=(i:Int):=by rw [getD_eq_getElem?_getD,getElem?_map,getElem?_eq_getElem hlt,hi];rfl
   rw [hui]at hxu;obtain⟨hil,hd1,hd2,hd3,hd4⟩:=HU.out i (by rw [<-hi];exact getElem_mem hlt);obtain⟨-,a2,c2,hv2,hz|⟨b,off,hla,hb,hs⟩⟩:=HLS.out.grows h0r
   ·omega
   simp only [Value.slice.injEq]at hv2;obtain⟨rfl,-,rfl⟩:=hv2;obtain rfl:=hla;obtain⟨u,hsl⟩:=hs i hil;obtain⟨xa,xc,rfl⟩:=hsl.rep.form0;have htk:=Fj (U.map (eG sl ls env)) k l.length yA;have hle:=uS (U.map (eG sl ls env)) (k+1) l.length;have hdk:(U.map (eG sl ls env))[k]' yA=eG sl ls env i:=by rw [getElem_map,hi]
   rw [hdk]at htk;have hcode:(eG sl ls env i).code (l.length+(aj ((U.map (eG sl ls env)).take k) l.length).length)=codeF (slK sl) (aN (ls.getD i default).2) (l.length+(aj ((U.map (eG sl ls env)).take k) l.length).length)++[⟨4,(slK sl (ls.getD i default).1:Nat),0,0⟩]:=rfl;have hlen:(l++aj ((U.map (eG sl ls env)).take k) l.length).length=l.length+(aj ((U.map (eG sl ls env)).take k) l.length).length:=length_append
   have hbd:(l++aj ((U.map (eG sl ls env)).take k) l.length).length+(codeF (slK sl) (aN (ls.getD i default).2) (l++aj ((U.map (eG sl ls env)).take k) l.length).length).length+1<=1000000:=by
    have:=HL.out;rw [htk,hcode,length_append,length_append,length_singleton]at hle;rw [hlen];omega
   have HC:=yq (fun W (hg:wr.Grows W)=>uT (ls.getD i default).2 (ls.getD i default).1 hd1 (HR.out.grows hg) (h0r.trans' hg) HT.out (hsl.rep.grows hg) hd2 hd3 hd4 hbd)
   have heq:(l++aj ((U.map (eG sl ls env)).take k) l.length)++(codeF (slK sl) (aN (ls.getD i default).2) (l++aj ((U.map (eG sl ls env)).take k) l.length).length++[⟨4,(slK sl (ls.getD i default).1:Nat),0,0⟩])=l++aj ((U.map (eG sl ls env)).take (k+1)) l.length:=by
    rw [htk,hcode,hlen,append_assoc]
   rw [heq]at HC;obtain⟨x0,x1,x2,x3,x4,x5,x6,-⟩:=hsl;have d1:(k:Int)<(U.length:Int):=by omega
   have d2:(i:Int)<(ls.length:Int):=by omega
   have HLT:=yq hlt;have hubl:ub<wr.heap.size:=hub;have hbl:b<wr.heap.size:=hb;unfold exV at HC;generalize(ls.getD i default).1=nm at *;generalize(ls.getD i default).2=bd at *;clear h0r huc hub hb hs htk hle hdk hcode hlen hbd heq hui hi hd1 hd2 hd3 hd4 hil hk hlt
   go_upto_region 3 with fail
   refine TS.beginH [11] ze ze (fun hS=>?_);refine kq 0 hS ?_;refine kq 1 hS ?_;refine kq 2 hS ?_;refine kq 3 hS ?_;refine kq 4 hS ?_;refine kq 5 hS ?_;refine kq 6 hS ?_;refine kq 7 hS ?_;refine kq 8 hS ?_;refine kq 9 hS ?_;refine kq 10 hS ?_;refine TS.one (i:=11) ze rfl (fun K1 hK1=>?_);have HK1:=yq hK1;clear hK1 hS;dsimp only [getElem_toArray,getElem_cons_succ,getElem_cons_zero]
   go_simp
   go_at_call 49
   refine(HC.out _ growsR).mono ?_;rintro e' w1 ⟨a1,c1,rfl,hp,hx⟩;have HP1:=yq hp;have HX1:=yq (bR.grows (w:=wr) growsR hx);clear hp hx;refine HK1.out _ _ (fun h=>absurd zf h) (TS.done ze ?_);clear HK1 K1
   (try simp only [nS])
   go_wp2_with fail
   go_roundw
   case rel=>exact⟨k+1,HLT.out,by go_num,_,HP1,yq (HX.out.trans HX1.out)⟩
   case measure=>simp [intOf];have:=HLT.out;omega
  ·obtain rfl:k=U.length:=by omega
   rw [take_of_length_le (by rw [length_map];exact Nat.le_refl _)]at HR;obtain⟨ra,rc,rfl⟩:=HR.out.pre.row.form;clear hk hlt
   go_wp2_with fail
   go_returns
   exact⟨ra,rc,rfl,HR.out,HX.out⟩
theorem BM{w w':World}{base size n:Nat}{e:TypeId}{v:Value}{xs:List Value}(h:w.ownsRow base e size v n xs)(hb:∀b,v.ownBlock=some b->w'.heap[b]? =w.heap[b]?):w'.ownsRow base e size v n xs:=by
 obtain⟨h1,h2|⟨g,cap,cur,rfl,k1,k2,k3⟩⟩:=h
 ·exact⟨h1,.inl h2⟩
 ·exact⟨h1,.inr ⟨g,cap,cur,rfl,k1,(hb g rfl).trans k2,k3⟩⟩
structure GSl(W8:World)(g:Nat)(vS:Value)(sl:List ByteArray)(wr:World):Prop where
 row:wr.ownsRow W8.heap.size 9 1 vS sl.length (slV sl)
 blk:∃ty,wr.heap[g]? =some (.cells #[.slice none 0 0,vS] ty (0,0))
 ext:bR g W8 wr (.slice none 0 0) vS
 gb:g<W8.heap.size
section
variable {W8 wr W w1 w' w0 : World} {g : Nat} {vS : Value} {sl : List ByteArray}
theorem bR.kept0{w w':World}{v v':Value}(hx:bR g w w' v v')(h0:w0.Grows w)(hg:w0.heap.size<=g)(hv:∀b,v.ownBlock=some b->w0.heap.size<=b):w0.Grows w':=
 .of_below ⟨hx.os.trans h0.below.os,hx.tape.trans h0.below.tape,hx.output.trans h0.below.output,Nat.le_trans h0.below.size hx.size,fun k hk=>
  (hx.block k (Nat.lt_of_lt_of_le hk h0.below.size) (fun e=>by have:=hv k e.symm;omega) zb).trans (h0.below.block k hk)⟩
theorem GSl.start{ty:TypeId}(hb:W8.heap[g]? =some (.cells #[.slice none 0 0,.slice none 0 0] ty (0,0))):GSl W8 g (.slice none 0 0) [] W8:=
 ⟨World.ownsRow_nil _ _ _ _,⟨ty,hb⟩,bR.of (.refl _),(Array.getElem?_eq_some_iff.1 hb).1⟩
theorem GSl.grows(h:GSl W8 g vS sl wr)(hg:wr.Grows W):GSl W8 g vS sl W:=by
 obtain⟨ty,hb⟩:=h.blk;exact⟨l6 h.row (Px hg none) (fun _ e=>by cases e),⟨ty,(hg.below.block g (Array.getElem?_eq_some_iff.1 hb).1).trans hb⟩,h.ext.trans (bR.of hg),h.gb⟩
theorem GSl.glt(h:GSl W8 g vS sl wr):g<wr.heap.size:=by obtain⟨ty,hb⟩:=h.blk;exact(Array.getElem?_eq_some_iff.1 hb).1
theorem GSl.c0(h:GSl W8 g vS sl wr):wr.cell? ⟨g,0,none⟩=some (.slice none 0 0):=by obtain⟨ty,hb⟩:=h.blk;exact cell_of_row wr g 0 _ _ _ hb
theorem GSl.c1(h:GSl W8 g vS sl wr):wr.cell? ⟨g,1,none⟩=some vS:=by obtain⟨ty,hb⟩:=h.blk;exact cell_of_row wr g 1 _ _ _ hb
theorem GSl.f(h:GSl W8 g vS sl wr)(j:Nat):wr.frozen? ⟨g,j,none⟩=false:=by obtain⟨ty,hb⟩:=h.blk;exact Go.Joins.unfrozen_of_block hb j
theorem GSl.ready(h:GSl W8 g vS sl wr)(hg:wr.Grows W)(hgr:W.grownBy w1 vS.ownBlock):w1.frozen? ⟨g,1,none⟩=false/\w1.cell? ⟨g,1,none⟩=some vS/\g<w1.heap.size:=by
 obtain⟨ty,hb⟩:=h.blk;have hgv:some g≠vS.ownBlock:=fun e=>by have:=(h.row.lt g e.symm).1;have:=h.gb;omega
 have hb1:=((jG hg hgr).block g (Array.getElem?_eq_some_iff.1 hb).1 hgv).trans hb;exact⟨Go.Joins.unfrozen_of_block hb1 1,cell_of_row w1 g 1 _ _ _ hb1,(Array.getElem?_eq_some_iff.1 hb1).1⟩
theorem GSl.push(h:GSl W8 g vS sl wr)(s:ByteArray){gg n c H:Nat}(hn:n=sl.length+1)(hg:wr.Grows W)(hgr:W.grownBy w1 vS.ownBlock)(ha:vS.ownBlock=some gg\/gg=H)(hH:wr.heap.size<=H)
 (ho:w1.ownsRow W8.heap.size 9 1 (.slice (some ⟨gg,0,none⟩) n c) n (slV sl++[.string s])):GSl W8 g (.slice (some ⟨gg,0,none⟩) n c) (sl++[s]) (w1.setCell ⟨g,1,none⟩ (.slice (some ⟨gg,0,none⟩) n c)):=by
 subst hn;have hx:=Ext.app (n:=sl.length+1) (c:=c) hg hgr ha hH;obtain⟨ty,hb⟩:=h.blk;have hgv:some g≠vS.ownBlock:=fun e=>by have:=(h.row.lt g e.symm).1;have:=h.gb;omega
 have hb1:=(hx.g.block g (Array.getElem?_eq_some_iff.1 hb).1 hgv).trans hb;refine⟨?_,⟨ty,Go.Joins.block_setCell hb1 _⟩,h.ext.trans ((bR.ext hx).set 1 _),h.gb⟩
 have ho2:w1.ownsRow W8.heap.size 9 1 (.slice (some ⟨gg,0,none⟩) (sl.length+1) c) (sl++[s]).length (slV (sl++[s])):=by
  rw [length_append];unfold slV;rw [map_append];exact ho
 exact l6 ho2 (kE w1 g 1 _) yV
theorem GSl.pre(h:GSl W8 g vS sl wr)(T:Nat->Prop)(hT:∀b,T b->b<W8.heap.size/\b≠g)(hl:sl.length<=1000)(hs:∀s∈sl,s.size<=maxLen) :
 bL (fun b=>vS.ownBlock=some b\/T b) wr.heap.size wr.heap.size g wr (.slice none 0 0) vS [] sl:=by
 refine⟨⟨World.ownsRow_nil _ _ _ _, ?_,Nat.le_refl _, ?_,Nat.le_refl _, ?_⟩,h.blk,h.glt, ?_⟩
 ·rintro b (hb|hb)
  ·exact(h.row.lt b hb).2
  ·have:=(hT b hb).1;have:=h.ext.size;omega
 ·rintro b-e;cases e
 ·obtain⟨a,c,rfl,hc,h0⟩:=rowForm3 h.row;refine⟨hl,hs,a,c,hc,rfl,h0.imp id ?_⟩;rintro⟨b,rfl,hb,-,hlt⟩;refine⟨b,0,rfl,.inl hb,hlt,fun i hi=>?_⟩;rw [Nat.zero_add];exact(h.row.cellAt i zb).trans (slV_get sl i hi)
 ·rintro b (hb|hb) e
  ·have:=(h.row.lt b hb).1;have:=h.gb;omega
  ·exact(hT b hb).2 e
end
def CmpP(r:Int)(l:List Ins)(sl:List ByteArray)(w:World)(e:Ending)(w':World):Prop:=∃vI vS B B2,e= .returned (.tuple #[.agg #[vI,vS],.int .i64 r])/\w.Grows w'/\kW B w' vI l/\w'.ownsRow B2 9 1 vS sl.length (slV sl)
theorem Dr(r:Int){w w':World}(hg:w.Grows w'):CmpP r [] [] w (.returned (.tuple #[.agg #[.slice none 0 0,.slice none 0 0],.int .i64 r])) w':=⟨_,_,0,0,rfl,hg,World.ownsRow_nil _ _ _ _,World.ownsRow_nil _ _ _ _⟩
end Go.Proofs.YtfoefpoaomepbaaGreatDoor
