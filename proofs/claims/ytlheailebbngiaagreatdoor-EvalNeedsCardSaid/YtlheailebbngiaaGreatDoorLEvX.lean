import Derived.Test.YtlheailebbngiaaGreatDoorLEvW
import Derived.Test.YtlheailebbngiaaGreatDoorLTop
import Derived.Test.YtlheailebbngiaaGreatDoorLBst2
import Derived.Test.YtlheailebbngiaaGreatDoorLK
set_option linter.all false
set_option maxHeartbeats 16000000
set_option maxRecDepth 1000000
namespace Go.Proofs.YtlheailebbngiaaGreatDoor
open Go.RowKit
theorem expr_lit(v:Vw)(env:List (ByteArray × Val))(E:Nat)(e:Ex)(a:Option Addr)(cap:Nat)(w:World)(h1:e.op=1):(Calls Tryz.prog 68 #[.pointer (some ⟨E,0,none⟩),exV e (.slice a e.args.length cap)] w (EvR (valueF v env e) w)):=by
 have HV:Hid (valueF v env e=(.num e.dim e.num e.den,0)):=Lib.hid (by rw [valueF_eq];unfold valNode;rw [if_pos h1])
 rw [HV.out]
 have HU:=Lib.hid (fun m n d w=>evnum_any m n d w)
 unfold valV Val.num at HU
 dsimp only at HU
 clear HV
 unfold exV
 go_enter Tryz.func68,Tryz.ntmps68
 go_wp2_with (go_at_call 48;refine(HU.out _ _ _ _).mono ?_;rintro e' w' ⟨rfl,bs3,d3,rfl⟩)
 go_returns
 exact evR' rfl (fun _=>rfl) (.of_below belB)
theorem expr_name(v:Vw)(y se:Value)(env:List (ByteArray × Val))(E:Nat)(e:Ex)(a:Option Addr)(cap:Nat)(w:World)(hev:EvAt w E v y env se)(hr:VwRng v)(h1:e.op=2)(hn:(nameF v env e.name).2=0):(Calls Tryz.prog 68 #[.pointer (some ⟨E,0,none⟩),exV e (.slice a e.args.length cap)] w (EvR (valueF v env e) w)):=by
 have HV:Hid (valueF v env e=nameF v env e.name):=Lib.hid (by rw [valueF_eq];unfold valNode;rw [if_neg (by omega),if_pos h1])
 rw [HV.out]
 have HE:=Lib.hid hev
 have HN:=Lib.hid (fun w' (hg:w.Grows w')=>evname_any v y se env E e.name w' (HE.out.grows hg) hr)
 unfold valV at HN
 generalize nameF v env e.name=q at *
 obtain⟨⟨qm,qy,qn,qd⟩,qc⟩:=q
 dsimp only at hn HN ⊢
 subst hn
 clear HV hev hr
 unfold exV
 go_enter Tryz.func68,Tryz.ntmps68
 go_wp2_with (go_at_call 112;refine(HN.out _ (.of_below belB)).mono ?_;rintro e' w' ⟨rfl,bs3,d3,rfl⟩)
 go_returns
 exact evR' rfl (fun _=>rfl) (.of_below belB)
theorem expr_unary(S:Nat→Prop)(v:Vw)(env:List (ByteArray × Val))(E:Nat)(e:Ex)(a:Option Addr)(cap:Nat)(w:World)(h:RepE S w e (.slice a e.args.length cap))(hop:e.op=4∨e.op=5∨e.op=6)(hlen:0<e.args.length)
 (hok:(valueF v env (e.arg 0)).2=0→VRng (valueF v env (e.arg 0)).1) (ih:∀w',w.Grows w'→EvIH S E w' (e.arg 0) (valueF v env (e.arg 0))):(Calls Tryz.prog 68 #[.pointer (some ⟨E,0,none⟩),exV e (.slice a e.args.length cap)] w (EvR (valueF v env e) w)):=by
 have HV:Hid (valueF v env e=if(valueF v env (e.arg 0)).2≠0 then(.zero,(valueF v env (e.arg 0)).2)else op1 e.op (valueF v env (e.arg 0)).1):=Lib.hid (by
  rw [valueF_eq]
  unfold valNode
  rw [values_get v env e.args 0 hlen]
  show(if e.op=1 then _ else _)=_
  rw [if_neg (by omega),if_neg (by omega),if_neg (by omega)]
  show(if(valueF v env (e.arg 0)).2≠0 then _ else _)=_
  split
  ·rfl
  ·rw [if_neg (by omega),if_neg (by omega),if_neg (by omega),if_pos (by omega)];rfl)
 rw [HV.out]
 have HR:=Lib.hid h
 have HU:=Lib.hid (fun w' (hg:w.Grows w')=>unary_any S E e a cap w' _ (HR.out.grows hg) hop hlen hok (ih w' hg))
 unfold EvR exV at HU
 unfold valV at HU
 generalize(if(valueF v env (e.arg 0)).2≠0 then(Val.zero,(valueF v env (e.arg 0)).2)else op1 e.op (valueF v env (e.arg 0)).1)=q at *
 obtain⟨q,qc⟩:=q
 dsimp only at HU
 clear HV hok ih h
 unfold exV
 rcases hop with ho|ho|ho
 all_goals
  rw [ho]at HU ⊢
  go_enter Tryz.func68,Tryz.ntmps68
  go_wp2_with (go_at_call 113;refine(HU.out _ (.of_below belB)).mono ?_;rintro e' w' ⟨⟨xm,xy,xn,xd⟩,rfl,hx,bs3,d3,rfl⟩)
  go_returns
  exact evR' rfl hx (.of_below belB)
theorem expr_logic(S:Nat→Prop)(v:Vw)(env:List (ByteArray × Val))(E:Nat)(e:Ex)(a:Option Addr)(cap:Nat)(w:World)(h:RepE S w e (.slice a e.args.length cap))(hop:e.op=17∨e.op=18∨e.op=21)(hlen:2≤e.args.length)(hlen3:e.op=21→3≤e.args.length)
 (ih:∀w',w.Grows w'→∀k,k<e.args.length→EvIH S E w' (e.arg k) (valueF v env (e.arg k))):(Calls Tryz.prog 68 #[.pointer (some ⟨E,0,none⟩),exV e (.slice a e.args.length cap)] w (EvR (valueF v env e) w)):=by
 have HV:Hid (valueF v env e=logF e.op (valueF v env (e.arg 0)) (valueF v env (e.arg 1)) (valueF v env (e.arg 2))):=Lib.hid (by
  rw [valueF_eq]
  unfold valNode logF
  rw [values_get v env e.args 0 (by omega),values_get v env e.args 1 (by omega)]
  dsimp only
  rw [if_neg (by omega),if_neg (by omega),if_neg (by omega)]
  show(if(valueF v env (e.arg 0)).2≠0 then _ else _)=_
  split
  ·rfl
  ·rcases hop with ho|ho|ho
   ·rw [ho];rfl
   ·rw [ho];rfl
   ·rw [ho,values_get v env e.args 2 (by have:=hlen3 ho;omega)];rfl)
 rw [HV.out]
 have HR:=Lib.hid h
 have HU:=Lib.hid (fun w' (hg:w.Grows w')=>logic_any S E e a cap w' (valueF v env (e.arg 0)) (valueF v env (e.arg 1)) (valueF v env (e.arg 2)) (HR.out.grows hg) hop hlen hlen3 (ih w' hg 0 (by omega)) (ih w' hg 1 (by omega)) (fun ho=>ih w' hg 2 (by have:=hlen3 ho;omega)))
 unfold EvR exV at HU
 unfold valV at HU
 generalize logF e.op (valueF v env (e.arg 0)) (valueF v env (e.arg 1)) (valueF v env (e.arg 2))=q at *
 obtain⟨q,qc⟩:=q
 dsimp only at HU
 clear HV ih h hlen3
 unfold exV
 rcases hop with ho|ho|ho
 all_goals
  rw [ho]at HU ⊢
  go_enter Tryz.func68,Tryz.ntmps68
  go_wp2_with (go_at_call 114;refine(HU.out _ (.of_below belB)).mono ?_;rintro e' w' ⟨⟨xm,xy,xn,xd⟩,rfl,hx,bs3,d3,rfl⟩)
  go_returns
  exact evR' rfl hx (.of_below belB)
theorem wp_abs{P:Program}{c:Code}{Q:Exit→Act→World→Prop}{a:Act}{w:World}(h:∀W,w=W→c.wp P Q a W):c.wp P Q a w:=h w rfl
def binF(op:Int)(r0 r1:Val × Int):Val × Int:=if r0.2≠0 then(.zero,r0.2)else if r1.2≠0 then(.zero,r1.2)else op2 op r0.1 r1.1
theorem value_bin{v:Vw}{env:List (ByteArray × Val)}{e:Ex}(hop:(7≤e.op∧e.op≤16)∨e.op=19∨e.op=20)(hlen:2≤e.args.length):valueF v env e=binF e.op (valueF v env (e.arg 0)) (valueF v env (e.arg 1)):=by
 rw [valueF_eq]
 unfold valNode binF
 rw [values_get v env e.args 0 (by omega),values_get v env e.args 1 (by omega)]
 dsimp only
 rw [if_neg (by omega),if_neg (by omega),if_neg (by omega)]
 show(if(valueF v env (e.arg 0)).2≠0 then _ else _)=_
 split
 ·rfl
 ·rw [if_neg (by omega),if_neg (by omega),if_neg (by omega),if_neg (by omega)];rfl
theorem expr_bin(S:Nat→Prop)(v:Vw)(env:List (ByteArray × Val))(E:Nat)(e:Ex)(a:Option Addr)(cap:Nat)(w:World)(h:RepE S w e (.slice a e.args.length cap))(hop:(7≤e.op∧e.op≤16)∨e.op=19∨e.op=20)(hlen:2≤e.args.length)
 (hok0:(valueF v env (e.arg 0)).2=0→(valueF v env (e.arg 0)).1.ok=true) (hok1:(valueF v env (e.arg 1)).2=0→(valueF v env (e.arg 1)).1.ok=true)
 (hres:(valueF v env (e.arg 0)).2=0→(valueF v env (e.arg 1)).2=0→resD e.op [(valueF v env (e.arg 0)).1.dim,(valueF v env (e.arg 1)).1.dim]≠0)
 (ih:∀w',w.Grows w'→∀k,k<e.args.length→EvIH S E w' (e.arg k) (valueF v env (e.arg k))):(Calls Tryz.prog 68 #[.pointer (some ⟨E,0,none⟩),exV e (.slice a e.args.length cap)] w (EvR (valueF v env e) w)):=by
 rw [value_bin hop hlen]
 have ih0:=ih w (.refl _) 0 (by omega)
 have ih1:=ih w (.refl _) 1 (by omega)
 clear ih
 generalize valueF v env (e.arg 0)=r0 at *
 generalize valueF v env (e.arg 1)=r1 at *
 obtain⟨b,off,rfl,hbw,hx⟩:=h.arg_cells (by omega)
 obtain⟨ak,ck,hxk,hR0⟩:=hx 0 (by omega)
 obtain⟨x0,x1,x2,x3,x4,x5⟩:=hxk
 obtain⟨ak1,ck1,hxk1,hR1⟩:=hx 1 (by omega)
 obtain⟨y0,y1,y2,y3,y4,y5⟩:=hxk1
 have HR0:=Lib.hid hR0
 have HR1:=Lib.hid hR1
 have HC0:=Lib.hid (fun w' hg hr=>ih0 ak ck w' hg hr)
 have HC1:=Lib.hid (fun w' hg hr=>ih1 ak1 ck1 w' hg hr)
 unfold EvR exV at HC0 HC1
 unfold valV at HC0 HC1
 have d0:(0:Int)<(e.args.length:Int):=by omega
 have d1:(1:Int)<(e.args.length:Int):=by omega
 simp only [Nat.zero_mul,Nat.add_zero,Nat.one_mul]at x0 x1 x2 x3 x4 x5 y0 y1 y2 y3 y4 y5
 obtain⟨x,hxe⟩:∃x,e.arg 0=x:=⟨_,rfl⟩
 rw [hxe]at HC0 x0 x1 x2 x3 x4 x5 HR0
 obtain⟨y,hye⟩:∃y,e.arg 1=y:=⟨_,rfl⟩
 rw [hye]at HC1 y0 y1 y2 y3 y4 y5 HR1
 clear hR0 hR1 ih0 ih1 hxe hye hx h
 obtain⟨op,hope⟩:∃op,e.op=op:=⟨_,rfl⟩
 unfold exV
 rw [hope]at hop hres ⊢
 clear hope
 have p1:(op==1)=false:=by rw [beq_eq_false_iff_ne];omega
 have p2:(op==2)=false:=by rw [beq_eq_false_iff_ne];omega
 have p3:(op==3)=false:=by rw [beq_eq_false_iff_ne];omega
 have p4:(op==4)=false:=by rw [beq_eq_false_iff_ne];omega
 have p5:(op==5)=false:=by rw [beq_eq_false_iff_ne];omega
 have p6:(op==6)=false:=by rw [beq_eq_false_iff_ne];omega
 have p17:(op==17)=false:=by rw [beq_eq_false_iff_ne];omega
 have p18:(op==18)=false:=by rw [beq_eq_false_iff_ne];omega
 have p21:(op==21)=false:=by rw [beq_eq_false_iff_ne];omega
 obtain⟨q,c⟩:=r0
 dsimp only at hok0 hres
 by_cases hc:c=0
 rotate_left
 ·have hq1:(c !=0)=true:=by simpa using hc
  have HC:=Lib.hid hc
  have HB:Hid (binF op (q,c) r1=(.zero,c)):=Lib.hid (by unfold binF;rw [if_pos hc])
  rw [HB.out]
  clear hok0 hok1 hres hc HB hop HC1 HR1
  go_enter Tryz.func68,Tryz.ntmps68
  go_wp2_with (go_at_call 68;refine(HC0.out _ (.of_below belB) (HR0.out.grows (.of_below belB))).mono ?_;rintro e' w' ⟨⟨xm,xy,xn,xd⟩,rfl,hx,bs,d,rfl⟩)
  go_returns
  exact evR' rfl (fun h=>absurd h HC.out) (.of_below belB)
 subst hc
 obtain⟨p,c⟩:=r1
 dsimp only at hok1 hres
 by_cases hc:c=0
 rotate_left
 ·have hq1:(c !=0)=true:=by simpa using hc
  have HC:=Lib.hid hc
  have HB:Hid (binF op (q,0) (p,c)=(.zero,c)):=Lib.hid (by unfold binF;rw [if_neg (by simp),if_pos hc])
  rw [HB.out]
  clear hok0 hok1 hres hc HB hop
  go_enter Tryz.func68,Tryz.ntmps68
  go_wp2_with (go_at_call 68;first
   |((with_reducible refine(HC0.out _ (.of_below belB) (HR0.out.grows (.of_below belB))).mono ?_);rintro e' w' ⟨⟨xm,xy,xn,xd⟩,rfl,hx,bs,d,rfl⟩)
   |((with_reducible refine(HC1.out _ (.of_below belB) (HR1.out.grows (.of_below belB))).mono ?_);rintro e' w' ⟨⟨ym,yy,yn,yd⟩,rfl,hy,bs1,d1,rfl⟩))
  go_returns
  exact evR' rfl (fun h=>absurd h HC.out) (.of_below belB)
 subst hc
 have hq:=hok0 rfl
 have hp:=hok1 rfl
 have hr:=hres rfl rfl
 clear hok0 hok1 hres
 have hb:binF op (q,0) (p,0)=op2 op q p:=by unfold binF;simp
 rw [hb]
 have rq:=Val.ok_rng hq
 have rp:=Val.ok_rng hp
 have HT:=Lib.hid (fun b w=>evtruth_any b w)
 have HU:=Lib.hid (fun m n d w=>evnum_any m n d w)
 unfold valV Val.num at HU
 unfold valV Val.truth at HT
 dsimp only at HU HT
 by_cases hcmp:11≤op∧op≤16
 ·obtain⟨h1,h2⟩:=op2_cmp hcmp hq hp hr
  rw [h1]
  have HM:=Lib.hid (fun w=>compare_any op q.n q.d p.n p.d w hcmp.1 hcmp.2 ⟨rq.1,rq.2,rp.1,rp.2⟩)
  rw [h2]at HM
  generalize cmpB op (cmpF q.n q.d p.n p.d).1=tb at *
  obtain⟨g1,g2⟩:=hcmp
  clear hq hp hr rq rp hb h1 h2 hop HU
  obtain⟨qm,qy,qn,qd⟩:=q
  obtain⟨pm,py,pn,pd⟩:=p
  go_enter Tryz.func68,Tryz.ntmps68
  go_wp2_with (first
   |(go_at_call 68;first
    |((with_reducible refine(HC0.out _ (.of_below belB) (HR0.out.grows (.of_below belB))).mono ?_);rintro e' w' ⟨x,rfl,hx,bs,d,rfl⟩;obtain rfl:=hx (by first|rfl|trivial))
    |((with_reducible refine(HC1.out _ (.of_below belB) (HR1.out.grows (.of_below belB))).mono ?_);rintro e' w' ⟨y,rfl,hy,bs1,d1,rfl⟩;obtain rfl:=hy (by first|rfl|trivial)))
   |(go_at_call 115;refine(HM.out _).mono ?_;rintro e' w' ⟨rfl,bs2,d2,rfl⟩)
   |(go_at_call 116;refine(HT.out _ _).mono ?_;rintro e' w' ⟨rfl,bs3,d3,rfl⟩))
  go_returns
  exact evR' rfl (fun _=>rfl) (.of_below belB)
 ·have ho:op=7∨op=8∨op=9∨op=10∨op=19∨op=20:=by omega
  rw [op2_ar ho hq hp hr]
  have HM:=Lib.hid (fun w=>arith_any op q.n q.d p.n p.d w ho ⟨rq.1,rq.2,rp.1,rp.2⟩)
  have HD:=Lib.hid (fun w=>dimension_any op q.dim p.dim w)
  unfold frV at HM
  generalize arF op q.n q.d p.n p.d=R at *
  generalize dimA op q.dim p.dim=DM at *
  obtain⟨rn,rd,rc⟩:=R
  dsimp only at HM
  have hgc:¬(11≤op∧op≤16):=hcmp
  clear hq hp hr rq rp hb hop HT
  obtain⟨qm,qy,qn,qd⟩:=q
  obtain⟨pm,py,pn,pd⟩:=p
  dsimp only at HD
  have hlt:op<11∨16<op:=by omega
  by_cases hrc:rc=0
  ·subst hrc
   have HN:Hid (numR DM (rn,rd,0)=(.num DM rn rd,0)):=Lib.hid rfl
   rw [HN.out]
   clear ho hgc hcmp
   rcases hlt with hlt|hlt
   focus
    go_enter Tryz.func68,Tryz.ntmps68
   rotate_left
   focus
    go_enter Tryz.func68,Tryz.ntmps68
   rotate_left
   all_goals
    go_wp2_with (first
     |(go_at_call 68;first
      |((with_reducible refine(HC0.out _ (.of_below belB) (HR0.out.grows (.of_below belB))).mono ?_);rintro e' w' ⟨x,rfl,hx,bs,d,rfl⟩;obtain rfl:=hx (by first|rfl|trivial))
      |((with_reducible refine(HC1.out _ (.of_below belB) (HR1.out.grows (.of_below belB))).mono ?_);rintro e' w' ⟨y,rfl,hy,bs1,d1,rfl⟩;obtain rfl:=hy (by first|rfl|trivial)))
     |(go_at_call 117;refine(HM.out _).mono ?_;rintro e' w' ⟨rfl,bs2,d2,rfl⟩))
    refine wp_abs (fun W hW=>?_)
    have b0:W.cell? ⟨w.heap.size,0,none⟩=some (.int .i64 op):=by rw [←hW];simp [go_sem]
    have b8:W.cell? ⟨w.heap.size+1+1+bs.size,0,none⟩=some (.int .i64 qm):=by rw [←hW];simp [go_sem]
    have b10:W.cell? ⟨w.heap.size+1+1+bs.size+1+bs1.size,0,none⟩=some (.int .i64 pm):=by rw [←hW];simp [go_sem]
    have b13:W.cell? ⟨w.heap.size+1+1+bs.size+1+bs1.size+1+bs2.size,0,none⟩=some (.int .i64 rn):=by rw [←hW];simp [go_sem]
    have b14:W.cell? ⟨w.heap.size+1+1+bs.size+1+bs1.size+1+bs2.size,1,none⟩=some (.int .i64 rd):=by rw [←hW];simp [go_sem]
    have hsz:W.heap.size=w.heap.size+1+1+bs.size+1+bs1.size+1+bs2.size+1:=by rw [←hW];simp
    have z0:w.heap.size<W.heap.size:=by omega
    have z8:w.heap.size+1+1+bs.size<W.heap.size:=by omega
    have z10:w.heap.size+1+1+bs.size+1+bs1.size<W.heap.size:=by omega
    have z13:w.heap.size+1+1+bs.size+1+bs1.size+1+bs2.size<W.heap.size:=by omega
    have r0:W.cell? ⟨w.heap.size+1,0,none⟩=some (.int .i64 0):=by rw [←hW];simp [go_sem]
    have r1:W.cell? ⟨w.heap.size+1,1,none⟩=some (.bool false):=by rw [←hW];simp [go_sem]
    have r2:W.cell? ⟨w.heap.size+1,2,none⟩=some (.int .i64 0):=by rw [←hW];simp [go_sem]
    have r3:W.cell? ⟨w.heap.size+1,3,none⟩=some (.int .i64 0):=by rw [←hW];simp [go_sem]
    have rf:∀j,W.frozen? ⟨w.heap.size+1,j,none⟩=false:=by intro j;rw [←hW];simp [go_sem]
    have z1:w.heap.size+1<W.heap.size:=by omega
    have HW:=Lib.hid hW
    clear hW hsz
    generalize w.heap.size+1+1+bs.size+1+bs1.size+1+bs2.size=B13 at *
    generalize w.heap.size+1+1+bs.size+1+bs1.size=B10 at *
    generalize w.heap.size+1+1+bs.size=B8 at *
    refine TS.begin [9,10] (World.Grows _) (by kernel_rfl) (by kernel_rfl) grows_drew0 (fun hS=>?_)
    refine TS.wkB 0 hS ?_
    refine TS.wkB 1 hS ?_
    refine TS.wkB 2 hS ?_
    refine TS.wkB 3 hS ?_
    refine TS.wkB 4 hS ?_
    refine TS.wkB 5 hS ?_
    refine TS.wkB 7 hS ?_
    refine TS.one (i:=6) (by kernel_rfl) rfl (fun K1 hK1=>?_)
    go_simp
    go_at_call 118
    refine(HD.out _).mono ?_
    rintro e' wA ⟨rfl,bA,dA,rfl⟩
    refine TS.go hK1 (by first|exact⟨_,_,World.grow_grow _ _ _ _ _⟩|exact⟨_,_,rfl⟩) (fun hS=>?_)
    clear hK1 K1
    (try simp only [nS])
    refine TS.one (i:=8) (by kernel_rfl) rfl (fun K1 hK1=>?_)
    go_simp
    go_at_call 48
    refine(HU.out _ _ _ _).mono ?_
    rintro e' wA ⟨rfl,bA,dA,rfl⟩
    refine TS.go hK1 (by first|exact⟨_,_,World.grow_grow _ _ _ _ _⟩|exact⟨_,_,rfl⟩) (fun hS=>?_)
    clear hK1 K1
    (try simp only [nS])
    refine TS.wtB 9 ?_
    refine TS.weB 10 ?_
    clear hS
    have hW:=HW.out
    subst hW
    clear b0 b8 b10 b13 b14 z0 z8 z10 z13 r0 r1 r2 r3 rf z1 HW
    go_wp2_with fail
    go_returns
    exact evR' rfl (fun _=>rfl) (.of_below belB)
  ·have hq1:(rc !=0)=true:=by simpa using hrc
   have HC:=Lib.hid hrc
   have HN:Hid (numR DM (rn,rd,rc)=(.zero,rc)):=Lib.hid (by unfold numR;rw [if_neg hrc])
   rw [HN.out]
   clear hrc HD HU ho hgc hcmp HN
   rcases hlt with hlt|hlt
   all_goals
    go_enter Tryz.func68,Tryz.ntmps68
    go_wp2_with (first
     |(go_at_call 68;first
      |((with_reducible refine(HC0.out _ (.of_below belB) (HR0.out.grows (.of_below belB))).mono ?_);rintro e' w' ⟨x,rfl,hx,bs,d,rfl⟩;obtain rfl:=hx (by first|rfl|trivial))
      |((with_reducible refine(HC1.out _ (.of_below belB) (HR1.out.grows (.of_below belB))).mono ?_);rintro e' w' ⟨y,rfl,hy,bs1,d1,rfl⟩;obtain rfl:=hy (by first|rfl|trivial)))
     |(go_at_call 117;refine(HM.out _).mono ?_;rintro e' w' ⟨rfl,bs2,d2,rfl⟩))
    go_returns
    exact evR' rfl (fun h=>absurd h HC.out) (.of_below belB)
theorem expr_best(v:Vw)(y se:Value)(env:List (ByteArray × Val))(E:Nat)(e:Ex)(a:Option Addr)(cap:Nat)(w:World)(hev:EvAt w E v y env se)(h1:e.op=3) :
 Calls Tryz.prog 68 #[.pointer (some ⟨E,0,none⟩),exV e (.slice a e.args.length cap)] w (EvR (valueF v env e) w):=by
 have HV:Hid (valueF v env e=numR 4 (bestF v.years e.num)):=Lib.hid (by rw [valueF_eq];unfold valNode;rw [if_neg (by omega),if_neg (by omega),if_pos h1])
 rw [HV.out]
 have hE:=hev.lt
 have hblk:=hev.blk
 have HY:=Lib.hid hev.yr
 have HB:=Lib.hid (fun w' (hg:w.Grows w')=>Best2_any v.years e.num y w' (HY.out.grows hg))
 have HU:=Lib.hid (fun m n d w=>evnum_any m n d w)
 unfold valV Val.num at HU
 unfold evC at hblk
 dsimp only at HU
 have e12:w.cell? ⟨E,12,none⟩=some y:=cell_of_row _ _ _ _ _ _ hblk
 obtain⟨ya,yc,rfl⟩:∃a c,y= .slice a v.years.length c:=by obtain⟨-,a,c,h,-⟩:=hev.yr;exact⟨a,c,h⟩
 unfold frV at HB
 generalize bestF v.years e.num=R at *
 obtain⟨rn,rd,rc⟩:=R
 dsimp only at HB
 have HR2:Hid (rc=(numR 4 (rn,rd,rc)).2):=Lib.hid (by unfold numR;split<;>simp_all)
 have HR1:Hid (rc=0→(⟨4,false,rn,rd⟩:Val)=(numR 4 (rn,rd,rc)).1):=Lib.hid (by intro h;unfold numR;rw [if_pos h];rfl)
 clear hblk hev HV
 unfold exV
 rw [h1]
 go_enter Tryz.func68,Tryz.ntmps68
 go_wp2_with fail
 refine wp_abs (fun W hW=>?_)
 have hbw:Below w.heap.size w W:=by rw [←hW];(exact belB)
 have hsz:W.heap.size=w.heap.size+2:=by rw [←hW];simp
 have hEW:E<W.heap.size:=by omega
 have hcE:W.cell? ⟨E,12,none⟩=w.cell? ⟨E,12,none⟩:=hbw.cell (p:=⟨E,12,none⟩) hE
 rw [←hcE]at e12
 have b1:W.cell? ⟨w.heap.size,1,none⟩=some (.int .i64 e.num):=by rw [←hW];simp [go_sem]
 have hz0:w.heap.size<W.heap.size:=by omega
 have HW:=Lib.hid hW
 clear hW hcE
 refine TS.begin [14] (World.Grows _) (by kernel_rfl) (by kernel_rfl) grows_drew0 (fun hS=>?_)
 refine TS.wkB 0 hS ?_
 refine TS.wkB 1 hS ?_
 refine TS.wkB 2 hS ?_
 refine TS.wkB 3 hS ?_
 refine TS.wkB 4 hS ?_
 refine TS.wkB 5 hS ?_
 refine TS.wkB 6 hS ?_
 refine TS.wkB 7 hS ?_
 refine TS.two (i:=8) (k:=12) (by kernel_rfl) rfl rfl (fun K1 hK1=>?_) (fun K1 hK1=>?_)
 focus
  go_simp
  go_at_call 22
  refine(HB.out _ (.of_below belB)).mono ?_
  rintro e' wA ⟨rfl,bA,dA,rfl⟩
  refine TS.go hK1 (by first|exact⟨_,_,World.grow_grow _ _ _ _ _⟩|exact⟨_,_,rfl⟩|exact .of_below belB) (fun hS=>?_)
  clear hK1 K1
  (try simp only [nS])
  refine TS.wkB 9 hS ?_
  refine TS.wkB 10 hS ?_
  refine TS.wkB 11 hS ?_
  refine TS.one (i:=12) (by kernel_rfl) rfl (fun K1 hK1=>?_)
  go_simp
  refine TS.go hK1 (.of_below belB) (fun hS=>?_)
  clear hK1 K1
  (try simp only [nS])
 rotate_left
 focus
  go_simp
  refine TS.go hK1 (.of_below belB) (fun hS=>?_)
  clear hK1 K1
  (try simp only [nS])
  refine TS.one (i:=8) (by kernel_rfl) rfl (fun K1 hK1=>?_)
  go_simp
  go_at_call 22
  refine(HB.out _ (.of_below belB)).mono ?_
  rintro e' wA ⟨rfl,bA,dA,rfl⟩
  refine TS.go hK1 (by first|exact⟨_,_,World.grow_grow _ _ _ _ _⟩|exact⟨_,_,rfl⟩|exact .of_below belB) (fun hS=>?_)
  clear hK1 K1
  (try simp only [nS])
  refine TS.wkB 9 hS ?_
  refine TS.wkB 10 hS ?_
  refine TS.wkB 11 hS ?_
 rotate_left
 all_goals
  refine TS.one (i:=13) (by kernel_rfl) rfl (fun K1 hK1=>?_)
  go_simp
  refine TS.go hK1 (.of_below belB) (fun hS=>?_)
  clear hK1 K1
  (try simp only [nS])
  refine TS.weB 14 ?_
  clear hS
  have hW:=HW.out
  subst hW
  clear hbw hsz hEW e12 b1 hz0 HW
  go_wp2_with (go_at_call 48;refine(HU.out _ _ _ _).mono ?_;rintro e' w' ⟨rfl,bs3,d3,rfl⟩)
  go_returns
  exact evR' HR2.out HR1.out (.of_below belB)
theorem evexpr_walk(S:Nat→Prop)(v:Vw)(y se:Value)(env:List (ByteArray × Val))(E:Nat)(hv:v.ok=true)(hE:∀p∈env,p.2.ok=true)(hr:VwRng v)(n:Nat):∀(e:Ex),e.size≤n→formedB e=true→(inferF (dimsOf env) e).2=0→
 ∀(a:Option Addr) (cap:Nat) (w:World),RepE S w e (.slice a e.args.length cap)→EvAt w E v y env se→
 Calls Tryz.prog 68 #[.pointer (some ⟨E,0,none⟩),exV e (.slice a e.args.length cap)] w (EvR (valueF v env e) w):=by
 induction n with
 |zero=>intro e he;have:=e.size_pos;omega
 |succ n ih=>
  intro e he hf hi a cap w hrep hev
  by_cases h1:e.op=1
  ·exact expr_lit v env E e a cap w h1
  by_cases h2:e.op=2
  ·refine expr_name v y se env E e a cap w hev hr h2 (name_typed hv hE ?_)
   rw [inferF_eq]at hi
   unfold infNode at hi
   rw [if_neg h1,if_neg (by omega),if_pos h2]at hi
   exact hi
  by_cases h3:e.op=3
  ·exact expr_best v y se env E e a cap w hev h3
  obtain⟨ds,hdl,hds,ho4,ho21,hres,hargs⟩:=typed_op hv hE hf hi h1 h2 h3
  have IH:∀w',w.Grows w'→∀k,k<e.args.length→EvIH S E w' (e.arg k) (valueF v env (e.arg k)):=fun w' hg k hk ak ck w2 hg2 hr2=>by
   have hsm:=e.size_arg k hk
   obtain⟨q1,q2,-⟩:=hargs k hk
   exact ih (e.arg k) (by omega) q1 q2 ak ck w2 hr2 (hev.grows (World.Grows.trans hg hg2))
  have hok:∀k,k<e.args.length→(valueF v env (e.arg k)).2=0→(valueF v env (e.arg k)).1.ok=true∧(valueF v env (e.arg k)).1.dim=ds.getD k 0:=fun k hk h0=>((hargs k hk).2.2).good h0
  by_cases h6:e.op≤6
  ·have hlen:0<e.args.length:=by unfold argsN at hds;(repeat' split at hds)<;>omega
   exact expr_unary S v env E e a cap w hrep (by omega) hlen (fun h0=>Val.ok_rng (hok 0 hlen h0).1) (fun w' hg=>IH w' hg 0 hlen)
  have hlen:2≤e.args.length:=by unfold argsN at hds;(repeat' split at hds)<;>omega
  by_cases hl:e.op=17∨e.op=18∨e.op=21
  ·exact expr_logic S v env E e a cap w hrep hl hlen (fun ho=>by unfold argsN at hds;(repeat' split at hds)<;>omega) IH
  ·have hlen2:ds.length=2:=by unfold argsN at hds;(repeat' split at hds)<;>omega
   obtain⟨p,q,rfl⟩:∃p q,ds= [p,q]:=by
    match ds,hlen2 with
    | [p,q],_=>exact⟨p,q,rfl⟩
   refine expr_bin S v env E e a cap w hrep (by omega) hlen (fun h0=>(hok 0 (by omega) h0).1) (fun h0=>(hok 1 (by omega) h0).1) (fun g0 g1=>?_) IH
   rw [(hok 0 (by omega) g0).2,(hok 1 (by omega) g1).2]
   exact hres
def bindL(l:List (ByteArray × Int)):List Value:=l.flatMap fun p=>[.string p.1,.int .i64 p.2]
theorem bindL_len(l:List (ByteArray × Int)):(bindL l).length=l.length*2:=by
 induction l with
 |nil=>rfl
 |cons p r ih=>unfold bindL at *;rw [List.flatMap_cons,List.length_append,ih];simp;omega
theorem bindL_get(l:List (ByteArray × Int)):∀i,i<l.length→(bindL l)[i*2]? =some (.string (bdN l i))∧(bindL l)[i*2+1]? =some (.int .i64 (bdD l i)):=by
 induction l with
 |nil=>intro i hi;simp at hi
 |cons p r ih=>
  intro i hi
  cases i with
  |zero=>exact⟨rfl,rfl⟩
  |succ i=>
   obtain⟨h1,h2⟩:=ih i (by simpa using hi)
   have e1:(i+1)*2=i*2+1+1:=by omega
   have e2:(i+1)*2+1=i*2+1+1+1:=by omega
   rw [e1,show i*2+1+1+1=(i*2+1)+1+1 by omega]
   exact⟨h1,h2⟩
theorem bindL_snoc(l:List (ByteArray × Int))(p:ByteArray × Int):bindL (l++[p])=bindL l++[.string p.1,.int .i64 p.2]:=by
 unfold bindL;simp
theorem BindAt.of_own{w:World}{base:Nat}{v:Value}{l:List (ByteArray × Int)}(h:w.ownsRow base 64 2 v l.length (bindL l))(hl:l.length≤1000):BindAt w v l:=by
 obtain⟨-,⟨rfl,h0⟩|⟨g,cap,cur,rfl,hb,hg,h2,h3,h4,h5⟩⟩:=id h
 ·exact⟨by omega,none,0,by rw [h0],.inl h0⟩
 ·refine⟨by omega,_,cap,rfl,.inr ⟨g,0,rfl,(Array.getElem?_eq_some_iff.1 hg).1,fun i hi=>?_⟩⟩
  obtain⟨g1,g2⟩:=bindL_get l i hi
  rw [Nat.zero_add,h.cellAt (i*2) (by omega),h.cellAt (i*2+1) (by omega)]
  exact⟨g1,g2⟩
theorem dims_take(env:List (ByteArray × Val))(k:Nat)(hk:k<env.length):dimsOf (env.take (k+1))=dimsOf (env.take k)++[(stN env k,(stV env k).dim)]:=by
 unfold dimsOf stN stV
 rw [List.take_succ_eq_append_getElem hk,List.map_append,List.getD_eq_getElem?_getD,List.getElem?_eq_getElem hk]
 rfl
theorem dims_len(env:List (ByteArray × Val))(k:Nat)(hk:k≤env.length):(dimsOf (env.take k)).length=k:=by
 unfold dimsOf;rw [List.length_map,List.length_take];omega
theorem env_bad{env:List (ByteArray × Val)}{k:Nat}(hk:k<env.length)(hb:(stV env k).ok=false):(env.any fun p=>!p.2.ok)=true:=by
 rw [List.any_eq_true]
 refine⟨env[k],List.getElem_mem hk, ?_⟩
 have:stV env k=env[k].2:=by unfold stV;rw [List.getD_eq_getElem?_getD,List.getElem?_eq_getElem hk];rfl
 rw [←this,hb];rfl
theorem env_good{env:List (ByteArray × Val)}(hg:∀k,k<env.length→(stV env k).ok=true):∀p∈env,p.2.ok=true:=by
 intro p hp
 obtain⟨k,hk,rfl⟩:=List.mem_iff_getElem.1 hp
 have:=hg k hk
 unfold stV at this
 rwa [List.getD_eq_getElem?_getD,List.getElem?_eq_getElem hk]at this
theorem env_any{env:List (ByteArray × Val)}(h:∀p∈env,p.2.ok=true):(env.any fun p=>!p.2.ok)=false:=by
 rw [List.any_eq_false];intro p hp;rw [h p hp];simp
theorem dims_ok{env:List (ByteArray × Val)}(h:∀p∈env,p.2.ok=true):dimsOk (dimsOf env)=true:=by
 unfold dimsOk dimsOf
 rw [List.all_eq_true]
 intro q hq
 obtain⟨p,hp,rfl⟩:=List.mem_map.1 hq
 have:=Val.ok_dim (h p hp)
 exact decide_eq_true this
theorem stV_mem{env:List (ByteArray × Val)}{k:Nat}(hk:k<env.length):∃p∈env,stV env k=p.2:=⟨env[k],List.getElem_mem hk,by unfold stV;rw [List.getD_eq_getElem?_getD,List.getElem?_eq_getElem hk];rfl⟩
theorem expr_good{v:Vw}{env:List (ByteArray × Val)}{e:Ex}(hv:v.ok=true)(hE:∀p∈env,p.2.ok=true) :
 exprF' v env e=if(inferE (dimsOf env) e).2≠0 then(.zero,(inferE (dimsOf env) e).2)else if(valueF v env e).2≠0 then(.zero,(valueF v env e).2)else valueF v env e:=by
 unfold exprF' inferE
 rw [env_any hE,hv,dims_ok hE]
 cases hb:validB e with
 |false=>simp
 |true=>simp
theorem infoB:(Tryz.prog.info? 64).map (fun i=>(i.zero,i.size,i.bytes))=some (some (.agg #[.string ⟨#[]⟩,.int .i64 0]),2,24):=by kernel_rfl
def ExpP(r:Val × Int)(w:World)(e:Ending)(w':World):Prop:=e= .returned (.tuple #[valV r.1,.int .i64 r.2])∧w.Grows w'
theorem expP{r:Val × Int}{m n d c:Int}{b:Bool}{w w':World}(h:r=(⟨m,b,n,d⟩,c))(hg:w.Grows w'):ExpP r w (.returned (.tuple #[.agg #[.int .i64 m,.bool b,.int .i64 n,.int .i64 d],.int .i64 c])) w':=by
 subst h;exact⟨rfl,hg⟩
theorem expr2_view(S:Nat→Prop)(v:Vw)(y se:Value)(env:List (ByteArray × Val))(e:Ex)(a:Option Addr)(cap:Nat)(w:World)(hy:YrAt w y v.years)(hr:VwRng v)(hs:StpAt w se env)(hv:v.ok=false) :
 Calls Tryz.prog 29 #[exV e (.slice a e.args.length cap),vwV v y,se] w (ExpP (exprF' v env e) w):=by
 have HF:Hid (exprF' v env e=(.zero,1)):=Lib.hid (by unfold exprF';rw [if_pos (.inl hv)])
 rw [HF.out]
 have HY:=Lib.hid hy
 have HV:=Lib.hid (fun w' (hg:w.Grows w')=>ValidView2_any v y w' hr (HY.out.grows hg))
 rw [hv]at HV
 obtain⟨ya,yc,rfl⟩:∃a c,y= .slice a v.years.length c:=by obtain⟨-,a,c,h,-⟩:=hy;exact⟨a,c,h⟩
 obtain⟨sa,sc,rfl⟩:∃a c,se= .slice a env.length c:=by obtain⟨-,a,c,h,-⟩:=hs;exact⟨a,c,h⟩
 clear hy hr hs hv HF
 unfold vwV at HV ⊢
 unfold exV
 go_enter Tryz.func29,Tryz.ntmps29
 go_wp2_with (go_at_call 20;refine(HV.out _ (.of_below belB)).mono ?_;rintro e' w' ⟨rfl,bs,d,rfl⟩)
 go_returns
 exact expP rfl (.of_below belB)
theorem expr2_in(S:Nat→Prop)(v:Vw)(y se:Value)(env:List (ByteArray × Val))(e:Ex)(a:Option Addr)(cap:Nat)(w:World)(h:RepE S w e (.slice a e.args.length cap))(hbig:e.size≤2305843009213693952)(ht:Tab w)(hy:YrAt w y v.years)(hr:VwRng v)(hs:StpAt w se env)(hS:∀p∈env,VRng p.2)(hv:v.ok=true) :
 Calls Tryz.prog 29 #[exV e (.slice a e.args.length cap),vwV v y,se] w (ExpP (exprF' v env e) w):=by
 obtain⟨i0,hi,hz0,hz1,hz2⟩:=info_parts infoB
 have HR:=Lib.hid h
 have HT:=Lib.hid ht
 have HY:=Lib.hid hy
 have HS:=Lib.hid hs
 have HSR:=Lib.hid hS
 have HV:=Lib.hid (fun w' (hg:w.Grows w')=>ValidView2_any v y w' hr (HY.out.grows hg))
 rw [hv]at HV
 have HBAD:Hid (∀k,k<env.length→(stV env k).ok=false→exprF' v env e=(.zero,1)):=Lib.hid (fun k hk hb=>by unfold exprF';rw [if_pos (.inr (.inl (env_bad hk hb)))])
 have HINF:Hid (∀w' vb,w.Grows w'→BindAt w' vb (dimsOf env)→Calls Tryz.prog 67 #[exV e (.slice a e.args.length cap),vb] w' (InfP (inferE (dimsOf env) e) w')):=
  Lib.hid (fun w' vb hg hb=>Infer2_any S (dimsOf env) e _ vb w' (HR.out.grows hg) hbig (HT.out.grows hg) hb)
 have HGOOD:=Lib.hid (fun hE=>expr_good (v:=v) (env:=env) (e:=e) hv hE)
 have HEV:Hid ((∀p∈env,p.2.ok=true)→(inferE (dimsOf env) e).2=0→∀X N,w.Grows X→X.heap.size=N→Calls Tryz.prog 68 #[.pointer (some ⟨N,0,none⟩),exV e (.slice a e.args.length cap)] (X.alloc (.cells (evC v y se) 126)) (EvR (valueF v env e) (X.alloc (.cells (evC v y se) 126)))):=
  Lib.hid (fun hE hi X N hg hN=>by
   subst hN
   have hvb:validB e=true:=by
    unfold inferE at hi
    split at hi<;>rename_i hc
    ·exact hc.1
    ·simp at hi
   have hi2:(inferF (dimsOf env) e).2=0:=by rwa [inferE_yes hvb (dims_ok hE)]at hi
   have hg2:w.Grows (X.alloc (.cells (evC v y se) 126)):=World.Grows.trans hg (.of_below belB)
   exact evexpr_walk S v y se env _ hv hE hr e.size e (Nat.le_refl _) (valid_formed hvb) hi2 a cap _ (HR.out.grows hg2) ⟨World.alloc_heap_new _ _,HY.out.grows hg2,HS.out.grows hg2⟩)
 obtain⟨ya,yc,rfl⟩:∃a c,y= .slice a v.years.length c:=by obtain⟨-,a,c,h,-⟩:=hy;exact⟨a,c,h⟩
 obtain⟨sa,sc,rfl⟩:∃a c,se= .slice a env.length c:=by obtain⟨-,a,c,h,-⟩:=hs;exact⟨a,c,h⟩
 have h1000:=hs.1
 clear h ht hy hr hs hS hv hbig
 unfold vwV at HV ⊢
 unfold evC at HEV
 unfold EvR exV valV at HEV
 unfold InfP exV at HINF
 unfold exV
 go_enter Tryz.func29,Tryz.ntmps29
 go_wp2_with (go_at_call 20;refine(HV.out _ (.of_below belB)).mono ?_;rintro e' w' ⟨rfl,bs,d,rfl⟩)
 go_loopw [8,10,22] (fun v8 _ v22 wr=>∃(k:Nat) (vb:Value),vb=v8∧k≤env.length∧v22= .int .i64 k∧Hid (∀j,j<k→(stV env j).ok=true)∧Below (w.heap.size+1+1+1+bs.size) (((((w.alloc (.cells #[.int .i64 e.op,.int .i64 e.num,.int .i64 e.den,.int .i64 e.dim,.string e.name,.slice a e.args.length cap] 51)).alloc (.cells #[.int .i64 v.age,.int .i64 v.year,.int .i64 v.children,.int .i64 v.insured,.int .i64 v.worked,.int .i64 v.voluntary,.int .i64 v.service,.int .i64 v.equated,.int .i64 v.raising,.int .i64 v.resident,.int .i64 v.bn,.int .i64 v.bd,.slice ya v.years.length yc] 26)).alloc (.cells #[.int .i64 0,.bool false,.int .i64 0,.int .i64 0] 34)).grow bs d)) wr∧wr.ownsRow (w.heap.size+1+1+1+bs.size) 64 2 vb k (bindL (dimsOf (env.take k)))) (fun _ _ v22 _=>env.length-(intOf v22).toNat)
 case atStart=>exact⟨0,_,rfl,by omega,rfl,Lib.hid (fun j hj=>by omega),.refl _ _,World.ownsRow_nil _ _ _ _⟩
 case round=>
  obtain⟨k,vb,rfl,hk,rfl,hno,hB,hown⟩:=hrel
  have hG0:World.Grows (((((w.alloc (.cells #[.int .i64 e.op,.int .i64 e.num,.int .i64 e.den,.int .i64 e.dim,.string e.name,.slice a e.args.length cap] 51)).alloc (.cells #[.int .i64 v.age,.int .i64 v.year,.int .i64 v.children,.int .i64 v.insured,.int .i64 v.worked,.int .i64 v.voluntary,.int .i64 v.service,.int .i64 v.equated,.int .i64 v.raising,.int .i64 v.resident,.int .i64 v.bn,.int .i64 v.bd,.slice ya v.years.length yc] 26)).alloc (.cells #[.int .i64 0,.bool false,.int .i64 0,.int .i64 0] 34)).grow bs d)) wr:=.of_below (by simpa using hB)
  have hG:w.Grows wr:=World.Grows.trans (.of_below belB) hG0
  have HO:=Lib.hid hown
  have HB:=Lib.hid hB
  have HG:=Lib.hid hG
  have HG0:=Lib.hid hG0
  have hsW:w.heap.size+1+1+1+bs.size≤wr.heap.size:=by have:=hB.size;simpa using this
  clear hB hown hG hG0
  by_cases hlt:k<env.length
  ·obtain⟨-,sa',sc',hv2,hcs⟩:=HS.out.grows HG.out
   simp only [Value.slice.injEq,true_and]at hv2
   obtain⟨rfl,rfl⟩:=hv2
   rcases hcs with h0|⟨b,off,rfl,hbw,hx⟩
   ·omega
   obtain⟨s0,s1,s2,s3,s4⟩:=hx k hlt
   have HVV:Hid (∀w,Calls Tryz.prog 66 #[valV (stV env k)] w fun r w'=>r= .returned (.bool (stV env k).ok)∧w.Grows w'):=Lib.hid (fun w=>by
    obtain⟨p,hp,he⟩:=stV_mem hlt
    exact validValue2_any _ w (by rw [he];exact HSR.out p hp))
   have HBD:=Lib.hid (HBAD.out k hlt)
   have HNX:=Lib.hid (dims_take env k hlt)
   have HKL:=Lib.hid hlt
   have d1:(k:Int)<(env.length:Int):=by omega
   unfold valV at HVV
   have HKK:Hid ((stV env k).ok=true→∀j,j<k+1→(stV env j).ok=true):=Lib.hid (fun h j hj=>by
    by_cases ej:j=k
    ·subst ej;exact h
    ·exact hno.out j (by omega))
   generalize stN env k=nk at *
   generalize stV env k=xk at *
   obtain⟨xm,xy,xn,xd⟩:=xk
   dsimp only at s1 s2 s3 s4 HVV HNX
   cases hq:(Val.mk xm xy xn xd).ok with
   |true=>
    rw [hq]at HVV
    have HQ:=Lib.hid (HKK.out hq)
    clear hx hlt hq HKK HBD
    go_wp2_with (first
     |(go_at_call 66;refine(HVV.out _).mono ?_;rintro e' w' ⟨rfl,bs2,d2,rfl⟩)
     |(at_builtin;refine wpList_append_own _ rfl _ _ 54 rfl (w.heap.size+1+1+1+bs.size) 64 i0 (.agg #[.string ⟨#[]⟩,.int .i64 0]) 2 24 Tryz.underlying54 hi hz0 hz1 hz2 rfl (by decide) _ _ _ rfl ((own_grow (HO.out.alloc _) ⟨bs2,d2,rfl⟩).alloc _) ⟨wr.heap.size+1+bs2.size,0,none⟩ 1 1 [.string nk,.int .i64 xm] rfl rfl ?c1 ?c2 ?c3 ?c4 ?c5 ?_))
    case c1=>exact news_cells _ [.string nk,.int .i64 xm] _ _ (by simp)
    case c2=>intro u hu;simp at hu;rcases hu with rfl|rfl<;>rfl
    case c3=>unfold maxLen;omega
    case c4=>omega
    case c5=>simp;omega
    intro v' w1 hown' hgrow _
    have HB1:=Lib.hid ((show Below (w.heap.size+1+1+1+bs.size) (((((w.alloc (.cells #[.int .i64 e.op,.int .i64 e.num,.int .i64 e.den,.int .i64 e.dim,.string e.name,.slice a e.args.length cap] 51)).alloc (.cells #[.int .i64 v.age,.int .i64 v.year,.int .i64 v.children,.int .i64 v.insured,.int .i64 v.worked,.int .i64 v.voluntary,.int .i64 v.service,.int .i64 v.equated,.int .i64 v.raising,.int .i64 v.resident,.int .i64 v.bn,.int .i64 v.bd,.slice ya v.years.length yc] 26)).alloc (.cells #[.int .i64 0,.bool false,.int .i64 0,.int .i64 0] 34)).grow bs d)) _ from by have:=HB.out;(exact belB)).grown hgrow (by simp;omega) (fun k hk=>(HO.out.lt k hk).1))
    have HO1:=Lib.hid hown'
    clear hown' hgrow
    go_wp2_with fail
    go_roundw
    case rel=>exact⟨k+1,_,rfl,HKL.out,by go_num,HQ,HB1.out,by rw [HNX.out,bindL_snoc];exact HO1.out⟩
    case measure=>simp [intOf];have:=HKL.out;omega
   |false=>
    rw [hq]at HVV
    have HF:=Lib.hid (HBD.out hq)
    clear hx hlt hq HKK HBD
    rw [HF.out]
    obtain⟨bs9,d9,rfl⟩:=HG0.out
    simp only [World.grow_grow]at s0 s1 s2 s3 s4
    go_wp2_with (go_at_call 66;refine(HVV.out _).mono ?_;rintro e' w' ⟨rfl,bs2,d2,rfl⟩)
    go_returns
    exact expP rfl (.of_below belB)
  ·obtain rfl:k=env.length:=by omega
   have hE:=env_good hno.out
   have hgd:=HGOOD.out hE
   have HEV2:=Lib.hid (HEV.out hE)
   have hbd:BindAt wr vb (dimsOf env):=by
    have h1:=HO.out
    rw [List.take_length]at h1
    have hl:(dimsOf env).length=env.length:=by unfold dimsOf;simp
    exact BindAt.of_own (by rw [hl];exact h1) (by rw [hl];exact h1000)
   obtain⟨bs9,d9,rfl⟩:=HG0.out
   have HBND:=Lib.hid hbd
   have HI2:=Lib.hid (fun w' hg hb=>HINF.out w' vb hg hb)
   obtain⟨-,va,vc,rfl,-⟩:=hbd
   have HGD:=Lib.hid hgd
   clear hgd
   generalize inferE (dimsOf env) e=q at *
   generalize valueF v env e=r at *
   obtain⟨qm,qc⟩:=q
   obtain⟨⟨rm,ry,rn,rd⟩,rc⟩:=r
   dsimp only at HI2 HEV2 HGD
   by_cases hqc:qc=0
   ·subst hqc
    have HEV3:=Lib.hid (HEV2.out rfl)
    by_cases hrc:rc=0
    ·subst hrc
     have HF:Hid (exprF' v env e=(⟨rm,ry,rn,rd⟩,0)):=Lib.hid (by rw [HGD.out];simp)
     go_wp2_with (first
      |(go_at_call 67;refine(HI2.out _ (.of_below belB) (by first|exact HBND.out|(have hb9:=HBND.out;simp only [World.grow_grow]at hb9;exact hb9))).mono ?_;rintro e' w' ⟨rfl,bs4,d4,rfl⟩)
      |(go_at_call 68;refine(HEV3.out _ _ (.of_below belB) (by simp;try omega)).mono ?_;rintro e' w' ⟨x,rfl,hx,bs5,d5,rfl⟩;obtain rfl:=hx (by first|rfl|trivial)))
     go_returns
     exact expP HF.out (.of_below belB)
    ·have hq1:(rc !=0)=true:=by simpa using hrc
     have HF:Hid (exprF' v env e=(.zero,rc)):=Lib.hid (by rw [HGD.out];simp [hrc])
     clear hrc
     go_wp2_with (first
      |(go_at_call 67;refine(HI2.out _ (.of_below belB) (by first|exact HBND.out|(have hb9:=HBND.out;simp only [World.grow_grow]at hb9;exact hb9))).mono ?_;rintro e' w' ⟨rfl,bs4,d4,rfl⟩)
      |(go_at_call 68;refine(HEV3.out _ _ (.of_below belB) (by simp;try omega)).mono ?_;rintro e' w' ⟨⟨xm,xy,xn,xd⟩,rfl,hx,bs5,d5,rfl⟩))
     go_returns
     exact expP HF.out (.of_below belB)
   ·have hq1:(qc !=0)=true:=by simpa using hqc
    have HF:Hid (exprF' v env e=(.zero,qc)):=Lib.hid (by rw [HGD.out];simp [hqc])
    clear hqc HEV2
    go_wp2_with (go_at_call 67;refine(HI2.out _ (.of_below belB) (by first|exact HBND.out|(have hb9:=HBND.out;simp only [World.grow_grow]at hb9;exact hb9))).mono ?_;rintro e' w' ⟨rfl,bs4,d4,rfl⟩)
    go_returns
    exact expP HF.out (.of_below belB)
theorem Expr2_any(S:Nat→Prop)(v:Vw)(y se:Value)(env:List (ByteArray × Val))(e:Ex)(a:Option Addr)(cap:Nat)(w:World)(h:RepE S w e (.slice a e.args.length cap))(hbig:e.size≤2305843009213693952)(ht:Tab w)(hy:YrAt w y v.years)(hr:VwRng v)(hs:StpAt w se env)(hS:∀p∈env,VRng p.2) :
 Calls Tryz.prog 29 #[exV e (.slice a e.args.length cap),vwV v y,se] w (ExpP (exprF' v env e) w):=by
 cases hv:v.ok with
 |false=>exact expr2_view S v y se env e a cap w hy hr hs hv
 |true=>exact expr2_in S v y se env e a cap w h hbig ht hy hr hs hS hv
theorem lit8_any(n d m:Int)(w:World):Calls Tryz.prog 53 #[.int .i64 n,.int .i64 d,.int .i64 m] w fun e w'=>e= .returned (exV (.mk 1 n d m noN []) (.slice none 0 0))∧w.Grows w':=by
 show Calls _ _ _ _ fun e w'=>e= .returned (.agg #[.int .i64 1,.int .i64 n,.int .i64 d,.int .i64 m,.string ⟨#[]⟩,.slice none 0 0])∧_
 go_enter Tryz.func53,Tryz.ntmps53
 exact lz28
theorem name8_any(s:ByteArray)(w:World):Calls Tryz.prog 52 #[.string s] w fun e w'=>e= .returned (exV (.mk 2 0 0 0 s []) (.slice none 0 0))∧w.Grows w':=by
 show Calls _ _ _ _ fun e w'=>e= .returned (.agg #[.int .i64 2,.int .i64 0,.int .i64 0,.int .i64 0,.string s,.slice none 0 0])∧_
 go_enter Tryz.func52,Tryz.ntmps52
 exact lz28
def TwoP(op:Int)(o1 o2:Ex)(w:World)(e:Ending)(w':World):Prop:=
 ∃b,e= .returned (.agg #[.int .i64 op,.int .i64 0,.int .i64 0,.int .i64 0,.string ⟨#[]⟩,.slice (some ⟨b,0,none⟩) 2 2])∧w.Grows w'∧RepE (fun _=>True) w' (.mk op 0 0 0 noN [o1,o2]) (.slice (some ⟨b,0,none⟩) 2 2)
theorem two8_any(op:Int)(ho:0≤op∧op≤100)(o1 o2:Ex)(v1 v2:Value)(w:World)(h1:RepE (fun _=>True) w o1 v1)(h2:RepE (fun _=>True) w o2 v2) :
 Calls Tryz.prog 51 #[.int .i64 op,exV o1 v1,exV o2 v2] w (TwoP op o1 o2 w):=by
 obtain⟨a1,c1,rfl⟩:=h1.form0
 obtain⟨a2,c2,rfl⟩:=h2.form0
 have H1:=Lib.hid h1
 have H2:=Lib.hid h2
 clear h1 h2
 unfold exV
 go_enter Tryz.func51,Tryz.ntmps51
 go_wp2_with fail
 go_returns
 refine⟨_,rfl,.of_below belB, ?_⟩
 exact RepE.pair op ho trivial (heap_new _ _ _ (by simp)) (H1.out.grows (.of_below belB)) (H2.out.grows (.of_below belB))
theorem RepE.nil8(w:World)(op n d m:Int)(s:ByteArray)(h1:-1000≤op∧op≤1000)(h2:-1000≤n∧n≤1000)(h3:-1000≤d∧d≤1000)(h4:-1000≤m∧m≤1000)(h5:s.size≤1000):RepE (fun _=>True) w (.mk op n d m s []) (.slice none 0 0):=
 RepE.nil ⟨⟨by show _≤op;omega,by show op≤_;omega⟩,⟨by show _≤n;omega,by show n≤_;omega⟩,⟨by show _≤d;omega,by show d≤_;omega⟩,⟨by show _≤m;omega,by show m≤_;omega⟩,by simp [Ex.args],by show s.size≤_;omega⟩ rfl
def nmE(s:ByteArray):Ex:=.mk 2 0 0 0 s []
def ltE(n d m:Int):Ex:=.mk 1 n d m noN []
theorem awE_is:awE= .mk 9 0 0 0 noN [.mk 9 0 0 0 noN [nmE baseN,.mk 10 0 0 0 noN [nmE insuredN,ltE 365 1 3]],ltE 1 50 2]:=rfl
theorem view_aw(w:World):YrAt w (.slice none 0 0) awV.years:=⟨by decide,none,0,rfl,.inl rfl⟩
theorem steps_no(w:World):StpAt w (.slice none 0 0) []:=⟨by decide,none,0,rfl,.inl rfl⟩
theorem awake8_any(w:World)(ht:Tab w):Calls Tryz.prog 19 #[] w fun e w'=>e= .returned (.bool true)∧w.Grows w':=by
 have HT:=Lib.hid ht
 have HX:=Lib.hid (fun w b (hR:RepE (fun _=>True) w awE (.slice (some ⟨b,0,none⟩) 2 2)) (ht:Tab w)=>Expr2_any (fun _=>True) awV (.slice none 0 0) (.slice none 0 0) [] awE (some ⟨b,0,none⟩) 2 w hR (by decide+kernel) ht (view_aw w) ⟨⟨by decide,by decide⟩,⟨by decide,by decide⟩⟩ (steps_no w) (fun p hp=>by cases hp))
 unfold ExpP at HX
 rw [aw_expr]at HX
 unfold valV at HX
 dsimp only at HX
 clear ht
 go_enter Tryz.func19,Tryz.ntmps19
 go_wp2_with (first
  |(go_at_call 52;refine(name8_any _ _).mono ?_;rintro e' w' ⟨rfl,bs,d,rfl⟩)
  |(go_at_call 53;refine(lit8_any _ _ _ _).mono ?_;rintro e' w' ⟨rfl,bs,d,rfl⟩))
 go_at_call 51
 refine(two8_any 10 (by omega) (nmE insuredN) (ltE 365 1 3) _ _ _ (RepE.nil8 _ _ _ _ _ _ (by omega) (by omega) (by omega) (by omega) (by decide)) (RepE.nil8 _ _ _ _ _ _ (by omega) (by omega) (by omega) (by omega) (by decide))).mono ?_
 rintro e' Wb1 ⟨b1,rfl,hg,hr⟩
 have Gb1:Hid (w.Grows Wb1):=Lib.hid (World.Grows.trans (.of_below belB) hg)
 have Rb1:=Lib.hid hr
 clear hr hg
 go_wp2_with fail
 go_at_call 51
 refine(two8_any 9 (by omega) (nmE baseN) (.mk 10 0 0 0 noN [nmE insuredN,ltE 365 1 3]) _ _ _ (RepE.nil8 _ _ _ _ _ _ (by omega) (by omega) (by omega) (by omega) (by decide)) (Rb1.out)).mono ?_
 rintro e' Wb2 ⟨b2,rfl,hg,hr⟩
 have Gb2:Hid (w.Grows Wb2):=Lib.hid (World.Grows.trans (Gb1.out) hg)
 have Rb2:=Lib.hid hr
 clear hr hg
 go_wp2_with (go_at_call 53;refine(lit8_any _ _ _ _).mono ?_;rintro e' w' ⟨rfl,bs,d,rfl⟩)
 go_at_call 51
 refine(two8_any 9 (by omega) (.mk 9 0 0 0 noN [nmE baseN,.mk 10 0 0 0 noN [nmE insuredN,ltE 365 1 3]]) (ltE 1 50 2) _ _ _ (Rb2.out.grows (.of_below belB)) (RepE.nil8 _ _ _ _ _ _ (by omega) (by omega) (by omega) (by omega) (by decide))).mono ?_
 rintro e' Wb3 ⟨b3,rfl,hg,hr⟩
 have Gb3:Hid (w.Grows Wb3):=Lib.hid (World.Grows.trans (World.Grows.trans Gb2.out (.of_below belB)) hg)
 have Rb3:=Lib.hid hr
 clear hr hg
 go_wp2_with (go_at_call 29;refine(HX.out _ b3 (Rb3.out.grows (.of_below belB)) (HT.out.grows (World.Grows.trans Gb3.out (.of_below belB)))).mono ?_;rintro e' w' ⟨rfl,bs7,d7,rfl⟩)
 go_returns
 exact⟨rfl,World.Grows.trans Gb3.out (.of_below belB)⟩
end Go.Proofs.YtlheailebbngiaaGreatDoor
