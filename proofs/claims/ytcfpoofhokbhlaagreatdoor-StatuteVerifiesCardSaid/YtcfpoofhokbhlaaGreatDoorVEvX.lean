import Derived.Test.YtcfpoofhokbhlaaGreatDoorVEvW
import Derived.Test.YtcfpoofhokbhlaaGreatDoorVYrV
set_option linter.all false
set_option maxHeartbeats 16000000
set_option maxRecDepth 1000000
namespace Go.Proofs.YtcfpoofhokbhlaaGreatDoor
open Tryz List
open Go.RowKit
theorem LX(v:Vw)(env:List (ByteArray × Val))(E:Nat)(e:Ex)(a:Option Addr)(cap:Nat)(w:World)(h1:e.op=1):(Calls prog 66 #[.pointer (some ⟨E,0,none⟩),exV e (.slice a e.args.length cap)] w (EvR (aj v env e) w)):=by
 have HV:Hid (aj v env e=(.num e.dim e.num e.den,0)):=yq xD;rw [HV.out];have HU:=yq (fun m n d w=>kN m n d w);unfold dY Val.num at HU;dsimp only at HU;clear HV;unfold exV
 go_enter func66,ntmps66
 go_wp2_with (go_at_call 93;refine gvq (HU.out _ _ _ _) ?_;intro bs3 d3)
 go_returns
 exact kP rfl (fun _=>rfl) (.of_below af)
theorem I8(v:Vw)(y se:Value)(env:List (ByteArray × Val))(E:Nat)(e:Ex)(a:Option Addr)(cap:Nat)(w:World)(hev:sw w E v y env se)(hr:dV v)(h1:e.op=2)(hn:(jU v env e.name).2=0):(Calls prog 66 #[.pointer (some ⟨E,0,none⟩),exV e (.slice a e.args.length cap)] w (EvR (aj v env e) w)):=by
 have HV:Hid (aj v env e=jU v env e.name):=yq (by rw [dX];unfold eG;rw [if_neg ze,if_pos h1]);rw [HV.out];have HE:=yq hev;have HN:=yq (fun w' (hg:w.Grows w')=>E5 v y se env E e.name w' (HE.out.grows hg) hr);unfold dY at HN;generalize jU v env e.name=q at *;obtain⟨⟨qm,qy,qn,qd⟩,qc⟩:=q;dsimp only at hn HN ⊢;subst hn;clear HV hev hr;unfold exV
 go_enter func66,ntmps66
 go_wp2_with (go_at_call 94;refine gvq (HN.out _ (.of_below af)) ?_;intro bs3 d3)
 go_returns
 exact kP rfl (fun _=>rfl) (.of_below af)
theorem ET(S:Nat->Prop)(v:Vw)(env:List (ByteArray × Val))(E:Nat)(e:Ex)(a:Option Addr)(cap:Nat)(w:World)(h:aB S w e (.slice a e.args.length cap))(hop:e.op=4\/e.op=5\/e.op=6)(hlen:0<e.args.length)
 (hok:(aj v env (e.arg 0)).2=0->Fv (aj v env (e.arg 0)).1) (ih:∀w',w.Grows w'->Dx S E w' (e.arg 0) (aj v env (e.arg 0))):(Calls prog 66 #[.pointer (some ⟨E,0,none⟩),exV e (.slice a e.args.length cap)] w (EvR (aj v env e) w)):=by
 have HV:Hid (aj v env e=if(aj v env (e.arg 0)).2≠0 then(.zero,(aj v env (e.arg 0)).2)else op1 e.op (aj v env (e.arg 0)).1):=yq (by
  rw [dX];unfold eG;rw [bW v env e.args 0 hlen];show(if e.op=1 then _ else _)=_;rw [if_neg ze,if_neg ze,if_neg ze];show(if(aj v env (e.arg 0)).2≠0 then _ else _)=_
  split
  ·rfl
  ·rw [if_neg ze,if_neg ze,if_neg ze,if_pos ze];rfl)
 rw [HV.out];have HR:=yq h;have HU:=yq (fun w' (hg:w.Grows w')=>GR S E e a cap w' _ (HR.out.grows hg) hop hlen hok (ih w' hg));unfold EvR exV at HU;unfold dY at HU;generalize(if(aj v env (e.arg 0)).2≠0 then(Val.zero,(aj v env (e.arg 0)).2)else op1 e.op (aj v env (e.arg 0)).1)=q at *;obtain⟨q,qc⟩:=q;dsimp only at HU;clear HV hok ih h;unfold exV;rcases hop with ho|ho|ho
 all_goals
  rw [ho]at HU ⊢
  go_enter func66,ntmps66
  go_wp2_with (go_at_call 96;refine(HU.out _ (.of_below af)).mono ?_;rintro e' w' ⟨⟨xm,xy,xn,xd⟩,rfl,hx,bs3,d3,rfl⟩)
  go_returns
  exact kP rfl hx (.of_below af)
theorem EW(S:Nat->Prop)(v:Vw)(env:List (ByteArray × Val))(E:Nat)(e:Ex)(a:Option Addr)(cap:Nat)(w:World)(h:aB S w e (.slice a e.args.length cap))(hop:e.op=17\/e.op=18\/e.op=21)(hlen:2<=e.args.length)(hlen3:e.op=21->3<=e.args.length)
 (ih:∀w',w.Grows w'->∀k,k<e.args.length->Dx S E w' (e.arg k) (aj v env (e.arg k))):(Calls prog 66 #[.pointer (some ⟨E,0,none⟩),exV e (.slice a e.args.length cap)] w (EvR (aj v env e) w)):=by
 have HV:Hid (aj v env e=uE e.op (aj v env (e.arg 0)) (aj v env (e.arg 1)) (aj v env (e.arg 2))):=yq (by
  rw [dX];unfold eG uE;rw [bW v env e.args 0 ze,bW v env e.args 1 ze];dsimp only;rw [if_neg ze,if_neg ze,if_neg ze];show(if(aj v env (e.arg 0)).2≠0 then _ else _)=_
  split
  ·rfl
  ·rcases hop with ho|ho|ho
   ·rw [ho];rfl
   ·rw [ho];rfl
   ·rw [ho,bW v env e.args 2 (by have:=hlen3 ho;omega)];rfl)
 rw [HV.out];have HR:=yq h;have HU:=yq (fun w' (hg:w.Grows w')=>Iy S E e a cap w' (aj v env (e.arg 0)) (aj v env (e.arg 1)) (aj v env (e.arg 2)) (HR.out.grows hg) hop hlen hlen3 (ih w' hg 0 ze) (ih w' hg 1 ze) (fun ho=>ih w' hg 2 (by have:=hlen3 ho;omega)));unfold EvR exV at HU;unfold dY at HU;generalize uE e.op (aj v env (e.arg 0)) (aj v env (e.arg 1)) (aj v env (e.arg 2))=q at *;obtain⟨q,qc⟩:=q;dsimp only at HU;clear HV ih h hlen3;unfold exV;rcases hop with ho|ho|ho
 all_goals
  rw [ho]at HU ⊢
  go_enter func66,ntmps66
  go_wp2_with (go_at_call 97;refine(HU.out _ (.of_below af)).mono ?_;rintro e' w' ⟨⟨xm,xy,xn,xd⟩,rfl,hx,bs3,d3,rfl⟩)
  go_returns
  exact kP rfl hx (.of_below af)
theorem fF{P:Program}{c:Code}{Q:Exit->Act->World->Prop}{a:Act}{w:World}(h:∀W,w=W->c.wp P Q a W):c.wp P Q a w:=h w rfl
def De(op:Int)(r0 r1:Val × Int):Val × Int:=if r0.2≠0 then(.zero,r0.2)else if r1.2≠0 then(.zero,r1.2)else op2 op r0.1 r1.1
theorem GL{v:Vw}{env:List (ByteArray × Val)}{e:Ex}(hop:(7<=e.op/\e.op<=16)\/e.op=19\/e.op=20)(hlen:2<=e.args.length):aj v env e=De e.op (aj v env (e.arg 0)) (aj v env (e.arg 1)):=by
 rw [dX];unfold eG De;rw [bW v env e.args 0 ze,bW v env e.args 1 ze];dsimp only;rw [if_neg ze,if_neg ze,if_neg ze];show(if(aj v env (e.arg 0)).2≠0 then _ else _)=_
 split
 ·rfl
 ·rw [if_neg ze,if_neg ze,if_neg ze,if_neg ze];rfl
theorem LY(S:Nat->Prop)(v:Vw)(env:List (ByteArray × Val))(E:Nat)(e:Ex)(a:Option Addr)(cap:Nat)(w:World)(h:aB S w e (.slice a e.args.length cap))(hop:(7<=e.op/\e.op<=16)\/e.op=19\/e.op=20)(hlen:2<=e.args.length)
 (hok0:(aj v env (e.arg 0)).2=0->(aj v env (e.arg 0)).1.ok=true) (hok1:(aj v env (e.arg 1)).2=0->(aj v env (e.arg 1)).1.ok=true)
 (hres:(aj v env (e.arg 0)).2=0->(aj v env (e.arg 1)).2=0->av e.op [(aj v env (e.arg 0)).1.dim,(aj v env (e.arg 1)).1.dim]≠0)
 (ih:∀w',w.Grows w'->∀k,k<e.args.length->Dx S E w' (e.arg k) (aj v env (e.arg k))):(Calls prog 66 #[.pointer (some ⟨E,0,none⟩),exV e (.slice a e.args.length cap)] w (EvR (aj v env e) w)):=by
 rw [GL hop hlen];have ih0:=ih w (.refl _) 0 ze;have ih1:=ih w (.refl _) 1 ze;clear ih;generalize aj v env (e.arg 0)=r0 at *;generalize aj v env (e.arg 1)=r1 at *;obtain⟨b,off,rfl,hbw,hx⟩:=h.arg_cells ze;obtain⟨ak,ck,hxk,hR0⟩:=hx 0 ze;obtain⟨x0,x1,x2,x3,x4,x5⟩:=hxk;obtain⟨ak1,ck1,hxk1,hR1⟩:=hx 1 ze;obtain⟨y0,y1,y2,y3,y4,y5⟩:=hxk1;have HR0:=yq hR0;have HR1:=yq hR1;have HC0:=yq (fun w' hg hr=>ih0 ak ck w' hg hr);have HC1:=yq (fun w' hg hr=>ih1 ak1 ck1 w' hg hr);unfold EvR exV at HC0 HC1;unfold dY at HC0 HC1;have d0:(0:Int)<(e.args.length:Int):=by omega
 have d1:(1:Int)<(e.args.length:Int):=by omega
 simp only [Nat.zero_mul,Nat.add_zero,Nat.one_mul]at x0 x1 x2 x3 x4 x5 y0 y1 y2 y3 y4 y5;obtain⟨x,hxe⟩:∃x,e.arg 0=x:=⟨_,rfl⟩;rw [hxe]at HC0 x0 x1 x2 x3 x4 x5 HR0;obtain⟨y,hye⟩:∃y,e.arg 1=y:=⟨_,rfl⟩;rw [hye]at HC1 y0 y1 y2 y3 y4 y5 HR1;clear hR0 hR1 ih0 ih1 hxe hye hx h;obtain⟨op,hope⟩:∃op,e.op=op:=⟨_,rfl⟩;unfold exV;rw [hope]at hop hres ⊢;clear hope;have p1:(op==1)=false:=by rw [beq_eq_false_iff_ne];omega
 have p2:(op==2)=false:=by rw [beq_eq_false_iff_ne];omega
 have p3:(op==3)=false:=by rw [beq_eq_false_iff_ne];omega
 have p4:(op==4)=false:=by rw [beq_eq_false_iff_ne];omega
 have p5:(op==5)=false:=by rw [beq_eq_false_iff_ne];omega
 have p6:(op==6)=false:=by rw [beq_eq_false_iff_ne];omega
 have p17:(op==17)=false:=by rw [beq_eq_false_iff_ne];omega
 have p18:(op==18)=false:=by rw [beq_eq_false_iff_ne];omega
 have p21:(op==21)=false:=by rw [beq_eq_false_iff_ne];omega
 obtain⟨q,c⟩:=r0;dsimp only at hok0 hres;by_cases hc:c=0
 rotate_left
 ·have hq1:(c !=0)=true:=by simpa using hc
  have HC:=yq hc;have HB:Hid (De op (q,c) r1=(.zero,c)):=yq (by unfold De;rw [if_pos hc]);rw [HB.out];clear hok0 hok1 hres hc HB hop HC1 HR1
  go_enter func66,ntmps66
  go_wp2_with (go_at_call 66;refine(HC0.out _ (.of_below af) (HR0.out.grows (.of_below af))).mono ?_;rintro e' w' ⟨⟨xm,xy,xn,xd⟩,rfl,hx,bs,d,rfl⟩)
  go_returns
  exact kP rfl (fun h=>absurd h HC.out) (.of_below af)
 subst hc;obtain⟨p,c⟩:=r1;dsimp only at hok1 hres;by_cases hc:c=0
 rotate_left
 ·have hq1:(c !=0)=true:=by simpa using hc
  have HC:=yq hc;have HB:Hid (De op (q,0) (p,c)=(.zero,c)):=yq (by unfold De;rw [if_neg zg,if_pos hc]);rw [HB.out];clear hok0 hok1 hres hc HB hop
  go_enter func66,ntmps66
  go_wp2_with (go_at_call 66;first
   |((with_reducible refine(HC0.out _ (.of_below af) (HR0.out.grows (.of_below af))).mono ?_);rintro e' w' ⟨⟨xm,xy,xn,xd⟩,rfl,hx,bs,d,rfl⟩)
   |((with_reducible refine(HC1.out _ (.of_below af) (HR1.out.grows (.of_below af))).mono ?_);rintro e' w' ⟨⟨ym,yy,yn,yd⟩,rfl,hy,bs1,d1,rfl⟩))
  go_returns
  exact kP rfl (fun h=>absurd h HC.out) (.of_below af)
 subst hc;have hq:=hok0 rfl;have hp:=hok1 rfl;have hr:=hres rfl rfl;clear hok0 hok1 hres;have hb:De op (q,0) (p,0)=op2 op q p:=by unfold De;simp
 rw [hb];have rq:=Val.ok_rng hq;have rp:=Val.ok_rng hp;have HT:=yq (fun b w=>rJ b w);have HU:=yq (fun m n d w=>kN m n d w);unfold dY Val.num at HU;unfold dY Val.truth at HT;dsimp only at HU HT;by_cases hcmp:11<=op/\op<=16
 ·obtain⟨h1,h2⟩:=Ov hcmp hq hp hr;rw [h1];have HM:=yq (fun w=>Da op q.n q.d p.n p.d w hcmp.1 hcmp.2 ⟨rq.1,rq.2,rp.1,rp.2⟩);rw [h2]at HM;generalize rZ op (gu q.n q.d p.n p.d).1=tb at *;obtain⟨g1,g2⟩:=hcmp;clear hq hp hr rq rp hb h1 h2 hop HU;obtain⟨qm,qy,qn,qd⟩:=q;obtain⟨pm,py,pn,pd⟩:=p
  go_enter func66,ntmps66
  go_wp2_with (first
   |(go_at_call 66;first
    |((with_reducible refine(HC0.out _ (.of_below af) (HR0.out.grows (.of_below af))).mono ?_);rintro e' w' ⟨x,rfl,hx,bs,d,rfl⟩;obtain rfl:=hx zI)
    |((with_reducible refine(HC1.out _ (.of_below af) (HR1.out.grows (.of_below af))).mono ?_);rintro e' w' ⟨y,rfl,hy,bs1,d1,rfl⟩;obtain rfl:=hy zI))
   |(go_at_call 98;refine gvq (HM.out _) ?_;intro bs2 d2)
   |(go_at_call 99;refine gvq (HT.out _ _) ?_;intro bs3 d3))
  go_returns
  exact kP rfl (fun _=>rfl) (.of_below af)
 ·have ho:op=7\/op=8\/op=9\/op=10\/op=19\/op=20:=by omega
  rw [QV ho hq hp hr];have HM:=yq (fun w=>JI op q.n q.d p.n p.d w ho ⟨rq.1,rq.2,rp.1,rp.2⟩);have HD:=yq (fun w=>vM op q.dim p.dim w);unfold frV at HM;generalize arF op q.n q.d p.n p.d=R at *;generalize CV op q.dim p.dim=DM at *;obtain⟨rn,rd,rc⟩:=R;dsimp only at HM;have hgc:¬(11<=op/\op<=16):=hcmp;clear hq hp hr rq rp hb hop HT;obtain⟨qm,qy,qn,qd⟩:=q;obtain⟨pm,py,pn,pd⟩:=p;dsimp only at HD;have hlt:op<11\/16<op:=by omega
  by_cases hrc:rc=0
  ·subst hrc;have HN:Hid (eT DM (rn,rd,0)=(.num DM rn rd,0)):=yq rfl;rw [HN.out];clear ho hgc hcmp;rcases hlt with hlt|hlt
   focus
    go_enter func66,ntmps66
   rotate_left
   focus
    go_enter func66,ntmps66
   rotate_left
   all_goals
    go_wp2_with (first
     |(go_at_call 66;first
      |((with_reducible refine(HC0.out _ (.of_below af) (HR0.out.grows (.of_below af))).mono ?_);rintro e' w' ⟨x,rfl,hx,bs,d,rfl⟩;obtain rfl:=hx zI)
      |((with_reducible refine(HC1.out _ (.of_below af) (HR1.out.grows (.of_below af))).mono ?_);rintro e' w' ⟨y,rfl,hy,bs1,d1,rfl⟩;obtain rfl:=hy zI))
     |(go_at_call 100;refine gvq (HM.out _) ?_;intro bs2 d2))
    refine fF (fun W hW=>?_);have b0:W.cell? ⟨w.heap.size,0,none⟩=some (.int .i64 op):=by rw [<-hW];simp [go_sem]
    have b8:W.cell? ⟨w.heap.size+1+1+bs.size,0,none⟩=some (.int .i64 qm):=by rw [<-hW];simp [go_sem]
    have b10:W.cell? ⟨w.heap.size+1+1+bs.size+1+bs1.size,0,none⟩=some (.int .i64 pm):=by rw [<-hW];simp [go_sem]
    have b13:W.cell? ⟨w.heap.size+1+1+bs.size+1+bs1.size+1+bs2.size,0,none⟩=some (.int .i64 rn):=by rw [<-hW];simp [go_sem]
    have b14:W.cell? ⟨w.heap.size+1+1+bs.size+1+bs1.size+1+bs2.size,1,none⟩=some (.int .i64 rd):=by rw [<-hW];simp [go_sem]
    have hsz:W.heap.size=w.heap.size+1+1+bs.size+1+bs1.size+1+bs2.size+1:=by rw [<-hW];simp
    have z0:w.heap.size<W.heap.size:=by omega
    have z8:w.heap.size+1+1+bs.size<W.heap.size:=by omega
    have z10:w.heap.size+1+1+bs.size+1+bs1.size<W.heap.size:=by omega
    have z13:w.heap.size+1+1+bs.size+1+bs1.size+1+bs2.size<W.heap.size:=by omega
    have r0:W.cell? ⟨w.heap.size+1,0,none⟩=some (.int .i64 0):=by rw [<-hW];simp [go_sem]
    have r1:W.cell? ⟨w.heap.size+1,1,none⟩=some (.bool false):=by rw [<-hW];simp [go_sem]
    have r2:W.cell? ⟨w.heap.size+1,2,none⟩=some (.int .i64 0):=by rw [<-hW];simp [go_sem]
    have r3:W.cell? ⟨w.heap.size+1,3,none⟩=some (.int .i64 0):=by rw [<-hW];simp [go_sem]
    have rf:∀j,W.frozen? ⟨w.heap.size+1,j,none⟩=false:=by intro j;rw [<-hW];simp [go_sem]
    have z1:w.heap.size+1<W.heap.size:=by omega
    have HW:=yq hW;clear hW hsz;generalize w.heap.size+1+1+bs.size+1+bs1.size+1+bs2.size=B13 at *;generalize w.heap.size+1+1+bs.size+1+bs1.size=B10 at *;generalize w.heap.size+1+1+bs.size=B8 at *;refine TS.begin [9,10] (World.Grows _) zf zf aL (fun hS=>?_);refine kq 0 hS ?_;refine kq 1 hS ?_;refine kq 2 hS ?_;refine kq 3 hS ?_;refine kq 4 hS ?_;refine kq 5 hS ?_;refine kq 7 hS ?_;refine TS.one (i:=6) zf rfl (fun K1 hK1=>?_)
    go_simp
    go_at_call 101
    refine gvq (HD.out _) ?_;intro bA dA;refine TS.go hK1 zA (fun hS=>?_);clear hK1 K1
    (try simp only [nS])
    refine TS.one (i:=8) zf rfl (fun K1 hK1=>?_)
    go_simp
    go_at_call 93
    refine gvq (HU.out _ _ _ _) ?_;intro bA dA;refine TS.go hK1 zA (fun hS=>?_);clear hK1 K1
    (try simp only [nS])
    refine TS.wtB 9 ?_;refine TS.weB 10 ?_;clear hS;have hW:=HW.out;subst hW;clear b0 b8 b10 b13 b14 z0 z8 z10 z13 r0 r1 r2 r3 rf z1 HW
    go_wp2_with fail
    go_returns
    exact kP rfl (fun _=>rfl) (.of_below af)
  ·have hq1:(rc !=0)=true:=by simpa using hrc
   have HC:=yq hrc;have HN:Hid (eT DM (rn,rd,rc)=(.zero,rc)):=yq (by unfold eT;rw [if_neg hrc]);rw [HN.out];clear hrc HD HU ho hgc hcmp HN;rcases hlt with hlt|hlt
   all_goals
    go_enter func66,ntmps66
    go_wp2_with (first
     |(go_at_call 66;first
      |((with_reducible refine(HC0.out _ (.of_below af) (HR0.out.grows (.of_below af))).mono ?_);rintro e' w' ⟨x,rfl,hx,bs,d,rfl⟩;obtain rfl:=hx zI)
      |((with_reducible refine(HC1.out _ (.of_below af) (HR1.out.grows (.of_below af))).mono ?_);rintro e' w' ⟨y,rfl,hy,bs1,d1,rfl⟩;obtain rfl:=hy zI))
     |(go_at_call 100;refine gvq (HM.out _) ?_;intro bs2 d2))
    go_returns
    exact kP rfl (fun h=>absurd h HC.out) (.of_below af)
theorem Ja(v:Vw)(y se:Value)(env:List (ByteArray × Val))(E:Nat)(e:Ex)(a:Option Addr)(cap:Nat)(w:World)(hev:sw w E v y env se)(h1:e.op=3) :
 Calls prog 66 #[.pointer (some ⟨E,0,none⟩),exV e (.slice a e.args.length cap)] w (EvR (aj v env e) w):=by
 have HV:Hid (aj v env e=eT 4 (gQ v.years e.num)):=yq xe;rw [HV.out];have hE:=hev.lt;have hblk:=hev.blk;have HY:=yq hev.yr;have HB:=yq (fun w' (hg:w.Grows w')=>J6 v.years e.num y w' (HY.out.grows hg));have HU:=yq (fun m n d w=>kN m n d w);unfold dY Val.num at HU;unfold evC at hblk;dsimp only at HU;have e12:w.cell? ⟨E,12,none⟩=some y:=cell_of_row _ _ _ _ _ _ hblk;obtain⟨ya,yc,rfl⟩:∃a c,y= .slice a v.years.length c:=by obtain⟨-,a,c,h,-⟩:=hev.yr;exact⟨a,c,h⟩
 unfold frV at HB;generalize gQ v.years e.num=R at *;obtain⟨rn,rd,rc⟩:=R;dsimp only at HB;have HR2:Hid (rc=(eT 4 (rn,rd,rc)).2):=yq yS;have HR1:Hid (rc=0->(⟨4,false,rn,rd⟩:Val)=(eT 4 (rn,rd,rc)).1):=yq yQ;clear hblk hev HV;unfold exV;rw [h1]
 go_enter func66,ntmps66
 go_wp2_with fail
 refine fF (fun W hW=>?_);have hbw:Below w.heap.size w W:=by rw [<-hW];(exact af)
 have hsz:W.heap.size=w.heap.size+2:=by rw [<-hW];simp
 have hEW:E<W.heap.size:=by omega
 have hcE:W.cell? ⟨E,12,none⟩=w.cell? ⟨E,12,none⟩:=hbw.cell (p:=⟨E,12,none⟩) hE;rw [<-hcE]at e12;have b1:W.cell? ⟨w.heap.size,1,none⟩=some (.int .i64 e.num):=by rw [<-hW];simp [go_sem]
 have hz0:w.heap.size<W.heap.size:=by omega
 have HW:=yq hW;clear hW hcE;refine TS.begin [14] (World.Grows _) zf zf aL (fun hS=>?_);refine kq 0 hS ?_;refine kq 1 hS ?_;refine kq 2 hS ?_;refine kq 3 hS ?_;refine kq 4 hS ?_;refine kq 5 hS ?_;refine kq 6 hS ?_;refine kq 7 hS ?_;refine TS.two (i:=8) (k:=12) zf rfl rfl (fun K1 hK1=>?_) (fun K1 hK1=>?_)
 focus
  go_simp
  go_at_call 95
  refine gvq (HB.out _ (.of_below af)) ?_;intro bA dA;refine TS.go hK1 zQ (fun hS=>?_);clear hK1 K1
  (try simp only [nS])
  refine kq 9 hS ?_;refine kq 10 hS ?_;refine kq 11 hS ?_;refine TS.one (i:=12) zf rfl (fun K1 hK1=>?_)
  go_simp
  refine TS.go hK1 (.of_below af) (fun hS=>?_);clear hK1 K1
  (try simp only [nS])
 rotate_left
 focus
  go_simp
  refine TS.go hK1 (.of_below af) (fun hS=>?_);clear hK1 K1
  (try simp only [nS])
  refine TS.one (i:=8) zf rfl (fun K1 hK1=>?_)
  go_simp
  go_at_call 95
  refine gvq (HB.out _ (.of_below af)) ?_;intro bA dA;refine TS.go hK1 zQ (fun hS=>?_);clear hK1 K1
  (try simp only [nS])
  refine kq 9 hS ?_;refine kq 10 hS ?_;refine kq 11 hS ?_
 rotate_left
 all_goals
  refine TS.one (i:=13) zf rfl (fun K1 hK1=>?_)
  go_simp
  refine TS.go hK1 (.of_below af) (fun hS=>?_);clear hK1 K1
  (try simp only [nS])
  refine TS.weB 14 ?_;clear hS;have hW:=HW.out;subst hW;clear hbw hsz hEW e12 b1 hz0 HW
  go_wp2_with (go_at_call 93;refine gvq (HU.out _ _ _ _) ?_;intro bs3 d3)
  go_returns
  exact kP HR2.out HR1.out (.of_below af)
theorem rM(S:Nat->Prop)(v:Vw)(y se:Value)(env:List (ByteArray × Val))(E:Nat)(hv:v.ok=true)(hE:∀p∈env,p.2.ok=true)(hr:dV v)(n:Nat):∀(e:Ex),e.size<=n->aN e=true->(aD (aS env) e).2=0->
 ∀(a:Option Addr) (cap:Nat) (w:World),aB S w e (.slice a e.args.length cap)->sw w E v y env se->
 Calls prog 66 #[.pointer (some ⟨E,0,none⟩),exV e (.slice a e.args.length cap)] w (EvR (aj v env e) w):=by
 induction n with
 |zero=>intro e he;have:=e.size_pos;omega
 |succ n ih=>
  intro e he hf hi a cap w hrep hev;by_cases h1:e.op=1
  ·exact LX v env E e a cap w h1
  by_cases h2:e.op=2
  ·refine I8 v y se env E e a cap w hev hr h2 (uq hv hE ?_);rw [iI]at hi;unfold fw at hi;rw [if_neg h1,if_neg ze,if_pos h2]at hi;exact hi
  by_cases h3:e.op=3
  ·exact Ja v y se env E e a cap w hev h3
  obtain⟨ds,hdl,hds,ho4,ho21,hres,hargs⟩:=Bh hv hE hf hi h1 h2 h3
  have IH:∀w',w.Grows w'->∀k,k<e.args.length->Dx S E w' (e.arg k) (aj v env (e.arg k)):=fun w' hg k hk ak ck w2 hg2 hr2=>by
   have hsm:=e.size_arg k hk;obtain⟨q1,q2,-⟩:=hargs k hk;exact ih (e.arg k) ze q1 q2 ak ck w2 hr2 (hev.grows (World.Grows.trans hg hg2))
  have hok:∀k,k<e.args.length->(aj v env (e.arg k)).2=0->(aj v env (e.arg k)).1.ok=true/\(aj v env (e.arg k)).1.dim=ds.getD k 0:=fun k hk h0=>((hargs k hk).2.2).good h0;by_cases h6:e.op<=6
  ·have hlen:0<e.args.length:=by unfold aU at hds;(repeat' split at hds)<;>omega
   exact ET S v env E e a cap w hrep ze hlen (fun h0=>Val.ok_rng (hok 0 hlen h0).1) (fun w' hg=>IH w' hg 0 hlen)
  have hlen:2<=e.args.length:=by unfold aU at hds;(repeat' split at hds)<;>omega
  by_cases hl:e.op=17\/e.op=18\/e.op=21
  ·exact EW S v env E e a cap w hrep hl hlen (fun ho=>by unfold aU at hds;(repeat' split at hds)<;>omega) IH
  ·have hlen2:ds.length=2:=by unfold aU at hds;(repeat' split at hds)<;>omega
   obtain⟨p,q,rfl⟩:∃p q,ds= [p,q]:=by
    match ds,hlen2 with
    | [p,q],_=>exact⟨p,q,rfl⟩
   refine LY S v env E e a cap w hrep ze hlen (fun h0=>(hok 0 ze h0).1) (fun h0=>(hok 1 ze h0).1) (fun g0 g1=>?_) IH;rw [(hok 0 ze g0).2,(hok 1 ze g1).2];exact hres
end Go.Proofs.YtcfpoofhokbhlaaGreatDoor
