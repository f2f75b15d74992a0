import Derived.Test.YtlheailebbngiaaGreatDoorGEvW
import Derived.Test.YtlheailebbngiaaGreatDoorGTypV
set_option linter.all false
set_option maxHeartbeats 16000000
set_option maxRecDepth 1000000
namespace Go.Proofs.YtlheailebbngiaaGreatDoor
open Go.Proofs.Tryz List
open Go.RowKit
theorem Kj(v:Vw)(env:List (ByteArray × Val))(E:Nat)(e:Ex)(a:Option Addr)(cap:Nat)(w:World)(h1:e.op=1):(Calls prog 68 #[.pointer (some ⟨E,0,none⟩),exV e (.slice a e.args.length cap)] w (EvR (ai v env e) w)):=by
 have HV:Hid (ai v env e=(.num e.dim e.num e.den,0)):=zh (by rw [dQ];unfold eD;rw [if_pos h1]);rw [HV.out];have HU:=zh (fun m n d w=>kJ m n d w);unfold dM Val.num at HU;dsimp only at HU;clear HV;unfold exV
 go_enter func68,ntmps68
 go_wp2_with (go_at_call 48;refine(HU.out _ _ _ _).mono ?_;rintro e' w' ⟨rfl,bs3,d3,rfl⟩)
 go_returns
 exact kK rfl (fun _=>rfl) (.of_below af)
theorem GK(v:Vw)(y se:Value)(env:List (ByteArray × Val))(E:Nat)(e:Ex)(a:Option Addr)(cap:Nat)(w:World)(hev:rU w E v y env se)(hr:dW v)(h1:e.op=2)(hn:(jS v env e.name).2=0):(Calls prog 68 #[.pointer (some ⟨E,0,none⟩),exV e (.slice a e.args.length cap)] w (EvR (ai v env e) w)):=by
 have HV:Hid (ai v env e=jS v env e.name):=zh (by rw [dQ];unfold eD;rw [if_neg ze,if_pos h1]);rw [HV.out];have HE:=zh hev;have HN:=zh (fun w' (hg:w.Grows w')=>DX v y se env E e.name w' (HE.out.grows hg) hr);unfold dM at HN;generalize jS v env e.name=q at *;obtain⟨⟨qm,qy,qn,qd⟩,qc⟩:=q;dsimp only at hn HN ⊢;subst hn;clear HV hev hr;unfold exV
 go_enter func68,ntmps68
 go_wp2_with (go_at_call 112;refine(HN.out _ (.of_below af)).mono ?_;rintro e' w' ⟨rfl,bs3,d3,rfl⟩)
 go_returns
 exact kK rfl (fun _=>rfl) (.of_below af)
theorem DL(S:Nat->Prop)(v:Vw)(env:List (ByteArray × Val))(E:Nat)(e:Ex)(a:Option Addr)(cap:Nat)(w:World)(h:aC S w e (.slice a e.args.length cap))(hop:e.op=4\/e.op=5\/e.op=6)(hlen:0<e.args.length)
 (hok:(ai v env (e.arg 0)).2=0->vC (ai v env (e.arg 0)).1) (ih:∀w',w.Grows w'->Ck S E w' (e.arg 0) (ai v env (e.arg 0))):(Calls prog 68 #[.pointer (some ⟨E,0,none⟩),exV e (.slice a e.args.length cap)] w (EvR (ai v env e) w)):=by
 have HV:Hid (ai v env e=if(ai v env (e.arg 0)).2≠0 then(.zero,(ai v env (e.arg 0)).2)else op1 e.op (ai v env (e.arg 0)).1):=zh (by
  rw [dQ];unfold eD;rw [bZ v env e.args 0 hlen];show(if e.op=1 then _ else _)=_;rw [if_neg ze,if_neg ze,if_neg ze];show(if(ai v env (e.arg 0)).2≠0 then _ else _)=_
  split
  ·rfl
  ·rw [if_neg ze,if_neg ze,if_neg ze,if_pos ze];rfl)
 rw [HV.out];have HR:=zh h;have HU:=zh (fun w' (hg:w.Grows w')=>Fu S E e a cap w' _ (HR.out.grows hg) hop hlen hok (ih w' hg));unfold EvR exV at HU;unfold dM at HU;generalize(if(ai v env (e.arg 0)).2≠0 then(Val.zero,(ai v env (e.arg 0)).2)else op1 e.op (ai v env (e.arg 0)).1)=q at *;obtain⟨q,qc⟩:=q;dsimp only at HU;clear HV hok ih h;unfold exV;rcases hop with ho|ho|ho
 all_goals
  rw [ho]at HU ⊢
  go_enter func68,ntmps68
  go_wp2_with (go_at_call 113;refine(HU.out _ (.of_below af)).mono ?_;rintro e' w' ⟨⟨xm,xy,xn,xd⟩,rfl,hx,bs3,d3,rfl⟩)
  go_returns
  exact kK rfl hx (.of_below af)
theorem DR(S:Nat->Prop)(v:Vw)(env:List (ByteArray × Val))(E:Nat)(e:Ex)(a:Option Addr)(cap:Nat)(w:World)(h:aC S w e (.slice a e.args.length cap))(hop:e.op=17\/e.op=18\/e.op=21)(hlen:2<=e.args.length)(hlen3:e.op=21->3<=e.args.length)
 (ih:∀w',w.Grows w'->∀k,k<e.args.length->Ck S E w' (e.arg k) (ai v env (e.arg k))):(Calls prog 68 #[.pointer (some ⟨E,0,none⟩),exV e (.slice a e.args.length cap)] w (EvR (ai v env e) w)):=by
 have HV:Hid (ai v env e=ug e.op (ai v env (e.arg 0)) (ai v env (e.arg 1)) (ai v env (e.arg 2))):=zh (by
  rw [dQ];unfold eD ug;rw [bZ v env e.args 0 ze,bZ v env e.args 1 ze];dsimp only;rw [if_neg ze,if_neg ze,if_neg ze];show(if(ai v env (e.arg 0)).2≠0 then _ else _)=_
  split
  ·rfl
  ·rcases hop with ho|ho|ho
   ·rw [ho];rfl
   ·rw [ho];rfl
   ·rw [ho,bZ v env e.args 2 (by have:=hlen3 ho;omega)];rfl)
 rw [HV.out];have HR:=zh h;have HU:=zh (fun w' (hg:w.Grows w')=>Gb S E e a cap w' (ai v env (e.arg 0)) (ai v env (e.arg 1)) (ai v env (e.arg 2)) (HR.out.grows hg) hop hlen hlen3 (ih w' hg 0 ze) (ih w' hg 1 ze) (fun ho=>ih w' hg 2 (by have:=hlen3 ho;omega)));unfold EvR exV at HU;unfold dM at HU;generalize ug e.op (ai v env (e.arg 0)) (ai v env (e.arg 1)) (ai v env (e.arg 2))=q at *;obtain⟨q,qc⟩:=q;dsimp only at HU;clear HV ih h hlen3;unfold exV;rcases hop with ho|ho|ho
 all_goals
  rw [ho]at HU ⊢
  go_enter func68,ntmps68
  go_wp2_with (go_at_call 114;refine(HU.out _ (.of_below af)).mono ?_;rintro e' w' ⟨⟨xm,xy,xn,xd⟩,rfl,hx,bs3,d3,rfl⟩)
  go_returns
  exact kK rfl hx (.of_below af)
theorem gy{P:Program}{c:Code}{Q:Exit->Act->World->Prop}{a:Act}{w:World}(h:∀W,w=W->c.wp P Q a W):c.wp P Q a w:=h w rfl
def BR(op:Int)(r0 r1:Val × Int):Val × Int:=if r0.2≠0 then(.zero,r0.2)else if r1.2≠0 then(.zero,r1.2)else op2 op r0.1 r1.1
theorem Fp{v:Vw}{env:List (ByteArray × Val)}{e:Ex}(hop:(7<=e.op/\e.op<=16)\/e.op=19\/e.op=20)(hlen:2<=e.args.length):ai v env e=BR e.op (ai v env (e.arg 0)) (ai v env (e.arg 1)):=by
 rw [dQ];unfold eD BR;rw [bZ v env e.args 0 ze,bZ v env e.args 1 ze];dsimp only;rw [if_neg ze,if_neg ze,if_neg ze];show(if(ai v env (e.arg 0)).2≠0 then _ else _)=_
 split
 ·rfl
 ·rw [if_neg ze,if_neg ze,if_neg ze,if_neg ze];rfl
theorem Kk(S:Nat->Prop)(v:Vw)(env:List (ByteArray × Val))(E:Nat)(e:Ex)(a:Option Addr)(cap:Nat)(w:World)(h:aC S w e (.slice a e.args.length cap))(hop:(7<=e.op/\e.op<=16)\/e.op=19\/e.op=20)(hlen:2<=e.args.length)
 (hok0:(ai v env (e.arg 0)).2=0->(ai v env (e.arg 0)).1.ok=true) (hok1:(ai v env (e.arg 1)).2=0->(ai v env (e.arg 1)).1.ok=true)
 (hres:(ai v env (e.arg 0)).2=0->(ai v env (e.arg 1)).2=0->ax e.op [(ai v env (e.arg 0)).1.dim,(ai v env (e.arg 1)).1.dim]≠0)
 (ih:∀w',w.Grows w'->∀k,k<e.args.length->Ck S E w' (e.arg k) (ai v env (e.arg k))):(Calls prog 68 #[.pointer (some ⟨E,0,none⟩),exV e (.slice a e.args.length cap)] w (EvR (ai v env e) w)):=by
 rw [Fp hop hlen];have ih0:=ih w (.refl _) 0 ze;have ih1:=ih w (.refl _) 1 ze;clear ih;generalize ai v env (e.arg 0)=r0 at *;generalize ai v env (e.arg 1)=r1 at *;obtain⟨b,off,rfl,hbw,hx⟩:=h.arg_cells ze;obtain⟨ak,ck,hxk,hR0⟩:=hx 0 ze;obtain⟨x0,x1,x2,x3,x4,x5⟩:=hxk;obtain⟨ak1,ck1,hxk1,hR1⟩:=hx 1 ze;obtain⟨y0,y1,y2,y3,y4,y5⟩:=hxk1;have HR0:=zh hR0;have HR1:=zh hR1;have HC0:=zh (fun w' hg hr=>ih0 ak ck w' hg hr);have HC1:=zh (fun w' hg hr=>ih1 ak1 ck1 w' hg hr);unfold EvR exV at HC0 HC1;unfold dM at HC0 HC1;have d0:(0:Int)<(e.args.length:Int):=by omega
 have d1:(1:Int)<(e.args.length:Int):=by omega
 simp only [Nat.zero_mul,Nat.add_zero,Nat.one_mul]at x0 x1 x2 x3 x4 x5 y0 y1 y2 y3 y4 y5;obtain⟨x,hxe⟩:∃x,e.arg 0=x:=⟨_,rfl⟩;rw [hxe]at HC0 x0 x1 x2 x3 x4 x5 HR0;obtain⟨y,hye⟩:∃y,e.arg 1=y:=⟨_,rfl⟩;rw [hye]at HC1 y0 y1 y2 y3 y4 y5 HR1;clear hR0 hR1 ih0 ih1 hxe hye hx h;obtain⟨op,hope⟩:∃op,e.op=op:=⟨_,rfl⟩;unfold exV;rw [hope]at hop hres ⊢;clear hope;have p1:(op==1)=false:=by rw [beq_eq_false_iff_ne];omega
 have p2:(op==2)=false:=by rw [beq_eq_false_iff_ne];omega
 have p3:(op==3)=false:=by rw [beq_eq_false_iff_ne];omega
 have p4:(op==4)=false:=by rw [beq_eq_false_iff_ne];omega
 have p5:(op==5)=false:=by rw [beq_eq_false_iff_ne];omega
 have p6:(op==6)=false:=by rw [beq_eq_false_iff_ne];omega
 have p17:(op==17)=false:=by rw [beq_eq_false_iff_ne];omega
 have p18:(op==18)=false:=by rw [beq_eq_false_iff_ne];omega
 have p21:(op==21)=false:=by rw [beq_eq_false_iff_ne];omega
 obtain⟨q,c⟩:=r0;dsimp only at hok0 hres;by_cases hc:c=0
 rotate_left
 ·have hq1:(c !=0)=true:=by simpa using hc
  have HC:=zh hc;have HB:Hid (BR op (q,c) r1=(.zero,c)):=zh (by unfold BR;rw [if_pos hc]);rw [HB.out];clear hok0 hok1 hres hc HB hop HC1 HR1
  go_enter func68,ntmps68
  go_wp2_with (go_at_call 68;refine(HC0.out _ (.of_below af) (HR0.out.grows (.of_below af))).mono ?_;rintro e' w' ⟨⟨xm,xy,xn,xd⟩,rfl,hx,bs,d,rfl⟩)
  go_returns
  exact kK rfl (fun h=>absurd h HC.out) (.of_below af)
 subst hc;obtain⟨p,c⟩:=r1;dsimp only at hok1 hres;by_cases hc:c=0
 rotate_left
 ·have hq1:(c !=0)=true:=by simpa using hc
  have HC:=zh hc;have HB:Hid (BR op (q,0) (p,c)=(.zero,c)):=zh (by unfold BR;rw [if_neg zg,if_pos hc]);rw [HB.out];clear hok0 hok1 hres hc HB hop
  go_enter func68,ntmps68
  go_wp2_with (go_at_call 68;first
   |((with_reducible refine(HC0.out _ (.of_below af) (HR0.out.grows (.of_below af))).mono ?_);rintro e' w' ⟨⟨xm,xy,xn,xd⟩,rfl,hx,bs,d,rfl⟩)
   |((with_reducible refine(HC1.out _ (.of_below af) (HR1.out.grows (.of_below af))).mono ?_);rintro e' w' ⟨⟨ym,yy,yn,yd⟩,rfl,hy,bs1,d1,rfl⟩))
  go_returns
  exact kK rfl (fun h=>absurd h HC.out) (.of_below af)
 subst hc;have hq:=hok0 rfl;have hp:=hok1 rfl;have hr:=hres rfl rfl;clear hok0 hok1 hres;have hb:BR op (q,0) (p,0)=op2 op q p:=by unfold BR;simp
 rw [hb];have rq:=Val.ok_rng hq;have rp:=Val.ok_rng hp;have HT:=zh (fun b w=>rA b w);have HU:=zh (fun m n d w=>kJ m n d w);unfold dM Val.num at HU;unfold dM Val.truth at HT;dsimp only at HU HT;by_cases hcmp:11<=op/\op<=16
 ·obtain⟨h1,h2⟩:=MU hcmp hq hp hr;rw [h1];have HM:=zh (fun w=>BO op q.n q.d p.n p.d w hcmp.1 hcmp.2 ⟨rq.1,rq.2,rp.1,rp.2⟩);rw [h2]at HM;generalize rP op (gm q.n q.d p.n p.d).1=tb at *;obtain⟨g1,g2⟩:=hcmp;clear hq hp hr rq rp hb h1 h2 hop HU;obtain⟨qm,qy,qn,qd⟩:=q;obtain⟨pm,py,pn,pd⟩:=p
  go_enter func68,ntmps68
  go_wp2_with (first
   |(go_at_call 68;first
    |((with_reducible refine(HC0.out _ (.of_below af) (HR0.out.grows (.of_below af))).mono ?_);rintro e' w' ⟨x,rfl,hx,bs,d,rfl⟩;obtain rfl:=hx zG)
    |((with_reducible refine(HC1.out _ (.of_below af) (HR1.out.grows (.of_below af))).mono ?_);rintro e' w' ⟨y,rfl,hy,bs1,d1,rfl⟩;obtain rfl:=hy zG))
   |(go_at_call 115;refine(HM.out _).mono ?_;rintro e' w' ⟨rfl,bs2,d2,rfl⟩)
   |(go_at_call 116;refine(HT.out _ _).mono ?_;rintro e' w' ⟨rfl,bs3,d3,rfl⟩))
  go_returns
  exact kK rfl (fun _=>rfl) (.of_below af)
 ·have ho:op=7\/op=8\/op=9\/op=10\/op=19\/op=20:=by omega
  rw [Ph ho hq hp hr];have HM:=zh (fun w=>Ih op q.n q.d p.n p.d w ho ⟨rq.1,rq.2,rp.1,rp.2⟩);have HD:=zh (fun w=>vg op q.dim p.dim w);unfold frV at HM;generalize arF op q.n q.d p.n p.d=R at *;generalize BH op q.dim p.dim=DM at *;obtain⟨rn,rd,rc⟩:=R;dsimp only at HM;have hgc:¬(11<=op/\op<=16):=hcmp;clear hq hp hr rq rp hb hop HT;obtain⟨qm,qy,qn,qd⟩:=q;obtain⟨pm,py,pn,pd⟩:=p;dsimp only at HD;have hlt:op<11\/16<op:=by omega
  by_cases hrc:rc=0
  ·subst hrc;have HN:Hid (eO DM (rn,rd,0)=(.num DM rn rd,0)):=zh rfl;rw [HN.out];clear ho hgc hcmp;rcases hlt with hlt|hlt
   focus
    go_enter func68,ntmps68
   rotate_left
   focus
    go_enter func68,ntmps68
   rotate_left
   all_goals
    go_wp2_with (first
     |(go_at_call 68;first
      |((with_reducible refine(HC0.out _ (.of_below af) (HR0.out.grows (.of_below af))).mono ?_);rintro e' w' ⟨x,rfl,hx,bs,d,rfl⟩;obtain rfl:=hx zG)
      |((with_reducible refine(HC1.out _ (.of_below af) (HR1.out.grows (.of_below af))).mono ?_);rintro e' w' ⟨y,rfl,hy,bs1,d1,rfl⟩;obtain rfl:=hy zG))
     |(go_at_call 117;refine(HM.out _).mono ?_;rintro e' w' ⟨rfl,bs2,d2,rfl⟩))
    refine gy (fun W hW=>?_);have b0:W.cell? ⟨w.heap.size,0,none⟩=some (.int .i64 op):=by rw [<-hW];simp [go_sem]
    have b8:W.cell? ⟨w.heap.size+1+1+bs.size,0,none⟩=some (.int .i64 qm):=by rw [<-hW];simp [go_sem]
    have b10:W.cell? ⟨w.heap.size+1+1+bs.size+1+bs1.size,0,none⟩=some (.int .i64 pm):=by rw [<-hW];simp [go_sem]
    have b13:W.cell? ⟨w.heap.size+1+1+bs.size+1+bs1.size+1+bs2.size,0,none⟩=some (.int .i64 rn):=by rw [<-hW];simp [go_sem]
    have b14:W.cell? ⟨w.heap.size+1+1+bs.size+1+bs1.size+1+bs2.size,1,none⟩=some (.int .i64 rd):=by rw [<-hW];simp [go_sem]
    have hsz:W.heap.size=w.heap.size+1+1+bs.size+1+bs1.size+1+bs2.size+1:=by rw [<-hW];simp
    have z0:w.heap.size<W.heap.size:=by omega
    have z8:w.heap.size+1+1+bs.size<W.heap.size:=by omega
    have z10:w.heap.size+1+1+bs.size+1+bs1.size<W.heap.size:=by omega
    have z13:w.heap.size+1+1+bs.size+1+bs1.size+1+bs2.size<W.heap.size:=by omega
    have r0:W.cell? ⟨w.heap.size+1,0,none⟩=some (.int .i64 0):=by rw [<-hW];simp [go_sem]
    have r1:W.cell? ⟨w.heap.size+1,1,none⟩=some (.bool false):=by rw [<-hW];simp [go_sem]
    have r2:W.cell? ⟨w.heap.size+1,2,none⟩=some (.int .i64 0):=by rw [<-hW];simp [go_sem]
    have r3:W.cell? ⟨w.heap.size+1,3,none⟩=some (.int .i64 0):=by rw [<-hW];simp [go_sem]
    have rf:∀j,W.frozen? ⟨w.heap.size+1,j,none⟩=false:=by intro j;rw [<-hW];simp [go_sem]
    have z1:w.heap.size+1<W.heap.size:=by omega
    have HW:=zh hW;clear hW hsz;generalize w.heap.size+1+1+bs.size+1+bs1.size+1+bs2.size=B13 at *;generalize w.heap.size+1+1+bs.size+1+bs1.size=B10 at *;generalize w.heap.size+1+1+bs.size=B8 at *;refine TS.begin [9,10] (World.Grows _) zf zf aO (fun hS=>?_);refine TS.wkB 0 hS ?_;refine TS.wkB 1 hS ?_;refine TS.wkB 2 hS ?_;refine TS.wkB 3 hS ?_;refine TS.wkB 4 hS ?_;refine TS.wkB 5 hS ?_;refine TS.wkB 7 hS ?_;refine TS.one (i:=6) zf rfl (fun K1 hK1=>?_)
    go_simp
    go_at_call 118
    refine(HD.out _).mono ?_;rintro e' wA ⟨rfl,bA,dA,rfl⟩;refine TS.go hK1 zA (fun hS=>?_);clear hK1 K1
    (try simp only [nS])
    refine TS.one (i:=8) zf rfl (fun K1 hK1=>?_)
    go_simp
    go_at_call 48
    refine(HU.out _ _ _ _).mono ?_;rintro e' wA ⟨rfl,bA,dA,rfl⟩;refine TS.go hK1 zA (fun hS=>?_);clear hK1 K1
    (try simp only [nS])
    refine TS.wtB 9 ?_;refine TS.weB 10 ?_;clear hS;have hW:=HW.out;subst hW;clear b0 b8 b10 b13 b14 z0 z8 z10 z13 r0 r1 r2 r3 rf z1 HW
    go_wp2_with fail
    go_returns
    exact kK rfl (fun _=>rfl) (.of_below af)
  ·have hq1:(rc !=0)=true:=by simpa using hrc
   have HC:=zh hrc;have HN:Hid (eO DM (rn,rd,rc)=(.zero,rc)):=zh (by unfold eO;rw [if_neg hrc]);rw [HN.out];clear hrc HD HU ho hgc hcmp HN;rcases hlt with hlt|hlt
   all_goals
    go_enter func68,ntmps68
    go_wp2_with (first
     |(go_at_call 68;first
      |((with_reducible refine(HC0.out _ (.of_below af) (HR0.out.grows (.of_below af))).mono ?_);rintro e' w' ⟨x,rfl,hx,bs,d,rfl⟩;obtain rfl:=hx zG)
      |((with_reducible refine(HC1.out _ (.of_below af) (HR1.out.grows (.of_below af))).mono ?_);rintro e' w' ⟨y,rfl,hy,bs1,d1,rfl⟩;obtain rfl:=hy zG))
     |(go_at_call 117;refine(HM.out _).mono ?_;rintro e' w' ⟨rfl,bs2,d2,rfl⟩))
    go_returns
    exact kK rfl (fun h=>absurd h HC.out) (.of_below af)
theorem GL(v:Vw)(y se:Value)(env:List (ByteArray × Val))(E:Nat)(e:Ex)(a:Option Addr)(cap:Nat)(w:World)(hev:rU w E v y env se)(h1:e.op=3) :
 Calls prog 68 #[.pointer (some ⟨E,0,none⟩),exV e (.slice a e.args.length cap)] w (EvR (ai v env e) w):=by
 have HV:Hid (ai v env e=eO 4 (gP v.years e.num)):=zh yH;rw [HV.out];have hE:=hev.lt;have hblk:=hev.blk;have HY:=zh hev.yr;have HB:=zh (fun w' (hg:w.Grows w')=>IK v.years e.num y w' (HY.out.grows hg));have HU:=zh (fun m n d w=>kJ m n d w);unfold dM Val.num at HU;unfold evC at hblk;dsimp only at HU;have e12:w.cell? ⟨E,12,none⟩=some y:=cell_of_row _ _ _ _ _ _ hblk;obtain⟨ya,yc,rfl⟩:∃a c,y= .slice a v.years.length c:=by obtain⟨-,a,c,h,-⟩:=hev.yr;exact⟨a,c,h⟩
 unfold frV at HB;generalize gP v.years e.num=R at *;obtain⟨rn,rd,rc⟩:=R;dsimp only at HB;have HR2:Hid (rc=(eO 4 (rn,rd,rc)).2):=zh (by unfold eO;split<;>simp_all);have HR1:Hid (rc=0->(⟨4,false,rn,rd⟩:Val)=(eO 4 (rn,rd,rc)).1):=zh yB;clear hblk hev HV;unfold exV;rw [h1]
 go_enter func68,ntmps68
 go_wp2_with fail
 refine gy (fun W hW=>?_);have hbw:Below w.heap.size w W:=by rw [<-hW];(exact af)
 have hsz:W.heap.size=w.heap.size+2:=by rw [<-hW];simp
 have hEW:E<W.heap.size:=by omega
 have hcE:W.cell? ⟨E,12,none⟩=w.cell? ⟨E,12,none⟩:=hbw.cell (p:=⟨E,12,none⟩) hE;rw [<-hcE]at e12;have b1:W.cell? ⟨w.heap.size,1,none⟩=some (.int .i64 e.num):=by rw [<-hW];simp [go_sem]
 have hz0:w.heap.size<W.heap.size:=by omega
 have HW:=zh hW;clear hW hcE;refine TS.begin [14] (World.Grows _) zf zf aO (fun hS=>?_);refine TS.wkB 0 hS ?_;refine TS.wkB 1 hS ?_;refine TS.wkB 2 hS ?_;refine TS.wkB 3 hS ?_;refine TS.wkB 4 hS ?_;refine TS.wkB 5 hS ?_;refine TS.wkB 6 hS ?_;refine TS.wkB 7 hS ?_;refine TS.two (i:=8) (k:=12) zf rfl rfl (fun K1 hK1=>?_) (fun K1 hK1=>?_)
 focus
  go_simp
  go_at_call 22
  refine(HB.out _ (.of_below af)).mono ?_;rintro e' wA ⟨rfl,bA,dA,rfl⟩;refine TS.go hK1 zQ (fun hS=>?_);clear hK1 K1
  (try simp only [nS])
  refine TS.wkB 9 hS ?_;refine TS.wkB 10 hS ?_;refine TS.wkB 11 hS ?_;refine TS.one (i:=12) zf rfl (fun K1 hK1=>?_)
  go_simp
  refine TS.go hK1 (.of_below af) (fun hS=>?_);clear hK1 K1
  (try simp only [nS])
 rotate_left
 focus
  go_simp
  refine TS.go hK1 (.of_below af) (fun hS=>?_);clear hK1 K1
  (try simp only [nS])
  refine TS.one (i:=8) zf rfl (fun K1 hK1=>?_)
  go_simp
  go_at_call 22
  refine(HB.out _ (.of_below af)).mono ?_;rintro e' wA ⟨rfl,bA,dA,rfl⟩;refine TS.go hK1 zQ (fun hS=>?_);clear hK1 K1
  (try simp only [nS])
  refine TS.wkB 9 hS ?_;refine TS.wkB 10 hS ?_;refine TS.wkB 11 hS ?_
 rotate_left
 all_goals
  refine TS.one (i:=13) zf rfl (fun K1 hK1=>?_)
  go_simp
  refine TS.go hK1 (.of_below af) (fun hS=>?_);clear hK1 K1
  (try simp only [nS])
  refine TS.weB 14 ?_;clear hS;have hW:=HW.out;subst hW;clear hbw hsz hEW e12 b1 hz0 HW
  go_wp2_with (go_at_call 48;refine(HU.out _ _ _ _).mono ?_;rintro e' w' ⟨rfl,bs3,d3,rfl⟩)
  go_returns
  exact kK HR2.out HR1.out (.of_below af)
theorem mh(S:Nat->Prop)(v:Vw)(y se:Value)(env:List (ByteArray × Val))(E:Nat)(hv:v.ok=true)(hE:∀p∈env,p.2.ok=true)(hr:dW v)(n:Nat):∀(e:Ex),e.size<=n->aL e=true->(aD (aQ env) e).2=0->
 ∀(a:Option Addr) (cap:Nat) (w:World),aC S w e (.slice a e.args.length cap)->rU w E v y env se->
 Calls prog 68 #[.pointer (some ⟨E,0,none⟩),exV e (.slice a e.args.length cap)] w (EvR (ai v env e) w):=by
 induction n with
 |zero=>intro e he;have:=e.size_pos;omega
 |succ n ih=>
  intro e he hf hi a cap w hrep hev;by_cases h1:e.op=1
  ·exact Kj v env E e a cap w h1
  by_cases h2:e.op=2
  ·refine GK v y se env E e a cap w hev hr h2 (tL hv hE ?_);rw [iI]at hi;unfold fA at hi;rw [if_neg h1,if_neg ze,if_pos h2]at hi;exact hi
  by_cases h3:e.op=3
  ·exact GL v y se env E e a cap w hev h3
  obtain⟨ds,hdl,hds,ho4,ho21,hres,hargs⟩:=yY hv hE hf hi h1 h2 h3
  have IH:∀w',w.Grows w'->∀k,k<e.args.length->Ck S E w' (e.arg k) (ai v env (e.arg k)):=fun w' hg k hk ak ck w2 hg2 hr2=>by
   have hsm:=e.size_arg k hk;obtain⟨q1,q2,-⟩:=hargs k hk;exact ih (e.arg k) ze q1 q2 ak ck w2 hr2 (hev.grows (World.Grows.trans hg hg2))
  have hok:∀k,k<e.args.length->(ai v env (e.arg k)).2=0->(ai v env (e.arg k)).1.ok=true/\(ai v env (e.arg k)).1.dim=ds.getD k 0:=fun k hk h0=>((hargs k hk).2.2).good h0;by_cases h6:e.op<=6
  ·have hlen:0<e.args.length:=by unfold aX at hds;(repeat' split at hds)<;>omega
   exact DL S v env E e a cap w hrep ze hlen (fun h0=>Val.ok_rng (hok 0 hlen h0).1) (fun w' hg=>IH w' hg 0 hlen)
  have hlen:2<=e.args.length:=by unfold aX at hds;(repeat' split at hds)<;>omega
  by_cases hl:e.op=17\/e.op=18\/e.op=21
  ·exact DR S v env E e a cap w hrep hl hlen (fun ho=>by unfold aX at hds;(repeat' split at hds)<;>omega) IH
  ·have hlen2:ds.length=2:=by unfold aX at hds;(repeat' split at hds)<;>omega
   obtain⟨p,q,rfl⟩:∃p q,ds= [p,q]:=by
    match ds,hlen2 with
    | [p,q],_=>exact⟨p,q,rfl⟩
   refine Kk S v env E e a cap w hrep ze hlen (fun h0=>(hok 0 ze h0).1) (fun h0=>(hok 1 ze h0).1) (fun g0 g1=>?_) IH;rw [(hok 0 ze g0).2,(hok 1 ze g1).2];exact hres
def nH(l:List (ByteArray × Int)):List Value:=l.flatMap fun p=>[.string p.1,.int .i64 p.2]
theorem Hw(l:List (ByteArray × Int)):∀i,i<l.length->(nH l)[i*2]? =some (.string (bdN l i))/\(nH l)[i*2+1]? =some (.int .i64 (bdD l i)):=by
 induction l with
 |nil=>intro i hi;simp at hi
 |cons p r ih=>
  intro i hi
  cases i with
  |zero=>exact⟨rfl,rfl⟩
  |succ i=>
   obtain⟨h1,h2⟩:=ih i (by simpa using hi);have e1:(i+1)*2=i*2+1+1:=by omega
   have e2:(i+1)*2+1=i*2+1+1+1:=by omega
   rw [e1,show i*2+1+1+1=(i*2+1)+1+1 by omega];exact⟨h1,h2⟩
theorem lh(l:List (ByteArray × Int))(p:ByteArray × Int):nH (l++[p])=nH l++[.string p.1,.int .i64 p.2]:=by
 unfold nH;simp
theorem aU.of_own{w:World}{base:Nat}{v:Value}{l:List (ByteArray × Int)}(h:w.ownsRow base 64 2 v l.length (nH l))(hl:l.length<=1000):aU w v l:=by
 obtain⟨-,⟨rfl,h0⟩|⟨g,cap,cur,rfl,hb,hg,h2,h3,h4,h5⟩⟩:=id h
 ·exact⟨by omega,none,0,by rw [h0],.inl h0⟩
 ·refine⟨by omega,_,cap,rfl,.inr ⟨g,0,rfl,(Array.getElem?_eq_some_iff.1 hg).1,fun i hi=>?_⟩⟩;obtain⟨g1,g2⟩:=Hw l i hi;rw [Nat.zero_add,h.cellAt (i*2) ze,h.cellAt (i*2+1) ze];exact⟨g1,g2⟩
theorem wT(env:List (ByteArray × Val))(k:Nat)(hk:k<env.length):aQ (env.take (k+1))=aQ (env.take k)++[(stN env k,(stV env k).dim)]:=by
 unfold aQ stN stV;rw [take_succ_eq_append_getElem hk,map_append,getD_eq_getElem?_getD,getElem?_eq_getElem hk];rfl
theorem ER{env:List (ByteArray × Val)}{k:Nat}(hk:k<env.length)(hb:(stV env k).ok=false):(env.any fun p=>!p.2.ok)=true:=by
 rw [any_eq_true];refine⟨env[k],getElem_mem hk, ?_⟩;have:stV env k=env[k].2:=by unfold stV;rw [getD_eq_getElem?_getD,getElem?_eq_getElem hk];rfl
 rw [<-this,hb];rfl
theorem BB{env:List (ByteArray × Val)}(hg:∀k,k<env.length->(stV env k).ok=true):∀p∈env,p.2.ok=true:=by
 intro p hp;obtain⟨k,hk,rfl⟩:=mem_iff_getElem.1 hp;have:=hg k hk;unfold stV at this
 rwa [getD_eq_getElem?_getD,getElem?_eq_getElem hk]at this
theorem NR{env:List (ByteArray × Val)}(h:∀p∈env,p.2.ok=true):(env.any fun p=>!p.2.ok)=false:=by
 rw [any_eq_false];intro p hp;rw [h p hp];simp
theorem xS{env:List (ByteArray × Val)}(h:∀p∈env,p.2.ok=true):fV (aQ env)=true:=by
 unfold fV aQ;rw [all_eq_true];intro q hq;obtain⟨p,hp,rfl⟩:=mem_map.1 hq;have:=Val.ok_dim (h p hp);exact decide_eq_true this
theorem Ep{env:List (ByteArray × Val)}{k:Nat}(hk:k<env.length):∃p∈env,stV env k=p.2:=⟨env[k],getElem_mem hk,by unfold stV;rw [getD_eq_getElem?_getD,getElem?_eq_getElem hk];rfl⟩
theorem wR{v:Vw}{env:List (ByteArray × Val)}{e:Ex}(hv:v.ok=true)(hE:∀p∈env,p.2.ok=true) :
 dP v env e=if(aT (aQ env) e).2≠0 then(.zero,(aT (aQ env) e).2)else if(ai v env e).2≠0 then(.zero,(ai v env e).2)else ai v env e:=by
 unfold dP aT;rw [NR hE,hv,xS hE]
 cases hb:cK e with
 |false=>simp
 |true=>simp
theorem EI:(prog.info? 64).map (fun i=>(i.zero,i.size,i.bytes))=some (some (.agg #[.string ⟨#[]⟩,.int .i64 0]),2,24):=by kernel_rfl
def vE(r:Val × Int)(w:World)(e:Ending)(w':World):Prop:=e= .returned (.tuple #[dM r.1,.int .i64 r.2])/\w.Grows w'
theorem xR{r:Val × Int}{m n d c:Int}{b:Bool}{w w':World}(h:r=(⟨m,b,n,d⟩,c))(hg:w.Grows w'):vE r w (.returned (.tuple #[.agg #[.int .i64 m,.bool b,.int .i64 n,.int .i64 d],.int .i64 c])) w':=by
 subst h;exact⟨rfl,hg⟩
theorem DW(S:Nat->Prop)(v:Vw)(y se:Value)(env:List (ByteArray × Val))(e:Ex)(a:Option Addr)(cap:Nat)(w:World)(hy:bJ w y v.years)(hr:dW v)(hs:bi w se env)(hv:v.ok=false) :
 Calls prog 29 #[exV e (.slice a e.args.length cap),vwV v y,se] w (vE (dP v env e) w):=by
 have HF:Hid (dP v env e=(.zero,1)):=zh (by unfold dP;rw [if_pos (.inl hv)]);rw [HF.out];have HY:=zh hy;have HV:=zh (fun w' (hg:w.Grows w')=>fI v y w' hr (HY.out.grows hg));rw [hv]at HV;obtain⟨ya,yc,rfl⟩:∃a c,y= .slice a v.years.length c:=by obtain⟨-,a,c,h,-⟩:=hy;exact⟨a,c,h⟩
 obtain⟨sa,sc,rfl⟩:∃a c,se= .slice a env.length c:=by obtain⟨-,a,c,h,-⟩:=hs;exact⟨a,c,h⟩
 clear hy hr hs hv HF;unfold vwV at HV ⊢;unfold exV
 go_enter func29,ntmps29
 go_wp2_with (go_at_call 20;refine(HV.out _ (.of_below af)).mono ?_;rintro e' w' ⟨rfl,bs,d,rfl⟩)
 go_returns
 exact xR rfl (.of_below af)
theorem Km(S:Nat->Prop)(v:Vw)(y se:Value)(env:List (ByteArray × Val))(e:Ex)(a:Option Addr)(cap:Nat)(w:World)(h:aC S w e (.slice a e.args.length cap))(hbig:e.size<=2305843009213693952)(ht:Tab w)(hy:bJ w y v.years)(hr:dW v)(hs:bi w se env)(hS:∀p∈env,vC p.2)(hv:v.ok=true) :
 Calls prog 29 #[exV e (.slice a e.args.length cap),vwV v y,se] w (vE (dP v env e) w):=by
 obtain⟨i0,hi,hz0,hz1,hz2⟩:=info_parts EI;have HR:=zh h;have HT:=zh ht;have HY:=zh hy;have HS:=zh hs;have HSR:=zh hS;have HV:=zh (fun w' (hg:w.Grows w')=>fI v y w' hr (HY.out.grows hg));rw [hv]at HV;have HBAD:Hid (∀k,k<env.length->(stV env k).ok=false->dP v env e=(.zero,1)):=zh (fun k hk hb=>by unfold dP;rw [if_pos (.inr (.inl (ER hk hb)))])
 have HINF:Hid (∀w' vb,w.Grows w'->aU w' vb (aQ env)->Calls prog 67 #[exV e (.slice a e.args.length cap),vb] w' (jh (aT (aQ env) e) w')):=
  zh (fun w' vb hg hb=>ow S (aQ env) e _ vb w' (HR.out.grows hg) hbig (HT.out.grows hg) hb)
 have HGOOD:=zh (fun hE=>wR (v:=v) (env:=env) (e:=e) hv hE)
 have HEV:Hid ((∀p∈env,p.2.ok=true)->(aT (aQ env) e).2=0->∀X N,w.Grows X->X.heap.size=N->Calls prog 68 #[.pointer (some ⟨N,0,none⟩),exV e (.slice a e.args.length cap)] (X.alloc (.cells (evC v y se) 126)) (EvR (ai v env e) (X.alloc (.cells (evC v y se) 126)))):=
  zh (fun hE hi X N hg hN=>by
   subst hN
   have hvb:cK e=true:=by
    unfold aT at hi
    split at hi<;>rename_i hc
    ·exact hc.1
    ·simp at hi
   have hi2:(aD (aQ env) e).2=0:=by rwa [lg hvb (xS hE)]at hi
   have hg2:w.Grows (X.alloc (.cells (evC v y se) 126)):=World.Grows.trans hg (.of_below af)
   exact mh S v y se env _ hv hE hr e.size e (Nat.le_refl _) (gT hvb) hi2 a cap _ (HR.out.grows hg2) ⟨World.alloc_heap_new _ _,HY.out.grows hg2,HS.out.grows hg2⟩)
 obtain⟨ya,yc,rfl⟩:∃a c,y= .slice a v.years.length c:=by obtain⟨-,a,c,h,-⟩:=hy;exact⟨a,c,h⟩
 obtain⟨sa,sc,rfl⟩:∃a c,se= .slice a env.length c:=by obtain⟨-,a,c,h,-⟩:=hs;exact⟨a,c,h⟩
 have h1000:=hs.1;clear h ht hy hr hs hS hv hbig;unfold vwV at HV ⊢;unfold evC at HEV;unfold EvR exV dM at HEV;unfold jh exV at HINF;unfold exV
 go_enter func29,ntmps29
 go_wp2_with (go_at_call 20;refine(HV.out _ (.of_below af)).mono ?_;rintro e' w' ⟨rfl,bs,d,rfl⟩)
 go_loopw [8,10,22] (fun v8 _ v22 wr=>∃(k:Nat) (vb:Value),vb=v8/\k<=env.length/\v22= .int .i64 k/\Hid (∀j,j<k->(stV env j).ok=true)/\Below (w.heap.size+1+1+1+bs.size) (((((w.alloc (.cells #[.int .i64 e.op,.int .i64 e.num,.int .i64 e.den,.int .i64 e.dim,.string e.name,.slice a e.args.length cap] 51)).alloc (.cells #[.int .i64 v.age,.int .i64 v.year,.int .i64 v.children,.int .i64 v.insured,.int .i64 v.worked,.int .i64 v.voluntary,.int .i64 v.service,.int .i64 v.equated,.int .i64 v.raising,.int .i64 v.resident,.int .i64 v.bn,.int .i64 v.bd,.slice ya v.years.length yc] 26)).alloc (.cells #[.int .i64 0,.bool false,.int .i64 0,.int .i64 0] 34)).grow bs d)) wr/\wr.ownsRow (w.heap.size+1+1+1+bs.size) 64 2 vb k (nH (aQ (env.take k)))) (fun _ _ v22 _=>env.length-(intOf v22).toNat)
 case atStart=>exact⟨0,_,rfl,by omega,rfl,zh (fun j hj=>by omega),.refl _ _,World.ownsRow_nil _ _ _ _⟩
 case round=>
  obtain⟨k,vb,rfl,hk,rfl,hno,hB,hown⟩:=hrel;have hG0:World.Grows (((((w.alloc (.cells #[.int .i64 e.op,.int .i64 e.num,.int .i64 e.den,.int .i64 e.dim,.string e.name,.slice a e.args.length cap] 51)).alloc (.cells #[.int .i64 v.age,.int .i64 v.year,.int .i64 v.children,.int .i64 v.insured,.int .i64 v.worked,.int .i64 v.voluntary,.int .i64 v.service,.int .i64 v.equated,.int .i64 v.raising,.int .i64 v.resident,.int .i64 v.bn,.int .i64 v.bd,.slice ya v.years.length yc] 26)).alloc (.cells #[.int .i64 0,.bool false,.int .i64 0,.int .i64 0] 34)).grow bs d)) wr:=.of_below (by simpa using hB);have hG:w.Grows wr:=World.Grows.trans (.of_below af) hG0;have HO:=zh hown;have HB:=zh hB;have HG:=zh hG;have HG0:=zh hG0;have hsW:w.heap.size+1+1+1+bs.size<=wr.heap.size:=by have:=hB.size;simpa using this
  clear hB hown hG hG0;by_cases hlt:k<env.length
  ·obtain⟨-,sa',sc',hv2,hcs⟩:=HS.out.grows HG.out;simp only [Value.slice.injEq,true_and]at hv2;obtain⟨rfl,rfl⟩:=hv2;rcases hcs with h0|⟨b,off,rfl,hbw,hx⟩
   ·omega
   obtain⟨s0,s1,s2,s3,s4⟩:=hx k hlt
   have HVV:Hid (∀w,Calls prog 66 #[dM (stV env k)] w fun r w'=>r= .returned (.bool (stV env k).ok)/\w.Grows w'):=zh (fun w=>by
    obtain⟨p,hp,he⟩:=Ep hlt
    exact rH _ w (by rw [he];exact HSR.out p hp))
   have HBD:=zh (HBAD.out k hlt);have HNX:=zh (wT env k hlt);have HKL:=zh hlt;have d1:(k:Int)<(env.length:Int):=by omega
   unfold dM at HVV
   have HKK:Hid ((stV env k).ok=true->∀j,j<k+1->(stV env j).ok=true):=zh (fun h j hj=>by
    by_cases ej:j=k
    ·subst ej;exact h
    ·exact hno.out j ze)
   generalize stN env k=nk at *;generalize stV env k=xk at *;obtain⟨xm,xy,xn,xd⟩:=xk;dsimp only at s1 s2 s3 s4 HVV HNX
   cases hq:(Val.mk xm xy xn xd).ok with
   |true=>
    rw [hq]at HVV;have HQ:=zh (HKK.out hq);clear hx hlt hq HKK HBD
    go_wp2_with (first
     |(go_at_call 66;refine(HVV.out _).mono ?_;rintro e' w' ⟨rfl,bs2,d2,rfl⟩)
     |(at_builtin;refine wpList_append_own _ rfl _ _ 54 rfl (w.heap.size+1+1+1+bs.size) 64 i0 (.agg #[.string ⟨#[]⟩,.int .i64 0]) 2 24 underlying54 hi hz0 hz1 hz2 rfl zo _ _ _ rfl ((bQ (HO.out.alloc _) ⟨bs2,d2,rfl⟩).alloc _) ⟨wr.heap.size+1+bs2.size,0,none⟩ 1 1 [.string nk,.int .i64 xm] rfl rfl ?c1 ?c2 ?c3 ?c4 ?c5 ?_))
    case c1=>exact aR _ [.string nk,.int .i64 xm] _ _ zg
    case c2=>intro u hu;simp at hu;rcases hu with rfl|rfl<;>rfl
    case c3=>unfold maxLen;omega
    case c4=>omega
    case c5=>simp;omega
    intro v' w1 hown' hgrow _;have HB1:=zh ((show Below (w.heap.size+1+1+1+bs.size) (((((w.alloc (.cells #[.int .i64 e.op,.int .i64 e.num,.int .i64 e.den,.int .i64 e.dim,.string e.name,.slice a e.args.length cap] 51)).alloc (.cells #[.int .i64 v.age,.int .i64 v.year,.int .i64 v.children,.int .i64 v.insured,.int .i64 v.worked,.int .i64 v.voluntary,.int .i64 v.service,.int .i64 v.equated,.int .i64 v.raising,.int .i64 v.resident,.int .i64 v.bn,.int .i64 v.bd,.slice ya v.years.length yc] 26)).alloc (.cells #[.int .i64 0,.bool false,.int .i64 0,.int .i64 0] 34)).grow bs d)) _ from by have:=HB.out;(exact af)).grown hgrow zp (fun k hk=>(HO.out.lt k hk).1));have HO1:=zh hown';clear hown' hgrow
    go_wp2_with fail
    go_roundw
    case rel=>exact⟨k+1,_,rfl,HKL.out,by go_num,HQ,HB1.out,by rw [HNX.out,lh];exact HO1.out⟩
    case measure=>simp [intOf];have:=HKL.out;omega
   |false=>
    rw [hq]at HVV;have HF:=zh (HBD.out hq);clear hx hlt hq HKK HBD;rw [HF.out];obtain⟨bs9,d9,rfl⟩:=HG0.out;simp only [World.grow_grow]at s0 s1 s2 s3 s4
    go_wp2_with (go_at_call 66;refine(HVV.out _).mono ?_;rintro e' w' ⟨rfl,bs2,d2,rfl⟩)
    go_returns
    exact xR rfl (.of_below af)
  ·obtain rfl:k=env.length:=by omega
   have hE:=BB hno.out;have hgd:=HGOOD.out hE;have HEV2:=zh (HEV.out hE)
   have hbd:aU wr vb (aQ env):=by
    have h1:=HO.out;rw [take_length]at h1;have hl:(aQ env).length=env.length:=by unfold aQ;simp
    exact aU.of_own (by rw [hl];exact h1) (by rw [hl];exact h1000)
   obtain⟨bs9,d9,rfl⟩:=HG0.out;have HBND:=zh hbd;have HI2:=zh (fun w' hg hb=>HINF.out w' vb hg hb);obtain⟨-,va,vc,rfl,-⟩:=hbd;have HGD:=zh hgd;clear hgd;generalize aT (aQ env) e=q at *;generalize ai v env e=r at *;obtain⟨qm,qc⟩:=q;obtain⟨⟨rm,ry,rn,rd⟩,rc⟩:=r;dsimp only at HI2 HEV2 HGD;by_cases hqc:qc=0
   ·subst hqc;have HEV3:=zh (HEV2.out rfl);by_cases hrc:rc=0
    ·subst hrc;have HF:Hid (dP v env e=(⟨rm,ry,rn,rd⟩,0)):=zh (by rw [HGD.out];simp)
     go_wp2_with (first
      |(go_at_call 67;refine(HI2.out _ (.of_below af) yt).mono ?_;rintro e' w' ⟨rfl,bs4,d4,rfl⟩)
      |(go_at_call 68;refine(HEV3.out _ _ (.of_below af) zD).mono ?_;rintro e' w' ⟨x,rfl,hx,bs5,d5,rfl⟩;obtain rfl:=hx zG))
     go_returns
     exact xR HF.out (.of_below af)
    ·have hq1:(rc !=0)=true:=by simpa using hrc
     have HF:Hid (dP v env e=(.zero,rc)):=zh (by rw [HGD.out];simp [hrc]);clear hrc
     go_wp2_with (first
      |(go_at_call 67;refine(HI2.out _ (.of_below af) yt).mono ?_;rintro e' w' ⟨rfl,bs4,d4,rfl⟩)
      |(go_at_call 68;refine(HEV3.out _ _ (.of_below af) zD).mono ?_;rintro e' w' ⟨⟨xm,xy,xn,xd⟩,rfl,hx,bs5,d5,rfl⟩))
     go_returns
     exact xR HF.out (.of_below af)
   ·have hq1:(qc !=0)=true:=by simpa using hqc
    have HF:Hid (dP v env e=(.zero,qc)):=zh (by rw [HGD.out];simp [hqc]);clear hqc HEV2
    go_wp2_with (go_at_call 67;refine(HI2.out _ (.of_below af) yt).mono ?_;rintro e' w' ⟨rfl,bs4,d4,rfl⟩)
    go_returns
    exact xR HF.out (.of_below af)
theorem II(S:Nat->Prop)(v:Vw)(y se:Value)(env:List (ByteArray × Val))(e:Ex)(a:Option Addr)(cap:Nat)(w:World)(h:aC S w e (.slice a e.args.length cap))(hbig:e.size<=2305843009213693952)(ht:Tab w)(hy:bJ w y v.years)(hr:dW v)(hs:bi w se env)(hS:∀p∈env,vC p.2) :
 Calls prog 29 #[exV e (.slice a e.args.length cap),vwV v y,se] w (vE (dP v env e) w):=by
 cases hv:v.ok with
 |false=>exact DW S v y se env e a cap w hy hr hs hv
 |true=>exact Km S v y se env e a cap w h hbig ht hy hr hs hS hv
end Go.Proofs.YtlheailebbngiaaGreatDoor
