import Derived.Test.YtlheailebbngiaaGreatDoorREvW
import Derived.Test.YtlheailebbngiaaGreatDoorRSrt
set_option linter.all false
set_option maxHeartbeats 16000000
set_option maxRecDepth 1000000
namespace Go.Proofs.YtlheailebbngiaaGreatDoor
open Go.Proofs.Tryz List
open Go.RowKit
theorem KN(v:Vw)(env:List (ByteArray × Val))(E:Nat)(e:Ex)(a:Option Addr)(cap:Nat)(w:World)(h1:e.op=1):(Calls prog 68 #[.pointer (some ⟨E,0,none⟩),exV e (.slice a e.args.length cap)] w (EvR (ai v env e) w)):=by
 have HV:Hid (ai v env e=(.num e.dim e.num e.den,0)):=zh (by rw [dR];unfold eG;rw [if_pos h1]);rw [HV.out];have HU:=zh (fun m n d w=>kP m n d w);unfold dM Val.num at HU;dsimp only at HU;clear HV;unfold exV
 go_enter func68,ntmps68
 go_wp2_with (go_at_call 48;refine(HU.out _ _ _ _).mono ?_;rintro e' w' ⟨rfl,bs3,d3,rfl⟩)
 go_returns
 exact kQ rfl (fun _=>rfl) (.of_below ag)
theorem Ic(v:Vw)(y se:Value)(env:List (ByteArray × Val))(E:Nat)(e:Ex)(a:Option Addr)(cap:Nat)(w:World)(hev:sF w E v y env se)(hr:dN v)(h1:e.op=2)(hn:(jY v env e.name).2=0):(Calls prog 68 #[.pointer (some ⟨E,0,none⟩),exV e (.slice a e.args.length cap)] w (EvR (ai v env e) w)):=by
 have HV:Hid (ai v env e=jY v env e.name):=zh (by rw [dR];unfold eG;rw [if_neg ze,if_pos h1]);rw [HV.out];have HE:=zh hev;have HN:=zh (fun w' (hg:w.Grows w')=>Es v y se env E e.name w' (HE.out.grows hg) hr);unfold dM at HN;generalize jY v env e.name=q at *;obtain⟨⟨qm,qy,qn,qd⟩,qc⟩:=q;dsimp only at hn HN ⊢;subst hn;clear HV hev hr;unfold exV
 go_enter func68,ntmps68
 go_wp2_with (go_at_call 112;refine(HN.out _ (.of_below ag)).mono ?_;rintro e' w' ⟨rfl,bs3,d3,rfl⟩)
 go_returns
 exact kQ rfl (fun _=>rfl) (.of_below ag)
theorem Ej(S:Nat->Prop)(v:Vw)(env:List (ByteArray × Val))(E:Nat)(e:Ex)(a:Option Addr)(cap:Nat)(w:World)(h:aC S w e (.slice a e.args.length cap))(hop:e.op=4\/e.op=5\/e.op=6)(hlen:0<e.args.length)
 (hok:(ai v env (e.arg 0)).2=0->vV (ai v env (e.arg 0)).1) (ih:∀w',w.Grows w'->CR S E w' (e.arg 0) (ai v env (e.arg 0))):(Calls prog 68 #[.pointer (some ⟨E,0,none⟩),exV e (.slice a e.args.length cap)] w (EvR (ai v env e) w)):=by
 have HV:Hid (ai v env e=if(ai v env (e.arg 0)).2≠0 then(.zero,(ai v env (e.arg 0)).2)else op1 e.op (ai v env (e.arg 0)).1):=zh (by
  rw [dR];unfold eG;rw [cz v env e.args 0 hlen];show(if e.op=1 then _ else _)=_;rw [if_neg ze,if_neg ze,if_neg ze];show(if(ai v env (e.arg 0)).2≠0 then _ else _)=_
  split
  ·rfl
  ·rw [if_neg ze,if_neg ze,if_neg ze,if_pos ze];rfl)
 rw [HV.out];have HR:=zh h;have HU:=zh (fun w' (hg:w.Grows w')=>FY S E e a cap w' _ (HR.out.grows hg) hop hlen hok (ih w' hg));unfold EvR exV at HU;unfold dM at HU;generalize(if(ai v env (e.arg 0)).2≠0 then(Val.zero,(ai v env (e.arg 0)).2)else op1 e.op (ai v env (e.arg 0)).1)=q at *;obtain⟨q,qc⟩:=q;dsimp only at HU;clear HV hok ih h;unfold exV;rcases hop with ho|ho|ho
 all_goals
  rw [ho]at HU ⊢
  go_enter func68,ntmps68
  go_wp2_with (go_at_call 113;refine(HU.out _ (.of_below ag)).mono ?_;rintro e' w' ⟨⟨xm,xy,xn,xd⟩,rfl,hx,bs3,d3,rfl⟩)
  go_returns
  exact kQ rfl hx (.of_below ag)
theorem Em(S:Nat->Prop)(v:Vw)(env:List (ByteArray × Val))(E:Nat)(e:Ex)(a:Option Addr)(cap:Nat)(w:World)(h:aC S w e (.slice a e.args.length cap))(hop:e.op=17\/e.op=18\/e.op=21)(hlen:2<=e.args.length)(hlen3:e.op=21->3<=e.args.length)
 (ih:∀w',w.Grows w'->∀k,k<e.args.length->CR S E w' (e.arg k) (ai v env (e.arg k))):(Calls prog 68 #[.pointer (some ⟨E,0,none⟩),exV e (.slice a e.args.length cap)] w (EvR (ai v env e) w)):=by
 have HV:Hid (ai v env e=uC e.op (ai v env (e.arg 0)) (ai v env (e.arg 1)) (ai v env (e.arg 2))):=zh (by
  rw [dR];unfold eG uC;rw [cz v env e.args 0 ze,cz v env e.args 1 ze];dsimp only;rw [if_neg ze,if_neg ze,if_neg ze];show(if(ai v env (e.arg 0)).2≠0 then _ else _)=_
  split
  ·rfl
  ·rcases hop with ho|ho|ho
   ·rw [ho];rfl
   ·rw [ho];rfl
   ·rw [ho,cz v env e.args 2 (by have:=hlen3 ho;omega)];rfl)
 rw [HV.out];have HR:=zh h;have HU:=zh (fun w' (hg:w.Grows w')=>GN S E e a cap w' (ai v env (e.arg 0)) (ai v env (e.arg 1)) (ai v env (e.arg 2)) (HR.out.grows hg) hop hlen hlen3 (ih w' hg 0 ze) (ih w' hg 1 ze) (fun ho=>ih w' hg 2 (by have:=hlen3 ho;omega)));unfold EvR exV at HU;unfold dM at HU;generalize uC e.op (ai v env (e.arg 0)) (ai v env (e.arg 1)) (ai v env (e.arg 2))=q at *;obtain⟨q,qc⟩:=q;dsimp only at HU;clear HV ih h hlen3;unfold exV;rcases hop with ho|ho|ho
 all_goals
  rw [ho]at HU ⊢
  go_enter func68,ntmps68
  go_wp2_with (go_at_call 114;refine(HU.out _ (.of_below ag)).mono ?_;rintro e' w' ⟨⟨xm,xy,xn,xd⟩,rfl,hx,bs3,d3,rfl⟩)
  go_returns
  exact kQ rfl hx (.of_below ag)
theorem gy{P:Program}{c:Code}{Q:Exit->Act->World->Prop}{a:Act}{w:World}(h:∀W,w=W->c.wp P Q a W):c.wp P Q a w:=h w rfl
def Cv(op:Int)(r0 r1:Val × Int):Val × Int:=if r0.2≠0 then(.zero,r0.2)else if r1.2≠0 then(.zero,r1.2)else op2 op r0.1 r1.1
theorem FV{v:Vw}{env:List (ByteArray × Val)}{e:Ex}(hop:(7<=e.op/\e.op<=16)\/e.op=19\/e.op=20)(hlen:2<=e.args.length):ai v env e=Cv e.op (ai v env (e.arg 0)) (ai v env (e.arg 1)):=by
 rw [dR];unfold eG Cv;rw [cz v env e.args 0 ze,cz v env e.args 1 ze];dsimp only;rw [if_neg ze,if_neg ze,if_neg ze];show(if(ai v env (e.arg 0)).2≠0 then _ else _)=_
 split
 ·rfl
 ·rw [if_neg ze,if_neg ze,if_neg ze,if_neg ze];rfl
theorem KO(S:Nat->Prop)(v:Vw)(env:List (ByteArray × Val))(E:Nat)(e:Ex)(a:Option Addr)(cap:Nat)(w:World)(h:aC S w e (.slice a e.args.length cap))(hop:(7<=e.op/\e.op<=16)\/e.op=19\/e.op=20)(hlen:2<=e.args.length)
 (hok0:(ai v env (e.arg 0)).2=0->(ai v env (e.arg 0)).1.ok=true) (hok1:(ai v env (e.arg 1)).2=0->(ai v env (e.arg 1)).1.ok=true)
 (hres:(ai v env (e.arg 0)).2=0->(ai v env (e.arg 1)).2=0->ax e.op [(ai v env (e.arg 0)).1.dim,(ai v env (e.arg 1)).1.dim]≠0)
 (ih:∀w',w.Grows w'->∀k,k<e.args.length->CR S E w' (e.arg k) (ai v env (e.arg k))):(Calls prog 68 #[.pointer (some ⟨E,0,none⟩),exV e (.slice a e.args.length cap)] w (EvR (ai v env e) w)):=by
 rw [FV hop hlen];have ih0:=ih w (.refl _) 0 ze;have ih1:=ih w (.refl _) 1 ze;clear ih;generalize ai v env (e.arg 0)=r0 at *;generalize ai v env (e.arg 1)=r1 at *;obtain⟨b,off,rfl,hbw,hx⟩:=h.arg_cells ze;obtain⟨ak,ck,hxk,hR0⟩:=hx 0 ze;obtain⟨x0,x1,x2,x3,x4,x5⟩:=hxk;obtain⟨ak1,ck1,hxk1,hR1⟩:=hx 1 ze;obtain⟨y0,y1,y2,y3,y4,y5⟩:=hxk1;have HR0:=zh hR0;have HR1:=zh hR1;have HC0:=zh (fun w' hg hr=>ih0 ak ck w' hg hr);have HC1:=zh (fun w' hg hr=>ih1 ak1 ck1 w' hg hr);unfold EvR exV at HC0 HC1;unfold dM at HC0 HC1;have d0:(0:Int)<(e.args.length:Int):=by omega
 have d1:(1:Int)<(e.args.length:Int):=by omega
 simp only [Nat.zero_mul,Nat.add_zero,Nat.one_mul]at x0 x1 x2 x3 x4 x5 y0 y1 y2 y3 y4 y5;obtain⟨x,hxe⟩:∃x,e.arg 0=x:=⟨_,rfl⟩;rw [hxe]at HC0 x0 x1 x2 x3 x4 x5 HR0;obtain⟨y,hye⟩:∃y,e.arg 1=y:=⟨_,rfl⟩;rw [hye]at HC1 y0 y1 y2 y3 y4 y5 HR1;clear hR0 hR1 ih0 ih1 hxe hye hx h;obtain⟨op,hope⟩:∃op,e.op=op:=⟨_,rfl⟩;unfold exV;rw [hope]at hop hres ⊢;clear hope;have p1:(op==1)=false:=by rw [beq_eq_false_iff_ne];omega
 have p2:(op==2)=false:=by rw [beq_eq_false_iff_ne];omega
 have p3:(op==3)=false:=by rw [beq_eq_false_iff_ne];omega
 have p4:(op==4)=false:=by rw [beq_eq_false_iff_ne];omega
 have p5:(op==5)=false:=by rw [beq_eq_false_iff_ne];omega
 have p6:(op==6)=false:=by rw [beq_eq_false_iff_ne];omega
 have p17:(op==17)=false:=by rw [beq_eq_false_iff_ne];omega
 have p18:(op==18)=false:=by rw [beq_eq_false_iff_ne];omega
 have p21:(op==21)=false:=by rw [beq_eq_false_iff_ne];omega
 obtain⟨q,c⟩:=r0;dsimp only at hok0 hres;by_cases hc:c=0
 rotate_left
 ·have hq1:(c !=0)=true:=by simpa using hc
  have HC:=zh hc;have HB:Hid (Cv op (q,c) r1=(.zero,c)):=zh (by unfold Cv;rw [if_pos hc]);rw [HB.out];clear hok0 hok1 hres hc HB hop HC1 HR1
  go_enter func68,ntmps68
  go_wp2_with (go_at_call 68;refine(HC0.out _ (.of_below ag) (HR0.out.grows (.of_below ag))).mono ?_;rintro e' w' ⟨⟨xm,xy,xn,xd⟩,rfl,hx,bs,d,rfl⟩)
  go_returns
  exact kQ rfl (fun h=>absurd h HC.out) (.of_below ag)
 subst hc;obtain⟨p,c⟩:=r1;dsimp only at hok1 hres;by_cases hc:c=0
 rotate_left
 ·have hq1:(c !=0)=true:=by simpa using hc
  have HC:=zh hc;have HB:Hid (Cv op (q,0) (p,c)=(.zero,c)):=zh (by unfold Cv;rw [if_neg zg,if_pos hc]);rw [HB.out];clear hok0 hok1 hres hc HB hop
  go_enter func68,ntmps68
  go_wp2_with (go_at_call 68;first
   |((with_reducible refine(HC0.out _ (.of_below ag) (HR0.out.grows (.of_below ag))).mono ?_);rintro e' w' ⟨⟨xm,xy,xn,xd⟩,rfl,hx,bs,d,rfl⟩)
   |((with_reducible refine(HC1.out _ (.of_below ag) (HR1.out.grows (.of_below ag))).mono ?_);rintro e' w' ⟨⟨ym,yy,yn,yd⟩,rfl,hy,bs1,d1,rfl⟩))
  go_returns
  exact kQ rfl (fun h=>absurd h HC.out) (.of_below ag)
 subst hc;have hq:=hok0 rfl;have hp:=hok1 rfl;have hr:=hres rfl rfl;clear hok0 hok1 hres;have hb:Cv op (q,0) (p,0)=op2 op q p:=by unfold Cv;simp
 rw [hb];have rq:=Val.ok_rng hq;have rp:=Val.ok_rng hp;have HT:=zh (fun b w=>rP b w);have HU:=zh (fun m n d w=>kP m n d w);unfold dM Val.num at HU;unfold dM Val.truth at HT;dsimp only at HU HT;by_cases hcmp:11<=op/\op<=16
 ·obtain⟨h1,h2⟩:=Nv hcmp hq hp hr;rw [h1];have HM:=zh (fun w=>Cs op q.n q.d p.n p.d w hcmp.1 hcmp.2 ⟨rq.1,rq.2,rp.1,rp.2⟩);rw [h2]at HM;generalize r9 op (fJ q.n q.d p.n p.d).1=tb at *;obtain⟨g1,g2⟩:=hcmp;clear hq hp hr rq rp hb h1 h2 hop HU;obtain⟨qm,qy,qn,qd⟩:=q;obtain⟨pm,py,pn,pd⟩:=p
  go_enter func68,ntmps68
  go_wp2_with (first
   |(go_at_call 68;first
    |((with_reducible refine(HC0.out _ (.of_below ag) (HR0.out.grows (.of_below ag))).mono ?_);rintro e' w' ⟨x,rfl,hx,bs,d,rfl⟩;obtain rfl:=hx zF)
    |((with_reducible refine(HC1.out _ (.of_below ag) (HR1.out.grows (.of_below ag))).mono ?_);rintro e' w' ⟨y,rfl,hy,bs1,d1,rfl⟩;obtain rfl:=hy zF))
   |(go_at_call 115;refine(HM.out _).mono ?_;rintro e' w' ⟨rfl,bs2,d2,rfl⟩)
   |(go_at_call 116;refine(HT.out _ _).mono ?_;rintro e' w' ⟨rfl,bs3,d3,rfl⟩))
  go_returns
  exact kQ rfl (fun _=>rfl) (.of_below ag)
 ·have ho:op=7\/op=8\/op=9\/op=10\/op=19\/op=20:=by omega
  rw [P8 ho hq hp hr];have HM:=zh (fun w=>IU op q.n q.d p.n p.d w ho ⟨rq.1,rq.2,rp.1,rp.2⟩);have HD:=zh (fun w=>vP op q.dim p.dim w);unfold frV at HM;generalize arF op q.n q.d p.n p.d=R at *;generalize Cj op q.dim p.dim=DM at *;obtain⟨rn,rd,rc⟩:=R;dsimp only at HM;have hgc:¬(11<=op/\op<=16):=hcmp;clear hq hp hr rq rp hb hop HT;obtain⟨qm,qy,qn,qd⟩:=q;obtain⟨pm,py,pn,pd⟩:=p;dsimp only at HD;have hlt:op<11\/16<op:=by omega
  by_cases hrc:rc=0
  ·subst hrc;have HN:Hid (eQ DM (rn,rd,0)=(.num DM rn rd,0)):=zh rfl;rw [HN.out];clear ho hgc hcmp;rcases hlt with hlt|hlt
   focus
    go_enter func68,ntmps68
   rotate_left
   focus
    go_enter func68,ntmps68
   rotate_left
   all_goals
    go_wp2_with (first
     |(go_at_call 68;first
      |((with_reducible refine(HC0.out _ (.of_below ag) (HR0.out.grows (.of_below ag))).mono ?_);rintro e' w' ⟨x,rfl,hx,bs,d,rfl⟩;obtain rfl:=hx zF)
      |((with_reducible refine(HC1.out _ (.of_below ag) (HR1.out.grows (.of_below ag))).mono ?_);rintro e' w' ⟨y,rfl,hy,bs1,d1,rfl⟩;obtain rfl:=hy zF))
     |(go_at_call 117;refine(HM.out _).mono ?_;rintro e' w' ⟨rfl,bs2,d2,rfl⟩))
    refine gy (fun W hW=>?_);have b0:W.cell? ⟨w.heap.size,0,none⟩=some (.int .i64 op):=by rw [<-hW];simp [go_sem]
    have b8:W.cell? ⟨w.heap.size+1+1+bs.size,0,none⟩=some (.int .i64 qm):=by rw [<-hW];simp [go_sem]
    have b10:W.cell? ⟨w.heap.size+1+1+bs.size+1+bs1.size,0,none⟩=some (.int .i64 pm):=by rw [<-hW];simp [go_sem]
    have b13:W.cell? ⟨w.heap.size+1+1+bs.size+1+bs1.size+1+bs2.size,0,none⟩=some (.int .i64 rn):=by rw [<-hW];simp [go_sem]
    have b14:W.cell? ⟨w.heap.size+1+1+bs.size+1+bs1.size+1+bs2.size,1,none⟩=some (.int .i64 rd):=by rw [<-hW];simp [go_sem]
    have hsz:W.heap.size=w.heap.size+1+1+bs.size+1+bs1.size+1+bs2.size+1:=by rw [<-hW];simp
    have z0:w.heap.size<W.heap.size:=by omega
    have z8:w.heap.size+1+1+bs.size<W.heap.size:=by omega
    have z10:w.heap.size+1+1+bs.size+1+bs1.size<W.heap.size:=by omega
    have z13:w.heap.size+1+1+bs.size+1+bs1.size+1+bs2.size<W.heap.size:=by omega
    have r0:W.cell? ⟨w.heap.size+1,0,none⟩=some (.int .i64 0):=by rw [<-hW];simp [go_sem]
    have r1:W.cell? ⟨w.heap.size+1,1,none⟩=some (.bool false):=by rw [<-hW];simp [go_sem]
    have r2:W.cell? ⟨w.heap.size+1,2,none⟩=some (.int .i64 0):=by rw [<-hW];simp [go_sem]
    have r3:W.cell? ⟨w.heap.size+1,3,none⟩=some (.int .i64 0):=by rw [<-hW];simp [go_sem]
    have rf:∀j,W.frozen? ⟨w.heap.size+1,j,none⟩=false:=by intro j;rw [<-hW];simp [go_sem]
    have z1:w.heap.size+1<W.heap.size:=by omega
    have HW:=zh hW;clear hW hsz;generalize w.heap.size+1+1+bs.size+1+bs1.size+1+bs2.size=B13 at *;generalize w.heap.size+1+1+bs.size+1+bs1.size=B10 at *;generalize w.heap.size+1+1+bs.size=B8 at *;refine TS.begin [9,10] (World.Grows _) zf zf aG (fun hS=>?_);refine TS.wkB 0 hS ?_;refine TS.wkB 1 hS ?_;refine TS.wkB 2 hS ?_;refine TS.wkB 3 hS ?_;refine TS.wkB 4 hS ?_;refine TS.wkB 5 hS ?_;refine TS.wkB 7 hS ?_;refine TS.one (i:=6) zf rfl (fun K1 hK1=>?_)
    go_simp
    go_at_call 118
    refine(HD.out _).mono ?_;rintro e' wA ⟨rfl,bA,dA,rfl⟩;refine TS.go hK1 zA (fun hS=>?_);clear hK1 K1
    (try simp only [nS])
    refine TS.one (i:=8) zf rfl (fun K1 hK1=>?_)
    go_simp
    go_at_call 48
    refine(HU.out _ _ _ _).mono ?_;rintro e' wA ⟨rfl,bA,dA,rfl⟩;refine TS.go hK1 zA (fun hS=>?_);clear hK1 K1
    (try simp only [nS])
    refine TS.wtB 9 ?_;refine TS.weB 10 ?_;clear hS;have hW:=HW.out;subst hW;clear b0 b8 b10 b13 b14 z0 z8 z10 z13 r0 r1 r2 r3 rf z1 HW
    go_wp2_with fail
    go_returns
    exact kQ rfl (fun _=>rfl) (.of_below ag)
  ·have hq1:(rc !=0)=true:=by simpa using hrc
   have HC:=zh hrc;have HN:Hid (eQ DM (rn,rd,rc)=(.zero,rc)):=zh (by unfold eQ;rw [if_neg hrc]);rw [HN.out];clear hrc HD HU ho hgc hcmp HN;rcases hlt with hlt|hlt
   all_goals
    go_enter func68,ntmps68
    go_wp2_with (first
     |(go_at_call 68;first
      |((with_reducible refine(HC0.out _ (.of_below ag) (HR0.out.grows (.of_below ag))).mono ?_);rintro e' w' ⟨x,rfl,hx,bs,d,rfl⟩;obtain rfl:=hx zF)
      |((with_reducible refine(HC1.out _ (.of_below ag) (HR1.out.grows (.of_below ag))).mono ?_);rintro e' w' ⟨y,rfl,hy,bs1,d1,rfl⟩;obtain rfl:=hy zF))
     |(go_at_call 117;refine(HM.out _).mono ?_;rintro e' w' ⟨rfl,bs2,d2,rfl⟩))
    go_returns
    exact kQ rfl (fun h=>absurd h HC.out) (.of_below ag)
theorem Ie(v:Vw)(y se:Value)(env:List (ByteArray × Val))(E:Nat)(e:Ex)(a:Option Addr)(cap:Nat)(w:World)(hev:sF w E v y env se)(h1:e.op=3) :
 Calls prog 68 #[.pointer (some ⟨E,0,none⟩),exV e (.slice a e.args.length cap)] w (EvR (ai v env e) w):=by
 have HV:Hid (ai v env e=eQ 4 (gU v.years e.num)):=zh yK;rw [HV.out];have hE:=hev.lt;have hblk:=hev.blk;have HY:=zh hev.yr;have HB:=zh (fun w' (hg:w.Grows w')=>Jk v.years e.num y w' (HY.out.grows hg));have HU:=zh (fun m n d w=>kP m n d w);unfold dM Val.num at HU;unfold evC at hblk;dsimp only at HU;have e12:w.cell? ⟨E,12,none⟩=some y:=cell_of_row _ _ _ _ _ _ hblk;obtain⟨ya,yc,rfl⟩:∃a c,y= .slice a v.years.length c:=by obtain⟨-,a,c,h,-⟩:=hev.yr;exact⟨a,c,h⟩
 unfold frV at HB;generalize gU v.years e.num=R at *;obtain⟨rn,rd,rc⟩:=R;dsimp only at HB;have HR2:Hid (rc=(eQ 4 (rn,rd,rc)).2):=zh (by unfold eQ;split<;>simp_all);have HR1:Hid (rc=0->(⟨4,false,rn,rd⟩:Val)=(eQ 4 (rn,rd,rc)).1):=zh yD;clear hblk hev HV;unfold exV;rw [h1]
 go_enter func68,ntmps68
 go_wp2_with fail
 refine gy (fun W hW=>?_);have hbw:Below w.heap.size w W:=by rw [<-hW];(exact ag)
 have hsz:W.heap.size=w.heap.size+2:=by rw [<-hW];simp
 have hEW:E<W.heap.size:=by omega
 have hcE:W.cell? ⟨E,12,none⟩=w.cell? ⟨E,12,none⟩:=hbw.cell (p:=⟨E,12,none⟩) hE;rw [<-hcE]at e12;have b1:W.cell? ⟨w.heap.size,1,none⟩=some (.int .i64 e.num):=by rw [<-hW];simp [go_sem]
 have hz0:w.heap.size<W.heap.size:=by omega
 have HW:=zh hW;clear hW hcE;refine TS.begin [14] (World.Grows _) zf zf aG (fun hS=>?_);refine TS.wkB 0 hS ?_;refine TS.wkB 1 hS ?_;refine TS.wkB 2 hS ?_;refine TS.wkB 3 hS ?_;refine TS.wkB 4 hS ?_;refine TS.wkB 5 hS ?_;refine TS.wkB 6 hS ?_;refine TS.wkB 7 hS ?_;refine TS.two (i:=8) (k:=12) zf rfl rfl (fun K1 hK1=>?_) (fun K1 hK1=>?_)
 focus
  go_simp
  go_at_call 22
  refine(HB.out _ (.of_below ag)).mono ?_;rintro e' wA ⟨rfl,bA,dA,rfl⟩;refine TS.go hK1 zQ (fun hS=>?_);clear hK1 K1
  (try simp only [nS])
  refine TS.wkB 9 hS ?_;refine TS.wkB 10 hS ?_;refine TS.wkB 11 hS ?_;refine TS.one (i:=12) zf rfl (fun K1 hK1=>?_)
  go_simp
  refine TS.go hK1 (.of_below ag) (fun hS=>?_);clear hK1 K1
  (try simp only [nS])
 rotate_left
 focus
  go_simp
  refine TS.go hK1 (.of_below ag) (fun hS=>?_);clear hK1 K1
  (try simp only [nS])
  refine TS.one (i:=8) zf rfl (fun K1 hK1=>?_)
  go_simp
  go_at_call 22
  refine(HB.out _ (.of_below ag)).mono ?_;rintro e' wA ⟨rfl,bA,dA,rfl⟩;refine TS.go hK1 zQ (fun hS=>?_);clear hK1 K1
  (try simp only [nS])
  refine TS.wkB 9 hS ?_;refine TS.wkB 10 hS ?_;refine TS.wkB 11 hS ?_
 rotate_left
 all_goals
  refine TS.one (i:=13) zf rfl (fun K1 hK1=>?_)
  go_simp
  refine TS.go hK1 (.of_below ag) (fun hS=>?_);clear hK1 K1
  (try simp only [nS])
  refine TS.weB 14 ?_;clear hS;have hW:=HW.out;subst hW;clear hbw hsz hEW e12 b1 hz0 HW
  go_wp2_with (go_at_call 48;refine(HU.out _ _ _ _).mono ?_;rintro e' w' ⟨rfl,bs3,d3,rfl⟩)
  go_returns
  exact kQ HR2.out HR1.out (.of_below ag)
theorem mG(S:Nat->Prop)(v:Vw)(y se:Value)(env:List (ByteArray × Val))(E:Nat)(hv:v.ok=true)(hE:∀p∈env,p.2.ok=true)(hr:dN v)(n:Nat):∀(e:Ex),e.size<=n->aN e=true->(aD (aR env) e).2=0->
 ∀(a:Option Addr) (cap:Nat) (w:World),aC S w e (.slice a e.args.length cap)->sF w E v y env se->
 Calls prog 68 #[.pointer (some ⟨E,0,none⟩),exV e (.slice a e.args.length cap)] w (EvR (ai v env e) w):=by
 induction n with
 |zero=>intro e he;have:=e.size_pos;omega
 |succ n ih=>
  intro e he hf hi a cap w hrep hev;by_cases h1:e.op=1
  ·exact KN v env E e a cap w h1
  by_cases h2:e.op=2
  ·refine Ic v y se env E e a cap w hev hr h2 (um hv hE ?_);rw [iK]at hi;unfold fA at hi;rw [if_neg h1,if_neg ze,if_pos h2]at hi;exact hi
  by_cases h3:e.op=3
  ·exact Ie v y se env E e a cap w hev h3
  obtain⟨ds,hdl,hds,ho4,ho21,hres,hargs⟩:=Ar hv hE hf hi h1 h2 h3
  have IH:∀w',w.Grows w'->∀k,k<e.args.length->CR S E w' (e.arg k) (ai v env (e.arg k)):=fun w' hg k hk ak ck w2 hg2 hr2=>by
   have hsm:=e.size_arg k hk;obtain⟨q1,q2,-⟩:=hargs k hk;exact ih (e.arg k) ze q1 q2 ak ck w2 hr2 (hev.grows (World.Grows.trans hg hg2))
  have hok:∀k,k<e.args.length->(ai v env (e.arg k)).2=0->(ai v env (e.arg k)).1.ok=true/\(ai v env (e.arg k)).1.dim=ds.getD k 0:=fun k hk h0=>((hargs k hk).2.2).good h0;by_cases h6:e.op<=6
  ·have hlen:0<e.args.length:=by unfold bi at hds;(repeat' split at hds)<;>omega
   exact Ej S v env E e a cap w hrep ze hlen (fun h0=>Val.ok_rng (hok 0 hlen h0).1) (fun w' hg=>IH w' hg 0 hlen)
  have hlen:2<=e.args.length:=by unfold bi at hds;(repeat' split at hds)<;>omega
  by_cases hl:e.op=17\/e.op=18\/e.op=21
  ·exact Em S v env E e a cap w hrep hl hlen (fun ho=>by unfold bi at hds;(repeat' split at hds)<;>omega) IH
  ·have hlen2:ds.length=2:=by unfold bi at hds;(repeat' split at hds)<;>omega
   obtain⟨p,q,rfl⟩:∃p q,ds= [p,q]:=by
    match ds,hlen2 with
    | [p,q],_=>exact⟨p,q,rfl⟩
   refine KO S v env E e a cap w hrep ze hlen (fun h0=>(hok 0 ze h0).1) (fun h0=>(hok 1 ze h0).1) (fun g0 g1=>?_) IH;rw [(hok 0 ze g0).2,(hok 1 ze g1).2];exact hres
def nT(l:List (ByteArray × Int)):List Value:=l.flatMap fun p=>[.string p.1,.int .i64 p.2]
theorem IE(l:List (ByteArray × Int)):∀i,i<l.length->(nT l)[i*2]? =some (.string (bdN l i))/\(nT l)[i*2+1]? =some (.int .i64 (bdD l i)):=by
 induction l with
 |nil=>intro i hi;simp at hi
 |cons p r ih=>
  intro i hi
  cases i with
  |zero=>exact⟨rfl,rfl⟩
  |succ i=>
   obtain⟨h1,h2⟩:=ih i (by simpa using hi);have e1:(i+1)*2=i*2+1+1:=by omega
   have e2:(i+1)*2+1=i*2+1+1+1:=by omega
   rw [e1,show i*2+1+1+1=(i*2+1)+1+1 by omega];exact⟨h1,h2⟩
theorem lu(l:List (ByteArray × Int))(p:ByteArray × Int):nT (l++[p])=nT l++[.string p.1,.int .i64 p.2]:=by
 unfold nT;simp
theorem aW.of_own{w:World}{base:Nat}{v:Value}{l:List (ByteArray × Int)}(h:w.ownsRow base 64 2 v l.length (nT l))(hl:l.length<=1000):aW w v l:=by
 obtain⟨-,⟨rfl,h0⟩|⟨g,cap,cur,rfl,hb,hg,h2,h3,h4,h5⟩⟩:=id h
 ·exact⟨by omega,none,0,by rw [h0],.inl h0⟩
 ·refine⟨by omega,_,cap,rfl,.inr ⟨g,0,rfl,(Array.getElem?_eq_some_iff.1 hg).1,fun i hi=>?_⟩⟩;obtain⟨g1,g2⟩:=IE l i hi;rw [Nat.zero_add,h.cellAt (i*2) ze,h.cellAt (i*2+1) ze];exact⟨g1,g2⟩
theorem xB(env:List (ByteArray × Val))(k:Nat)(hk:k<env.length):aR (env.take (k+1))=aR (env.take k)++[(stN env k,(stV env k).dim)]:=by
 unfold aR stN stV;rw [take_succ_eq_append_getElem hk,map_append,getD_eq_getElem?_getD,getElem?_eq_getElem hk];rfl
theorem Fz{env:List (ByteArray × Val)}{k:Nat}(hk:k<env.length)(hb:(stV env k).ok=false):(env.any fun p=>!p.2.ok)=true:=by
 rw [any_eq_true];refine⟨env[k],getElem_mem hk, ?_⟩;have:stV env k=env[k].2:=by unfold stV;rw [getD_eq_getElem?_getD,getElem?_eq_getElem hk];rfl
 rw [<-this,hb];rfl
theorem Ce{env:List (ByteArray × Val)}(hg:∀k,k<env.length->(stV env k).ok=true):∀p∈env,p.2.ok=true:=by
 intro p hp;obtain⟨k,hk,rfl⟩:=mem_iff_getElem.1 hp;have:=hg k hk;unfold stV at this
 rwa [getD_eq_getElem?_getD,getElem?_eq_getElem hk]at this
theorem Om{env:List (ByteArray × Val)}(h:∀p∈env,p.2.ok=true):(env.any fun p=>!p.2.ok)=false:=by
 rw [any_eq_false];intro p hp;rw [h p hp];simp
theorem yV{env:List (ByteArray × Val)}(h:∀p∈env,p.2.ok=true):gm (aR env)=true:=by
 unfold gm aR;rw [all_eq_true];intro q hq;obtain⟨p,hp,rfl⟩:=mem_map.1 hq;have:=Val.ok_dim (h p hp);exact decide_eq_true this
theorem EN{env:List (ByteArray × Val)}{k:Nat}(hk:k<env.length):∃p∈env,stV env k=p.2:=⟨env[k],getElem_mem hk,by unfold stV;rw [getD_eq_getElem?_getD,getElem?_eq_getElem hk];rfl⟩
theorem xA{v:Vw}{env:List (ByteArray × Val)}{e:Ex}(hv:v.ok=true)(hE:∀p∈env,p.2.ok=true) :
 dQ v env e=if(aT (aR env) e).2≠0 then(.zero,(aT (aR env) e).2)else if(ai v env e).2≠0 then(.zero,(ai v env e).2)else ai v env e:=by
 unfold dQ aT;rw [Om hE,hv,yV hE]
 cases hb:cZ e with
 |false=>simp
 |true=>simp
theorem Fj:(prog.info? 64).map (fun i=>(i.zero,i.size,i.bytes))=some (some (.agg #[.string ⟨#[]⟩,.int .i64 0]),2,24):=by kernel_rfl
def vH(r:Val × Int)(w:World)(e:Ending)(w':World):Prop:=e= .returned (.tuple #[dM r.1,.int .i64 r.2])/\w.Grows w'
theorem yU{r:Val × Int}{m n d c:Int}{b:Bool}{w w':World}(h:r=(⟨m,b,n,d⟩,c))(hg:w.Grows w'):vH r w (.returned (.tuple #[.agg #[.int .i64 m,.bool b,.int .i64 n,.int .i64 d],.int .i64 c])) w':=by
 subst h;exact⟨rfl,hg⟩
theorem Er(S:Nat->Prop)(v:Vw)(y se:Value)(env:List (ByteArray × Val))(e:Ex)(a:Option Addr)(cap:Nat)(w:World)(hy:bK w y v.years)(hr:dN v)(hs:aV w se env)(hv:v.ok=false) :
 Calls prog 29 #[exV e (.slice a e.args.length cap),vwV v y,se] w (vH (dQ v env e) w):=by
 have HF:Hid (dQ v env e=(.zero,1)):=zh (by unfold dQ;rw [if_pos (.inl hv)]);rw [HF.out];have HY:=zh hy;have HV:=zh (fun w' (hg:w.Grows w')=>fK v y w' hr (HY.out.grows hg));rw [hv]at HV;obtain⟨ya,yc,rfl⟩:∃a c,y= .slice a v.years.length c:=by obtain⟨-,a,c,h,-⟩:=hy;exact⟨a,c,h⟩
 obtain⟨sa,sc,rfl⟩:∃a c,se= .slice a env.length c:=by obtain⟨-,a,c,h,-⟩:=hs;exact⟨a,c,h⟩
 clear hy hr hs hv HF;unfold vwV at HV ⊢;unfold exV
 go_enter func29,ntmps29
 go_wp2_with (go_at_call 20;refine(HV.out _ (.of_below ag)).mono ?_;rintro e' w' ⟨rfl,bs,d,rfl⟩)
 go_returns
 exact yU rfl (.of_below ag)
theorem KQ(S:Nat->Prop)(v:Vw)(y se:Value)(env:List (ByteArray × Val))(e:Ex)(a:Option Addr)(cap:Nat)(w:World)(h:aC S w e (.slice a e.args.length cap))(hbig:e.size<=2305843009213693952)(ht:Tab w)(hy:bK w y v.years)(hr:dN v)(hs:aV w se env)(hS:∀p∈env,vV p.2)(hv:v.ok=true) :
 Calls prog 29 #[exV e (.slice a e.args.length cap),vwV v y,se] w (vH (dQ v env e) w):=by
 obtain⟨i0,hi,hz0,hz1,hz2⟩:=info_parts Fj;have HR:=zh h;have HT:=zh ht;have HY:=zh hy;have HS:=zh hs;have HSR:=zh hS;have HV:=zh (fun w' (hg:w.Grows w')=>fK v y w' hr (HY.out.grows hg));rw [hv]at HV;have HBAD:Hid (∀k,k<env.length->(stV env k).ok=false->dQ v env e=(.zero,1)):=zh (fun k hk hb=>by unfold dQ;rw [if_pos (.inr (.inl (Fz hk hb)))])
 have HINF:Hid (∀w' vb,w.Grows w'->aW w' vb (aR env)->Calls prog 67 #[exV e (.slice a e.args.length cap),vb] w' (jl (aT (aR env) e) w')):=
  zh (fun w' vb hg hb=>oK S (aR env) e _ vb w' (HR.out.grows hg) hbig (HT.out.grows hg) hb)
 have HGOOD:=zh (fun hE=>xA (v:=v) (env:=env) (e:=e) hv hE)
 have HEV:Hid ((∀p∈env,p.2.ok=true)->(aT (aR env) e).2=0->∀X N,w.Grows X->X.heap.size=N->Calls prog 68 #[.pointer (some ⟨N,0,none⟩),exV e (.slice a e.args.length cap)] (X.alloc (.cells (evC v y se) 126)) (EvR (ai v env e) (X.alloc (.cells (evC v y se) 126)))):=
  zh (fun hE hi X N hg hN=>by
   subst hN
   have hvb:cZ e=true:=by
    unfold aT at hi
    split at hi<;>rename_i hc
    ·exact hc.1
    ·simp at hi
   have hi2:(aD (aR env) e).2=0:=by rwa [lq hvb (yV hE)]at hi
   have hg2:w.Grows (X.alloc (.cells (evC v y se) 126)):=World.Grows.trans hg (.of_below ag)
   exact mG S v y se env _ hv hE hr e.size e (Nat.le_refl _) (gW hvb) hi2 a cap _ (HR.out.grows hg2) ⟨World.alloc_heap_new _ _,HY.out.grows hg2,HS.out.grows hg2⟩)
 obtain⟨ya,yc,rfl⟩:∃a c,y= .slice a v.years.length c:=by obtain⟨-,a,c,h,-⟩:=hy;exact⟨a,c,h⟩
 obtain⟨sa,sc,rfl⟩:∃a c,se= .slice a env.length c:=by obtain⟨-,a,c,h,-⟩:=hs;exact⟨a,c,h⟩
 have h1000:=hs.1;clear h ht hy hr hs hS hv hbig;unfold vwV at HV ⊢;unfold evC at HEV;unfold EvR exV dM at HEV;unfold jl exV at HINF;unfold exV
 go_enter func29,ntmps29
 go_wp2_with (go_at_call 20;refine(HV.out _ (.of_below ag)).mono ?_;rintro e' w' ⟨rfl,bs,d,rfl⟩)
 go_loopw [8,10,22] (fun v8 _ v22 wr=>∃(k:Nat) (vb:Value),vb=v8/\k<=env.length/\v22= .int .i64 k/\Hid (∀j,j<k->(stV env j).ok=true)/\Below (w.heap.size+1+1+1+bs.size) (((((w.alloc (.cells #[.int .i64 e.op,.int .i64 e.num,.int .i64 e.den,.int .i64 e.dim,.string e.name,.slice a e.args.length cap] 51)).alloc (.cells #[.int .i64 v.age,.int .i64 v.year,.int .i64 v.children,.int .i64 v.insured,.int .i64 v.worked,.int .i64 v.voluntary,.int .i64 v.service,.int .i64 v.equated,.int .i64 v.raising,.int .i64 v.resident,.int .i64 v.bn,.int .i64 v.bd,.slice ya v.years.length yc] 26)).alloc (.cells #[.int .i64 0,.bool false,.int .i64 0,.int .i64 0] 34)).grow bs d)) wr/\wr.ownsRow (w.heap.size+1+1+1+bs.size) 64 2 vb k (nT (aR (env.take k)))) (fun _ _ v22 _=>env.length-(intOf v22).toNat)
 case atStart=>exact⟨0,_,rfl,by omega,rfl,zh (fun j hj=>by omega),.refl _ _,World.ownsRow_nil _ _ _ _⟩
 case round=>
  obtain⟨k,vb,rfl,hk,rfl,hno,hB,hown⟩:=hrel;have hG0:World.Grows (((((w.alloc (.cells #[.int .i64 e.op,.int .i64 e.num,.int .i64 e.den,.int .i64 e.dim,.string e.name,.slice a e.args.length cap] 51)).alloc (.cells #[.int .i64 v.age,.int .i64 v.year,.int .i64 v.children,.int .i64 v.insured,.int .i64 v.worked,.int .i64 v.voluntary,.int .i64 v.service,.int .i64 v.equated,.int .i64 v.raising,.int .i64 v.resident,.int .i64 v.bn,.int .i64 v.bd,.slice ya v.years.length yc] 26)).alloc (.cells #[.int .i64 0,.bool false,.int .i64 0,.int .i64 0] 34)).grow bs d)) wr:=.of_below (by simpa using hB);have hG:w.Grows wr:=World.Grows.trans (.of_below ag) hG0;have HO:=zh hown;have HB:=zh hB;have HG:=zh hG;have HG0:=zh hG0;have hsW:w.heap.size+1+1+1+bs.size<=wr.heap.size:=by have:=hB.size;simpa using this
  clear hB hown hG hG0;by_cases hlt:k<env.length
  ·obtain⟨-,sa',sc',hv2,hcs⟩:=HS.out.grows HG.out;simp only [Value.slice.injEq,true_and]at hv2;obtain⟨rfl,rfl⟩:=hv2;rcases hcs with h0|⟨b,off,rfl,hbw,hx⟩
   ·omega
   obtain⟨s0,s1,s2,s3,s4⟩:=hx k hlt
   have HVV:Hid (∀w,Calls prog 66 #[dM (stV env k)] w fun r w'=>r= .returned (.bool (stV env k).ok)/\w.Grows w'):=zh (fun w=>by
    obtain⟨p,hp,he⟩:=EN hlt
    exact rW _ w (by rw [he];exact HSR.out p hp))
   have HBD:=zh (HBAD.out k hlt);have HNX:=zh (xB env k hlt);have HKL:=zh hlt;have d1:(k:Int)<(env.length:Int):=by omega
   unfold dM at HVV
   have HKK:Hid ((stV env k).ok=true->∀j,j<k+1->(stV env j).ok=true):=zh (fun h j hj=>by
    by_cases ej:j=k
    ·subst ej;exact h
    ·exact hno.out j ze)
   generalize stN env k=nk at *;generalize stV env k=xk at *;obtain⟨xm,xy,xn,xd⟩:=xk;dsimp only at s1 s2 s3 s4 HVV HNX
   cases hq:(Val.mk xm xy xn xd).ok with
   |true=>
    rw [hq]at HVV;have HQ:=zh (HKK.out hq);clear hx hlt hq HKK HBD
    go_wp2_with (first
     |(go_at_call 66;refine(HVV.out _).mono ?_;rintro e' w' ⟨rfl,bs2,d2,rfl⟩)
     |(at_builtin;refine wpList_append_own _ rfl _ _ 54 rfl (w.heap.size+1+1+1+bs.size) 64 i0 (.agg #[.string ⟨#[]⟩,.int .i64 0]) 2 24 underlying54 hi hz0 hz1 hz2 rfl zo _ _ _ rfl ((bL (HO.out.alloc _) ⟨bs2,d2,rfl⟩).alloc _) ⟨wr.heap.size+1+bs2.size,0,none⟩ 1 1 [.string nk,.int .i64 xm] rfl rfl ?c1 ?c2 ?c3 ?c4 ?c5 ?_))
    case c1=>exact aK _ [.string nk,.int .i64 xm] _ _ zg
    case c2=>intro u hu;simp at hu;rcases hu with rfl|rfl<;>rfl
    case c3=>unfold maxLen;omega
    case c4=>omega
    case c5=>simp;omega
    intro v' w1 hown' hgrow _;have HB1:=zh ((show Below (w.heap.size+1+1+1+bs.size) (((((w.alloc (.cells #[.int .i64 e.op,.int .i64 e.num,.int .i64 e.den,.int .i64 e.dim,.string e.name,.slice a e.args.length cap] 51)).alloc (.cells #[.int .i64 v.age,.int .i64 v.year,.int .i64 v.children,.int .i64 v.insured,.int .i64 v.worked,.int .i64 v.voluntary,.int .i64 v.service,.int .i64 v.equated,.int .i64 v.raising,.int .i64 v.resident,.int .i64 v.bn,.int .i64 v.bd,.slice ya v.years.length yc] 26)).alloc (.cells #[.int .i64 0,.bool false,.int .i64 0,.int .i64 0] 34)).grow bs d)) _ from by have:=HB.out;(exact ag)).grown hgrow zp (fun k hk=>(HO.out.lt k hk).1));have HO1:=zh hown';clear hown' hgrow
    go_wp2_with fail
    go_roundw
    case rel=>exact⟨k+1,_,rfl,HKL.out,by go_num,HQ,HB1.out,by rw [HNX.out,lu];exact HO1.out⟩
    case measure=>simp [intOf];have:=HKL.out;omega
   |false=>
    rw [hq]at HVV;have HF:=zh (HBD.out hq);clear hx hlt hq HKK HBD;rw [HF.out];obtain⟨bs9,d9,rfl⟩:=HG0.out;simp only [World.grow_grow]at s0 s1 s2 s3 s4
    go_wp2_with (go_at_call 66;refine(HVV.out _).mono ?_;rintro e' w' ⟨rfl,bs2,d2,rfl⟩)
    go_returns
    exact yU rfl (.of_below ag)
  ·obtain rfl:k=env.length:=by omega
   have hE:=Ce hno.out;have hgd:=HGOOD.out hE;have HEV2:=zh (HEV.out hE)
   have hbd:aW wr vb (aR env):=by
    have h1:=HO.out;rw [take_length]at h1;have hl:(aR env).length=env.length:=by unfold aR;simp
    exact aW.of_own (by rw [hl];exact h1) (by rw [hl];exact h1000)
   obtain⟨bs9,d9,rfl⟩:=HG0.out;have HBND:=zh hbd;have HI2:=zh (fun w' hg hb=>HINF.out w' vb hg hb);obtain⟨-,va,vc,rfl,-⟩:=hbd;have HGD:=zh hgd;clear hgd;generalize aT (aR env) e=q at *;generalize ai v env e=r at *;obtain⟨qm,qc⟩:=q;obtain⟨⟨rm,ry,rn,rd⟩,rc⟩:=r;dsimp only at HI2 HEV2 HGD;by_cases hqc:qc=0
   ·subst hqc;have HEV3:=zh (HEV2.out rfl);by_cases hrc:rc=0
    ·subst hrc;have HF:Hid (dQ v env e=(⟨rm,ry,rn,rd⟩,0)):=zh (by rw [HGD.out];simp)
     go_wp2_with (first
      |(go_at_call 67;refine(HI2.out _ (.of_below ag) yw).mono ?_;rintro e' w' ⟨rfl,bs4,d4,rfl⟩)
      |(go_at_call 68;refine(HEV3.out _ _ (.of_below ag) zB).mono ?_;rintro e' w' ⟨x,rfl,hx,bs5,d5,rfl⟩;obtain rfl:=hx zF))
     go_returns
     exact yU HF.out (.of_below ag)
    ·have hq1:(rc !=0)=true:=by simpa using hrc
     have HF:Hid (dQ v env e=(.zero,rc)):=zh (by rw [HGD.out];simp [hrc]);clear hrc
     go_wp2_with (first
      |(go_at_call 67;refine(HI2.out _ (.of_below ag) yw).mono ?_;rintro e' w' ⟨rfl,bs4,d4,rfl⟩)
      |(go_at_call 68;refine(HEV3.out _ _ (.of_below ag) zB).mono ?_;rintro e' w' ⟨⟨xm,xy,xn,xd⟩,rfl,hx,bs5,d5,rfl⟩))
     go_returns
     exact yU HF.out (.of_below ag)
   ·have hq1:(qc !=0)=true:=by simpa using hqc
    have HF:Hid (dQ v env e=(.zero,qc)):=zh (by rw [HGD.out];simp [hqc]);clear hqc HEV2
    go_wp2_with (go_at_call 67;refine(HI2.out _ (.of_below ag) yw).mono ?_;rintro e' w' ⟨rfl,bs4,d4,rfl⟩)
    go_returns
    exact yU HF.out (.of_below ag)
theorem Ji(S:Nat->Prop)(v:Vw)(y se:Value)(env:List (ByteArray × Val))(e:Ex)(a:Option Addr)(cap:Nat)(w:World)(h:aC S w e (.slice a e.args.length cap))(hbig:e.size<=2305843009213693952)(ht:Tab w)(hy:bK w y v.years)(hr:dN v)(hs:aV w se env)(hS:∀p∈env,vV p.2) :
 Calls prog 29 #[exV e (.slice a e.args.length cap),vwV v y,se] w (vH (dQ v env e) w):=by
 cases hv:v.ok with
 |false=>exact Er S v y se env e a cap w hy hr hs hv
 |true=>exact KQ S v y se env e a cap w h hbig ht hy hr hs hS hv
theorem Bc(n d m:Int)(w:World):Calls prog 53 #[.int .i64 n,.int .i64 d,.int .i64 m] w fun e w'=>e= .returned (exV (.mk 1 n d m noN []) (.slice none 0 0))/\w.Grows w':=by
 show Calls _ _ _ _ fun e w'=>e= .returned (.agg #[.int .i64 1,.int .i64 n,.int .i64 d,.int .i64 m,.string ⟨#[]⟩,.slice none 0 0])/\_
 go_enter func53,ntmps53
 exact nW
theorem Gy(s:ByteArray)(w:World):Calls prog 52 #[.string s] w fun e w'=>e= .returned (exV (.mk 2 0 0 0 s []) (.slice none 0 0))/\w.Grows w':=by
 show Calls _ _ _ _ fun e w'=>e= .returned (.agg #[.int .i64 2,.int .i64 0,.int .i64 0,.int .i64 0,.string s,.slice none 0 0])/\_
 go_enter func52,ntmps52
 exact nW
def R7(op:Int)(o1 o2:Ex)(w:World)(e:Ending)(w':World):Prop:=
 ∃b,e= .returned (.agg #[.int .i64 op,.int .i64 0,.int .i64 0,.int .i64 0,.string ⟨#[]⟩,.slice (some ⟨b,0,none⟩) 2 2])/\w.Grows w'/\aC (fun _=>True) w' (.mk op 0 0 0 noN [o1,o2]) (.slice (some ⟨b,0,none⟩) 2 2)
theorem tH(op:Int)(ho:0<=op/\op<=100)(o1 o2:Ex)(v1 v2:Value)(w:World)(h1:aC (fun _=>True) w o1 v1)(h2:aC (fun _=>True) w o2 v2) :
 Calls prog 51 #[.int .i64 op,exV o1 v1,exV o2 v2] w (R7 op o1 o2 w):=by
 obtain⟨a1,c1,rfl⟩:=h1.form0;obtain⟨a2,c2,rfl⟩:=h2.form0;have H1:=zh h1;have H2:=zh h2;clear h1 h2;unfold exV
 go_enter func51,ntmps51
 go_wp2_with fail
 go_returns
 refine⟨_,rfl,.of_below ag, ?_⟩;exact aC.pair op ho trivial (aY _ _ _ zg) (H1.out.grows (.of_below ag)) (H2.out.grows (.of_below ag))
theorem aC.nil8(w:World)(op n d m:Int)(s:ByteArray)(h1:-1000<=op/\op<=1000)(h2:-1000<=n/\n<=1000)(h3:-1000<=d/\d<=1000)(h4:-1000<=m/\m<=1000)(h5:s.size<=1000):aC (fun _=>True) w (.mk op n d m s []) (.slice none 0 0):=
 aC.nil ⟨⟨by show _<=op;omega,by show op<=_;omega⟩,⟨by show _<=n;omega,by show n<=_;omega⟩,⟨by show _<=d;omega,by show d<=_;omega⟩,⟨by show _<=m;omega,by show m<=_;omega⟩,by simp [Ex.args],by show s.size<=_;omega⟩ rfl
def nmE(s:ByteArray):Ex:=.mk 2 0 0 0 s []
def ltE(n d m:Int):Ex:=.mk 1 n d m noN []
theorem L6(w:World):bK w (.slice none 0 0) awV.years:=⟨by decide,none,0,rfl,.inl rfl⟩
theorem JM(w:World):aV w (.slice none 0 0) []:=⟨by decide,none,0,rfl,.inl rfl⟩
theorem vo(w:World)(ht:Tab w):Calls prog 19 #[] w fun e w'=>e= .returned (.bool true)/\w.Grows w':=by
 have HT:=zh ht;have HX:=zh (fun w b (hR:aC (fun _=>True) w awE (.slice (some ⟨b,0,none⟩) 2 2)) (ht:Tab w)=>Ji (fun _=>True) awV (.slice none 0 0) (.slice none 0 0) [] awE (some ⟨b,0,none⟩) 2 w hR zq ht (L6 w) ⟨⟨by decide,by decide⟩,⟨by decide,by decide⟩⟩ (JM w) (fun p hp=>by cases hp));unfold vH at HX;rw [OI]at HX;unfold dM at HX;dsimp only at HX;clear ht
 go_enter func19,ntmps19
 go_wp2_with (first
  |(go_at_call 52;refine(Gy _ _).mono ?_;rintro e' w' ⟨rfl,bs,d,rfl⟩)
  |(go_at_call 53;refine(Bc _ _ _ _).mono ?_;rintro e' w' ⟨rfl,bs,d,rfl⟩))
 go_at_call 51
 refine(tH 10 ze (nmE pg) (ltE 365 1 3) _ _ _ (aC.nil8 _ _ _ _ _ _ ze ze ze ze zo) (aC.nil8 _ _ _ _ _ _ ze ze ze ze zo)).mono ?_;rintro e' Wb1 ⟨b1,rfl,hg,hr⟩;have Gb1:Hid (w.Grows Wb1):=zh (World.Grows.trans (.of_below ag) hg);have Rb1:=zh hr;clear hr hg
 go_wp2_with fail
 go_at_call 51
 refine(tH 9 ze (nmE Lg) (.mk 10 0 0 0 noN [nmE pg,ltE 365 1 3]) _ _ _ (aC.nil8 _ _ _ _ _ _ ze ze ze ze zo) (Rb1.out)).mono ?_;rintro e' Wb2 ⟨b2,rfl,hg,hr⟩;have Gb2:Hid (w.Grows Wb2):=zh (World.Grows.trans (Gb1.out) hg);have Rb2:=zh hr;clear hr hg
 go_wp2_with (go_at_call 53;refine(Bc _ _ _ _).mono ?_;rintro e' w' ⟨rfl,bs,d,rfl⟩)
 go_at_call 51
 refine(tH 9 ze (.mk 9 0 0 0 noN [nmE Lg,.mk 10 0 0 0 noN [nmE pg,ltE 365 1 3]]) (ltE 1 50 2) _ _ _ (Rb2.out.grows (.of_below ag)) (aC.nil8 _ _ _ _ _ _ ze ze ze ze zo)).mono ?_;rintro e' Wb3 ⟨b3,rfl,hg,hr⟩;have Gb3:Hid (w.Grows Wb3):=zh (World.Grows.trans (World.Grows.trans Gb2.out (.of_below ag)) hg);have Rb3:=zh hr;clear hr hg
 go_wp2_with (go_at_call 29;refine(HX.out _ b3 (Rb3.out.grows (.of_below ag)) (HT.out.grows (World.Grows.trans Gb3.out (.of_below ag)))).mono ?_;rintro e' w' ⟨rfl,bs7,d7,rfl⟩)
 go_returns
 exact⟨rfl,World.Grows.trans Gb3.out (.of_below ag)⟩
theorem bK.of_rowB{w:World}{base:Nat}{v:Value}{l:List Int}{k:Nat}{xs:List Value}(h:w.ownsRow base 3 1 v k xs)(hk:k=l.length)(hx:xs=l.map (Value.int .i64))(hl:l.length<=1000):bK w v l:=by
 subst hk hx;exact bK.of_row h hl
theorem oZ{w:World}{base:Nat}{v:Value}{k:Nat}{xs:List Value}(h:w.ownsRow base 3 1 v k xs):(v= .slice none 0 0/\k=0)\/∃g cap,v= .slice (some ⟨g,0,none⟩) k cap/\base<=g/\g<w.heap.size:=by
 exact QO
end Go.Proofs.YtlheailebbngiaaGreatDoor
namespace Go
theorem aH{P:Program}{ops:Array Oper}{o:Oper}{a:Act}{w:World}{K:Act->World->Prop}{Q:Exit->Act->World->Prop}{E:Prop}(hgd:o.guard=none)(s x:Operand)(t:TypeId)
 (ho:o.op= .call {callee:=.builtin .append,args:=#[s,x],argTypes:=#[t,t]})
 (base:Nat) (e:TypeId) (i:TypeInfo) (z:Value) (size bytes:Nat) (ht:P.underlying t=some (.slice e)) (hi:P.info? e=some i) (hz:i.zero=some z)
 (hsize:i.size=size) (hby:i.bytes=bytes) (hzs:z.cells.size=size) (hsz:0<size)
 (v:Value) (n:Nat) (xs:List Value) (hs:a.eval s=v) (hown:w.ownsRow base e size v n xs)
 (ad:Addr) (m c:Nat) (news:List Value) (hx:a.eval x= .slice (some ad) m c) (hl:news.length=m*size) (hnews:∀j u,news[j]? =some u->w.cell? (ad.add j)=some u) (h1:∀u∈news,u.oneCell'=true)
 (h63:n+m<=maxLen) (hbytes:(n+m)*bytes<=140737488355328) (hbase:base<=w.heap.size)
 (h:∀v' w',w'.ownsRow base e size v' (n+m) (xs++news)->w.grownBy w' v.ownBlock->K (a.put o.dst v') w') :
 if Region.wanted o (yielded ops a.tmps)=true then Oper.wp P o a w K Q else E:=by
 have hw:Region.wanted o (yielded ops a.tmps)=true:=by simp [Region.wanted,hgd]
 rw [if_pos hw];exact wp_append_own w s x t ho base e i z size bytes ht hi hz hsize hby hzs hsz v n xs hs hown ad m c news hx hl hnews h1 h63 hbytes hbase fun v' w' h2 h3 _=>h v' w' h2 h3
theorem gY{P:Program}{ops:Array Oper}{o:Oper}{a:Act}{w:World}{K:Act->World->Prop}{Q:Exit->Act->World->Prop}{E:Prop}(hgd:o.guard=none)(s x:Operand)(t:TypeId)
 (ho:o.op= .call {callee:=.builtin .append,args:=#[s,x],argTypes:=#[t,t]})
 (base:Nat) (e:TypeId) (i:TypeInfo) (size:Nat) (ht:P.underlying t=some (.slice e)) (hi:P.info? e=some i)
 (v:Value) (n:Nat) (xs:List Value) (hs:a.eval s=v) (hown:w.ownsRow base e size v n xs) (hx:a.eval x= .slice none 0 0)
 (h:K (a.put o.dst v) w):if Region.wanted o (yielded ops a.tmps)=true then Oper.wp P o a w K Q else E:=by
 have hw:Region.wanted o (yielded ops a.tmps)=true:=by simp [Region.wanted,hgd]
 rw [if_pos hw];have hrun:=run_append_owned_none (P:=P) (w:=w) base t o.type e i size ht hi v n xs hown;unfold Oper.wp;simp [execOp,ho,resolve,invoke,builtin,hs,hx,hrun,Result.andThen];exact h
end Go
namespace Go
open Go.RowKit
theorem RowKit.Below.setBoth{B:Nat}{a w:World}(h:Below B a w)(p:Addr)(v:Value):Below B (a.setCell p v) (w.setCell p v):=
 ⟨h.os,h.tape,h.output,by simpa [World.setCell]using h.size,fun k hk=>by
  simp only [World.setCell,Array.getElem?_modify]
  rw [h.block k hk]⟩
theorem World.heap_grow_same{X Y:World}(hs:X.heap.size=Y.heap.size)(bs:Array Obj)(d d':Nat){k:Nat}(hk:X.heap.size<=k):(Y.grow bs d').heap[k]? =(X.grow bs d).heap[k]?:=by
 show(Y.heap++bs)[k]? =(X.heap++bs)[k]?;rw [Array.getElem?_append_right ze,Array.getElem?_append_right hk,hs]
theorem World.ownsRow_same{X Y:World}(hs:X.heap.size=Y.heap.size){bs:Array Obj}{d d':Nat}{base size n:Nat}{e:TypeId}{v:Value}{xs:List Value}(hb:X.heap.size<=base)(h:(X.grow bs d).ownsRow base e size v n xs):(Y.grow bs d').ownsRow base e size v n xs:=by
 obtain⟨h0,h1|⟨g,cap,cur,hv,hbg,hg,hr⟩⟩:=h
 ·exact⟨h0,.inl h1⟩
 ·exact⟨h0,.inr ⟨g,cap,cur,hv,hbg,(World.heap_grow_same hs bs d d' ze).trans hg,hr⟩⟩
end Go
namespace Go
theorem aj{w w':World}(h:RowKit.Below w.heap.size w w':=by(try simp only [World.grow_grow,World.grow_drew,World.drew_grow,<-Array.append_assoc]);repeat' (first|(with_reducible exact Go.RowKit.Below.fin)|(with_reducible exact Go.RowKit.Below.refl _ _)|(with_reducible assumption)|(with_reducible refine Go.RowKit.Below.peel ?_ ?_)|(with_reducible refine Go.RowKit.Below.grow ?_ ?_ _ _)|(with_reducible refine Go.RowKit.Below.alloc ?_ ?_ _)|(with_reducible refine Go.RowKit.Below.drewN ?_ _)|(with_reducible refine Go.RowKit.Below.drew ?_)|(with_reducible refine Go.RowKit.Below.setCell ?_ ?_ _)|go_size)):w.Grows w':=.of_below h
end Go
namespace Go.Proofs.YtlheailebbngiaaGreatDoor
open Go.Proofs.Tryz List
open Go.RowKit
def ApP(r:Val × Int)(w:World)(e:Ending)(w':World):Prop:=e= .returned (.tuple #[.agg #[.int .i64 r.1.dim,.bool r.1.yes,.int .i64 r.1.n,.int .i64 r.1.d],.int .i64 r.2])/\w.Grows w'
def apD(x y:Val):List Value:=[x.dim,y.dim].map (Value.int .i64)
theorem Lt(x y:Val)(k:Nat)(hk:k<2)(dk:Int)(h:[x.dim,y.dim].getD k 0=dk):(apD x y).take (k+1)=(apD x y).take k++[.int .i64 dk]:=by
 subst h;rcases(show k=0\/k=1 by omega)with rfl|rfl<;>rfl
theorem ED(op:Int)(x y:Val)(b o cp:Nat)(w:World)(hx:x.ok=true)(hy:y.ok=true)(ho:op=7\/op=8\/op=9\/op=10\/op=19\/op=20\/(11<=op/\op<=16))(hres:ax op [x.dim,y.dim]≠0)(hb:b<w.heap.size)
 (c0:w.cell? ⟨b,o,none⟩=some (.int .i64 x.dim)) (c1:w.cell? ⟨b,o+1,none⟩=some (.bool x.yes)) (c2:w.cell? ⟨b,o+2,none⟩=some (.int .i64 x.n)) (c3:w.cell? ⟨b,o+3,none⟩=some (.int .i64 x.d))
 (e0:w.cell? ⟨b,o+4,none⟩=some (.int .i64 y.dim)) (e1:w.cell? ⟨b,o+5,none⟩=some (.bool y.yes)) (e2:w.cell? ⟨b,o+6,none⟩=some (.int .i64 y.n)) (e3:w.cell? ⟨b,o+7,none⟩=some (.int .i64 y.d)) :
 Calls prog 120 #[.int .i64 op,.slice (some ⟨b,o,none⟩) 2 cp] w (ApP (op2 op x y) w):=by
 obtain⟨i0,hi,hz0,hz1,hz2⟩:=info_parts Bu;have hd:=yX ho hres;have hvx:=(Val.ok_num hx hd.1).2.2.2;have hvy:=(Val.ok_num hy hd.2).2.2.2;have hdx:=Val.ok_dim hx;have hdy:=Val.ok_dim hy;have hcf:=sN hvx hvy;have h64:iV x.n x.d y.n y.d:=⟨(Val.ok_rng hx).1,(Val.ok_rng hx).2,(Val.ok_rng hy).1,(Val.ok_rng hy).2⟩;have HA:=zh (fun w=>CV x.n x.d y.n y.d w h64);have HS:=zh (fun w=>LA x.n x.d y.n y.d w h64);have HM:=zh (fun w=>LK x.n x.d y.n y.d w h64);have HD:=zh (fun w=>LW x.n x.d y.n y.d w h64);have HC:=zh (fun w=>jm x.n x.d y.n y.d w h64);unfold frI at HC;unfold frV at HA HS HM HD;rw [hcf]at HC;have HRD:=zh hres;have HAN:Hid (((2:Nat):Int)=bi op):=zh (by unfold bi;rw [if_neg ze,if_neg ze,if_pos ze];rfl);have HDX:=zh hdx;have HDY:=zh hdy;have HOP:=zh ho
 have HXD:Hid (op=7\/op=8\/op=19\/op=20->ax op [x.dim,y.dim]=x.dim):=zh (fun h=>by
  rw [sK _ _ h]at hres ⊢
  split
  ·rfl
  ·rename_i hn;rw [if_neg hn]at hres;exact absurd rfl hres)
 have HX1:Hid (11<=op/\op<=16->ax op [x.dim,y.dim]=1):=zh (fun h=>by
  rw [sJ _ _ h]at hres ⊢
  split
  ·rfl
  ·rename_i hn;rw [if_neg hn]at hres;exact absurd rfl hres)
 clear hd hvx hvy hdx hdy hcf h64 hres ho hx hy
 go_enter func120,ntmps120
 go_wp2_with fail
 go_loopw [6,7] (fun v6 v7 wr=>∃(k:Nat) (vb:Value),vb=v6/\k<=2/\v7= .int .i64 k/\Below (w.heap.size+1) (w.alloc (.cells #[.int .i64 0,.bool false,.int .i64 0,.int .i64 0] 34)) wr/\wr.ownsRow (w.heap.size+1) 3 1 vb k ((apD x y).take k)) (fun _ v7 _=>2-(intOf v7).toNat)
 case atStart=>exact⟨0,_,rfl,by omega,rfl,.refl _ _,World.ownsRow_nil _ _ _ _⟩
 case round=>
  obtain⟨k,vb,rfl,hk,rfl,hB,hown⟩:=hrel;have HB:=zh hB;have HO:=zh hown;have hsW:w.heap.size+1<=wr.heap.size:=by have:=hB.size;simpa using this
  have hbr:b<wr.heap.size:=by omega
  have hcc:∀j u,w.cell? ⟨b,j,none⟩=some u->wr.cell? ⟨b,j,none⟩=some u:=fun j u h=>(hB.cell (p:=⟨b,j,none⟩) (by show b<_;omega)).trans ((World.cell?_alloc_lt w _ ⟨b,j,none⟩ hb).trans h);by_cases hlt:k<2
  ·have d1:(k:Int)<2:=by omega
   obtain⟨dk,hdk⟩:∃dk,[x.dim,y.dim].getD k 0=dk:=⟨_,rfl⟩
   have x0:wr.cell? ⟨b,o+k*4,none⟩=some (.int .i64 dk):=by
    subst hdk;rcases(show k=0\/k=1 by omega)with rfl|rfl
    ·exact hcc _ _ c0
    ·exact hcc _ _ e0
   have HNX:=zh (Lt x y k hlt dk hdk);have HKL:=zh hlt;clear hlt hB hown hcc c0 c1 c2 c3 e0 e1 e2 e3 hdk
   go_wp2_with (at_builtin;refine wpList_append_own _ rfl _ _ 24 rfl (w.heap.size+1) 3 i0 (.int .i64 0) 1 8 underlying24 hi hz0 hz1 hz2 rfl zo _ _ _ rfl (HO.out.alloc _) ⟨wr.heap.size,0,none⟩ 1 1 [.int .i64 dk] rfl rfl ?c1 ?c2 ?c3 ?c4 ?c5 ?_)
   case c1=>exact aK _ [.int .i64 dk] _ _ zg
   case c2=>intro u hu;simp at hu;subst hu;rfl
   case c3=>unfold maxLen;omega
   case c4=>omega
   case c5=>simp;try omega
   intro v' w1 hown' hgrow _;have HB1:=zh ((show Below (w.heap.size+1) (w.alloc (.cells #[.int .i64 0,.bool false,.int .i64 0,.int .i64 0] 34)) _ from by have:=HB.out;(exact ag)).grown hgrow zB (fun k hk=>(HO.out.lt k hk).1));have HO1:=zh hown';clear hown' hgrow
   go_wp2_with fail
   go_roundw
   case rel=>exact⟨k+1,_,rfl,HKL.out,by go_num,HB1.out,by rw [HNX.out];exact HO1.out⟩
   case measure=>simp [intOf];have:=HKL.out;omega
  ·obtain rfl:k=2:=by omega
   obtain⟨g,cap,rfl⟩:∃g cap,vb= .slice (some ⟨g,0,none⟩) 2 cap:=by
    rcases oZ hown with ⟨-,h⟩|⟨g,cap,rfl,-⟩
    ·omega
    ·exact⟨g,cap,rfl⟩
   have HOW:Hid (wr.ownsRow (w.heap.size+1) 3 1 (.slice (some ⟨g,0,none⟩) [x.dim,y.dim].length cap) [x.dim,y.dim].length ([x.dim,y.dim].map (Value.int .i64))):=zh hown;have HRS:=zh (fun w' (hg:wr.Grows w')=>tO op [x.dim,y.dim] (w.heap.size+1) g cap w' (by have:=HOP.out;omega) (by have:=HOP.out;omega) HAN.out (by intro z hz;have:=HDX.out;have:=HDY.out;simp at hz;omega) (bL HOW.out hg));unfold fM at HRS;obtain⟨rd,hrd⟩:∃rd,ax op [x.dim,y.dim]=rd:=⟨_,rfl⟩;have HRD2:=zh hrd;rw [hrd]at HRS HXD HX1;clear hrd hown hcc;obtain⟨bs0,d0,rfl⟩:World.Grows (w.alloc (.cells #[.int .i64 0,.bool false,.int .i64 0,.int .i64 0] 34)) wr:=.of_below (by simpa using HB.out);have HG0:Hid (w.Grows ((w.alloc (.cells #[.int .i64 0,.bool false,.int .i64 0,.int .i64 0] 34)).grow bs0 d0)):=zh aj;clear hB HB HO
   go_wp2_with (go_at_call 148;refine(HRS.out _ aj).mono ?_;rintro e' w' ⟨rfl,bs,d,rfl⟩)
   refine TS.begin [] (World.Grows _) zf zf aG (fun hS=>?_);refine TS.wkB 0 hS ?_;refine TS.wkB 1 hS ?_;refine TS.wkB 2 hS ?_;refine TS.wkB 3 hS ?_;refine TS.wkB 4 hS ?_;refine TS.wkB 5 hS ?_;refine TS.wkB 6 hS ?_;refine TS.wkB 7 hS ?_;refine TS.one (i:=8) zq rfl (fun K1 hK1=>?_);have HK1:=zh hK1;clear hK1 hS;dsimp only [getElem_toArray,getElem_cons_succ,getElem_cons_zero]
   go_simp
   go_at_call 24
   refine(HC.out _).mono ?_;rintro e' wA ⟨rfl,bA,dA,rfl⟩;refine TS.go HK1.out aj (fun hS=>?_);clear HK1 K1
   (try simp only [nS])
   refine TS.wkB 9 hS ?_;refine TS.wkB 10 hS ?_;refine TS.wkB 11 hS ?_;refine TS.wkB 12 hS ?_;refine TS.done zf ?_;clear hS
   (try simp only [nS])
   go_upto_block 2 with fail
   have hop:=HOP.out;generalize hc:gJ x.n x.d y.n y.d=c;have HCC:=zh hc;clear hc HOP HC HRS HAN HOW;rcases hop with rfl|rfl|rfl|rfl|rfl|rfl|hop
   ·have HR:Hid (op2 7 x y=eQ rd (jW x.n x.d y.n y.d)):=zh (by rw [HXD.out (.inl rfl)];rfl);generalize jW x.n x.d y.n y.d=q at *;obtain⟨qn,qd,qc⟩:=q;dsimp only at HA;by_cases hq:qc=0
    focus
     subst hq;unfold eQ at HR;rw [if_pos rfl]at HR
    rotate_left
    focus
     unfold eQ at HR;rw [if_neg hq]at HR;have hq1:(qc !=0)=true:=by simpa using hq
     clear hq
    rotate_left
    all_goals
     go_wp2_with fail
     refine TS.begin [14] (World.Grows ((w.alloc (.cells #[.int .i64 0,.bool false,.int .i64 0,.int .i64 0] 34)).grow bs0 d0)) zf zf aj (fun hS=>?_);refine TS.wkB 0 hS ?_;refine TS.wkB 1 hS ?_;refine TS.wkB 2 hS ?_;refine TS.wkB 3 hS ?_;refine TS.wkB 4 hS ?_;refine TS.wkB 5 hS ?_;refine TS.wkB 6 hS ?_;refine TS.wkB 7 hS ?_;refine TS.one (i:=8) zq rfl (fun K1 hK1=>?_);have HK1:=zh hK1;clear hK1 hS;dsimp only [getElem_toArray,getElem_cons_succ,getElem_cons_zero]
     go_simp
     go_at_call 151
     refine(HA.out _).mono ?_;rintro e' wA ⟨rfl,bA,dA,rfl⟩;refine TS.go HK1.out aj (fun hS=>?_);clear HK1 K1
     (try simp only [nS])
     refine TS.wkB 9 hS ?_;refine TS.wkB 10 hS ?_;refine TS.wkB 11 hS ?_;refine TS.wkB 12 hS ?_;refine TS.one (i:=13) zq rfl (fun K1 hK1=>?_);have HK1:=zh hK1;clear hK1 hS;dsimp only [getElem_toArray,getElem_cons_succ,getElem_cons_zero]
     go_simp
     refine TS.go HK1.out aj (fun hS=>?_);clear HK1 K1
     (try simp only [nS])
     refine TS.weB 14 ?_;clear hS
     go_wp2_with fail
     go_returns
     exact⟨by rw [HR.out];rfl,aj⟩
   ·have HR:Hid (op2 8 x y=eQ rd (l6 x.n x.d y.n y.d)):=zh (by rw [HXD.out (.inr (.inl rfl))];rfl);generalize l6 x.n x.d y.n y.d=q at *;obtain⟨qn,qd,qc⟩:=q;dsimp only at HS;by_cases hq:qc=0
    focus
     subst hq;unfold eQ at HR;rw [if_pos rfl]at HR
    rotate_left
    focus
     unfold eQ at HR;rw [if_neg hq]at HR;have hq1:(qc !=0)=true:=by simpa using hq
     clear hq
    rotate_left
    all_goals
     go_wp2_with fail
     refine TS.begin [14] (World.Grows ((w.alloc (.cells #[.int .i64 0,.bool false,.int .i64 0,.int .i64 0] 34)).grow bs0 d0)) zf zf aj (fun hS=>?_);refine TS.wkB 0 hS ?_;refine TS.wkB 1 hS ?_;refine TS.wkB 2 hS ?_;refine TS.wkB 3 hS ?_;refine TS.wkB 4 hS ?_;refine TS.wkB 5 hS ?_;refine TS.wkB 6 hS ?_;refine TS.wkB 7 hS ?_;refine TS.one (i:=8) zq rfl (fun K1 hK1=>?_);have HK1:=zh hK1;clear hK1 hS;dsimp only [getElem_toArray,getElem_cons_succ,getElem_cons_zero]
     go_simp
     go_at_call 152
     refine(HS.out _).mono ?_;rintro e' wA ⟨rfl,bA,dA,rfl⟩;refine TS.go HK1.out aj (fun hS=>?_);clear HK1 K1
     (try simp only [nS])
     refine TS.wkB 9 hS ?_;refine TS.wkB 10 hS ?_;refine TS.wkB 11 hS ?_;refine TS.wkB 12 hS ?_;refine TS.one (i:=13) zq rfl (fun K1 hK1=>?_);have HK1:=zh hK1;clear hK1 hS;dsimp only [getElem_toArray,getElem_cons_succ,getElem_cons_zero]
     go_simp
     refine TS.go HK1.out aj (fun hS=>?_);clear HK1 K1
     (try simp only [nS])
     refine TS.weB 14 ?_;clear hS
     go_wp2_with fail
     go_returns
     exact⟨by rw [HR.out];rfl,aj⟩
   ·have HR:Hid (op2 9 x y=eQ rd (lQ x.n x.d y.n y.d)):=zh (by rw [<-HRD2.out];rfl);generalize lQ x.n x.d y.n y.d=q at *;obtain⟨qn,qd,qc⟩:=q;dsimp only at HM;by_cases hq:qc=0
    focus
     subst hq;unfold eQ at HR;rw [if_pos rfl]at HR
    rotate_left
    focus
     unfold eQ at HR;rw [if_neg hq]at HR;have hq1:(qc !=0)=true:=by simpa using hq
     clear hq
    rotate_left
    all_goals
     go_wp2_with fail
     refine TS.begin [14] (World.Grows ((w.alloc (.cells #[.int .i64 0,.bool false,.int .i64 0,.int .i64 0] 34)).grow bs0 d0)) zf zf aj (fun hS=>?_);refine TS.wkB 0 hS ?_;refine TS.wkB 1 hS ?_;refine TS.wkB 2 hS ?_;refine TS.wkB 3 hS ?_;refine TS.wkB 4 hS ?_;refine TS.wkB 5 hS ?_;refine TS.wkB 6 hS ?_;refine TS.wkB 7 hS ?_;refine TS.one (i:=8) zq rfl (fun K1 hK1=>?_);have HK1:=zh hK1;clear hK1 hS;dsimp only [getElem_toArray,getElem_cons_succ,getElem_cons_zero]
     go_simp
     go_at_call 153
     refine(HM.out _).mono ?_;rintro e' wA ⟨rfl,bA,dA,rfl⟩;refine TS.go HK1.out aj (fun hS=>?_);clear HK1 K1
     (try simp only [nS])
     refine TS.wkB 9 hS ?_;refine TS.wkB 10 hS ?_;refine TS.wkB 11 hS ?_;refine TS.wkB 12 hS ?_;refine TS.one (i:=13) zq rfl (fun K1 hK1=>?_);have HK1:=zh hK1;clear hK1 hS;dsimp only [getElem_toArray,getElem_cons_succ,getElem_cons_zero]
     go_simp
     refine TS.go HK1.out aj (fun hS=>?_);clear HK1 K1
     (try simp only [nS])
     refine TS.weB 14 ?_;clear hS
     go_wp2_with fail
     go_returns
     exact⟨by rw [HR.out];rfl,aj⟩
   ·have HR:Hid (op2 10 x y=eQ rd (lS x.n x.d y.n y.d)):=zh (by rw [<-HRD2.out];rfl);generalize lS x.n x.d y.n y.d=q at *;obtain⟨qn,qd,qc⟩:=q;dsimp only at HD;by_cases hq:qc=0
    focus
     subst hq;unfold eQ at HR;rw [if_pos rfl]at HR
    rotate_left
    focus
     unfold eQ at HR;rw [if_neg hq]at HR;have hq1:(qc !=0)=true:=by simpa using hq
     clear hq
    rotate_left
    all_goals
     go_wp2_with fail
     refine TS.begin [14] (World.Grows ((w.alloc (.cells #[.int .i64 0,.bool false,.int .i64 0,.int .i64 0] 34)).grow bs0 d0)) zf zf aj (fun hS=>?_);refine TS.wkB 0 hS ?_;refine TS.wkB 1 hS ?_;refine TS.wkB 2 hS ?_;refine TS.wkB 3 hS ?_;refine TS.wkB 4 hS ?_;refine TS.wkB 5 hS ?_;refine TS.wkB 6 hS ?_;refine TS.wkB 7 hS ?_;refine TS.one (i:=8) zq rfl (fun K1 hK1=>?_);have HK1:=zh hK1;clear hK1 hS;dsimp only [getElem_toArray,getElem_cons_succ,getElem_cons_zero]
     go_simp
     go_at_call 154
     refine(HD.out _).mono ?_;rintro e' wA ⟨rfl,bA,dA,rfl⟩;refine TS.go HK1.out aj (fun hS=>?_);clear HK1 K1
     (try simp only [nS])
     refine TS.wkB 9 hS ?_;refine TS.wkB 10 hS ?_;refine TS.wkB 11 hS ?_;refine TS.wkB 12 hS ?_;refine TS.one (i:=13) zq rfl (fun K1 hK1=>?_);have HK1:=zh hK1;clear hK1 hS;dsimp only [getElem_toArray,getElem_cons_succ,getElem_cons_zero]
     go_simp
     refine TS.go HK1.out aj (fun hS=>?_);clear HK1 K1
     (try simp only [nS])
     refine TS.weB 14 ?_;clear hS
     go_wp2_with fail
     go_returns
     exact⟨by rw [HR.out];rfl,aj⟩
   ·have HQ:Hid (op2 19 x y=(if c<=0 then .num rd x.n x.d else .num rd y.n y.d,0)):=zh (by rw [HXD.out ze,<-HCC.out];rfl);have HR1:∀r,r=(Val.num rd x.n x.d,(0:Int))->Ending.returned (.tuple #[.agg #[.int .i64 rd,.bool false,.int .i64 x.n,.int .i64 x.d],.int .i64 0])= .returned (.tuple #[.agg #[.int .i64 r.1.dim,.bool r.1.yes,.int .i64 r.1.n,.int .i64 r.1.d],.int .i64 r.2]):=fun r h=>by subst h;rfl
    have HR2:∀r,r=(Val.num rd y.n y.d,(0:Int))->Ending.returned (.tuple #[.agg #[.int .i64 rd,.bool false,.int .i64 y.n,.int .i64 y.d],.int .i64 0])= .returned (.tuple #[.agg #[.int .i64 r.1.dim,.bool r.1.yes,.int .i64 r.1.n,.int .i64 r.1.d],.int .i64 r.2]):=fun r h=>by subst h;rfl
    have HRR1:=zh HR1;have HRR2:=zh HR2;clear HR1 HR2;rcases(show c<0\/c=0\/0<c by omega)with h1|h1|h1
    ·have hq1:(c !=0)=true:=by simp;omega
     have hq2:decide (c<0)=true:=decide_eq_true h1
     go_wp2_with fail
     all_goals
      go_returns
      exact⟨HRR1.out _ zV,aj⟩
    ·subst h1
     go_wp2_with fail
     all_goals
      go_returns
      exact⟨HRR1.out _ zV,aj⟩
    ·have hq1:(c !=0)=true:=by simp;omega
     have hq2:decide (c<0)=false:=decide_eq_false ze
     go_wp2_with fail
     all_goals
      trace_state
      go_returns
      exact⟨HRR2.out _ zV,aj⟩
   ·have HQ:Hid (op2 20 x y=(if 0<=c then .num rd x.n x.d else .num rd y.n y.d,0)):=zh (by rw [HXD.out ze,<-HCC.out];rfl);have HR1:∀r,r=(Val.num rd x.n x.d,(0:Int))->Ending.returned (.tuple #[.agg #[.int .i64 rd,.bool false,.int .i64 x.n,.int .i64 x.d],.int .i64 0])= .returned (.tuple #[.agg #[.int .i64 r.1.dim,.bool r.1.yes,.int .i64 r.1.n,.int .i64 r.1.d],.int .i64 r.2]):=fun r h=>by subst h;rfl
    have HR2:∀r,r=(Val.num rd y.n y.d,(0:Int))->Ending.returned (.tuple #[.agg #[.int .i64 rd,.bool false,.int .i64 y.n,.int .i64 y.d],.int .i64 0])= .returned (.tuple #[.agg #[.int .i64 r.1.dim,.bool r.1.yes,.int .i64 r.1.n,.int .i64 r.1.d],.int .i64 r.2]):=fun r h=>by subst h;rfl
    have HRR1:=zh HR1;have HRR2:=zh HR2;clear HR1 HR2;rcases(show c<0\/c=0\/0<c by omega)with h1|h1|h1
    ·have hq1:(c !=0)=true:=by simp;omega
     have hq2:decide (c<0)=true:=decide_eq_true h1
     go_wp2_with fail
     all_goals
      go_returns
      exact⟨HRR2.out _ zV,aj⟩
    ·subst h1
     go_wp2_with fail
     all_goals
      go_returns
      exact⟨HRR1.out _ zV,aj⟩
    ·have hq1:(c !=0)=true:=by simp;omega
     have hq2:decide (c<0)=false:=decide_eq_false ze
     go_wp2_with fail
     all_goals
      trace_state
      go_returns
      exact⟨HRR1.out _ zV,aj⟩
   ·obtain rfl:rd=1:=HX1.out hop;rcases(show op=11\/op=12\/op=13\/op=14\/op=15\/op=16 by omega)with rfl|rfl|rfl|rfl|rfl|rfl
    focus
     have HQ:Hid (op2 11 x y=(.truth (r9 11 c),0)):=zh zY
    rotate_left
    focus
     have HQ:Hid (op2 12 x y=(.truth (r9 12 c),0)):=zh zY
    rotate_left
    focus
     have HQ:Hid (op2 13 x y=(.truth (r9 13 c),0)):=zh zY
    rotate_left
    focus
     have HQ:Hid (op2 14 x y=(.truth (r9 14 c),0)):=zh zY
    rotate_left
    focus
     have HQ:Hid (op2 15 x y=(.truth (r9 15 c),0)):=zh zY
    rotate_left
    focus
     have HQ:Hid (op2 16 x y=(.truth (r9 16 c),0)):=zh zY
    rotate_left
    all_goals
     go_wp2_with fail
     go_returns
     exact⟨by rw [HQ.out];simp [r9,Val.truth]<;>(by_cases h:c=0<;>simp [h]),aj⟩
end Go.Proofs.YtlheailebbngiaaGreatDoor
