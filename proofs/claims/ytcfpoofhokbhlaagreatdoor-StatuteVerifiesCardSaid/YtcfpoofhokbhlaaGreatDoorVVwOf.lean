import Derived.Test.YtcfpoofhokbhlaaGreatDoorVLawBo
set_option linter.all false
set_option maxHeartbeats 16000000
set_option maxRecDepth 1000000
namespace Go.Proofs.YtcfpoofhokbhlaaGreatDoor
open Go.Proofs.Tryz Tryz List
open Go.RowKit
def mvV(R:VwR):List Value:=(R.years.take 20).map fun z=>Value.int .i64 (pick z 5000000)
theorem OC(R:VwR)(k:Nat)(hk:k<R.years.length)(h20:k<20):(mvV R).take (k+1)=(mvV R).take k++[.int .i64 (pick (R.years.getD k 0) 5000000)]:=by
 unfold mvV;have hk2:k<(R.years.take 20).length:=by rw [length_take];omega
 rw [take_succ_eq_append_getElem (by simpa using hk2),getElem_map,getElem_take,getD_eq_getElem?_getD,getElem?_eq_getElem hk];rfl
theorem QX(R:VwR)(k:Nat)(hk:k<=R.years.length)(h20:k<=20)(he:k=R.years.length\/k=20):(mvV R).take k=(nJ R).years.map (Value.int .i64)/\k=(nJ R).years.length:=by
 have hlen:(R.years.take 20).length=k:=by rw [length_take];omega
 constructor
 ·unfold mvV nJ;dsimp only;rw [map_map,take_of_length_le (by rw [length_map];omega)];rfl
 ·show k=((R.years.take 20).map _).length;rw [length_map,hlen]
def VoP(R:VwR)(w:World)(e:Ending)(w':World):Prop:=∃yv,e= .returned (vwV (nJ R) yv)/\w.Grows w'/\bI w' yv (nJ R).years
theorem tq(R:VwR)(vd vy:Value)(w:World)(hd:ax w vd R.days)(hy:ax w vy R.years) :
 Calls prog 5 #[.agg #[.int .i64 R.age,.int .i64 R.year,.int .i64 R.children,.int .i64 R.base,.int .i64 R.den,vd,vy]] w (VoP R w):=by
 obtain⟨i0,hi,hz0,hz1,hz2⟩:=info_parts Ce;have HMK:=yq (fun w=>dZ (pick R.base 1000000) (pick R.den 12+1) w xB xB (by have:=cZ R.den 12 ze;omega) (by have:=cZ R.den 12 ze;omega));have hpd:=cZ R.den 12 ze;have hpy:=cZ R.year 200 ze;have w1:IntKind.i64.wrap (pick R.den 12+1)=pick R.den 12+1:=IntWalk.i64_in _ ze;have w2:IntKind.i64.wrap (1900+pick R.year 200)=1900+pick R.year 200:=IntWalk.i64_in _ ze;have hlen1:(R.days.length:Int)<=140737488355328:=by have:=hd.1;omega
 have hlen2:(R.years.length:Int)<=140737488355328:=by have:=hy.1;omega
 obtain⟨-,-,da,dc,rfl,hdc⟩:=hd;obtain⟨-,-,ya,yc,rfl,hyc⟩:=hy;have HDC:=yq hdc;have HYC:=yq hyc;clear hdc hyc
 go_enter func5,ntmps5
 go_upto_block 0 with fail
 go_cut [4]from 10 (fun v4 wx=>wx=((((w.alloc (.cells #[.int .i64 R.age,.int .i64 R.year,.int .i64 R.children,.int .i64 R.base,.int .i64 R.den,.slice da R.days.length dc,.slice ya R.years.length yc] 27)).alloc (.cells #[.int .i64 0,.int .i64 0,.int .i64 0,.int .i64 0,.int .i64 0,.int .i64 0,.int .i64 0,.int .i64 0,.int .i64 0,.int .i64 0,.int .i64 0,.int .i64 0,.slice none 0 0] 41)).alloc (.cells #[.int .i64 (R.d 0),.int .i64 (R.d 1),.int .i64 (R.d 2),.int .i64 (R.d 3),.int .i64 (R.d 4),.int .i64 (R.d 5),.int .i64 (R.d 6)] 81))))
 case first=>
  go_wp2_with fail
  go_loopw [4] (fun v4 wr=>∃(k:Nat) (a0 a1 a2 a3 a4 a5 a6:Int),k<=7/\v4= .int .i64 k/\Hid (∀i,i<k->[a0,a1,a2,a3,a4,a5,a6].getD i 0=R.d i)/\Hid (∀i,k<=i->i<7->[a0,a1,a2,a3,a4,a5,a6].getD i 0=0)/\wr=((w.alloc ((.cells #[.int .i64 R.age,.int .i64 R.year,.int .i64 R.children,.int .i64 R.base,.int .i64 R.den,.slice da R.days.length dc,.slice ya R.years.length yc] 27))).alloc ((.cells #[.int .i64 0,.int .i64 0,.int .i64 0,.int .i64 0,.int .i64 0,.int .i64 0,.int .i64 0,.int .i64 0,.int .i64 0,.int .i64 0,.int .i64 0,.int .i64 0,.slice none 0 0] 41))).alloc ((.cells #[.int .i64 a0,.int .i64 a1,.int .i64 a2,.int .i64 a3,.int .i64 a4,.int .i64 a5,.int .i64 a6] 81))) (fun v4 _=>7-(intOf v4).toNat)
  case atStart=>exact⟨0,0,0,0,0,0,0,0,by omega,rfl,yq (fun i hi=>by omega),yq (fun i h1 h2=>by
   rcases(show i=0\/i=1\/i=2\/i=3\/i=4\/i=5\/i=6 by omega)with rfl|rfl|rfl|rfl|rfl|rfl|rfl<;>rfl),rfl⟩
  case round=>
   obtain⟨k,a0,a1,a2,a3,a4,a5,a6,hk,rfl,hdone,hzero,rfl⟩:=hrel;by_cases hlt:k<7/\k<R.days.length
   ·rcases HDC.out with h0|⟨b,off,rfl,hbw,hx⟩
    ·omega
    have d1:(k:Int)<(R.days.length:Int):=by omega
    have d2:0<R.days.length:=by omega
    rcases(show k=0\/k=1\/k=2\/k=3\/k=4\/k=5\/k=6 by omega)with rfl|rfl|rfl|rfl|rfl|rfl|rfl
    ·have x0:=hx 0 ze
     (try rw [Nat.add_zero]at x0)
     have HE:Hid (R.d 0=pick (R.days.getD 0 0) 20000):=yq zR;generalize R.days.getD 0 0=z at *;clear hx
     go_wp2_with (go_at_call 6;refine gw (bz _ _ _ ze) ?_)
     go_roundw
     case rel=>
      refine⟨0+1,pick z 20000,a1,a2,a3,a4,a5,a6,by omega,rfl,yq (fun i hi=>?_),yq (fun i hi h7=>?_),by first|rfl|trivial⟩
      ·rcases(show i=0\/i=1\/i=2\/i=3\/i=4\/i=5\/i=6 by omega)with rfl|rfl|rfl|rfl|rfl|rfl|rfl
       all_goals first
        |omega
        |exact HE.out.symm
        |exact hdone.out 0 ze
        |exact hdone.out 1 ze
        |exact hdone.out 2 ze
        |exact hdone.out 3 ze
        |exact hdone.out 4 ze
        |exact hdone.out 5 ze
        |exact hdone.out 6 ze
      ·rcases(show i=0\/i=1\/i=2\/i=3\/i=4\/i=5\/i=6 by omega)with rfl|rfl|rfl|rfl|rfl|rfl|rfl
       all_goals first
        |omega
        |exact hzero.out 0 ze ze
        |exact hzero.out 1 ze ze
        |exact hzero.out 2 ze ze
        |exact hzero.out 3 ze ze
        |exact hzero.out 4 ze ze
        |exact hzero.out 5 ze ze
        |exact hzero.out 6 ze ze
     case measure=>simp [intOf]
    ·have x0:=hx 1 ze
     (try rw [Nat.add_zero]at x0)
     have HE:Hid (R.d 1=pick (R.days.getD 1 0) 20000):=yq zR;generalize R.days.getD 1 0=z at *;clear hx
     go_wp2_with (go_at_call 6;refine gw (bz _ _ _ ze) ?_)
     go_roundw
     case rel=>
      refine⟨1+1,a0,pick z 20000,a2,a3,a4,a5,a6,by omega,rfl,yq (fun i hi=>?_),yq (fun i hi h7=>?_),by first|rfl|trivial⟩
      ·rcases(show i=0\/i=1\/i=2\/i=3\/i=4\/i=5\/i=6 by omega)with rfl|rfl|rfl|rfl|rfl|rfl|rfl
       all_goals first
        |omega
        |exact HE.out.symm
        |exact hdone.out 0 ze
        |exact hdone.out 1 ze
        |exact hdone.out 2 ze
        |exact hdone.out 3 ze
        |exact hdone.out 4 ze
        |exact hdone.out 5 ze
        |exact hdone.out 6 ze
      ·rcases(show i=0\/i=1\/i=2\/i=3\/i=4\/i=5\/i=6 by omega)with rfl|rfl|rfl|rfl|rfl|rfl|rfl
       all_goals first
        |omega
        |exact hzero.out 0 ze ze
        |exact hzero.out 1 ze ze
        |exact hzero.out 2 ze ze
        |exact hzero.out 3 ze ze
        |exact hzero.out 4 ze ze
        |exact hzero.out 5 ze ze
        |exact hzero.out 6 ze ze
     case measure=>simp [intOf]
    ·have x0:=hx 2 ze
     (try rw [Nat.add_zero]at x0)
     have HE:Hid (R.d 2=pick (R.days.getD 2 0) 20000):=yq zR;generalize R.days.getD 2 0=z at *;clear hx
     go_wp2_with (go_at_call 6;refine gw (bz _ _ _ ze) ?_)
     go_roundw
     case rel=>
      refine⟨2+1,a0,a1,pick z 20000,a3,a4,a5,a6,by omega,rfl,yq (fun i hi=>?_),yq (fun i hi h7=>?_),by first|rfl|trivial⟩
      ·rcases(show i=0\/i=1\/i=2\/i=3\/i=4\/i=5\/i=6 by omega)with rfl|rfl|rfl|rfl|rfl|rfl|rfl
       all_goals first
        |omega
        |exact HE.out.symm
        |exact hdone.out 0 ze
        |exact hdone.out 1 ze
        |exact hdone.out 2 ze
        |exact hdone.out 3 ze
        |exact hdone.out 4 ze
        |exact hdone.out 5 ze
        |exact hdone.out 6 ze
      ·rcases(show i=0\/i=1\/i=2\/i=3\/i=4\/i=5\/i=6 by omega)with rfl|rfl|rfl|rfl|rfl|rfl|rfl
       all_goals first
        |omega
        |exact hzero.out 0 ze ze
        |exact hzero.out 1 ze ze
        |exact hzero.out 2 ze ze
        |exact hzero.out 3 ze ze
        |exact hzero.out 4 ze ze
        |exact hzero.out 5 ze ze
        |exact hzero.out 6 ze ze
     case measure=>simp [intOf]
    ·have x0:=hx 3 ze
     (try rw [Nat.add_zero]at x0)
     have HE:Hid (R.d 3=pick (R.days.getD 3 0) 20000):=yq zR;generalize R.days.getD 3 0=z at *;clear hx
     go_wp2_with (go_at_call 6;refine gw (bz _ _ _ ze) ?_)
     go_roundw
     case rel=>
      refine⟨3+1,a0,a1,a2,pick z 20000,a4,a5,a6,by omega,rfl,yq (fun i hi=>?_),yq (fun i hi h7=>?_),by first|rfl|trivial⟩
      ·rcases(show i=0\/i=1\/i=2\/i=3\/i=4\/i=5\/i=6 by omega)with rfl|rfl|rfl|rfl|rfl|rfl|rfl
       all_goals first
        |omega
        |exact HE.out.symm
        |exact hdone.out 0 ze
        |exact hdone.out 1 ze
        |exact hdone.out 2 ze
        |exact hdone.out 3 ze
        |exact hdone.out 4 ze
        |exact hdone.out 5 ze
        |exact hdone.out 6 ze
      ·rcases(show i=0\/i=1\/i=2\/i=3\/i=4\/i=5\/i=6 by omega)with rfl|rfl|rfl|rfl|rfl|rfl|rfl
       all_goals first
        |omega
        |exact hzero.out 0 ze ze
        |exact hzero.out 1 ze ze
        |exact hzero.out 2 ze ze
        |exact hzero.out 3 ze ze
        |exact hzero.out 4 ze ze
        |exact hzero.out 5 ze ze
        |exact hzero.out 6 ze ze
     case measure=>simp [intOf]
    ·have x0:=hx 4 ze
     (try rw [Nat.add_zero]at x0)
     have HE:Hid (R.d 4=pick (R.days.getD 4 0) 20000):=yq zR;generalize R.days.getD 4 0=z at *;clear hx
     go_wp2_with (go_at_call 6;refine gw (bz _ _ _ ze) ?_)
     go_roundw
     case rel=>
      refine⟨4+1,a0,a1,a2,a3,pick z 20000,a5,a6,by omega,rfl,yq (fun i hi=>?_),yq (fun i hi h7=>?_),by first|rfl|trivial⟩
      ·rcases(show i=0\/i=1\/i=2\/i=3\/i=4\/i=5\/i=6 by omega)with rfl|rfl|rfl|rfl|rfl|rfl|rfl
       all_goals first
        |omega
        |exact HE.out.symm
        |exact hdone.out 0 ze
        |exact hdone.out 1 ze
        |exact hdone.out 2 ze
        |exact hdone.out 3 ze
        |exact hdone.out 4 ze
        |exact hdone.out 5 ze
        |exact hdone.out 6 ze
      ·rcases(show i=0\/i=1\/i=2\/i=3\/i=4\/i=5\/i=6 by omega)with rfl|rfl|rfl|rfl|rfl|rfl|rfl
       all_goals first
        |omega
        |exact hzero.out 0 ze ze
        |exact hzero.out 1 ze ze
        |exact hzero.out 2 ze ze
        |exact hzero.out 3 ze ze
        |exact hzero.out 4 ze ze
        |exact hzero.out 5 ze ze
        |exact hzero.out 6 ze ze
     case measure=>simp [intOf]
    ·have x0:=hx 5 ze
     (try rw [Nat.add_zero]at x0)
     have HE:Hid (R.d 5=pick (R.days.getD 5 0) 20000):=yq zR;generalize R.days.getD 5 0=z at *;clear hx
     go_wp2_with (go_at_call 6;refine gw (bz _ _ _ ze) ?_)
     go_roundw
     case rel=>
      refine⟨5+1,a0,a1,a2,a3,a4,pick z 20000,a6,by omega,rfl,yq (fun i hi=>?_),yq (fun i hi h7=>?_),by first|rfl|trivial⟩
      ·rcases(show i=0\/i=1\/i=2\/i=3\/i=4\/i=5\/i=6 by omega)with rfl|rfl|rfl|rfl|rfl|rfl|rfl
       all_goals first
        |omega
        |exact HE.out.symm
        |exact hdone.out 0 ze
        |exact hdone.out 1 ze
        |exact hdone.out 2 ze
        |exact hdone.out 3 ze
        |exact hdone.out 4 ze
        |exact hdone.out 5 ze
        |exact hdone.out 6 ze
      ·rcases(show i=0\/i=1\/i=2\/i=3\/i=4\/i=5\/i=6 by omega)with rfl|rfl|rfl|rfl|rfl|rfl|rfl
       all_goals first
        |omega
        |exact hzero.out 0 ze ze
        |exact hzero.out 1 ze ze
        |exact hzero.out 2 ze ze
        |exact hzero.out 3 ze ze
        |exact hzero.out 4 ze ze
        |exact hzero.out 5 ze ze
        |exact hzero.out 6 ze ze
     case measure=>simp [intOf]
    ·have x0:=hx 6 ze
     (try rw [Nat.add_zero]at x0)
     have HE:Hid (R.d 6=pick (R.days.getD 6 0) 20000):=yq zR;generalize R.days.getD 6 0=z at *;clear hx
     go_wp2_with (go_at_call 6;refine gw (bz _ _ _ ze) ?_)
     go_roundw
     case rel=>
      refine⟨6+1,a0,a1,a2,a3,a4,a5,pick z 20000,by omega,rfl,yq (fun i hi=>?_),yq (fun i hi h7=>?_),by first|rfl|trivial⟩
      ·rcases(show i=0\/i=1\/i=2\/i=3\/i=4\/i=5\/i=6 by omega)with rfl|rfl|rfl|rfl|rfl|rfl|rfl
       all_goals first
        |omega
        |exact HE.out.symm
        |exact hdone.out 0 ze
        |exact hdone.out 1 ze
        |exact hdone.out 2 ze
        |exact hdone.out 3 ze
        |exact hdone.out 4 ze
        |exact hdone.out 5 ze
        |exact hdone.out 6 ze
      ·rcases(show i=0\/i=1\/i=2\/i=3\/i=4\/i=5\/i=6 by omega)with rfl|rfl|rfl|rfl|rfl|rfl|rfl
       all_goals first
        |omega
        |exact hzero.out 0 ze ze
        |exact hzero.out 1 ze ze
        |exact hzero.out 2 ze ze
        |exact hzero.out 3 ze ze
        |exact hzero.out 4 ze ze
        |exact hzero.out 5 ze ze
        |exact hzero.out 6 ze ze
     case measure=>simp [intOf]
   ·have hall:∀i,i<7->[a0,a1,a2,a3,a4,a5,a6].getD i 0=R.d i:=fun i h7=>by
     by_cases hi':i<k
     ·exact hdone.out i hi'
     ·rw [hzero.out i ze h7];unfold VwR.d;rw [if_neg ze]
    obtain rfl:a0=R.d 0:=hall 0 ze;obtain rfl:a1=R.d 1:=hall 1 ze;obtain rfl:a2=R.d 2:=hall 2 ze;obtain rfl:a3=R.d 3:=hall 3 ze;obtain rfl:a4=R.d 4:=hall 4 ze;obtain rfl:a5=R.d 5:=hall 5 ze;obtain rfl:a6=R.d 6:=hall 6 ze;clear hall hdone hzero;by_cases h7:k<7
    ·have d7:(k:Int)<7:=by omega
     have d1:¬(k:Int)<(R.days.length:Int):=by omega
     clear hlt
     go_wp2_with fail
     go_meet
     exact rfl
    ·obtain rfl:k=7:=by omega
     clear hlt
     go_wp2_with fail
     go_meet
     exact rfl
 subst hcut
 go_upto_region 6 with fail
 go_cut [5,6]from 29 (fun v5 v6 wx=>∃B5:Nat,v5= .pointer (some ⟨B5,0,none⟩)/\Below (w.heap.size+1+1+1) ((((w.alloc (.cells #[.int .i64 R.age,.int .i64 R.year,.int .i64 R.children,.int .i64 R.base,.int .i64 R.den,.slice da R.days.length dc,.slice ya R.years.length yc] 27)).alloc (.cells #[.int .i64 0,.int .i64 0,.int .i64 0,.int .i64 0,.int .i64 0,.int .i64 0,.int .i64 0,.int .i64 0,.int .i64 0,.int .i64 0,.int .i64 0,.int .i64 0,.slice none 0 0] 41)).alloc (.cells #[.int .i64 (R.d 0),.int .i64 (R.d 1),.int .i64 (R.d 2),.int .i64 (R.d 3),.int .i64 (R.d 4),.int .i64 (R.d 5),.int .i64 (R.d 6)] 81))) wx/\w.heap.size+1+1+1<=B5/\B5<wx.heap.size/\wx.cell? ⟨B5,0,none⟩=some (.int .i64 (mkN (pick R.base 1000000) (pick R.den 12+1)))/\wx.cell? ⟨B5,1,none⟩=some (.int .i64 (mkD (pick R.base 1000000) (pick R.den 12+1))))
 case first=>
  refine fF (fun W hW=>?_);have b0:W.cell? ⟨w.heap.size,3,none⟩=some (.int .i64 R.base):=by rw [<-hW];simp [go_sem]
  have b1:W.cell? ⟨w.heap.size,4,none⟩=some (.int .i64 R.den):=by rw [<-hW];simp [go_sem]
  have hsz:W.heap.size=w.heap.size+1+1+1:=by rw [<-hW];simp
  have z0:w.heap.size<W.heap.size:=by omega
  have HW:=yq hW;have HSZ:=yq hsz;clear hW hsz;refine TS.begin [13] (World.Grows _) zf zf aL (fun hS=>?_);refine kq 0 hS ?_;refine kq 1 hS ?_;refine kq 3 hS ?_;refine kq 4 hS ?_;refine TS.takeC (i:=2) (v:=(.int .i64 (pick R.base 1000000))) (fn:=6) (args:=#[.int .i64 R.base,.int .i64 1000000]) rfl zf zf zf zo (fun _ _ _ h=>h) rfl hS ?_ ?_ ?_
  focus
   rintro wS ⟨gbS,gdS,rfl⟩
   go_simp
  focus exact fun wS _=>(bz _ _ wS ze)
  (try simp only [nS])
  refine TS.takeC (i:=5) (v:=(.int .i64 (pick R.den 12))) (fn:=6) (args:=#[.int .i64 R.den,.int .i64 12]) rfl zf zf zf zo (fun _ _ _ h=>h) rfl hS ?_ ?_ ?_
  focus
   rintro wS ⟨gbS,gdS,rfl⟩
   go_simp
  focus exact fun wS _=>(bz _ _ wS ze)
  (try simp only [nS])
  refine kq 6 hS ?_
  (try simp only [w1])
  clear b0 b1 z0 hi hz0 hz1 hz2 hpd hpy hlen1 hlen2;refine TS.two (i:=7) (k:=11) zq rfl rfl (fun K1 hK1=>?_) (fun K1 hK1=>?_)
  focus
   have HK1:=yq hK1;clear hK1 hS;dsimp only [getElem_toArray,getElem_cons_succ,getElem_cons_zero]
   go_simp
   go_at_call 12
   refine gvq (HMK.out _) ?_;intro bA dA;refine TS.go HK1.out zQ (fun hS=>?_);clear HK1 K1
   (try simp only [nS])
   refine kq 8 hS ?_;refine kq 9 hS ?_;refine kq 10 hS ?_;refine TS.one (i:=11) zq rfl (fun K1 hK1=>?_);have HK1:=yq hK1;clear hK1 hS;dsimp only [getElem_toArray,getElem_cons_succ,getElem_cons_zero]
   go_simp
   refine TS.go HK1.out yw (fun hS=>?_);clear HK1 K1
   (try simp only [nS])
  rotate_left
  focus
   have HK1:=yq hK1;clear hK1 hS;dsimp only [getElem_toArray,getElem_cons_succ,getElem_cons_zero]
   go_simp
   refine TS.go HK1.out yw (fun hS=>?_);clear HK1 K1
   (try simp only [nS])
   refine TS.one (i:=7) zq rfl (fun K1 hK1=>?_);have HK1:=yq hK1;clear hK1 hS;dsimp only [getElem_toArray,getElem_cons_succ,getElem_cons_zero]
   go_simp
   go_at_call 12
   refine gvq (HMK.out _) ?_;intro bA dA;refine TS.go HK1.out zQ (fun hS=>?_);clear HK1 K1
   (try simp only [nS])
   refine kq 8 hS ?_;refine kq 9 hS ?_;refine kq 10 hS ?_
  rotate_left
  all_goals
   refine TS.one (i:=12) zq rfl (fun K1 hK1=>?_);have HK1:=yq hK1;clear hK1 hS;dsimp only [getElem_toArray,getElem_cons_succ,getElem_cons_zero]
   go_simp
   refine TS.go HK1.out yw (fun hS=>?_);clear HK1 K1
   (try simp only [nS])
   refine TS.weB 13 ?_;clear hS;have hW:=HW.out;subst hW
   go_wp2_with fail
   go_meet
   exact⟨_,rfl,by(exact af),by(simp<;>omega),by(simp<;>omega),by simp [go_sem],by simp [go_sem]⟩
 obtain⟨B5,rfl,hB5,h35,hlt5,x50,x51⟩:=hcut;have hsz:=hB5.size;simp only [World.size_alloc]at hsz;have q0:wc.cell? ⟨w.heap.size,0,none⟩=some (.int .i64 R.age):=(hB5.cell (p:=⟨w.heap.size,0,none⟩) yA).trans zE;have q1:wc.cell? ⟨w.heap.size,1,none⟩=some (.int .i64 R.year):=(hB5.cell (p:=⟨w.heap.size,1,none⟩) yA).trans zE;have q2:wc.cell? ⟨w.heap.size,2,none⟩=some (.int .i64 R.children):=(hB5.cell (p:=⟨w.heap.size,2,none⟩) yA).trans zE;have q6:wc.cell? ⟨w.heap.size,6,none⟩=some (.slice ya R.years.length yc):=(hB5.cell (p:=⟨w.heap.size,6,none⟩) yA).trans zE;have r0:wc.cell? ⟨w.heap.size+1+1,0,none⟩=some (.int .i64 (R.d 0)):=(hB5.cell (p:=⟨w.heap.size+1+1,0,none⟩) zS).trans zE;have r1:wc.cell? ⟨w.heap.size+1+1,1,none⟩=some (.int .i64 (R.d 1)):=(hB5.cell (p:=⟨w.heap.size+1+1,1,none⟩) zS).trans zE;have r2:wc.cell? ⟨w.heap.size+1+1,2,none⟩=some (.int .i64 (R.d 2)):=(hB5.cell (p:=⟨w.heap.size+1+1,2,none⟩) zS).trans zE;have r3:wc.cell? ⟨w.heap.size+1+1,3,none⟩=some (.int .i64 (R.d 3)):=(hB5.cell (p:=⟨w.heap.size+1+1,3,none⟩) zS).trans zE;have r4:wc.cell? ⟨w.heap.size+1+1,4,none⟩=some (.int .i64 (R.d 4)):=(hB5.cell (p:=⟨w.heap.size+1+1,4,none⟩) zS).trans zE;have r5:wc.cell? ⟨w.heap.size+1+1,5,none⟩=some (.int .i64 (R.d 5)):=(hB5.cell (p:=⟨w.heap.size+1+1,5,none⟩) zS).trans zE;have r6:wc.cell? ⟨w.heap.size+1+1,6,none⟩=some (.int .i64 (R.d 6)):=(hB5.cell (p:=⟨w.heap.size+1+1,6,none⟩) zS).trans zE;have z0:w.heap.size<wc.heap.size:=by omega
 have z2:w.heap.size+1+1<wc.heap.size:=by omega
 have HB5:=yq hB5;have HSZ:=yq hsz;clear hB5 hsz
 go_upto_region 7 with fail
 refine TS.begin [27] (World.Grows _) zf zf aL (fun hS=>?_);refine kq 0 hS ?_;refine kq 1 hS ?_;refine kq 3 hS ?_;refine kq 4 hS ?_;refine kq 7 hS ?_;refine kq 8 hS ?_;refine kq 10 hS ?_;refine kq 11 hS ?_;refine kq 12 hS ?_;refine kq 13 hS ?_;refine kq 14 hS ?_;refine kq 15 hS ?_;refine kq 16 hS ?_;refine kq 17 hS ?_;refine kq 18 hS ?_;refine kq 19 hS ?_;refine kq 20 hS ?_;refine kq 21 hS ?_;refine kq 22 hS ?_;refine kq 23 hS ?_;refine kq 24 hS ?_;refine TS.takeC (i:=2) (v:=(.int .i64 (pick R.age 110))) (fn:=6) (args:=#[.int .i64 R.age,.int .i64 110]) rfl zf zf zf zo (fun _ _ _ h=>h) rfl hS ?_ ?_ ?_
 focus
  rintro wS ⟨gbS,gdS,rfl⟩
  go_simp
 focus exact fun wS _=>(bz _ _ wS ze)
 (try simp only [nS])
 refine TS.takeC (i:=5) (v:=(.int .i64 (pick R.year 200))) (fn:=6) (args:=#[.int .i64 R.year,.int .i64 200]) rfl zf zf zf zo (fun _ _ _ h=>h) rfl hS ?_ ?_ ?_
 focus
  rintro wS ⟨gbS,gdS,rfl⟩
  go_simp
 focus exact fun wS _=>(bz _ _ wS ze)
 (try simp only [nS])
 refine kq 6 hS ?_;refine TS.takeC (i:=9) (v:=(.int .i64 (pick R.children 8))) (fn:=6) (args:=#[.int .i64 R.children,.int .i64 8]) rfl zf zf zf zo (fun _ _ _ h=>h) rfl hS ?_ ?_ ?_
 focus
  rintro wS ⟨gbS,gdS,rfl⟩
  go_simp
 focus exact fun wS _=>(bz _ _ wS ze)
 (try simp only [nS])
 refine kq 25 hS ?_
 (try simp only [w2])
 refine TS.one (i:=26) zq rfl (fun K1 hK1=>?_);have HK1:=yq hK1;clear hK1 hS;dsimp only [getElem_toArray,getElem_cons_succ,getElem_cons_zero]
 go_simp
 refine TS.go HK1.out yw (fun hS=>?_);clear HK1 K1
 (try simp only [nS])
 refine TS.weB 27 ?_;clear hS
 go_wp2_with fail
 go_loopw [8] (fun v8 wr=>∃(k:Nat) (vb:Value),k<=R.years.length/\k<=20/\v8= .int .i64 k/\Below (wc.heap.size+1) (wc.alloc ((.cells #[.int .i64 (pick R.age 110),.int .i64 (1900+pick R.year 200),.int .i64 (pick R.children 8),.int .i64 (R.d 0),.int .i64 (R.d 1),.int .i64 (R.d 2),.int .i64 (R.d 3),.int .i64 (R.d 4),.int .i64 (R.d 5),.int .i64 (R.d 6),.int .i64 (mkN (pick R.base 1000000) (pick R.den 12+1)),.int .i64 (mkD (pick R.base 1000000) (pick R.den 12+1)),vb] 41))) wr/\wr.ownsRow (wc.heap.size+1) 3 1 vb k ((mvV R).take k)) (fun v8 _=>20-(intOf v8).toNat)
 case atStart=>exact⟨0,_,by omega,by omega,rfl,by first|exact .refl _ _|exact⟨rfl,rfl,rfl,Nat.le_refl _,fun _ _=>rfl⟩,World.ownsRow_nil _ _ _ _⟩
 case round=>
  obtain⟨k,vb,hk,hk20,rfl,hB,hown⟩:=hrel;have p6:wr.cell? ⟨w.heap.size,6,none⟩=some (.slice ya R.years.length yc):=(hB.cell (p:=⟨w.heap.size,6,none⟩) (by show w.heap.size<wc.heap.size+1;omega)).trans ((World.cell?_alloc_lt wc _ ⟨w.heap.size,6,none⟩ z0).trans q6);have pv:wr.cell? ⟨wc.heap.size,12,none⟩=some vb:=(hB.cell (p:=⟨wc.heap.size,12,none⟩) yg).trans zE;have fv:wr.frozen? ⟨wc.heap.size,12,none⟩=false:=(hB.frozen (p:=⟨wc.heap.size,12,none⟩) yg).trans zE;have hszr:wc.heap.size+1<=wr.heap.size:=by have:=hB.size;simpa using this
  have HB:=yq hB;have HO:=yq hown;have HPV:=yq pv;have HFV:=yq fv;by_cases hlt:k<R.years.length/\k<20
  ·rcases HYC.out with h0|⟨b,off,rfl,hbw,hx⟩
   ·omega
   have x0:=hx k hlt.1;have hbs:b<wc.heap.size:=by omega
   have x1:wr.cell? ⟨b,off+k,none⟩=some (.int .i64 (R.years.getD k 0)):=(hB.cell (p:=⟨b,off+k,none⟩) (by show b<wc.heap.size+1;omega)).trans ((World.cell?_alloc_lt wc _ ⟨b,off+k,none⟩ hbs).trans ((HB5.out.cell (p:=⟨b,off+k,none⟩) (by show b<w.heap.size+1+1+1;omega)).trans (((World.cell?_alloc_lt _ _ ⟨b,off+k,none⟩ zp).trans ((World.cell?_alloc_lt _ _ ⟨b,off+k,none⟩ zp).trans (World.cell?_alloc_lt _ _ ⟨b,off+k,none⟩ hbw))).trans x0)));have d0:0<R.years.length:=by omega
   have d1:(k:Int)<(R.years.length:Int):=by omega
   have d2:(k:Int)<20:=by omega
   have HNX:=yq (OC R k hlt.1 hlt.2);have HKL:=yq hlt;clear hx x0 hlt hB hown q0 q1 q2 q6 r0 r1 r2 r3 r4 r5 r6 x50 x51;generalize R.years.getD k 0=z at *
   go_wp2_with fail
   refine TG.begin 11 (fun wS=>wS.cell? ⟨w.heap.size,6,none⟩=some (.slice (some ⟨b,off,none⟩) R.years.length yc)/\wS.cell? ⟨wc.heap.size,12,none⟩=some vb/\wS.cell? ⟨b,off+k,none⟩=some (.int .i64 z)) zf zf ⟨p6,pv,x1⟩ (fun hS=>?_);refine TG.takeV (i:=0) (v:=?_) rfl zf zf zf zo (fun _ _ _ h=>h) rfl hS ?_ ?_
   rotate_left
   focus
    rintro wS ⟨s1,s2,s3⟩
    go_simp
    rfl
   (try simp only [nS])
   refine TG.takeV (i:=1) (v:=?_) rfl zf zf zf zo (fun _ _ _ h=>h) rfl hS ?_ ?_
   rotate_left
   focus
    rintro wS ⟨s1,s2,s3⟩
    go_simp
    rfl
   (try simp only [nS])
   refine TG.takeV (i:=2) (v:=?_) rfl zf zf zf zo (fun _ _ _ h=>h) rfl hS ?_ ?_
   rotate_left
   focus
    rintro wS ⟨s1,s2,s3⟩
    go_simp
    rfl
   (try simp only [nS])
   refine TG.takeV (i:=3) (v:=?_) rfl zf zf zf zo (fun _ _ _ h=>h) rfl hS ?_ ?_
   rotate_left
   focus
    rintro wS ⟨s1,s2,s3⟩
    go_simp
    rfl
   (try simp only [nS])
   refine TG.takeV (i:=4) (v:=?_) rfl zf zf zf zo (fun _ _ _ h=>h) rfl hS ?_ ?_
   rotate_left
   focus
    rintro wS ⟨s1,s2,s3⟩
    go_simp
    rfl
   (try simp only [nS])
   refine TG.takeV (i:=5) (v:=?_) rfl zf zf zf zo (fun _ _ _ h=>h) rfl hS ?_ ?_
   rotate_left
   focus
    rintro wS ⟨s1,s2,s3⟩
    go_simp
    rfl
   (try simp only [nS])
   refine TG.takeV (i:=6) (v:=?_) rfl zf zf zf zo (fun _ _ _ h=>h) rfl hS ?_ ?_
   rotate_left
   focus
    rintro wS ⟨s1,s2,s3⟩
    go_simp
    rfl
   (try simp only [nS])
   refine TG.takeC (i:=7) (v:=.int .i64 (pick z 5000000)) (fn:=6) (args:=#[.int .i64 z,.int .i64 5000000]) rfl zf zf zf zo (fun _ _ _ h=>h) rfl hS ?_ ?_ ?_
   focus
    rintro wS ⟨s1,s2,s3⟩
    go_simp
   focus exact fun wS _=>bz _ _ wS ze
   (try simp only [nS])
   refine TG.one (i:=8) zq rfl (fun K1 hK1=>?_)
   go_simp
   refine TG.go hK1 (by exact⟨(World.cell?_alloc_lt wr _ ⟨w.heap.size,6,none⟩ (by show w.heap.size<wr.heap.size;omega)).trans p6,(World.cell?_alloc_lt wr _ ⟨wc.heap.size,12,none⟩ (by show wc.heap.size<wr.heap.size;omega)).trans HPV.out,(World.cell?_alloc_lt wr _ ⟨b,off+k,none⟩ (by show b<wr.heap.size;omega)).trans x1⟩) (fun hS=>?_);clear hK1 K1
   (try simp only [nS])
   refine TG.one (i:=9) zq rfl (fun K1 hK1=>?_);refine aF rfl _ _ 22 rfl (wc.heap.size+1) 3 i0 (.int .i64 0) 1 8 underlying22 hi hz0 hz1 hz2 rfl zo vb k _ rfl (HO.out.alloc _) ⟨wr.heap.size,0,none⟩ 1 1 [.int .i64 (pick z 5000000)] rfl rfl (aQ wr [.int .i64 (pick z 5000000)] _ _ rfl) (by intro u hu;simp at hu;subst hu;rfl) zD ze zp ?_;intro v2 w2 hown2 hgrow2;obtain⟨g',cap',rfl⟩:=ownsRow_succ hown2;have hB2:Below (wc.heap.size+1) wr w2:=Below.grown (((Below.refl (wc.heap.size+1) wr).alloc hszr (.cells #[.int .i64 (pick z 5000000)] 3)).drew) hgrow2 zp (fun k hk=>(HO.out.lt k hk).1);have HB2:=yq hB2;have HO2:=yq hown2;refine TG.go hK1 (by exact⟨(hB2.cell (p:=⟨w.heap.size,6,none⟩) (by show w.heap.size<wc.heap.size+1;omega)).trans p6,(hB2.cell (p:=⟨wc.heap.size,12,none⟩) yg).trans HPV.out,(hB2.cell (p:=⟨b,off+k,none⟩) (by show b<wc.heap.size+1;omega)).trans x1⟩) (fun hS=>?_);clear hK1 K1
   (try simp only [nS])
   refine TG.takeV (i:=10) (v:=?_) rfl zf zf zf zo (fun _ _ _ h=>h) rfl hS ?_ ?_
   rotate_left
   focus
    rintro wS ⟨s1,s2,s3⟩
    go_simp
    rfl
   (try simp only [nS])
   have cv:w2.cell? ⟨wc.heap.size,12,none⟩=some vb:=(HB2.out.cell (p:=⟨wc.heap.size,12,none⟩) yg).trans HPV.out;have gv:w2.frozen? ⟨wc.heap.size,12,none⟩=false:=(HB2.out.frozen (p:=⟨wc.heap.size,12,none⟩) yg).trans HFV.out;clear hown2 hgrow2 hB2;refine TG.one (i:=11) zf rfl (fun K1 hK1=>?_)
   go_simp
   refine hK1 _ _ (fun h=>absurd rfl h) (TG.done zf ?_);clear hK1 K1 hS
   (try simp only [nS])
   go_wp2_with fail
   go_roundw
   case rel=>
    refine⟨k+1,.slice (some ⟨g',0,none⟩) (k+1) cap',by have:=HKL.out;omega,by have:=HKL.out;omega,by go_num, ?_, ?_⟩
    rotate_left
    ·rw [HNX.out];obtain⟨h0,h1|⟨g2,c2,cur,hv,hbg,hg,hr⟩⟩:=HO2.out
     ·exact absurd h1.1 zg
     ·exact⟨h0,.inr ⟨g2,c2,cur,hv,hbg,(Below.heap_setCell _ _ _ _ (by show g2≠wc.heap.size;omega)).trans hg,hr⟩⟩
    ·have h:=(HB.out.trans HB2.out).setBoth ⟨wc.heap.size,12,none⟩ (.slice (some ⟨g',0,none⟩) (k+1) cap');simpa [go_sem]using h
   case measure=>simp [intOf];have:=HKL.out;omega
  ·have hend:=QX R k hk hk20 ze;have HEND:=yq hend;clear hend;obtain⟨bs9,d9,rfl⟩:World.Grows (wc.alloc ((.cells #[.int .i64 (pick R.age 110),.int .i64 (1900+pick R.year 200),.int .i64 (pick R.children 8),.int .i64 (R.d 0),.int .i64 (R.d 1),.int .i64 (R.d 2),.int .i64 (R.d 3),.int .i64 (R.d 4),.int .i64 (R.d 5),.int .i64 (R.d 6),.int .i64 (mkN (pick R.base 1000000) (pick R.den 12+1)),.int .i64 (mkD (pick R.base 1000000) (pick R.den 12+1)),vb] 41))) wr:=.of_below (by simpa using HB.out);clear hB hown pv fv p6 HPV HFV q0 q1 q2 q6 r0 r1 r2 r3 r4 r5 r6 x50 x51 HB z0 z2;obtain⟨bs7,d7,rfl⟩:World.Grows ((((w.alloc (.cells #[.int .i64 R.age,.int .i64 R.year,.int .i64 R.children,.int .i64 R.base,.int .i64 R.den,.slice da R.days.length dc,.slice ya R.years.length yc] 27)).alloc (.cells #[.int .i64 0,.int .i64 0,.int .i64 0,.int .i64 0,.int .i64 0,.int .i64 0,.int .i64 0,.int .i64 0,.int .i64 0,.int .i64 0,.int .i64 0,.int .i64 0,.slice none 0 0] 41)).alloc (.cells #[.int .i64 (R.d 0),.int .i64 (R.d 1),.int .i64 (R.d 2),.int .i64 (R.d 3),.int .i64 (R.d 4),.int .i64 (R.d 5),.int .i64 (R.d 6)] 81))) wc:=.of_below (by simpa using HB5.out);clear HB5 HSZ hlt5 hszr;simp only [World.size_grow,World.size_alloc]at HO
   obtain⟨va,vc,rfl⟩:∃a c,vb= .slice a k c:=by
    rcases oQ HO.out with ⟨rfl,h0⟩|⟨g,cap,rfl,-⟩
    ·exact⟨none,0,by rw [h0]⟩
    ·exact⟨_,cap,rfl⟩
   by_cases d1:(k:Int)<(R.years.length:Int)
   focus
    have d2:¬(k:Int)<20:=by omega
    clear hlt
   rotate_left
   focus
    clear hlt
   rotate_left
   all_goals
    go_wp2_with fail
    go_returns
    refine⟨.slice va k vc,rfl,.of_below af, ?_⟩;exact bI.of_rowB (World.ownsRow_same zg zG HO.out) HEND.out.2 HEND.out.1 (by have:=GK R;omega)
end Go.Proofs.YtcfpoofhokbhlaaGreatDoor
