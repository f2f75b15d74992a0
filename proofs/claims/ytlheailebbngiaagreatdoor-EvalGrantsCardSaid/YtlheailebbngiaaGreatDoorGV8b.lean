import Derived.Test.YtlheailebbngiaaGreatDoorGBst8
set_option linter.all false
set_option maxHeartbeats 16000000
set_option maxRecDepth 1000000
namespace Go.Proofs.YtlheailebbngiaaGreatDoor
open Go.Proofs.Tryz List
open Go.RowKit
def uN(S:Nat->Prop)(v:Vw)(y se:Value)(x:Ex)(r:Val × Int)(w:World):Prop:=∀w',w.Grows w'->∀a c,aC S w' x (.slice a x.args.length c)->
 Calls prog 70 #[.agg #[.int .i64 x.op,.int .i64 x.num,.int .i64 x.den,.int .i64 x.dim,.string x.name,.slice a x.args.length c],vwV v y,se] w' fun e w''=>e= .returned (.tuple #[.agg #[.int .i64 r.1.dim,.bool r.1.yes,.int .i64 r.1.n,.int .i64 r.1.d],.int .i64 r.2])/\w'.Grows w''
theorem qJ{S:Nat->Prop}{w:World}{e:Ex}{a:Option Addr}{cap:Nat}(h:aC S w e (.slice a e.args.length cap)){b off:Nat}(ha:a=some ⟨b,off,none⟩)(k:Nat)(hk:k<e.args.length):∃ak ck,aC S w (e.arg k) (.slice ak (e.arg k).args.length ck)/\
 w.cell? ⟨b,off+k*6,none⟩=some (.int .i64 (e.arg k).op)/\w.cell? ⟨b,off+(k*6+1),none⟩=some (.int .i64 (e.arg k).num)/\w.cell? ⟨b,off+(k*6+2),none⟩=some (.int .i64 (e.arg k).den)/\w.cell? ⟨b,off+(k*6+3),none⟩=some (.int .i64 (e.arg k).dim)/\w.cell? ⟨b,off+(k*6+4),none⟩=some (.string (e.arg k).name)/\w.cell? ⟨b,off+(k*6+5),none⟩=some (.slice ak (e.arg k).args.length ck):=by
 obtain⟨b',off',ha',-,hx⟩:=h.arg_cells ze;rw [ha]at ha';simp only [Option.some.injEq,Addr.mk.injEq,and_true]at ha';obtain⟨rfl,rfl⟩:=ha';obtain⟨ak,ck,⟨x0,x1,x2,x3,x4,x5⟩,hr⟩:=hx k hk;exact⟨ak,ck,hr,x0,x1,x2,x3,x4,x5⟩
theorem IZ(S:Nat->Prop)(v:Vw)(y se:Value)(env:List (ByteArray × Val))(e:Ex)(a:Option Addr)(cap:Nat)(w:World)(h:aC S w e (.slice a e.args.length cap))(hy:bJ w y v.years)(hs:bi w se env)(hop:e.op=17\/e.op=18)(hlen:e.args.length=2)
 (r0 r1:Val × Int) (hr0:ai v env (e.arg 0)=r0) (hr1:ai v env (e.arg 1)=r1) (hz:r0.2≠0->r0.1= .zero) (H0:Hid (uN S v y se (e.arg 0) r0 w)) (H1:Hid (uN S v y se (e.arg 1) r1 w)):(Calls prog 70 #[exV e (.slice a e.args.length cap),vwV v y,se] w (ApP (ai v env e) w)):=by
 have HV0:Hid (ai v env e=if r0.2≠0 then(.zero,r0.2)else if e.op=17 then(if r0.1.yes=true then r1 else r0)else(if r0.1.yes=true then r0 else r1)):=zh (by
  have e0:ai v env (e.args.getD 0 default)=r0:=hr0;have e1:ai v env (e.args.getD 1 default)=r1:=hr1;rw [dQ];unfold eD;rw [bZ v env e.args 0 ze,bZ v env e.args 1 ze,e0,e1];rw [if_neg ze,if_neg ze,if_neg ze]
  split
  ·rfl
  ·split
   ·rfl
   ·rw [if_pos ze])
 obtain⟨b,off,rfl,hb,-⟩:=h.arg_cells ze;obtain⟨a0,k0,hp0,x0,x1,x2,x3,x4,x5⟩:=qJ h rfl 0 ze;obtain⟨a1,k1,hp1,z0,z1,z2,z3,z4,z5⟩:=qJ h rfl 1 ze;simp only [Nat.zero_mul,Nat.zero_add,Nat.add_zero,Nat.one_mul,Nat.reduceAdd]at x0 x1 x2 x3 x4 x5 z0 z1 z2 z3 z4 z5;have HP0:=zh hp0;have HP1:=zh hp1;have hl0:(0:Int)<(e.args.length:Int):=by omega
 have hl2:0<e.args.length:=by omega
 have hl3:1<e.args.length:=by omega
 have hl1:(1:Int)<(e.args.length:Int):=by omega
 have o1:(e.op==1)=false:=by simp;omega
 have o2:(e.op==2)=false:=by simp;omega
 have o3:(e.op==3)=false:=by simp;omega
 unfold uN at H0 H1
 obtain⟨ya,yc,rfl⟩:∃a c,y= .slice a v.years.length c:=by
  exact xN
 obtain⟨sa,sc,rfl⟩:∃a c,se= .slice a env.length c:=by
  exact xM
 unfold vwV exV;unfold vwV at H0 H1;have HLN:=zh hlen;clear hy hs h hp0 hp1 hr0 hr1 hlen;obtain⟨⟨m0,q0,n0,d0⟩,c0⟩:=r0;obtain⟨⟨m1,q1,n1,d1⟩,c1⟩:=r1;dsimp only at hz H0 H1 HV0;by_cases hc:c0=0
 ·subst hc;clear hz;rcases hop with o|o
  ·have o17:(e.op==17)=true:=by simp [o]
   have o18:(e.op==18)=false:=by simp [o]
   cases q0 with
   |true=>
    have HV:Hid (ai v env e=(⟨m1,q1,n1,d1⟩,c1)):=zh (by rw [HV0.out];simp [o]);clear o HV0
    go_enter func70,ntmps70
    go_wp2_with fail
    refine TS.begin [12] (World.Grows _) zf zf aO (fun hS=>?_);refine TS.wkB 0 hS ?_;refine TS.wkB 1 hS ?_;refine TS.wkB 2 hS ?_;refine TS.wkB 3 hS ?_;refine TS.wkB 4 hS ?_;refine TS.wkB 5 hS ?_;refine TS.two (i:=6) (k:=10) zq rfl rfl (fun K1 hK1=>?_) (fun K1 hK1=>?_)
    focus
     have HK1:=zh hK1;clear hK1 hS;dsimp only [getElem_toArray,getElem_cons_succ,getElem_cons_zero]
     go_simp
     go_at_call 70
     refine(H0.out _ aj _ _ (HP0.out.grows aj)).mono ?_;rintro e' wA ⟨rfl,bA,dA,rfl⟩;refine TS.go HK1.out aj (fun hS=>?_);clear HK1 K1
     (try simp only [nS])
     refine TS.wkB 7 hS ?_;refine TS.wkB 8 hS ?_;refine TS.wkB 9 hS ?_;refine TS.one (i:=10) zq rfl (fun K1 hK1=>?_);have HK1:=zh hK1;clear hK1 hS;dsimp only [getElem_toArray,getElem_cons_succ,getElem_cons_zero]
     go_simp
     refine TS.go HK1.out aj (fun hS=>?_);clear HK1 K1
     (try simp only [nS])
    rotate_left
    focus
     have HK1:=zh hK1;clear hK1 hS;dsimp only [getElem_toArray,getElem_cons_succ,getElem_cons_zero]
     go_simp
     refine TS.go HK1.out aj (fun hS=>?_);clear HK1 K1
     (try simp only [nS])
     refine TS.one (i:=6) zq rfl (fun K1 hK1=>?_);have HK1:=zh hK1;clear hK1 hS;dsimp only [getElem_toArray,getElem_cons_succ,getElem_cons_zero]
     go_simp
     go_at_call 70
     refine(H0.out _ aj _ _ (HP0.out.grows aj)).mono ?_;rintro e' wA ⟨rfl,bA,dA,rfl⟩;refine TS.go HK1.out aj (fun hS=>?_);clear HK1 K1
     (try simp only [nS])
     refine TS.wkB 7 hS ?_;refine TS.wkB 8 hS ?_;refine TS.wkB 9 hS ?_
    rotate_left
    all_goals
     refine TS.one (i:=11) zq rfl (fun K1 hK1=>?_);have HK1:=zh hK1;clear hK1 hS;dsimp only [getElem_toArray,getElem_cons_succ,getElem_cons_zero]
     go_simp
     refine TS.go HK1.out aj (fun hS=>?_);clear HK1 K1
     (try simp only [nS])
     refine TS.weB 12 ?_;clear hS
     go_wp2_with fail
     refine TS.begin [9,10] (World.Grows _) zf zf aO (fun hS=>?_);refine TS.wkB 0 hS ?_;refine TS.wkB 1 hS ?_;refine TS.wkB 2 hS ?_;refine TS.wkB 3 hS ?_;refine TS.wkB 4 hS ?_;refine TS.wkB 5 hS ?_;refine TS.one (i:=6) zq rfl (fun K1 hK1=>?_);have HK1:=zh hK1;clear hK1 hS;dsimp only [getElem_toArray,getElem_cons_succ,getElem_cons_zero]
     go_simp
     go_at_call 70
     refine(H1.out _ aj _ _ (HP1.out.grows aj)).mono ?_;rintro e' wA ⟨rfl,bA,dA,rfl⟩;refine TS.go HK1.out aj (fun hS=>?_);clear HK1 K1
     (try simp only [nS])
     refine TS.wkB 7 hS ?_;refine TS.wkB 8 hS ?_;refine TS.wtB 9 ?_;refine TS.weB 10 ?_;clear hS
     go_wp2_with fail
     go_returns
     exact⟨by rw [HV.out],aj⟩
   |false=>
    have HV:Hid (ai v env e=(⟨m0,false,n0,d0⟩,0)):=zh (by rw [HV0.out];simp [o]);clear o HV0
    go_enter func70,ntmps70
    go_wp2_with fail
    refine TS.begin [12] (World.Grows _) zf zf aO (fun hS=>?_);refine TS.wkB 0 hS ?_;refine TS.wkB 1 hS ?_;refine TS.wkB 2 hS ?_;refine TS.wkB 3 hS ?_;refine TS.wkB 4 hS ?_;refine TS.wkB 5 hS ?_;refine TS.two (i:=6) (k:=10) zq rfl rfl (fun K1 hK1=>?_) (fun K1 hK1=>?_)
    focus
     have HK1:=zh hK1;clear hK1 hS;dsimp only [getElem_toArray,getElem_cons_succ,getElem_cons_zero]
     go_simp
     go_at_call 70
     refine(H0.out _ aj _ _ (HP0.out.grows aj)).mono ?_;rintro e' wA ⟨rfl,bA,dA,rfl⟩;refine TS.go HK1.out aj (fun hS=>?_);clear HK1 K1
     (try simp only [nS])
     refine TS.wkB 7 hS ?_;refine TS.wkB 8 hS ?_;refine TS.wkB 9 hS ?_;refine TS.one (i:=10) zq rfl (fun K1 hK1=>?_);have HK1:=zh hK1;clear hK1 hS;dsimp only [getElem_toArray,getElem_cons_succ,getElem_cons_zero]
     go_simp
     refine TS.go HK1.out aj (fun hS=>?_);clear HK1 K1
     (try simp only [nS])
    rotate_left
    focus
     have HK1:=zh hK1;clear hK1 hS;dsimp only [getElem_toArray,getElem_cons_succ,getElem_cons_zero]
     go_simp
     refine TS.go HK1.out aj (fun hS=>?_);clear HK1 K1
     (try simp only [nS])
     refine TS.one (i:=6) zq rfl (fun K1 hK1=>?_);have HK1:=zh hK1;clear hK1 hS;dsimp only [getElem_toArray,getElem_cons_succ,getElem_cons_zero]
     go_simp
     go_at_call 70
     refine(H0.out _ aj _ _ (HP0.out.grows aj)).mono ?_;rintro e' wA ⟨rfl,bA,dA,rfl⟩;refine TS.go HK1.out aj (fun hS=>?_);clear HK1 K1
     (try simp only [nS])
     refine TS.wkB 7 hS ?_;refine TS.wkB 8 hS ?_;refine TS.wkB 9 hS ?_
    rotate_left
    all_goals
     refine TS.one (i:=11) zq rfl (fun K1 hK1=>?_);have HK1:=zh hK1;clear hK1 hS;dsimp only [getElem_toArray,getElem_cons_succ,getElem_cons_zero]
     go_simp
     refine TS.go HK1.out aj (fun hS=>?_);clear HK1 K1
     (try simp only [nS])
     refine TS.weB 12 ?_;clear hS
     go_wp2_with fail
     go_returns
     exact⟨by rw [HV.out],aj⟩
  ·have o17:(e.op==17)=false:=by simp [o]
   have o18:(e.op==18)=true:=by simp [o]
   cases q0 with
   |true=>
    have HV:Hid (ai v env e=(⟨m0,true,n0,d0⟩,0)):=zh (by rw [HV0.out];simp [o]);clear o HV0
    go_enter func70,ntmps70
    go_wp2_with fail
    refine TS.begin [12] (World.Grows _) zf zf aO (fun hS=>?_);refine TS.wkB 0 hS ?_;refine TS.wkB 1 hS ?_;refine TS.wkB 2 hS ?_;refine TS.wkB 3 hS ?_;refine TS.wkB 4 hS ?_;refine TS.wkB 5 hS ?_;refine TS.two (i:=6) (k:=10) zq rfl rfl (fun K1 hK1=>?_) (fun K1 hK1=>?_)
    focus
     have HK1:=zh hK1;clear hK1 hS;dsimp only [getElem_toArray,getElem_cons_succ,getElem_cons_zero]
     go_simp
     go_at_call 70
     refine(H0.out _ aj _ _ (HP0.out.grows aj)).mono ?_;rintro e' wA ⟨rfl,bA,dA,rfl⟩;refine TS.go HK1.out aj (fun hS=>?_);clear HK1 K1
     (try simp only [nS])
     refine TS.wkB 7 hS ?_;refine TS.wkB 8 hS ?_;refine TS.wkB 9 hS ?_;refine TS.one (i:=10) zq rfl (fun K1 hK1=>?_);have HK1:=zh hK1;clear hK1 hS;dsimp only [getElem_toArray,getElem_cons_succ,getElem_cons_zero]
     go_simp
     refine TS.go HK1.out aj (fun hS=>?_);clear HK1 K1
     (try simp only [nS])
    rotate_left
    focus
     have HK1:=zh hK1;clear hK1 hS;dsimp only [getElem_toArray,getElem_cons_succ,getElem_cons_zero]
     go_simp
     refine TS.go HK1.out aj (fun hS=>?_);clear HK1 K1
     (try simp only [nS])
     refine TS.one (i:=6) zq rfl (fun K1 hK1=>?_);have HK1:=zh hK1;clear hK1 hS;dsimp only [getElem_toArray,getElem_cons_succ,getElem_cons_zero]
     go_simp
     go_at_call 70
     refine(H0.out _ aj _ _ (HP0.out.grows aj)).mono ?_;rintro e' wA ⟨rfl,bA,dA,rfl⟩;refine TS.go HK1.out aj (fun hS=>?_);clear HK1 K1
     (try simp only [nS])
     refine TS.wkB 7 hS ?_;refine TS.wkB 8 hS ?_;refine TS.wkB 9 hS ?_
    rotate_left
    all_goals
     refine TS.one (i:=11) zq rfl (fun K1 hK1=>?_);have HK1:=zh hK1;clear hK1 hS;dsimp only [getElem_toArray,getElem_cons_succ,getElem_cons_zero]
     go_simp
     refine TS.go HK1.out aj (fun hS=>?_);clear HK1 K1
     (try simp only [nS])
     refine TS.weB 12 ?_;clear hS
     go_wp2_with fail
     go_returns
     exact⟨by rw [HV.out],aj⟩
   |false=>
    have HV:Hid (ai v env e=(⟨m1,q1,n1,d1⟩,c1)):=zh (by rw [HV0.out];simp [o]);clear o HV0
    go_enter func70,ntmps70
    go_wp2_with fail
    refine TS.begin [12] (World.Grows _) zf zf aO (fun hS=>?_);refine TS.wkB 0 hS ?_;refine TS.wkB 1 hS ?_;refine TS.wkB 2 hS ?_;refine TS.wkB 3 hS ?_;refine TS.wkB 4 hS ?_;refine TS.wkB 5 hS ?_;refine TS.two (i:=6) (k:=10) zq rfl rfl (fun K1 hK1=>?_) (fun K1 hK1=>?_)
    focus
     have HK1:=zh hK1;clear hK1 hS;dsimp only [getElem_toArray,getElem_cons_succ,getElem_cons_zero]
     go_simp
     go_at_call 70
     refine(H0.out _ aj _ _ (HP0.out.grows aj)).mono ?_;rintro e' wA ⟨rfl,bA,dA,rfl⟩;refine TS.go HK1.out aj (fun hS=>?_);clear HK1 K1
     (try simp only [nS])
     refine TS.wkB 7 hS ?_;refine TS.wkB 8 hS ?_;refine TS.wkB 9 hS ?_;refine TS.one (i:=10) zq rfl (fun K1 hK1=>?_);have HK1:=zh hK1;clear hK1 hS;dsimp only [getElem_toArray,getElem_cons_succ,getElem_cons_zero]
     go_simp
     refine TS.go HK1.out aj (fun hS=>?_);clear HK1 K1
     (try simp only [nS])
    rotate_left
    focus
     have HK1:=zh hK1;clear hK1 hS;dsimp only [getElem_toArray,getElem_cons_succ,getElem_cons_zero]
     go_simp
     refine TS.go HK1.out aj (fun hS=>?_);clear HK1 K1
     (try simp only [nS])
     refine TS.one (i:=6) zq rfl (fun K1 hK1=>?_);have HK1:=zh hK1;clear hK1 hS;dsimp only [getElem_toArray,getElem_cons_succ,getElem_cons_zero]
     go_simp
     go_at_call 70
     refine(H0.out _ aj _ _ (HP0.out.grows aj)).mono ?_;rintro e' wA ⟨rfl,bA,dA,rfl⟩;refine TS.go HK1.out aj (fun hS=>?_);clear HK1 K1
     (try simp only [nS])
     refine TS.wkB 7 hS ?_;refine TS.wkB 8 hS ?_;refine TS.wkB 9 hS ?_
    rotate_left
    all_goals
     refine TS.one (i:=11) zq rfl (fun K1 hK1=>?_);have HK1:=zh hK1;clear hK1 hS;dsimp only [getElem_toArray,getElem_cons_succ,getElem_cons_zero]
     go_simp
     refine TS.go HK1.out aj (fun hS=>?_);clear HK1 K1
     (try simp only [nS])
     refine TS.weB 12 ?_;clear hS
     go_wp2_with fail
     refine TS.begin [9,10] (World.Grows _) zf zf aO (fun hS=>?_);refine TS.wkB 0 hS ?_;refine TS.wkB 1 hS ?_;refine TS.wkB 2 hS ?_;refine TS.wkB 3 hS ?_;refine TS.wkB 4 hS ?_;refine TS.wkB 5 hS ?_;refine TS.one (i:=6) zq rfl (fun K1 hK1=>?_);have HK1:=zh hK1;clear hK1 hS;dsimp only [getElem_toArray,getElem_cons_succ,getElem_cons_zero]
     go_simp
     go_at_call 70
     refine(H1.out _ aj _ _ (HP1.out.grows aj)).mono ?_;rintro e' wA ⟨rfl,bA,dA,rfl⟩;refine TS.go HK1.out aj (fun hS=>?_);clear HK1 K1
     (try simp only [nS])
     refine TS.wkB 7 hS ?_;refine TS.wkB 8 hS ?_;refine TS.wtB 9 ?_;refine TS.weB 10 ?_;clear hS
     go_wp2_with fail
     go_returns
     exact⟨by rw [HV.out],aj⟩
 ·have hzz:=hz hc;simp only [Val.zero,Val.mk.injEq]at hzz;obtain⟨rfl,rfl,rfl,rfl⟩:=hzz;have HV:Hid (ai v env e=(.zero,c0)):=zh (by rw [HV0.out,if_pos hc]);have hq1:(c0 !=0)=true:=by simpa using hc
  clear hc hz HV0;rcases hop with o|o
  focus
   have o17:(e.op==17)=true:=by simp [o]
  rotate_left
  focus
   have o17:(e.op==17)=false:=by simp [o]
   have o18:(e.op==18)=true:=by simp [o]
  rotate_left
  all_goals
   clear o
   go_enter func70,ntmps70
   go_wp2_with fail
   refine TS.begin [12] (World.Grows _) zf zf aO (fun hS=>?_);refine TS.wkB 0 hS ?_;refine TS.wkB 1 hS ?_;refine TS.wkB 2 hS ?_;refine TS.wkB 3 hS ?_;refine TS.wkB 4 hS ?_;refine TS.wkB 5 hS ?_;refine TS.two (i:=6) (k:=10) zq rfl rfl (fun K1 hK1=>?_) (fun K1 hK1=>?_)
   focus
    have HK1:=zh hK1;clear hK1 hS;dsimp only [getElem_toArray,getElem_cons_succ,getElem_cons_zero]
    go_simp
    go_at_call 70
    refine(H0.out _ aj _ _ (HP0.out.grows aj)).mono ?_;rintro e' wA ⟨rfl,bA,dA,rfl⟩;refine TS.go HK1.out aj (fun hS=>?_);clear HK1 K1
    (try simp only [nS])
    refine TS.wkB 7 hS ?_;refine TS.wkB 8 hS ?_;refine TS.wkB 9 hS ?_;refine TS.one (i:=10) zq rfl (fun K1 hK1=>?_);have HK1:=zh hK1;clear hK1 hS;dsimp only [getElem_toArray,getElem_cons_succ,getElem_cons_zero]
    go_simp
    refine TS.go HK1.out aj (fun hS=>?_);clear HK1 K1
    (try simp only [nS])
   rotate_left
   focus
    have HK1:=zh hK1;clear hK1 hS;dsimp only [getElem_toArray,getElem_cons_succ,getElem_cons_zero]
    go_simp
    refine TS.go HK1.out aj (fun hS=>?_);clear HK1 K1
    (try simp only [nS])
    refine TS.one (i:=6) zq rfl (fun K1 hK1=>?_);have HK1:=zh hK1;clear hK1 hS;dsimp only [getElem_toArray,getElem_cons_succ,getElem_cons_zero]
    go_simp
    go_at_call 70
    refine(H0.out _ aj _ _ (HP0.out.grows aj)).mono ?_;rintro e' wA ⟨rfl,bA,dA,rfl⟩;refine TS.go HK1.out aj (fun hS=>?_);clear HK1 K1
    (try simp only [nS])
    refine TS.wkB 7 hS ?_;refine TS.wkB 8 hS ?_;refine TS.wkB 9 hS ?_
   rotate_left
   all_goals
    refine TS.one (i:=11) zq rfl (fun K1 hK1=>?_);have HK1:=zh hK1;clear hK1 hS;dsimp only [getElem_toArray,getElem_cons_succ,getElem_cons_zero]
    go_simp
    refine TS.go HK1.out aj (fun hS=>?_);clear HK1 K1
    (try simp only [nS])
    refine TS.weB 12 ?_;clear hS
    go_wp2_with fail
    (go_returns;exact⟨by rw [HV.out];rfl,aj⟩)
def Fs(l:List Val):List Value:=l.flatMap fun x=>[.int .i64 x.dim,.bool x.yes,.int .i64 x.n,.int .i64 x.d]
theorem Fq(l:List Val)(x:Val):Fs (l++[x])=Fs l++[.int .i64 x.dim,.bool x.yes,.int .i64 x.n,.int .i64 x.d]:=by
 unfold Fs;simp
def kM(v:Vw)(env:List (ByteArray × Val))(e:Ex):List Val:=e.args.map fun x=>(ai v env x).1
theorem lm(v:Vw)(env:List (ByteArray × Val))(e:Ex)(k:Nat)(hk:k<e.args.length):(kM v env e).take (k+1)=(kM v env e).take k++[(ai v env (e.arg k)).1]:=by
 unfold kM Ex.arg;rw [take_succ_eq_append_getElem (by simpa using hk),getElem_map,getD_eq_getElem?_getD,getElem?_eq_getElem hk];rfl
theorem Qg:(prog.info? 34).map (fun i=>(i.zero,i.size,i.bytes))=some (some (.agg #[.int .i64 0,.bool false,.int .i64 0,.int .i64 0]),4,32):=by kernel_rfl
theorem yS{w:World}{base:Nat}{t:TypeId}{v:Value}{k:Nat}{xs:List Value}(h:w.ownsRow base t 4 v k xs):(v= .slice none 0 0/\k=0)\/∃g cap,v= .slice (some ⟨g,0,none⟩) k cap/\base<=g/\g<w.heap.size:=by
 exact Qx
theorem LA{v:Vw}{env:List (ByteArray × Val)}{e:Ex}(h4:4<=e.op)(h20:e.op<=20)(h17:¬e.op=17)(h18:¬e.op=18)(hlen:e.args.length=1/\e.op<=6\/e.args.length=2/\7<=e.op) :
 ∀k,k<e.args.length->(∀j,j<k->(ai v env (e.arg j)).2=0)->(ai v env (e.arg k)).2≠0->ai v env e=(.zero,(ai v env (e.arg k)).2):=by
 intro k hk hj hb;have e0:(gu v env e.args).getD 0 (.zero,0)=ai v env (e.arg 0):=bZ v env e.args 0 ze;rw [dQ];unfold eD;rw [e0];dsimp only;rw [if_neg (show ¬e.op=1 by omega),if_neg (show ¬e.op=2 by omega),if_neg (show ¬e.op=3 by omega)];rcases(show k=0\/k=1 by omega)with rfl|rfl
 ·rw [if_pos hb]
 ·have e1:(gu v env e.args).getD 1 (.zero,0)=ai v env (e.arg 1):=bZ v env e.args 1 ze;have h0:=hj 0 ze;rw [e1,if_neg ze,if_neg h17,if_neg h18,if_neg (show ¬e.op=21 by omega),if_neg (show ¬e.op<=6 by omega),if_pos hb]
theorem Lx{v:Vw}{env:List (ByteArray × Val)}{e:Ex}(h4:4<=e.op)(h6:e.op<=6)(hlen:e.args.length=1)(h0:(ai v env (e.arg 0)).2=0):ai v env e=op1 e.op (ai v env (e.arg 0)).1:=by
 have e0:(gu v env e.args).getD 0 (.zero,0)=ai v env (e.arg 0):=bZ v env e.args 0 ze;rw [dQ];unfold eD;rw [e0];dsimp only;rw [if_neg (show ¬e.op=1 by omega),if_neg (show ¬e.op=2 by omega),if_neg (show ¬e.op=3 by omega),if_neg ze,if_neg (show ¬e.op=17 by omega),if_neg (show ¬e.op=18 by omega),if_neg (show ¬e.op=21 by omega),if_pos h6]
theorem Lv{v:Vw}{env:List (ByteArray × Val)}{e:Ex}(h7:7<=e.op)(h20:e.op<=20)(h17:¬e.op=17)(h18:¬e.op=18)(hlen:e.args.length=2)(h0:(ai v env (e.arg 0)).2=0)(h1:(ai v env (e.arg 1)).2=0):ai v env e=op2 e.op (ai v env (e.arg 0)).1 (ai v env (e.arg 1)).1:=by
 have e0:(gu v env e.args).getD 0 (.zero,0)=ai v env (e.arg 0):=bZ v env e.args 0 ze;have e1:(gu v env e.args).getD 1 (.zero,0)=ai v env (e.arg 1):=bZ v env e.args 1 ze;rw [dQ];unfold eD;rw [e0,e1];dsimp only;rw [if_neg (show ¬e.op=1 by omega),if_neg (show ¬e.op=2 by omega),if_neg (show ¬e.op=3 by omega),if_neg ze,if_neg h17,if_neg h18,if_neg (show ¬e.op=21 by omega),if_neg (show ¬e.op<=6 by omega),if_neg ze]
theorem I6{v:Vw}{env:List (ByteArray × Val)}{e:Ex}(h4:4<=e.op)(h20:e.op<=20)(h17:¬e.op=17)(h18:¬e.op=18)(hlen:e.args.length=1/\e.op<=6\/e.args.length=2/\7<=e.op){ds:List Int}(hds:e.args.length=ds.length)(hres:ax e.op ds≠0)
 (hok:∀k,k<e.args.length->okR (ds.getD k 0) (ai v env (e.arg k))) (hall:∀j,j<e.args.length->(ai v env (e.arg j)).2=0) {base g cap:Nat} {w:World} (ho:w.ownsRow base 34 4 (.slice (some ⟨g,0,none⟩) e.args.length cap) e.args.length (Fs (kM v env e))) :
 Calls prog 120 #[.int .i64 e.op,.slice (some ⟨g,0,none⟩) e.args.length cap] w (ApP (ai v env e) w):=by
 have hg:g<w.heap.size:=by
  rcases yS ho with ⟨hx,-⟩|⟨g',c',hx,-,hx2⟩
  ·cases hx
  ·simp only [Value.slice.injEq,Option.some.injEq,Addr.mk.injEq,and_true,true_and]at hx;obtain⟨rfl,-⟩:=hx;exact hx2
 have hc:∀i u,(Fs (kM v env e))[i]? =some u->w.cell? ⟨g,i,none⟩=some u:=fun i u hu=>by
  have:=World.ownsRow.cells (g:=g) ho rfl i u hu
  rwa [addr_add]at this
 obtain⟨l,hl⟩:∃l,e.args=l:=⟨_,rfl⟩;rcases hlen with ⟨hl1,h6⟩|⟨hl2,h7⟩
 ·have g0:=(hok 0 ze).good (hall 0 ze);obtain⟨d0,rfl⟩:∃d,ds= [d]:=length_eq_one_iff.1 ze;have hd:(ai v env (e.arg 0)).1.dim=d0:=g0.2;rw [Lx h4 h6 hl1 (hall 0 ze),hl1]
  have hv:kM v env e= [(ai v env (e.arg 0)).1]:=by
   have:=lm v env e 0 ze;rw [take_of_length_le (by unfold kM;rw [length_map];omega)]at this;simpa using this
  rw [hv]at hc;exact Ee e.op _ g 0 cap w g0.1 h4 h6 (by rw [hd];exact hres) hg (hc 0 _ rfl) (hc 1 _ rfl) (hc 2 _ rfl) (hc 3 _ rfl)
 ·have g0:=(hok 0 ze).good (hall 0 ze);have g1:=(hok 1 ze).good (hall 1 ze)
  obtain⟨d0,d1,rfl⟩:∃d d',ds= [d,d']:=by
   match ds,hds with
   | [d,d'],_=>exact⟨d,d',rfl⟩
   | [],h=>rw [hl2]at h;simp at h
   | [_],h=>rw [hl2]at h;simp at h
   |_::_::_::_,h=>rw [hl2]at h;simp at h
  have hd:(ai v env (e.arg 0)).1.dim=d0:=g0.2;have hd1:(ai v env (e.arg 1)).1.dim=d1:=g1.2;rw [Lv h7 h20 h17 h18 hl2 (hall 0 ze) (hall 1 ze),hl2]
  have hv:kM v env e= [(ai v env (e.arg 0)).1,(ai v env (e.arg 1)).1]:=by
   have t0:=lm v env e 0 ze;have t1:=lm v env e 1 ze;rw [take_of_length_le (by unfold kM;rw [length_map];omega)]at t1;rw [t1,t0];simp
  rw [hv]at hc;exact Ed e.op _ _ g 0 cap w g0.1 g1.1 ze (by rw [hd,hd1];exact hres) hg (hc 0 _ rfl) (hc 1 _ rfl) (hc 2 _ rfl) (hc 3 _ rfl) (hc 4 _ rfl) (hc 5 _ rfl) (hc 6 _ rfl) (hc 7 _ rfl)
theorem PZ(S:Nat->Prop)(v:Vw)(y se:Value)(env:List (ByteArray × Val))(e:Ex)(a:Option Addr)(cap:Nat)(w:World)(h:aC S w e (.slice a e.args.length cap))(hy:bJ w y v.years)(hs:bi w se env)
 (h4:4<=e.op) (h20:e.op<=20) (h17:¬e.op=17) (h18:¬e.op=18) (ds:List Int) (hds:e.args.length=ds.length) (hal:(ds.length:Int)=aX e.op) (hres:ax e.op ds≠0)
 (hok:∀k,k<e.args.length->okR (ds.getD k 0) (ai v env (e.arg k))) (HA:Hid (∀k,k<e.args.length->uN S v y se (e.arg k) (ai v env (e.arg k)) w)):(Calls prog 70 #[exV e (.slice a e.args.length cap),vwV v y,se] w (ApP (ai v env e) w)):=by
 obtain⟨i0,hi,hz0,hz1,hz2⟩:=info_parts Qg
 have hlen:e.args.length=1/\e.op<=6\/e.args.length=2/\7<=e.op:=by
  rw [hds];unfold aX at hal;by_cases h6:e.op<=6
  ·rw [if_neg ze,if_pos ze]at hal;omega
  ·rw [if_neg ze,if_neg ze,if_pos ze]at hal;omega
 have HLN:=zh hlen;have hl2:e.args.length<=2:=by omega
 have HREP:=zh h;have HOK:=zh hok;have HRES:=zh hres;have HDS:=zh hds;have HBADV:Hid (∀k,k<e.args.length->(∀j,j<k->(ai v env (e.arg j)).2=0)->(ai v env (e.arg k)).2≠0->ai v env e=(.zero,(ai v env (e.arg k)).2)):=zh (LA h4 h20 h17 h18 hlen);have o1:(e.op==1)=false:=by simp;omega
 have o2:(e.op==2)=false:=by simp;omega
 have o3:(e.op==3)=false:=by simp;omega
 have o17:(e.op==17)=false:=by simp;omega
 have o18:(e.op==18)=false:=by simp;omega
 have o21:(e.op==21)=false:=by simp;omega
 have H46:=zh (show 4<=e.op/\e.op<=20/\¬e.op=17/\¬e.op=18 from⟨h4,h20,h17,h18⟩);unfold uN at HA
 obtain⟨ya,yc,rfl⟩:∃a c,y= .slice a v.years.length c:=by
  exact xN
 obtain⟨sa,sc,rfl⟩:∃a c,se= .slice a env.length c:=by
  exact xM
 unfold vwV exV;unfold vwV at HA;obtain⟨b,off,rfl,hb,-⟩:=h.arg_cells ze;clear hy hs h hok hres hds hlen hal h4 h20 h17 h18
 go_enter func70,ntmps70
 go_wp2_with fail
 go_loopw [17,18] (fun v17 v18 wr=>∃(k:Nat) (vb:Value),vb=v17/\k<=e.args.length/\v18= .int .i64 k/\Hid (∀j,j<k->(ai v env (e.arg j)).2=0)/\Below (w.heap.size+1+1+1) ((((w.alloc (.cells #[.int .i64 e.op,.int .i64 e.num,.int .i64 e.den,.int .i64 e.dim,.string e.name,.slice (some ⟨b,off,none⟩) e.args.length cap] 51)).alloc (.cells #[.int .i64 v.age,.int .i64 v.year,.int .i64 v.children,.int .i64 v.insured,.int .i64 v.worked,.int .i64 v.voluntary,.int .i64 v.service,.int .i64 v.equated,.int .i64 v.raising,.int .i64 v.resident,.int .i64 v.bn,.int .i64 v.bd,.slice ya v.years.length yc] 26)).alloc (.cells #[.int .i64 0,.bool false,.int .i64 0,.int .i64 0] 34))) wr/\wr.ownsRow (w.heap.size+1+1+1) 34 4 vb k (Fs ((kM v env e).take k))) (fun _ v18 _=>e.args.length-(intOf v18).toNat)
 case atStart=>exact⟨0,_,rfl,by omega,rfl,zh (fun j hj=>by omega),.refl _ _,World.ownsRow_nil _ _ _ _⟩
 case round=>
  obtain⟨k,vb,rfl,hk,rfl,hno,hB,hown⟩:=hrel;have HO:=zh hown;have hvf:=yS hown;obtain⟨bs0,d0,rfl⟩:World.Grows ((((w.alloc (.cells #[.int .i64 e.op,.int .i64 e.num,.int .i64 e.den,.int .i64 e.dim,.string e.name,.slice (some ⟨b,off,none⟩) e.args.length cap] 51)).alloc (.cells #[.int .i64 v.age,.int .i64 v.year,.int .i64 v.children,.int .i64 v.insured,.int .i64 v.worked,.int .i64 v.voluntary,.int .i64 v.service,.int .i64 v.equated,.int .i64 v.raising,.int .i64 v.resident,.int .i64 v.bn,.int .i64 v.bd,.slice ya v.years.length yc] 26)).alloc (.cells #[.int .i64 0,.bool false,.int .i64 0,.int .i64 0] 34))) wr:=.of_below (by simpa using hB);clear hB hown;by_cases hlt:k<e.args.length
  ·obtain⟨ak,ck,hpk,x0,x1,x2,x3,x4,x5⟩:=qJ HREP.out rfl k hlt;simp only [<-Nat.add_assoc]at x1 x2 x3 x4 x5;have d1:(k:Int)<(e.args.length:Int):=by omega
   have HPK:=zh hpk;have HK:=zh (HA.out k hlt);have HNX:=zh (lm v env e k hlt);have HBV:=HBADV.out k hlt hno.out;have HZ:=HOK.out k hlt
   have HNO0:Hid ((ai v env (e.arg k)).2=0->∀j,j<k+1->(ai v env (e.arg j)).2=0):=zh (fun h j hj=>by
    by_cases ej:j=k
    ·subst ej;exact h
    ·exact hno.out j ze)
   generalize ai v env (e.arg k)=rk at HK HNX HBV HZ HNO0;obtain⟨⟨mk,qk,nk,dk⟩,rc⟩:=rk;dsimp only at HK HNX HBV HNO0;have HKL:=zh hlt;clear hpk hvf;by_cases hc:rc=0
   ·subst hc;have HNO:Hid (Hid (∀j,j<k+1->(ai v env (e.arg j)).2=0)):=zh (zh (HNO0.out rfl));clear HBV HZ HNO0 hno hlt
    go_wp2_with fail
    refine TS.begin [13] (World.Grows _) zf zf aO (fun hS=>?_);refine TS.wkB 0 hS ?_;refine TS.wkB 1 hS ?_;refine TS.wkB 2 hS ?_;refine TS.wkB 3 hS ?_;refine TS.wkB 4 hS ?_;refine TS.wkB 5 hS ?_;refine TS.wkB 6 hS ?_;refine TS.two (i:=7) (k:=11) zq rfl rfl (fun K1 hK1=>?_) (fun K1 hK1=>?_)
    focus
     have HK1:=zh hK1;clear hK1 hS;dsimp only [getElem_toArray,getElem_cons_succ,getElem_cons_zero]
     go_simp
     go_at_call 70
     refine(HK.out _ aj _ _ (HPK.out.grows aj)).mono ?_;rintro e' wA ⟨rfl,bA,dA,rfl⟩;refine TS.go HK1.out aj (fun hS=>?_);clear HK1 K1
     (try simp only [nS])
     refine TS.wkB 8 hS ?_;refine TS.wkB 9 hS ?_;refine TS.wkB 10 hS ?_;refine TS.one (i:=11) zq rfl (fun K1 hK1=>?_);have HK1:=zh hK1;clear hK1 hS;dsimp only [getElem_toArray,getElem_cons_succ,getElem_cons_zero]
     go_simp
     refine TS.go HK1.out aj (fun hS=>?_);clear HK1 K1
     (try simp only [nS])
     refine TS.one (i:=12) zq rfl (fun K1 hK1=>?_);have HK1:=zh hK1;clear hK1 hS;dsimp only [getElem_toArray,getElem_cons_succ,getElem_cons_zero]
     go_simp
     refine TS.go HK1.out aj (fun hS=>?_);clear HK1 K1
     (try simp only [nS])
     refine TS.weB 13 ?_;clear hS
     go_wp2_with (at_builtin;refine wpList_append_own _ rfl _ _ 180 rfl (w.heap.size+1+1+1) 34 i0 _ 4 32 underlying180 hi hz0 hz1 hz2 rfl zo _ _ _ rfl (bQ HO.out aj) ⟨w.heap.size+1+1+1+(bs0.size+bA.size)+1,0,none⟩ 1 1 [.int .i64 mk,.bool qk,.int .i64 nk,.int .i64 dk] rfl rfl ?c1 ?c2 ?c3 ?c4 ?c5 ?_)
     case c1=>exact aR _ [.int .i64 mk,.bool qk,.int .i64 nk,.int .i64 dk] _ _ zg
     case c2=>intro u hu;simp at hu;rcases hu with rfl|rfl|rfl|rfl<;>rfl
     case c3=>unfold maxLen;omega
     case c4=>omega
     case c5=>simp;try omega
    rotate_left
    focus
     have HK1:=zh hK1;clear hK1 hS;dsimp only [getElem_toArray,getElem_cons_succ,getElem_cons_zero]
     go_simp
     refine TS.go HK1.out aj (fun hS=>?_);clear HK1 K1
     (try simp only [nS])
     refine TS.one (i:=7) zq rfl (fun K1 hK1=>?_);have HK1:=zh hK1;clear hK1 hS;dsimp only [getElem_toArray,getElem_cons_succ,getElem_cons_zero]
     go_simp
     go_at_call 70
     refine(HK.out _ aj _ _ (HPK.out.grows aj)).mono ?_;rintro e' wA ⟨rfl,bA,dA,rfl⟩;refine TS.go HK1.out aj (fun hS=>?_);clear HK1 K1
     (try simp only [nS])
     refine TS.wkB 8 hS ?_;refine TS.wkB 9 hS ?_;refine TS.wkB 10 hS ?_;refine TS.one (i:=12) zq rfl (fun K1 hK1=>?_);have HK1:=zh hK1;clear hK1 hS;dsimp only [getElem_toArray,getElem_cons_succ,getElem_cons_zero]
     go_simp
     refine TS.go HK1.out aj (fun hS=>?_);clear HK1 K1
     (try simp only [nS])
     refine TS.weB 13 ?_;clear hS
     go_wp2_with (at_builtin;refine wpList_append_own _ rfl _ _ 180 rfl (w.heap.size+1+1+1) 34 i0 _ 4 32 underlying180 hi hz0 hz1 hz2 rfl zo _ _ _ rfl (bQ HO.out aj) ⟨w.heap.size+1+1+1+bs0.size+1+bA.size,0,none⟩ 1 1 [.int .i64 mk,.bool qk,.int .i64 nk,.int .i64 dk] rfl rfl ?c1 ?c2 ?c3 ?c4 ?c5 ?_)
     case c1=>exact aR _ [.int .i64 mk,.bool qk,.int .i64 nk,.int .i64 dk] _ _ zg
     case c2=>intro u hu;simp at hu;rcases hu with rfl|rfl|rfl|rfl<;>rfl
     case c3=>unfold maxLen;omega
     case c4=>omega
     case c5=>simp;try omega
    rotate_left
    all_goals
     intro v' w1 hown' hgrow _;have HB1:=zh ((show Below (w.heap.size+1+1+1) ((((w.alloc (.cells #[.int .i64 e.op,.int .i64 e.num,.int .i64 e.den,.int .i64 e.dim,.string e.name,.slice (some ⟨b,off,none⟩) e.args.length cap] 51)).alloc (.cells #[.int .i64 v.age,.int .i64 v.year,.int .i64 v.children,.int .i64 v.insured,.int .i64 v.worked,.int .i64 v.voluntary,.int .i64 v.service,.int .i64 v.equated,.int .i64 v.raising,.int .i64 v.resident,.int .i64 v.bn,.int .i64 v.bd,.slice ya v.years.length yc] 26)).alloc (.cells #[.int .i64 0,.bool false,.int .i64 0,.int .i64 0] 34))) _ from by(exact af)).grown hgrow zD (fun k hk=>(HO.out.lt k hk).1));have HO1:=zh hown';clear hown' hgrow
     go_wp2_with fail
     go_roundw
     case rel=>exact⟨k+1,_,rfl,HKL.out,by go_num,HNO.out,HB1.out,by rw [HNX.out,Fq];exact HO1.out⟩
     case measure=>simp [intOf];have:=HKL.out;omega
   ·have hzz:=(HZ.bad hc).1;simp only [Val.zero,Val.mk.injEq]at hzz;obtain⟨rfl,rfl,rfl,rfl⟩:=hzz;have HV:=zh (HBV hc);have hq1:(rc !=0)=true:=by simpa using hc
    clear hc HBV HZ HNO0 hno hlt
    go_wp2_with fail
    refine TS.begin [13] (World.Grows _) zf zf aO (fun hS=>?_);refine TS.wkB 0 hS ?_;refine TS.wkB 1 hS ?_;refine TS.wkB 2 hS ?_;refine TS.wkB 3 hS ?_;refine TS.wkB 4 hS ?_;refine TS.wkB 5 hS ?_;refine TS.wkB 6 hS ?_;refine TS.two (i:=7) (k:=11) zq rfl rfl (fun K1 hK1=>?_) (fun K1 hK1=>?_)
    focus
     have HK1:=zh hK1;clear hK1 hS;dsimp only [getElem_toArray,getElem_cons_succ,getElem_cons_zero]
     go_simp
     go_at_call 70
     refine(HK.out _ aj _ _ (HPK.out.grows aj)).mono ?_;rintro e' wA ⟨rfl,bA,dA,rfl⟩;refine TS.go HK1.out aj (fun hS=>?_);clear HK1 K1
     (try simp only [nS])
     refine TS.wkB 8 hS ?_;refine TS.wkB 9 hS ?_;refine TS.wkB 10 hS ?_;refine TS.one (i:=11) zq rfl (fun K1 hK1=>?_);have HK1:=zh hK1;clear hK1 hS;dsimp only [getElem_toArray,getElem_cons_succ,getElem_cons_zero]
     go_simp
     refine TS.go HK1.out aj (fun hS=>?_);clear HK1 K1
     (try simp only [nS])
    rotate_left
    focus
     have HK1:=zh hK1;clear hK1 hS;dsimp only [getElem_toArray,getElem_cons_succ,getElem_cons_zero]
     go_simp
     refine TS.go HK1.out aj (fun hS=>?_);clear HK1 K1
     (try simp only [nS])
     refine TS.one (i:=7) zq rfl (fun K1 hK1=>?_);have HK1:=zh hK1;clear hK1 hS;dsimp only [getElem_toArray,getElem_cons_succ,getElem_cons_zero]
     go_simp
     go_at_call 70
     refine(HK.out _ aj _ _ (HPK.out.grows aj)).mono ?_;rintro e' wA ⟨rfl,bA,dA,rfl⟩;refine TS.go HK1.out aj (fun hS=>?_);clear HK1 K1
     (try simp only [nS])
     refine TS.wkB 8 hS ?_;refine TS.wkB 9 hS ?_;refine TS.wkB 10 hS ?_
    rotate_left
    all_goals
     refine TS.one (i:=12) zq rfl (fun K1 hK1=>?_);have HK1:=zh hK1;clear hK1 hS;dsimp only [getElem_toArray,getElem_cons_succ,getElem_cons_zero]
     go_simp
     refine TS.go HK1.out aj (fun hS=>?_);clear HK1 K1
     (try simp only [nS])
     refine TS.weB 13 ?_;clear hS
     go_wp2_with fail
     go_returns
     exact⟨by rw [HV.out];rfl,aj⟩
  ·obtain rfl:k=e.args.length:=by omega
   obtain⟨g,gc,rfl⟩:∃g c,vb= .slice (some ⟨g,0,none⟩) e.args.length c:=by
    rcases hvf with ⟨-,h0⟩|⟨g,c,rfl,-⟩
    ·have:=HLN.out;omega
    ·exact⟨g,c,rfl⟩
   have hta:(kM v env e).take e.args.length=kM v env e:=take_of_length_le (by unfold kM;rw [length_map];exact Nat.le_refl _);rw [hta]at HO;have HAP:=zh (fun w' (hg:World.Grows (((((w.alloc (.cells #[.int .i64 e.op,.int .i64 e.num,.int .i64 e.den,.int .i64 e.dim,.string e.name,.slice (some ⟨b,off,none⟩) e.args.length cap] 51)).alloc (.cells #[.int .i64 v.age,.int .i64 v.year,.int .i64 v.children,.int .i64 v.insured,.int .i64 v.worked,.int .i64 v.voluntary,.int .i64 v.service,.int .i64 v.equated,.int .i64 v.raising,.int .i64 v.resident,.int .i64 v.bn,.int .i64 v.bd,.slice ya v.years.length yc] 26)).alloc (.cells #[.int .i64 0,.bool false,.int .i64 0,.int .i64 0] 34))).grow bs0 d0) w')=>I6 H46.out.1 H46.out.2.1 H46.out.2.2.1 H46.out.2.2.2 HLN.out HDS.out HRES.out HOK.out hno.out (bQ HO.out hg));unfold ApP at HAP;clear hvf hta hno hlt
   go_wp2_with (go_at_call 120;refine(HAP.out _ aj).mono ?_;rintro e' w' ⟨rfl,bs,d,rfl⟩)
   go_returns
   exact⟨rfl,aj⟩
end Go.Proofs.YtlheailebbngiaaGreatDoor
