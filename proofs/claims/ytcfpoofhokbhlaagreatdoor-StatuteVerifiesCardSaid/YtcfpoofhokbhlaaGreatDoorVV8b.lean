import Derived.Test.YtcfpoofhokbhlaaGreatDoorVLawBo
set_option linter.all false
set_option maxHeartbeats 16000000
set_option maxRecDepth 1000000
namespace Go.Proofs.YtcfpoofhokbhlaaGreatDoor
open Go.Proofs.Tryz Tryz List
open Go.RowKit
def vB(S:Nat->Prop)(v:Vw)(y se:Value)(x:Ex)(r:Val × Int)(w:World):Prop:=∀w',w.Grows w'->∀a c,aB S w' x (.slice a x.args.length c)->
 Calls prog 60 #[.agg #[.int .i64 x.op,.int .i64 x.num,.int .i64 x.den,.int .i64 x.dim,.string x.name,.slice a x.args.length c],vwV v y,se] w' fun e w''=>e= .returned (.tuple #[.agg #[.int .i64 r.1.dim,.bool r.1.yes,.int .i64 r.1.n,.int .i64 r.1.d],.int .i64 r.2])/\w'.Grows w''
theorem qQ{S:Nat->Prop}{w:World}{e:Ex}{a:Option Addr}{cap:Nat}(h:aB S w e (.slice a e.args.length cap)){b off:Nat}(ha:a=some ⟨b,off,none⟩)(k:Nat)(hk:k<e.args.length):∃ak ck,aB S w (e.arg k) (.slice ak (e.arg k).args.length ck)/\
 w.cell? ⟨b,off+k*6,none⟩=some (.int .i64 (e.arg k).op)/\w.cell? ⟨b,off+(k*6+1),none⟩=some (.int .i64 (e.arg k).num)/\w.cell? ⟨b,off+(k*6+2),none⟩=some (.int .i64 (e.arg k).den)/\w.cell? ⟨b,off+(k*6+3),none⟩=some (.int .i64 (e.arg k).dim)/\w.cell? ⟨b,off+(k*6+4),none⟩=some (.string (e.arg k).name)/\w.cell? ⟨b,off+(k*6+5),none⟩=some (.slice ak (e.arg k).args.length ck):=by
 obtain⟨b',off',ha',-,hx⟩:=h.arg_cells ze;rw [ha]at ha';simp only [Option.some.injEq,Addr.mk.injEq,and_true]at ha';obtain⟨rfl,rfl⟩:=ha';obtain⟨ak,ck,⟨x0,x1,x2,x3,x4,x5⟩,hr⟩:=hx k hk;exact⟨ak,ck,hr,x0,x1,x2,x3,x4,x5⟩
theorem Kl(S:Nat->Prop)(v:Vw)(y se:Value)(env:List (ByteArray × Val))(e:Ex)(a:Option Addr)(cap:Nat)(w:World)(h:aB S w e (.slice a e.args.length cap))(hy:bI w y v.years)(hs:bi w se env)(hop:e.op=17\/e.op=18)(hlen:e.args.length=2)
 (r0 r1:Val × Int) (hr0:aj v env (e.arg 0)=r0) (hr1:aj v env (e.arg 1)=r1) (hz:r0.2≠0->r0.1= .zero) (H0:Hid (vB S v y se (e.arg 0) r0 w)) (H1:Hid (vB S v y se (e.arg 1) r1 w)):(Calls prog 60 #[exV e (.slice a e.args.length cap),vwV v y,se] w (ApP (aj v env e) w)):=by
 have HV0:Hid (aj v env e=if r0.2≠0 then(.zero,r0.2)else if e.op=17 then(if r0.1.yes=true then r1 else r0)else(if r0.1.yes=true then r0 else r1)):=yq (by
  have e0:aj v env (e.args.getD 0 default)=r0:=hr0;have e1:aj v env (e.args.getD 1 default)=r1:=hr1;rw [dX];unfold eG;rw [bW v env e.args 0 ze,bW v env e.args 1 ze,e0,e1];rw [if_neg ze,if_neg ze,if_neg ze]
  split
  ·rfl
  ·split
   ·rfl
   ·rw [if_pos ze])
 obtain⟨b,off,rfl,hb,-⟩:=h.arg_cells ze;obtain⟨a0,k0,hp0,x0,x1,x2,x3,x4,x5⟩:=qQ h rfl 0 ze;obtain⟨a1,k1,hp1,z0,z1,z2,z3,z4,z5⟩:=qQ h rfl 1 ze;simp only [Nat.zero_mul,Nat.zero_add,Nat.add_zero,Nat.one_mul,Nat.reduceAdd]at x0 x1 x2 x3 x4 x5 z0 z1 z2 z3 z4 z5;have HP0:=yq hp0;have HP1:=yq hp1;have hl0:(0:Int)<(e.args.length:Int):=by omega
 have hl2:0<e.args.length:=by omega
 have hl3:1<e.args.length:=by omega
 have hl1:(1:Int)<(e.args.length:Int):=by omega
 have o1:(e.op==1)=false:=by simp;omega
 have o2:(e.op==2)=false:=by simp;omega
 have o3:(e.op==3)=false:=by simp;omega
 unfold vB at H0 H1
 obtain⟨ya,yc,rfl⟩:∃a c,y= .slice a v.years.length c:=by
  exact xX
 obtain⟨sa,sc,rfl⟩:∃a c,se= .slice a env.length c:=by
  exact xW
 unfold vwV exV;unfold vwV at H0 H1;have HLN:=yq hlen;clear hy hs h hp0 hp1 hr0 hr1 hlen;obtain⟨⟨m0,q0,n0,d0⟩,c0⟩:=r0;obtain⟨⟨m1,q1,n1,d1⟩,c1⟩:=r1;dsimp only at hz H0 H1 HV0;by_cases hc:c0=0
 ·subst hc;clear hz;rcases hop with o|o
  ·have o17:(e.op==17)=true:=by simp [o]
   have o18:(e.op==18)=false:=by simp [o]
   cases q0 with
   |true=>
    have HV:Hid (aj v env e=(⟨m1,q1,n1,d1⟩,c1)):=yq yB;clear o HV0
    go_enter func60,ntmps60
    go_wp2_with fail
    refine TS.begin [12] (World.Grows _) zf zf aL (fun hS=>?_);refine kq 0 hS ?_;refine kq 1 hS ?_;refine kq 2 hS ?_;refine kq 3 hS ?_;refine kq 4 hS ?_;refine kq 5 hS ?_;refine TS.two (i:=6) (k:=10) zq rfl rfl (fun K1 hK1=>?_) (fun K1 hK1=>?_)
    focus
     have HK1:=yq hK1;clear hK1 hS;dsimp only [getElem_toArray,getElem_cons_succ,getElem_cons_zero]
     go_simp
     go_at_call 60
     refine gvq (H0.out _ ai _ _ (HP0.out.grows ai)) ?_;intro bA dA;refine TS.go HK1.out ai (fun hS=>?_);clear HK1 K1
     (try simp only [nS])
     refine kq 7 hS ?_;refine kq 8 hS ?_;refine kq 9 hS ?_;refine TS.one (i:=10) zq rfl (fun K1 hK1=>?_);have HK1:=yq hK1;clear hK1 hS;dsimp only [getElem_toArray,getElem_cons_succ,getElem_cons_zero]
     go_simp
     refine TS.go HK1.out ai (fun hS=>?_);clear HK1 K1
     (try simp only [nS])
    rotate_left
    focus
     have HK1:=yq hK1;clear hK1 hS;dsimp only [getElem_toArray,getElem_cons_succ,getElem_cons_zero]
     go_simp
     refine TS.go HK1.out ai (fun hS=>?_);clear HK1 K1
     (try simp only [nS])
     refine TS.one (i:=6) zq rfl (fun K1 hK1=>?_);have HK1:=yq hK1;clear hK1 hS;dsimp only [getElem_toArray,getElem_cons_succ,getElem_cons_zero]
     go_simp
     go_at_call 60
     refine gvq (H0.out _ ai _ _ (HP0.out.grows ai)) ?_;intro bA dA;refine TS.go HK1.out ai (fun hS=>?_);clear HK1 K1
     (try simp only [nS])
     refine kq 7 hS ?_;refine kq 8 hS ?_;refine kq 9 hS ?_
    rotate_left
    all_goals
     refine TS.one (i:=11) zq rfl (fun K1 hK1=>?_);have HK1:=yq hK1;clear hK1 hS;dsimp only [getElem_toArray,getElem_cons_succ,getElem_cons_zero]
     go_simp
     refine TS.go HK1.out ai (fun hS=>?_);clear HK1 K1
     (try simp only [nS])
     refine TS.weB 12 ?_;clear hS
     go_wp2_with fail
     refine TS.begin [9,10] (World.Grows _) zf zf aL (fun hS=>?_);refine kq 0 hS ?_;refine kq 1 hS ?_;refine kq 2 hS ?_;refine kq 3 hS ?_;refine kq 4 hS ?_;refine kq 5 hS ?_;refine TS.one (i:=6) zq rfl (fun K1 hK1=>?_);have HK1:=yq hK1;clear hK1 hS;dsimp only [getElem_toArray,getElem_cons_succ,getElem_cons_zero]
     go_simp
     go_at_call 60
     refine gvq (H1.out _ ai _ _ (HP1.out.grows ai)) ?_;intro bA dA;refine TS.go HK1.out ai (fun hS=>?_);clear HK1 K1
     (try simp only [nS])
     refine kq 7 hS ?_;refine kq 8 hS ?_;refine TS.wtB 9 ?_;refine TS.weB 10 ?_;clear hS
     go_wp2_with fail
     go_returns
     exact⟨by rw [HV.out],ai⟩
   |false=>
    have HV:Hid (aj v env e=(⟨m0,false,n0,d0⟩,0)):=yq yB;clear o HV0
    go_enter func60,ntmps60
    go_wp2_with fail
    refine TS.begin [12] (World.Grows _) zf zf aL (fun hS=>?_);refine kq 0 hS ?_;refine kq 1 hS ?_;refine kq 2 hS ?_;refine kq 3 hS ?_;refine kq 4 hS ?_;refine kq 5 hS ?_;refine TS.two (i:=6) (k:=10) zq rfl rfl (fun K1 hK1=>?_) (fun K1 hK1=>?_)
    focus
     have HK1:=yq hK1;clear hK1 hS;dsimp only [getElem_toArray,getElem_cons_succ,getElem_cons_zero]
     go_simp
     go_at_call 60
     refine gvq (H0.out _ ai _ _ (HP0.out.grows ai)) ?_;intro bA dA;refine TS.go HK1.out ai (fun hS=>?_);clear HK1 K1
     (try simp only [nS])
     refine kq 7 hS ?_;refine kq 8 hS ?_;refine kq 9 hS ?_;refine TS.one (i:=10) zq rfl (fun K1 hK1=>?_);have HK1:=yq hK1;clear hK1 hS;dsimp only [getElem_toArray,getElem_cons_succ,getElem_cons_zero]
     go_simp
     refine TS.go HK1.out ai (fun hS=>?_);clear HK1 K1
     (try simp only [nS])
    rotate_left
    focus
     have HK1:=yq hK1;clear hK1 hS;dsimp only [getElem_toArray,getElem_cons_succ,getElem_cons_zero]
     go_simp
     refine TS.go HK1.out ai (fun hS=>?_);clear HK1 K1
     (try simp only [nS])
     refine TS.one (i:=6) zq rfl (fun K1 hK1=>?_);have HK1:=yq hK1;clear hK1 hS;dsimp only [getElem_toArray,getElem_cons_succ,getElem_cons_zero]
     go_simp
     go_at_call 60
     refine gvq (H0.out _ ai _ _ (HP0.out.grows ai)) ?_;intro bA dA;refine TS.go HK1.out ai (fun hS=>?_);clear HK1 K1
     (try simp only [nS])
     refine kq 7 hS ?_;refine kq 8 hS ?_;refine kq 9 hS ?_
    rotate_left
    all_goals
     refine TS.one (i:=11) zq rfl (fun K1 hK1=>?_);have HK1:=yq hK1;clear hK1 hS;dsimp only [getElem_toArray,getElem_cons_succ,getElem_cons_zero]
     go_simp
     refine TS.go HK1.out ai (fun hS=>?_);clear HK1 K1
     (try simp only [nS])
     refine TS.weB 12 ?_;clear hS
     go_wp2_with fail
     go_returns
     exact⟨by rw [HV.out],ai⟩
  ·have o17:(e.op==17)=false:=by simp [o]
   have o18:(e.op==18)=true:=by simp [o]
   cases q0 with
   |true=>
    have HV:Hid (aj v env e=(⟨m0,true,n0,d0⟩,0)):=yq yB;clear o HV0
    go_enter func60,ntmps60
    go_wp2_with fail
    refine TS.begin [12] (World.Grows _) zf zf aL (fun hS=>?_);refine kq 0 hS ?_;refine kq 1 hS ?_;refine kq 2 hS ?_;refine kq 3 hS ?_;refine kq 4 hS ?_;refine kq 5 hS ?_;refine TS.two (i:=6) (k:=10) zq rfl rfl (fun K1 hK1=>?_) (fun K1 hK1=>?_)
    focus
     have HK1:=yq hK1;clear hK1 hS;dsimp only [getElem_toArray,getElem_cons_succ,getElem_cons_zero]
     go_simp
     go_at_call 60
     refine gvq (H0.out _ ai _ _ (HP0.out.grows ai)) ?_;intro bA dA;refine TS.go HK1.out ai (fun hS=>?_);clear HK1 K1
     (try simp only [nS])
     refine kq 7 hS ?_;refine kq 8 hS ?_;refine kq 9 hS ?_;refine TS.one (i:=10) zq rfl (fun K1 hK1=>?_);have HK1:=yq hK1;clear hK1 hS;dsimp only [getElem_toArray,getElem_cons_succ,getElem_cons_zero]
     go_simp
     refine TS.go HK1.out ai (fun hS=>?_);clear HK1 K1
     (try simp only [nS])
    rotate_left
    focus
     have HK1:=yq hK1;clear hK1 hS;dsimp only [getElem_toArray,getElem_cons_succ,getElem_cons_zero]
     go_simp
     refine TS.go HK1.out ai (fun hS=>?_);clear HK1 K1
     (try simp only [nS])
     refine TS.one (i:=6) zq rfl (fun K1 hK1=>?_);have HK1:=yq hK1;clear hK1 hS;dsimp only [getElem_toArray,getElem_cons_succ,getElem_cons_zero]
     go_simp
     go_at_call 60
     refine gvq (H0.out _ ai _ _ (HP0.out.grows ai)) ?_;intro bA dA;refine TS.go HK1.out ai (fun hS=>?_);clear HK1 K1
     (try simp only [nS])
     refine kq 7 hS ?_;refine kq 8 hS ?_;refine kq 9 hS ?_
    rotate_left
    all_goals
     refine TS.one (i:=11) zq rfl (fun K1 hK1=>?_);have HK1:=yq hK1;clear hK1 hS;dsimp only [getElem_toArray,getElem_cons_succ,getElem_cons_zero]
     go_simp
     refine TS.go HK1.out ai (fun hS=>?_);clear HK1 K1
     (try simp only [nS])
     refine TS.weB 12 ?_;clear hS
     go_wp2_with fail
     go_returns
     exact⟨by rw [HV.out],ai⟩
   |false=>
    have HV:Hid (aj v env e=(⟨m1,q1,n1,d1⟩,c1)):=yq yB;clear o HV0
    go_enter func60,ntmps60
    go_wp2_with fail
    refine TS.begin [12] (World.Grows _) zf zf aL (fun hS=>?_);refine kq 0 hS ?_;refine kq 1 hS ?_;refine kq 2 hS ?_;refine kq 3 hS ?_;refine kq 4 hS ?_;refine kq 5 hS ?_;refine TS.two (i:=6) (k:=10) zq rfl rfl (fun K1 hK1=>?_) (fun K1 hK1=>?_)
    focus
     have HK1:=yq hK1;clear hK1 hS;dsimp only [getElem_toArray,getElem_cons_succ,getElem_cons_zero]
     go_simp
     go_at_call 60
     refine gvq (H0.out _ ai _ _ (HP0.out.grows ai)) ?_;intro bA dA;refine TS.go HK1.out ai (fun hS=>?_);clear HK1 K1
     (try simp only [nS])
     refine kq 7 hS ?_;refine kq 8 hS ?_;refine kq 9 hS ?_;refine TS.one (i:=10) zq rfl (fun K1 hK1=>?_);have HK1:=yq hK1;clear hK1 hS;dsimp only [getElem_toArray,getElem_cons_succ,getElem_cons_zero]
     go_simp
     refine TS.go HK1.out ai (fun hS=>?_);clear HK1 K1
     (try simp only [nS])
    rotate_left
    focus
     have HK1:=yq hK1;clear hK1 hS;dsimp only [getElem_toArray,getElem_cons_succ,getElem_cons_zero]
     go_simp
     refine TS.go HK1.out ai (fun hS=>?_);clear HK1 K1
     (try simp only [nS])
     refine TS.one (i:=6) zq rfl (fun K1 hK1=>?_);have HK1:=yq hK1;clear hK1 hS;dsimp only [getElem_toArray,getElem_cons_succ,getElem_cons_zero]
     go_simp
     go_at_call 60
     refine gvq (H0.out _ ai _ _ (HP0.out.grows ai)) ?_;intro bA dA;refine TS.go HK1.out ai (fun hS=>?_);clear HK1 K1
     (try simp only [nS])
     refine kq 7 hS ?_;refine kq 8 hS ?_;refine kq 9 hS ?_
    rotate_left
    all_goals
     refine TS.one (i:=11) zq rfl (fun K1 hK1=>?_);have HK1:=yq hK1;clear hK1 hS;dsimp only [getElem_toArray,getElem_cons_succ,getElem_cons_zero]
     go_simp
     refine TS.go HK1.out ai (fun hS=>?_);clear HK1 K1
     (try simp only [nS])
     refine TS.weB 12 ?_;clear hS
     go_wp2_with fail
     refine TS.begin [9,10] (World.Grows _) zf zf aL (fun hS=>?_);refine kq 0 hS ?_;refine kq 1 hS ?_;refine kq 2 hS ?_;refine kq 3 hS ?_;refine kq 4 hS ?_;refine kq 5 hS ?_;refine TS.one (i:=6) zq rfl (fun K1 hK1=>?_);have HK1:=yq hK1;clear hK1 hS;dsimp only [getElem_toArray,getElem_cons_succ,getElem_cons_zero]
     go_simp
     go_at_call 60
     refine gvq (H1.out _ ai _ _ (HP1.out.grows ai)) ?_;intro bA dA;refine TS.go HK1.out ai (fun hS=>?_);clear HK1 K1
     (try simp only [nS])
     refine kq 7 hS ?_;refine kq 8 hS ?_;refine TS.wtB 9 ?_;refine TS.weB 10 ?_;clear hS
     go_wp2_with fail
     go_returns
     exact⟨by rw [HV.out],ai⟩
 ·have hzz:=hz hc;simp only [Val.zero,Val.mk.injEq]at hzz;obtain⟨rfl,rfl,rfl,rfl⟩:=hzz;have HV:Hid (aj v env e=(.zero,c0)):=yq (by rw [HV0.out,if_pos hc]);have hq1:(c0 !=0)=true:=by simpa using hc
  clear hc hz HV0;rcases hop with o|o
  focus
   have o17:(e.op==17)=true:=by simp [o]
  rotate_left
  focus
   have o17:(e.op==17)=false:=by simp [o]
   have o18:(e.op==18)=true:=by simp [o]
  rotate_left
  all_goals
   clear o
   go_enter func60,ntmps60
   go_wp2_with fail
   refine TS.begin [12] (World.Grows _) zf zf aL (fun hS=>?_);refine kq 0 hS ?_;refine kq 1 hS ?_;refine kq 2 hS ?_;refine kq 3 hS ?_;refine kq 4 hS ?_;refine kq 5 hS ?_;refine TS.two (i:=6) (k:=10) zq rfl rfl (fun K1 hK1=>?_) (fun K1 hK1=>?_)
   focus
    have HK1:=yq hK1;clear hK1 hS;dsimp only [getElem_toArray,getElem_cons_succ,getElem_cons_zero]
    go_simp
    go_at_call 60
    refine gvq (H0.out _ ai _ _ (HP0.out.grows ai)) ?_;intro bA dA;refine TS.go HK1.out ai (fun hS=>?_);clear HK1 K1
    (try simp only [nS])
    refine kq 7 hS ?_;refine kq 8 hS ?_;refine kq 9 hS ?_;refine TS.one (i:=10) zq rfl (fun K1 hK1=>?_);have HK1:=yq hK1;clear hK1 hS;dsimp only [getElem_toArray,getElem_cons_succ,getElem_cons_zero]
    go_simp
    refine TS.go HK1.out ai (fun hS=>?_);clear HK1 K1
    (try simp only [nS])
   rotate_left
   focus
    have HK1:=yq hK1;clear hK1 hS;dsimp only [getElem_toArray,getElem_cons_succ,getElem_cons_zero]
    go_simp
    refine TS.go HK1.out ai (fun hS=>?_);clear HK1 K1
    (try simp only [nS])
    refine TS.one (i:=6) zq rfl (fun K1 hK1=>?_);have HK1:=yq hK1;clear hK1 hS;dsimp only [getElem_toArray,getElem_cons_succ,getElem_cons_zero]
    go_simp
    go_at_call 60
    refine gvq (H0.out _ ai _ _ (HP0.out.grows ai)) ?_;intro bA dA;refine TS.go HK1.out ai (fun hS=>?_);clear HK1 K1
    (try simp only [nS])
    refine kq 7 hS ?_;refine kq 8 hS ?_;refine kq 9 hS ?_
   rotate_left
   all_goals
    refine TS.one (i:=11) zq rfl (fun K1 hK1=>?_);have HK1:=yq hK1;clear hK1 hS;dsimp only [getElem_toArray,getElem_cons_succ,getElem_cons_zero]
    go_simp
    refine TS.go HK1.out ai (fun hS=>?_);clear HK1 K1
    (try simp only [nS])
    refine TS.weB 12 ?_;clear hS
    go_wp2_with fail
    (go_returns;exact⟨by rw [HV.out];rfl,ai⟩)
def GQ(l:List Val):List Value:=l.flatMap fun x=>[.int .i64 x.dim,.bool x.yes,.int .i64 x.n,.int .i64 x.d]
theorem GN(l:List Val)(x:Val):GQ (l++[x])=GQ l++[.int .i64 x.dim,.bool x.yes,.int .i64 x.n,.int .i64 x.d]:=by
 unfold GQ;simp
def kR(v:Vw)(env:List (ByteArray × Val))(e:Ex):List Val:=e.args.map fun x=>(aj v env x).1
theorem lh(v:Vw)(env:List (ByteArray × Val))(e:Ex)(k:Nat)(hk:k<e.args.length):(kR v env e).take (k+1)=(kR v env e).take k++[(aj v env (e.arg k)).1]:=by
 unfold kR Ex.arg;rw [take_succ_eq_append_getElem yp,getElem_map,getD_eq_getElem?_getD,getElem?_eq_getElem hk];rfl
theorem Sw:(prog.info? 51).map (fun i=>(i.zero,i.size,i.bytes))=some (some (.agg #[.int .i64 0,.bool false,.int .i64 0,.int .i64 0]),4,32):=by kernel_rfl
theorem Ba{w:World}{base:Nat}{t:TypeId}{v:Value}{k:Nat}{xs:List Value}(h:w.ownsRow base t 4 v k xs):(v= .slice none 0 0/\k=0)\/∃g cap,v= .slice (some ⟨g,0,none⟩) k cap/\base<=g/\g<w.heap.size:=by
 exact RF
theorem Ng{v:Vw}{env:List (ByteArray × Val)}{e:Ex}(h4:4<=e.op)(h20:e.op<=20)(h17:¬e.op=17)(h18:¬e.op=18)(hlen:e.args.length=1/\e.op<=6\/e.args.length=2/\7<=e.op) :
 ∀k,k<e.args.length->(∀j,j<k->(aj v env (e.arg j)).2=0)->(aj v env (e.arg k)).2≠0->aj v env e=(.zero,(aj v env (e.arg k)).2):=by
 intro k hk hj hb;have e0:(gB v env e.args).getD 0 (.zero,0)=aj v env (e.arg 0):=bW v env e.args 0 ze;rw [dX];unfold eG;rw [e0];dsimp only;rw [if_neg (show ¬e.op=1 by omega),if_neg (show ¬e.op=2 by omega),if_neg (show ¬e.op=3 by omega)];rcases(show k=0\/k=1 by omega)with rfl|rfl
 ·rw [if_pos hb]
 ·have e1:(gB v env e.args).getD 1 (.zero,0)=aj v env (e.arg 1):=bW v env e.args 1 ze;have h0:=hj 0 ze;rw [e1,if_neg ze,if_neg h17,if_neg h18,if_neg (show ¬e.op=21 by omega),if_neg (show ¬e.op<=6 by omega),if_pos hb]
theorem Nf{v:Vw}{env:List (ByteArray × Val)}{e:Ex}(h4:4<=e.op)(h6:e.op<=6)(hlen:e.args.length=1)(h0:(aj v env (e.arg 0)).2=0):aj v env e=op1 e.op (aj v env (e.arg 0)).1:=by
 have e0:(gB v env e.args).getD 0 (.zero,0)=aj v env (e.arg 0):=bW v env e.args 0 ze;rw [dX];unfold eG;rw [e0];dsimp only;rw [if_neg (show ¬e.op=1 by omega),if_neg (show ¬e.op=2 by omega),if_neg (show ¬e.op=3 by omega),if_neg ze,if_neg (show ¬e.op=17 by omega),if_neg (show ¬e.op=18 by omega),if_neg (show ¬e.op=21 by omega),if_pos h6]
theorem Nc{v:Vw}{env:List (ByteArray × Val)}{e:Ex}(h7:7<=e.op)(h20:e.op<=20)(h17:¬e.op=17)(h18:¬e.op=18)(hlen:e.args.length=2)(h0:(aj v env (e.arg 0)).2=0)(h1:(aj v env (e.arg 1)).2=0):aj v env e=op2 e.op (aj v env (e.arg 0)).1 (aj v env (e.arg 1)).1:=by
 have e0:(gB v env e.args).getD 0 (.zero,0)=aj v env (e.arg 0):=bW v env e.args 0 ze;have e1:(gB v env e.args).getD 1 (.zero,0)=aj v env (e.arg 1):=bW v env e.args 1 ze;rw [dX];unfold eG;rw [e0,e1];dsimp only;rw [if_neg (show ¬e.op=1 by omega),if_neg (show ¬e.op=2 by omega),if_neg (show ¬e.op=3 by omega),if_neg ze,if_neg h17,if_neg h18,if_neg (show ¬e.op=21 by omega),if_neg (show ¬e.op<=6 by omega),if_neg ze]
theorem Kn{v:Vw}{env:List (ByteArray × Val)}{e:Ex}(h4:4<=e.op)(h20:e.op<=20)(h17:¬e.op=17)(h18:¬e.op=18)(hlen:e.args.length=1/\e.op<=6\/e.args.length=2/\7<=e.op){ds:List Int}(hds:e.args.length=ds.length)(hres:av e.op ds≠0)
 (hok:∀k,k<e.args.length->okR (ds.getD k 0) (aj v env (e.arg k))) (hall:∀j,j<e.args.length->(aj v env (e.arg j)).2=0) {base g cap:Nat} {w:World} (ho:w.ownsRow base 51 4 (.slice (some ⟨g,0,none⟩) e.args.length cap) e.args.length (GQ (kR v env e))) :
 Calls prog 78 #[.int .i64 e.op,.slice (some ⟨g,0,none⟩) e.args.length cap] w (ApP (aj v env e) w):=by
 have hg:g<w.heap.size:=by
  rcases Ba ho with ⟨hx,-⟩|⟨g',c',hx,-,hx2⟩
  ·cases hx
  ·simp only [Value.slice.injEq,Option.some.injEq,Addr.mk.injEq,and_true,true_and]at hx;obtain⟨rfl,-⟩:=hx;exact hx2
 have hc:∀i u,(GQ (kR v env e))[i]? =some u->w.cell? ⟨g,i,none⟩=some u:=fun i u hu=>by
  have:=World.ownsRow.cells (g:=g) ho rfl i u hu
  rwa [addr_add]at this
 obtain⟨l,hl⟩:∃l,e.args=l:=⟨_,rfl⟩;rcases hlen with ⟨hl1,h6⟩|⟨hl2,h7⟩
 ·have g0:=(hok 0 ze).good (hall 0 ze);obtain⟨d0,rfl⟩:∃d,ds= [d]:=length_eq_one_iff.1 ze;have hd:(aj v env (e.arg 0)).1.dim=d0:=g0.2;rw [Nf h4 h6 hl1 (hall 0 ze),hl1]
  have hv:kR v env e= [(aj v env (e.arg 0)).1]:=by
   have:=lh v env e 0 ze;rw [take_of_length_le (by unfold kR;rw [length_map];omega)]at this;simpa using this
  rw [hv]at hc;exact Fu e.op _ g 0 cap w g0.1 h4 h6 (by rw [hd];exact hres) hg (hc 0 _ rfl) (hc 1 _ rfl) (hc 2 _ rfl) (hc 3 _ rfl)
 ·have g0:=(hok 0 ze).good (hall 0 ze);have g1:=(hok 1 ze).good (hall 1 ze)
  obtain⟨d0,d1,rfl⟩:∃d d',ds= [d,d']:=by
   match ds,hds with
   | [d,d'],_=>exact⟨d,d',rfl⟩
   | [],h=>rw [hl2]at h;simp at h
   | [_],h=>rw [hl2]at h;simp at h
   |_::_::_::_,h=>rw [hl2]at h;simp at h
  have hd:(aj v env (e.arg 0)).1.dim=d0:=g0.2;have hd1:(aj v env (e.arg 1)).1.dim=d1:=g1.2;rw [Nc h7 h20 h17 h18 hl2 (hall 0 ze) (hall 1 ze),hl2]
  have hv:kR v env e= [(aj v env (e.arg 0)).1,(aj v env (e.arg 1)).1]:=by
   have t0:=lh v env e 0 ze;have t1:=lh v env e 1 ze;rw [take_of_length_le (by unfold kR;rw [length_map];omega)]at t1;rw [t1,t0];simp
  rw [hv]at hc;exact Fs e.op _ _ g 0 cap w g0.1 g1.1 ze (by rw [hd,hd1];exact hres) hg (hc 0 _ rfl) (hc 1 _ rfl) (hc 2 _ rfl) (hc 3 _ rfl) (hc 4 _ rfl) (hc 5 _ rfl) (hc 6 _ rfl) (hc 7 _ rfl)
theorem RZ(S:Nat->Prop)(v:Vw)(y se:Value)(env:List (ByteArray × Val))(e:Ex)(a:Option Addr)(cap:Nat)(w:World)(h:aB S w e (.slice a e.args.length cap))(hy:bI w y v.years)(hs:bi w se env)
 (h4:4<=e.op) (h20:e.op<=20) (h17:¬e.op=17) (h18:¬e.op=18) (ds:List Int) (hds:e.args.length=ds.length) (hal:(ds.length:Int)=aU e.op) (hres:av e.op ds≠0)
 (hok:∀k,k<e.args.length->okR (ds.getD k 0) (aj v env (e.arg k))) (HA:Hid (∀k,k<e.args.length->vB S v y se (e.arg k) (aj v env (e.arg k)) w)):(Calls prog 60 #[exV e (.slice a e.args.length cap),vwV v y,se] w (ApP (aj v env e) w)):=by
 obtain⟨i0,hi,hz0,hz1,hz2⟩:=info_parts Sw
 have hlen:e.args.length=1/\e.op<=6\/e.args.length=2/\7<=e.op:=by
  rw [hds];unfold aU at hal;by_cases h6:e.op<=6
  ·rw [if_neg ze,if_pos ze]at hal;omega
  ·rw [if_neg ze,if_neg ze,if_pos ze]at hal;omega
 have HLN:=yq hlen;have hl2:e.args.length<=2:=by omega
 have HREP:=yq h;have HOK:=yq hok;have HRES:=yq hres;have HDS:=yq hds;have HBADV:Hid (∀k,k<e.args.length->(∀j,j<k->(aj v env (e.arg j)).2=0)->(aj v env (e.arg k)).2≠0->aj v env e=(.zero,(aj v env (e.arg k)).2)):=yq (Ng h4 h20 h17 h18 hlen);have o1:(e.op==1)=false:=by simp;omega
 have o2:(e.op==2)=false:=by simp;omega
 have o3:(e.op==3)=false:=by simp;omega
 have o17:(e.op==17)=false:=by simp;omega
 have o18:(e.op==18)=false:=by simp;omega
 have o21:(e.op==21)=false:=by simp;omega
 have H46:=yq (show 4<=e.op/\e.op<=20/\¬e.op=17/\¬e.op=18 from⟨h4,h20,h17,h18⟩);unfold vB at HA
 obtain⟨ya,yc,rfl⟩:∃a c,y= .slice a v.years.length c:=by
  exact xX
 obtain⟨sa,sc,rfl⟩:∃a c,se= .slice a env.length c:=by
  exact xW
 unfold vwV exV;unfold vwV at HA;obtain⟨b,off,rfl,hb,-⟩:=h.arg_cells ze;clear hy hs h hok hres hds hlen hal h4 h20 h17 h18
 go_enter func60,ntmps60
 go_wp2_with fail
 go_loopw [17,18] (fun v17 v18 wr=>∃(k:Nat) (vb:Value),vb=v17/\k<=e.args.length/\v18= .int .i64 k/\Hid (∀j,j<k->(aj v env (e.arg j)).2=0)/\Below (w.heap.size+1+1+1) ((((w.alloc (.cells #[.int .i64 e.op,.int .i64 e.num,.int .i64 e.den,.int .i64 e.dim,.string e.name,.slice (some ⟨b,off,none⟩) e.args.length cap] 69)).alloc (.cells #[.int .i64 v.age,.int .i64 v.year,.int .i64 v.children,.int .i64 v.insured,.int .i64 v.worked,.int .i64 v.voluntary,.int .i64 v.service,.int .i64 v.equated,.int .i64 v.raising,.int .i64 v.resident,.int .i64 v.bn,.int .i64 v.bd,.slice ya v.years.length yc] 41)).alloc (.cells #[.int .i64 0,.bool false,.int .i64 0,.int .i64 0] 51))) wr/\wr.ownsRow (w.heap.size+1+1+1) 51 4 vb k (GQ ((kR v env e).take k))) (fun _ v18 _=>e.args.length-(intOf v18).toNat)
 case atStart=>exact⟨0,_,rfl,by omega,rfl,yq (fun j hj=>by omega),.refl _ _,World.ownsRow_nil _ _ _ _⟩
 case round=>
  obtain⟨k,vb,rfl,hk,rfl,hno,hB,hown⟩:=hrel;have HO:=yq hown;have hvf:=Ba hown;obtain⟨bs0,d0,rfl⟩:World.Grows ((((w.alloc (.cells #[.int .i64 e.op,.int .i64 e.num,.int .i64 e.den,.int .i64 e.dim,.string e.name,.slice (some ⟨b,off,none⟩) e.args.length cap] 69)).alloc (.cells #[.int .i64 v.age,.int .i64 v.year,.int .i64 v.children,.int .i64 v.insured,.int .i64 v.worked,.int .i64 v.voluntary,.int .i64 v.service,.int .i64 v.equated,.int .i64 v.raising,.int .i64 v.resident,.int .i64 v.bn,.int .i64 v.bd,.slice ya v.years.length yc] 41)).alloc (.cells #[.int .i64 0,.bool false,.int .i64 0,.int .i64 0] 51))) wr:=.of_below (by simpa using hB);clear hB hown;by_cases hlt:k<e.args.length
  ·obtain⟨ak,ck,hpk,x0,x1,x2,x3,x4,x5⟩:=qQ HREP.out rfl k hlt;simp only [<-Nat.add_assoc]at x1 x2 x3 x4 x5;have d1:(k:Int)<(e.args.length:Int):=by omega
   have HPK:=yq hpk;have HK:=yq (HA.out k hlt);have HNX:=yq (lh v env e k hlt);have HBV:=HBADV.out k hlt hno.out;have HZ:=HOK.out k hlt
   have HNO0:Hid ((aj v env (e.arg k)).2=0->∀j,j<k+1->(aj v env (e.arg j)).2=0):=yq (fun h j hj=>by
    by_cases ej:j=k
    ·subst ej;exact h
    ·exact hno.out j ze)
   generalize aj v env (e.arg k)=rk at HK HNX HBV HZ HNO0;obtain⟨⟨mk,qk,nk,dk⟩,rc⟩:=rk;dsimp only at HK HNX HBV HNO0;have HKL:=yq hlt;clear hpk hvf;by_cases hc:rc=0
   ·subst hc;have HNO:Hid (Hid (∀j,j<k+1->(aj v env (e.arg j)).2=0)):=yq (yq (HNO0.out rfl));clear HBV HZ HNO0 hno hlt
    go_wp2_with fail
    refine TS.begin [13] (World.Grows _) zf zf aL (fun hS=>?_);refine kq 0 hS ?_;refine kq 1 hS ?_;refine kq 2 hS ?_;refine kq 3 hS ?_;refine kq 4 hS ?_;refine kq 5 hS ?_;refine kq 6 hS ?_;refine TS.two (i:=7) (k:=11) zq rfl rfl (fun K1 hK1=>?_) (fun K1 hK1=>?_)
    focus
     have HK1:=yq hK1;clear hK1 hS;dsimp only [getElem_toArray,getElem_cons_succ,getElem_cons_zero]
     go_simp
     go_at_call 60
     refine gvq (HK.out _ ai _ _ (HPK.out.grows ai)) ?_;intro bA dA;refine TS.go HK1.out ai (fun hS=>?_);clear HK1 K1
     (try simp only [nS])
     refine kq 8 hS ?_;refine kq 9 hS ?_;refine kq 10 hS ?_;refine TS.one (i:=11) zq rfl (fun K1 hK1=>?_);have HK1:=yq hK1;clear hK1 hS;dsimp only [getElem_toArray,getElem_cons_succ,getElem_cons_zero]
     go_simp
     refine TS.go HK1.out ai (fun hS=>?_);clear HK1 K1
     (try simp only [nS])
     refine TS.one (i:=12) zq rfl (fun K1 hK1=>?_);have HK1:=yq hK1;clear hK1 hS;dsimp only [getElem_toArray,getElem_cons_succ,getElem_cons_zero]
     go_simp
     refine TS.go HK1.out ai (fun hS=>?_);clear HK1 K1
     (try simp only [nS])
     refine TS.weB 13 ?_;clear hS
     go_wp2_with (at_builtin;refine wpList_append_own _ rfl _ _ 154 rfl (w.heap.size+1+1+1) 51 i0 _ 4 32 underlying154 hi hz0 hz1 hz2 rfl zo _ _ _ rfl (bK HO.out ai) ⟨w.heap.size+1+1+1+(bs0.size+bA.size)+1,0,none⟩ 1 1 [.int .i64 mk,.bool qk,.int .i64 nk,.int .i64 dk] rfl rfl ?c1 ?c2 ?c3 ?c4 ?c5 ?_)
     case c1=>exact aQ _ [.int .i64 mk,.bool qk,.int .i64 nk,.int .i64 dk] _ _ zg
     case c2=>intro u hu;simp at hu;rcases hu with rfl|rfl|rfl|rfl<;>rfl
     case c3=>unfold maxLen;omega
     case c4=>omega
     case c5=>simp;try omega
    rotate_left
    focus
     have HK1:=yq hK1;clear hK1 hS;dsimp only [getElem_toArray,getElem_cons_succ,getElem_cons_zero]
     go_simp
     refine TS.go HK1.out ai (fun hS=>?_);clear HK1 K1
     (try simp only [nS])
     refine TS.one (i:=7) zq rfl (fun K1 hK1=>?_);have HK1:=yq hK1;clear hK1 hS;dsimp only [getElem_toArray,getElem_cons_succ,getElem_cons_zero]
     go_simp
     go_at_call 60
     refine gvq (HK.out _ ai _ _ (HPK.out.grows ai)) ?_;intro bA dA;refine TS.go HK1.out ai (fun hS=>?_);clear HK1 K1
     (try simp only [nS])
     refine kq 8 hS ?_;refine kq 9 hS ?_;refine kq 10 hS ?_;refine TS.one (i:=12) zq rfl (fun K1 hK1=>?_);have HK1:=yq hK1;clear hK1 hS;dsimp only [getElem_toArray,getElem_cons_succ,getElem_cons_zero]
     go_simp
     refine TS.go HK1.out ai (fun hS=>?_);clear HK1 K1
     (try simp only [nS])
     refine TS.weB 13 ?_;clear hS
     go_wp2_with (at_builtin;refine wpList_append_own _ rfl _ _ 154 rfl (w.heap.size+1+1+1) 51 i0 _ 4 32 underlying154 hi hz0 hz1 hz2 rfl zo _ _ _ rfl (bK HO.out ai) ⟨w.heap.size+1+1+1+bs0.size+1+bA.size,0,none⟩ 1 1 [.int .i64 mk,.bool qk,.int .i64 nk,.int .i64 dk] rfl rfl ?c1 ?c2 ?c3 ?c4 ?c5 ?_)
     case c1=>exact aQ _ [.int .i64 mk,.bool qk,.int .i64 nk,.int .i64 dk] _ _ zg
     case c2=>intro u hu;simp at hu;rcases hu with rfl|rfl|rfl|rfl<;>rfl
     case c3=>unfold maxLen;omega
     case c4=>omega
     case c5=>simp;try omega
    rotate_left
    all_goals
     intro v' w1 hown' hgrow _;have HB1:=yq ((show Below (w.heap.size+1+1+1) ((((w.alloc (.cells #[.int .i64 e.op,.int .i64 e.num,.int .i64 e.den,.int .i64 e.dim,.string e.name,.slice (some ⟨b,off,none⟩) e.args.length cap] 69)).alloc (.cells #[.int .i64 v.age,.int .i64 v.year,.int .i64 v.children,.int .i64 v.insured,.int .i64 v.worked,.int .i64 v.voluntary,.int .i64 v.service,.int .i64 v.equated,.int .i64 v.raising,.int .i64 v.resident,.int .i64 v.bn,.int .i64 v.bd,.slice ya v.years.length yc] 41)).alloc (.cells #[.int .i64 0,.bool false,.int .i64 0,.int .i64 0] 51))) _ from by(exact af)).grown hgrow zG (fun k hk=>(HO.out.lt k hk).1));have HO1:=yq hown';clear hown' hgrow
     go_wp2_with fail
     go_roundw
     case rel=>exact⟨k+1,_,rfl,HKL.out,by go_num,HNO.out,HB1.out,by rw [HNX.out,GN];exact HO1.out⟩
     case measure=>simp [intOf];have:=HKL.out;omega
   ·have hzz:=(HZ.bad hc).1;simp only [Val.zero,Val.mk.injEq]at hzz;obtain⟨rfl,rfl,rfl,rfl⟩:=hzz;have HV:=yq (HBV hc);have hq1:(rc !=0)=true:=by simpa using hc
    clear hc HBV HZ HNO0 hno hlt
    go_wp2_with fail
    refine TS.begin [13] (World.Grows _) zf zf aL (fun hS=>?_);refine kq 0 hS ?_;refine kq 1 hS ?_;refine kq 2 hS ?_;refine kq 3 hS ?_;refine kq 4 hS ?_;refine kq 5 hS ?_;refine kq 6 hS ?_;refine TS.two (i:=7) (k:=11) zq rfl rfl (fun K1 hK1=>?_) (fun K1 hK1=>?_)
    focus
     have HK1:=yq hK1;clear hK1 hS;dsimp only [getElem_toArray,getElem_cons_succ,getElem_cons_zero]
     go_simp
     go_at_call 60
     refine gvq (HK.out _ ai _ _ (HPK.out.grows ai)) ?_;intro bA dA;refine TS.go HK1.out ai (fun hS=>?_);clear HK1 K1
     (try simp only [nS])
     refine kq 8 hS ?_;refine kq 9 hS ?_;refine kq 10 hS ?_;refine TS.one (i:=11) zq rfl (fun K1 hK1=>?_);have HK1:=yq hK1;clear hK1 hS;dsimp only [getElem_toArray,getElem_cons_succ,getElem_cons_zero]
     go_simp
     refine TS.go HK1.out ai (fun hS=>?_);clear HK1 K1
     (try simp only [nS])
    rotate_left
    focus
     have HK1:=yq hK1;clear hK1 hS;dsimp only [getElem_toArray,getElem_cons_succ,getElem_cons_zero]
     go_simp
     refine TS.go HK1.out ai (fun hS=>?_);clear HK1 K1
     (try simp only [nS])
     refine TS.one (i:=7) zq rfl (fun K1 hK1=>?_);have HK1:=yq hK1;clear hK1 hS;dsimp only [getElem_toArray,getElem_cons_succ,getElem_cons_zero]
     go_simp
     go_at_call 60
     refine gvq (HK.out _ ai _ _ (HPK.out.grows ai)) ?_;intro bA dA;refine TS.go HK1.out ai (fun hS=>?_);clear HK1 K1
     (try simp only [nS])
     refine kq 8 hS ?_;refine kq 9 hS ?_;refine kq 10 hS ?_
    rotate_left
    all_goals
     refine TS.one (i:=12) zq rfl (fun K1 hK1=>?_);have HK1:=yq hK1;clear hK1 hS;dsimp only [getElem_toArray,getElem_cons_succ,getElem_cons_zero]
     go_simp
     refine TS.go HK1.out ai (fun hS=>?_);clear HK1 K1
     (try simp only [nS])
     refine TS.weB 13 ?_;clear hS
     go_wp2_with fail
     go_returns
     exact⟨by rw [HV.out];rfl,ai⟩
  ·obtain rfl:k=e.args.length:=by omega
   obtain⟨g,gc,rfl⟩:∃g c,vb= .slice (some ⟨g,0,none⟩) e.args.length c:=by
    rcases hvf with ⟨-,h0⟩|⟨g,c,rfl,-⟩
    ·have:=HLN.out;omega
    ·exact⟨g,c,rfl⟩
   have hta:(kR v env e).take e.args.length=kR v env e:=take_of_length_le (by unfold kR;rw [length_map];exact Nat.le_refl _);rw [hta]at HO;have HAP:=yq (fun w' (hg:World.Grows (((((w.alloc (.cells #[.int .i64 e.op,.int .i64 e.num,.int .i64 e.den,.int .i64 e.dim,.string e.name,.slice (some ⟨b,off,none⟩) e.args.length cap] 69)).alloc (.cells #[.int .i64 v.age,.int .i64 v.year,.int .i64 v.children,.int .i64 v.insured,.int .i64 v.worked,.int .i64 v.voluntary,.int .i64 v.service,.int .i64 v.equated,.int .i64 v.raising,.int .i64 v.resident,.int .i64 v.bn,.int .i64 v.bd,.slice ya v.years.length yc] 41)).alloc (.cells #[.int .i64 0,.bool false,.int .i64 0,.int .i64 0] 51))).grow bs0 d0) w')=>Kn H46.out.1 H46.out.2.1 H46.out.2.2.1 H46.out.2.2.2 HLN.out HDS.out HRES.out HOK.out hno.out (bK HO.out hg));unfold ApP at HAP;clear hvf hta hno hlt
   go_wp2_with (go_at_call 78;refine gvq (HAP.out _ ai) ?_;intro bs d)
   go_returns
   exact⟨rfl,ai⟩
theorem R5(S:Nat->Prop)(v:Vw)(y se:Value)(env:List (ByteArray × Val))(e:Ex)(a:Option Addr)(cap:Nat)(w:World)(h:aB S w e (.slice a e.args.length cap))(hy:bI w y v.years)(hs:bi w se env)(hop:e.op=21)(hlen:e.args.length=3)
 (r0 r1 r2:Val × Int) (hr0:aj v env (e.arg 0)=r0) (hr1:aj v env (e.arg 1)=r1) (hr2:aj v env (e.arg 2)=r2) (hz:r0.2≠0->r0.1= .zero) (H0:Hid (vB S v y se (e.arg 0) r0 w)) (H1:Hid (vB S v y se (e.arg 1) r1 w)) (H2:Hid (vB S v y se (e.arg 2) r2 w)):(Calls prog 60 #[exV e (.slice a e.args.length cap),vwV v y,se] w (ApP (aj v env e) w)):=by
 have HV0:Hid (aj v env e=if r0.2≠0 then(.zero,r0.2)else(if r0.1.yes=true then r1 else r2)):=yq (by
  have e0:aj v env (e.args.getD 0 default)=r0:=hr0;have e1:aj v env (e.args.getD 1 default)=r1:=hr1;have e2:aj v env (e.args.getD 2 default)=r2:=hr2;rw [dX];unfold eG;rw [bW v env e.args 0 ze,bW v env e.args 1 ze,bW v env e.args 2 ze,e0,e1,e2];rw [if_neg ze,if_neg ze,if_neg ze]
  split
  ·rfl
  ·(rw [if_neg (show ¬e.op=17 by omega),if_neg (show ¬e.op=18 by omega)])<;>(first|rfl|rw [if_pos hop]))
 obtain⟨b,off,rfl,hb,-⟩:=h.arg_cells ze;obtain⟨a0,k0,hp0,x0,x1,x2,x3,x4,x5⟩:=qQ h rfl 0 ze;obtain⟨a1,k1,hp1,z0,z1,z2,z3,z4,z5⟩:=qQ h rfl 1 ze;obtain⟨a2,k2,hp2,y0,y1,y2,y3,y4,y5⟩:=qQ h rfl 2 ze;simp only [Nat.zero_mul,Nat.zero_add,Nat.add_zero,Nat.one_mul,Nat.reduceAdd,Nat.reduceMul]at x0 x1 x2 x3 x4 x5 z0 z1 z2 z3 z4 z5 y0 y1 y2 y3 y4 y5;have HP0:=yq hp0;have HP1:=yq hp1;have HP2:=yq hp2;have hl0:(0:Int)<(e.args.length:Int):=by omega
 have hl2:0<e.args.length:=by omega
 have hl3:1<e.args.length:=by omega
 have hl4:(2:Int)<(e.args.length:Int):=by omega
 have hl5:2<e.args.length:=by omega
 have o17:(e.op==17)=false:=by simp;omega
 have o18:(e.op==18)=false:=by simp;omega
 have o21:(e.op==21)=true:=by simp [hop]
 have hl1:(1:Int)<(e.args.length:Int):=by omega
 have o1:(e.op==1)=false:=by simp;omega
 have o2:(e.op==2)=false:=by simp;omega
 have o3:(e.op==3)=false:=by simp;omega
 unfold vB at H0 H1 H2
 obtain⟨ya,yc,rfl⟩:∃a c,y= .slice a v.years.length c:=by
  exact xX
 obtain⟨sa,sc,rfl⟩:∃a c,se= .slice a env.length c:=by
  exact xW
 unfold vwV exV;unfold vwV at H0 H1 H2;have HLN:=yq hlen;clear hy hs h hp0 hp1 hp2 hr0 hr1 hr2 hlen hop;obtain⟨⟨m0,q0,n0,d0⟩,c0⟩:=r0;obtain⟨⟨m1,q1,n1,d1⟩,c1⟩:=r1;obtain⟨⟨m2,q2,n2,d2⟩,c2⟩:=r2;dsimp only at hz H0 H1 H2 HV0;by_cases hc:c0=0
 ·subst hc;clear hz
  cases q0 with
  |true=>
   have HV:Hid (aj v env e=(⟨m1,q1,n1,d1⟩,c1)):=yq (by rw [HV0.out];simp);clear HV0
   go_enter func60,ntmps60
   go_wp2_with fail
   refine TS.begin [12] (World.Grows _) zf zf aL (fun hS=>?_);refine kq 0 hS ?_;refine kq 1 hS ?_;refine kq 2 hS ?_;refine kq 3 hS ?_;refine kq 4 hS ?_;refine kq 5 hS ?_;refine TS.two (i:=6) (k:=10) zq rfl rfl (fun K1 hK1=>?_) (fun K1 hK1=>?_)
   focus
    have HK1:=yq hK1;clear hK1 hS;dsimp only [getElem_toArray,getElem_cons_succ,getElem_cons_zero]
    go_simp
    go_at_call 60
    refine gvq (H0.out _ ai _ _ (HP0.out.grows ai)) ?_;intro bA dA;refine TS.go HK1.out ai (fun hS=>?_);clear HK1 K1
    (try simp only [nS])
    refine kq 7 hS ?_;refine kq 8 hS ?_;refine kq 9 hS ?_;refine TS.one (i:=10) zq rfl (fun K1 hK1=>?_);have HK1:=yq hK1;clear hK1 hS;dsimp only [getElem_toArray,getElem_cons_succ,getElem_cons_zero]
    go_simp
    refine TS.go HK1.out ai (fun hS=>?_);clear HK1 K1
    (try simp only [nS])
   rotate_left
   focus
    have HK1:=yq hK1;clear hK1 hS;dsimp only [getElem_toArray,getElem_cons_succ,getElem_cons_zero]
    go_simp
    refine TS.go HK1.out ai (fun hS=>?_);clear HK1 K1
    (try simp only [nS])
    refine TS.one (i:=6) zq rfl (fun K1 hK1=>?_);have HK1:=yq hK1;clear hK1 hS;dsimp only [getElem_toArray,getElem_cons_succ,getElem_cons_zero]
    go_simp
    go_at_call 60
    refine gvq (H0.out _ ai _ _ (HP0.out.grows ai)) ?_;intro bA dA;refine TS.go HK1.out ai (fun hS=>?_);clear HK1 K1
    (try simp only [nS])
    refine kq 7 hS ?_;refine kq 8 hS ?_;refine kq 9 hS ?_
   rotate_left
   all_goals
    refine TS.one (i:=11) zq rfl (fun K1 hK1=>?_);have HK1:=yq hK1;clear hK1 hS;dsimp only [getElem_toArray,getElem_cons_succ,getElem_cons_zero]
    go_simp
    refine TS.go HK1.out ai (fun hS=>?_);clear HK1 K1
    (try simp only [nS])
    refine TS.weB 12 ?_;clear hS
    go_wp2_with fail
    refine TS.begin [9,10] (World.Grows _) zf zf aL (fun hS=>?_);refine kq 0 hS ?_;refine kq 1 hS ?_;refine kq 2 hS ?_;refine kq 3 hS ?_;refine kq 4 hS ?_;refine kq 5 hS ?_;refine TS.one (i:=6) zq rfl (fun K1 hK1=>?_);have HK1:=yq hK1;clear hK1 hS;dsimp only [getElem_toArray,getElem_cons_succ,getElem_cons_zero]
    go_simp
    go_at_call 60
    refine gvq (H1.out _ ai _ _ (HP1.out.grows ai)) ?_;intro bA dA;refine TS.go HK1.out ai (fun hS=>?_);clear HK1 K1
    (try simp only [nS])
    refine kq 7 hS ?_;refine kq 8 hS ?_;refine TS.wtB 9 ?_;refine TS.weB 10 ?_;clear hS
    go_wp2_with fail
    go_returns
    exact⟨by rw [HV.out],ai⟩
  |false=>
   have HV:Hid (aj v env e=(⟨m2,q2,n2,d2⟩,c2)):=yq (by rw [HV0.out];simp);clear HV0
   go_enter func60,ntmps60
   go_wp2_with fail
   refine TS.begin [12] (World.Grows _) zf zf aL (fun hS=>?_);refine kq 0 hS ?_;refine kq 1 hS ?_;refine kq 2 hS ?_;refine kq 3 hS ?_;refine kq 4 hS ?_;refine kq 5 hS ?_;refine TS.two (i:=6) (k:=10) zq rfl rfl (fun K1 hK1=>?_) (fun K1 hK1=>?_)
   focus
    have HK1:=yq hK1;clear hK1 hS;dsimp only [getElem_toArray,getElem_cons_succ,getElem_cons_zero]
    go_simp
    go_at_call 60
    refine gvq (H0.out _ ai _ _ (HP0.out.grows ai)) ?_;intro bA dA;refine TS.go HK1.out ai (fun hS=>?_);clear HK1 K1
    (try simp only [nS])
    refine kq 7 hS ?_;refine kq 8 hS ?_;refine kq 9 hS ?_;refine TS.one (i:=10) zq rfl (fun K1 hK1=>?_);have HK1:=yq hK1;clear hK1 hS;dsimp only [getElem_toArray,getElem_cons_succ,getElem_cons_zero]
    go_simp
    refine TS.go HK1.out ai (fun hS=>?_);clear HK1 K1
    (try simp only [nS])
   rotate_left
   focus
    have HK1:=yq hK1;clear hK1 hS;dsimp only [getElem_toArray,getElem_cons_succ,getElem_cons_zero]
    go_simp
    refine TS.go HK1.out ai (fun hS=>?_);clear HK1 K1
    (try simp only [nS])
    refine TS.one (i:=6) zq rfl (fun K1 hK1=>?_);have HK1:=yq hK1;clear hK1 hS;dsimp only [getElem_toArray,getElem_cons_succ,getElem_cons_zero]
    go_simp
    go_at_call 60
    refine gvq (H0.out _ ai _ _ (HP0.out.grows ai)) ?_;intro bA dA;refine TS.go HK1.out ai (fun hS=>?_);clear HK1 K1
    (try simp only [nS])
    refine kq 7 hS ?_;refine kq 8 hS ?_;refine kq 9 hS ?_
   rotate_left
   all_goals
    refine TS.one (i:=11) zq rfl (fun K1 hK1=>?_);have HK1:=yq hK1;clear hK1 hS;dsimp only [getElem_toArray,getElem_cons_succ,getElem_cons_zero]
    go_simp
    refine TS.go HK1.out ai (fun hS=>?_);clear HK1 K1
    (try simp only [nS])
    refine TS.weB 12 ?_;clear hS
    go_wp2_with fail
    refine TS.begin [9,10] (World.Grows _) zf zf aL (fun hS=>?_);refine kq 0 hS ?_;refine kq 1 hS ?_;refine kq 2 hS ?_;refine kq 3 hS ?_;refine kq 4 hS ?_;refine kq 5 hS ?_;refine TS.one (i:=6) zq rfl (fun K1 hK1=>?_);have HK1:=yq hK1;clear hK1 hS;dsimp only [getElem_toArray,getElem_cons_succ,getElem_cons_zero]
    go_simp
    go_at_call 60
    refine gvq (H2.out _ ai _ _ (HP2.out.grows ai)) ?_;intro bA dA;refine TS.go HK1.out ai (fun hS=>?_);clear HK1 K1
    (try simp only [nS])
    refine kq 7 hS ?_;refine kq 8 hS ?_;refine TS.wtB 9 ?_;refine TS.weB 10 ?_;clear hS
    go_wp2_with fail
    go_returns
    exact⟨by rw [HV.out],ai⟩
 ·have hzz:=hz hc;simp only [Val.zero,Val.mk.injEq]at hzz;obtain⟨rfl,rfl,rfl,rfl⟩:=hzz;have HV:Hid (aj v env e=(.zero,c0)):=yq (by rw [HV0.out,if_pos hc]);have hq1:(c0 !=0)=true:=by simpa using hc
  clear hc hz HV0
  go_enter func60,ntmps60
  go_wp2_with fail
  refine TS.begin [12] (World.Grows _) zf zf aL (fun hS=>?_);refine kq 0 hS ?_;refine kq 1 hS ?_;refine kq 2 hS ?_;refine kq 3 hS ?_;refine kq 4 hS ?_;refine kq 5 hS ?_;refine TS.two (i:=6) (k:=10) zq rfl rfl (fun K1 hK1=>?_) (fun K1 hK1=>?_)
  focus
   have HK1:=yq hK1;clear hK1 hS;dsimp only [getElem_toArray,getElem_cons_succ,getElem_cons_zero]
   go_simp
   go_at_call 60
   refine gvq (H0.out _ ai _ _ (HP0.out.grows ai)) ?_;intro bA dA;refine TS.go HK1.out ai (fun hS=>?_);clear HK1 K1
   (try simp only [nS])
   refine kq 7 hS ?_;refine kq 8 hS ?_;refine kq 9 hS ?_;refine TS.one (i:=10) zq rfl (fun K1 hK1=>?_);have HK1:=yq hK1;clear hK1 hS;dsimp only [getElem_toArray,getElem_cons_succ,getElem_cons_zero]
   go_simp
   refine TS.go HK1.out ai (fun hS=>?_);clear HK1 K1
   (try simp only [nS])
  rotate_left
  focus
   have HK1:=yq hK1;clear hK1 hS;dsimp only [getElem_toArray,getElem_cons_succ,getElem_cons_zero]
   go_simp
   refine TS.go HK1.out ai (fun hS=>?_);clear HK1 K1
   (try simp only [nS])
   refine TS.one (i:=6) zq rfl (fun K1 hK1=>?_);have HK1:=yq hK1;clear hK1 hS;dsimp only [getElem_toArray,getElem_cons_succ,getElem_cons_zero]
   go_simp
   go_at_call 60
   refine gvq (H0.out _ ai _ _ (HP0.out.grows ai)) ?_;intro bA dA;refine TS.go HK1.out ai (fun hS=>?_);clear HK1 K1
   (try simp only [nS])
   refine kq 7 hS ?_;refine kq 8 hS ?_;refine kq 9 hS ?_
  rotate_left
  all_goals
   refine TS.one (i:=11) zq rfl (fun K1 hK1=>?_);have HK1:=yq hK1;clear hK1 hS;dsimp only [getElem_toArray,getElem_cons_succ,getElem_cons_zero]
   go_simp
   refine TS.go HK1.out ai (fun hS=>?_);clear HK1 K1
   (try simp only [nS])
   refine TS.weB 12 ?_;clear hS
   go_wp2_with fail
   (go_returns;exact⟨by rw [HV.out];rfl,ai⟩)
theorem R4{S:Nat->Prop}{v:Vw}{y se:Value}{env:List (ByteArray × Val)}{x:Ex}{w:World}(h:∀(a:Option Addr) (cap:Nat) (w':World),w.Grows w'->aB S w' x (.slice a x.args.length cap)->Calls prog 60 #[exV x (.slice a x.args.length cap),vwV v y,se] w' (ApP (aj v env x) w')):Hid (vB S v y se x (aj v env x) w):=
 yq fun w' hg a c hr=>h a c w' hg hr
theorem A9(S:Nat->Prop)(v:Vw)(hv:v.ok=true)(hrg:dV v)(y se:Value)(env:List (ByteArray × Val))(hE:∀p∈env,p.2.ok=true)(n:Nat):∀e:Ex,e.size<=n->aN e=true->(aD (aS env) e).2=0->∀(a:Option Addr) (cap:Nat) (w:World),aB S w e (.slice a e.args.length cap)->bI w y v.years->bi w se env->
 (Calls prog 60 #[exV e (.slice a e.args.length cap),vwV v y,se] w (ApP (aj v env e) w)):=by
 induction n with
 |zero=>intro e he;have:=e.size_pos;omega
 |succ n ih=>
  intro e he hf hi a cap w h hy hs;by_cases h1:e.op=1
  ·exact Qv v y se env e a cap w hy hs h1
  by_cases h3:e.op=3
  ·exact Ni v y se env e a cap w hy hs h3
  by_cases h2:e.op=2
  ·cases hx:dF v e.name with
   |some x=>exact Km v y se env e a cap w hrg hy hs h2 x hx
   |none=>
    have hn:(eu (aS env) e.name).2=0:=by
     rw [iI]at hi;unfold fw at hi;rw [if_neg h1,if_neg h3,if_pos h2]at hi;exact hi
    have hnm:=uq hv hE hn;unfold jU at hnm;rw [hx]at hnm;dsimp only at hnm
    cases hl:dK env e.name with
    |some x=>exact Qw v y se env e a cap w hrg hy hs h2 x hx hl
    |none=>rw [hl]at hnm;simp at hnm
  obtain⟨ds,hds,hal,ho4,ho21,hres,hop⟩:=Bh hv hE hf hi h1 h2 h3
  have IH:∀k,k<e.args.length->Hid (vB S v y se (e.arg k) (aj v env (e.arg k)) w):=fun k hk=>R4 fun a' c' w' hg hr=>
   ih (e.arg k) (by have:=e.size_arg k hk;omega) (hop k hk).1 (hop k hk).2.1 a' c' w' hr (hy.grows hg) (hs.grows hg)
  by_cases h17:e.op=17\/e.op=18
  ·have hlen:e.args.length=2:=by
    unfold aU at hal;rw [if_neg ze,if_neg ze,if_pos ze]at hal;omega
   exact Kl S v y se env e a cap w h hy hs h17 hlen _ _ rfl rfl (fun hz=>((hop 0 ze).2.2.bad hz).1) (IH 0 ze) (IH 1 ze)
  by_cases h21:e.op=21
  ·have hlen:e.args.length=3:=by
    unfold aU at hal;rw [if_neg ze,if_neg ze,if_neg ze,if_pos ze]at hal;omega
   exact R5 S v y se env e a cap w h hy hs h21 hlen _ _ _ rfl rfl rfl (fun hz=>((hop 0 ze).2.2.bad hz).1) (IH 0 ze) (IH 1 ze) (IH 2 ze)
  exact RZ S v y se env e a cap w h hy hs ho4 ze ze ze ds hds hal hres (fun k hk=>(hop k hk).2.2) (yq fun k hk=>(IH k hk).out)
theorem EZ(v:Vw)(y se:Value)(env:List (ByteArray × Val))(e:Ex)(a:Option Addr)(cap:Nat)(w:World)(hy:bI w y v.years)(hr:dV v)(hs:bi w se env)(hv:v.ok=false) :
 Calls prog 33 #[exV e (.slice a e.args.length cap),vwV v y,se] w (J4 (gG v env e) w):=by
 have HF:Hid (gG v env e=(.zero,1)):=yq (by unfold gG;rw [if_pos (.inl hv)]);rw [HF.out];have HY:=yq hy;have HV:=yq (fun w' (hg:w.Grows w')=>eY v y w' hr (HY.out.grows hg));rw [hv]at HV
 obtain⟨ya,yc,rfl⟩:∃a c,y= .slice a v.years.length c:=by
  exact xX
 obtain⟨sa,sc,rfl⟩:∃a c,se= .slice a env.length c:=by
  exact xW
 unfold vwV exV;unfold vwV at HV;clear hy hr hs hv HF
 go_enter func33,ntmps33
 go_wp2_with (go_at_call 16;refine gvq (HV.out _ ai) ?_;intro bs d)
 go_returns
 exact Pq rfl ai
theorem LZ(S:Nat->Prop)(v:Vw)(y se:Value)(env:List (ByteArray × Val))(e:Ex)(a:Option Addr)(cap:Nat)(w:World)(h:aB S w e (.slice a e.args.length cap))(hbig:e.size<=2305843009213693952)(hy:bI w y v.years)(hr:dV v)(hs:bi w se env)(hS:∀p∈env,Fv p.2)(hv:v.ok=true) :
 Calls prog 33 #[exV e (.slice a e.args.length cap),vwV v y,se] w (J4 (gG v env e) w):=by
 obtain⟨i0,hi,hz0,hz1,hz2⟩:=info_parts Lt;have HR:=yq h;have HY:=yq hy;have HS:=yq hs;have HSR:=yq hS;have HV:=yq (fun w' (hg:w.Grows w')=>eY v y w' hr (HY.out.grows hg));rw [hv]at HV;have HBAD:Hid (∀k,k<env.length->(stV env k).ok=false->gG v env e=(.zero,1)):=yq (fun k hk hb=>by unfold gG;rw [if_pos (.inr (.inl (Ps hk hb)))])
 have HINF:Hid (∀w' vb,w.Grows w'->aT w' vb (aS env)->Calls prog 57 #[exV e (.slice a e.args.length cap),vb] w' (jR (aR (aS env) e) w')):=
  yq (fun w' vb hg hb=>oF S (aS env) e _ vb w' (HR.out.grows hg) hbig hb)
 have HGOOD:=yq (fun hE=>I9 (v:=v) (env:=env) (e:=e) hv hE)
 have HEV:Hid ((∀p∈env,p.2.ok=true)->(aR (aS env) e).2=0->(∀w',w.Grows w'->Calls prog 60 #[exV e (.slice a e.args.length cap),vwV v y,se] w' (ApP (aj v env e) w'))/\((aj v env e).2≠0->(aj v env e).1= .zero)):=
  yq (fun hE hi=>by
   have hvb:cB e=true:=by
    unfold aR at hi
    split at hi<;>rename_i hc
    ·exact hc.1
    ·simp at hi
   have hi2:(aD (aS env) e).2=0:=by rwa [nW hvb (Gp hE)]at hi
   exact⟨fun w' hg=>A9 S v hv hr y se env hE e.size e (Nat.le_refl _) (jf hvb) hi2 a cap w' (HR.out.grows hg) (HY.out.grows hg) (HS.out.grows hg),fun hz=>((lW hv hE e (jf hvb) hi2).bad hz).1⟩)
 have h1000:=hs.1
 obtain⟨ya,yc,rfl⟩:∃a c,y= .slice a v.years.length c:=by
  exact xX
 obtain⟨sa,sc,rfl⟩:∃a c,se= .slice a env.length c:=by
  exact xW
 unfold vwV exV;clear h hy hr hs hS hv hbig;unfold vwV at HV;unfold ApP exV vwV at HEV;unfold jR exV at HINF
 go_enter func33,ntmps33
 go_wp2_with (go_at_call 16;refine gvq (HV.out _ ai) ?_;intro bs d)
 go_loopw [8,9] (fun v8 v9 wr=>∃(k:Nat) (vb:Value),vb=v8/\k<=env.length/\v9= .int .i64 k/\Hid (∀j,j<k->(stV env j).ok=true)/\Below (w.heap.size+1+1+1) ((((w.alloc (.cells #[.int .i64 e.op,.int .i64 e.num,.int .i64 e.den,.int .i64 e.dim,.string e.name,.slice a e.args.length cap] 69)).alloc (.cells #[.int .i64 v.age,.int .i64 v.year,.int .i64 v.children,.int .i64 v.insured,.int .i64 v.worked,.int .i64 v.voluntary,.int .i64 v.service,.int .i64 v.equated,.int .i64 v.raising,.int .i64 v.resident,.int .i64 v.bn,.int .i64 v.bd,.slice ya v.years.length yc] 41)).alloc (.cells #[.int .i64 0,.bool false,.int .i64 0,.int .i64 0] 51))) wr/\wr.ownsRow (w.heap.size+1+1+1) 74 2 vb k (pJ (aS (env.take k)))) (fun _ v9 _=>env.length-(intOf v9).toNat)
 case atStart=>exact⟨0,_,rfl,by omega,rfl,yq (fun j hj=>by omega),by(exact af),World.ownsRow_nil _ _ _ _⟩
 case round=>
  obtain⟨k,vb,rfl,hk,rfl,hno,hB,hown⟩:=hrel;have HO:=yq hown;obtain⟨bs0,d0,rfl⟩:World.Grows ((((w.alloc (.cells #[.int .i64 e.op,.int .i64 e.num,.int .i64 e.den,.int .i64 e.dim,.string e.name,.slice a e.args.length cap] 69)).alloc (.cells #[.int .i64 v.age,.int .i64 v.year,.int .i64 v.children,.int .i64 v.insured,.int .i64 v.worked,.int .i64 v.voluntary,.int .i64 v.service,.int .i64 v.equated,.int .i64 v.raising,.int .i64 v.resident,.int .i64 v.bn,.int .i64 v.bd,.slice ya v.years.length yc] 41)).alloc (.cells #[.int .i64 0,.bool false,.int .i64 0,.int .i64 0] 51))) wr:=.of_below (by simpa using hB);clear hB;by_cases hlt:k<env.length
  ·clear hown;obtain⟨-,sa',sc',hv2,hcs⟩:=HS.out;simp only [Value.slice.injEq,true_and]at hv2;obtain⟨rfl,rfl⟩:=hv2;rcases hcs with h0|⟨b,off,rfl,hbw,hx⟩
   ·omega
   obtain⟨s0,s1,s2,s3,s4⟩:=hx k hlt
   have HVV:Hid (∀w,Calls prog 59 #[dY (stV env k)] w fun r w'=>r= .returned (.bool (stV env k).ok)/\w.Grows w'):=yq (fun w=>by
    obtain⟨p,hp,he⟩:=NE hlt
    exact si _ w (by rw [he];exact HSR.out p hp))
   have HBD:=yq (HBAD.out k hlt);have HNX:=yq (Jk env k hlt);have HKL:=yq hlt;have d1:(k:Int)<(env.length:Int):=by omega
   unfold dY at HVV
   have HKK:Hid ((stV env k).ok=true->∀j,j<k+1->(stV env j).ok=true):=yq (fun h j hj=>by
    by_cases ej:j=k
    ·subst ej;exact h
    ·exact hno.out j ze)
   generalize stN env k=nk at *;generalize stV env k=xk at *;obtain⟨xm,xy,xn,xd⟩:=xk;dsimp only at s1 s2 s3 s4 HVV HNX
   cases hq:(Val.mk xm xy xn xd).ok with
   |true=>
    rw [hq]at HVV;have HQ:=yq (HKK.out hq);clear hx hlt hq HKK HBD
    go_wp2_with (go_at_call 59;refine gvq (HVV.out _) ?_;intro bs2 d2)
    refine TS.begin [14,15] (World.Grows _) zf zf aL (fun hS=>?_);refine kq 0 hS ?_;refine kq 1 hS ?_;refine kq 2 hS ?_;refine kq 3 hS ?_;refine kq 4 hS ?_;refine kq 5 hS ?_;refine kq 6 hS ?_;refine kq 7 hS ?_;refine kq 8 hS ?_;refine kq 9 hS ?_;refine kq 10 hS ?_;refine kq 11 hS ?_;refine kq 12 hS ?_;refine TS.one (i:=13) zq rfl (fun K1 hK1=>?_);have HK1:=yq hK1;clear hK1 hS;dsimp only [getElem_toArray,getElem_cons_succ,getElem_cons_zero]
    go_simp
    refine TS.go HK1.out ai (fun hS=>?_);clear HK1 K1
    (try simp only [nS])
    refine TS.one (i:=14) zq rfl (fun K1 hK1=>?_);refine aF rfl _ _ 65 rfl (w.heap.size+1+1+1) 74 i0 _ 2 24 underlying65 hi hz0 hz1 hz2 rfl zo vb k _ rfl (bK HO.out ai) ⟨w.heap.size+1+1+1+(bs0.size+bs2.size),0,none⟩ 1 1 [.string nk,.int .i64 xm] rfl rfl (aQ _ [.string nk,.int .i64 xm] _ _ zg) (by intro u hu;simp at hu;rcases hu with rfl|rfl<;>rfl) zD ze zG ?_;intro v2 w2 hown2 hgrow2;have hB2:Below (w.heap.size+1+1+1) ((((w.alloc (.cells #[.int .i64 e.op,.int .i64 e.num,.int .i64 e.den,.int .i64 e.dim,.string e.name,.slice a e.args.length cap] 69)).alloc (.cells #[.int .i64 v.age,.int .i64 v.year,.int .i64 v.children,.int .i64 v.insured,.int .i64 v.worked,.int .i64 v.voluntary,.int .i64 v.service,.int .i64 v.equated,.int .i64 v.raising,.int .i64 v.resident,.int .i64 v.bn,.int .i64 v.bd,.slice ya v.years.length yc] 41)).alloc (.cells #[.int .i64 0,.bool false,.int .i64 0,.int .i64 0] 51))) w2:=Below.grown (show Below (w.heap.size+1+1+1) ((((w.alloc (.cells #[.int .i64 e.op,.int .i64 e.num,.int .i64 e.den,.int .i64 e.dim,.string e.name,.slice a e.args.length cap] 69)).alloc (.cells #[.int .i64 v.age,.int .i64 v.year,.int .i64 v.children,.int .i64 v.insured,.int .i64 v.worked,.int .i64 v.voluntary,.int .i64 v.service,.int .i64 v.equated,.int .i64 v.raising,.int .i64 v.resident,.int .i64 v.bn,.int .i64 v.bd,.slice ya v.years.length yc] 41)).alloc (.cells #[.int .i64 0,.bool false,.int .i64 0,.int .i64 0] 51))) _ from by(exact af)) hgrow2 zG (fun k hk=>(HO.out.lt k hk).1);have HB2:=yq hB2;have HO2:=yq hown2;refine hK1 _ _ (fun h=>absurd zo h) ?_;clear hK1 K1 hown2 hgrow2 hB2
    (try simp only [nS])
    refine TS.weB 15 ?_;clear hS
    go_wp2_with fail
    go_roundw
    case rel=>exact⟨k+1,_,rfl,HKL.out,by go_num,HQ,HB2.out,by rw [HNX.out,ow];exact HO2.out⟩
    case measure=>simp [intOf];have:=HKL.out;omega
   |false=>
    rw [hq]at HVV;have HF:=yq (HBD.out hq);clear hx hlt hq HKK HBD;rw [HF.out]
    go_wp2_with (go_at_call 59;refine gvq (HVV.out _) ?_;intro bs2 d2)
    go_returns
    exact Pq rfl ai
  ·obtain rfl:k=env.length:=by omega
   have hE:=L6 hno.out;have hgd:=HGOOD.out hE;have HEV2:=yq (HEV.out hE)
   have hbd:aT (((((w.alloc (.cells #[.int .i64 e.op,.int .i64 e.num,.int .i64 e.den,.int .i64 e.dim,.string e.name,.slice a e.args.length cap] 69)).alloc (.cells #[.int .i64 v.age,.int .i64 v.year,.int .i64 v.children,.int .i64 v.insured,.int .i64 v.worked,.int .i64 v.voluntary,.int .i64 v.service,.int .i64 v.equated,.int .i64 v.raising,.int .i64 v.resident,.int .i64 v.bn,.int .i64 v.bd,.slice ya v.years.length yc] 41)).alloc (.cells #[.int .i64 0,.bool false,.int .i64 0,.int .i64 0] 51))).grow bs0 d0) vb (aS env):=by
    have h1:=HO.out;rw [take_length]at h1;have hl:(aS env).length=env.length:=by unfold aS;simp
    exact aT.of_own (by rw [hl];exact h1) (by rw [hl];exact h1000)
   have HBND:=yq hbd;obtain⟨-,va,vc,rfl,-⟩:=hbd;have HGD:=yq hgd;clear hgd hown hno;generalize aR (aS env) e=q at *;generalize aj v env e=r at *;obtain⟨qm,qc⟩:=q;obtain⟨⟨rm,ry,rn,rd⟩,rc⟩:=r;dsimp only at HINF HEV2 HGD;by_cases hqc:qc=0
   ·subst hqc;obtain⟨hev,hz⟩:=HEV2.out rfl;have HEV3:=yq hev
    have HF:Hid (gG v env e=(⟨rm,ry,rn,rd⟩,rc)):=yq (by
     rw [HGD.out,if_neg zg];by_cases hrc:rc≠0
     ·rw [if_pos hrc,hz hrc]
     ·rw [if_neg hrc])
    clear hev hz
    go_wp2_with (first
     |(go_at_call 57;refine gvq (HINF.out _ _ ai (HBND.out.grows ai)) ?_;intro bs4 d4)
     |(go_at_call 60;refine gvq (HEV3.out _ ai) ?_;intro bs5 d5))
    go_returns
    exact Pq HF.out ai
   ·have hq1:(qc !=0)=true:=by simpa using hqc
    have HF:Hid (gG v env e=(.zero,qc)):=yq (by rw [HGD.out];simp [hqc]);clear hqc HEV2
    go_wp2_with (go_at_call 57;refine gvq (HINF.out _ _ ai (HBND.out.grows ai)) ?_;intro bs4 d4)
    go_returns
    exact Pq HF.out ai
theorem xS(S:Nat->Prop)(v:Vw)(y se:Value)(env:List (ByteArray × Val))(e:Ex)(a:Option Addr)(cap:Nat)(w:World)(h:aB S w e (.slice a e.args.length cap))(hbig:e.size<=2305843009213693952)(hy:bI w y v.years)(hr:dV v)(hs:bi w se env)(hS:∀p∈env,Fv p.2) :
 Calls prog 33 #[exV e (.slice a e.args.length cap),vwV v y,se] w (J4 (gG v env e) w):=by
 cases hv:v.ok with
 |false=>exact EZ v y se env e a cap w hy hr hs hv
 |true=>exact LZ S v y se env e a cap w h hbig hy hr hs hS hv
end Go.Proofs.YtcfpoofhokbhlaaGreatDoor
