import Derived.Test.YtlheailebbngiaaGreatDoorGV8b
set_option linter.all false
set_option maxHeartbeats 16000000
set_option maxRecDepth 1000000
namespace Go.Proofs.YtlheailebbngiaaGreatDoor
open Go.Proofs.Tryz List
open Go.RowKit
theorem P6(S:Nat->Prop)(v:Vw)(y se:Value)(env:List (ByteArray × Val))(e:Ex)(a:Option Addr)(cap:Nat)(w:World)(h:aC S w e (.slice a e.args.length cap))(hy:bJ w y v.years)(hs:bi w se env)(hop:e.op=21)(hlen:e.args.length=3)
 (r0 r1 r2:Val × Int) (hr0:ai v env (e.arg 0)=r0) (hr1:ai v env (e.arg 1)=r1) (hr2:ai v env (e.arg 2)=r2) (hz:r0.2≠0->r0.1= .zero) (H0:Hid (uN S v y se (e.arg 0) r0 w)) (H1:Hid (uN S v y se (e.arg 1) r1 w)) (H2:Hid (uN S v y se (e.arg 2) r2 w)):(Calls prog 70 #[exV e (.slice a e.args.length cap),vwV v y,se] w (ApP (ai v env e) w)):=by
 have HV0:Hid (ai v env e=if r0.2≠0 then(.zero,r0.2)else(if r0.1.yes=true then r1 else r2)):=zh (by
  have e0:ai v env (e.args.getD 0 default)=r0:=hr0;have e1:ai v env (e.args.getD 1 default)=r1:=hr1;have e2:ai v env (e.args.getD 2 default)=r2:=hr2;rw [dQ];unfold eD;rw [bZ v env e.args 0 ze,bZ v env e.args 1 ze,bZ v env e.args 2 ze,e0,e1,e2];rw [if_neg ze,if_neg ze,if_neg ze]
  split
  ·rfl
  ·(rw [if_neg (show ¬e.op=17 by omega),if_neg (show ¬e.op=18 by omega)])<;>(first|rfl|rw [if_pos hop]))
 obtain⟨b,off,rfl,hb,-⟩:=h.arg_cells ze;obtain⟨a0,k0,hp0,x0,x1,x2,x3,x4,x5⟩:=qJ h rfl 0 ze;obtain⟨a1,k1,hp1,z0,z1,z2,z3,z4,z5⟩:=qJ h rfl 1 ze;obtain⟨a2,k2,hp2,y0,y1,y2,y3,y4,y5⟩:=qJ h rfl 2 ze;simp only [Nat.zero_mul,Nat.zero_add,Nat.add_zero,Nat.one_mul,Nat.reduceAdd,Nat.reduceMul]at x0 x1 x2 x3 x4 x5 z0 z1 z2 z3 z4 z5 y0 y1 y2 y3 y4 y5;have HP0:=zh hp0;have HP1:=zh hp1;have HP2:=zh hp2;have hl0:(0:Int)<(e.args.length:Int):=by omega
 have hl2:0<e.args.length:=by omega
 have hl3:1<e.args.length:=by omega
 have hl4:(2:Int)<(e.args.length:Int):=by omega
 have hl5:2<e.args.length:=by omega
 have o17:(e.op==17)=false:=by simp;omega
 have o18:(e.op==18)=false:=by simp;omega
 have o21:(e.op==21)=true:=by simp [hop]
 have hl1:(1:Int)<(e.args.length:Int):=by omega
 have o1:(e.op==1)=false:=by simp;omega
 have o2:(e.op==2)=false:=by simp;omega
 have o3:(e.op==3)=false:=by simp;omega
 unfold uN at H0 H1 H2
 obtain⟨ya,yc,rfl⟩:∃a c,y= .slice a v.years.length c:=by
  exact xN
 obtain⟨sa,sc,rfl⟩:∃a c,se= .slice a env.length c:=by
  exact xM
 unfold vwV exV;unfold vwV at H0 H1 H2;have HLN:=zh hlen;clear hy hs h hp0 hp1 hp2 hr0 hr1 hr2 hlen hop;obtain⟨⟨m0,q0,n0,d0⟩,c0⟩:=r0;obtain⟨⟨m1,q1,n1,d1⟩,c1⟩:=r1;obtain⟨⟨m2,q2,n2,d2⟩,c2⟩:=r2;dsimp only at hz H0 H1 H2 HV0;by_cases hc:c0=0
 ·subst hc;clear hz
  cases q0 with
  |true=>
   have HV:Hid (ai v env e=(⟨m1,q1,n1,d1⟩,c1)):=zh (by rw [HV0.out];simp);clear HV0
   go_enter func70,ntmps70
   go_wp2_with fail
   refine TS.begin [12] (World.Grows _) zf zf aO (fun hS=>?_);refine TS.wkB 0 hS ?_;refine TS.wkB 1 hS ?_;refine TS.wkB 2 hS ?_;refine TS.wkB 3 hS ?_;refine TS.wkB 4 hS ?_;refine TS.wkB 5 hS ?_;refine TS.two (i:=6) (k:=10) zq rfl rfl (fun K1 hK1=>?_) (fun K1 hK1=>?_)
   focus
    have HK1:=zh hK1;clear hK1 hS;dsimp only [getElem_toArray,getElem_cons_succ,getElem_cons_zero]
    go_simp
    go_at_call 70
    refine(H0.out _ aj _ _ (HP0.out.grows aj)).mono ?_;rintro e' wA ⟨rfl,bA,dA,rfl⟩;refine TS.go HK1.out aj (fun hS=>?_);clear HK1 K1
    (try simp only [nS])
    refine TS.wkB 7 hS ?_;refine TS.wkB 8 hS ?_;refine TS.wkB 9 hS ?_;refine TS.one (i:=10) zq rfl (fun K1 hK1=>?_);have HK1:=zh hK1;clear hK1 hS;dsimp only [getElem_toArray,getElem_cons_succ,getElem_cons_zero]
    go_simp
    refine TS.go HK1.out aj (fun hS=>?_);clear HK1 K1
    (try simp only [nS])
   rotate_left
   focus
    have HK1:=zh hK1;clear hK1 hS;dsimp only [getElem_toArray,getElem_cons_succ,getElem_cons_zero]
    go_simp
    refine TS.go HK1.out aj (fun hS=>?_);clear HK1 K1
    (try simp only [nS])
    refine TS.one (i:=6) zq rfl (fun K1 hK1=>?_);have HK1:=zh hK1;clear hK1 hS;dsimp only [getElem_toArray,getElem_cons_succ,getElem_cons_zero]
    go_simp
    go_at_call 70
    refine(H0.out _ aj _ _ (HP0.out.grows aj)).mono ?_;rintro e' wA ⟨rfl,bA,dA,rfl⟩;refine TS.go HK1.out aj (fun hS=>?_);clear HK1 K1
    (try simp only [nS])
    refine TS.wkB 7 hS ?_;refine TS.wkB 8 hS ?_;refine TS.wkB 9 hS ?_
   rotate_left
   all_goals
    refine TS.one (i:=11) zq rfl (fun K1 hK1=>?_);have HK1:=zh hK1;clear hK1 hS;dsimp only [getElem_toArray,getElem_cons_succ,getElem_cons_zero]
    go_simp
    refine TS.go HK1.out aj (fun hS=>?_);clear HK1 K1
    (try simp only [nS])
    refine TS.weB 12 ?_;clear hS
    go_wp2_with fail
    refine TS.begin [9,10] (World.Grows _) zf zf aO (fun hS=>?_);refine TS.wkB 0 hS ?_;refine TS.wkB 1 hS ?_;refine TS.wkB 2 hS ?_;refine TS.wkB 3 hS ?_;refine TS.wkB 4 hS ?_;refine TS.wkB 5 hS ?_;refine TS.one (i:=6) zq rfl (fun K1 hK1=>?_);have HK1:=zh hK1;clear hK1 hS;dsimp only [getElem_toArray,getElem_cons_succ,getElem_cons_zero]
    go_simp
    go_at_call 70
    refine(H1.out _ aj _ _ (HP1.out.grows aj)).mono ?_;rintro e' wA ⟨rfl,bA,dA,rfl⟩;refine TS.go HK1.out aj (fun hS=>?_);clear HK1 K1
    (try simp only [nS])
    refine TS.wkB 7 hS ?_;refine TS.wkB 8 hS ?_;refine TS.wtB 9 ?_;refine TS.weB 10 ?_;clear hS
    go_wp2_with fail
    go_returns
    exact⟨by rw [HV.out],aj⟩
  |false=>
   have HV:Hid (ai v env e=(⟨m2,q2,n2,d2⟩,c2)):=zh (by rw [HV0.out];simp);clear HV0
   go_enter func70,ntmps70
   go_wp2_with fail
   refine TS.begin [12] (World.Grows _) zf zf aO (fun hS=>?_);refine TS.wkB 0 hS ?_;refine TS.wkB 1 hS ?_;refine TS.wkB 2 hS ?_;refine TS.wkB 3 hS ?_;refine TS.wkB 4 hS ?_;refine TS.wkB 5 hS ?_;refine TS.two (i:=6) (k:=10) zq rfl rfl (fun K1 hK1=>?_) (fun K1 hK1=>?_)
   focus
    have HK1:=zh hK1;clear hK1 hS;dsimp only [getElem_toArray,getElem_cons_succ,getElem_cons_zero]
    go_simp
    go_at_call 70
    refine(H0.out _ aj _ _ (HP0.out.grows aj)).mono ?_;rintro e' wA ⟨rfl,bA,dA,rfl⟩;refine TS.go HK1.out aj (fun hS=>?_);clear HK1 K1
    (try simp only [nS])
    refine TS.wkB 7 hS ?_;refine TS.wkB 8 hS ?_;refine TS.wkB 9 hS ?_;refine TS.one (i:=10) zq rfl (fun K1 hK1=>?_);have HK1:=zh hK1;clear hK1 hS;dsimp only [getElem_toArray,getElem_cons_succ,getElem_cons_zero]
    go_simp
    refine TS.go HK1.out aj (fun hS=>?_);clear HK1 K1
    (try simp only [nS])
   rotate_left
   focus
    have HK1:=zh hK1;clear hK1 hS;dsimp only [getElem_toArray,getElem_cons_succ,getElem_cons_zero]
    go_simp
    refine TS.go HK1.out aj (fun hS=>?_);clear HK1 K1
    (try simp only [nS])
    refine TS.one (i:=6) zq rfl (fun K1 hK1=>?_);have HK1:=zh hK1;clear hK1 hS;dsimp only [getElem_toArray,getElem_cons_succ,getElem_cons_zero]
    go_simp
    go_at_call 70
    refine(H0.out _ aj _ _ (HP0.out.grows aj)).mono ?_;rintro e' wA ⟨rfl,bA,dA,rfl⟩;refine TS.go HK1.out aj (fun hS=>?_);clear HK1 K1
    (try simp only [nS])
    refine TS.wkB 7 hS ?_;refine TS.wkB 8 hS ?_;refine TS.wkB 9 hS ?_
   rotate_left
   all_goals
    refine TS.one (i:=11) zq rfl (fun K1 hK1=>?_);have HK1:=zh hK1;clear hK1 hS;dsimp only [getElem_toArray,getElem_cons_succ,getElem_cons_zero]
    go_simp
    refine TS.go HK1.out aj (fun hS=>?_);clear HK1 K1
    (try simp only [nS])
    refine TS.weB 12 ?_;clear hS
    go_wp2_with fail
    refine TS.begin [9,10] (World.Grows _) zf zf aO (fun hS=>?_);refine TS.wkB 0 hS ?_;refine TS.wkB 1 hS ?_;refine TS.wkB 2 hS ?_;refine TS.wkB 3 hS ?_;refine TS.wkB 4 hS ?_;refine TS.wkB 5 hS ?_;refine TS.one (i:=6) zq rfl (fun K1 hK1=>?_);have HK1:=zh hK1;clear hK1 hS;dsimp only [getElem_toArray,getElem_cons_succ,getElem_cons_zero]
    go_simp
    go_at_call 70
    refine(H2.out _ aj _ _ (HP2.out.grows aj)).mono ?_;rintro e' wA ⟨rfl,bA,dA,rfl⟩;refine TS.go HK1.out aj (fun hS=>?_);clear HK1 K1
    (try simp only [nS])
    refine TS.wkB 7 hS ?_;refine TS.wkB 8 hS ?_;refine TS.wtB 9 ?_;refine TS.weB 10 ?_;clear hS
    go_wp2_with fail
    go_returns
    exact⟨by rw [HV.out],aj⟩
 ·have hzz:=hz hc;simp only [Val.zero,Val.mk.injEq]at hzz;obtain⟨rfl,rfl,rfl,rfl⟩:=hzz;have HV:Hid (ai v env e=(.zero,c0)):=zh (by rw [HV0.out,if_pos hc]);have hq1:(c0 !=0)=true:=by simpa using hc
  clear hc hz HV0
  go_enter func70,ntmps70
  go_wp2_with fail
  refine TS.begin [12] (World.Grows _) zf zf aO (fun hS=>?_);refine TS.wkB 0 hS ?_;refine TS.wkB 1 hS ?_;refine TS.wkB 2 hS ?_;refine TS.wkB 3 hS ?_;refine TS.wkB 4 hS ?_;refine TS.wkB 5 hS ?_;refine TS.two (i:=6) (k:=10) zq rfl rfl (fun K1 hK1=>?_) (fun K1 hK1=>?_)
  focus
   have HK1:=zh hK1;clear hK1 hS;dsimp only [getElem_toArray,getElem_cons_succ,getElem_cons_zero]
   go_simp
   go_at_call 70
   refine(H0.out _ aj _ _ (HP0.out.grows aj)).mono ?_;rintro e' wA ⟨rfl,bA,dA,rfl⟩;refine TS.go HK1.out aj (fun hS=>?_);clear HK1 K1
   (try simp only [nS])
   refine TS.wkB 7 hS ?_;refine TS.wkB 8 hS ?_;refine TS.wkB 9 hS ?_;refine TS.one (i:=10) zq rfl (fun K1 hK1=>?_);have HK1:=zh hK1;clear hK1 hS;dsimp only [getElem_toArray,getElem_cons_succ,getElem_cons_zero]
   go_simp
   refine TS.go HK1.out aj (fun hS=>?_);clear HK1 K1
   (try simp only [nS])
  rotate_left
  focus
   have HK1:=zh hK1;clear hK1 hS;dsimp only [getElem_toArray,getElem_cons_succ,getElem_cons_zero]
   go_simp
   refine TS.go HK1.out aj (fun hS=>?_);clear HK1 K1
   (try simp only [nS])
   refine TS.one (i:=6) zq rfl (fun K1 hK1=>?_);have HK1:=zh hK1;clear hK1 hS;dsimp only [getElem_toArray,getElem_cons_succ,getElem_cons_zero]
   go_simp
   go_at_call 70
   refine(H0.out _ aj _ _ (HP0.out.grows aj)).mono ?_;rintro e' wA ⟨rfl,bA,dA,rfl⟩;refine TS.go HK1.out aj (fun hS=>?_);clear HK1 K1
   (try simp only [nS])
   refine TS.wkB 7 hS ?_;refine TS.wkB 8 hS ?_;refine TS.wkB 9 hS ?_
  rotate_left
  all_goals
   refine TS.one (i:=11) zq rfl (fun K1 hK1=>?_);have HK1:=zh hK1;clear hK1 hS;dsimp only [getElem_toArray,getElem_cons_succ,getElem_cons_zero]
   go_simp
   refine TS.go HK1.out aj (fun hS=>?_);clear HK1 K1
   (try simp only [nS])
   refine TS.weB 12 ?_;clear hS
   go_wp2_with fail
   (go_returns;exact⟨by rw [HV.out];rfl,aj⟩)
theorem P5{S:Nat->Prop}{v:Vw}{y se:Value}{env:List (ByteArray × Val)}{x:Ex}{w:World}(h:∀(a:Option Addr) (cap:Nat) (w':World),w.Grows w'->aC S w' x (.slice a x.args.length cap)->Calls prog 70 #[exV x (.slice a x.args.length cap),vwV v y,se] w' (ApP (ai v env x) w')):Hid (uN S v y se x (ai v env x) w):=
 zh fun w' hg a c hr=>h a c w' hg hr
theorem yR(S:Nat->Prop)(v:Vw)(hv:v.ok=true)(hrg:dW v)(y se:Value)(env:List (ByteArray × Val))(hE:∀p∈env,p.2.ok=true)(n:Nat):∀e:Ex,e.size<=n->aL e=true->(aD (aQ env) e).2=0->∀(a:Option Addr) (cap:Nat) (w:World),aC S w e (.slice a e.args.length cap)->bJ w y v.years->bi w se env->
 (Calls prog 70 #[exV e (.slice a e.args.length cap),vwV v y,se] w (ApP (ai v env e) w)):=by
 induction n with
 |zero=>intro e he;have:=e.size_pos;omega
 |succ n ih=>
  intro e he hf hi a cap w h hy hs;by_cases h1:e.op=1
  ·exact OL v y se env e a cap w hy hs h1
  by_cases h3:e.op=3
  ·exact LC v y se env e a cap w hy hs h3
  by_cases h2:e.op=2
  ·cases hx:dh v e.name with
   |some x=>exact I5 v y se env e a cap w hrg hy hs h2 x hx
   |none=>
    have hn:(eF (aQ env) e.name).2=0:=by
     rw [iI]at hi;unfold fA at hi;rw [if_neg h1,if_neg h3,if_pos h2]at hi;exact hi
    have hnm:=tL hv hE hn;unfold jS at hnm;rw [hx]at hnm;dsimp only at hnm
    cases hl:dO env e.name with
    |some x=>exact OM v y se env e a cap w hrg hy hs h2 x hx hl
    |none=>rw [hl]at hnm;simp at hnm
  obtain⟨ds,hds,hal,ho4,ho21,hres,hop⟩:=yY hv hE hf hi h1 h2 h3
  have IH:∀k,k<e.args.length->Hid (uN S v y se (e.arg k) (ai v env (e.arg k)) w):=fun k hk=>P5 fun a' c' w' hg hr=>
   ih (e.arg k) (by have:=e.size_arg k hk;omega) (hop k hk).1 (hop k hk).2.1 a' c' w' hr (hy.grows hg) (hs.grows hg)
  by_cases h17:e.op=17\/e.op=18
  ·have hlen:e.args.length=2:=by
    unfold aX at hal;rw [if_neg ze,if_neg ze,if_pos ze]at hal;omega
   exact IZ S v y se env e a cap w h hy hs h17 hlen _ _ rfl rfl (fun hz=>((hop 0 ze).2.2.bad hz).1) (IH 0 ze) (IH 1 ze)
  by_cases h21:e.op=21
  ·have hlen:e.args.length=3:=by
    unfold aX at hal;rw [if_neg ze,if_neg ze,if_neg ze,if_pos ze]at hal;omega
   exact P6 S v y se env e a cap w h hy hs h21 hlen _ _ _ rfl rfl rfl (fun hz=>((hop 0 ze).2.2.bad hz).1) (IH 0 ze) (IH 1 ze) (IH 2 ze)
  exact PZ S v y se env e a cap w h hy hs ho4 ze ze ze ds hds hal hres (fun k hk=>(hop k hk).2.2) (zh fun k hk=>(IH k hk).out)
theorem DV(v:Vw)(y se:Value)(env:List (ByteArray × Val))(e:Ex)(a:Option Addr)(cap:Nat)(w:World)(hy:bJ w y v.years)(hr:dW v)(hs:bi w se env)(hv:v.ok=false) :
 Calls prog 30 #[exV e (.slice a e.args.length cap),vwV v y,se] w (vE (dP v env e) w):=by
 have HF:Hid (dP v env e=(.zero,1)):=zh (by unfold dP;rw [if_pos (.inl hv)]);rw [HF.out];have HY:=zh hy;have HV:=zh (fun w' (hg:w.Grows w')=>eZ v y w' hr (HY.out.grows hg));rw [hv]at HV
 obtain⟨ya,yc,rfl⟩:∃a c,y= .slice a v.years.length c:=by
  exact xN
 obtain⟨sa,sc,rfl⟩:∃a c,se= .slice a env.length c:=by
  exact xM
 unfold vwV exV;unfold vwV at HV;clear hy hr hs hv HF
 go_enter func30,ntmps30
 go_wp2_with (go_at_call 21;refine(HV.out _ aj).mono ?_;rintro e' w' ⟨rfl,bs,d,rfl⟩)
 go_returns
 exact xR rfl aj
theorem Kl(S:Nat->Prop)(v:Vw)(y se:Value)(env:List (ByteArray × Val))(e:Ex)(a:Option Addr)(cap:Nat)(w:World)(h:aC S w e (.slice a e.args.length cap))(hbig:e.size<=2305843009213693952)(hy:bJ w y v.years)(hr:dW v)(hs:bi w se env)(hS:∀p∈env,vC p.2)(hv:v.ok=true) :
 Calls prog 30 #[exV e (.slice a e.args.length cap),vwV v y,se] w (vE (dP v env e) w):=by
 obtain⟨i0,hi,hz0,hz1,hz2⟩:=info_parts EI;have HR:=zh h;have HY:=zh hy;have HS:=zh hs;have HSR:=zh hS;have HV:=zh (fun w' (hg:w.Grows w')=>eZ v y w' hr (HY.out.grows hg));rw [hv]at HV;have HBAD:Hid (∀k,k<env.length->(stV env k).ok=false->dP v env e=(.zero,1)):=zh (fun k hk hb=>by unfold dP;rw [if_pos (.inr (.inl (ER hk hb)))])
 have HINF:Hid (∀w' vb,w.Grows w'->aU w' vb (aQ env)->Calls prog 69 #[exV e (.slice a e.args.length cap),vb] w' (jh (aT (aQ env) e) w')):=
  zh (fun w' vb hg hb=>oq S (aQ env) e _ vb w' (HR.out.grows hg) hbig hb)
 have HGOOD:=zh (fun hE=>wR (v:=v) (env:=env) (e:=e) hv hE)
 have HEV:Hid ((∀p∈env,p.2.ok=true)->(aT (aQ env) e).2=0->(∀w',w.Grows w'->Calls prog 70 #[exV e (.slice a e.args.length cap),vwV v y,se] w' (ApP (ai v env e) w'))/\((ai v env e).2≠0->(ai v env e).1= .zero)):=
  zh (fun hE hi=>by
   have hvb:cK e=true:=by
    unfold aT at hi
    split at hi<;>rename_i hc
    ·exact hc.1
    ·simp at hi
   have hi2:(aD (aQ env) e).2=0:=by rwa [lg hvb (xS hE)]at hi
   exact⟨fun w' hg=>yR S v hv hr y se env hE e.size e (Nat.le_refl _) (gT hvb) hi2 a cap w' (HR.out.grows hg) (HY.out.grows hg) (HS.out.grows hg),fun hz=>((lU hv hE e (gT hvb) hi2).bad hz).1⟩)
 have h1000:=hs.1
 obtain⟨ya,yc,rfl⟩:∃a c,y= .slice a v.years.length c:=by
  exact xN
 obtain⟨sa,sc,rfl⟩:∃a c,se= .slice a env.length c:=by
  exact xM
 unfold vwV exV;clear h hy hr hs hS hv hbig;unfold vwV at HV;unfold ApP exV vwV at HEV;unfold jh exV at HINF
 go_enter func30,ntmps30
 go_wp2_with (go_at_call 21;refine(HV.out _ aj).mono ?_;rintro e' w' ⟨rfl,bs,d,rfl⟩)
 go_loopw [8,9] (fun v8 v9 wr=>∃(k:Nat) (vb:Value),vb=v8/\k<=env.length/\v9= .int .i64 k/\Hid (∀j,j<k->(stV env j).ok=true)/\Below (w.heap.size+1+1+1) ((((w.alloc (.cells #[.int .i64 e.op,.int .i64 e.num,.int .i64 e.den,.int .i64 e.dim,.string e.name,.slice a e.args.length cap] 51)).alloc (.cells #[.int .i64 v.age,.int .i64 v.year,.int .i64 v.children,.int .i64 v.insured,.int .i64 v.worked,.int .i64 v.voluntary,.int .i64 v.service,.int .i64 v.equated,.int .i64 v.raising,.int .i64 v.resident,.int .i64 v.bn,.int .i64 v.bd,.slice ya v.years.length yc] 26)).alloc (.cells #[.int .i64 0,.bool false,.int .i64 0,.int .i64 0] 34))) wr/\wr.ownsRow (w.heap.size+1+1+1) 64 2 vb k (nH (aQ (env.take k)))) (fun _ v9 _=>env.length-(intOf v9).toNat)
 case atStart=>exact⟨0,_,rfl,by omega,rfl,zh (fun j hj=>by omega),by(exact af),World.ownsRow_nil _ _ _ _⟩
 case round=>
  obtain⟨k,vb,rfl,hk,rfl,hno,hB,hown⟩:=hrel;have HO:=zh hown;obtain⟨bs0,d0,rfl⟩:World.Grows ((((w.alloc (.cells #[.int .i64 e.op,.int .i64 e.num,.int .i64 e.den,.int .i64 e.dim,.string e.name,.slice a e.args.length cap] 51)).alloc (.cells #[.int .i64 v.age,.int .i64 v.year,.int .i64 v.children,.int .i64 v.insured,.int .i64 v.worked,.int .i64 v.voluntary,.int .i64 v.service,.int .i64 v.equated,.int .i64 v.raising,.int .i64 v.resident,.int .i64 v.bn,.int .i64 v.bd,.slice ya v.years.length yc] 26)).alloc (.cells #[.int .i64 0,.bool false,.int .i64 0,.int .i64 0] 34))) wr:=.of_below (by simpa using hB);clear hB;by_cases hlt:k<env.length
  ·clear hown;obtain⟨-,sa',sc',hv2,hcs⟩:=HS.out;simp only [Value.slice.injEq,true_and]at hv2;obtain⟨rfl,rfl⟩:=hv2;rcases hcs with h0|⟨b,off,rfl,hbw,hx⟩
   ·omega
   obtain⟨s0,s1,s2,s3,s4⟩:=hx k hlt
   have HVV:Hid (∀w,Calls prog 31 #[dM (stV env k)] w fun r w'=>r= .returned (.bool (stV env k).ok)/\w.Grows w'):=zh (fun w=>by
    obtain⟨p,hp,he⟩:=Ep hlt
    exact rR _ w (by rw [he];exact HSR.out p hp))
   have HBD:=zh (HBAD.out k hlt);have HNX:=zh (wT env k hlt);have HKL:=zh hlt;have d1:(k:Int)<(env.length:Int):=by omega
   unfold dM at HVV
   have HKK:Hid ((stV env k).ok=true->∀j,j<k+1->(stV env j).ok=true):=zh (fun h j hj=>by
    by_cases ej:j=k
    ·subst ej;exact h
    ·exact hno.out j ze)
   generalize stN env k=nk at *;generalize stV env k=xk at *;obtain⟨xm,xy,xn,xd⟩:=xk;dsimp only at s1 s2 s3 s4 HVV HNX
   cases hq:(Val.mk xm xy xn xd).ok with
   |true=>
    rw [hq]at HVV;have HQ:=zh (HKK.out hq);clear hx hlt hq HKK HBD
    go_wp2_with (go_at_call 31;refine(HVV.out _).mono ?_;rintro e' w' ⟨rfl,bs2,d2,rfl⟩)
    refine TS.begin [14,15] (World.Grows _) zf zf aO (fun hS=>?_);refine TS.wkB 0 hS ?_;refine TS.wkB 1 hS ?_;refine TS.wkB 2 hS ?_;refine TS.wkB 3 hS ?_;refine TS.wkB 4 hS ?_;refine TS.wkB 5 hS ?_;refine TS.wkB 6 hS ?_;refine TS.wkB 7 hS ?_;refine TS.wkB 8 hS ?_;refine TS.wkB 9 hS ?_;refine TS.wkB 10 hS ?_;refine TS.wkB 11 hS ?_;refine TS.wkB 12 hS ?_;refine TS.one (i:=13) zq rfl (fun K1 hK1=>?_);have HK1:=zh hK1;clear hK1 hS;dsimp only [getElem_toArray,getElem_cons_succ,getElem_cons_zero]
    go_simp
    refine TS.go HK1.out aj (fun hS=>?_);clear HK1 K1
    (try simp only [nS])
    refine TS.one (i:=14) zq rfl (fun K1 hK1=>?_);refine aG rfl _ _ 54 rfl (w.heap.size+1+1+1) 64 i0 _ 2 24 underlying54 hi hz0 hz1 hz2 rfl zo vb k _ rfl (bQ HO.out aj) ⟨w.heap.size+1+1+1+(bs0.size+bs2.size),0,none⟩ 1 1 [.string nk,.int .i64 xm] rfl rfl (aR _ [.string nk,.int .i64 xm] _ _ zg) (by intro u hu;simp at hu;rcases hu with rfl|rfl<;>rfl) zE ze zD ?_;intro v2 w2 hown2 hgrow2;have hB2:Below (w.heap.size+1+1+1) ((((w.alloc (.cells #[.int .i64 e.op,.int .i64 e.num,.int .i64 e.den,.int .i64 e.dim,.string e.name,.slice a e.args.length cap] 51)).alloc (.cells #[.int .i64 v.age,.int .i64 v.year,.int .i64 v.children,.int .i64 v.insured,.int .i64 v.worked,.int .i64 v.voluntary,.int .i64 v.service,.int .i64 v.equated,.int .i64 v.raising,.int .i64 v.resident,.int .i64 v.bn,.int .i64 v.bd,.slice ya v.years.length yc] 26)).alloc (.cells #[.int .i64 0,.bool false,.int .i64 0,.int .i64 0] 34))) w2:=Below.grown (show Below (w.heap.size+1+1+1) ((((w.alloc (.cells #[.int .i64 e.op,.int .i64 e.num,.int .i64 e.den,.int .i64 e.dim,.string e.name,.slice a e.args.length cap] 51)).alloc (.cells #[.int .i64 v.age,.int .i64 v.year,.int .i64 v.children,.int .i64 v.insured,.int .i64 v.worked,.int .i64 v.voluntary,.int .i64 v.service,.int .i64 v.equated,.int .i64 v.raising,.int .i64 v.resident,.int .i64 v.bn,.int .i64 v.bd,.slice ya v.years.length yc] 26)).alloc (.cells #[.int .i64 0,.bool false,.int .i64 0,.int .i64 0] 34))) _ from by(exact af)) hgrow2 zD (fun k hk=>(HO.out.lt k hk).1);have HB2:=zh hB2;have HO2:=zh hown2;refine hK1 _ _ (fun h=>absurd zo h) ?_;clear hK1 K1 hown2 hgrow2 hB2
    (try simp only [nS])
    refine TS.weB 15 ?_;clear hS
    go_wp2_with fail
    go_roundw
    case rel=>exact⟨k+1,_,rfl,HKL.out,by go_num,HQ,HB2.out,by rw [HNX.out,lh];exact HO2.out⟩
    case measure=>simp [intOf];have:=HKL.out;omega
   |false=>
    rw [hq]at HVV;have HF:=zh (HBD.out hq);clear hx hlt hq HKK HBD;rw [HF.out]
    go_wp2_with (go_at_call 31;refine(HVV.out _).mono ?_;rintro e' w' ⟨rfl,bs2,d2,rfl⟩)
    go_returns
    exact xR rfl aj
  ·obtain rfl:k=env.length:=by omega
   have hE:=BB hno.out;have hgd:=HGOOD.out hE;have HEV2:=zh (HEV.out hE)
   have hbd:aU (((((w.alloc (.cells #[.int .i64 e.op,.int .i64 e.num,.int .i64 e.den,.int .i64 e.dim,.string e.name,.slice a e.args.length cap] 51)).alloc (.cells #[.int .i64 v.age,.int .i64 v.year,.int .i64 v.children,.int .i64 v.insured,.int .i64 v.worked,.int .i64 v.voluntary,.int .i64 v.service,.int .i64 v.equated,.int .i64 v.raising,.int .i64 v.resident,.int .i64 v.bn,.int .i64 v.bd,.slice ya v.years.length yc] 26)).alloc (.cells #[.int .i64 0,.bool false,.int .i64 0,.int .i64 0] 34))).grow bs0 d0) vb (aQ env):=by
    have h1:=HO.out;rw [take_length]at h1;have hl:(aQ env).length=env.length:=by unfold aQ;simp
    exact aU.of_own (by rw [hl];exact h1) (by rw [hl];exact h1000)
   have HBND:=zh hbd;obtain⟨-,va,vc,rfl,-⟩:=hbd;have HGD:=zh hgd;clear hgd hown hno;generalize aT (aQ env) e=q at *;generalize ai v env e=r at *;obtain⟨qm,qc⟩:=q;obtain⟨⟨rm,ry,rn,rd⟩,rc⟩:=r;dsimp only at HINF HEV2 HGD;by_cases hqc:qc=0
   ·subst hqc;obtain⟨hev,hz⟩:=HEV2.out rfl;have HEV3:=zh hev
    have HF:Hid (dP v env e=(⟨rm,ry,rn,rd⟩,rc)):=zh (by
     rw [HGD.out,if_neg zg];by_cases hrc:rc≠0
     ·rw [if_pos hrc,hz hrc]
     ·rw [if_neg hrc])
    clear hev hz
    go_wp2_with (first
     |(go_at_call 69;refine(HINF.out _ _ aj (HBND.out.grows aj)).mono ?_;rintro e' w' ⟨rfl,bs4,d4,rfl⟩)
     |(go_at_call 70;refine(HEV3.out _ aj).mono ?_;rintro e' w' ⟨rfl,bs5,d5,rfl⟩))
    go_returns
    exact xR HF.out aj
   ·have hq1:(qc !=0)=true:=by simpa using hqc
    have HF:Hid (dP v env e=(.zero,qc)):=zh (by rw [HGD.out];simp [hqc]);clear hqc HEV2
    go_wp2_with (go_at_call 69;refine(HINF.out _ _ aj (HBND.out.grows aj)).mono ?_;rintro e' w' ⟨rfl,bs4,d4,rfl⟩)
    go_returns
    exact xR HF.out aj
theorem xe(S:Nat->Prop)(v:Vw)(y se:Value)(env:List (ByteArray × Val))(e:Ex)(a:Option Addr)(cap:Nat)(w:World)(h:aC S w e (.slice a e.args.length cap))(hbig:e.size<=2305843009213693952)(hy:bJ w y v.years)(hr:dW v)(hs:bi w se env)(hS:∀p∈env,vC p.2) :
 Calls prog 30 #[exV e (.slice a e.args.length cap),vwV v y,se] w (vE (dP v env e) w):=by
 cases hv:v.ok with
 |false=>exact DV v y se env e a cap w hy hr hs hv
 |true=>exact Kl S v y se env e a cap w h hbig hy hr hs hS hv
end Go.Proofs.YtlheailebbngiaaGreatDoor
