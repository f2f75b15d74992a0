import Derived.Test.YtlheailebbngiaaGreatDoorRLawK
import Derived.Test.YtlheailebbngiaaGreatDoorRBst8
set_option linter.all false
set_option maxHeartbeats 16000000
set_option maxRecDepth 1000000
namespace Go.Proofs.YtlheailebbngiaaGreatDoor
open Go.Proofs.Tryz List
open Go.RowKit
theorem uH(v:Vw)(y:Value)(s:ByteArray)(w:World)(hr:dN v)(hy:bK w y v.years):Calls prog 18 #[vwV v y,.string s] w fun r w'=>r= .returned (inV (dF v s))/\w.Grows w':=by
 by_cases h:bV s.toList=0\/v.ok=false
 ·exact Bo v y s w hr hy h
 ·have h1:bV s.toList≠0:=fun e=>h (.inl e)
  have h2:v.ok=true:=by cases hv:v.ok with
   |true=>rfl
   |false=>exact absurd (.inr hv) h
  by_cases hb:s.toList= [98,97,115,101]
  ·exact Bp v y s w hr hy h1 h2 hb
  ·exact D5 v y s w hr hy h1 h2 hb
theorem Ec(Y:World)(bs:Array Obj)(d:Nat)(o:Obj):(Y.grow bs d).alloc o=Y.grow (bs.push o) d:=by
 simp [World.grow,World.alloc]
theorem Pj(v:Vw)(y se:Value)(env:List (ByteArray × Val))(e:Ex)(a:Option Addr)(cap:Nat)(w:World)(hy:bK w y v.years)(hs:aV w se env)(h1:e.op=1):(Calls prog 70 #[exV e (.slice a e.args.length cap),vwV v y,se] w (ApP (ai v env e) w)):=by
 have HV:Hid (ai v env e=(.num e.dim e.num e.den,0)):=zh (by rw [dR];unfold eG;rw [if_pos h1]);rw [HV.out]
 obtain⟨ya,yc,rfl⟩:∃a c,y= .slice a v.years.length c:=by
  exact xQ
 obtain⟨sa,sc,rfl⟩:∃a c,se= .slice a env.length c:=by
  exact xP
 unfold vwV exV;clear HV hy hs
 go_enter func70,ntmps70
 go_wp2_with fail
 go_returns
 exact⟨rfl,aj⟩
theorem Md(v:Vw)(y se:Value)(env:List (ByteArray × Val))(e:Ex)(a:Option Addr)(cap:Nat)(w:World)(hy:bK w y v.years)(hs:aV w se env)(h1:e.op=3):(Calls prog 70 #[exV e (.slice a e.args.length cap),vwV v y,se] w (ApP (ai v env e) w)):=by
 have HV:Hid (ai v env e=eQ 4 (gU v.years e.num)):=zh yK;rw [HV.out];have HY:=zh hy;have HB:=zh (fun w' (hg:w.Grows w')=>Jj v.years e.num y w' (HY.out.grows hg))
 obtain⟨ya,yc,rfl⟩:∃a c,y= .slice a v.years.length c:=by
  exact xQ
 obtain⟨sa,sc,rfl⟩:∃a c,se= .slice a env.length c:=by
  exact xP
 unfold vwV exV;unfold frV at HB;generalize gU v.years e.num=q at *;obtain⟨qn,qd,qc⟩:=q;dsimp only at HB;clear HV hy hs;by_cases hq:qc=0
 ·subst hq;unfold eQ;rw [if_pos rfl];exact QP
 ·unfold eQ;rw [if_neg hq];have hq1:(qc !=0)=true:=by simpa using hq
  clear hq;exact QP
theorem Jv(v:Vw)(y se:Value)(env:List (ByteArray × Val))(e:Ex)(a:Option Addr)(cap:Nat)(w:World)(hr:dN v)(hy:bK w y v.years)(hs:aV w se env)(h1:e.op=2)(x:Val)(hx:dF v e.name=some x):(Calls prog 70 #[exV e (.slice a e.args.length cap),vwV v y,se] w (ApP (ai v env e) w)):=by
 have HV:Hid (ai v env e=(x,0)):=zh (by rw [dR];unfold eG;rw [if_neg ze,if_pos h1];unfold jY;rw [hx]);rw [HV.out];have HY:=zh hy;have HI:=zh (fun w' (hg:w.Grows w')=>uH v y e.name w' hr (HY.out.grows hg));rw [hx]at HI;unfold inV dM at HI;obtain⟨xm,xy,xn,xd⟩:=x;dsimp only at HI
 obtain⟨ya,yc,rfl⟩:∃a c,y= .slice a v.years.length c:=by
  exact xQ
 obtain⟨sa,sc,rfl⟩:∃a c,se= .slice a env.length c:=by
  exact xP
 unfold vwV exV;unfold vwV at HI;clear HV hy hs hx hr
 go_enter func70,ntmps70
 go_wp2_with (go_at_call 18;refine(HI.out _ aj).mono ?_;rintro e' w' ⟨rfl,bs,d,rfl⟩)
 go_returns
 exact⟨rfl,aj⟩
theorem Pk(v:Vw)(y se:Value)(env:List (ByteArray × Val))(e:Ex)(a:Option Addr)(cap:Nat)(w:World)(hr:dN v)(hy:bK w y v.years)(hs:aV w se env)(h1:e.op=2)(x:Val)(hx:dF v e.name=none)(hl:dP env e.name=some x):(Calls prog 70 #[exV e (.slice a e.args.length cap),vwV v y,se] w (ApP (ai v env e) w)):=by
 have HV:Hid (ai v env e=(x,0)):=zh (by rw [dR];unfold eG;rw [if_neg ze,if_pos h1];unfold jY;rw [hx];dsimp only;rw [hl]);rw [HV.out];have HY:=zh hy;have HL:=zh hl;have HI:=zh (fun w' (hg:w.Grows w')=>uH v y e.name w' hr (HY.out.grows hg));rw [hx]at HI;unfold inV dM Val.zero at HI;dsimp only at HI
 obtain⟨ya,yc,rfl⟩:∃a c,y= .slice a v.years.length c:=by
  exact xQ
 obtain⟨sa,sc,rfl⟩:∃a c,se= .slice a env.length c:=by
  exact xP
 unfold vwV exV;have HS:=zh hs;have hlen:env.length<=1000:=by obtain⟨h,-⟩:=hs;exact h
 unfold vwV at HI;clear HV hy hs hx hr hl
 go_enter func70,ntmps70
 go_wp2_with (go_at_call 18;refine(HI.out _ aj).mono ?_;rintro e' w' ⟨rfl,bs,d,rfl⟩)
 go_loopw [12] (fun v12 wr=>∃(k:Nat) (bs:Array Obj) (d:Nat),k<=env.length/\v12= .int .i64 ((env.length:Int)-1-k)/\Hid (∀j,env.length-k<=j->j<env.length->stN env j≠e.name)/\wr=(((w.alloc (.cells #[.int .i64 2,.int .i64 e.num,.int .i64 e.den,.int .i64 e.dim,.string e.name,.slice a e.args.length cap] 51)).alloc (.cells #[.int .i64 v.age,.int .i64 v.year,.int .i64 v.children,.int .i64 v.insured,.int .i64 v.worked,.int .i64 v.voluntary,.int .i64 v.service,.int .i64 v.equated,.int .i64 v.raising,.int .i64 v.resident,.int .i64 v.bn,.int .i64 v.bd,.slice ya v.years.length yc] 26)).alloc (.cells #[.int .i64 0,.bool false,.int .i64 0,.int .i64 0] 34)).grow bs d) (fun v12 _=>(intOf v12+1).toNat)
 case atStart=>
  exact⟨0,_,_,by omega,by simp,zh (fun j h1 h2=>by omega),Ec _ _ _ _⟩
 case round=>
  obtain⟨k,bs1,d1,hk,rfl,hno,rfl⟩:=hrel;by_cases hlt:k<env.length
  ·obtain⟨i,hii⟩:∃i:Nat,(env.length:Int)-1-k=i:=⟨env.length-1-k,by omega⟩;obtain⟨-,sa',sc',hv2,hcs⟩:=HS.out;simp only [Value.slice.injEq,true_and]at hv2;obtain⟨rfl,rfl⟩:=hv2;rcases hcs with h0|⟨b,off,rfl,hbw,hx⟩
   ·omega
   have hi:i<env.length:=by omega
   obtain⟨s0,s1,s2,s3,s4⟩:=hx i hi
   have HLS:Hid (stN env i=e.name->x=stV env i):=zh (fun h=>by
    have h2:=jG env e.name i (ByteArray.empty,Val.zero) hi h (fun j hj1 hj2=>hno.out j ze hj2);rw [HL.out]at h2
    exact Option.some.inj h2)
   have HNX:Hid (stN env i≠e.name->∀j,env.length-(k+1)<=j->j<env.length->stN env j≠e.name):=zh (fun h j hj1 hj2=>by
    by_cases ej:j=i
    ·subst ej;exact h
    ·exact hno.out j ze hj2)
   have HII:=zh (show(env.length:Int)-1-((k+1:Nat):Int)=(i:Int)-1 by omega);have HKL:=zh hlt;rw [hii];have d2:(i:Int)<(env.length:Int):=by omega
   clear hx hii hlt hno;by_cases heq:stN env i=e.name
   ·have hx1:=HLS.out heq;have nm:((stN env i).toList==e.name.toList)=true:=by rw [heq];simp
    clear HLS HNX heq HL;subst hx1;generalize stN env i=nk at *;generalize stV env i=xk at *;obtain⟨xm,xy,xn,xd⟩:=xk;dsimp only at s1 s2 s3 s4
    go_wp2_with fail
    refine TS.begin [] (World.Grows _) zf zf aL (fun hS=>?_);refine TS.wkB 0 hS ?_;refine TS.wkB 1 hS ?_;refine TS.wkB 2 hS ?_;refine TS.wkB 3 hS ?_;refine TS.wkB 4 hS ?_;refine TS.wkB 5 hS ?_;refine TS.wkB 6 hS ?_;refine TS.wkB 7 hS ?_;refine TS.done zf ?_;clear hS
    (try simp only [nS])
    go_wp2_with fail
    go_returns
    exact⟨rfl,aj⟩
   ·have hno2:=zh (HNX.out heq)
    have nm:((stN env i).toList==e.name.toList)=false:=by
     cases hq:((stN env i).toList==e.name.toList)with
     |false=>rfl
     |true=>exact absurd (toList_inj (by simpa using hq)) heq
    clear HLS HNX heq HL s1 s2 s3 s4;generalize stN env i=nk at *
    go_wp2_with fail
    refine TS.begin [] (World.Grows _) zf zf aL (fun hS=>?_);refine TS.wkB 0 hS ?_;refine TS.wkB 1 hS ?_;refine TS.wkB 2 hS ?_;refine TS.wkB 3 hS ?_;refine TS.wkB 4 hS ?_;refine TS.wkB 5 hS ?_;refine TS.wkB 6 hS ?_;refine TS.wkB 7 hS ?_;refine TS.done zf ?_;clear hS
    (try simp only [nS])
    go_wp2_with fail
    go_roundw
    case rel=>exact⟨k+1,_,_,HKL.out,by rw [HII.out],hno2,rfl⟩
    case measure=>simp [intOf]
  ·exfalso;obtain rfl:k=env.length:=by omega
   have:=jH env e.name (ByteArray.empty,Val.zero) (fun j hj=>hno.out j ze hj);rw [HL.out]at this;cases this
def vw(S:Nat->Prop)(v:Vw)(y se:Value)(x:Ex)(r:Val × Int)(w:World):Prop:=∀w',w.Grows w'->∀a c,aC S w' x (.slice a x.args.length c)->
 Calls prog 70 #[.agg #[.int .i64 x.op,.int .i64 x.num,.int .i64 x.den,.int .i64 x.dim,.string x.name,.slice a x.args.length c],vwV v y,se] w' fun e w''=>e= .returned (.tuple #[.agg #[.int .i64 r.1.dim,.bool r.1.yes,.int .i64 r.1.n,.int .i64 r.1.d],.int .i64 r.2])/\w'.Grows w''
theorem qQ{S:Nat->Prop}{w:World}{e:Ex}{a:Option Addr}{cap:Nat}(h:aC S w e (.slice a e.args.length cap)){b off:Nat}(ha:a=some ⟨b,off,none⟩)(k:Nat)(hk:k<e.args.length):∃ak ck,aC S w (e.arg k) (.slice ak (e.arg k).args.length ck)/\
 w.cell? ⟨b,off+k*6,none⟩=some (.int .i64 (e.arg k).op)/\w.cell? ⟨b,off+(k*6+1),none⟩=some (.int .i64 (e.arg k).num)/\w.cell? ⟨b,off+(k*6+2),none⟩=some (.int .i64 (e.arg k).den)/\w.cell? ⟨b,off+(k*6+3),none⟩=some (.int .i64 (e.arg k).dim)/\w.cell? ⟨b,off+(k*6+4),none⟩=some (.string (e.arg k).name)/\w.cell? ⟨b,off+(k*6+5),none⟩=some (.slice ak (e.arg k).args.length ck):=by
 obtain⟨b',off',ha',-,hx⟩:=h.arg_cells ze;rw [ha]at ha';simp only [Option.some.injEq,Addr.mk.injEq,and_true]at ha';obtain⟨rfl,rfl⟩:=ha';obtain⟨ak,ck,⟨x0,x1,x2,x3,x4,x5⟩,hr⟩:=hx k hk;exact⟨ak,ck,hr,x0,x1,x2,x3,x4,x5⟩
theorem Ju(S:Nat->Prop)(v:Vw)(y se:Value)(env:List (ByteArray × Val))(e:Ex)(a:Option Addr)(cap:Nat)(w:World)(h:aC S w e (.slice a e.args.length cap))(hy:bK w y v.years)(hs:aV w se env)(hop:e.op=17\/e.op=18)(hlen:e.args.length=2)
 (r0 r1:Val × Int) (hr0:ai v env (e.arg 0)=r0) (hr1:ai v env (e.arg 1)=r1) (hz:r0.2≠0->r0.1= .zero) (H0:Hid (vw S v y se (e.arg 0) r0 w)) (H1:Hid (vw S v y se (e.arg 1) r1 w)):(Calls prog 70 #[exV e (.slice a e.args.length cap),vwV v y,se] w (ApP (ai v env e) w)):=by
 have HV0:Hid (ai v env e=if r0.2≠0 then(.zero,r0.2)else if e.op=17 then(if r0.1.yes=true then r1 else r0)else(if r0.1.yes=true then r0 else r1)):=zh (by
  have e0:ai v env (e.args.getD 0 default)=r0:=hr0;have e1:ai v env (e.args.getD 1 default)=r1:=hr1;rw [dR];unfold eG;rw [cz v env e.args 0 ze,cz v env e.args 1 ze,e0,e1];rw [if_neg ze,if_neg ze,if_neg ze]
  split
  ·rfl
  ·split
   ·rfl
   ·rw [if_pos ze])
 obtain⟨b,off,rfl,hb,-⟩:=h.arg_cells ze;obtain⟨a0,k0,hp0,x0,x1,x2,x3,x4,x5⟩:=qQ h rfl 0 ze;obtain⟨a1,k1,hp1,z0,z1,z2,z3,z4,z5⟩:=qQ h rfl 1 ze;simp only [Nat.zero_mul,Nat.zero_add,Nat.add_zero,Nat.one_mul,Nat.reduceAdd]at x0 x1 x2 x3 x4 x5 z0 z1 z2 z3 z4 z5;have HP0:=zh hp0;have HP1:=zh hp1;have hl0:(0:Int)<(e.args.length:Int):=by omega
 have hl2:0<e.args.length:=by omega
 have hl3:1<e.args.length:=by omega
 have hl1:(1:Int)<(e.args.length:Int):=by omega
 have o1:(e.op==1)=false:=by simp;omega
 have o2:(e.op==2)=false:=by simp;omega
 have o3:(e.op==3)=false:=by simp;omega
 unfold vw at H0 H1
 obtain⟨ya,yc,rfl⟩:∃a c,y= .slice a v.years.length c:=by
  exact xQ
 obtain⟨sa,sc,rfl⟩:∃a c,se= .slice a env.length c:=by
  exact xP
 unfold vwV exV;unfold vwV at H0 H1;have HLN:=zh hlen;clear hy hs h hp0 hp1 hr0 hr1 hlen;obtain⟨⟨m0,q0,n0,d0⟩,c0⟩:=r0;obtain⟨⟨m1,q1,n1,d1⟩,c1⟩:=r1;dsimp only at hz H0 H1 HV0;by_cases hc:c0=0
 ·subst hc;clear hz;rcases hop with o|o
  ·have o17:(e.op==17)=true:=by simp [o]
   have o18:(e.op==18)=false:=by simp [o]
   cases q0 with
   |true=>
    have HV:Hid (ai v env e=(⟨m1,q1,n1,d1⟩,c1)):=zh (by rw [HV0.out];simp [o]);clear o HV0
    go_enter func70,ntmps70
    go_wp2_with fail
    refine TS.begin [12] (World.Grows _) zf zf aG (fun hS=>?_);refine TS.wkB 0 hS ?_;refine TS.wkB 1 hS ?_;refine TS.wkB 2 hS ?_;refine TS.wkB 3 hS ?_;refine TS.wkB 4 hS ?_;refine TS.wkB 5 hS ?_;refine TS.two (i:=6) (k:=10) zq rfl rfl (fun K1 hK1=>?_) (fun K1 hK1=>?_)
    focus
     have HK1:=zh hK1;clear hK1 hS;dsimp only [getElem_toArray,getElem_cons_succ,getElem_cons_zero]
     go_simp
     go_at_call 70
     refine(H0.out _ aj _ _ (HP0.out.grows aj)).mono ?_;rintro e' wA ⟨rfl,bA,dA,rfl⟩;refine TS.go HK1.out aj (fun hS=>?_);clear HK1 K1
     (try simp only [nS])
     refine TS.wkB 7 hS ?_;refine TS.wkB 8 hS ?_;refine TS.wkB 9 hS ?_;refine TS.one (i:=10) zq rfl (fun K1 hK1=>?_);have HK1:=zh hK1;clear hK1 hS;dsimp only [getElem_toArray,getElem_cons_succ,getElem_cons_zero]
     go_simp
     refine TS.go HK1.out aj (fun hS=>?_);clear HK1 K1
     (try simp only [nS])
    rotate_left
    focus
     have HK1:=zh hK1;clear hK1 hS;dsimp only [getElem_toArray,getElem_cons_succ,getElem_cons_zero]
     go_simp
     refine TS.go HK1.out aj (fun hS=>?_);clear HK1 K1
     (try simp only [nS])
     refine TS.one (i:=6) zq rfl (fun K1 hK1=>?_);have HK1:=zh hK1;clear hK1 hS;dsimp only [getElem_toArray,getElem_cons_succ,getElem_cons_zero]
     go_simp
     go_at_call 70
     refine(H0.out _ aj _ _ (HP0.out.grows aj)).mono ?_;rintro e' wA ⟨rfl,bA,dA,rfl⟩;refine TS.go HK1.out aj (fun hS=>?_);clear HK1 K1
     (try simp only [nS])
     refine TS.wkB 7 hS ?_;refine TS.wkB 8 hS ?_;refine TS.wkB 9 hS ?_
    rotate_left
    all_goals
     refine TS.one (i:=11) zq rfl (fun K1 hK1=>?_);have HK1:=zh hK1;clear hK1 hS;dsimp only [getElem_toArray,getElem_cons_succ,getElem_cons_zero]
     go_simp
     refine TS.go HK1.out aj (fun hS=>?_);clear HK1 K1
     (try simp only [nS])
     refine TS.weB 12 ?_;clear hS
     go_wp2_with fail
     refine TS.begin [9,10] (World.Grows _) zf zf aG (fun hS=>?_);refine TS.wkB 0 hS ?_;refine TS.wkB 1 hS ?_;refine TS.wkB 2 hS ?_;refine TS.wkB 3 hS ?_;refine TS.wkB 4 hS ?_;refine TS.wkB 5 hS ?_;refine TS.one (i:=6) zq rfl (fun K1 hK1=>?_);have HK1:=zh hK1;clear hK1 hS;dsimp only [getElem_toArray,getElem_cons_succ,getElem_cons_zero]
     go_simp
     go_at_call 70
     refine(H1.out _ aj _ _ (HP1.out.grows aj)).mono ?_;rintro e' wA ⟨rfl,bA,dA,rfl⟩;refine TS.go HK1.out aj (fun hS=>?_);clear HK1 K1
     (try simp only [nS])
     refine TS.wkB 7 hS ?_;refine TS.wkB 8 hS ?_;refine TS.wtB 9 ?_;refine TS.weB 10 ?_;clear hS
     go_wp2_with fail
     go_returns
     exact⟨by rw [HV.out],aj⟩
   |false=>
    have HV:Hid (ai v env e=(⟨m0,false,n0,d0⟩,0)):=zh (by rw [HV0.out];simp [o]);clear o HV0
    go_enter func70,ntmps70
    go_wp2_with fail
    refine TS.begin [12] (World.Grows _) zf zf aG (fun hS=>?_);refine TS.wkB 0 hS ?_;refine TS.wkB 1 hS ?_;refine TS.wkB 2 hS ?_;refine TS.wkB 3 hS ?_;refine TS.wkB 4 hS ?_;refine TS.wkB 5 hS ?_;refine TS.two (i:=6) (k:=10) zq rfl rfl (fun K1 hK1=>?_) (fun K1 hK1=>?_)
    focus
     have HK1:=zh hK1;clear hK1 hS;dsimp only [getElem_toArray,getElem_cons_succ,getElem_cons_zero]
     go_simp
     go_at_call 70
     refine(H0.out _ aj _ _ (HP0.out.grows aj)).mono ?_;rintro e' wA ⟨rfl,bA,dA,rfl⟩;refine TS.go HK1.out aj (fun hS=>?_);clear HK1 K1
     (try simp only [nS])
     refine TS.wkB 7 hS ?_;refine TS.wkB 8 hS ?_;refine TS.wkB 9 hS ?_;refine TS.one (i:=10) zq rfl (fun K1 hK1=>?_);have HK1:=zh hK1;clear hK1 hS;dsimp only [getElem_toArray,getElem_cons_succ,getElem_cons_zero]
     go_simp
     refine TS.go HK1.out aj (fun hS=>?_);clear HK1 K1
     (try simp only [nS])
    rotate_left
    focus
     have HK1:=zh hK1;clear hK1 hS;dsimp only [getElem_toArray,getElem_cons_succ,getElem_cons_zero]
     go_simp
     refine TS.go HK1.out aj (fun hS=>?_);clear HK1 K1
     (try simp only [nS])
     refine TS.one (i:=6) zq rfl (fun K1 hK1=>?_);have HK1:=zh hK1;clear hK1 hS;dsimp only [getElem_toArray,getElem_cons_succ,getElem_cons_zero]
     go_simp
     go_at_call 70
     refine(H0.out _ aj _ _ (HP0.out.grows aj)).mono ?_;rintro e' wA ⟨rfl,bA,dA,rfl⟩;refine TS.go HK1.out aj (fun hS=>?_);clear HK1 K1
     (try simp only [nS])
     refine TS.wkB 7 hS ?_;refine TS.wkB 8 hS ?_;refine TS.wkB 9 hS ?_
    rotate_left
    all_goals
     refine TS.one (i:=11) zq rfl (fun K1 hK1=>?_);have HK1:=zh hK1;clear hK1 hS;dsimp only [getElem_toArray,getElem_cons_succ,getElem_cons_zero]
     go_simp
     refine TS.go HK1.out aj (fun hS=>?_);clear HK1 K1
     (try simp only [nS])
     refine TS.weB 12 ?_;clear hS
     go_wp2_with fail
     go_returns
     exact⟨by rw [HV.out],aj⟩
  ·have o17:(e.op==17)=false:=by simp [o]
   have o18:(e.op==18)=true:=by simp [o]
   cases q0 with
   |true=>
    have HV:Hid (ai v env e=(⟨m0,true,n0,d0⟩,0)):=zh (by rw [HV0.out];simp [o]);clear o HV0
    go_enter func70,ntmps70
    go_wp2_with fail
    refine TS.begin [12] (World.Grows _) zf zf aG (fun hS=>?_);refine TS.wkB 0 hS ?_;refine TS.wkB 1 hS ?_;refine TS.wkB 2 hS ?_;refine TS.wkB 3 hS ?_;refine TS.wkB 4 hS ?_;refine TS.wkB 5 hS ?_;refine TS.two (i:=6) (k:=10) zq rfl rfl (fun K1 hK1=>?_) (fun K1 hK1=>?_)
    focus
     have HK1:=zh hK1;clear hK1 hS;dsimp only [getElem_toArray,getElem_cons_succ,getElem_cons_zero]
     go_simp
     go_at_call 70
     refine(H0.out _ aj _ _ (HP0.out.grows aj)).mono ?_;rintro e' wA ⟨rfl,bA,dA,rfl⟩;refine TS.go HK1.out aj (fun hS=>?_);clear HK1 K1
     (try simp only [nS])
     refine TS.wkB 7 hS ?_;refine TS.wkB 8 hS ?_;refine TS.wkB 9 hS ?_;refine TS.one (i:=10) zq rfl (fun K1 hK1=>?_);have HK1:=zh hK1;clear hK1 hS;dsimp only [getElem_toArray,getElem_cons_succ,getElem_cons_zero]
     go_simp
     refine TS.go HK1.out aj (fun hS=>?_);clear HK1 K1
     (try simp only [nS])
    rotate_left
    focus
     have HK1:=zh hK1;clear hK1 hS;dsimp only [getElem_toArray,getElem_cons_succ,getElem_cons_zero]
     go_simp
     refine TS.go HK1.out aj (fun hS=>?_);clear HK1 K1
     (try simp only [nS])
     refine TS.one (i:=6) zq rfl (fun K1 hK1=>?_);have HK1:=zh hK1;clear hK1 hS;dsimp only [getElem_toArray,getElem_cons_succ,getElem_cons_zero]
     go_simp
     go_at_call 70
     refine(H0.out _ aj _ _ (HP0.out.grows aj)).mono ?_;rintro e' wA ⟨rfl,bA,dA,rfl⟩;refine TS.go HK1.out aj (fun hS=>?_);clear HK1 K1
     (try simp only [nS])
     refine TS.wkB 7 hS ?_;refine TS.wkB 8 hS ?_;refine TS.wkB 9 hS ?_
    rotate_left
    all_goals
     refine TS.one (i:=11) zq rfl (fun K1 hK1=>?_);have HK1:=zh hK1;clear hK1 hS;dsimp only [getElem_toArray,getElem_cons_succ,getElem_cons_zero]
     go_simp
     refine TS.go HK1.out aj (fun hS=>?_);clear HK1 K1
     (try simp only [nS])
     refine TS.weB 12 ?_;clear hS
     go_wp2_with fail
     go_returns
     exact⟨by rw [HV.out],aj⟩
   |false=>
    have HV:Hid (ai v env e=(⟨m1,q1,n1,d1⟩,c1)):=zh (by rw [HV0.out];simp [o]);clear o HV0
    go_enter func70,ntmps70
    go_wp2_with fail
    refine TS.begin [12] (World.Grows _) zf zf aG (fun hS=>?_);refine TS.wkB 0 hS ?_;refine TS.wkB 1 hS ?_;refine TS.wkB 2 hS ?_;refine TS.wkB 3 hS ?_;refine TS.wkB 4 hS ?_;refine TS.wkB 5 hS ?_;refine TS.two (i:=6) (k:=10) zq rfl rfl (fun K1 hK1=>?_) (fun K1 hK1=>?_)
    focus
     have HK1:=zh hK1;clear hK1 hS;dsimp only [getElem_toArray,getElem_cons_succ,getElem_cons_zero]
     go_simp
     go_at_call 70
     refine(H0.out _ aj _ _ (HP0.out.grows aj)).mono ?_;rintro e' wA ⟨rfl,bA,dA,rfl⟩;refine TS.go HK1.out aj (fun hS=>?_);clear HK1 K1
     (try simp only [nS])
     refine TS.wkB 7 hS ?_;refine TS.wkB 8 hS ?_;refine TS.wkB 9 hS ?_;refine TS.one (i:=10) zq rfl (fun K1 hK1=>?_);have HK1:=zh hK1;clear hK1 hS;dsimp only [getElem_toArray,getElem_cons_succ,getElem_cons_zero]
     go_simp
     refine TS.go HK1.out aj (fun hS=>?_);clear HK1 K1
     (try simp only [nS])
    rotate_left
    focus
     have HK1:=zh hK1;clear hK1 hS;dsimp only [getElem_toArray,getElem_cons_succ,getElem_cons_zero]
     go_simp
     refine TS.go HK1.out aj (fun hS=>?_);clear HK1 K1
     (try simp only [nS])
     refine TS.one (i:=6) zq rfl (fun K1 hK1=>?_);have HK1:=zh hK1;clear hK1 hS;dsimp only [getElem_toArray,getElem_cons_succ,getElem_cons_zero]
     go_simp
     go_at_call 70
     refine(H0.out _ aj _ _ (HP0.out.grows aj)).mono ?_;rintro e' wA ⟨rfl,bA,dA,rfl⟩;refine TS.go HK1.out aj (fun hS=>?_);clear HK1 K1
     (try simp only [nS])
     refine TS.wkB 7 hS ?_;refine TS.wkB 8 hS ?_;refine TS.wkB 9 hS ?_
    rotate_left
    all_goals
     refine TS.one (i:=11) zq rfl (fun K1 hK1=>?_);have HK1:=zh hK1;clear hK1 hS;dsimp only [getElem_toArray,getElem_cons_succ,getElem_cons_zero]
     go_simp
     refine TS.go HK1.out aj (fun hS=>?_);clear HK1 K1
     (try simp only [nS])
     refine TS.weB 12 ?_;clear hS
     go_wp2_with fail
     refine TS.begin [9,10] (World.Grows _) zf zf aG (fun hS=>?_);refine TS.wkB 0 hS ?_;refine TS.wkB 1 hS ?_;refine TS.wkB 2 hS ?_;refine TS.wkB 3 hS ?_;refine TS.wkB 4 hS ?_;refine TS.wkB 5 hS ?_;refine TS.one (i:=6) zq rfl (fun K1 hK1=>?_);have HK1:=zh hK1;clear hK1 hS;dsimp only [getElem_toArray,getElem_cons_succ,getElem_cons_zero]
     go_simp
     go_at_call 70
     refine(H1.out _ aj _ _ (HP1.out.grows aj)).mono ?_;rintro e' wA ⟨rfl,bA,dA,rfl⟩;refine TS.go HK1.out aj (fun hS=>?_);clear HK1 K1
     (try simp only [nS])
     refine TS.wkB 7 hS ?_;refine TS.wkB 8 hS ?_;refine TS.wtB 9 ?_;refine TS.weB 10 ?_;clear hS
     go_wp2_with fail
     go_returns
     exact⟨by rw [HV.out],aj⟩
 ·have hzz:=hz hc;simp only [Val.zero,Val.mk.injEq]at hzz;obtain⟨rfl,rfl,rfl,rfl⟩:=hzz;have HV:Hid (ai v env e=(.zero,c0)):=zh (by rw [HV0.out,if_pos hc]);have hq1:(c0 !=0)=true:=by simpa using hc
  clear hc hz HV0;rcases hop with o|o
  focus
   have o17:(e.op==17)=true:=by simp [o]
  rotate_left
  focus
   have o17:(e.op==17)=false:=by simp [o]
   have o18:(e.op==18)=true:=by simp [o]
  rotate_left
  all_goals
   clear o
   go_enter func70,ntmps70
   go_wp2_with fail
   refine TS.begin [12] (World.Grows _) zf zf aG (fun hS=>?_);refine TS.wkB 0 hS ?_;refine TS.wkB 1 hS ?_;refine TS.wkB 2 hS ?_;refine TS.wkB 3 hS ?_;refine TS.wkB 4 hS ?_;refine TS.wkB 5 hS ?_;refine TS.two (i:=6) (k:=10) zq rfl rfl (fun K1 hK1=>?_) (fun K1 hK1=>?_)
   focus
    have HK1:=zh hK1;clear hK1 hS;dsimp only [getElem_toArray,getElem_cons_succ,getElem_cons_zero]
    go_simp
    go_at_call 70
    refine(H0.out _ aj _ _ (HP0.out.grows aj)).mono ?_;rintro e' wA ⟨rfl,bA,dA,rfl⟩;refine TS.go HK1.out aj (fun hS=>?_);clear HK1 K1
    (try simp only [nS])
    refine TS.wkB 7 hS ?_;refine TS.wkB 8 hS ?_;refine TS.wkB 9 hS ?_;refine TS.one (i:=10) zq rfl (fun K1 hK1=>?_);have HK1:=zh hK1;clear hK1 hS;dsimp only [getElem_toArray,getElem_cons_succ,getElem_cons_zero]
    go_simp
    refine TS.go HK1.out aj (fun hS=>?_);clear HK1 K1
    (try simp only [nS])
   rotate_left
   focus
    have HK1:=zh hK1;clear hK1 hS;dsimp only [getElem_toArray,getElem_cons_succ,getElem_cons_zero]
    go_simp
    refine TS.go HK1.out aj (fun hS=>?_);clear HK1 K1
    (try simp only [nS])
    refine TS.one (i:=6) zq rfl (fun K1 hK1=>?_);have HK1:=zh hK1;clear hK1 hS;dsimp only [getElem_toArray,getElem_cons_succ,getElem_cons_zero]
    go_simp
    go_at_call 70
    refine(H0.out _ aj _ _ (HP0.out.grows aj)).mono ?_;rintro e' wA ⟨rfl,bA,dA,rfl⟩;refine TS.go HK1.out aj (fun hS=>?_);clear HK1 K1
    (try simp only [nS])
    refine TS.wkB 7 hS ?_;refine TS.wkB 8 hS ?_;refine TS.wkB 9 hS ?_
   rotate_left
   all_goals
    refine TS.one (i:=11) zq rfl (fun K1 hK1=>?_);have HK1:=zh hK1;clear hK1 hS;dsimp only [getElem_toArray,getElem_cons_succ,getElem_cons_zero]
    go_simp
    refine TS.go HK1.out aj (fun hS=>?_);clear HK1 K1
    (try simp only [nS])
    refine TS.weB 12 ?_;clear hS
    go_wp2_with fail
    (go_returns;exact⟨by rw [HV.out];rfl,aj⟩)
theorem Qy(S:Nat->Prop)(v:Vw)(y se:Value)(env:List (ByteArray × Val))(e:Ex)(a:Option Addr)(cap:Nat)(w:World)(h:aC S w e (.slice a e.args.length cap))(hy:bK w y v.years)(hs:aV w se env)(hop:e.op=21)(hlen:e.args.length=3)
 (r0 r1 r2:Val × Int) (hr0:ai v env (e.arg 0)=r0) (hr1:ai v env (e.arg 1)=r1) (hr2:ai v env (e.arg 2)=r2) (hz:r0.2≠0->r0.1= .zero) (H0:Hid (vw S v y se (e.arg 0) r0 w)) (H1:Hid (vw S v y se (e.arg 1) r1 w)) (H2:Hid (vw S v y se (e.arg 2) r2 w)):(Calls prog 70 #[exV e (.slice a e.args.length cap),vwV v y,se] w (ApP (ai v env e) w)):=by
 have HV0:Hid (ai v env e=if r0.2≠0 then(.zero,r0.2)else(if r0.1.yes=true then r1 else r2)):=zh (by
  have e0:ai v env (e.args.getD 0 default)=r0:=hr0;have e1:ai v env (e.args.getD 1 default)=r1:=hr1;have e2:ai v env (e.args.getD 2 default)=r2:=hr2;rw [dR];unfold eG;rw [cz v env e.args 0 ze,cz v env e.args 1 ze,cz v env e.args 2 ze,e0,e1,e2];rw [if_neg ze,if_neg ze,if_neg ze]
  split
  ·rfl
  ·(rw [if_neg (show ¬e.op=17 by omega),if_neg (show ¬e.op=18 by omega)])<;>(first|rfl|rw [if_pos hop]))
 obtain⟨b,off,rfl,hb,-⟩:=h.arg_cells ze;obtain⟨a0,k0,hp0,x0,x1,x2,x3,x4,x5⟩:=qQ h rfl 0 ze;obtain⟨a1,k1,hp1,z0,z1,z2,z3,z4,z5⟩:=qQ h rfl 1 ze;obtain⟨a2,k2,hp2,y0,y1,y2,y3,y4,y5⟩:=qQ h rfl 2 ze;simp only [Nat.zero_mul,Nat.zero_add,Nat.add_zero,Nat.one_mul,Nat.reduceAdd,Nat.reduceMul]at x0 x1 x2 x3 x4 x5 z0 z1 z2 z3 z4 z5 y0 y1 y2 y3 y4 y5;have HP0:=zh hp0;have HP1:=zh hp1;have HP2:=zh hp2;have hl0:(0:Int)<(e.args.length:Int):=by omega
 have hl2:0<e.args.length:=by omega
 have hl3:1<e.args.length:=by omega
 have hl4:(2:Int)<(e.args.length:Int):=by omega
 have hl5:2<e.args.length:=by omega
 have o17:(e.op==17)=false:=by simp;omega
 have o18:(e.op==18)=false:=by simp;omega
 have o21:(e.op==21)=true:=by simp [hop]
 have hl1:(1:Int)<(e.args.length:Int):=by omega
 have o1:(e.op==1)=false:=by simp;omega
 have o2:(e.op==2)=false:=by simp;omega
 have o3:(e.op==3)=false:=by simp;omega
 unfold vw at H0 H1 H2
 obtain⟨ya,yc,rfl⟩:∃a c,y= .slice a v.years.length c:=by
  exact xQ
 obtain⟨sa,sc,rfl⟩:∃a c,se= .slice a env.length c:=by
  exact xP
 unfold vwV exV;unfold vwV at H0 H1 H2;have HLN:=zh hlen;clear hy hs h hp0 hp1 hp2 hr0 hr1 hr2 hlen hop;obtain⟨⟨m0,q0,n0,d0⟩,c0⟩:=r0;obtain⟨⟨m1,q1,n1,d1⟩,c1⟩:=r1;obtain⟨⟨m2,q2,n2,d2⟩,c2⟩:=r2;dsimp only at hz H0 H1 H2 HV0;by_cases hc:c0=0
 ·subst hc;clear hz
  cases q0 with
  |true=>
   have HV:Hid (ai v env e=(⟨m1,q1,n1,d1⟩,c1)):=zh (by rw [HV0.out];simp);clear HV0
   go_enter func70,ntmps70
   go_wp2_with fail
   refine TS.begin [12] (World.Grows _) zf zf aG (fun hS=>?_);refine TS.wkB 0 hS ?_;refine TS.wkB 1 hS ?_;refine TS.wkB 2 hS ?_;refine TS.wkB 3 hS ?_;refine TS.wkB 4 hS ?_;refine TS.wkB 5 hS ?_;refine TS.two (i:=6) (k:=10) zq rfl rfl (fun K1 hK1=>?_) (fun K1 hK1=>?_)
   focus
    have HK1:=zh hK1;clear hK1 hS;dsimp only [getElem_toArray,getElem_cons_succ,getElem_cons_zero]
    go_simp
    go_at_call 70
    refine(H0.out _ aj _ _ (HP0.out.grows aj)).mono ?_;rintro e' wA ⟨rfl,bA,dA,rfl⟩;refine TS.go HK1.out aj (fun hS=>?_);clear HK1 K1
    (try simp only [nS])
    refine TS.wkB 7 hS ?_;refine TS.wkB 8 hS ?_;refine TS.wkB 9 hS ?_;refine TS.one (i:=10) zq rfl (fun K1 hK1=>?_);have HK1:=zh hK1;clear hK1 hS;dsimp only [getElem_toArray,getElem_cons_succ,getElem_cons_zero]
    go_simp
    refine TS.go HK1.out aj (fun hS=>?_);clear HK1 K1
    (try simp only [nS])
   rotate_left
   focus
    have HK1:=zh hK1;clear hK1 hS;dsimp only [getElem_toArray,getElem_cons_succ,getElem_cons_zero]
    go_simp
    refine TS.go HK1.out aj (fun hS=>?_);clear HK1 K1
    (try simp only [nS])
    refine TS.one (i:=6) zq rfl (fun K1 hK1=>?_);have HK1:=zh hK1;clear hK1 hS;dsimp only [getElem_toArray,getElem_cons_succ,getElem_cons_zero]
    go_simp
    go_at_call 70
    refine(H0.out _ aj _ _ (HP0.out.grows aj)).mono ?_;rintro e' wA ⟨rfl,bA,dA,rfl⟩;refine TS.go HK1.out aj (fun hS=>?_);clear HK1 K1
    (try simp only [nS])
    refine TS.wkB 7 hS ?_;refine TS.wkB 8 hS ?_;refine TS.wkB 9 hS ?_
   rotate_left
   all_goals
    refine TS.one (i:=11) zq rfl (fun K1 hK1=>?_);have HK1:=zh hK1;clear hK1 hS;dsimp only [getElem_toArray,getElem_cons_succ,getElem_cons_zero]
    go_simp
    refine TS.go HK1.out aj (fun hS=>?_);clear HK1 K1
    (try simp only [nS])
    refine TS.weB 12 ?_;clear hS
    go_wp2_with fail
    refine TS.begin [9,10] (World.Grows _) zf zf aG (fun hS=>?_);refine TS.wkB 0 hS ?_;refine TS.wkB 1 hS ?_;refine TS.wkB 2 hS ?_;refine TS.wkB 3 hS ?_;refine TS.wkB 4 hS ?_;refine TS.wkB 5 hS ?_;refine TS.one (i:=6) zq rfl (fun K1 hK1=>?_);have HK1:=zh hK1;clear hK1 hS;dsimp only [getElem_toArray,getElem_cons_succ,getElem_cons_zero]
    go_simp
    go_at_call 70
    refine(H1.out _ aj _ _ (HP1.out.grows aj)).mono ?_;rintro e' wA ⟨rfl,bA,dA,rfl⟩;refine TS.go HK1.out aj (fun hS=>?_);clear HK1 K1
    (try simp only [nS])
    refine TS.wkB 7 hS ?_;refine TS.wkB 8 hS ?_;refine TS.wtB 9 ?_;refine TS.weB 10 ?_;clear hS
    go_wp2_with fail
    go_returns
    exact⟨by rw [HV.out],aj⟩
  |false=>
   have HV:Hid (ai v env e=(⟨m2,q2,n2,d2⟩,c2)):=zh (by rw [HV0.out];simp);clear HV0
   go_enter func70,ntmps70
   go_wp2_with fail
   refine TS.begin [12] (World.Grows _) zf zf aG (fun hS=>?_);refine TS.wkB 0 hS ?_;refine TS.wkB 1 hS ?_;refine TS.wkB 2 hS ?_;refine TS.wkB 3 hS ?_;refine TS.wkB 4 hS ?_;refine TS.wkB 5 hS ?_;refine TS.two (i:=6) (k:=10) zq rfl rfl (fun K1 hK1=>?_) (fun K1 hK1=>?_)
   focus
    have HK1:=zh hK1;clear hK1 hS;dsimp only [getElem_toArray,getElem_cons_succ,getElem_cons_zero]
    go_simp
    go_at_call 70
    refine(H0.out _ aj _ _ (HP0.out.grows aj)).mono ?_;rintro e' wA ⟨rfl,bA,dA,rfl⟩;refine TS.go HK1.out aj (fun hS=>?_);clear HK1 K1
    (try simp only [nS])
    refine TS.wkB 7 hS ?_;refine TS.wkB 8 hS ?_;refine TS.wkB 9 hS ?_;refine TS.one (i:=10) zq rfl (fun K1 hK1=>?_);have HK1:=zh hK1;clear hK1 hS;dsimp only [getElem_toArray,getElem_cons_succ,getElem_cons_zero]
    go_simp
    refine TS.go HK1.out aj (fun hS=>?_);clear HK1 K1
    (try simp only [nS])
   rotate_left
   focus
    have HK1:=zh hK1;clear hK1 hS;dsimp only [getElem_toArray,getElem_cons_succ,getElem_cons_zero]
    go_simp
    refine TS.go HK1.out aj (fun hS=>?_);clear HK1 K1
    (try simp only [nS])
    refine TS.one (i:=6) zq rfl (fun K1 hK1=>?_);have HK1:=zh hK1;clear hK1 hS;dsimp only [getElem_toArray,getElem_cons_succ,getElem_cons_zero]
    go_simp
    go_at_call 70
    refine(H0.out _ aj _ _ (HP0.out.grows aj)).mono ?_;rintro e' wA ⟨rfl,bA,dA,rfl⟩;refine TS.go HK1.out aj (fun hS=>?_);clear HK1 K1
    (try simp only [nS])
    refine TS.wkB 7 hS ?_;refine TS.wkB 8 hS ?_;refine TS.wkB 9 hS ?_
   rotate_left
   all_goals
    refine TS.one (i:=11) zq rfl (fun K1 hK1=>?_);have HK1:=zh hK1;clear hK1 hS;dsimp only [getElem_toArray,getElem_cons_succ,getElem_cons_zero]
    go_simp
    refine TS.go HK1.out aj (fun hS=>?_);clear HK1 K1
    (try simp only [nS])
    refine TS.weB 12 ?_;clear hS
    go_wp2_with fail
    refine TS.begin [9,10] (World.Grows _) zf zf aG (fun hS=>?_);refine TS.wkB 0 hS ?_;refine TS.wkB 1 hS ?_;refine TS.wkB 2 hS ?_;refine TS.wkB 3 hS ?_;refine TS.wkB 4 hS ?_;refine TS.wkB 5 hS ?_;refine TS.one (i:=6) zq rfl (fun K1 hK1=>?_);have HK1:=zh hK1;clear hK1 hS;dsimp only [getElem_toArray,getElem_cons_succ,getElem_cons_zero]
    go_simp
    go_at_call 70
    refine(H2.out _ aj _ _ (HP2.out.grows aj)).mono ?_;rintro e' wA ⟨rfl,bA,dA,rfl⟩;refine TS.go HK1.out aj (fun hS=>?_);clear HK1 K1
    (try simp only [nS])
    refine TS.wkB 7 hS ?_;refine TS.wkB 8 hS ?_;refine TS.wtB 9 ?_;refine TS.weB 10 ?_;clear hS
    go_wp2_with fail
    go_returns
    exact⟨by rw [HV.out],aj⟩
 ·have hzz:=hz hc;simp only [Val.zero,Val.mk.injEq]at hzz;obtain⟨rfl,rfl,rfl,rfl⟩:=hzz;have HV:Hid (ai v env e=(.zero,c0)):=zh (by rw [HV0.out,if_pos hc]);have hq1:(c0 !=0)=true:=by simpa using hc
  clear hc hz HV0
  go_enter func70,ntmps70
  go_wp2_with fail
  refine TS.begin [12] (World.Grows _) zf zf aG (fun hS=>?_);refine TS.wkB 0 hS ?_;refine TS.wkB 1 hS ?_;refine TS.wkB 2 hS ?_;refine TS.wkB 3 hS ?_;refine TS.wkB 4 hS ?_;refine TS.wkB 5 hS ?_;refine TS.two (i:=6) (k:=10) zq rfl rfl (fun K1 hK1=>?_) (fun K1 hK1=>?_)
  focus
   have HK1:=zh hK1;clear hK1 hS;dsimp only [getElem_toArray,getElem_cons_succ,getElem_cons_zero]
   go_simp
   go_at_call 70
   refine(H0.out _ aj _ _ (HP0.out.grows aj)).mono ?_;rintro e' wA ⟨rfl,bA,dA,rfl⟩;refine TS.go HK1.out aj (fun hS=>?_);clear HK1 K1
   (try simp only [nS])
   refine TS.wkB 7 hS ?_;refine TS.wkB 8 hS ?_;refine TS.wkB 9 hS ?_;refine TS.one (i:=10) zq rfl (fun K1 hK1=>?_);have HK1:=zh hK1;clear hK1 hS;dsimp only [getElem_toArray,getElem_cons_succ,getElem_cons_zero]
   go_simp
   refine TS.go HK1.out aj (fun hS=>?_);clear HK1 K1
   (try simp only [nS])
  rotate_left
  focus
   have HK1:=zh hK1;clear hK1 hS;dsimp only [getElem_toArray,getElem_cons_succ,getElem_cons_zero]
   go_simp
   refine TS.go HK1.out aj (fun hS=>?_);clear HK1 K1
   (try simp only [nS])
   refine TS.one (i:=6) zq rfl (fun K1 hK1=>?_);have HK1:=zh hK1;clear hK1 hS;dsimp only [getElem_toArray,getElem_cons_succ,getElem_cons_zero]
   go_simp
   go_at_call 70
   refine(H0.out _ aj _ _ (HP0.out.grows aj)).mono ?_;rintro e' wA ⟨rfl,bA,dA,rfl⟩;refine TS.go HK1.out aj (fun hS=>?_);clear HK1 K1
   (try simp only [nS])
   refine TS.wkB 7 hS ?_;refine TS.wkB 8 hS ?_;refine TS.wkB 9 hS ?_
  rotate_left
  all_goals
   refine TS.one (i:=11) zq rfl (fun K1 hK1=>?_);have HK1:=zh hK1;clear hK1 hS;dsimp only [getElem_toArray,getElem_cons_succ,getElem_cons_zero]
   go_simp
   refine TS.go HK1.out aj (fun hS=>?_);clear HK1 K1
   (try simp only [nS])
   refine TS.weB 12 ?_;clear hS
   go_wp2_with fail
   (go_returns;exact⟨by rw [HV.out];rfl,aj⟩)
end Go.Proofs.YtlheailebbngiaaGreatDoor
