import Derived.Test.YtcfpoofhokbhlaaGreatDoorVBase
import Derived.Test.YtcfpoofhokbhlaaGreatDoorVShelf
import Derived.Lib.Hide
import Derived.Lib.ItoaNum
set_option linter.all false
set_option maxHeartbeats 16000000
set_option maxRecDepth 1000000
namespace Go.Proofs.YtcfpoofhokbhlaaGreatDoor
open Tryz List
open Go.RowKit

theorem jY{a b c d:Int}(h:a=c)(h':b=d):Ending.returned (.tuple #[.int .u64 a,.int .u64 b])= .returned (.tuple #[.int .u64 c,.int .u64 d]):=by rw [h,h']

theorem Knuth.step(q r n1 n0 u u1:Nat)(hu:q*n1+r=u)(hlt:u<n1*4294967296+n0)(h1:u1<4294967296)
 (_hq:(u*4294967296+u1) / (n1*4294967296+n0)<=q) (hc:4294967296<=q\/4294967296*r+u1<q*n0):1<=q/\(u*4294967296+u1) / (n1*4294967296+n0)<=q-1:=by
 have hy:0<n1*4294967296+n0:=by omega
 have key:(u*4294967296+u1) / (n1*4294967296+n0)<q:=by
  rcases hc with h|h
  ·rw [Nat.div_lt_iff_lt_mul hy];have:4294967296*(n1*4294967296+n0)<=q*(n1*4294967296+n0):=Nat.mul_le_mul_right _ h;omega
  ·rw [Nat.div_lt_iff_lt_mul hy];have:q*(n1*4294967296+n0)=(q*n1)*4294967296+q*n0:=by rw [Nat.mul_add,Nat.mul_assoc]
   omega
 generalize(u*4294967296+u1) / (n1*4294967296+n0)=z at *;omega

theorem Knuth.out(q r n1 n0 u u1:Nat)(hu:q*n1+r=u)(hlt:u<n1*4294967296+n0)
 (hq:(u*4294967296+u1) / (n1*4294967296+n0)<=q) (hc:q*n0<=4294967296*r+u1):q=(u*4294967296+u1) / (n1*4294967296+n0):=by
 have hy:0<n1*4294967296+n0:=by omega
 have:q<=(u*4294967296+u1) / (n1*4294967296+n0):=by
  rw [Nat.le_div_iff_mul_le hy];have:q*(n1*4294967296+n0)=(q*n1)*4294967296+q*n0:=by rw [Nat.mul_add,Nat.mul_assoc]
  omega
 generalize(u*4294967296+u1) / (n1*4294967296+n0)=z at *;omega

theorem Knuth.brk(q r n1 n0 u u1:Nat)(hu:q*n1+r=u)(hlt:u<n1*4294967296+n0)(h0:n0<4294967296)(hr:4294967296<=r):q*n0<=4294967296*r+u1:=by
 have hq:q<4294967296:=by
  rcases Nat.lt_or_ge q 4294967296 with h|h
  ·exact h
  ·have:4294967296*n1<=q*n1:=Nat.mul_le_mul_right _ h;omega
 have h1:q*n0<=4294967296*4294967296:=Nat.mul_le_mul (by omega) (by omega);omega

theorem Dy(lo y:Nat)(w:World)(h1:lo<18446744073709551616)(h2:y<18446744073709551616)(h0:0<y) :
 Calls prog 38 #[.int .u64 0,.int .u64 lo,.int .u64 y] w fun e w'=>e= .returned (.tuple #[.int .u64 (lo / y:Nat),.int .u64 (lo % y:Nat)])/\w.Grows w':=by
 have a1:((y:Int)==0)=false:=by simp;omega
 have a2:(1:Int)<=y:=by omega
 go_enter func38,ntmps38
 go_wp2_with fail
 go_quiet (fail)
 go_wp2_with fail
 go_ret2
 have hd:(lo:Int) / y=((lo / y:Nat):Int):=by simp
 refine⟨jY ?_ (by simp),.of_below ?_⟩
 ·have hl:=Nat.div_le_self lo y;rw [hd];generalize lo / y=z at *;exact IntWalk.u64_in _ (by omega)
 ·exact⟨rfl,rfl,rfl,Nat.le_refl _,fun _ _=>rfl⟩


theorem Knuth.init(U n1 n0:Nat)(hU:U<n1*4294967296+n0)(b2:2147483648<=n1)(b3:n0<4294967296):U / n1<=4294967298:=by
 have:U / n1<4294967299:=by
  rw [Nat.div_lt_iff_lt_mul (by omega)];omega
 omega

theorem Knuth.wrap1(U n1:Nat)(h:U / n1<=4294967298):IntKind.u64.wrap (↑U / ↑n1)=((U / n1:Nat):Int):=by
 have hd:(U:Int) / n1=((U / n1:Nat):Int):=by simp
 rw [hd];generalize U / n1=z at *;exact IntWalk.u64_in _ (by omega)

theorem Knuth.wrap2(U n1:Nat)(hU:U<18446744073709551616):IntKind.u64.wrap (↑U-IntKind.u64.wrap (((U / n1:Nat):Int)* ↑n1))=((U % n1:Nat):Int):=by
 have h1:=Nat.div_mul_le_self U n1;have h2:=Nat.div_add_mod U n1;have h3:((U / n1:Nat):Int)*(n1:Int)=((U / n1*n1:Nat):Int):=by rw [Int.natCast_mul]
 rw [h3];rw [Nat.mul_comm]at h2;generalize U / n1*n1=z at *;generalize U % n1=y at *;rw [IntWalk.u64_in (z:Int) (by omega)];rw [IntWalk.u64_in _ (by omega)];omega

theorem Knuth.wrapq(q n0:Nat)(hq:q<4294967296)(h0:n0<4294967296):IntKind.u64.wrap (↑q* ↑n0)=((q*n0:Nat):Int):=by
 have h1:q*n0<=4294967295*4294967295:=Nat.mul_le_mul (by omega) (by omega);rw [<-Int.natCast_mul];generalize q*n0=z at *;exact IntWalk.u64_in _ (by omega)

theorem Knuth.rest(U l1 Y Q:Nat)(hY:Y<18446744073709551616)(hQ:Q=(U*4294967296+l1) / Y)(h0:0<Y) :
 IntKind.u64.wrap (IntKind.u64.wrap (IntKind.u64.wrap (↑U*4294967296)+ ↑l1)-IntKind.u64.wrap (↑Q* ↑Y))=(((U*4294967296+l1) % Y:Nat):Int):=by
 have h2:=Nat.div_add_mod (U*4294967296+l1) Y;rw [<-hQ,Nat.mul_comm]at h2;have hm:=Nat.mod_lt (U*4294967296+l1) h0;rw [<-Int.natCast_mul Q Y];generalize Q*Y=z at *;generalize hr:(U*4294967296+l1) % Y=r at *;simp only [IntKind.wrap_u64];omega

theorem Knuth.start(U n1 n0 l1:Nat)(h:n1≠0)(b4:l1<4294967296):(U*4294967296+l1) / (n1*4294967296+n0)<=U / n1:=by
 have h1:(U*4294967296+l1) / (n1*4294967296)=U / n1:=by
  rw [Nat.mul_comm n1,<-Nat.div_div_eq_div_mul]
  congr 1
  omega
 rw [<-h1];exact Nat.div_le_div_left (by omega) (by omega)

theorem Knuth.fin(B D y s U Y l1 l0 k V k2:Nat)(hy:0<y)(hD:D*2 ^ s=(U*B+l1)*B+l0)(hY:Y=y*2 ^ s)
 (hk:k=(U*B+l1) / Y) (hV:V=(U*B+l1) % Y) (hk2:k2=(V*B+l0) / Y) :
 k*B+k2=D / y/\(V*B+l0) % Y=D % y*2 ^ s:=by
 have hp:0<2 ^ s:=Nat.two_pow_pos s;have hY0:0<Y:=by rw [hY];exact Nat.mul_pos hy hp
 have e1:=Nat.div_add_mod (U*B+l1) Y;rw [<-hk,<-hV]at e1;have e2:=Nat.div_add_mod (V*B+l0) Y;rw [<-hk2]at e2;have hlt:=Nat.mod_lt (V*B+l0) hY0
 have hsum:Y*(k*B+k2)+(V*B+l0) % Y=D*2 ^ s:=by
  rw [hD,<-e1,Nat.mul_add,Nat.add_mul,Nat.mul_assoc];generalize(V*B+l0) % Y=z at *;omega
 have q:D*2 ^ s / Y=k*B+k2:=by
  rw [<-hsum,Nat.mul_add_div hY0,Nat.div_eq_of_lt hlt,Nat.add_zero]
 have r:D*2 ^ s % Y=(V*B+l0) % Y:=by
  rw [<-hsum,Nat.mul_add_mod,Nat.mod_eq_of_lt hlt]
 constructor
 ·rw [<-q,hY,Nat.mul_div_mul_right _ _ hp]
 ·rw [<-r,hY,Nat.mul_mod_mul_right]

theorem Knuth.qlt(U l1 Y k:Nat)(hk:k=(U*4294967296+l1) / Y)(hU:U<Y)(h1:l1<4294967296):k<4294967296:=by
 rw [hk,Nat.div_lt_iff_lt_mul (by omega)];omega

theorem Knuth.join(k k2:Nat)(h:k<4294967296)(h2:k2<4294967296):IntKind.u64.wrap (IntKind.u64.wrap (↑k*4294967296)+ ↑k2)=((k*4294967296+k2:Nat):Int):=by
 rw [IntWalk.u64_in ((k:Int)*4294967296) (by omega),IntWalk.u64_in _ (by omega)];omega

theorem Knuth.joinq(k k2 q:Nat)(_:k<4294967296)(_:k2<4294967296)(h:k*4294967296+k2=q) :
 (k:Int)*4294967296+k2=q:=by omega

theorem Knuth.joinq2(k k2 q:Nat)(h1:k<4294967296)(h2:k2<4294967296)(h:k*4294967296+k2=q) :
 IntKind.u64.wrap (↑k*4294967296+ ↑k2)=(q:Int):=by
 rw [IntWalk.u64_in _ (by omega)];omega
theorem Knuth.joinq3(k k2 q:Nat)(h1:k<4294967296)(h2:k2<4294967296)(h:k*4294967296+k2=q) :
 IntKind.u64.wrap (IntKind.u64.wrap (↑k*4294967296)+ ↑k2)=(q:Int):=by
 rw [Knuth.join k k2 h1 h2,h]

theorem Knuth.shift(a s:Nat):((a*2 ^ s:Nat):Int) / 2 ^ s=a:=by
 rw [show((2:Int) ^ s)=((2 ^ s:Nat):Int)by simp,<-Int.natCast_ediv,Nat.mul_div_cancel _ (Nat.two_pow_pos s)]

def nC(U n1 n0 l1:Nat)(x y:Value):Prop:=
 ∃q r:Nat,x= .int .u64 q/\y= .int .u64 r/\q*n1+r=U/\(U*4294967296+l1) / (n1*4294967296+n0)<=q/\(r:Int)<4294967296/\(q:Int)<=4294967298

theorem FE(D hi lo y s Y n1 n0 U L l1 l0 Qr Rr:Nat)(w:World)(hh:hi<y)(h0:0<hi)(hs:s<=63)
 (e1:IntKind.u64.wrap (↑y*2 ^ s)= ↑Y) (e2:(Y:Int) / 4294967296= ↑n1) (e3:bits BinOp.and IntKind.u64 ↑Y 4294967295= ↑n0)
 (e4:bits BinOp.or IntKind.u64 (IntKind.u64.wrap (↑hi*2 ^ s)) (↑lo / 2 ^ (64-s))= ↑U) (e5:IntKind.u64.wrap (↑lo*2 ^ s)= ↑L)
 (e6:(L:Int) / 4294967296= ↑l1) (e7:bits BinOp.and IntKind.u64 ↑L 4294967295= ↑l0)
 (b1:n1<4294967296) (b2:2147483648<=n1) (b3:n0<4294967296) (b4:l1<4294967296) (b5:l0<4294967296) (bY:Hid (Y=n1*4294967296+n0)) (bU:Hid (U<n1*4294967296+n0))
 (HD:Hid (D*2 ^ s=(U*4294967296+l1)*4294967296+l0)) (HY:Hid (Y=y*2 ^ s)) (HQr:Hid (Qr=D / y)) (HRr:Hid (Rr=D % y))
 (H':Hid (∀w,Calls prog 62 #[.int .u64 y] w fun e w'=>e= .returned (.int .i64 s)/\w=w')) :
 Calls prog 38 #[.int .u64 hi,.int .u64 lo,.int .u64 y] w fun e w'=>e= .returned (.tuple #[.int .u64 Qr,.int .u64 Rr])/\w.Grows w':=by
 have a1:((y:Int)==0)=false:=by simp;omega
 have a3:((hi:Int)==0)=false:=by simp;omega
 have a2:(1:Int)<=y:=by omega
 have a4:(1:Int)<=n1:=by omega
 have a5:((n1:Int)==0)=false:=by simp;omega
 have bU':=bU.out;have hQ:=Knuth.init U n1 n0 bU' b2 b3;have f1:=Knuth.wrap1 U n1 hQ;have f2:=Knuth.wrap2 U n1 (by omega);have g1:Hid (U / n1*n1+U % n1=U):=by have:=Nat.div_add_mod U n1;rw [Nat.mul_comm]at this;exact this
 have g2:U % n1<n1:=Nat.mod_lt _ (by omega)
 have g3:Hid ((U*4294967296+l1) / (n1*4294967296+n0)<=U / n1):=by
  exact Knuth.start U n1 n0 l1 (by omega) b4
 generalize U / n1=Q at *;generalize U % n1=R at *;clear bU'
 go_enter func38,ntmps38
 go_wp2_with fail
 refine gw (H'.out _) ?_;clear H'
 go_wp2_with fail
 go_loop [15,16] (fun x y=>nC U n1 n0 l1 x y) (fun x _=>(intOf x).toNat)
 case atStart=>exact⟨Q,R,rfl,rfl,g1.out,g3.out,by omega,by omega⟩
 case round=>
  clear f1 f2 g1 g2 g3 hQ;obtain⟨q,r,rfl,rfl,hu,hq,hr,hb⟩:=hrel;have Hu:=Lib.hid hu;have Hq:=Lib.hid hq;clear hu hq;by_cases c1:(4294967296:Int)<=q
  ·obtain⟨h1q,hq1⟩:=Knuth.step q r n1 n0 U l1 Hu.out bU.out b4 Hq.out (.inl (by omega));obtain⟨k,hk⟩:∃k,q=k+1:=⟨q-1,by omega⟩;have e8:(q:Int)-1= ↑k:=by omega
   have Hk0:=Lib.hid hk;clear hk;have Hq1:=Lib.hid (by have:=Hk0.out;rw [this]at hq1;exact hq1);clear hq1 h1q;have Hu2:Hid (k*n1+(r+n1)=U):=by have:=Hu.out;rw [Hk0.out,Nat.add_mul]at this;simp only [Hid];omega
   by_cases c2:(4294967296:Int)<=(r:Int)+n1
   ·have Hk:Hid (k=(U*4294967296+l1) / Y):=by
     rw [Hid,bY.out];exact Knuth.out _ (r+n1) _ _ _ _ Hu2.out bU.out Hq1.out (Knuth.brk _ _ _ _ _ _ Hu2.out bU.out b3 (by omega))
    have klt:Hid (k<4294967296):=Knuth.qlt U l1 Y k Hk.out (by have:=bU.out;have:=bY.out;omega) b4;clear Hu Hu2 Hq1 Hq;have r1:=Knuth.rest U l1 Y k (by have:=bY.out;omega) Hk.out (by have:=bY.out;omega);have Vlt:Hid ((U*4294967296+l1) % Y<Y):=Nat.mod_lt _ (by have:=bY.out;omega);generalize hV:(U*4294967296+l1) % Y=V at *;have HV:=Lib.hid hV;clear hV;have Vlt':V<n1*4294967296+n0:=by have:=Vlt.out;have:=bY.out;omega
    have hQ2:=Knuth.init V n1 n0 Vlt' b2 b3;have f3:=Knuth.wrap1 V n1 hQ2;have f4:=Knuth.wrap2 V n1 (by omega);have g4:Hid (V / n1*n1+V % n1=V):=by have:=Nat.div_add_mod V n1;rw [Nat.mul_comm]at this;exact this
    have g5:V % n1<n1:=Nat.mod_lt _ (by omega);have g6:Hid ((V*4294967296+l0) / (n1*4294967296+n0)<=V / n1):=Knuth.start V n1 n0 l0 (by omega) b5;generalize V / n1=Q2 at *;generalize V % n1=R2 at *;clear Vlt'
    go_wp2_with fail
    go_loop [18,16] (fun x y=>nC V n1 n0 l0 x y) (fun x _=>(intOf x).toNat)
    case atStart=>exact⟨Q2,R2,rfl,rfl,g4.out,g6.out,by omega,by omega⟩
    case round=>
     clear f3 f4 g4 g5 g6 hQ2;obtain⟨q,r,rfl,rfl,hu,hq,hr,hb⟩:=hrel;have Hu:=Lib.hid hu;have Hq:=Lib.hid hq;clear hu hq;by_cases c1:(4294967296:Int)<=q
     ·obtain⟨h1q,hq1⟩:=Knuth.step q r n1 n0 V l0 Hu.out (by have:=Vlt.out;have:=bY.out;omega) b5 Hq.out (.inl (by omega));obtain⟨k2,hk⟩:∃k2,q=k2+1:=⟨q-1,by omega⟩;have e8:(q:Int)-1= ↑k2:=by omega
      have Hk0:=Lib.hid hk;clear hk;have Hq1:=Lib.hid (by have:=Hk0.out;rw [this]at hq1;exact hq1);clear hq1 h1q;have Hu2:Hid (k2*n1+(r+n1)=V):=by have:=Hu.out;rw [Hk0.out,Nat.add_mul]at this;simp only [Hid];omega
      by_cases c2:(4294967296:Int)<=(r:Int)+n1
      ·have Hk2:Hid (k2=(V*4294967296+l0) / Y):=by
        rw [Hid,bY.out];exact Knuth.out _ (r+n1) _ _ _ _ Hu2.out (by have:=Vlt.out;have:=bY.out;omega) Hq1.out (Knuth.brk _ _ _ _ _ _ Hu2.out (by have:=Vlt.out;have:=bY.out;omega) b3 (by omega))
       have r2:=Knuth.rest V l0 Y k2 (by have:=bY.out;omega) Hk2.out (by have:=bY.out;omega);have Hf:=Lib.hid (Knuth.fin 4294967296 D y s U Y l1 l0 k V k2 (by omega) HD.out HY.out Hk.out HV.out.symm Hk2.out);have k2lt:Hid (k2<4294967296):=Knuth.qlt V l0 Y k2 Hk2.out Vlt.out b5
       go_wp2_with fail
       go_ret2
       refine⟨jY ?_ ?_,.refl _⟩
       ·have hj:k*4294967296+k2=Qr:=by rw [Hf.out.1];exact HQr.out.symm
        first
         |exact Knuth.joinq k k2 Qr klt.out k2lt.out hj
         |exact Knuth.joinq2 k k2 Qr klt.out k2lt.out hj
         |exact Knuth.joinq3 k k2 Qr klt.out k2lt.out hj
       ·have h:=congrArg (fun x:Nat=>(x:Int) / 2 ^ s) Hf.out.2;simp only [Knuth.shift]at h;rw [<-HRr.out]at h;exact h
      ·go_wp2_with fail
       exact⟨⟨k2,r+n1,by simp,by simp,Hu2.out,Hq1.out,by omega,by omega⟩,by simp [intOf];omega⟩
     ·have m1:=Knuth.wrapq q n0 (by omega) b3
      have m2:((q*n0:Nat):Int)<=18446744065119617025:=by
       have:q*n0<=4294967295*4294967295:=Nat.mul_le_mul (by omega) (by omega);omega
      generalize hm:q*n0=m at *;have Hm:=Lib.hid hm;clear hm;by_cases c3:(4294967296:Int)*r+l0<m
      ·obtain⟨h1q,hq1⟩:=Knuth.step q r n1 n0 V l0 Hu.out (by have:=Vlt.out;have:=bY.out;omega) b5 Hq.out (.inr (by have:=Hm.out;omega));obtain⟨k2,hk⟩:∃k2,q=k2+1:=⟨q-1,by omega⟩;have e8:(q:Int)-1= ↑k2:=by omega
       have Hk0:=Lib.hid hk;clear hk;have Hq1:=Lib.hid (by have:=Hk0.out;rw [this]at hq1;exact hq1);clear hq1 h1q;have Hu2:Hid (k2*n1+(r+n1)=V):=by have:=Hu.out;rw [Hk0.out,Nat.add_mul]at this;simp only [Hid];omega
       by_cases c2:(4294967296:Int)<=(r:Int)+n1
       ·have Hk2:Hid (k2=(V*4294967296+l0) / Y):=by
         rw [Hid,bY.out];exact Knuth.out _ (r+n1) _ _ _ _ Hu2.out (by have:=Vlt.out;have:=bY.out;omega) Hq1.out (Knuth.brk _ _ _ _ _ _ Hu2.out (by have:=Vlt.out;have:=bY.out;omega) b3 (by omega))
        have r2:=Knuth.rest V l0 Y k2 (by have:=bY.out;omega) Hk2.out (by have:=bY.out;omega);have Hf:=Lib.hid (Knuth.fin 4294967296 D y s U Y l1 l0 k V k2 (by omega) HD.out HY.out Hk.out HV.out.symm Hk2.out);have k2lt:Hid (k2<4294967296):=Knuth.qlt V l0 Y k2 Hk2.out Vlt.out b5
        go_wp2_with fail
        go_ret2
        refine⟨jY ?_ ?_,.refl _⟩
        ·have hj:k*4294967296+k2=Qr:=by rw [Hf.out.1];exact HQr.out.symm
         first
          |exact Knuth.joinq k k2 Qr klt.out k2lt.out hj
          |exact Knuth.joinq2 k k2 Qr klt.out k2lt.out hj
          |exact Knuth.joinq3 k k2 Qr klt.out k2lt.out hj
        ·have h:=congrArg (fun x:Nat=>(x:Int) / 2 ^ s) Hf.out.2;simp only [Knuth.shift]at h;rw [<-HRr.out]at h;exact h
       ·go_wp2_with fail
        exact⟨⟨k2,r+n1,by simp,by simp,Hu2.out,Hq1.out,by omega,by omega⟩,by simp [intOf];omega⟩
      ·obtain⟨k2,rfl⟩:∃k2,q=k2:=⟨q,rfl⟩
       have Hk2:Hid (q=(V*4294967296+l0) / Y):=by
        rw [Hid,bY.out];exact Knuth.out _ r _ _ _ _ Hu.out (by have:=Vlt.out;have:=bY.out;omega) Hq.out (by have:=Hm.out;omega)
       obtain⟨k2,hk2⟩:∃k2,k2=q:=⟨q,rfl⟩;subst hk2;have r2:=Knuth.rest V l0 Y k2 (by have:=bY.out;omega) Hk2.out (by have:=bY.out;omega);have Hf:=Lib.hid (Knuth.fin 4294967296 D y s U Y l1 l0 k V k2 (by omega) HD.out HY.out Hk.out HV.out.symm Hk2.out);have k2lt:Hid (k2<4294967296):=Knuth.qlt V l0 Y k2 Hk2.out Vlt.out b5
       go_wp2_with fail
       go_ret2
       refine⟨jY ?_ ?_,.refl _⟩
       ·have hj:k*4294967296+k2=Qr:=by rw [Hf.out.1];exact HQr.out.symm
        first
         |exact Knuth.joinq k k2 Qr klt.out k2lt.out hj
         |exact Knuth.joinq2 k k2 Qr klt.out k2lt.out hj
         |exact Knuth.joinq3 k k2 Qr klt.out k2lt.out hj
       ·have h:=congrArg (fun x:Nat=>(x:Int) / 2 ^ s) Hf.out.2;simp only [Knuth.shift]at h;rw [<-HRr.out]at h;exact h
   ·go_wp2_with fail
    exact⟨⟨k,r+n1,by simp,by simp,Hu2.out,Hq1.out,by omega,by omega⟩,by simp [intOf];omega⟩
  ·have m1:=Knuth.wrapq q n0 (by omega) b3
   have m2:((q*n0:Nat):Int)<=18446744065119617025:=by
    have:q*n0<=4294967295*4294967295:=Nat.mul_le_mul (by omega) (by omega);omega
   generalize hm:q*n0=m at *;have Hm:=Lib.hid hm;clear hm;by_cases c3:(4294967296:Int)*r+l1<m
   ·obtain⟨h1q,hq1⟩:=Knuth.step q r n1 n0 U l1 Hu.out bU.out b4 Hq.out (.inr (by have:=Hm.out;omega));obtain⟨k,hk⟩:∃k,q=k+1:=⟨q-1,by omega⟩;have e8:(q:Int)-1= ↑k:=by omega
    have Hk0:=Lib.hid hk;clear hk;have Hq1:=Lib.hid (by have:=Hk0.out;rw [this]at hq1;exact hq1);clear hq1 h1q;have Hu2:Hid (k*n1+(r+n1)=U):=by have:=Hu.out;rw [Hk0.out,Nat.add_mul]at this;simp only [Hid];omega
    by_cases c2:(4294967296:Int)<=(r:Int)+n1
    ·have Hk:Hid (k=(U*4294967296+l1) / Y):=by
      rw [Hid,bY.out];exact Knuth.out _ (r+n1) _ _ _ _ Hu2.out bU.out Hq1.out (Knuth.brk _ _ _ _ _ _ Hu2.out bU.out b3 (by omega))
     have klt:Hid (k<4294967296):=Knuth.qlt U l1 Y k Hk.out (by have:=bU.out;have:=bY.out;omega) b4;clear Hu Hu2 Hq1 Hq;have r1:=Knuth.rest U l1 Y k (by have:=bY.out;omega) Hk.out (by have:=bY.out;omega);have Vlt:Hid ((U*4294967296+l1) % Y<Y):=Nat.mod_lt _ (by have:=bY.out;omega);generalize hV:(U*4294967296+l1) % Y=V at *;have HV:=Lib.hid hV;clear hV;have Vlt':V<n1*4294967296+n0:=by have:=Vlt.out;have:=bY.out;omega
     have hQ2:=Knuth.init V n1 n0 Vlt' b2 b3;have f3:=Knuth.wrap1 V n1 hQ2;have f4:=Knuth.wrap2 V n1 (by omega);have g4:Hid (V / n1*n1+V % n1=V):=by have:=Nat.div_add_mod V n1;rw [Nat.mul_comm]at this;exact this
     have g5:V % n1<n1:=Nat.mod_lt _ (by omega);have g6:Hid ((V*4294967296+l0) / (n1*4294967296+n0)<=V / n1):=Knuth.start V n1 n0 l0 (by omega) b5;generalize V / n1=Q2 at *;generalize V % n1=R2 at *;clear Vlt'
     go_wp2_with fail
     go_loop [18,16] (fun x y=>nC V n1 n0 l0 x y) (fun x _=>(intOf x).toNat)
     case atStart=>exact⟨Q2,R2,rfl,rfl,g4.out,g6.out,by omega,by omega⟩
     case round=>
      clear f3 f4 g4 g5 g6 hQ2;obtain⟨q,r,rfl,rfl,hu,hq,hr,hb⟩:=hrel;have Hu:=Lib.hid hu;have Hq:=Lib.hid hq;clear hu hq;by_cases c1:(4294967296:Int)<=q
      ·obtain⟨h1q,hq1⟩:=Knuth.step q r n1 n0 V l0 Hu.out (by have:=Vlt.out;have:=bY.out;omega) b5 Hq.out (.inl (by omega));obtain⟨k2,hk⟩:∃k2,q=k2+1:=⟨q-1,by omega⟩;have e8:(q:Int)-1= ↑k2:=by omega
       have Hk0:=Lib.hid hk;clear hk;have Hq1:=Lib.hid (by have:=Hk0.out;rw [this]at hq1;exact hq1);clear hq1 h1q;have Hu2:Hid (k2*n1+(r+n1)=V):=by have:=Hu.out;rw [Hk0.out,Nat.add_mul]at this;simp only [Hid];omega
       by_cases c2:(4294967296:Int)<=(r:Int)+n1
       ·have Hk2:Hid (k2=(V*4294967296+l0) / Y):=by
         rw [Hid,bY.out];exact Knuth.out _ (r+n1) _ _ _ _ Hu2.out (by have:=Vlt.out;have:=bY.out;omega) Hq1.out (Knuth.brk _ _ _ _ _ _ Hu2.out (by have:=Vlt.out;have:=bY.out;omega) b3 (by omega))
        have r2:=Knuth.rest V l0 Y k2 (by have:=bY.out;omega) Hk2.out (by have:=bY.out;omega);have Hf:=Lib.hid (Knuth.fin 4294967296 D y s U Y l1 l0 k V k2 (by omega) HD.out HY.out Hk.out HV.out.symm Hk2.out);have k2lt:Hid (k2<4294967296):=Knuth.qlt V l0 Y k2 Hk2.out Vlt.out b5
        go_wp2_with fail
        go_ret2
        refine⟨jY ?_ ?_,.refl _⟩
        ·have hj:k*4294967296+k2=Qr:=by rw [Hf.out.1];exact HQr.out.symm
         first
          |exact Knuth.joinq k k2 Qr klt.out k2lt.out hj
          |exact Knuth.joinq2 k k2 Qr klt.out k2lt.out hj
          |exact Knuth.joinq3 k k2 Qr klt.out k2lt.out hj
        ·have h:=congrArg (fun x:Nat=>(x:Int) / 2 ^ s) Hf.out.2;simp only [Knuth.shift]at h;rw [<-HRr.out]at h;exact h
       ·go_wp2_with fail
        exact⟨⟨k2,r+n1,by simp,by simp,Hu2.out,Hq1.out,by omega,by omega⟩,by simp [intOf];omega⟩
      ·have m1:=Knuth.wrapq q n0 (by omega) b3
       have m2:((q*n0:Nat):Int)<=18446744065119617025:=by
        have:q*n0<=4294967295*4294967295:=Nat.mul_le_mul (by omega) (by omega);omega
       generalize hm:q*n0=m at *;have Hm:=Lib.hid hm;clear hm;by_cases c3:(4294967296:Int)*r+l0<m
       ·obtain⟨h1q,hq1⟩:=Knuth.step q r n1 n0 V l0 Hu.out (by have:=Vlt.out;have:=bY.out;omega) b5 Hq.out (.inr (by have:=Hm.out;omega));obtain⟨k2,hk⟩:∃k2,q=k2+1:=⟨q-1,by omega⟩;have e8:(q:Int)-1= ↑k2:=by omega
        have Hk0:=Lib.hid hk;clear hk;have Hq1:=Lib.hid (by have:=Hk0.out;rw [this]at hq1;exact hq1);clear hq1 h1q;have Hu2:Hid (k2*n1+(r+n1)=V):=by have:=Hu.out;rw [Hk0.out,Nat.add_mul]at this;simp only [Hid];omega
        by_cases c2:(4294967296:Int)<=(r:Int)+n1
        ·have Hk2:Hid (k2=(V*4294967296+l0) / Y):=by
          rw [Hid,bY.out];exact Knuth.out _ (r+n1) _ _ _ _ Hu2.out (by have:=Vlt.out;have:=bY.out;omega) Hq1.out (Knuth.brk _ _ _ _ _ _ Hu2.out (by have:=Vlt.out;have:=bY.out;omega) b3 (by omega))
         have r2:=Knuth.rest V l0 Y k2 (by have:=bY.out;omega) Hk2.out (by have:=bY.out;omega);have Hf:=Lib.hid (Knuth.fin 4294967296 D y s U Y l1 l0 k V k2 (by omega) HD.out HY.out Hk.out HV.out.symm Hk2.out);have k2lt:Hid (k2<4294967296):=Knuth.qlt V l0 Y k2 Hk2.out Vlt.out b5
         go_wp2_with fail
         go_ret2
         refine⟨jY ?_ ?_,.refl _⟩
         ·have hj:k*4294967296+k2=Qr:=by rw [Hf.out.1];exact HQr.out.symm
          first
           |exact Knuth.joinq k k2 Qr klt.out k2lt.out hj
           |exact Knuth.joinq2 k k2 Qr klt.out k2lt.out hj
           |exact Knuth.joinq3 k k2 Qr klt.out k2lt.out hj
         ·have h:=congrArg (fun x:Nat=>(x:Int) / 2 ^ s) Hf.out.2;simp only [Knuth.shift]at h;rw [<-HRr.out]at h;exact h
        ·go_wp2_with fail
         exact⟨⟨k2,r+n1,by simp,by simp,Hu2.out,Hq1.out,by omega,by omega⟩,by simp [intOf];omega⟩
       ·obtain⟨k2,rfl⟩:∃k2,q=k2:=⟨q,rfl⟩
        have Hk2:Hid (q=(V*4294967296+l0) / Y):=by
         rw [Hid,bY.out];exact Knuth.out _ r _ _ _ _ Hu.out (by have:=Vlt.out;have:=bY.out;omega) Hq.out (by have:=Hm.out;omega)
        obtain⟨k2,hk2⟩:∃k2,k2=q:=⟨q,rfl⟩;subst hk2;have r2:=Knuth.rest V l0 Y k2 (by have:=bY.out;omega) Hk2.out (by have:=bY.out;omega);have Hf:=Lib.hid (Knuth.fin 4294967296 D y s U Y l1 l0 k V k2 (by omega) HD.out HY.out Hk.out HV.out.symm Hk2.out);have k2lt:Hid (k2<4294967296):=Knuth.qlt V l0 Y k2 Hk2.out Vlt.out b5
        go_wp2_with fail
        go_ret2
        refine⟨jY ?_ ?_,.refl _⟩
        ·have hj:k*4294967296+k2=Qr:=by rw [Hf.out.1];exact HQr.out.symm
         first
          |exact Knuth.joinq k k2 Qr klt.out k2lt.out hj
          |exact Knuth.joinq2 k k2 Qr klt.out k2lt.out hj
          |exact Knuth.joinq3 k k2 Qr klt.out k2lt.out hj
        ·have h:=congrArg (fun x:Nat=>(x:Int) / 2 ^ s) Hf.out.2;simp only [Knuth.shift]at h;rw [<-HRr.out]at h;exact h
    ·go_wp2_with fail
     exact⟨⟨k,r+n1,by simp,by simp,Hu2.out,Hq1.out,by omega,by omega⟩,by simp [intOf];omega⟩
   ·have Hk:Hid (q=(U*4294967296+l1) / Y):=by
     rw [Hid,bY.out];exact Knuth.out _ r _ _ _ _ Hu.out bU.out Hq.out (by have:=Hm.out;omega)
    obtain⟨k,hk⟩:∃k,k=q:=⟨q,rfl⟩;subst hk;have klt:Hid (k<4294967296):=Knuth.qlt U l1 Y k Hk.out (by have:=bU.out;have:=bY.out;omega) b4;clear Hu Hq;have r1:=Knuth.rest U l1 Y k (by have:=bY.out;omega) Hk.out (by have:=bY.out;omega);have Vlt:Hid ((U*4294967296+l1) % Y<Y):=Nat.mod_lt _ (by have:=bY.out;omega);generalize hV:(U*4294967296+l1) % Y=V at *;have HV:=Lib.hid hV;clear hV;have Vlt':V<n1*4294967296+n0:=by have:=Vlt.out;have:=bY.out;omega
    have hQ2:=Knuth.init V n1 n0 Vlt' b2 b3;have f3:=Knuth.wrap1 V n1 hQ2;have f4:=Knuth.wrap2 V n1 (by omega);have g4:Hid (V / n1*n1+V % n1=V):=by have:=Nat.div_add_mod V n1;rw [Nat.mul_comm]at this;exact this
    have g5:V % n1<n1:=Nat.mod_lt _ (by omega);have g6:Hid ((V*4294967296+l0) / (n1*4294967296+n0)<=V / n1):=Knuth.start V n1 n0 l0 (by omega) b5;generalize V / n1=Q2 at *;generalize V % n1=R2 at *;clear Vlt'
    go_wp2_with fail
    go_loop [18,16] (fun x y=>nC V n1 n0 l0 x y) (fun x _=>(intOf x).toNat)
    case atStart=>exact⟨Q2,R2,rfl,rfl,g4.out,g6.out,by omega,by omega⟩
    case round=>
     clear f3 f4 g4 g5 g6 hQ2;obtain⟨q,r,rfl,rfl,hu,hq,hr,hb⟩:=hrel;have Hu:=Lib.hid hu;have Hq:=Lib.hid hq;clear hu hq;by_cases c1:(4294967296:Int)<=q
     ·obtain⟨h1q,hq1⟩:=Knuth.step q r n1 n0 V l0 Hu.out (by have:=Vlt.out;have:=bY.out;omega) b5 Hq.out (.inl (by omega));obtain⟨k2,hk⟩:∃k2,q=k2+1:=⟨q-1,by omega⟩;have e8:(q:Int)-1= ↑k2:=by omega
      have Hk0:=Lib.hid hk;clear hk;have Hq1:=Lib.hid (by have:=Hk0.out;rw [this]at hq1;exact hq1);clear hq1 h1q;have Hu2:Hid (k2*n1+(r+n1)=V):=by have:=Hu.out;rw [Hk0.out,Nat.add_mul]at this;simp only [Hid];omega
      by_cases c2:(4294967296:Int)<=(r:Int)+n1
      ·have Hk2:Hid (k2=(V*4294967296+l0) / Y):=by
        rw [Hid,bY.out];exact Knuth.out _ (r+n1) _ _ _ _ Hu2.out (by have:=Vlt.out;have:=bY.out;omega) Hq1.out (Knuth.brk _ _ _ _ _ _ Hu2.out (by have:=Vlt.out;have:=bY.out;omega) b3 (by omega))
       have r2:=Knuth.rest V l0 Y k2 (by have:=bY.out;omega) Hk2.out (by have:=bY.out;omega);have Hf:=Lib.hid (Knuth.fin 4294967296 D y s U Y l1 l0 k V k2 (by omega) HD.out HY.out Hk.out HV.out.symm Hk2.out);have k2lt:Hid (k2<4294967296):=Knuth.qlt V l0 Y k2 Hk2.out Vlt.out b5
       go_wp2_with fail
       go_ret2
       refine⟨jY ?_ ?_,.refl _⟩
       ·have hj:k*4294967296+k2=Qr:=by rw [Hf.out.1];exact HQr.out.symm
        first
         |exact Knuth.joinq k k2 Qr klt.out k2lt.out hj
         |exact Knuth.joinq2 k k2 Qr klt.out k2lt.out hj
         |exact Knuth.joinq3 k k2 Qr klt.out k2lt.out hj
       ·have h:=congrArg (fun x:Nat=>(x:Int) / 2 ^ s) Hf.out.2;simp only [Knuth.shift]at h;rw [<-HRr.out]at h;exact h
      ·go_wp2_with fail
       exact⟨⟨k2,r+n1,by simp,by simp,Hu2.out,Hq1.out,by omega,by omega⟩,by simp [intOf];omega⟩
     ·have m1:=Knuth.wrapq q n0 (by omega) b3
      have m2:((q*n0:Nat):Int)<=18446744065119617025:=by
       have:q*n0<=4294967295*4294967295:=Nat.mul_le_mul (by omega) (by omega);omega
      generalize hm:q*n0=m at *;have Hm:=Lib.hid hm;clear hm;by_cases c3:(4294967296:Int)*r+l0<m
      ·obtain⟨h1q,hq1⟩:=Knuth.step q r n1 n0 V l0 Hu.out (by have:=Vlt.out;have:=bY.out;omega) b5 Hq.out (.inr (by have:=Hm.out;omega));obtain⟨k2,hk⟩:∃k2,q=k2+1:=⟨q-1,by omega⟩;have e8:(q:Int)-1= ↑k2:=by omega
       have Hk0:=Lib.hid hk;clear hk;have Hq1:=Lib.hid (by have:=Hk0.out;rw [this]at hq1;exact hq1);clear hq1 h1q;have Hu2:Hid (k2*n1+(r+n1)=V):=by have:=Hu.out;rw [Hk0.out,Nat.add_mul]at this;simp only [Hid];omega
       by_cases c2:(4294967296:Int)<=(r:Int)+n1
       ·have Hk2:Hid (k2=(V*4294967296+l0) / Y):=by
         rw [Hid,bY.out];exact Knuth.out _ (r+n1) _ _ _ _ Hu2.out (by have:=Vlt.out;have:=bY.out;omega) Hq1.out (Knuth.brk _ _ _ _ _ _ Hu2.out (by have:=Vlt.out;have:=bY.out;omega) b3 (by omega))
        have r2:=Knuth.rest V l0 Y k2 (by have:=bY.out;omega) Hk2.out (by have:=bY.out;omega);have Hf:=Lib.hid (Knuth.fin 4294967296 D y s U Y l1 l0 k V k2 (by omega) HD.out HY.out Hk.out HV.out.symm Hk2.out);have k2lt:Hid (k2<4294967296):=Knuth.qlt V l0 Y k2 Hk2.out Vlt.out b5
        go_wp2_with fail
        go_ret2
        refine⟨jY ?_ ?_,.refl _⟩
        ·have hj:k*4294967296+k2=Qr:=by rw [Hf.out.1];exact HQr.out.symm
         first
          |exact Knuth.joinq k k2 Qr klt.out k2lt.out hj
          |exact Knuth.joinq2 k k2 Qr klt.out k2lt.out hj
          |exact Knuth.joinq3 k k2 Qr klt.out k2lt.out hj
        ·have h:=congrArg (fun x:Nat=>(x:Int) / 2 ^ s) Hf.out.2;simp only [Knuth.shift]at h;rw [<-HRr.out]at h;exact h
       ·go_wp2_with fail
        exact⟨⟨k2,r+n1,by simp,by simp,Hu2.out,Hq1.out,by omega,by omega⟩,by simp [intOf];omega⟩
      ·obtain⟨k2,rfl⟩:∃k2,q=k2:=⟨q,rfl⟩
       have Hk2:Hid (q=(V*4294967296+l0) / Y):=by
        rw [Hid,bY.out];exact Knuth.out _ r _ _ _ _ Hu.out (by have:=Vlt.out;have:=bY.out;omega) Hq.out (by have:=Hm.out;omega)
       obtain⟨k2,hk2⟩:∃k2,k2=q:=⟨q,rfl⟩;subst hk2;have r2:=Knuth.rest V l0 Y k2 (by have:=bY.out;omega) Hk2.out (by have:=bY.out;omega);have Hf:=Lib.hid (Knuth.fin 4294967296 D y s U Y l1 l0 k V k2 (by omega) HD.out HY.out Hk.out HV.out.symm Hk2.out);have k2lt:Hid (k2<4294967296):=Knuth.qlt V l0 Y k2 Hk2.out Vlt.out b5
       go_wp2_with fail
       go_ret2
       refine⟨jY ?_ ?_,.refl _⟩
       ·have hj:k*4294967296+k2=Qr:=by rw [Hf.out.1];exact HQr.out.symm
        first
         |exact Knuth.joinq k k2 Qr klt.out k2lt.out hj
         |exact Knuth.joinq2 k k2 Qr klt.out k2lt.out hj
         |exact Knuth.joinq3 k k2 Qr klt.out k2lt.out hj
       ·have h:=congrArg (fun x:Nat=>(x:Int) / 2 ^ s) Hf.out.2;simp only [Knuth.shift]at h;rw [<-HRr.out]at h;exact h

theorem OI(y:Nat)(h0:0<y)(h:y<18446744073709551616):∃s:Nat,s<=63/\(64:Int)-(Lib.bitLen y:Int)=s/\9223372036854775808<=y*2 ^ s/\y*2 ^ s<18446744073709551616:=by
 obtain⟨h1,h2,h3⟩:=Lib.bitLenAux_bounds 64 y h (by omega);have h4:Lib.bitLen y<=64:=Lib.bitLen_le y 64 (Nat.le_refl _) h;have e:Lib.bitLenAux 64 y=Lib.bitLen y:=rfl;rw [e]at h1 h2 h3;generalize Lib.bitLen y=k at *;refine⟨64-k,by omega,by omega, ?_, ?_⟩
 ·calc 9223372036854775808=2 ^ (k-1)*2 ^ (64-k):=by rw [<-Nat.pow_add];rw [show k-1+(64-k)=63 by omega]
   _<=y*2 ^ (64-k):=Nat.mul_le_mul_right _ h2
 ·calc y*2 ^ (64-k)<2 ^ k*2 ^ (64-k):=Nat.mul_lt_mul_of_pos_right h3 (Nat.two_pow_pos _)
   _=18446744073709551616:=by rw [<-Nat.pow_add];rw [show k+(64-k)=64 by omega]

theorem Mt(y s:Nat):(y:Int)*2 ^ s=((y*2 ^ s:Nat):Int):=by
 rw [Int.natCast_mul];simp

theorem Dl(Y:Nat)(h:Y<18446744073709551616):bits BinOp.and IntKind.u64 ↑Y 4294967295=((Y % 4294967296:Nat):Int):=by
 rw [show(4294967295:Int)=((4294967295:Nat):Int)from rfl,u64_and_nat Y 4294967295 h (by omega)];rw [show(4294967295:Nat)=2 ^ 32-1 from rfl,Nat.and_two_pow_sub_one_eq_mod]

theorem sU(lo s:Nat):IntKind.u64.wrap (↑lo*2 ^ s)=((lo*2 ^ s % 18446744073709551616:Nat):Int):=by
 rw [Mt,IntKind.wrap_u64];simp

theorem KX(hi lo s:Nat)(hs:s<=63)(hh:hi*2 ^ s<18446744073709551616)(hl:lo<18446744073709551616) :
 bits BinOp.or IntKind.u64 (IntKind.u64.wrap (↑hi*2 ^ s)) (↑lo / 2 ^ (64-s))=((hi*2 ^ s+lo / 2 ^ (64-s):Nat):Int):=by
 have h2:lo / 2 ^ (64-s)<2 ^ s:=by
  rw [Nat.div_lt_iff_lt_mul (Nat.two_pow_pos _),<-Nat.pow_add,show s+(64-s)=64 by omega];exact hl
 have h3:(lo:Int) / 2 ^ (64-s)=((lo / 2 ^ (64-s):Nat):Int):=by simp
 have h4:lo / 2 ^ (64-s)<18446744073709551616:=Nat.lt_of_le_of_lt (Nat.div_le_self _ _) hl;rw [sU,h3,Nat.mod_eq_of_lt hh,u64_or_nat _ _ hh h4];rw [Nat.mul_comm hi,<-Nat.two_pow_add_eq_or_of_lt h2]

theorem nD(hi lo y:Nat)(w:World)(hh:hi<y)(h1:lo<18446744073709551616)(h2:y<18446744073709551616) :
 Calls prog 38 #[.int .u64 hi,.int .u64 lo,.int .u64 y] w fun e w'=>e= .returned (.tuple #[.int .u64 ((hi*18446744073709551616+lo) / y:Nat),.int .u64 ((hi*18446744073709551616+lo) % y:Nat)])/\w.Grows w':=by
 by_cases h0:hi=0
 ·subst h0;simpa using Dy lo y w h1 h2 hh
 ·obtain⟨s,hs,hlz,ha,hb⟩:=OI y (by omega) h2;have hhs:hi*2 ^ s<y*2 ^ s:=Nat.mul_lt_mul_of_pos_right hh (Nat.two_pow_pos s)
  have hU:hi*2 ^ s+lo / 2 ^ (64-s)<y*2 ^ s:=by
   have h3:lo / 2 ^ (64-s)<2 ^ s:=by
    rw [Nat.div_lt_iff_lt_mul (Nat.two_pow_pos _),<-Nat.pow_add,show s+(64-s)=64 by omega];exact h1
   have h4:hi*2 ^ s+2 ^ s<=y*2 ^ s:=by
    rw [<-Nat.succ_mul];exact Nat.mul_le_mul_right _ hh
   omega
  have hp:=KX hi lo s hs (by omega) h1;have hw:=sU lo s;have hLlt:lo*2 ^ s % 18446744073709551616<18446744073709551616:=Nat.mod_lt _ (by omega)
  have hD:(hi*18446744073709551616+lo)*2 ^ s=(hi*2 ^ s+lo / 2 ^ (64-s))*18446744073709551616+lo*2 ^ s % 18446744073709551616:=by
   have e1:lo*2 ^ s / 18446744073709551616=lo / 2 ^ (64-s):=by
    rw [show(18446744073709551616:Nat)=2 ^ (64-s)*2 ^ s by rw [<-Nat.pow_add,show 64-s+s=64 by omega],Nat.mul_div_mul_right _ _ (Nat.two_pow_pos s)]
   have e2:=Nat.div_add_mod (lo*2 ^ s) 18446744073709551616;rw [e1]at e2;rw [Nat.add_mul,Nat.mul_right_comm];generalize lo*2 ^ s=a at *;generalize hi*2 ^ s=b at *;generalize lo / 2 ^ (64-s)=c at *;omega
  have hwY:IntKind.u64.wrap (↑y*2 ^ s)=((y*2 ^ s:Nat):Int):=by rw [sU,Nat.mod_eq_of_lt hb]
  generalize hY:y*2 ^ s=Y at *;generalize hUU:hi*2 ^ s+lo / 2 ^ (64-s)=U at *;generalize lo*2 ^ s % 18446744073709551616=L at *
  refine FE (hi*18446744073709551616+lo) hi lo y s Y (Y / 4294967296) (Y % 4294967296) U L (L / 4294967296) (L % 4294967296) _ _ w hh (by omega) hs hwY (by simp) (Dl Y hb) hp hw (by simp) (Dl L hLlt)
   (by omega) (by omega) (by omega) (by omega) (by omega) (show Y=_ by omega) (show U<_ by omega) ?_ hY.symm rfl rfl ?_
  ·show(hi*18446744073709551616+lo)*2 ^ s=(U*4294967296+L / 4294967296)*4294967296+L % 4294967296;rw [hD];omega
  ·intro w;refine gw (bits_LeadingZeros64 y w (by omega) (by omega)) ?_;simp [hlz]
end Go.Proofs.YtcfpoofhokbhlaaGreatDoor
