import Derived.Test.YtcfpoofhokbhlaaGreatDoorVSyN
import Derived.Lib.OthersKept
import Derived.Lib.IndexLaws
import Derived.Lib.ItoaLen
import Derived.ProofKit
import Derived.SizedLaws
import Derived.Test.YtcfpoofhokbhlaaGreatDoorRows
import Derived.Below
import Derived.Handed
import Derived.LaidLaws
import Derived.LaidSub
import Derived.Lay
import Derived.Stop.LaidErr
import Derived.MakeChecks
import Derived.Lib.LaidTab
set_option linter.all false
set_option maxHeartbeats 16000000
set_option maxRecDepth 1000000
namespace Go.Proofs.YtcfpoofhokbhlaaGreatDoor
open Go.Proofs.Tryz Tryz List
open Go.RowKit

def tlD:Code->Code
 | .seq _ b=>b
 |c=>c
def mF(r:Option (Int × Int × Int)):Value:=match r with|some t=>.tuple #[.agg #[.int .i64 t.1,.int .i64 t.2.1],.int .i64 t.2.2,.bool true]|none=>.tuple #[.agg #[.int .i64 0,.int .i64 0],.int .i64 0,.bool false]
theorem IU(Y:World)(bs:Array Obj)(d:Nat)(s:ByteArray)(pos:Nat):(Y.grow bs d).iter s pos=Y.grow (bs.push (.stringIter s pos)) d:=by
 simp [World.iter,World.grow,World.alloc]
theorem Gg(Y:World)(bs:Array Obj)(d j:Nat):(Y.grow bs d).heap[Y.heap.size+j]? =bs[j]?:=by
 simp only [World.grow];rw [Array.getElem?_append_right ze]
 congr 1;omega
theorem BQ(Y:World)(bs:Array Obj)(d j:Nat)(s:ByteArray)(pos:Nat):(Y.grow bs d).iterAt (Y.heap.size+j) s pos=Y.grow (bs.setIfInBounds j (.stringIter s pos)) d:=by
 simp only [World.iterAt,World.grow]
 congr 1
 rw [Array.setIfInBounds_append_right ze]
 congr 2;omega
theorem Oo{p:Int}{f:Nat}{A B:Int}(h:A % p=0/\B % p=0):iG p (f+1) A B=iG p f (A / p) (B / p):=by rw [iG,if_pos h]
theorem mY{p:Int}{f:Nat}{A B:Int}(h:¬(A % p=0/\B % p=0)):iG p f A B=(A,B):=by
 cases f with
 |zero=>rfl
 |succ f=>rw [iG,if_neg h]
def Dq(p:Int)(f0:Nat)(A0 B0:Int)(f:Nat)(A B:Int):Prop:=iG p f A B=iG p f0 A0 B0/\B<p ^ f
theorem Dq.next{p:Int}{f0:Nat}{A0 B0:Int}{f:Nat}{A B:Int}(hp:2<=p)(h:Dq p f0 A0 B0 f A B)(hB:1<=B)(hm:A % p=0/\B % p=0):∃g,Dq p f0 A0 B0 g (A / p) (B / p)/\1<=B / p/\B / p<B:=by
 obtain⟨h1,h2⟩:=h
 cases f with
 |zero=>simp at h2;omega
 |succ g=>
  have e:=Int.mul_ediv_add_emod B p;rw [hm.2,Int.add_zero]at e
  have hq:1<=B / p:=by
   rcases Int.lt_or_le (B / p) 1 with h|h
   ·have:p*(B / p)<=p*0:=Int.mul_le_mul_of_nonneg_left ze ze;omega
   ·exact h
  refine⟨g,⟨by rw [<-h1,Oo hm], ?_⟩,hq, ?_⟩
  ·rw [Int.pow_succ,<-e,Int.mul_comm _ p]at h2;exact Int.lt_of_mul_lt_mul_left h2 ze
  ·have:2*(B / p)<=p*(B / p):=Int.mul_le_mul_of_nonneg_right hp ze;omega
theorem Ga(w:World):(Instr.index 236 (.agg #[.int .i64 2,.int .i64 5]) (.int .i64 0)).run prog w= .ok (.int .i64 2) w:=by simp [Instr.index,go_sem]
theorem Ck(w:World):(Instr.index 236 (.agg #[.int .i64 2,.int .i64 5]) (.int .i64 1)).run prog w= .ok (.int .i64 5) w:=by simp [Instr.index,go_sem]
def PM(w0 wr:World):Nat:=match wr.cell? ⟨w0.heap.size,1,none⟩with|some (.int _ z)=>z.toNat|_=>0
theorem Ra(b:ByteArray)(x p m:Int)(w:World)(bs:Array Obj)(d:Nat)(hb:b.size<=4)(hasc:∀i (h:i<b.size),(b[i]'h).toNat<128)(hx0:0<=x)(hx1:x<=1000000000)(hp0:0<=p)(hp1:p<=10000)
 (u0 u1 u4 u5 u6 u8 u10 u12 u13 u14 u15 u16 u17 u18 u19 u20 u21 u22 u23 u24 u25 u26 u27 u28 u29 u30 u31 u32 u33 u34 u35 u36 u37 u38 u39 u40 u41 u42 u43 u44 u45 u46 u47 u48 u49 u50 u51 u52 u53 u54 u55 u56 u57 u58 u59 u60 u61 u62 u63 u64 u65 u66 u67 u68 u69 u70 u71 u72 u73 u74 u75 u76 u77 u78 u79 u80 u81 u82 u83 u84 u85 u86 u87 u88 u89 u90 u91 u92 u93 u94 u95 u96 u97 u98 u99 u100 u101 u102 u103 u104 u105 u106 u107 u108 u109 u110 u111 u112 u113 u114 u115 u116 u117 u118 u119 u120 u121 u122 u123 u124 u125 u126 u127 u128 u129 u130 u131 u132 u133 u134 u135 u136 u137 u138 u139 u140 u141:Value) :
 Code.wp prog (tlD (tlD (tlD (tlD (tlD (tlD (tlD (tlD (f191.body.getD .skip))))))))) (bodyPost prog f191 (fun e w'=>e= .returned (mF (some ((kH (x*10 ^ b.size+p) (10 ^ b.size)).1,(kH (x*10 ^ b.size+p) (10 ^ b.size)).2,m)))/\w.Grows w')) {tmps:=#[u0,u1,.pointer (some ⟨w.heap.size,0,none⟩),.int .i64 m,u4,u5,u6,.string b,u8,.int .i64 x,u10,.int .i64 p,u12,u13,u14,u15,u16,u17,u18,u19,u20,u21,u22,u23,u24,u25,u26,u27,u28,u29,u30,u31,u32,u33,u34,u35,u36,u37,u38,u39,u40,u41,u42,u43,u44,u45,u46,u47,u48,u49,u50,u51,u52,u53,u54,u55,u56,u57,u58,u59,u60,u61,u62,u63,u64,u65,u66,u67,u68,u69,u70,u71,u72,u73,u74,u75,u76,u77,u78,u79,u80,u81,u82,u83,u84,u85,u86,u87,u88,u89,u90,u91,u92,u93,u94,u95,u96,u97,u98,u99,u100,u101,u102,u103,u104,u105,u106,u107,u108,u109,u110,u111,u112,u113,u114,u115,u116,u117,u118,u119,u120,u121,u122,u123,u124,u125,u126,u127,u128,u129,u130,u131,u132,u133,u134,u135,u136,u137,u138,u139,u140,u141],defers:=[]} ((w.alloc (.cells #[.int .i64 0,.int .i64 0] 39)).grow bs d):=by
 conv=>arg 2;whnf
 have HASC:=yq hasc;clear hasc
 go_wp2_with fail
 go_loopw [9] (fun v9 wr=>∃k:Nat,∃X E:Int,∃bs' d',k<=b.size/\v9= .int .i64 X/\wr=((w.alloc (.cells #[.int .i64 0,.int .i64 E] 39)).grow bs' d')/\bs'[bs.size]? =some (.stringIter b k)/\Hid (X=x*10 ^ k/\E=10 ^ k)/\0<=X/\X<=10000000000000/\1<=E/\E<=10000) (fun _ wr=>b.size-wr.iterPos (w.heap.size+1+bs.size))
 case atStart=>exact⟨0,x,1,_,_,Nat.zero_le _,rfl,IU _ _ _ _ _,by simp,yq zg,by omega,by omega,by omega,by omega⟩
 case round=>
  obtain⟨k,X,E,bs2,d2,hk,rfl,rfl,hit,HXE,hX0,hX1,hE0,hE1⟩:=hrel
  have hkk:((w.alloc (.cells #[.int .i64 0,.int .i64 E] 39)).grow bs2 d2).heap[w.heap.size+1+bs.size]? =some (.stringIter b k):=by
   have:=Gg (w.alloc (.cells #[.int .i64 0,.int .i64 E] 39)) bs2 d2 bs.size;rw [World.size_alloc]at this;rw [this];exact hit
  by_cases hlt:k<b.size
  ·have hnext:∀ty,(Instr.next (.pointer (some ⟨w.heap.size+1+bs.size,0,none⟩)) true ty).run prog ((w.alloc (.cells #[.int .i64 0,.int .i64 E] 39)).grow bs2 d2)=_:=fun ty=>Lib.run_next_ascii_at _ _ b k ty hkk hlt (HASC.out k hlt);have hia:=BQ (w.alloc (.cells #[.int .i64 0,.int .i64 E] 39)) bs2 d2 bs.size b (k+1);rw [World.size_alloc]at hia;rw [hia]at hnext;have hbl:bs.size<bs2.size:=(Array.getElem?_eq_some_iff.1 hit).1;have hit2:(bs2.setIfInBounds bs.size (.stringIter b (k+1)))[bs.size]? =some (.stringIter b (k+1)):=by simp [hbl]
   have hpos:((w.alloc (.cells #[.int .i64 0,.int .i64 E] 39)).grow bs2 d2).iterPos (w.heap.size+1+bs.size)=k:=by simp [World.iterPos,hkk]
   generalize bs2.setIfInBounds bs.size (.stringIter b (k+1))=bs3 at hnext hit2;have hk3:k<=3:=by omega
   have hE3:E<=1000:=by
    have:=HXE.out.2;obtain h|h|h|h:k=0\/k=1\/k=2\/k=3:=by omega
    all_goals rw [this,h];decide
   have hX3:X<=1000000000000:=by
    have e:=HXE.out.1;rw [<-HXE.out.2]at e;have h1:x*E<=1000000000*E:=Int.mul_le_mul_of_nonneg_right hx1 ze;omega
   have w6:IntKind.i64.wrap (10*X)=10*X:=IntWalk.i64_in _ ze;have w7:IntKind.i64.wrap (10*E)=10*E:=IntWalk.i64_in _ ze;have HIT:=yq (And.intro hit2 (And.intro hkk hpos));clear hit hit2 hkk hpos hia
   go_wp2_with fail
   clear hnext
   go_region
   go_wp2_with fail
   go_roundw
   case rel=>exact⟨k+1,_,_,_,_,by omega,rfl,rfl,HIT.out.1,yq ⟨by rw [Int.pow_succ,<-Int.mul_assoc,<-HXE.out.1,Int.mul_comm],by rw [Int.pow_succ,<-HXE.out.2,Int.mul_comm]⟩,by omega,by omega,by omega,by omega⟩
   case measure=>
    have h2:∀dd,((w.alloc (.cells #[.int .i64 0,.int .i64 (10*E)] 39)).grow bs3 dd).heap[w.heap.size+1+bs.size]? =some (.stringIter b (k+1)):=fun dd=>by
     have:=Gg (w.alloc (.cells #[.int .i64 0,.int .i64 (10*E)] 39)) bs3 dd bs.size;rw [World.size_alloc,HIT.out.1]at this;exact this
    have h1:=HIT.out.2.2;rw [h1];simp only [World.iterPos,h2];omega
  ·have hnext:∀ty,(Instr.next (.pointer (some ⟨w.heap.size+1+bs.size,0,none⟩)) true ty).run prog ((w.alloc (.cells #[.int .i64 0,.int .i64 E] 39)).grow bs2 d2)=_:=fun ty=>Lib.run_next_end_at _ _ b k ty hkk hlt;obtain rfl:k=b.size:=by omega
   have hN:X+p<=10000000010000:=by omega
   have HXP:=yq (show X+p=x*10 ^ b.size+p by rw [HXE.out.1]);have HE:=yq HXE.out.2;have h214:E<2 ^ 14:=by rw [show(2:Int) ^ 14=16384 by decide];omega
   clear hkk hit HXE hlt
   go_wp2_with fail
   clear hnext
   go_loopw [114] (fun v114 wr=>∃A B:Int,∃bs' d',wr=((w.alloc (.cells #[.int .i64 A,.int .i64 B] 39)).grow bs' d')/\0<=A/\A<=100000000000000/\1<=B/\B<=10000/\
    ((v114= .int .i64 0/\A=X+p/\B=E)\/(v114= .int .i64 1/\Hid ((A,B)=iG 2 14 (X+p) E))\/(v114= .int .i64 2/\Hid ((A,B)=kH (X+p) E)))) (fun v114 _=>2-(intOf v114).toNat)
   case atStart=>exact⟨_,_,_,_,rfl,by omega,by omega,by omega,by omega,.inl ⟨rfl,rfl,rfl⟩⟩
   case round=>
    obtain⟨A0,B0,bs4,d4,rfl,hA00,hA01,hB00,hB01,hcase⟩:=hrel;rcases hcase with ⟨rfl,rfl,rfl⟩|⟨rfl,H1⟩|⟨rfl,H2⟩
    ·have idx2:=Ga;have idx5:=Ck
     go_wp2_with fail
     clear idx2 idx5
     go_loopw [117] (fun _ wr=>∃f:Nat,∃A B:Int,∃bs' d',wr=((w.alloc (.cells #[.int .i64 A,.int .i64 B] 39)).grow bs' d')/\Hid (Dq 2 14 (X+p) B0 f A B)/\0<=A/\A<=100000000000000/\1<=B/\B<=10000) (fun _ wr=>PM w wr)
     case atStart=>exact⟨14,_,_,_,_,rfl,yq ⟨rfl,h214⟩,by omega,by omega,by omega,by omega⟩
     case round=>
      obtain⟨f,A,B,bs3,d3,rfl,HRD,hA0,hA1,hB0,hB1⟩:=hrel;have e0:=Int.tmod_eq_emod_of_nonneg (b:=2) (show 0<=A from hA0);have e1:=Int.tmod_eq_emod_of_nonneg (b:=2) (show 0<=B by omega);have e2:=Int.tdiv_eq_ediv_of_nonneg (b:=2) (show 0<=A from hA0);have e3:=Int.tdiv_eq_ediv_of_nonneg (b:=2) (show 0<=B by omega);have E:=yq (And.intro e0 (And.intro e1 (And.intro e2 e3)));by_cases ha:A % 2=0
      ·by_cases hb2:B % 2=0
       ·obtain⟨g,hg1,hg2,hg3⟩:=HRD.out.next ze hB0 ⟨ha,hb2⟩;have HG:=yq hg1;have hq0:0<=A / 2:=by omega
        have hq1:A / 2<=100000000000000:=by omega
        have m0:(A.tmod 2==0)=true:=by rw [e0];simpa using ha
        have m1:(B.tmod 2==0)=true:=by rw [e1];simpa using hb2
        have w2:IntKind.i64.wrap (A.tdiv 2)=A / 2:=by rw [e2];exact IntWalk.i64_in _ ze
        have w3:IntKind.i64.wrap (B.tdiv 2)=B / 2:=by rw [e3];exact IntWalk.i64_in _ ze
        have w4:IntKind.i64.wrap (A.tmod 2)=0:=by rw [e0,ha];rfl
        have w5:IntKind.i64.wrap (B.tmod 2)=0:=by rw [e1,hb2];rfl
        clear hg1;clear e0 e1 e2 e3
        go_wp2_with fail
        refine TG.begin 11 (fun w'=>w'.cell? ⟨w.heap.size,1,none⟩=some (.int .i64 B)) zf zf zE (fun hS=>?_);refine TG.tkB 0 hS ?_;refine TG.tkB 2 hS ?_;refine TG.tkB 4 hS ?_;refine TG.tkB 6 hS ?_;refine TG.tkB 5 hS ?_;refine TG.tkB 7 hS ?_;refine TG.one (i:=1) zf rfl (fun K1 hK1=>?_)
        go_simp
        refine TG.go hK1 ?_ (fun hS=>?_)
        focus
         (try dsimp only)
         simp [go_sem]
        clear hK1 K1
        (try simp only [nS])
        refine TG.tkB 3 hS ?_;refine TG.tkB 8 hS ?_;refine TG.one (i:=9) zf rfl (fun K1 hK1=>?_)
        go_simp
        refine TG.go hK1 ?_ (fun hS=>?_)
        focus
         (try dsimp only)
         simp [go_sem]
        clear hK1 K1
        (try simp only [nS])
        refine TG.tkB 10 hS ?_;refine TG.one (i:=11) zf rfl (fun K1 hK1=>?_)
        go_simp
        refine hK1 _ _ (fun h=>absurd rfl h) (TG.done zf ?_);clear hK1 K1 hS
        (try simp only [nS])
        go_wp2_with fail
        go_roundw
        case rel=>exact⟨g,_,_,_,_,rfl,HG,by omega,by omega,by omega,by omega⟩
        case measure=>simp [PM,go_sem];omega
       ·have HX:=yq (mY (p:=2) (f:=f) (A:=A) (B:=B) (fun h=>hb2 h.2));have m0:(A.tmod 2==0)=true:=by rw [e0];simpa using ha
        have m1:(B.tmod 2==0)=false:=by rw [e1];simpa using hb2
        have w4:IntKind.i64.wrap (A.tmod 2)=0:=by rw [e0,ha];rfl
        have w5:IntKind.i64.wrap (B.tmod 2)=B.tmod 2:=IntWalk.i64_in _ (by rw [e1];omega);have hbd:1<=B.tmod 2:=by rw [e1];omega
        clear e0 e1 e2 e3;have hb3:(B % 2==0)=false:=by simpa using hb2
        go_wp2_with fail
        go_roundw
        case rel=>exact⟨_,_,_,_,rfl,by omega,by omega,by omega,by omega,.inr (.inl ⟨rfl,yq (by rw [<-HRD.out.1,HX.out])⟩)⟩
        case measure=>simp [intOf]
      ·have HX:=yq (mY (p:=2) (f:=f) (A:=A) (B:=B) (fun h=>ha h.1));have m0:(A.tmod 2==0)=false:=by rw [e0];simpa using ha
       have w4:IntKind.i64.wrap (A.tmod 2)=A.tmod 2:=IntWalk.i64_in _ (by rw [e0];omega);have hbd:1<=A.tmod 2:=by rw [e0];omega
       clear e0 e1 e2 e3;have ha3:(A % 2==0)=false:=by simpa using ha
       go_wp2_with fail
       go_roundw
       case rel=>exact⟨_,_,_,_,rfl,by omega,by omega,by omega,by omega,.inr (.inl ⟨rfl,yq (by rw [<-HRD.out.1,HX.out])⟩)⟩
       case measure=>simp [intOf]
    ·have idx2:=Ga;have idx5:=Ck
     go_wp2_with fail
     clear idx2 idx5
     go_loopw [117] (fun _ wr=>∃f:Nat,∃A B:Int,∃bs' d',wr=((w.alloc (.cells #[.int .i64 A,.int .i64 B] 39)).grow bs' d')/\Hid (Dq 5 6 A0 B0 f A B)/\0<=A/\A<=100000000000000/\1<=B/\B<=10000) (fun _ wr=>PM w wr)
     case atStart=>exact⟨6,_,_,_,_,rfl,yq ⟨rfl,xF⟩,by omega,by omega,by omega,by omega⟩
     case round=>
      obtain⟨f,A,B,bs3,d3,rfl,HRD,hA0,hA1,hB0,hB1⟩:=hrel;have e0:=Int.tmod_eq_emod_of_nonneg (b:=5) (show 0<=A from hA0);have e1:=Int.tmod_eq_emod_of_nonneg (b:=5) (show 0<=B by omega);have e2:=Int.tdiv_eq_ediv_of_nonneg (b:=5) (show 0<=A from hA0);have e3:=Int.tdiv_eq_ediv_of_nonneg (b:=5) (show 0<=B by omega);have E:=yq (And.intro e0 (And.intro e1 (And.intro e2 e3)));by_cases ha:A % 5=0
      ·by_cases hb2:B % 5=0
       ·obtain⟨g,hg1,hg2,hg3⟩:=HRD.out.next ze hB0 ⟨ha,hb2⟩;have HG:=yq hg1;have hq0:0<=A / 5:=by omega
        have hq1:A / 5<=100000000000000:=by omega
        have m0:(A.tmod 5==0)=true:=by rw [e0];simpa using ha
        have m1:(B.tmod 5==0)=true:=by rw [e1];simpa using hb2
        have w2:IntKind.i64.wrap (A.tdiv 5)=A / 5:=by rw [e2];exact IntWalk.i64_in _ ze
        have w3:IntKind.i64.wrap (B.tdiv 5)=B / 5:=by rw [e3];exact IntWalk.i64_in _ ze
        have w4:IntKind.i64.wrap (A.tmod 5)=0:=by rw [e0,ha];rfl
        have w5:IntKind.i64.wrap (B.tmod 5)=0:=by rw [e1,hb2];rfl
        clear hg1;clear e0 e1 e2 e3
        go_wp2_with fail
        refine TG.begin 11 (fun w'=>w'.cell? ⟨w.heap.size,1,none⟩=some (.int .i64 B)) zf zf zE (fun hS=>?_);refine TG.tkB 0 hS ?_;refine TG.tkB 2 hS ?_;refine TG.tkB 4 hS ?_;refine TG.tkB 6 hS ?_;refine TG.tkB 5 hS ?_;refine TG.tkB 7 hS ?_;refine TG.one (i:=1) zf rfl (fun K1 hK1=>?_)
        go_simp
        refine TG.go hK1 ?_ (fun hS=>?_)
        focus
         (try dsimp only)
         simp [go_sem]
        clear hK1 K1
        (try simp only [nS])
        refine TG.tkB 3 hS ?_;refine TG.tkB 8 hS ?_;refine TG.one (i:=9) zf rfl (fun K1 hK1=>?_)
        go_simp
        refine TG.go hK1 ?_ (fun hS=>?_)
        focus
         (try dsimp only)
         simp [go_sem]
        clear hK1 K1
        (try simp only [nS])
        refine TG.tkB 10 hS ?_;refine TG.one (i:=11) zf rfl (fun K1 hK1=>?_)
        go_simp
        refine hK1 _ _ (fun h=>absurd rfl h) (TG.done zf ?_);clear hK1 K1 hS
        (try simp only [nS])
        go_wp2_with fail
        go_roundw
        case rel=>exact⟨g,_,_,_,_,rfl,HG,by omega,by omega,by omega,by omega⟩
        case measure=>simp [PM,go_sem];omega
       ·have HX:=yq (mY (p:=5) (f:=f) (A:=A) (B:=B) (fun h=>hb2 h.2));have m0:(A.tmod 5==0)=true:=by rw [e0];simpa using ha
        have m1:(B.tmod 5==0)=false:=by rw [e1];simpa using hb2
        have w4:IntKind.i64.wrap (A.tmod 5)=0:=by rw [e0,ha];rfl
        have w5:IntKind.i64.wrap (B.tmod 5)=B.tmod 5:=IntWalk.i64_in _ (by rw [e1];omega);have hbd:1<=B.tmod 5:=by rw [e1];omega
        clear e0 e1 e2 e3;have hb3:(B % 5==0)=false:=by simpa using hb2
        go_wp2_with fail
        go_roundw
        case rel=>exact⟨_,_,_,_,rfl,by omega,by omega,by omega,by omega,.inr (.inr ⟨rfl,yq xv⟩)⟩
        case measure=>simp [intOf]
      ·have HX:=yq (mY (p:=5) (f:=f) (A:=A) (B:=B) (fun h=>ha h.1));have m0:(A.tmod 5==0)=false:=by rw [e0];simpa using ha
       have w4:IntKind.i64.wrap (A.tmod 5)=A.tmod 5:=IntWalk.i64_in _ (by rw [e0];omega);have hbd:1<=A.tmod 5:=by rw [e0];omega
       clear e0 e1 e2 e3;have ha3:(A % 5==0)=false:=by simpa using ha
       go_wp2_with fail
       go_roundw
       case rel=>exact⟨_,_,_,_,rfl,by omega,by omega,by omega,by omega,.inr (.inr ⟨rfl,yq xv⟩)⟩
       case measure=>simp [intOf]
    ·go_wp2_with fail
     go_returns
     refine⟨?_,.of_below af⟩;have e:=H2.out;rw [HXP.out,HE.out]at e;rw [<-e];rfl

theorem um:∀(l:List UInt8) (x y:Int),gV x l=some y->∀c∈l,c.toNat<128
 | [],_,_,_,c,hc=>by cases hc
 |e::r,x,y,h,c,hc=>by
  simp only [gV]at h
  split at h
  ·rename_i hd
   rcases mem_cons.1 hc with rfl|hc
   ·simp only [om,Bool.and_eq_true,decide_eq_true_eq]at hd;omega
   ·exact um r _ y h c hc
  ·cases h
def Jo(a b:ByteArray)(m:Int):Option (Int × Int × Int):=(gV 0 a.data.toList).bind fun x=>(gV 0 b.data.toList).map fun p=>((kH (x*10 ^ b.size+p) (10 ^ b.size)).1,(kH (x*10 ^ b.size+p) (10 ^ b.size)).2,m)
theorem AB(a b:ByteArray)(m:Int)(w:World)(bs:Array Obj)(d:Nat)(ha:a.size<=9)(hb:b.size<=4)
 (u0 u1 u4 u5 u8 u9 u10 u11 u12 u13 u14 u15 u16 u17 u18 u19 u20 u21 u22 u23 u24 u25 u26 u27 u28 u29 u30 u31 u32 u33 u34 u35 u36 u37 u38 u39 u40 u41 u42 u43 u44 u45 u46 u47 u48 u49 u50 u51 u52 u53 u54 u55 u56 u57 u58 u59 u60 u61 u62 u63 u64 u65 u66 u67 u68 u69 u70 u71 u72 u73 u74 u75 u76 u77 u78 u79 u80 u81 u82 u83 u84 u85 u86 u87 u88 u89 u90 u91 u92 u93 u94 u95 u96 u97 u98 u99 u100 u101 u102 u103 u104 u105 u106 u107 u108 u109 u110 u111 u112 u113 u114 u115 u116 u117 u118 u119 u120 u121 u122 u123 u124 u125 u126 u127 u128 u129 u130 u131 u132 u133 u134 u135 u136 u137 u138 u139 u140 u141:Value) :
 Code.wp prog (tlD (tlD (tlD (tlD (tlD (f191.body.getD .skip)))))) (bodyPost prog f191 (fun e w'=>e= .returned (mF (Jo a b m))/\w.Grows w')) {tmps:=#[u0,u1,.pointer (some ⟨w.heap.size,0,none⟩),.int .i64 m,u4,u5,.string a,.string b,u8,u9,u10,u11,u12,u13,u14,u15,u16,u17,u18,u19,u20,u21,u22,u23,u24,u25,u26,u27,u28,u29,u30,u31,u32,u33,u34,u35,u36,u37,u38,u39,u40,u41,u42,u43,u44,u45,u46,u47,u48,u49,u50,u51,u52,u53,u54,u55,u56,u57,u58,u59,u60,u61,u62,u63,u64,u65,u66,u67,u68,u69,u70,u71,u72,u73,u74,u75,u76,u77,u78,u79,u80,u81,u82,u83,u84,u85,u86,u87,u88,u89,u90,u91,u92,u93,u94,u95,u96,u97,u98,u99,u100,u101,u102,u103,u104,u105,u106,u107,u108,u109,u110,u111,u112,u113,u114,u115,u116,u117,u118,u119,u120,u121,u122,u123,u124,u125,u126,u127,u128,u129,u130,u131,u132,u133,u134,u135,u136,u137,u138,u139,u140,u141],defers:=[]} ((w.alloc (.cells #[.int .i64 0,.int .i64 0] 39)).grow bs d):=by
 have HA:Hid _:=yq (fun w=>oV a w ze);have HB:Hid _:=yq (fun w=>oV b w ze);unfold Jo
 cases hna:gV 0 a.data.toList with
 |none=>
  rw [hna]at HA;simp only [El,Option.bind_none]at HA ⊢;clear hna
  cases hnb:gV 0 b.data.toList with
  |none=>
   rw [hnb]at HB;simp only [El]at HB;clear hnb
   conv=>arg 2;whnf
   go_wp2_with ((go_at_call 197;first|(with_reducible refine(HA.out _).mono ?_)|(with_reducible refine(HB.out _).mono ?_));rintro e w' ⟨rfl,rfl⟩)
   go_returns
   exact⟨rfl,.of_below af⟩
  |some p=>
   rw [hnb]at HB;simp only [El]at HB;clear hnb
   conv=>arg 2;whnf
   go_wp2_with ((go_at_call 197;first|(with_reducible refine(HA.out _).mono ?_)|(with_reducible refine(HB.out _).mono ?_));rintro e w' ⟨rfl,rfl⟩)
   go_returns
   exact⟨rfl,.of_below af⟩
 |some x=>
  have bx:=Ah _ 0 x ze hna;rw [hna]at HA;simp only [El,Option.bind_some]at HA ⊢;clear hna
  cases hnb:gV 0 b.data.toList with
  |none=>
   rw [hnb]at HB;simp only [El,Option.map_none]at HB ⊢;clear hnb
   conv=>arg 2;whnf
   go_wp2_with ((go_at_call 197;first|(with_reducible refine(HA.out _).mono ?_)|(with_reducible refine(HB.out _).mono ?_));rintro e w' ⟨rfl,rfl⟩)
   go_returns
   exact⟨rfl,.of_below af⟩
  |some p=>
   have bp:=Ah _ 0 p ze hnb;have hasc:=um _ _ _ hnb
   have hx:x<=1000000000:=by
    have h1:a.data.toList.length=a.size:=by simp
    rw [h1]at bx;have h2:=Nat.pow_le_pow_right (show 1<=10 by omega) ha;have h3:((10 ^ a.size:Nat):Int)<=((10 ^ 9:Nat):Int):=by exact_mod_cast h2
    simp at h3;omega
   have hp:p<=10000:=by
    have h1:b.data.toList.length=b.size:=by simp
    rw [h1]at bp;have h2:=Nat.pow_le_pow_right (show 1<=10 by omega) hb;have h3:((10 ^ b.size:Nat):Int)<=((10 ^ 4:Nat):Int):=by exact_mod_cast h2
    simp at h3;omega
   have hx0:=bx.1;have hp0:=bp.1;rw [hnb]at HB;simp only [El,Option.map_some]at HB ⊢;clear hnb bx bp
   have hasc2:∀i (h:i<b.size),(b[i]'h).toNat<128:=fun i h=>hasc _ (by
    have:b[i]'h=b.data.toList[i]' zF:=by simp;rfl
    rw [this];exact getElem_mem _)
   have HH:=yq (And.intro hasc2 (And.intro hx (And.intro hp (And.intro hx0 hp0))));clear hasc hasc2 hx hp hx0 hp0
   conv=>arg 2;whnf
   apply wp_seq_k;intro K1 hK1;have HK1:=yq hK1;clear hK1
   go_wp2_with ((go_at_call 197;first|(with_reducible refine(HA.out _).mono ?_)|(with_reducible refine(HB.out _).mono ?_));rintro e w' ⟨rfl,rfl⟩)
   refine HK1.out _ _ ?_;clear HK1 K1;apply wp_seq_k;intro K2 hK2;have HK2:=yq hK2;clear hK2
   go_wp2_with ((go_at_call 197;first|(with_reducible refine(HA.out _).mono ?_)|(with_reducible refine(HB.out _).mono ?_));rintro e w' ⟨rfl,rfl⟩)
   refine HK2.out _ _ ?_;clear HK2 K2;apply wp_seq_k;intro K3 hK3;have HK3:=yq hK3;clear hK3
   go_wp2_with ((go_at_call 197;first|(with_reducible refine(HA.out _).mono ?_)|(with_reducible refine(HB.out _).mono ?_));rintro e w' ⟨rfl,rfl⟩)
   refine HK3.out _ _ ?_;exact Ra b x p m w bs _ hb HH.out.1 HH.out.2.2.2.1 HH.out.2.1 HH.out.2.2.2.2 HH.out.2.2.1 _ _ _ _ _ _ _ _ _ _ _ _ _ _ _ _ _ _ _ _ _ _ _ _ _ _ _ _ _ _ _ _ _ _ _ _ _ _ _ _ _ _ _ _ _ _ _ _ _ _ _ _ _ _ _ _ _ _ _ _ _ _ _ _ _ _ _ _ _ _ _ _ _ _ _ _ _ _ _ _ _ _ _ _ _ _ _ _ _ _ _ _ _ _ _ _ _ _ _ _ _ _ _ _ _ _ _ _ _ _ _ _ _ _ _ _ _ _ _ _ _ _ _ _ _ _ _ _ _ _ _ _ _ _ _ _ _

theorem nX:∀(l:List UInt8) (c:UInt8),Lib.index l [c]=Lib.indexByte l c
 | [],c=>by simp [Lib.index,Lib.indexByte]
 |b::l,c=>by
  have ih:=nX l c
  have hp:([c]:List UInt8).isPrefixOf (b::l)=(b==c):=by
   simp only [isPrefixOf,Bool.and_true];exact BEq.comm
  unfold Lib.index Lib.indexByte;rw [hp,ih]
def pG(t:ByteArray):ByteArray:=⟨(Lib.cut t.data.toList [46]).1.toArray⟩
def nG(t:ByteArray):ByteArray:=⟨(Lib.cut t.data.toList [46]).2.1.toArray⟩
def oq(t:ByteArray):Bool:=(Lib.cut t.data.toList [46]).2.2
theorem Mk{t:ByteArray}{o:Nat}(h:Lib.indexByte t.data.toList 46=o)(ho:o<t.size):pG t=t.extract 0 o/\nG t=t.extract (o+1) t.size/\oq t=true:=by
 have e:Lib.cut t.data.toList [46]=(t.data.toList.take o,t.data.toList.drop (o+1),true):=by
  unfold Lib.cut;rw [nX,h,if_pos ze];simp
 unfold pG nG oq;rw [e];refine⟨?_, ?_,rfl⟩
 ·apply ByteArray.ext;rw [ByteArray.data_extract];apply Array.ext';rw [Array.toList_extract];simp [List.extract]
 ·apply ByteArray.ext;rw [ByteArray.data_extract];apply Array.ext';rw [Array.toList_extract];simp only [List.extract];rw [take_of_length_le];rw [length_drop,Array.length_toList];exact Nat.le_refl _
theorem Ml{t:ByteArray}(h:Lib.indexByte t.data.toList 46= -1):pG t=t/\nG t=⟨#[]⟩/\oq t=false:=by
 have e:Lib.cut t.data.toList [46]=(t.data.toList,[],false):=by
  unfold Lib.cut;rw [nX,h,if_neg ze]
 unfold pG nG oq;rw [e];exact⟨by apply ByteArray.ext;simp,rfl,rfl⟩
theorem KO(t:ByteArray)(w:World)(ht:t.size<=maxLen):Calls prog 201 #[.string t,.string ⟨#[46]⟩] w fun e w'=>e= .returned (.tuple #[.string (pG t),.string (nG t),.bool (oq t)])/\w.Grows w':=by
 unfold maxLen at ht;have HI:Hid _:=yq (fun w=>stringslite_Index_one t 46 w);have hge:=Lib.indexByte_ge t.data.toList 46;by_cases h:Lib.indexByte t.data.toList 46= -1
 ·have HC:=yq (Ml h);rw [h]at HI;clear h hge
  go_enter func201,ntmps201
  go_wp2_with ((go_at_call 207;(with_reducible refine gw (HI.out _) ?_)))
  go_returns
  exact⟨by rw [HC.out.1,HC.out.2.1,HC.out.2.2];rfl,.of_below af⟩
 ·obtain⟨o,ho⟩:∃o:Nat,Lib.indexByte t.data.toList 46=o:=⟨(Lib.indexByte t.data.toList 46).toNat,by omega⟩
  have hlt:o<t.size:=by
   have:=(Lib.indexByte_some ho).1;have h2:=(List.getElem?_eq_some_iff.1 this).1;simpa using h2
  have HC:=yq (Mk ho hlt);rw [ho]at HI;have h1:(o:Int)+1<=t.size:=by omega
  have h2:¬(o:Int)<0:=by omega
  have h3:(o:Int)<=t.size:=by omega
  have e1:(t.extract 0 (o:Int).toNat)=t.extract 0 o:=by rw [Int.toNat_natCast]
  have e2:t.extract ((o:Int)+1).toNat t.size=t.extract (o+1) t.size:=by congr 1
  have E:=yq (And.intro e1 e2);clear e1 e2 h hge ho
  go_enter func201,ntmps201
  go_wp2_with ((go_at_call 207;(with_reducible refine gw (HI.out _) ?_)))
  go_quiet (fail)
  go_wp2_with fail
  go_returns
  exact⟨by rw [HC.out.1,HC.out.2.1,HC.out.2.2];first|rfl|(simp;done),.of_below af⟩
theorem PX(t:ByteArray)(w:World)(ht:t.size<=maxLen):Calls prog 196 #[.string t,.string ⟨#[46]⟩] w fun e w'=>e= .returned (.tuple #[.string (pG t),.string (nG t),.bool (oq t)])/\w.Grows w':=by
 have HI:Hid _:=yq (fun w=>KO t w ht);generalize pG t=a at *;generalize nG t=b at *;generalize oq t=c at *
 go_enter func196,ntmps196
 go_wp2_with ((go_at_call 201;(with_reducible refine gvq (HI.out _) ?_);intro bs dr))
 exact lU

def rG(a b:ByteArray)(pt:Bool):Bool:=pF a.data.toList b.data.toList pt
def Rb(t:ByteArray)(m:Int):Option (Int × Int × Int):=if rG (pG t) (nG t) (oq t)=true then Jo (pG t) (nG t) m else none
theorem OZ(a b:ByteArray)(pt:Bool):rG a b pt=(decide (1<=a.size)&&decide (a.size<=9)&&!(decide (1<a.size)&&decide (a.data.toList.head? =some 48))&&!(pt&&(decide (b.size<1) || decide (4<b.size)))):=by
 unfold rG pF;have h1:a.data.toList.length=a.size:=by simp
 have h2:b.data.toList.length=b.size:=by simp
 rw [h1,h2]
theorem head_eq{a:ByteArray}(h:0<a.size):(a.data.toList.head? =some 48)↔((a[0]'h).toNat:Int)=48:=by
 have h2:0<a.data.toList.length:=by simpa using h
 rw [head?_eq_getElem?,getElem?_eq_getElem h2];have e:a.data.toList[0]=a[0]'h:=by simp;rfl
 rw [e];constructor
 ·intro k;simp only [Option.some.injEq]at k;rw [k];rfl
 ·intro k
  congr 1
  apply UInt8.toNat_inj.1;have:(48:UInt8).toNat=48:=rfl;omega
def AC(a b:ByteArray)(pt:Bool)(m:Int):Option (Int × Int × Int):=if rG a b pt=true then Jo a b m else none
theorem Mo{t:ByteArray}(h:oq t=false):(nG t).size=0:=by
 unfold oq Lib.cut at h;unfold nG Lib.cut
 split at h
 ·simp at h
 ·rename_i hc;rw [if_neg hc];rfl
theorem Pz(t a b:ByteArray)(pt:Bool)(m:Int)(w:World)(hpt:pt=false->b.size=0)
 (HC:Hid (∀w,Calls prog 196 #[.string t,.string ⟨#[46]⟩] w fun e w'=>e= .returned (.tuple #[.string a,.string b,.bool pt])/\w.Grows w'))
 (u1 u4 u5 u6 u7 u8 u9 u10 u11 u12 u13 u14 u15 u16 u17 u18 u19 u20 u21 u22 u23 u24 u25 u26 u27 u28 u29 u30 u31 u32 u33 u34 u35 u36 u37 u38 u39 u40 u41 u42 u43 u44 u45 u46 u47 u48 u49 u50 u51 u52 u53 u54 u55 u56 u57 u58 u59 u60 u61 u62 u63 u64 u65 u66 u67 u68 u69 u70 u71 u72 u73 u74 u75 u76 u77 u78 u79 u80 u81 u82 u83 u84 u85 u86 u87 u88 u89 u90 u91 u92 u93 u94 u95 u96 u97 u98 u99 u100 u101 u102 u103 u104 u105 u106 u107 u108 u109 u110 u111 u112 u113 u114 u115 u116 u117 u118 u119 u120 u121 u122 u123 u124 u125 u126 u127 u128 u129 u130 u131 u132 u133 u134 u135 u136 u137 u138 u139 u140 u141:Value) :
 Code.wp prog (tlD (tlD (tlD (f191.body.getD .skip)))) (bodyPost prog f191 (fun e w'=>e= .returned (mF (AC a b pt m))/\w.Grows w')) {tmps:=#[.string t,u1,.pointer (some ⟨w.heap.size,0,none⟩),.int .i64 m,u4,u5,u6,u7,u8,u9,u10,u11,u12,u13,u14,u15,u16,u17,u18,u19,u20,u21,u22,u23,u24,u25,u26,u27,u28,u29,u30,u31,u32,u33,u34,u35,u36,u37,u38,u39,u40,u41,u42,u43,u44,u45,u46,u47,u48,u49,u50,u51,u52,u53,u54,u55,u56,u57,u58,u59,u60,u61,u62,u63,u64,u65,u66,u67,u68,u69,u70,u71,u72,u73,u74,u75,u76,u77,u78,u79,u80,u81,u82,u83,u84,u85,u86,u87,u88,u89,u90,u91,u92,u93,u94,u95,u96,u97,u98,u99,u100,u101,u102,u103,u104,u105,u106,u107,u108,u109,u110,u111,u112,u113,u114,u115,u116,u117,u118,u119,u120,u121,u122,u123,u124,u125,u126,u127,u128,u129,u130,u131,u132,u133,u134,u135,u136,u137,u138,u139,u140,u141],defers:=[]} (w.alloc (.cells #[.int .i64 0,.int .i64 0] 39)):=by
 have hf:=OZ a b pt;have hbad (h:rG a b pt=false):AC a b pt m=none:=by unfold AC;rw [h];rfl
 have hgood (h:rG a b pt=true):AC a b pt m=Jo a b m:=by unfold AC;rw [h];rfl
 conv=>arg 2;whnf
 apply wp_seq_k;intro K1 hK1;have HK1:=yq hK1;clear hK1
 go_wp2_with ((go_at_call 196;(with_reducible refine gvq (HC.out _) ?_);intro bs dr))
 clear HC;by_cases s1:1<=a.size
 case neg=>
  have HX:=yq (hbad (by rw [hf,decide_eq_false s1];rfl));have z1:(a.size:Int)<1:=by omega
  clear hf hbad hgood;refine HK1.out _ _ ?_;apply wp_seq_k;intro K2 hK2;have HK2:=yq hK2;clear hK2
  go_wp2_with fail
  go_returns
  exact⟨by rw [HX.out];rfl,.of_below af⟩
 by_cases s2:a.size<=9
 case neg=>
  have HX:=yq (hbad (by rw [hf,decide_eq_false s2,Bool.and_false];rfl));have z1:(9:Int)<(a.size:Int):=by omega
  clear hf hbad hgood;refine HK1.out _ _ ?_;apply wp_seq_k;intro K2 hK2;have HK2:=yq hK2;clear hK2
  go_wp2_with fail
  go_returns
  exact⟨by rw [HX.out];rfl,.of_below af⟩
 have h0:0<a.size:=by omega
 have hh:=head_eq h0
 have key (hz:(decide (1<a.size)&&decide (a.data.toList.head? =some 48))=false):rG a b pt=!(pt&&(decide (b.size<1) || decide (4<b.size))):=by
  rw [hf,decide_eq_true s1,decide_eq_true s2,hz];rfl
 by_cases s3:1<a.size
 ·by_cases s4:((a[0]'h0).toNat:Int)=48
  ·have HX:=yq (hbad (by rw [hf,decide_eq_true s3,decide_eq_true (hh.2 s4)];simp));have z1:(1:Int)<(a.size:Int):=by omega
   have z2:(a.size:Int)<=9:=by omega
   clear hf hbad hgood key hh;refine HK1.out _ _ ?_;apply wp_seq_k;intro K2 hK2;have HK2:=yq hK2;clear hK2
   go_wp2_with fail
   go_returns
   exact⟨by rw [HX.out];rfl,.of_below af⟩
  ·have hz:(decide (1<a.size)&&decide (a.data.toList.head? =some 48))=false:=by rw [decide_eq_false (fun h=>s4 (hh.1 h)),Bool.and_false]
   have hk:=key hz;have s7:(((a[0]'h0).toNat:Int)==48)=false:=by simpa using s4
   have z1:(1:Int)<(a.size:Int):=by omega
   have z2:(a.size:Int)<=9:=by omega
   clear hf key hh hz;cases pt
   ·have HX:=yq (hgood (by rw [hk];rfl));have hb0:=hpt rfl;clear hk hbad hgood hpt;refine HK1.out _ _ ?_;apply wp_seq_k;intro K2 hK2;have HK2:=yq hK2;clear hK2
    go_wp2_with fail
    refine HK2.out _ _ ?_;rw [HX.out];exact AB a b m w bs _ ze ze _ _ _ _ _ _ _ _ _ _ _ _ _ _ _ _ _ _ _ _ _ _ _ _ _ _ _ _ _ _ _ _ _ _ _ _ _ _ _ _ _ _ _ _ _ _ _ _ _ _ _ _ _ _ _ _ _ _ _ _ _ _ _ _ _ _ _ _ _ _ _ _ _ _ _ _ _ _ _ _ _ _ _ _ _ _ _ _ _ _ _ _ _ _ _ _ _ _ _ _ _ _ _ _ _ _ _ _ _ _ _ _ _ _ _ _ _ _ _ _ _ _ _ _ _ _ _ _ _ _ _ _ _ _ _ _ _ _
   ·clear hpt;by_cases s5:b.size<1
    ·have HX:=yq (hbad (by rw [hk,decide_eq_true s5];rfl));have z3:(b.size:Int)<1:=by omega
     clear hk hbad hgood;refine HK1.out _ _ ?_;apply wp_seq_k;intro K2 hK2;have HK2:=yq hK2;clear hK2
     go_wp2_with fail
     go_returns
     exact⟨by rw [HX.out];rfl,.of_below af⟩
    ·by_cases s6:4<b.size
     ·have HX:=yq (hbad (by rw [hk,decide_eq_true s6];simp));have z3:(4:Int)<(b.size:Int):=by omega
      clear hk hbad hgood;refine HK1.out _ _ ?_;apply wp_seq_k;intro K2 hK2;have HK2:=yq hK2;clear hK2
      go_wp2_with fail
      go_returns
      exact⟨by rw [HX.out];rfl,.of_below af⟩
     ·have HX:=yq (hgood xt);have z3:(b.size:Int)<=4:=by omega
      have z4:(1:Int)<=(b.size:Int):=by omega
      clear hk hbad hgood;refine HK1.out _ _ ?_;apply wp_seq_k;intro K2 hK2;have HK2:=yq hK2;clear hK2
      go_wp2_with fail
      refine HK2.out _ _ ?_;rw [HX.out];exact AB a b m w bs _ ze ze _ _ _ _ _ _ _ _ _ _ _ _ _ _ _ _ _ _ _ _ _ _ _ _ _ _ _ _ _ _ _ _ _ _ _ _ _ _ _ _ _ _ _ _ _ _ _ _ _ _ _ _ _ _ _ _ _ _ _ _ _ _ _ _ _ _ _ _ _ _ _ _ _ _ _ _ _ _ _ _ _ _ _ _ _ _ _ _ _ _ _ _ _ _ _ _ _ _ _ _ _ _ _ _ _ _ _ _ _ _ _ _ _ _ _ _ _ _ _ _ _ _ _ _ _ _ _ _ _ _ _ _ _ _ _ _ _ _
 ·have hz:(decide (1<a.size)&&decide (a.data.toList.head? =some 48))=false:=by rw [decide_eq_false s3,Bool.false_and]
  have hk:=key hz;have z1:(a.size:Int)<=1:=by omega
  have z2:(1:Int)<=(a.size:Int):=by omega
  clear hf key hh hz;cases pt
  ·have HX:=yq (hgood (by rw [hk];rfl));have hb0:=hpt rfl;clear hk hbad hgood hpt;refine HK1.out _ _ ?_;apply wp_seq_k;intro K2 hK2;have HK2:=yq hK2;clear hK2
   go_wp2_with fail
   refine HK2.out _ _ ?_;rw [HX.out];exact AB a b m w bs _ ze ze _ _ _ _ _ _ _ _ _ _ _ _ _ _ _ _ _ _ _ _ _ _ _ _ _ _ _ _ _ _ _ _ _ _ _ _ _ _ _ _ _ _ _ _ _ _ _ _ _ _ _ _ _ _ _ _ _ _ _ _ _ _ _ _ _ _ _ _ _ _ _ _ _ _ _ _ _ _ _ _ _ _ _ _ _ _ _ _ _ _ _ _ _ _ _ _ _ _ _ _ _ _ _ _ _ _ _ _ _ _ _ _ _ _ _ _ _ _ _ _ _ _ _ _ _ _ _ _ _ _ _ _ _ _ _ _ _ _
  ·clear hpt;by_cases s5:b.size<1
   ·have HX:=yq (hbad (by rw [hk,decide_eq_true s5];rfl));have z3:(b.size:Int)<1:=by omega
    clear hk hbad hgood;refine HK1.out _ _ ?_;apply wp_seq_k;intro K2 hK2;have HK2:=yq hK2;clear hK2
    go_wp2_with fail
    go_returns
    exact⟨by rw [HX.out];rfl,.of_below af⟩
   ·by_cases s6:4<b.size
    ·have HX:=yq (hbad (by rw [hk,decide_eq_true s6];simp));have z3:(4:Int)<(b.size:Int):=by omega
     clear hk hbad hgood;refine HK1.out _ _ ?_;apply wp_seq_k;intro K2 hK2;have HK2:=yq hK2;clear hK2
     go_wp2_with fail
     go_returns
     exact⟨by rw [HX.out];rfl,.of_below af⟩
    ·have HX:=yq (hgood xt);have z3:(b.size:Int)<=4:=by omega
     have z4:(1:Int)<=(b.size:Int):=by omega
     clear hk hbad hgood;refine HK1.out _ _ ?_;apply wp_seq_k;intro K2 hK2;have HK2:=yq hK2;clear hK2
     go_wp2_with fail
     refine HK2.out _ _ ?_;rw [HX.out];exact AB a b m w bs _ ze ze _ _ _ _ _ _ _ _ _ _ _ _ _ _ _ _ _ _ _ _ _ _ _ _ _ _ _ _ _ _ _ _ _ _ _ _ _ _ _ _ _ _ _ _ _ _ _ _ _ _ _ _ _ _ _ _ _ _ _ _ _ _ _ _ _ _ _ _ _ _ _ _ _ _ _ _ _ _ _ _ _ _ _ _ _ _ _ _ _ _ _ _ _ _ _ _ _ _ _ _ _ _ _ _ _ _ _ _ _ _ _ _ _ _ _ _ _ _ _ _ _ _ _ _ _ _ _ _ _ _ _ _ _ _ _ _ _ _
theorem PG(t:ByteArray)(m:Int):Rb t m=PE (Lib.cut t.data.toList [46]).1 (Lib.cut t.data.toList [46]).2.1 (Lib.cut t.data.toList [46]).2.2 m:=by
 unfold Rb rG Jo PE pG nG oq;simp [ByteArray.size]
theorem oO{s t:ByteArray}{m:Int}(h:jX s.data.toList=(t.data.toList,m)):qN s.data.toList=Rb t m:=by
 unfold qN;rw [h,PG]
theorem OQ{s:ByteArray}{n:Nat}(h:s.size=n+1):s.data.toList.getLast? =some (s[n]' ze):=by
 have h3:s.data.toList.length=s.size:=by simp
 have h2:s.data.toList≠[]:=by
  intro e;rw [e]at h3;simp at h3;omega
 rw [getLast?_eq_some_getLast h2,getLast_eq_getElem]
 congr 1
 have e:s.data.toList.length-1=n:=by omega
 simp only [e];rfl
theorem Je{s:ByteArray}{n:Nat}(h:s.size=n+1):(s.extract 0 n).data.toList=s.data.toList.dropLast:=by
 rw [ByteArray.data_extract,Array.toList_extract];have h3:s.data.toList.length=s.size:=by simp
 simp only [List.extract,drop_zero,Nat.sub_zero,dropLast_eq_take]
 congr 1
 omega
theorem lC(s:ByteArray)(w:World)(hs:s.size<=maxLen):Calls prog 191 #[.string s] w fun e w'=>e= .returned (mF (qN s.data.toList))/\w.Grows w':=by
 by_cases h0:0<s.size
 ·obtain⟨n,hn⟩:∃n,s.size=n+1:=⟨s.size-1,by omega⟩;have hl:=OQ hn;have hd:=Je hn;have hm:s.size<=9223372036854775807:=by unfold maxLen at hs;omega
  have he:(s.extract 0 n).size<=maxLen:=by rw [ByteArray.size_extract];omega
  have hlt:n<s.size:=by omega
  obtain⟨c,hc⟩:∃c,s[n]'hlt=c:=⟨_,rfl⟩;rw [hc]at hl;have hN:(s.size:Int)=(n:Int)+1:=by omega
  by_cases c3:c=100
  ·have HF:Hid (qN s.data.toList=AC (pG (s.extract 0 n)) (nG (s.extract 0 n)) (oq (s.extract 0 n)) 3):=yq (oO (by unfold jX;rw [hl,c3,if_pos rfl,hd]));have HE:=yq he;have q1:((c.toNat:Int)==100)=true:=by rw [c3];rfl
   clear he hl hd c3 hs;exact vz9
  ·by_cases c4:c=109
   focus
    have HF:Hid (qN s.data.toList=AC (pG (s.extract 0 n)) (nG (s.extract 0 n)) (oq (s.extract 0 n)) 4):=yq (oO (by unfold jX;rw [hl,c4,if_neg zo,if_pos rfl,hd]));have HE:=yq he;have q1:((c.toNat:Int)==100)=false:=by rw [c4];rfl
    have q2:((c.toNat:Int)==109)=true:=by rw [c4];rfl
   rotate_left
   focus
    have HF:Hid (qN s.data.toList=AC (pG s) (nG s) (oq s) 2):=yq (oO (by unfold jX;rw [hl,if_neg (by simpa using c3),if_neg (by simpa using c4)]));have HE:=yq hs
    have q1:((c.toNat:Int)==100)=false:=by
     rw [beq_eq_false_iff_ne];intro k;exact c3 (UInt8.toNat_inj.1 (by have:(100:UInt8).toNat=100:=rfl;omega))
    have q2:((c.toNat:Int)==109)=false:=by
     rw [beq_eq_false_iff_ne];intro k;exact c4 (UInt8.toNat_inj.1 (by have:(109:UInt8).toNat=109:=rfl;omega))
   rotate_left
   all_goals
    clear he hl hd c3 c4 hs;exact vz9
 ·have h1:s.data.toList= []:=by
   have h3:s.data.toList.length=s.size:=by simp
   exact eq_nil_of_length_eq_zero ze
  have HF:Hid (qN s.data.toList=AC (pG s) (nG s) (oq s) 2):=yq (oO (by rw [h1];rfl));have HE:=yq hs;have hN:(s.size:Int)=0:=by omega
  clear h1 hs;exact vz9
def jS(n d m:Int)(w:World)(e:Ending)(w':World):Prop:=∃s,e= .returned (.tuple #[.string s,.bool (dG n d m)])/\(dG n d m=true->s.data.toList=Gt n d m)/\w.Grows w'
theorem jS.no{n d m:Int}{w w':World}(h:dG n d m=false)(hw:w.Grows w'):jS n d m w (.returned (.tuple #[.string ⟨#[]⟩,.bool false])) w':=
 ⟨⟨#[]⟩,by rw [h],fun k=>(by rw [h]at k;cases k),hw⟩
theorem jS.yes{n d m:Int}{w w':World}{s:ByteArray}(h:dG n d m=true)(hs:s.data.toList=Gt n d m)(hw:w.Grows w'):jS n d m w (.returned (.tuple #[.string s,.bool true])) w':=
 ⟨s,by rw [h],fun _=>hs,hw⟩
def su(n d:Int)(k:Nat)(l:List Int)(r:Int)(s:ByteArray):Prop:=
 gF d 4 (n % d)=(gF d (4-k) r).map (l++ ·)/\l.length=k/\s.data.toList=Lib.decDigits (n / d).toNat++mD l
theorem Jf{l:List Int}(h:l≠[])(x:Int):mD (l++[x])=mD l++[dgB x]:=by
 unfold mD;rw [if_neg h,if_neg zg];simp
theorem Ma(x:Int):mD [x]= [46,dgB x]:=by unfold mD;rw [if_neg zg];rfl
theorem Fa{x:Int}(h0:0<=x)(h1:x<=9):Lib.decDigits x.toNat= [dgB x]:=by
 rw [Lib.decDigits,dif_pos ze];rfl
theorem mG(a b:ByteArray):(a++b).data.toList=a.data.toList++b.data.toList:=by
 rw [ByteArray.data_append,Array.toList_append]
theorem xK{d:Int}{f:Nat}{r:Int}(h:0<r):gF d (f+1) r=(gF d f (r*10 % d)).map fun l=>r*10 / d::l:=by
 rw [gF,if_neg ze]
theorem su.first{n d r:Int}{s:ByteArray}(h:su n d 0 [] r s)(hr:0<r)(h0:0<=r*10 / d)(h1:r*10 / d<=9):su n d 1 [r*10 / d] (r*10 % d) (s++⟨#[46]⟩++⟨(Lib.decDigits (r*10 / d).toNat).toArray⟩):=by
 obtain⟨a,-,c⟩:=h;refine⟨?_,rfl, ?_⟩
 ·rw [a,show 4-0=3+1 by rfl,xK hr];cases gF d 3 (r*10 % d)<;>rfl
 ·rw [mG,mG,c,Fa h0 h1,Ma];simp [mD]
theorem su.more{n d r:Int}{s:ByteArray}{k:Nat}{l:List Int}(h:su n d k l r s)(hk:0<k)(hk4:k<4)(hr:0<r)(h0:0<=r*10 / d)(h1:r*10 / d<=9) :
 su n d (k+1) (l++[r*10 / d]) (r*10 % d) (s++⟨(Lib.decDigits (r*10 / d).toNat).toArray⟩):=by
 obtain⟨a,b,c⟩:=h;refine⟨?_,by simp [b], ?_⟩
 ·rw [a,show 4-k=(4-(k+1))+1 by omega,xK hr];cases gF d (4-(k+1)) (r*10 % d)<;>simp
 ·rw [mG,c,Fa h0 h1,Jf (by intro e;rw [e]at b;simp at b;omega),append_assoc]
theorem su.none4{n d r:Int}{s:ByteArray}{l:List Int}(h:su n d 4 l r s)(hr:0<r):gF d 4 (n % d)=none:=by
 rw [h.1];show(gF d 0 r).map _=none;rw [gF,if_neg ze];rfl
theorem su.some{n d r:Int}{s:ByteArray}{k:Nat}{l:List Int}(h:su n d k l r s)(hr:r<=0):gF d 4 (n % d)=some l:=by
 rw [h.1]
 have:gF d (4-k) r=Option.some []:=by
  cases 4-k with
  |zero=>rw [gF,if_pos hr]
  |succ f=>rw [gF,if_pos hr]
 rw [this];simp
theorem AA{s:ByteArray}{n d m:Int}{l:List Int}(h1:1<=d)(h2:d<=10000)(h3:0<=n)(h4:n<=1000000000000000)(hf:gF d 4 (n % d)=some l)(hs:s.data.toList=Lib.decDigits (n / d).toNat++mD l++Aa m) :
 (qN s.data.toList=none/\dG n d m=false)\/∃a b c,qN s.data.toList=some (a,b,c)/\((a=n/\b=d/\c=m/\dG n d m=true/\s.data.toList=Gt n d m)\/(a≠n/\dG n d m=false)\/(b≠d/\dG n d m=false)\/(c≠m/\dG n d m=false)):=by
 have hr:=Jq (m:=m) h1 h2 h3 h4 hf;rw [<-hs]at hr
 cases hd:qN s.data.toList with
 |none=>
  left;refine⟨rfl, ?_⟩;rw [Bool.eq_false_iff];intro k;have:=hr.2 k;rw [hd]at this;cases this
 |some t=>
  right;obtain⟨a,b,c⟩:=t;refine⟨a,b,c,rfl, ?_⟩;by_cases e1:a=n
  ·by_cases e2:b=d
   ·by_cases e3:c=m
    ·left;refine⟨e1,e2,e3,hr.1 (by rw [hd,e1,e2,e3]), ?_⟩;unfold Gt;rw [hf];exact hs
    ·right;right;right;refine⟨e3, ?_⟩;rw [Bool.eq_false_iff];intro k;have:=hr.2 k;rw [hd]at this;simp only [Option.some.injEq,Prod.mk.injEq]at this;exact e3 this.2.2
   ·right;right;left;refine⟨e2, ?_⟩;rw [Bool.eq_false_iff];intro k;have:=hr.2 k;rw [hd]at this;simp only [Option.some.injEq,Prod.mk.injEq]at this;exact e2 this.2.1
  ·right;left;refine⟨e1, ?_⟩;rw [Bool.eq_false_iff];intro k;have:=hr.2 k;rw [hd]at this;simp only [Option.some.injEq,Prod.mk.injEq]at this;exact e1 this.1
theorem oG(n d m:Int)(w:World)(h1:I64 n)(h2:I64 d)(h3:I64 m)(ht:Tab w):Calls prog 181 #[.agg #[.int .i64 n,.int .i64 d],.int .i64 m] w (jS n d m w):=by
 unfold I64 at h1 h2 h3;by_cases c1:d<1
 ·exact M7
 by_cases c2:10000<d
 ·exact M7
 by_cases c3:n<0
 ·exact M7
 by_cases c4:(1000000000000000:Int)<n
 ·exact M7
 have d0:1<=d:=by omega
 have d1:d<=10000:=by omega
 have n0:0<=n:=by omega
 have n1:n<=1000000000000000:=by omega
 clear c1 c2 c3 c4;have hq0:0<=n / d:=Int.ediv_nonneg n0 ze;have hq1:n / d<=n:=Int.ediv_le_self _ n0;have hr0:0<=n % d:=Int.emod_nonneg _ ze;have hr1:n % d<d:=Int.emod_lt_of_pos _ ze;have et:n.tdiv d=n / d:=Int.tdiv_eq_ediv_of_nonneg n0;have em:n.tmod d=n % d:=Int.tmod_eq_emod_of_nonneg n0;have dz:(d==0)=false:=by simp;omega
 have HT:=yq ht;have hi:Lib.itoa (n / d)=Lib.decDigits (n / d).toNat:=by unfold Lib.itoa;rw [if_neg ze]
 have HI:Hid (∀w,Tab w->Calls prog 190 #[.int .i64 (n / d)] w fun e w'=>e= .returned (.string ⟨(Lib.decDigits (n / d).toNat).toArray⟩)/\w.Grows w'):=yq (fun w h=>by
  have:=MV (n / d) ze ze w h
  rwa [hi]at this)
 have HS0:Hid (su n d 0 [] (n % d) ⟨(Lib.decDigits (n / d).toNat).toArray⟩):=yq ⟨by show _=(gF d 4 (n % d)).map _;simp,rfl,by simp [mD]⟩
 have HZ0:Hid ((⟨(Lib.decDigits (n / d).toNat).toArray⟩:ByteArray).size<=20):=yq (by
  show(Lib.decDigits (n / d).toNat).toArray.size<=20;rw [size_toArray,Lib.decDigits_length]
  exact Lib.nDigits_le20 _ ze)
 clear hi ht;generalize(⟨(Lib.decDigits (n / d).toNat).toArray⟩:ByteArray)=s0 at *
 go_enter func181,ntmps181
 go_wp2_with (go_at_call 190;(with_reducible refine gvq (HI.out _ (HT.out.alloc _)) ?_);intro bs dr)
 go_loopw [6,7,8] (fun v6 v7 v8 wr=>∃k:Nat,∃l:List Int,∃r:Int,∃s:ByteArray,k<=4/\v8= .int .i64 k/\v7= .int .i64 r/\v6= .string s/\0<=r/\r<d/\(s.size:Int)<=30+10*k/\Hid (su n d k l r s)/\
  World.Grows (w.alloc (.cells #[.int .i64 n,.int .i64 d] 39)) wr) (fun _ _ v8 _=>5-(intOf v8).toNat)
 case atStart=>exact⟨0,[],_,_,by omega,rfl,rfl,rfl,hr0,hr1,by have:=HZ0.out;omega,HS0,.of_below af⟩
 case round=>
  obtain⟨k,l,r,s,hk,rfl,rfl,rfl,r0,r1,hsz,HF,bs3,dr3,rfl⟩:=hrel;clear HI;by_cases hp:0<r
  ·have x0:0<=r*10 / d:=Int.ediv_nonneg ze ze
   have x1:r*10 / d<=9:=by
    have:r*10 / d<10:=Int.ediv_lt_of_lt_mul ze ze;omega
   have x2:0<=r*10 % d:=Int.emod_nonneg _ ze;have x3:r*10 % d<d:=Int.emod_lt_of_pos _ ze;have x4:(r*10).tdiv d=r*10 / d:=Int.tdiv_eq_ediv_of_nonneg ze;have x5:(r*10).tmod d=r*10 % d:=Int.tmod_eq_emod_of_nonneg ze;have HX:Hid _:=yq (fun w=>Fx (r*10 / d) x0 x1 w);have HXB:=yq (And.intro x0 x1);obtain⟨s9,hs9⟩:∃s9,(⟨(Lib.decDigits (r*10 / d).toNat).toArray⟩:ByteArray)=s9:=⟨_,rfl⟩;have hz9:s9.size=1:=by rw [<-hs9,Fa x0 x1];rfl
   rw [hs9]at HX;have HS9:=yq hs9;clear hs9;by_cases k0:k=0
   ·subst k0;have hl:l= []:=eq_nil_of_length_eq_zero HF.out.2.1;subst hl
    go_wp2_with (go_at_call 190;(with_reducible refine gw (HX.out _) ?_))
    go_roundw
    case rel=>exact⟨1,_,_,_,by omega,rfl,rfl,rfl,x2,x3,by
     rw [ByteArray.size_append,ByteArray.size_append,hz9];show((s.size+1+1:Nat):Int)<=_
     simp at hsz ⊢;omega,yq (by rw [<-HS9.out];exact HF.out.first hp HXB.out.1 HXB.out.2),.of_below af⟩
    case measure=>simp [intOf]
   ·by_cases k4:k=4
    ·subst k4;have HN:=yq (Jr (m:=m) d0 d1 n0 n1 (HF.out.none4 hp))
     go_wp2_with fail
     go_returns
     exact jS.no HN.out (.of_below af)
    ·have kz:((k:Int)==0)=false:=by simp;omega
     have k44:((k:Int)==4)=false:=by simp;omega
     go_wp2_with (go_at_call 190;(with_reducible refine gw (HX.out _) ?_))
     go_roundw
     case rel=>exact⟨k+1,_,_,_,by omega,by go_num,rfl,rfl,x2,x3,by
      rw [ByteArray.size_append,hz9];omega,yq (by rw [<-HS9.out];exact HF.out.more ze ze hp HXB.out.1 HXB.out.2),.of_below af⟩
     case measure=>simp [intOf];omega
  ·clear HS0 HZ0;have hsz2:(s.size:Int)<=70:=by omega
   by_cases m3:m=3
   ·subst m3;have HDEC:=yq (AA (m:=3) (s:=s++⟨#[100]⟩) d0 d1 n0 n1 (HF.out.some ze) (by rw [mG,HF.out.2.2];try rfl));have HD:Hid _:=yq (fun w=>lC (s++⟨#[100]⟩) w xo);clear HF;rcases HDEC.out with ⟨hn,hno⟩|⟨a,b,c,hs,⟨rfl,rfl,rfl,hy,ht⟩|⟨h1,hno⟩|⟨h1,hno⟩|⟨h1,hno⟩⟩
    ·exact Qh
    ·exact Qo
    ·exact Qn
    ·exact Qm
    ·rw [hs]at HD;simp only [mF]at HD;have HO:=yq hno;have q1:(c==3)=false:=by simpa using h1
     exact M8
   ·by_cases m4:m=4
    ·subst m4;have HDEC:=yq (AA (m:=4) (s:=s++⟨#[109]⟩) d0 d1 n0 n1 (HF.out.some ze) (by rw [mG,HF.out.2.2];try rfl));have HD:Hid _:=yq (fun w=>lC (s++⟨#[109]⟩) w xo);clear HF;rcases HDEC.out with ⟨hn,hno⟩|⟨a,b,c,hs,⟨rfl,rfl,rfl,hy,ht⟩|⟨h1,hno⟩|⟨h1,hno⟩|⟨h1,hno⟩⟩
     ·exact Qh
     ·exact Qo
     ·exact Qn
     ·exact Qm
     ·rw [hs]at HD;simp only [mF]at HD;have HO:=yq hno;have q1:(c==4)=false:=by simpa using h1
      exact M8
    ·have y3:(m==3)=false:=by simpa using m3
     have y4:(m==4)=false:=by simpa using m4
     have hsuf:Aa m= []:=by unfold Aa;rw [if_neg m3,if_neg m4]
     have hap:s.data.toList=s.data.toList++Aa m:=by rw [hsuf,append_nil]
     have HAP:=yq hap;clear m3 m4 hsuf hap;have HDEC:=yq (AA (m:=m) (s:=s) d0 d1 n0 n1 (HF.out.some ze) (by rw [HAP.out,HF.out.2.2];try rfl));have HD:Hid _:=yq (fun w=>lC (s) w zD);clear HF;rcases HDEC.out with ⟨hn,hno⟩|⟨a,b,c,hs,⟨rfl,rfl,rfl,hy,ht⟩|⟨h1,hno⟩|⟨h1,hno⟩|⟨h1,hno⟩⟩
     ·exact Qh
     ·exact Qo
     ·exact Qn
     ·exact Qm
     ·rw [hs]at HD;simp only [mF]at HD;have HO:=yq hno;have q1:(c==m)=false:=by simpa using h1
      exact M8
theorem Ic(e:Ex)(a:Option Addr)(cap:Nat)(w:World)(hr:jW e)(ht:Tab w)(hle:(e.args.length:Int)=aU e.op)(ho:e.op=1):(Calls prog 167 #[exV e (.slice a e.args.length cap)] w fun r w'=>r= .returned (.bool (gM e))/\w.Grows w'):=by
 have HF:Hid (gM e=(dG e.num e.den e.dim&&e.name.toList.isEmpty)):=yq (by unfold gM;rw [decide_eq_true hle,Bool.true_and,if_pos ho]);obtain⟨on,od⟩:=hr.num;obtain⟨pn,pd⟩:=hr.den;have hsz:=hr.name;have hi:=yq (And.intro hr.num (And.intro hr.den hr.dim));clear hr;have HT:=yq ht;clear ht;have h1:((e.args.length:Int)!=aU 1)=false:=by rw [ho]at hle;simpa using hle
 clear hle;cases hd:dG e.num e.den e.dim
 all_goals
  have HD:Hid _:=yq (fun w (ht:Tab w)=>oG e.num e.den e.dim w hi.out.1 hi.out.2.1 hi.out.2.2 ht);unfold jS at HD;rw [hd]at HD HF;clear hd
  go_enter func167,ntmps167
  go_wp2_with fail
  go_quiet ((go_at_call 180;exact Calls.quiet_eq (jK _ _)))
  go_wp2_with (go_at_call 181;refine(HD.out _ ((HT.out.alloc _).drewN _)).mono ?_;rintro e' w' ⟨s,rfl,-,bs,d,rfl⟩)
  all_goals
   go_returns
   exact⟨au yC,.of_below af⟩
theorem FY:Gz:=fun e a cap w hr ht hle ho=>Ic e a cap w hr ht hle ho
theorem vz(S:Nat->Prop)(e:Ex)(v:Value)(w:World)(h:Hid (aB S w e v))(hbig:Hid (e.size<=2305843009213693952))(ht:Hid (Tab w)):Calls prog 140 #[exV e v] w fun r w'=>r= .returned (.bool (cB e))/\w.Grows w':=
 pQ S e v w h hbig ht (yq (.inl FY))
theorem vE(S:Nat->Prop)(env:List (ByteArray × Int))(e:Ex)(v ve:Value)(w:World)(h:aB S w e v)(hbig:e.size<=2305843009213693952)(ht:Tab w)(hv:aT w ve env) :
 Calls prog 118 #[exV e v,ve] w (jR (aR env e) w):=MW S env e v ve w h hbig ht hv (yq (.inl FY))
end Go.Proofs.YtcfpoofhokbhlaaGreatDoor
namespace Go
theorem eB{w w':World}(h:RowKit.Below w.heap.size w w':=by(try simp only [World.grow_grow,World.grow_drew,World.drew_grow,<-Array.append_assoc]);repeat' (first|(with_reducible exact Go.RowKit.Below.fin)|(with_reducible exact Go.RowKit.Below.refl _ _)|(with_reducible assumption)|(with_reducible refine Go.RowKit.Below.peel ?_ ?_)|(with_reducible refine Go.RowKit.Below.grow ?_ ?_ _ _)|(with_reducible refine Go.RowKit.Below.alloc ?_ ?_ _)|(with_reducible refine Go.RowKit.Below.drewN ?_ _)|(with_reducible refine Go.RowKit.Below.drew ?_)|(with_reducible refine Go.RowKit.Below.setCell ?_ ?_ _)|go_size)):w.Grows w':=.of_below h
end Go
namespace Go.Proofs.YtcfpoofhokbhlaaGreatDoor
open Go.Proofs.Tryz Tryz List
open Go.RowKit
theorem World.Grows.grown{W w w':World}{row:Option Nat}(h:W.Grows w)(hg:w.grownBy w' row)(hr:∀k,row=some k->W.heap.size<=k):W.Grows w':=.of_below (Below.grown h.below hg h.below.size hr)
open Go.RowKit Go.ChangeShapes Go.WideShapes Go.Deep
section
variable {H : Type} {enc : TypeId × Value -> H} {P : Program} {w : World}
def fits(P:Program)(t:TypeId)(d:DataW H):Prop:=∀n∈d.weights P t,n<=140737488351232

theorem Gv(b off i:Nat):(⟨b,off,none⟩:Addr).add i=⟨b,off+i,none⟩:=by unfold Addr.add;split<;>simp_all
theorem Gu{w:World}{b o:Nat}{v:Value}(h:w.cell? ⟨b,o,none⟩=some v):b<w.heap.size:=by
 rcases Nat.lt_or_ge b w.heap.size with h1|h1
 ·exact h1
 ·simp [World.cell?,Array.getElem?_eq_none h1]at h
theorem qC{n:Int}(h:(Lit.int .i64 n).wf=true):I64 n:=bounds_i64 h
theorem ax.of_cells{a:Option Addr}{len cap:Nat}{zs:List Int}(hl:len<=cap)(hz:zs.length=cap)(hw:∀n∈zs,(Lit.int .i64 n).wf=true)(hb:len<=140737488355328)(ha:a=none->len=0)
 (hc:∀x,a=some x->∀i,i<cap->w.cell? (x.add i)=some (.int .i64 (zs.getD i 0))):ax w (.slice a len cap) (zs.take len):=by
 have hlen:(zs.take len).length=len:=by rw [length_take];omega
 refine⟨by omega,fun z hz2=>qC (hw z (mem_of_mem_take hz2)),a,cap,by rw [hlen], ?_⟩;rw [hlen];by_cases h0:len=0
 ·exact .inl h0
 ·cases a with
  |none=>exact .inl (ha rfl)
  |some x=>
   obtain⟨b,off,spot⟩:=x;have h1:=hc _ rfl 0 ze;have hspot:spot=none:=by simpa [Addr.add]using World.cell?_spot h1
   subst hspot
   have h2:∀i,i<cap->w.cell? ⟨b,off+i,none⟩=some (.int .i64 (zs.getD i 0)):=fun i hi=>by
    rw [<-Gv];exact hc _ rfl i hi
   refine .inr ⟨b,off,rfl,Gu (h2 0 ze),fun i hi=>?_⟩;rw [h2 i ze];simp [getD_eq_getElem?_getD,hi]
theorem ax.of_trod{t e:TypeId}{fuel:Nat}{v:Value}{x:DataW H × List MemPlace}(ht:P.underlying t=some (.slice e))(he:P.underlying e=some (.int .i64))(hc:P.cellsOf e=1)(hb:P.bytesOf e=8)
 (h:DataW.trod enc P w 0 (fun _=>true) true fuel t [v]=some x) (hf:fits P t x.1):∃zs,ax w v zs:=by
 rcases open_ints ht he hc h with ⟨hcs,_⟩|⟨a,l,c,zs,hcs,_,hl,hm,hz,hx,hcell,hwz⟩
 ·simp at hcs;subst hcs;exact⟨[],by simp,by simp,none,0,rfl,.inl rfl⟩
 ·simp at hcs;subst hcs;simp only [if_true]at hz
  have h8:l<=140737488355328:=by
   have h9:=hf ((l+(c-l))*8) (by rw [hx];simp [DataW.weights,ht,lits,hb,hz,Nat.min_eq_left hl]);omega
  exact⟨zs.take l,ax.of_cells hl hz hwz h8 (fun e=>by cases e) fun x' hx' i hi=>by cases hx';exact hcell i ze⟩
end
theorem c3:(prog).cellsOf 3=1:=by kernel_rfl
theorem c22:(prog).cellsOf 22=1:=by kernel_rfl
theorem b3:(prog).bytesOf 3=8:=by kernel_rfl
theorem b22:(prog).bytesOf 22=24:=by kernel_rfl
theorem gP{H:Type}{P:Program}{t:TypeId}{fs:Array Field}{l:List (DataW H)}{i:Nat}{f:Field}{d:DataW H}(ht:P.underlying t=some (.struct fs))(h:fits P t (.agg l))(hf:fs[i]? =some f)(hd:l[i]? =some d):fits P f.type d:=by
 intro n hn;refine h n ?_;simp only [DataW.weights,ht];exact DataW.weights_mem_each (j:=i) (by simp [hf]) hd n hn
theorem eH{H:Type}{enc:TypeId × Value->H}{w:World}{fuel:Nat}{v:Value}{x:DataW H × List MemPlace}(h:DataW.trod enc prog w 0 (fun _=>true) true fuel 3 [v]=some x):∃n,v= .int .i64 n/\I64 n:=by
 obtain⟨n,hcs,_,hw⟩:=DataW.trod_int underlying3 h;exact⟨n,by simpa using hcs,qC hw⟩
open Go.ChangeShapes Go.WideShapes Go.ChangeAt Go.RowKit
abbrev iX:List (String × DataW Unit):=[("math/bits.deBruijn32tab",Rows.laid_math_bits_deBruijn32tab),("math/bits.deBruijn64tab",Rows.laid_math_bits_deBruijn64tab),("internal/strconv.uint64pow10",Rows.laid_internal_strconv_uint64pow10)]
theorem D9:(Rows.laid_internal_strconv_uint64pow10:DataW Unit)=Lib.tabData .u64 Lib.pow10Tab:=by kernel_rfl
theorem BO{W:World}(h:laidMetH prog iX W):laidMet prog iX W:=by
 rwa [MakeChecks.laidMetH_plain _ _ _ zf]at h
theorem nO{H:Type}{enc:TypeId × Value->H}{P:Program}{W W':World}(hl:laidOutB P=true)(hb:Below W.heap.size W W'):∀(ts:List TypeId) (vs:List Value) (ds:List (DataW H)) (ps:List MemPlace),(∀t∈ts,P.readableRec t=true/\t<P.types.size)->
 DataW.TrodAll enc P W 0 (fun _=>true) true ts vs ds ps->(∀x∈ps,x.block<W.heap.size)->DataW.TrodAll enc P W' 0 (fun b=>decide (b<W.heap.size)) true ts vs ds ps
 | [],[],[],_,_,h,_=>h
 |t::ts,v::vs,d::ds,ps,hr,h,hlt=>by
  obtain⟨p,q,h1,h2,rfl⟩:=h
  exact⟨p,q,Below.trod hl (hr t mem_cons_self).1 (hr t mem_cons_self).2 h1 hb fun x hx=>hlt x (mem_append_left _ hx),
   nO hl hb ts vs ds q (fun t ht=>hr t (mem_cons_of_mem _ ht)) h2 fun x hx=>hlt x (mem_append_right _ hx),rfl⟩
 | [],_::_,_,_,_,h,_=>h.elim
 | [],[],_::_,_,_,h,_=>h.elim
 |_::_,[],_,_,_,h,_=>h.elim
 |_::_,_::_,[],_,_,h,_=>h.elim
def GA{H:Type}(enc:TypeId × Value->H)(P:Program)(f:FuncId)(ts:List TypeId):Prop:=
 ∀(W:World) (base:Nat) (args:Array Value) (ds:List (DataW H)) (p:List MemPlace),laidMetH P iX W->(∀(j:Nat) t v,ts[j]? =some t->args[j]? =some v->Value.okWide P W .any base t v)->
  DataW.TrodAll enc P W 0 (fun _=>true) true ts args.toList ds p->(∀(j:Nat) t d,ts[j]? =some t->ds[j]? =some d->fits P t d)->
  Calls P f args W fun e W'=>e= .returned (.bool true)/\Below W.heap.size W W'
theorem Lg{H:Type}{enc:TypeId × Value->H}{P:Program}{fn:Func}{s:ChangeSpec}{W W':World}{args:Array Value}{ds gs:List (DataW H)}{before:List MemPlace}(hl:laidOutB P=true)
 (hr:fn.params.toList.all (fun t=>P.readableRec t&&decide (t<P.types.size))=true) (hres:fn.resultTypes=#[4]) (hu:P.underlying 4=some .bool) (hvars:s.vars= [])
 (hspec:∀ds:List (DataW H),ds.length=fn.params.size->s.fn H (ds++[])= {results:=[.lit (.bool true)],args:=ds})
 (hW:DataW.Whole enc P fn.params.toList s.vars false W args.toList ds gs before) (hb:Below W.heap.size W W'):s.post enc P fn false true false false W args (.bool true) W':=by
 have hW':=hW;obtain⟨p,q,hA,hV,rfl,hfz,hnd⟩:=hW;rw [hvars]at hV;obtain⟨rfl,rfl⟩:=trodVars_none hV
 have hlen:∀(ts:List TypeId) (vs:List Value) (ds:List (DataW H)) (ps:List MemPlace),DataW.TrodAll enc P W 0 (fun _=>true) true ts vs ds ps->ds.length=ts.length:=by
  intro ts
  induction ts with
  |nil=>intro vs ds ps h;cases vs<;>cases ds<;>simp_all [DataW.TrodAll]
  |cons t ts ih=>
   intro vs ds ps h
   cases vs with
   |nil=>exact h.elim
   |cons v vs=>
    cases ds with
    |nil=>exact h.elim
    |cons d ds=>
     obtain⟨_,_,_,h2,_⟩:=h;simp [ih _ _ _ h2]
 have hds:ds.length=fn.params.size:=by rw [hlen _ _ _ _ hA];simp
 have hs:=hspec ds hds;have hlt:∀x∈p,x.block<W.heap.size:=fun x hx=>by have:=hW'.lt x (by simpa using hx);simpa using this
 refine⟨ds,[],p++[],[],p,[],hW', ?_, ?_, ?_,hb.frame _,fun h=>by cases h⟩
 ·rw [hs,hres];exact trodAll_mk1 (shut_bool hu _)
 ·rw [hs];refine nO hl hb _ _ _ _ (fun t ht=>?_) hA hlt;have:=all_eq_true.1 hr t ht;simpa using this
 ·rw [hs,hvars];rfl
theorem Lh{H:Type}{enc:TypeId × Value->H}{C:Checked}{os:Os}{f:FuncId}{fn:Func}{s:ChangeSpec}{conds:List PathCond}(own:ownKnob C.prog.godebug=none)(started:os.Started)(noInit:C.prog.inits.idxOf? f=none)(hfn:C.prog.funcs[f]? =some fn)
 (witness:∃(w:World) (tape:Tape) (i:Input),w.os=os/\(w.forCall tape i).Shaped C.prog/\i.vars= []/\Input.okWide C.prog (w.forCall tape i) .any w.heap.size f i/\
  ((s.pre enc C.prog fn conds false (w.forCall tape i).memory i.args/\laidMetH C.prog iX (w.forCall tape i).memory)/\sizedMet enc C.prog fn (OpenSpec.ofChange s) false (w.forCall tape i).memory i.args)/\({}:Assume).holds C.prog (lone (Frame.enter C.prog f i.args .normal) [] (w.forCall tape i)))
 (hl:laidOutB C.prog=true) (hr:fn.params.toList.all (fun t=>C.prog.readableRec t&&decide (t<C.prog.types.size))=true) (hres:fn.resultTypes=#[4]) (hu:C.prog.underlying 4=some .bool) (hvars:s.vars= [])
 (hspec:∀ds:List (DataW H),ds.length=fn.params.size->s.fn H (ds++[])= {results:=[.lit (.bool true)],args:=ds}) (walk:GA enc C.prog f fn.params.toList) :
 ReturnsInHanded {} C os f .any (fun w args=>(s.pre enc C.prog fn conds false w args/\laidMetH C.prog iX w)/\sizedMet enc C.prog fn (OpenSpec.ofChange s) false w args) (s.post enc C.prog fn false true false false):=by
 refine returnsInHanded_of_change_and (C:=C) (X:=fun w _=>laidMetH C.prog iX w) (fun _ _ _ hh h=>h.of_heap hh) own started noInit hfn witness ?_;intro W base args ds gs before hval hW _ hsz hL _;have hW':=hW;obtain⟨p,q,hA,hV,rfl,hfz,hnd⟩:=hW;have e:s.vars= []:=hvars;rw [e]at hV;obtain⟨rfl,rfl⟩:=trodVars_none hV;refine(walk W base args ds p hL (fun j t v ht ha=>hval j t v (by simpa using ht) ha) hA (fun j t d ht hd n hn=>?_)).mono fun e W' ⟨he,hb⟩=>⟨_,he,Lg hl hr hres hu hvars hspec hW' hb⟩;have:=all_eq_true.1 hsz n (DataW.weights_mem_each (j:=j) (by rw [getElem?_append_left (List.getElem?_eq_some_iff.1 ht).1];exact ht) (by rw [append_nil];exact hd) n hn);exact of_decide_eq_true this
theorem own:ownKnob prog.godebug=none:=by kernel_rfl
theorem laidOut:laidOutB prog=true:=by kernel_rfl
theorem Ll(os:Os)(args:Array Value):laidMetH prog iX ((World.laidAll prog os iX).forCall (fun _ _=>0) ⟨#[],args,[]⟩).memory:=by
 rw [MakeChecks.laidMetH_plain _ _ _ zf];exact laidMet_laidAll args zf zf
theorem Bi{W:World}(h:laidMetH prog iX W):Tab W:=by
 have h2:=(BO h).tail.tail;rw [D9]at h2;exact Lib.tabIs_of_head (P:=prog) (g:=2) (t:=244) (n:=20) (e:=88) zf zf zf zf zf zf h2
end Go.Proofs.YtcfpoofhokbhlaaGreatDoor
